import Derived.Test.YtonmkjcilepdcaaGreatDoorEvJ
import Derived.LoopN
/- The evaluator: regions in their order; codes. -/
noncomputable section
namespace Go.Proofs.YtonmkjcilepdcaaGreatDoor
open Go.RowKit
set_option maxRecDepth 20000
set_option maxHeartbeats 4000000

def wantedS (ops : Array Oper) (E : SE) : Option (Nat × Bool) → Option Bool
  | none => some true
  | some (j, want) =>
    match (ops[j]?).bind (·.dst) with
    | some d => match E.get d with
      | some (.k (.bool b)) => some (b == want)
      | some (.k (.tuple _)) => some false
      | _ => none
    | none => none
theorem wantedS_E {σ : Nm} {ops : Array Oper} {E : SE} {g : Option (Nat × Bool)} {b : Bool} (h : wantedS ops E g = some b) : wantedE ops (denE σ E) g = some b := by
  unfold wantedS at h
  unfold wantedE
  split at h
  · exact h
  · rename_i j want
    split at h
    · rename_i d hd
      simp only [hd]
      split at h
      · rename_i c hc
        rw [denE_get, hc]
        simpa [den] using h
      · rename_i c hc
        rw [denE_get, hc]
        simpa [den] using h
      · cases h
    · cases h
/-- The names keep what they are. -/
def stayB (E : SE) (H H2 : SH) : Bool := Nat.ble (lenL H) (lenL H2) && (Nat.beq (lenL H) (lenL H2) || bndE (lenL H) E)
theorem stayB_le {E : SE} {H H2 : SH} (h : stayB E H H2 = true) : H.length ≤ H2.length := by
  simp only [stayB, lenL_eq, Bool.and_eq_true, Nat.ble_eq] at h
  exact h.1
theorem stayB_den {E : SE} {H H2 : SH} (h : stayB E H H2 = true) {σ σ' : Nm} (hag : agree H.length H2.length σ σ') : denE σ' E = denE σ E := by
  simp only [stayB, lenL_eq, Bool.and_eq_true, Bool.or_eq_true, Nat.ble_eq, Nat.beq_eq] at h
  rcases h.2 with h2 | h2
  · have : σ' = σ := by funext n; exact hag n (by omega)
    rw [this]
  · exact denE_bnd hag.lt h2
/-- .. on the way. -/
def wantedT (ops : Array Oper) (E : SE) (g : Option (Nat × Bool)) (T : Th) : Ans (Bool × Th) :=
  match g with
  | none => .ok (true, T)
  | some (j, want) =>
    match (ops[j]?).bind (·.dst) with
    | some d => match E.get d with
      | some (.k (.bool b)) => (testT b T).bind fun r => .ok (r.1 == want, r.2)
      | some (.k (.tuple _)) => .ok (false, T)
      | _ => .no 14
    | none => .no 14
theorem wantedT_ok {ops : Array Oper} {E : SE} {g : Option (Nat × Bool)} {T T2 : Th} {r : Bool} (h : wantedT ops E g T = .ok (r, T2)) (hT : AllP T2.obl) : wantedS ops E g = some r ∧ AllP T.obl := by
  cases g with
  | none => cases h; exact ⟨rfl, hT⟩
  | some p =>
    obtain ⟨j, want⟩ := p
    simp only [wantedT] at h
    simp only [wantedS]
    cases hd : (ops[j]?).bind (·.dst) with
    | none => rw [hd] at h; cases h
    | some d =>
      rw [hd] at h
      simp only at h ⊢
      split at h
      · rename_i b hb
        obtain ⟨⟨c, T3⟩, h1, h2⟩ := Ans.bind_ok.1 h
        cases h2
        obtain ⟨rfl, h3⟩ := testT_ok h1 hT
        exact ⟨rfl, h3⟩
      · rename_i c hc
        cases h
        exact ⟨rfl, hT⟩
      · cases h
def evOps (P : Program) (rec : Rec) (n : Nat) (ops : Array Oper) : List Oper → SE → SH → Th → Ans (SE × SH × Th)
  | [], E, H, T => .ok (E, H, T)
  | o :: rest, E, H, T =>
    (wantedT ops E o.guard T).bind fun q => match q.1 with
    | true => (stepS P rec E H o q.2).bind fun r => if fitsN n o.dst && stayB E H r.2.1 then forceSH r.2.1 r.1 fun v' => headE (putO o.dst v' E) fun E' => forceTh r.2.2 fun T' => evOps P rec n ops rest E' r.2.1 T' else .no 15
    | false => if fitsN n o.dst then headE (putO o.dst (.k undef) E) fun E' => forceTh q.2 fun T' => evOps P rec n ops rest E' H T' else .no 15
theorem evOps_ok {P : Program} {rec : Rec} (hrec : RecOk P rec) {n : Nat} {ops : Array Oper} : ∀ {l : List Oper} {E E2 : SE} {H H2 : SH} {T T2 : Th}, evOps P rec n ops l E H T = .ok (E2, H2, T2) → AllP T2.obl →
    AllP T.obl ∧ H.length ≤ H2.length ∧ ∀ (C : Ctx), Fit P rec.base C → ∀ (σ : Nm) (a : Act) (w : World) (M : Hp) (Q : Exit → Act → World → Prop), Rel n (denE σ E) a → St C (denH σ H ++ M) w →
      (∀ σ' a' w', agree H.length H2.length σ σ' → Rel n (denE σ' E2) a' → St C (denH σ' H2 ++ M) w' → Q .normal a' w') → wpList P ops Q l a w
  | [], E, E2, H, H2, T, T2, h, hT => by
    simp only [evOps, Ans.ok.injEq, Prod.mk.injEq] at h
    obtain ⟨rfl, rfl, rfl⟩ := h
    exact ⟨hT, Nat.le_refl _, fun C _ σ a w M Q hr hs hq => hq σ a w (agree.refl _ _) hr hs⟩
  | o :: rest, E, E2, H, H2, T, T2, h, hT => by
    simp only [evOps] at h
    obtain ⟨⟨q, T0⟩, hw, h⟩ := Ans.bind_ok.1 h
    split at h
    · rename_i hq1
      try simp only at hq1
      subst hq1
      obtain ⟨⟨v, H1, T1⟩, hst, h⟩ := Ans.bind_ok.1 h
      split at h
      · rename_i hc
        simp only [forceSH_eq, forceTh_eq, headE_eq] at h
        simp only [Bool.and_eq_true] at hc
        have hle := stayB_le hc.2
        obtain ⟨hT1, hle2, ih⟩ := evOps_ok hrec h hT
        obtain ⟨hT0, hok⟩ := stepS_ok hrec hst hT1
        obtain ⟨hws, hTT⟩ := wantedT_ok hw hT0
        refine ⟨hTT, Nat.le_trans hle hle2, fun C hC σ a w M Q hr hs hq => ?_⟩
        obtain ⟨rfl, hbase⟩ := hC
        unfold wpList
        rw [wantedE_spec hr (wantedS_E hws), if_pos rfl]
        refine .inl ?_
        have hok := hok ⟨C.P, n, C.FB, C.w0⟩ ⟨rfl, hbase⟩ σ a w M hr (hs.reC n)
        refine hok.wp ?_
        rintro u w' ⟨σ', hag, rfl, hs'⟩
        have hE := stayB_den hc.2 hag
        have hr' : Rel n (denE σ' E) a := by rw [hE]; exact hr
        exact ih C ⟨rfl, hbase⟩ σ' _ w' M Q (hr'.putO hc.1 v) (hs'.reC C.n) fun σ2 a2 w2 hag2 hr2 hs2 => hq σ2 a2 w2 (hag.trans hag2 hle hle2) hr2 hs2
      · cases h
    · rename_i hq1
      try simp only at hq1
      subst hq1
      split at h
      · rename_i hc
        simp only [headE_eq, forceTh_eq] at h
        obtain ⟨hT0, hle2, ih⟩ := evOps_ok hrec h hT
        obtain ⟨hws, hTT⟩ := wantedT_ok hw hT0
        refine ⟨hTT, hle2, fun C hC σ a w M Q hr hs hq => ?_⟩
        unfold wpList
        rw [wantedE_spec hr (wantedS_E hws)]
        simp only [Bool.false_eq_true, if_false]
        have := hr.putO hc (.k undef)
        rw [den] at this
        exact ih C hC σ _ w M Q this hs hq
      · cases h
/-- What a region that draws its order is evaluated by. -/
abbrev Dr := Rec → Nat → Array Oper → SE → SH → Th → Ans (SE × SH × Th)
def RegOk (P : Program) (B : World) (n : Nat) (ops : Array Oper) (E : SE) (H : SH) (E2 : SE) (H2 : SH) : Prop := ∀ id, CodeOk P B n (.region id ops true) E H .normal E2 H2
def DrOk (P : Program) (dr : Dr) : Prop := ∀ rec, RecOk P rec → ∀ n ops E H T E2 H2 T2, dr rec n ops E H T = .ok (E2, H2, T2) → AllP T2.obl → AllP T.obl ∧ RegOk P rec.base n ops E H E2 H2
/-- Behind a round of a loop. -/
def wpL (P : Program) (c : Code) (Q : Exit → Act → World → Prop) (a : Act) (w : World) : Prop :=
  ∀ b k cs, ∃ e a' w', Q e a' w' ∧ Arrives P (lone (b.at a (.code c :: .inLoop c :: k)) cs w) b k cs e a' w'
theorem wpL_loop {P : Program} {c : Code} {Q : Exit → Act → World → Prop} {a : Act} {w : World} (h : wpL P c Q a w) : (Code.loop c).wp P Q a w := by
  intro b k cs
  obtain ⟨e, a', w', hq, harr⟩ := h b k cs
  exact ⟨e, a', w', hq, .of_steps (.one step_loop) harr⟩
theorem wpL_round {P : Program} {c : Code} {Q : Exit → Act → World → Prop} {a : Act} {w : World} (h : c.wp P (fun e a' w' => match e with | .normal => wpL P c Q a' w' | e => Q e a' w') a w) : wpL P c Q a w := by
  intro b k cs
  obtain ⟨e, a₁, w₁, hq, harr⟩ := h b (.inLoop c :: k) cs
  cases e with
  | normal =>
    obtain ⟨e₂, a₂, w₂, hq₂, harr₂⟩ := hq b k cs
    exact ⟨e₂, a₂, w₂, hq₂, .of_steps (Steps.trans harr (.one step_inLoop)) harr₂⟩
  | exit id => exact ⟨_, a₁, w₁, hq, .pass (x := .inLoop c) rfl (fun _ _ => .inl (by simp)) harr⟩
  | goto l => exact ⟨_, a₁, w₁, hq, .pass (x := .inLoop c) rfl (fun _ _ => .inl (by simp)) harr⟩
  | ret => exact ⟨_, a₁, w₁, hq, .pass (x := .inLoop c) rfl (fun _ _ => .inl (by simp)) harr⟩
  | panic ch => exact ⟨_, a₁, w₁, hq, .pass (x := .inLoop c) rfl (fun _ _ => .inl (by simp)) harr⟩
  | outgrown => exact ⟨_, a₁, w₁, hq, .pass (x := .inLoop c) rfl (fun _ _ => .inl (by simp)) harr⟩
theorem CodeOk.comp {P : Program} {B : World} {n : Nat} {c : Code} {E : SE} {H : SH} {ex : Exit} {E2 : SE} {H2 : SH} (h : CodeOk P B n c E H ex E2 H2) : CodeOk P B n c E H ex (compE E2) H2 :=
  ⟨h.1, fun C hC σ a w M Q hr hs hq => h.2 C hC σ a w M Q hr hs fun σ' a' w' hag hr' hs' => hq σ' a' w' hag hr'.comp hs'⟩
/-- A loop, at its head. -/
def LoopOk (P : Program) (B : World) (n : Nat) (d : Code) (E : SE) (H : SH) (ex : Exit) (E2 : SE) (H2 : SH) : Prop :=
  H.length ≤ H2.length ∧ ∀ (C : Ctx), Fit P B C → ∀ (σ : Nm) (a : Act) (w : World) (M : Hp) (Q : Exit → Act → World → Prop), Rel n (denE σ E) a → St C (denH σ H ++ M) w →
    (∀ σ' a' w', agree H.length H2.length σ σ' → Rel n (denE σ' E2) a' → St C (denH σ' H2 ++ M) w' → Q ex a' w') → wpL P d Q a w
theorem LoopOk.code {P : Program} {B : World} {n : Nat} {d : Code} {E : SE} {H : SH} {ex : Exit} {E2 : SE} {H2 : SH} (h : LoopOk P B n d E H ex E2 H2) : CodeOk P B n (.loop d) E H ex E2 H2 :=
  ⟨h.1, fun C hC σ a w M Q hr hs hq => wpL_loop (h.2 C hC σ a w M Q hr hs hq)⟩
theorem LoopOk.step {P : Program} {B : World} {n : Nat} {d : Code} {E E1 : SE} {H H1 : SH} {ex : Exit} {E2 : SE} {H2 : SH} (h1 : CodeOk P B n d E H .normal E1 H1) (h2 : LoopOk P B n d E1 H1 ex E2 H2) : LoopOk P B n d E H ex E2 H2 :=
  ⟨Nat.le_trans h1.1 h2.1, fun C hC σ a w M Q hr hs hq => wpL_round (h1.2 C hC σ a w M _ hr hs fun σ' a' w' hag hr' hs' =>
    h2.2 C hC σ' a' w' M Q hr' hs' fun σ2 a2 w2 hag2 hr2 hs2 => hq σ2 a2 w2 (hag.trans hag2 h1.1 h2.1) hr2 hs2)⟩
theorem LoopOk.exit {P : Program} {B : World} {n : Nat} {d : Code} {E : SE} {H : SH} {ex : Exit} {E2 : SE} {H2 : SH} (hx : ex ≠ .normal) (h : CodeOk P B n d E H ex E2 H2) : LoopOk P B n d E H ex E2 H2 :=
  ⟨h.1, fun C hC σ a w M Q hr hs hq => wpL_round (h.2 C hC σ a w M _ hr hs fun σ' a' w' hag hr' hs' => by
    have := hq σ' a' w' hag hr' hs'
    cases ex <;> first | exact (hx rfl).elim | exact this)⟩
def evB (P : Program) (dr : Dr) (rec : Rec) : Nat → Code → SE → SH → Th → Ans (Exit × SE × SH × Th) := fun n c E H T =>
  match c with
  | .skip => .ok (.normal, E, H, T)
  | .label _ => .ok (.normal, E, H, T)
  | .exit i => .ok (.exit i, E, H, T)
  | .ret => .ok (.ret, E, H, T)
  | .seq x y => (rec.run n x E H T).bind fun r => match r with
    | (.normal, E2, H2, T2) => forceTh T2 fun T3 => rec.run n y E2 H2 T3
    | (.exit i, E2, H2, T2) => .ok (.exit i, E2, H2, T2)
    | (.ret, E2, H2, T2) => .ok (.ret, E2, H2, T2)
    | _ => .no 20
  | .block i c => (rec.run n c E H T).bind fun r => match r with
    | (.exit j, E2, H2, T2) => bif Nat.beq j i then .ok (.normal, E2, H2, T2) else .ok (.exit j, E2, H2, T2)
    | (.normal, E2, H2, T2) => .ok (.normal, E2, H2, T2)
    | (.ret, E2, H2, T2) => .ok (.ret, E2, H2, T2)
    | _ => .no 20
  | .cond x c d => match evS E x with
    | some (.k (.bool b)) => (testT b T).bind fun r => match r with
      | (true, T2) => rec.run n c E H T2
      | (false, T2) => rec.run n d E H T2
    | _ => .no 21
  | .loop c => match T.orc with
    | .loop ex E2 H2 :: r => .ok (ex, E2, H2, ⟨r, LoopOk P rec.base n c E H ex E2 H2 :: T.obl⟩)
    | .stop :: _ => .askL n c E H
    | _ => (rec.run n c E H T).bind fun r => match r with
      | (.normal, E2, H2, T2) => spine (compE E2) fun E3 => forceTh T2 fun T3 => rec.run n (.loop c) E3 H2 T3
      | (.exit i, E2, H2, T2) => .ok (.exit i, E2, H2, T2)
      | (.ret, E2, H2, T2) => .ok (.ret, E2, H2, T2)
      | _ => .no 20
  | .region _ ops false => (evOps P rec n ops ops.toList E H T).bind fun r => .ok (.normal, r)
  | .region _ ops true => (dr rec n ops E H T).bind fun r => .ok (.normal, r)
  | _ => .no 22
def evC (P : Program) (dr : Dr) (B : World) (pur : List FuncId) (tab : List (FuncId × List Value × Value)) (spec : List (FuncId × SpecF)) (G : Gb) (fuel : Nat) : Rec := Nat.rec (motive := fun _ => Rec) ⟨fun _ _ _ _ _ => .no 1, pur, tab, spec, B, G⟩ (fun _ r => ⟨evB P dr r, pur, tab, spec, B, G⟩) fuel
theorem evC_base {P : Program} {dr : Dr} {B : World} {pur : List FuncId} {tab : List (FuncId × List Value × Value)} {spec : List (FuncId × SpecF)} {G : Gb} (f : Nat) : (evC P dr B pur tab spec G f).base = B := by cases f <;> rfl
theorem evC_ok {P : Program} {dr : Dr} (hdr : DrOk P dr) {B : World} {pur : List FuncId} {tab : List (FuncId × List Value × Value)} (htab : TabOk P B tab) {spec : List (FuncId × SpecF)} (hspec : SpecOk P B spec) {G : Gb} (hG : GbOk B G) : ∀ f, RecOk P (evC P dr B pur tab spec G f) ∧
    ∀ n d E H T ex E2 H2 T2, (evC P dr B pur tab spec G f).run n (.loop d) E H T = .ok (ex, E2, H2, T2) → AllP T2.obl → AllP T.obl ∧ LoopOk P B n d E H ex E2 H2
  | 0 => ⟨⟨fun n c E H T ex E2 H2 T2 h => (by cases h), htab, hspec, hG⟩, fun n d E H T ex E2 H2 T2 h => (by cases h)⟩
  | f + 1 => by
    obtain ⟨ihr, ihl⟩ := evC_ok hdr htab hspec hG (pur := pur) f
    have hbase := evC_base (P := P) (dr := dr) (B := B) (pur := pur) (tab := tab) (spec := spec) (G := G) f
    have ih := ihr.1
    rw [hbase] at ih
    have hloop : ∀ n d E H T ex E2 H2 T2, (evC P dr B pur tab spec G (f + 1)).run n (.loop d) E H T = .ok (ex, E2, H2, T2) → AllP T2.obl → AllP T.obl ∧ LoopOk P B n d E H ex E2 H2 := by
      intro n d E H T ex E2 H2 T2 h hT
      change evB P dr (evC P dr B pur tab spec G f) n (.loop d) E H T = _ at h
      simp only [evB] at h
      split at h
      · rw [hbase] at h
        cases h
        exact ⟨hT.2, hT.1⟩
      · cases h
      · obtain ⟨⟨ex1, E1, H1, T1⟩, h1, h⟩ := Ans.bind_ok.1 h
        split at h
        · rename_i heq
          cases heq
          simp only [spine_eq, forceTh_eq] at h
          obtain ⟨hT1, k2⟩ := ihl _ _ _ _ _ _ _ _ _ h hT
          obtain ⟨hT0, k1⟩ := ih _ _ _ _ _ _ _ _ _ h1 hT1
          exact ⟨hT0, LoopOk.step k1.comp k2⟩
        · rename_i heq
          cases heq
          cases h
          obtain ⟨hT0, k1⟩ := ih _ _ _ _ _ _ _ _ _ h1 hT
          exact ⟨hT0, .exit (fun e => by cases e) k1⟩
        · rename_i heq
          cases heq
          cases h
          obtain ⟨hT0, k1⟩ := ih _ _ _ _ _ _ _ _ _ h1 hT
          exact ⟨hT0, .exit (fun e => by cases e) k1⟩
        · cases h
    refine ⟨⟨fun n c E H T ex E2 H2 T2 h hT => ?_, htab, hspec, hG⟩, hloop⟩
    show AllP T.obl ∧ CodeOk P B n c E H ex E2 H2
    have h0 := h
    change evB P dr (evC P dr B pur tab spec G f) n c E H T = _ at h
    unfold evB at h
    split at h
    · cases h; exact ⟨hT, Nat.le_refl _, fun C _ σ a w M Q hr hs hq => wp_skip (hq σ a w (agree.refl _ _) hr hs)⟩
    · cases h; exact ⟨hT, Nat.le_refl _, fun C _ σ a w M Q hr hs hq => wp_label (hq σ a w (agree.refl _ _) hr hs)⟩
    · cases h; exact ⟨hT, Nat.le_refl _, fun C _ σ a w M Q hr hs hq => wp_exit (hq σ a w (agree.refl _ _) hr hs)⟩
    · cases h; exact ⟨hT, Nat.le_refl _, fun C _ σ a w M Q hr hs hq => wp_ret (hq σ a w (agree.refl _ _) hr hs)⟩
    · rename_i x y
      obtain ⟨⟨ex1, E1, H1, T1⟩, h1, h⟩ := Ans.bind_ok.1 h
      split at h
      · rename_i heq
        cases heq
        simp only [forceTh_eq] at h
        obtain ⟨hT1, l2, k2⟩ := ih _ _ _ _ _ _ _ _ _ h hT
        obtain ⟨hT0, l1, k1⟩ := ih _ _ _ _ _ _ _ _ _ h1 hT1
        refine ⟨hT0, Nat.le_trans l1 l2, fun C hC σ a w M Q hr hs hq => wp_seq ?_⟩
        refine k1 C hC σ a w M _ hr hs fun σ' a' w' hag hr' hs' => ?_
        exact k2 C hC σ' a' w' M Q hr' hs' fun σ2 a2 w2 hag2 hr2 hs2 => hq σ2 a2 w2 (hag.trans hag2 l1 l2) hr2 hs2
      · rename_i heq
        cases heq
        cases h
        obtain ⟨hT0, l1, k1⟩ := ih _ _ _ _ _ _ _ _ _ h1 hT
        exact ⟨hT0, l1, fun C hC σ a w M Q hr hs hq => wp_seq (k1 C hC σ a w M _ hr hs fun σ' a' w' hag hr' hs' => hq σ' a' w' hag hr' hs')⟩
      · rename_i heq
        cases heq
        cases h
        obtain ⟨hT0, l1, k1⟩ := ih _ _ _ _ _ _ _ _ _ h1 hT
        exact ⟨hT0, l1, fun C hC σ a w M Q hr hs hq => wp_seq (k1 C hC σ a w M _ hr hs fun σ' a' w' hag hr' hs' => hq σ' a' w' hag hr' hs')⟩
      · cases h
    · rename_i i d
      obtain ⟨⟨ex1, E1, H1, T1⟩, h1, h⟩ := Ans.bind_ok.1 h
      split at h
      · rename_i j E1' H1' T1' heq
        cases heq
        cases hj : Nat.beq j i with
        | true =>
          rw [hj] at h
          cases h
          obtain ⟨hT0, l1, k1⟩ := ih _ _ _ _ _ _ _ _ _ h1 hT
          have hji := Nat.eq_of_beq_eq_true hj
          refine ⟨hT0, l1, fun C hC σ a w M Q hr hs hq => wp_block (k1 C hC σ a w M _ hr hs fun σ' a' w' hag hr' hs' => ?_)⟩
          show if j = i then _ else _
          rw [if_pos hji]
          exact hq σ' a' w' hag hr' hs'
        | false =>
          rw [hj] at h
          cases h
          obtain ⟨hT0, l1, k1⟩ := ih _ _ _ _ _ _ _ _ _ h1 hT
          have hji : j ≠ i := by rintro rfl; simp at hj
          refine ⟨hT0, l1, fun C hC σ a w M Q hr hs hq => wp_block (k1 C hC σ a w M _ hr hs fun σ' a' w' hag hr' hs' => ?_)⟩
          show if j = i then _ else _
          rw [if_neg hji]
          exact hq σ' a' w' hag hr' hs'
      · rename_i heq
        cases heq
        cases h
        obtain ⟨hT0, l1, k1⟩ := ih _ _ _ _ _ _ _ _ _ h1 hT
        exact ⟨hT0, l1, fun C hC σ a w M Q hr hs hq => wp_block (k1 C hC σ a w M _ hr hs fun σ' a' w' hag hr' hs' => hq σ' a' w' hag hr' hs')⟩
      · rename_i heq
        cases heq
        cases h
        obtain ⟨hT0, l1, k1⟩ := ih _ _ _ _ _ _ _ _ _ h1 hT
        exact ⟨hT0, l1, fun C hC σ a w M Q hr hs hq => wp_block (k1 C hC σ a w M _ hr hs fun σ' a' w' hag hr' hs' => hq σ' a' w' hag hr' hs')⟩
      · cases h
    · rename_i x c d
      split at h
      · rename_i b hx
        obtain ⟨⟨c', T'⟩, h1, h⟩ := Ans.bind_ok.1 h
        split at h
        · rename_i heq
          cases heq
          obtain ⟨hT1, l1, k1⟩ := ih _ _ _ _ _ _ _ _ _ h hT
          obtain ⟨rfl, hT0⟩ := testT_ok h1 hT1
          refine ⟨hT0, l1, fun C hC σ a w M Q hr hs hq => wp_cond_true ?_ (k1 C hC σ a w M Q hr hs hq)⟩
          rw [evS_eval hr hx, den]
        · rename_i heq
          cases heq
          obtain ⟨hT1, l1, k1⟩ := ih _ _ _ _ _ _ _ _ _ h hT
          obtain ⟨rfl, hT0⟩ := testT_ok h1 hT1
          refine ⟨hT0, l1, fun C hC σ a w M Q hr hs hq => wp_cond_false ?_ (k1 C hC σ a w M Q hr hs hq)⟩
          rw [evS_eval hr hx, den]
      · cases h
    · rename_i d
      obtain ⟨hT0, k⟩ := hloop _ _ _ _ _ _ _ _ _ h0 hT
      exact ⟨hT0, k.code⟩
    · rename_i id ops
      obtain ⟨⟨E1, H1, T1⟩, h1, h⟩ := Ans.bind_ok.1 h
      cases h
      obtain ⟨hT0, l1, k1⟩ := evOps_ok ihr h1 hT
      rw [hbase] at k1
      refine ⟨hT0, l1, fun C hC σ a w M Q hr hs hq => ?_⟩
      have := wp_region_lit (id := id) (k1 C hC σ a w M Q hr hs hq)
      simpa using this
    · rename_i id ops
      obtain ⟨⟨E1, H1, T1⟩, h1, h⟩ := Ans.bind_ok.1 h
      cases h
      obtain ⟨hT0, k⟩ := hdr _ ihr _ _ _ _ _ _ _ _ h1 hT
      rw [hbase] at k
      exact ⟨hT0, k id⟩
    · cases h
end Go.Proofs.YtonmkjcilepdcaaGreatDoor
end
