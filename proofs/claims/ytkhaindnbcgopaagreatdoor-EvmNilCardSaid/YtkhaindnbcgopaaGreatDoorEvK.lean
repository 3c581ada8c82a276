import Derived.Test.YtkhaindnbcgopaaGreatDoorEvJ
import Derived.LoopN
/- The evaluator: regions in their order; codes. -/
noncomputable section
namespace Go.Proofs.YtkhaindnbcgopaaGreatDoor
open Go.RowKit
set_option maxRecDepth 20000
set_option maxHeartbeats 4000000

def wantedS (ops : Array Oper) (E : SE) : Option (Nat × Bool) → Option Bool
  | none => some true
  | some (j, want) =>
    match (ops[j]?).bind (·.dst) with
    | some d => match E.get d with
      | some (.k (.bool b)) => some (b == want)
      | some (.k (.tuple _)) => some false
      | _ => none
    | none => none
theorem wantedS_E {σ : Nm} {ops : Array Oper} {E : SE} {g : Option (Nat × Bool)} {b : Bool} (h : wantedS ops E g = some b) : wantedE ops (denE σ E) g = some b := by
  unfold wantedS at h
  unfold wantedE
  split at h
  · exact h
  · rename_i j want
    split at h
    · rename_i d hd
      simp only [hd]
      split at h
      · rename_i c hc
        rw [denE_get, hc]
        simpa [den] using h
      · rename_i c hc
        rw [denE_get, hc]
        simpa [den] using h
      · cases h
    · cases h
/-- The names keep what they are. -/
def stayB (E : SE) (H H2 : SH) : Bool := Nat.ble H.length H2.length && (Nat.beq H.length H2.length || bndE H.length E)
theorem stayB_le {E : SE} {H H2 : SH} (h : stayB E H H2 = true) : H.length ≤ H2.length := by
  simp only [stayB, Bool.and_eq_true, Nat.ble_eq] at h
  exact h.1
theorem stayB_den {E : SE} {H H2 : SH} (h : stayB E H H2 = true) {σ σ' : Nm} (hag : agree H.length H2.length σ σ') : denE σ' E = denE σ E := by
  simp only [stayB, Bool.and_eq_true, Bool.or_eq_true, Nat.ble_eq, Nat.beq_eq] at h
  rcases h.2 with h2 | h2
  · have : σ' = σ := by funext n; exact hag n (by omega)
    rw [this]
  · exact denE_bnd hag.lt h2
def evOps (P : Program) (rec : Rec) (n : Nat) (ops : Array Oper) : List Oper → SE → SH → Option (SE × SH)
  | [], E, H => some (E, H)
  | o :: rest, E, H =>
    match wantedS ops E o.guard with
    | some true => match stepS P rec E H o with
      | some (v, H2) => if fitsN n o.dst && stayB E H H2 then forceS v fun v' => spine (putO o.dst v' E) fun E' => evOps P rec n ops rest E' H2 else none
      | none => none
    | some false => if fitsN n o.dst then spine (putO o.dst (.k undef) E) fun E' => evOps P rec n ops rest E' H else none
    | none => none
theorem evOps_ok {P : Program} {rec : Rec} (hrec : RecOk P rec) {n : Nat} {ops : Array Oper} : ∀ {l : List Oper} {E E2 : SE} {H H2 : SH}, evOps P rec n ops l E H = some (E2, H2) →
    H.length ≤ H2.length ∧ ∀ (C : Ctx), C.P = P → ∀ (σ : Nm) (a : Act) (w : World) (M : Hp) (Q : Exit → Act → World → Prop), Rel n (denE σ E) a → St C (denH σ H ++ M) w →
      (∀ σ' a' w', agree H.length H2.length σ σ' → Rel n (denE σ' E2) a' → St C (denH σ' H2 ++ M) w' → Q .normal a' w') → wpList P ops Q l a w
  | [], E, E2, H, H2, h => by
    simp only [evOps, Option.some.injEq, Prod.mk.injEq] at h
    obtain ⟨rfl, rfl⟩ := h
    exact ⟨Nat.le_refl _, fun C _ σ a w M Q hr hs hq => hq σ a w (agree.refl _ _) hr hs⟩
  | o :: rest, E, E2, H, H2, h => by
    simp only [evOps] at h
    split at h
    · rename_i hw
      split at h
      · rename_i v H1 hst
        split at h
        · rename_i hc
          simp only [forceS_eq, spine_eq] at h
          simp only [Bool.and_eq_true] at hc
          have hle := stayB_le hc.2
          obtain ⟨hle2, ih⟩ := evOps_ok hrec h
          refine ⟨Nat.le_trans hle hle2, fun C hC σ a w M Q hr hs hq => ?_⟩
          subst hC
          unfold wpList
          rw [wantedE_spec hr (wantedS_E hw), if_pos rfl]
          refine .inl ?_
          have hok := stepS_ok (C := ⟨C.P, n, C.FB, C.w0⟩) hrec hst σ a w M hr (hs.reC n)
          refine hok.wp ?_
          rintro u w' ⟨σ', hag, rfl, hs'⟩
          have hE := stayB_den hc.2 hag
          have hr' : Rel n (denE σ' E) a := by rw [hE]; exact hr
          exact ih C rfl σ' _ w' M Q (hr'.putO hc.1 v) (hs'.reC C.n) fun σ2 a2 w2 hag2 hr2 hs2 => hq σ2 a2 w2 (hag.trans hag2 hle hle2) hr2 hs2
        · cases h
      · cases h
    · rename_i hw
      split at h
      · rename_i hc
        simp only [spine_eq] at h
        obtain ⟨hle2, ih⟩ := evOps_ok hrec h
        refine ⟨hle2, fun C hC σ a w M Q hr hs hq => ?_⟩
        unfold wpList
        rw [wantedE_spec hr (wantedS_E hw)]
        simp only [Bool.false_eq_true, if_false]
        have := hr.putO hc (.k undef)
        rw [den] at this
        exact ih C hC σ _ w M Q this hs hq
      · cases h
    · cases h
/-- What a region that draws its order is evaluated by. -/
abbrev Dr := Rec → Nat → Array Oper → SE → SH → Option (SE × SH)
def RegOk (P : Program) (n : Nat) (ops : Array Oper) (E : SE) (H : SH) (E2 : SE) (H2 : SH) : Prop := ∀ id, CodeOk P n (.region id ops true) E H .normal E2 H2
def DrOk (P : Program) (dr : Dr) : Prop := ∀ rec, RecOk P rec → ∀ n ops E H E2 H2, dr rec n ops E H = some (E2, H2) → RegOk P n ops E H E2 H2
def evB (P : Program) (dr : Dr) (rec : Rec) : Rec := fun n c E H =>
  match c with
  | .skip => some (.normal, E, H)
  | .label _ => some (.normal, E, H)
  | .exit i => some (.exit i, E, H)
  | .ret => some (.ret, E, H)
  | .seq x y => match rec n x E H with
    | some (.normal, E2, H2) => rec n y E2 H2
    | some (.exit i, E2, H2) => some (.exit i, E2, H2)
    | some (.ret, E2, H2) => some (.ret, E2, H2)
    | _ => none
  | .block i c => match rec n c E H with
    | some (.exit j, E2, H2) => bif Nat.beq j i then some (.normal, E2, H2) else some (.exit j, E2, H2)
    | some (.normal, E2, H2) => some (.normal, E2, H2)
    | some (.ret, E2, H2) => some (.ret, E2, H2)
    | _ => none
  | .cond x c d => match evS E x with
    | some (.k (.bool true)) => rec n c E H
    | some (.k (.bool false)) => rec n d E H
    | _ => none
  | .loop c => match rec n c E H with
    | some (.normal, E2, H2) => rec n (.loop c) E2 H2
    | some (.exit i, E2, H2) => some (.exit i, E2, H2)
    | some (.ret, E2, H2) => some (.ret, E2, H2)
    | _ => none
  | .region _ ops false => match evOps P rec n ops ops.toList E H with
    | some (E2, H2) => some (.normal, E2, H2)
    | none => none
  | .region _ ops true => match dr rec n ops E H with
    | some (E2, H2) => some (.normal, E2, H2)
    | none => none
  | _ => none
def evC (P : Program) (dr : Dr) (fuel : Nat) : Rec := Nat.rec (motive := fun _ => Rec) (fun _ _ _ _ => none) (fun _ r => evB P dr r) fuel
def LoopOk (P : Program) (f n : Nat) (d : Code) (E : SE) (H : SH) (ex : Exit) (E2 : SE) (H2 : SH) : Prop :=
  H.length ≤ H2.length ∧ ∀ (C : Ctx), C.P = P → ∀ (σ : Nm) (a : Act) (w : World) (M : Hp) (Q : Exit → Act → World → Prop), Rel n (denE σ E) a → St C (denH σ H ++ M) w →
    (∀ σ' a' w', agree H.length H2.length σ σ' → Rel n (denE σ' E2) a' → St C (denH σ' H2 ++ M) w' → Q ex a' w') → Code.rounds P d Q f a w
theorem evC_ok {P : Program} {dr : Dr} (hdr : DrOk P dr) : ∀ f, RecOk P (evC P dr f) ∧ ∀ n d E H ex E2 H2, evC P dr f n (.loop d) E H = some (ex, E2, H2) → LoopOk P f n d E H ex E2 H2
  | 0 => ⟨fun n c E H ex E2 H2 h => (by cases h), fun n d E H ex E2 H2 h => (by cases h)⟩
  | f + 1 => by
    obtain ⟨ih, ihl⟩ := evC_ok hdr f
    have hloop : ∀ n d E H ex E2 H2, evC P dr (f + 1) n (.loop d) E H = some (ex, E2, H2) → LoopOk P (f + 1) n d E H ex E2 H2 := by
      intro n d E H ex E2 H2 h
      change evB P dr (evC P dr f) n (.loop d) E H = _ at h
      simp only [evB] at h
      split at h
      · rename_i E1 H1 h1
        obtain ⟨l1, k1⟩ := ih _ _ _ _ _ _ _ h1
        obtain ⟨l2, k2⟩ := ihl _ _ _ _ _ _ _ h
        refine ⟨Nat.le_trans l1 l2, fun C hC σ a w M Q hr hs hq => ?_⟩
        rw [rounds_succ]
        refine k1 C hC σ a w M _ hr hs fun σ' a' w' hag hr' hs' => ?_
        exact k2 C hC σ' a' w' M Q hr' hs' fun σ2 a2 w2 hag2 hr2 hs2 => hq σ2 a2 w2 (hag.trans hag2 l1 l2) hr2 hs2
      · rename_i i E1 H1 h1
        cases h
        obtain ⟨l1, k1⟩ := ih _ _ _ _ _ _ _ h1
        refine ⟨l1, fun C hC σ a w M Q hr hs hq => ?_⟩
        rw [rounds_succ]
        exact k1 C hC σ a w M _ hr hs fun σ' a' w' hag hr' hs' => hq σ' a' w' hag hr' hs'
      · rename_i E1 H1 h1
        cases h
        obtain ⟨l1, k1⟩ := ih _ _ _ _ _ _ _ h1
        refine ⟨l1, fun C hC σ a w M Q hr hs hq => ?_⟩
        rw [rounds_succ]
        exact k1 C hC σ a w M _ hr hs fun σ' a' w' hag hr' hs' => hq σ' a' w' hag hr' hs'
      · cases h
    refine ⟨fun n c E H ex E2 H2 h => ?_, hloop⟩
    have h0 := h
    change evB P dr (evC P dr f) n c E H = _ at h
    unfold evB at h
    split at h
    · cases h; exact ⟨Nat.le_refl _, fun C _ σ a w M Q hr hs hq => wp_skip (hq σ a w (agree.refl _ _) hr hs)⟩
    · cases h; exact ⟨Nat.le_refl _, fun C _ σ a w M Q hr hs hq => wp_label (hq σ a w (agree.refl _ _) hr hs)⟩
    · cases h; exact ⟨Nat.le_refl _, fun C _ σ a w M Q hr hs hq => wp_exit (hq σ a w (agree.refl _ _) hr hs)⟩
    · cases h; exact ⟨Nat.le_refl _, fun C _ σ a w M Q hr hs hq => wp_ret (hq σ a w (agree.refl _ _) hr hs)⟩
    · rename_i x y
      split at h
      · rename_i E1 H1 h1
        obtain ⟨l1, k1⟩ := ih _ _ _ _ _ _ _ h1
        obtain ⟨l2, k2⟩ := ih _ _ _ _ _ _ _ h
        refine ⟨Nat.le_trans l1 l2, fun C hC σ a w M Q hr hs hq => wp_seq ?_⟩
        refine k1 C hC σ a w M _ hr hs fun σ' a' w' hag hr' hs' => ?_
        exact k2 C hC σ' a' w' M Q hr' hs' fun σ2 a2 w2 hag2 hr2 hs2 => hq σ2 a2 w2 (hag.trans hag2 l1 l2) hr2 hs2
      · rename_i i E1 H1 h1
        cases h
        obtain ⟨l1, k1⟩ := ih _ _ _ _ _ _ _ h1
        exact ⟨l1, fun C hC σ a w M Q hr hs hq => wp_seq (k1 C hC σ a w M _ hr hs fun σ' a' w' hag hr' hs' => hq σ' a' w' hag hr' hs')⟩
      · rename_i E1 H1 h1
        cases h
        obtain ⟨l1, k1⟩ := ih _ _ _ _ _ _ _ h1
        exact ⟨l1, fun C hC σ a w M Q hr hs hq => wp_seq (k1 C hC σ a w M _ hr hs fun σ' a' w' hag hr' hs' => hq σ' a' w' hag hr' hs')⟩
      · cases h
    · rename_i i d
      split at h
      · rename_i j E1 H1 h1
        obtain ⟨l1, k1⟩ := ih _ _ _ _ _ _ _ h1
        cases hj : Nat.beq j i with
        | true =>
          rw [hj] at h
          cases h
          have hji := Nat.eq_of_beq_eq_true hj
          refine ⟨l1, fun C hC σ a w M Q hr hs hq => wp_block (k1 C hC σ a w M _ hr hs fun σ' a' w' hag hr' hs' => ?_)⟩
          show if j = i then _ else _
          rw [if_pos hji]
          exact hq σ' a' w' hag hr' hs'
        | false =>
          rw [hj] at h
          cases h
          have hji : j ≠ i := by rintro rfl; simp at hj
          refine ⟨l1, fun C hC σ a w M Q hr hs hq => wp_block (k1 C hC σ a w M _ hr hs fun σ' a' w' hag hr' hs' => ?_)⟩
          show if j = i then _ else _
          rw [if_neg hji]
          exact hq σ' a' w' hag hr' hs'
      · rename_i E1 H1 h1
        cases h
        obtain ⟨l1, k1⟩ := ih _ _ _ _ _ _ _ h1
        exact ⟨l1, fun C hC σ a w M Q hr hs hq => wp_block (k1 C hC σ a w M _ hr hs fun σ' a' w' hag hr' hs' => hq σ' a' w' hag hr' hs')⟩
      · rename_i E1 H1 h1
        cases h
        obtain ⟨l1, k1⟩ := ih _ _ _ _ _ _ _ h1
        exact ⟨l1, fun C hC σ a w M Q hr hs hq => wp_block (k1 C hC σ a w M _ hr hs fun σ' a' w' hag hr' hs' => hq σ' a' w' hag hr' hs')⟩
      · cases h
    · rename_i x c d
      split at h
      · rename_i hx
        obtain ⟨l1, k1⟩ := ih _ _ _ _ _ _ _ h
        refine ⟨l1, fun C hC σ a w M Q hr hs hq => wp_cond_true ?_ (k1 C hC σ a w M Q hr hs hq)⟩
        rw [evS_eval hr hx, den]
      · rename_i hx
        obtain ⟨l1, k1⟩ := ih _ _ _ _ _ _ _ h
        refine ⟨l1, fun C hC σ a w M Q hr hs hq => wp_cond_false ?_ (k1 C hC σ a w M Q hr hs hq)⟩
        rw [evS_eval hr hx, den]
      · cases h
    · rename_i d
      obtain ⟨l1, k1⟩ := hloop _ _ _ _ _ _ _ h0
      exact ⟨l1, fun C hC σ a w M Q hr hs hq => wp_loop_rounds _ (k1 C hC σ a w M Q hr hs hq)⟩
    · rename_i id ops
      split at h
      · rename_i E1 H1 h1
        cases h
        obtain ⟨l1, k1⟩ := evOps_ok ih h1
        refine ⟨l1, fun C hC σ a w M Q hr hs hq => ?_⟩
        have := wp_region_lit (id := id) (k1 C hC σ a w M Q hr hs hq)
        simpa using this
      · cases h
    · rename_i id ops
      split at h
      · rename_i E1 H1 h1
        cases h
        exact hdr _ ih _ _ _ _ _ _ h1 id
      · cases h
    · cases h
end Go.Proofs.YtkhaindnbcgopaaGreatDoor
end
