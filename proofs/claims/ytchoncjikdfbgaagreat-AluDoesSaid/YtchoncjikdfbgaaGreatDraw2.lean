import Derived.Test.YtchoncjikdfbgaaGreatSlices
/- Regions that draw their order, and hold calls that hand back memory. -/
namespace Go.Proofs.YtchoncjikdfbgaaGreat
open Go.RowKit

theorem Emb.append_left (L : Hp) {A B : Hp} (h : Emb A B) : Emb (L ++ A) (L ++ B) := by
  induction L with
  | nil => exact h
  | cons a L ih => exact ih.cons a
theorem Emb.mem {a : Asr} {L : Hp} (h : a ∈ L) : Emb [a] L := by
  obtain ⟨i, hi, rfl⟩ := List.getElem_of_mem h
  exact Emb.one i (List.getElem?_eq_getElem hi)
theorem sub_flatMap {α : Type} (f : α → Hp) (p : α → Bool) : ∀ l : List α, ((l.filter p).flatMap f).Sublist (l.flatMap f)
  | [] => List.Sublist.refl _
  | a :: l => by
    rw [List.filter_cons]
    split
    · rw [List.flatMap_cons, List.flatMap_cons]
      exact (List.Sublist.refl _).append (sub_flatMap f p l)
    · rw [List.flatMap_cons]
      exact (sub_flatMap f p l).trans (List.sublist_append_right _ _)

abbrev Kn := List (Nat × (Value → Hp → Prop))
def Kn.hp (K : Kn) (H : Hist) : Hp := K.flatMap fun p => (H p.1).2
def Kn.ok (K : Kn) (H : Hist) : Prop := ∀ p ∈ K, p.2 (H p.1).1 (H p.1).2
def Kn.pick (K : Kn) (sel : List Nat) : Kn := sel.filterMap fun i => K[i]?
def rowP (k : IntKind) (l : List Int) : Value → Hp → Prop := fun v N => N = [row k l v]
theorem Kn.pick_mem {K : Kn} {sel : List Nat} {p : Nat × (Value → Hp → Prop)} (h : p ∈ K.pick sel) : p ∈ K := by
  obtain ⟨i, _, hi⟩ := List.mem_filterMap.1 h
  exact List.mem_of_getElem? hi
/-- What a row that was handed back reads. -/
theorem Kn.rd {C : Ctx} {L : Hp} {K : Kn} {H : Hist} {w : World} (hK : K.ok H) (hs : St C (L ++ K.hp H) w) (i : Nat) {j : Nat} {k : IntKind} {l : List Int} (hi : K[i]? = some (j, rowP k l)) : Rd w (H j).1 k l := by
  have hm := List.mem_of_getElem? hi
  have h1 : (H j).2 = [row k l (H j).1] := hK _ hm
  have h2 : row k l (H j).1 ∈ K.hp H := List.mem_flatMap.2 ⟨_, hm, by rw [h1]; exact List.mem_singleton.2 rfl⟩
  exact (hs.emb (Emb.mem (List.mem_append_right L h2))).rowRd 0 rfl

/-- A walk in which calls may hand back memory. -/
structure D2 (C : Ctx) (l0 : List Oper) (z : Zone) (l : List Oper) (m : Nat) (F : Hist → Env) (L : Hp) (K : Kn) : Prop where
  out : m + l.length = z.old.q → DW C l0 z (l ++ z.tl) m ⟨F, fun _ => L, K.hp, K.map fun p => (p.1, fun H => p.2 (H p.1).1 (H p.1).2)⟩
section
variable {C : Ctx} {l0 : List Oper} {z : Zone} {k : K} {E : Env} {F : Hist → Env} {L : Hp} {K : Kn} {rest : List Oper} {m d : Nat} {op : Op} {ty : TypeId} {pos : String} {af : Array Edge} {g : Option (Nat × Bool)}
theorem D0_two (h : D2 C l0 z rest m (fun _ => E) L []) : D0 C l0 z rest m E L := ⟨h.out⟩

theorem DCond.pure2 {dst : Option Nat} {o : Oper} {Nw : Hist → Hp} {G : List (Nat × (Hist → Prop))} (ho : o.dst = dst) {v : Hist → Value} (hl : ∀ H H' : Hist, (∀ j, dep l0.toArray j m = true → H j = H' j) → v H = v H') (hf : fitsN C.n dst = true) (hz : m < z.old.q)
    (hs : ∀ H, Facts l0 m G H → ∃ b, wantedE l0.toArray (F H) o.guard = some b ∧ (b = false → v H = undef) ∧ (b = true → if isMem o.op = true then ∀ X, Does C (F H) (L ++ X) (L ++ X) o (fun u N => u = v H ∧ N = []) else Does C (F H) [] [] o (fun u N => u = v H ∧ N = []))) :
    DCond C l0 z.p z.old m o ⟨F, fun _ => L, Nw, G⟩ ⟨fun H u N => u = v H ∧ N = [], v, fun _ => [], none, false⟩ ⟨fun H => putE dst (v H) (F H), fun _ => L, Nw, G⟩ where
  loc := fun H H' hd u N hu => ⟨hu.1.trans (hl H H' hd), hu.2⟩
  val := fun _ h => ⟨h.1.symm, h.2.symm⟩
  hE := fun _ => by rw [ho]
  hN := fun _ => by simp
  hG := by simp
  hpf := fun _ h => by cases h
  same := fun _ => rfl
  store := fun h => by cases h
  fits := by rw [ho]; exact hf
  step := fun _ H hF => by
    obtain ⟨b, h1, h2, h3⟩ := hs H hF
    have hno : ∀ m', z.old.cz m' ≠ some m := fun m' h => by have := z.old.hcz m' m h; omega
    refine ⟨b, h1, fun hb => ⟨rfl, z.old.htk m hz H, hno, (h2 hb).symm, rfl⟩, fun hb => .inl ⟨hno, .inl ⟨z.old.htk m hz H, ?_⟩⟩⟩
    have := h3 hb
    split
    · rename_i hm; rw [if_pos hm] at this; exact this _
    · rename_i hm; rw [if_neg hm] at this; exact this

theorem D2_valH {v : Hist → Value} (hl : ∀ H H' : Hist, (∀ j, dep l0.toArray j m = true → H j = H' j) → v H = v H') (hi : isMem op = false) (hg : ∀ H, wantedE l0.toArray (F H) g = some true) (hd : Nat.blt d C.n = true)
    (hv : ∀ H, (∀ p ∈ K, dep l0.toArray p.1 m = true → p.2 (H p.1).1 (H p.1).2) → Yv C (F H) [] ⟨some d, op, ty, pos, af, g⟩ (v H)) (h : D2 C l0 z rest (m + 1) (fun H => (d, v H) :: F H) L K) : D2 C l0 z (⟨some d, op, ty, pos, af, g⟩ :: rest) m F L K :=
  ⟨fun hq => .cons _ _ (DCond.pure2 rfl hl hd (by rw [← hq, List.length_cons]; omega) fun H hF => ⟨true, hg H, fun h => (by cases h), fun _ => by
    simp only [hi]
    exact Does.val0 (hv H fun p hp hd => hF _ (List.mem_map.2 ⟨p, hp, rfl⟩) hd)⟩) (h.out (by rw [← hq, List.length_cons]; omega))⟩
/-- An operation that doesn't look at memory. -/
theorem D2_val {v : Value} (hi : isMem op = false) (hg : ∀ H, wantedE l0.toArray (F H) g = some true) (hd : Nat.blt d C.n = true)
    (hv : ∀ H, Yv C (F H) [] ⟨some d, op, ty, pos, af, g⟩ v) (h : D2 C l0 z rest (m + 1) (fun H => (d, v) :: F H) L K) : D2 C l0 z (⟨some d, op, ty, pos, af, g⟩ :: rest) m F L K :=
  D2_valH (v := fun _ => v) (fun _ _ _ => rfl) hi hg hd (fun H _ => hv H) h
/-- .. that looks at memory. -/
theorem D2_valM {v : Value} (hi : isMem op = true) (hg : ∀ H, wantedE l0.toArray (F H) g = some true) (hd : Nat.blt d C.n = true)
    (hv : ∀ H, Yv C (F H) L ⟨some d, op, ty, pos, af, g⟩ v) (h : D2 C l0 z rest (m + 1) (fun H => (d, v) :: F H) L K) : D2 C l0 z (⟨some d, op, ty, pos, af, g⟩ :: rest) m F L K :=
  ⟨fun hq => .cons _ _ (DCond.pure2 (v := fun _ => v) rfl (fun _ _ _ => rfl) hd (by rw [← hq, List.length_cons]; omega) fun H _ => ⟨true, hg H, fun h => (by cases h), fun _ => by
    simp only [hi, if_true]
    exact fun X => Does.val (hv H)⟩) (h.out (by rw [← hq, List.length_cons]; omega))⟩
theorem D2_skip (hg : ∀ H, wantedE l0.toArray (F H) g = some false) (hd : Nat.blt d C.n = true) (h : D2 C l0 z rest (m + 1) (fun H => (d, undef) :: F H) L K) : D2 C l0 z (⟨some d, op, ty, pos, af, g⟩ :: rest) m F L K :=
  ⟨fun hq => .cons _ _ (DCond.pure2 (v := fun _ => undef) rfl (fun _ _ _ => rfl) hd (by rw [← hq, List.length_cons]; omega) fun H _ => ⟨false, hg H, fun _ => rfl, fun h => by cases h⟩) (h.out (by rw [← hq, List.length_cons]; omega))⟩
/-- What a call has handed back, moved. -/
theorem D2_move (j : Nat) {x : Operand} (hj : dep l0.toArray j m = true) (hg : ∀ H, wantedE l0.toArray (F H) g = some true) (hd : Nat.blt d C.n = true) (hx : ∀ H, ev (F H) x = some (H j).1)
    (h : D2 C l0 z rest (m + 1) (fun H => (d, (H j).1) :: F H) L K) : D2 C l0 z (⟨some d, .move x, ty, pos, af, g⟩ :: rest) m F L K :=
  D2_valH (v := fun H => (H j).1) (fun H H' hh => by rw [hh j hj]) rfl hg hd (fun H _ => Y_move (hx H)) h
theorem D2_assign {v : Hist → Value} {x : Operand} (hl : ∀ H H' : Hist, (∀ j, dep l0.toArray j m = true → H j = H' j) → v H = v H') (hg : ∀ H, wantedE l0.toArray (F H) g = some true) (hd : Nat.blt d C.n = true) (hx : ∀ H, ev (F H) x = some (v H))
    (h : D2 C l0 z rest (m + 1) (fun H => (d, v H) :: F H) L K) : D2 C l0 z (⟨some d, .assign x, ty, pos, af, g⟩ :: rest) m F L K :=
  D2_valH hl rfl hg hd (fun H _ => Y_assign (hx H)) h
def tg (v : Value) (i : Nat) : Value :=
  match v with
  | .tuple vs => (vs[i]?).getD undef
  | _ => undef
/-- A part of what a call has handed back. -/
theorem D2_extract (i' : Nat) {j : Nat} {R : Value → Hp → Prop} {x : Operand} {i : Nat} (hi : K[i']? = some (j, R)) (hj : dep l0.toArray j m = true) (hR : ∀ u N, R u N → ∃ vs : List Value, u = .tuple vs.toArray ∧ i < vs.length) (hg : ∀ H, wantedE l0.toArray (F H) g = some true) (hd : Nat.blt d C.n = true) (hx : ∀ H, ev (F H) x = some (H j).1)
    (h : D2 C l0 z rest (m + 1) (fun H => (d, tg (H j).1 i) :: F H) L K) : D2 C l0 z (⟨some d, .extract x i, ty, pos, af, g⟩ :: rest) m F L K :=
  D2_valH (v := fun H => tg (H j).1 i) (fun H H' hh => by rw [hh j hj]) rfl hg hd (fun H hF => by
    obtain ⟨vs, hvs, hlt⟩ := hR _ _ (hF _ (List.mem_of_getElem? hi) hj)
    have hx' := hx H
    rw [hvs] at hx' ⊢
    have hv : vs[i]? = some vs[i] := List.getElem?_eq_getElem hlt
    have := Y_extract (C := C) (L := []) (dst := some d) (ty := ty) (pos := pos) (af := af) (g := g) hx' hv
    simpa [tg, hv] using this) h
def depOk (l0 : List Oper) (m : Nat) (js : List Nat) : Bool := (((List.range l0.length).filter fun j => dep l0.toArray j m && js.contains j) == js)
theorem depOk_emb {l0 : List Oper} {m : Nat} {js : List Nat} (h : depOk l0 m js = true) (H : Hist) : Emb (js.flatMap fun j => (H j).2) (newsDeps l0 m H) := by
  have e := eq_of_beq h
  refine Emb.of_sublist ?_
  unfold newsDeps
  have h2 : (List.range l0.length).filter (fun j => dep l0.toArray j m && js.contains j) = ((List.range l0.length).filter (dep l0.toArray · m)).filter (js.contains ·) := by
    rw [List.filter_filter]
    refine List.filter_congr fun j _ => ?_
    rw [Bool.and_comm]
  rw [h2] at e
  have := sub_flatMap (fun j => (H j).2) (js.contains ·) ((List.range l0.length).filter (dep l0.toArray · m))
  rwa [e] at this
theorem depOk_dep {l0 : List Oper} {m : Nat} {js : List Nat} (h : depOk l0 m js = true) {j : Nat} (hj : j ∈ js) : dep l0.toArray j m = true := by
  have e := eq_of_beq h
  rw [← e] at hj
  have := (List.mem_filter.1 hj).2
  simp only [Bool.and_eq_true] at this
  exact this.1
/-- A call; sel: which of what is known of the earlier ones it may lean on. -/
theorem D2_call (sel : List Nat) {fo : Operand} {f : FuncId} {as : List Operand} {vs : Hist → List Value} {ats : Array TypeId} {R : Value → Hp → Prop} (hk : depOk l0 m ((K.pick sel).map (·.1)) = true) (hf : ∀ H, ev (F H) fo = some (.func (.func f) #[] #[])) (ha : ∀ H, evs (F H) as = some (vs H)) (hb : hasBody C.P f = true)
    (hc : ∀ H w, (K.pick sel).ok H → St C (L ++ (K.pick sel).hp H) w → Fn C.P f (vs H).toArray w R) (hg : ∀ H, wantedE l0.toArray (F H) g = some true) (hd : Nat.blt d C.n = true)
    (h : D2 C l0 z rest (m + 1) (fun H => (d, (H m).1) :: F H) L (K ++ [(m, R)])) : D2 C l0 z (⟨some d, .call ⟨.value fo, as.toArray, ats⟩, ty, pos, af, g⟩ :: rest) m F L K := by
  refine ⟨fun hq => ?_⟩
  have hz : m < z.old.q := by rw [← hq, List.length_cons]; omega
  have h' := h.out (by rw [← hq, List.length_cons]; omega)
  refine .cons ⟨fun _ u N => R u N, fun H => (H m).1, fun H => (H m).2, some fun H => R (H m).1 (H m).2, false⟩ ⟨fun H => (d, (H m).1) :: F H, fun _ => L, (K ++ [(m, R)]).hp, (K ++ [(m, R)]).map fun p => (p.1, fun H => p.2 (H p.1).1 (H p.1).2)⟩
    { loc := fun _ _ _ _ _ h => h
      val := fun _ _ => ⟨rfl, rfl⟩
      hE := fun _ => rfl
      hN := fun H => by simp [Kn.hp]
      hG := by simp
      hpf := fun p hp H hR => by cases hp; exact hR
      same := fun _ => rfl
      store := fun h => by cases h
      fits := hd
      step := fun _ H hF => ⟨true, hg H, fun h => (by cases h), fun _ => .inl ⟨fun m' h => by have := z.old.hcz m' m h; omega, .inl ⟨z.old.htk m hz H, by
        simp only [isMem, if_true]
        refine Does.call (hf H) (ha H) hb fun w hs => hc H w (fun p hp => ?_) (hs.emb (Emb.append_left L ?_))
        · exact hF _ (List.mem_map.2 ⟨p, Kn.pick_mem hp, rfl⟩) (depOk_dep hk (List.mem_map.2 ⟨p, hp, rfl⟩))
        · have := depOk_emb hk H
          unfold Kn.hp
          rwa [List.flatMap_map] at this⟩⟩⟩ } h'
/-- A call whose value alone is told. -/
theorem D2_callV (sel : List Nat) {fo : Operand} {f : FuncId} {as : List Operand} {vs : Hist → List Value} {ats : Array TypeId} {v : Value} (hk : depOk l0 m ((K.pick sel).map (·.1)) = true) (hf : ∀ H, ev (F H) fo = some (.func (.func f) #[] #[])) (ha : ∀ H, evs (F H) as = some (vs H)) (hb : hasBody C.P f = true)
    (hc : ∀ H w, (K.pick sel).ok H → St C (L ++ (K.pick sel).hp H) w → Fn C.P f (vs H).toArray w fun u N => u = v ∧ N = []) (hg : ∀ H, wantedE l0.toArray (F H) g = some true) (hd : Nat.blt d C.n = true)
    (h : D2 C l0 z rest (m + 1) (fun H => (d, v) :: F H) L K) : D2 C l0 z (⟨some d, .call ⟨.value fo, as.toArray, ats⟩, ty, pos, af, g⟩ :: rest) m F L K := by
  refine ⟨fun hq => ?_⟩
  have hz : m < z.old.q := by rw [← hq, List.length_cons]; omega
  have h' := h.out (by rw [← hq, List.length_cons]; omega)
  refine .cons ⟨fun _ u N => u = v ∧ N = [], fun _ => v, fun _ => [], none, false⟩ ⟨fun H => (d, v) :: F H, fun _ => L, K.hp, K.map fun p => (p.1, fun H => p.2 (H p.1).1 (H p.1).2)⟩
    { loc := fun _ _ _ _ _ h => h
      val := fun _ h => ⟨h.1.symm, h.2.symm⟩
      hE := fun _ => rfl
      hN := fun H => by simp
      hG := by simp
      hpf := fun p hp => by cases hp
      same := fun _ => rfl
      store := fun h => by cases h
      fits := hd
      step := fun _ H hF => ⟨true, hg H, fun h => (by cases h), fun _ => .inl ⟨fun m' h => by have := z.old.hcz m' m h; omega, .inl ⟨z.old.htk m hz H, by
        simp only [isMem, if_true]
        refine Does.call (hf H) (ha H) hb fun w hs => hc H w (fun p hp => ?_) (hs.emb (Emb.append_left L ?_))
        · exact hF _ (List.mem_map.2 ⟨p, Kn.pick_mem hp, rfl⟩) (depOk_dep hk (List.mem_map.2 ⟨p, hp, rfl⟩))
        · have := depOk_emb hk H
          unfold Kn.hp
          rwa [List.flatMap_map] at this⟩⟩⟩ } h'
theorem D2_nil {n : Nat} (h : ∀ H, K.ok H → X C .normal k (F H) (L ++ K.hp H)) : D2 C l0 (zX C n k) [] m F L K :=
  ⟨fun _ => .nil fun H hG => h H fun p hp => hG (p.1, fun H => p.2 (H p.1).1 (H p.1).2) (List.mem_map.2 ⟨p, hp, rfl⟩)⟩
theorem D2_nilS {l : List Oper} {n : Nat} {l2 : List Oper} (h : ∀ H, K.ok H → S C l.toArray l2 k (F H) (L ++ K.hp H)) : D2 C l0 (zS C l n l2 k) [] m F L K :=
  ⟨fun _ => .nil fun H hG => h H fun p hp => hG (p.1, fun H => p.2 (H p.1).1 (H p.1).2) (List.mem_map.2 ⟨p, hp, rfl⟩)⟩
end
end Go.Proofs.YtchoncjikdfbgaaGreat
