import Derived.Test.YtonmkjcilepdcaaGreatDoorBase
/- A region that draws its order: one walk in the order of the text serves every order. -/
namespace Go.Proofs.YtonmkjcilepdcaaGreatDoor
open Go.RowKit

/-! ### which operation comes before which -/

def bstep (acc : Array Nat) (o : Oper) : Nat := o.after.foldl (fun s e => if Region.binds .any e then s ||| 2 ^ e.on ||| acc.getD e.on 0 else s) 0
def bfold (l : List Oper) : Array Nat := l.foldl (fun acc o => acc.push (bstep acc o)) #[]

theorem bfold_snoc (l : List Oper) (o : Oper) : bfold (l ++ [o]) = (bfold l).push (bstep (bfold l) o) := by simp [bfold]
theorem before_eq (l : List Oper) : Region.before l.toArray = bfold l := by
  simp [Region.before, bfold, bstep]

theorem bfold_size (l : List Oper) : (bfold l).size = l.length := by
  unfold bfold
  suffices h : ∀ (l : List Oper) (a : Array Nat), (l.foldl (fun acc o => acc.push (bstep acc o)) a).size = a.size + l.length by simpa using h l #[]
  intro l
  induction l with
  | nil => intro a; simp
  | cons o l ih => intro a; simp only [List.foldl_cons, ih, List.length_cons, Array.size_push]; omega

theorem bfold_append (b : List Oper) : ∀ (a : List Oper) (i : Nat), i < a.length → (bfold (a ++ b)).getD i 0 = (bfold a).getD i 0 := by
  induction b with
  | nil => intro a i _; simp
  | cons o b ih =>
    intro a i h
    rw [show a ++ o :: b = (a ++ [o]) ++ b by simp, ih (a ++ [o]) i (by simp; omega), bfold_snoc]
    have : i < (bfold a).size := by rw [bfold_size]; omega
    simp [Array.getElem?_push, Nat.ne_of_lt this]

theorem bfold_take (l : List Oper) (m i : Nat) (h : i < m) (hm : m ≤ l.length) : (bfold (l.take m)).getD i 0 = (bfold l).getD i 0 := by
  have := bfold_append (l.drop m) (l.take m) i (by rw [List.length_take]; omega)
  rw [List.take_append_drop] at this
  exact this.symm

/-- j comes before m, whatever order is drawn. -/
def dep (ops : Array Oper) (j m : Nat) : Bool := ((Region.before ops).getD m 0).testBit j

theorem bstep_spec {acc : Array Nat} {o : Oper} {j : Nat} (h : (bstep acc o).testBit j = true) : ∃ e ∈ o.after, Region.binds .any e = true ∧ (e.on = j ∨ (acc.getD e.on 0).testBit j = true) := by
  unfold bstep at h
  rw [← Array.foldl_toList] at h
  suffices key : ∀ (l : List Edge) (s : Nat), (l.foldl (fun s e => if Region.binds .any e then s ||| 2 ^ e.on ||| acc.getD e.on 0 else s) s).testBit j = true →
      s.testBit j = true ∨ ∃ e ∈ l, Region.binds .any e = true ∧ (e.on = j ∨ (acc.getD e.on 0).testBit j = true) by
    rcases key _ _ h with h | ⟨e, he, h⟩
    · simp at h
    · exact ⟨e, by simpa using he, h⟩
  intro l
  induction l with
  | nil => intro s h; exact .inl h
  | cons e l ih =>
    intro s h
    simp only [List.foldl_cons] at h
    rcases ih _ h with h | ⟨e', he', h⟩
    · by_cases hb : Region.binds .any e = true
      · simp only [hb, if_true, Nat.testBit_or, Bool.or_eq_true] at h
        rcases h with (h | h) | h
        · exact .inl h
        · refine .inr ⟨e, List.mem_cons_self, hb, .inl ?_⟩
          rw [Nat.testBit_two_pow] at h
          simpa using h
        · exact .inr ⟨e, List.mem_cons_self, hb, .inr h⟩
      · simp only [hb] at h
        exact .inl h
    · exact .inr ⟨e', List.mem_cons_of_mem _ he', h⟩

theorem dep_spec {l : List Oper} {j m : Nat} {o : Oper} (ho : l[m]? = some o) (hb : ∀ e ∈ o.after, Region.binds .any e = true → e.on < m) (h : dep l.toArray j m = true) :
    ∃ e ∈ o.after, Region.binds .any e = true ∧ (e.on = j ∨ dep l.toArray j e.on = true) := by
  have hm : m < l.length := (List.getElem?_eq_some_iff.1 ho).1
  have h1 : l.take (m + 1) = l.take m ++ [o] := by rw [List.take_add_one, ho]; rfl
  unfold dep at *
  rw [before_eq] at *
  rw [← bfold_take l (m + 1) m (by omega) (by omega), h1, bfold_snoc] at h
  have hsz : (bfold (l.take m)).size = m := by rw [bfold_size, List.length_take]; omega
  have h2 : ((bfold (l.take m)).push (bstep (bfold (l.take m)) o)).getD m 0 = bstep (bfold (l.take m)) o := by
    simp [Array.getElem_push, hsz]
  rw [h2] at h
  obtain ⟨e, he, hbe, h⟩ := bstep_spec h
  refine ⟨e, he, hbe, h.imp id fun h => ?_⟩
  rw [bfold_take l m e.on (hb e he hbe) (by omega)] at h
  exact h

/-! ### the check of a region -/

def tmpsOf (o : Oper) : List Nat := o.op.operands.toList.filterMap fun | .tmp t => some t | _ => none
/-- The slots that an operation looks at or writes. -/
def slotsOf (ops : Array Oper) (o : Oper) : List Nat :=
  tmpsOf o ++ (match o.guard with | some (g, _) => ((ops[g]?).bind (·.dst)).toList | none => []) ++ o.dst.toList
def isMem : Op → Bool
  | .move _ | .assign _ | .pick .. | .extract .. | .binOp .. | .unOp .. | .indexAddr .. | .fieldAddr .. | .index .. | .field .. | .nilCheck _ | .slice .. | .build .. => false
  | _ => true
def isSel : Op → Bool
  | .select .. => true
  | _ => false

/-- Each operation waits for earlier ones alone; whoever looks at a slot, or writes it, and whoever writes it, are ordered. -/
def okReg (l : List Oper) : Bool :=
  let b := Region.before l.toArray
  l.zipIdx.all fun (o, m) =>
    o.after.all (fun e => !Region.binds .any e || Nat.blt e.on m) && !isSel o.op &&
    l.zipIdx.all fun (p, j) =>
      match p.dst with
      | some d => Nat.beq j m || !(slotsOf l.toArray o).contains d || (b.getD (max j m) 0).testBit (min j m)
      | none => true
/-- m is ordered against all that look at memory. -/
def okStore (l : List Oper) (m : Nat) : Bool :=
  let b := Region.before l.toArray
  l.zipIdx.all fun (p, j) => Nat.beq j m || !isMem p.op || (b.getD (max j m) 0).testBit (min j m)

theorem okReg_after {l : List Oper} (h : okReg l = true) {m : Nat} {o : Oper} (ho : l[m]? = some o) : ∀ e ∈ o.after, Region.binds .any e = true → e.on < m := by
  intro e he hb
  unfold okReg at h
  rw [List.all_eq_true] at h
  have hm : (o, m) ∈ l.zipIdx := by
    rw [List.mem_zipIdx_iff_getElem?]; exact ho
  have := h _ hm
  simp only [Bool.and_eq_true, Array.all_eq_true_iff_forall_mem] at this
  have := this.1.1 e he
  simpa [hb] using this
theorem okReg_sel {l : List Oper} (h : okReg l = true) {m : Nat} {o : Oper} (ho : l[m]? = some o) : ∀ cs b, o.op ≠ .select cs b := by
  intro cs b hcb
  unfold okReg at h
  rw [List.all_eq_true] at h
  have hm : (o, m) ∈ l.zipIdx := by
    rw [List.mem_zipIdx_iff_getElem?]; exact ho
  have := h _ hm
  simp only [Bool.and_eq_true] at this
  have := this.1.2
  simp [hcb, isSel] at this
theorem okReg_slot {l : List Oper} (h : okReg l = true) {m j d : Nat} {o p : Oper} (ho : l[m]? = some o) (hp : l[j]? = some p) (hd : p.dst = some d) (hs : d ∈ slotsOf l.toArray o) (hjm : j ≠ m) : dep l.toArray (min j m) (max j m) = true := by
  unfold okReg at h
  rw [List.all_eq_true] at h
  have hm : (o, m) ∈ l.zipIdx := by
    rw [List.mem_zipIdx_iff_getElem?]; exact ho
  have hj : (p, j) ∈ l.zipIdx := by
    rw [List.mem_zipIdx_iff_getElem?]; exact hp
  have := h _ hm
  simp only [Bool.and_eq_true, List.all_eq_true] at this
  have := this.2 _ hj
  simp only [hd] at this
  simpa [hjm, hs, dep] using this
theorem okStore_spec {l : List Oper} {m j : Nat} (h : okStore l m = true) {p : Oper} (hp : l[j]? = some p) (hm : isMem p.op = true) (hjm : j ≠ m) : dep l.toArray (min j m) (max j m) = true := by
  unfold okStore at h
  rw [List.all_eq_true] at h
  have hj : (p, j) ∈ l.zipIdx := by
    rw [List.mem_zipIdx_iff_getElem?]; exact hp
  have := h _ hj
  simpa [hjm, hm, dep] using this
theorem dep_lt {l : List Oper} (h : okReg l = true) {j m : Nat} (hd : dep l.toArray j m = true) : j < m ∧ m < l.length := by
  have hm : m < l.length := by
    rcases Nat.lt_or_ge m l.length with h1 | h1
    · exact h1
    · unfold dep at hd
      rw [before_eq] at hd
      have : (bfold l).getD m 0 = 0 := by
        have : (bfold l).size ≤ m := by rw [bfold_size]; omega
        simp [Array.getElem?_eq_none this]
      rw [this] at hd
      simp at hd
  refine ⟨?_, hm⟩
  induction m using Nat.strongRecOn with
  | _ m ih =>
    have ho : l[m]? = some l[m] := List.getElem?_eq_getElem hm
    have ha := okReg_after h ho
    obtain ⟨e, he, hb, hj⟩ := dep_spec ho ha hd
    have := ha e he hb
    rcases hj with rfl | hj
    · exact this
    · have := ih e.on this hj (by omega)
      omega

/-! ### what an operation does -/

abbrev Hist := Nat → Value × Hp

def Outcome (P : Program) (ψ : Value → World → Prop) : Result Next → Prop
  | .ok (.value v) w => ψ v w
  | .ok .skip w => ψ undef w
  | .ok (.enter f args) w => Calls P f args w fun e w' => ∃ v, e = .returned v ∧ ψ v w'
  | _ => False

theorem Outcome.wp {P : Program} {ψ : Value → World → Prop} {o : Oper} {a : Act} {w : World} {K : Act → World → Prop} {Q : Exit → Act → World → Prop}
    (h : Outcome P ψ ((execOp a.eval o).run P w)) (hK : ∀ v w', ψ v w' → K (a.put o.dst v) w') : o.wp P a w K Q := by
  unfold Oper.wp
  generalize (execOp a.eval o).run P w = r at *
  cases r with
  | ok n w' =>
    cases n <;> simp only [Outcome] at h <;> simp only [Oper.upon]
    case value v => exact hK _ _ h
    case skip => exact hK _ _ h
    case enter f args =>
      refine h.mono ?_
      rintro e w'' ⟨v, rfl, hv⟩
      exact hK _ _ hv
  | halt x w' => simp only [Outcome] at h

/-- From L to L', with new blocks N, whatever else (M) is owned. -/
structure Does (C : Ctx) (E : Env) (L L' : Hp) (o : Oper) (φ : Value → Hp → Prop) : Prop where
  out : ∀ (a : Act) (w : World) (M : Hp), Rel C.n E a → St C (L ++ M) w → Outcome C.P (fun v w' => ∃ N, φ v N ∧ St C (L' ++ M ++ N) w') ((execOp a.eval o).run C.P w)

theorem Does.of_act {C : Ctx} {E : Env} {L L' : Hp} {l : List Oper} {o : Oper} {φ : Value → Hp → Prop} (h : Does C E L L' o φ) (hsel : ∀ cs b, o.op ≠ .select cs b) (hE : ∀ d v, E.get d = some v → d < C.n)
    {a : Act} {w : World} {M : Hp} (hsz : a.tmps.size = C.n) (hget : ∀ d ∈ slotsOf l.toArray o, ∀ v, E.get d = some v → a.tmps[d]? = some v) (hs : St C (L ++ M) w) :
    Outcome C.P (fun v w' => ∃ N, φ v N ∧ St C (L' ++ M ++ N) w') ((execOp a.eval o).run C.P w) := by
  let a' : Act := { tmps := Array.ofFn (n := C.n) fun i => (E.get i).getD (a.tmps.getD i undef), defers := [] }
  have hr : Rel C.n E a' := by
    refine ⟨by simp [a'], rfl, fun d v hd => ?_⟩
    have := hE d v hd
    simp [a', this, hd]
  have key := h.out a' w M hr hs
  have : execOp a'.eval o = execOp a.eval o := execOp_congr o hsel fun x hx => by
    cases x with
    | tmp t =>
      have ht : t ∈ slotsOf l.toArray o := by
        unfold slotsOf tmpsOf
        refine List.mem_append_left _ (List.mem_append_left _ ?_)
        exact List.mem_filterMap.2 ⟨.tmp t, by simpa using hx, rfl⟩
      simp only [Act.eval, a']
      by_cases hlt : t < C.n
      · cases hg : E.get t with
        | none => simp [Array.getD_eq_getD_getElem?, hlt, hg]
        | some v =>
          have := hget t ht v hg
          simp [Array.getD_eq_getD_getElem?, hlt, hg, this]
      · have h1 : a.tmps[t]? = none := Array.getElem?_eq_none (by rw [hsz]; exact Nat.le_of_not_lt hlt)
        simp [Array.getD_eq_getD_getElem?, hlt, h1]
    | _ => rfl
  rw [this] at key
  exact key

/-! ### the walk -/

structure DState where
  E : Hist → Env
  B : Hist → Hp
  Nw : Hist → Hp
  G : List (Nat × (Hist → Prop))

structure DRow where
  φ : Hist → Value → Hp → Prop
  t : Hist → Value
  M : Hist → Hp
  pf : Option (Hist → Prop)
  st : Bool

def newsDeps (l0 : List Oper) (m : Nat) (H : Hist) : Hp := ((List.range l0.length).filter (dep l0.toArray · m)).flatMap fun j => (H j).2

def Facts (l0 : List Oper) (m : Nat) (G : List (Nat × (Hist → Prop))) (H : Hist) : Prop := ∀ p ∈ G, dep l0.toArray p.1 m = true → p.2 H

/-- What stores turn that may come early: nobody else looks at it. It is there from the begin, or an operation of the region makes it. -/
structure Tk where
  tk : Nat → Hist → Hp
  cz : Nat → Option Nat
  q : Nat
  htk : ∀ m, m < q → ∀ H, tk m H = []
  hcz : ∀ m j, cz m = some j → q ≤ j
  hinj : ∀ m m' j, cz m = some j → cz m' = some j → m = m'
  hloc : ∀ m (H H' : Hist), (∀ j, cz m = some j → H j = H' j) → tk m H = tk m H'
def Tk.none (q : Nat) : Tk := ⟨fun _ _ => [], fun _ => .none, q, fun _ _ _ => rfl, fun _ _ h => (by cases h), fun _ _ _ h => (by cases h), fun _ _ _ _ => rfl⟩
/-- How far an order is drawn, and what is to hold there. -/
structure Zone where
  p : Nat
  F : Env → Hp → Prop
  old : Tk
  tl : List Oper

structure DCond (C : Ctx) (l0 : List Oper) (p : Nat) (old : Tk) (m : Nat) (o : Oper) (s : DState) (r : DRow) (s' : DState) : Prop where
  loc : ∀ H H' : Hist, (∀ j, dep l0.toArray j m = true → H j = H' j) → ∀ v N, r.φ H v N → r.φ H' v N
  val : ∀ H : Hist, r.φ H (H m).1 (H m).2 → r.t H = (H m).1 ∧ r.M H = (H m).2
  hE : ∀ H, s'.E H = putE o.dst (r.t H) (s.E H)
  hN : ∀ H, s'.Nw H = s.Nw H ++ r.M H
  hG : s'.G = s.G ++ (match r.pf with | none => [] | some p => [(m, p)])
  hpf : ∀ p, r.pf = some p → ∀ H : Hist, r.φ H (H m).1 (H m).2 → p H
  same : r.st = false → s'.B = s.B
  store : r.st = true → okStore l0 m = true ∧ isMem o.op = true ∧ ∃ (q : Nat) (ob : Hist → Asr), (∀ H, s'.B H = (s.B H).set q (ob H)) ∧ ∀ H H' : Hist, (∀ j, dep l0.toArray j m = true → H j = H' j) → ob H = ob H'
  fits : fitsN C.n o.dst = true
  step : m < p → ∀ H, Facts l0 m s.G H → ∃ b, wantedE l0.toArray (s.E H) o.guard = some b ∧ (b = false → r.st = false ∧ old.tk m H = [] ∧ (∀ m', old.cz m' ≠ some m) ∧ r.φ H undef []) ∧
    (b = true → ((∀ m', old.cz m' ≠ some m) ∧ ((old.tk m H = [] ∧ if isMem o.op = true then Does C (s.E H) (s.B H ++ newsDeps l0 m H) (s'.B H ++ newsDeps l0 m H) o (r.φ H) else Does C (s.E H) [] [] o (r.φ H)) ∨
      (r.st = false ∧ Does C (s.E H) (old.tk m H) [] o (r.φ H)))) ∨
      (r.st = false ∧ old.tk m H = [] ∧ ∃ m', old.cz m' = some m ∧ Does C (s.E H) [] [] o fun v N => r.φ H v [] ∧ ∀ H' : Hist, (H' m).1 = v → N = old.tk m' H'))

inductive DW (C : Ctx) (l0 : List Oper) (z : Zone) : List Oper → Nat → DState → Prop
  | nil {m : Nat} {s : DState} (h : ∀ H, (∀ p ∈ s.G, p.2 H) → z.F (s.E H) (s.B H ++ s.Nw H)) : DW C l0 z [] m s
  | cons {o : Oper} {l : List Oper} {m : Nat} {s : DState} (r : DRow) (s' : DState) (hc : DCond C l0 z.p z.old m o s r s') (h : DW C l0 z l (m + 1) s') : DW C l0 z (o :: l) m s

/-- Behind the drawn ones: whatever comes. -/
def behind (l0 : List Oper) (m : Nat) (s : DState) : Nat → DState
  | 0 => s
  | n + 1 => ⟨fun H => putE ((l0[m + n]?).bind (·.dst)) (H (m + n)).1 ((behind l0 m s n).E H), (behind l0 m s n).B, fun H => (behind l0 m s n).Nw H ++ (H (m + n)).2, (behind l0 m s n).G⟩

theorem DW.tab {C : Ctx} {l0 : List Oper} {z : Zone} {l : List Oper} {m : Nat} {s : DState} (h : DW C l0 z l m s) (hfit : ∀ i o, z.p ≤ i → l0[i]? = some o → fitsN C.n o.dst = true)
    (hl : ∀ j, j < l.length → l[j]? = l0[m + j]?) (hz : m + l.length = z.p) :
    ∃ (S : Nat → DState) (R : Nat → DRow), S m = s ∧ (∀ i o, m ≤ i → l0[i]? = some o → DCond C l0 z.p z.old i o (S i) (R i) (S (i + 1))) ∧
      ∀ H, (∀ p ∈ (S z.p).G, p.2 H) → z.F ((S z.p).E H) ((S z.p).B H ++ (S z.p).Nw H) := by
  induction h with
  | @nil m s h =>
    have hm : z.p = m := by simpa using hz.symm
    refine ⟨fun i => behind l0 m s (i - m), fun i => ⟨fun _ _ _ => True, fun H => (H i).1, fun H => (H i).2, none, false⟩, by simp [behind], fun i o hi ho => ?_, by simpa [hm, behind] using h⟩
    have e : i + 1 - m = (i - m) + 1 := by omega
    have e2 : m + (i - m) = i := by omega
    refine ⟨fun _ _ _ _ _ h => h, fun _ _ => ⟨rfl, rfl⟩, fun H => ?_, fun H => ?_, ?_, fun _ h => (by cases h), fun _ => ?_, fun h => (by cases h), hfit i o (by omega) ho, fun h => absurd h (by omega)⟩
    · simp only [e, behind, e2, ho, Option.bind_some]
    · simp only [e, behind, e2]
    · simp only [e, behind, List.append_nil]
    · simp only [e, behind]
  | @cons o l m s r s' hc h ih =>
    obtain ⟨S, R, hS, hC, hF⟩ := ih (fun j hj => by have := hl (j + 1) (by simpa using hj); simpa [Nat.add_assoc, Nat.add_comm 1 j] using this) (by rw [← hz]; simp; omega)
    have ho : l0[m]? = some o := by simpa using (hl 0 (by simp)).symm
    refine ⟨fun i => if i = m then s else S i, fun i => if i = m then r else R i, by simp, fun i o' hi ho' => ?_, ?_⟩
    · by_cases him : i = m
      · subst him
        rw [ho] at ho'
        cases ho'
        simp only [if_true, show ¬ i + 1 = i by omega, if_false, hS]
        exact hc
      · simp only [him, show ¬ i + 1 = m by omega, if_false]
        exact hC i o' (by omega) ho'
    · have e : ¬ z.p = m := by rw [← hz]; simp
      simp only [e, if_false]
      exact hF

/-! ### whatever order -/

def news (n : Nat) (listed : Array Bool) (H : Hist) : Hp := ((List.range n).filter fun j => listed.getD j false).flatMap fun j => (H j).2
/-- What stores that haven't come up will turn. -/
def pend (n : Nat) (old : Tk) (listed : Array Bool) (H : Hist) : Hp := (List.range n).flatMap fun m => if (!listed.getD m false && (match old.cz m with | none => true | some j => listed.getD j false)) = true then old.tk m H else []

/-- The last one ahead of m that writes the slot. -/
def lastW (l0 : List Oper) (d : Nat) : Nat → Option Nat
  | 0 => none
  | m + 1 => if (l0[m]?).bind (·.dst) = some d then some m else lastW l0 d m

theorem lastW_some {l0 : List Oper} {d : Nat} : ∀ {m j : Nat}, lastW l0 d m = some j → j < m ∧ (l0[j]?).bind (·.dst) = some d ∧ ∀ i, i < m → (l0[i]?).bind (·.dst) = some d → i ≤ j
  | 0, _, h => by cases h
  | m + 1, j, h => by
    simp only [lastW] at h
    split at h
    · rename_i hd
      cases h
      exact ⟨by omega, hd, fun i hi _ => by omega⟩
    · rename_i hd
      have := lastW_some h
      refine ⟨by omega, this.2.1, fun i hi hw => ?_⟩
      by_cases him : i = m
      · subst him; exact absurd hw hd
      · exact this.2.2 i (by omega) hw
theorem lastW_none {l0 : List Oper} {d : Nat} : ∀ {m : Nat}, lastW l0 d m = none → ∀ i, i < m → (l0[i]?).bind (·.dst) ≠ some d
  | 0, _, i, hi => by omega
  | m + 1, h, i, hi => by
    simp only [lastW] at h
    split at h
    · cases h
    · rename_i hd
      by_cases him : i = m
      · subst him; exact hd
      · exact lastW_none h i (by omega)

theorem putE_get (dst : Option Nat) (v : Value) (E : Env) (d : Nat) : (putE dst v E).get d = if dst = some d then some v else E.get d := by
  cases dst with
  | none => simp [putE]
  | some e =>
    simp only [putE, Env.get, Option.some.injEq]
    by_cases h : e = d
    · subst h; simp
    · have : Nat.beq e d = false := by
        cases hh : Nat.beq e d with
        | false => rfl
        | true => exact absurd (Nat.eq_of_beq_eq_true hh) h
      simp [this, h]

section
variable {C : Ctx} {l0 : List Oper} {S : Nat → DState} {R : Nat → DRow} {p : Nat} {old : Tk}

theorem tab_get (hC : ∀ i o, l0[i]? = some o → DCond C l0 p old i o (S i) (R i) (S (i + 1))) (H : Hist) (d : Nat) : ∀ m, m ≤ l0.length →
    ((S m).E H).get d = match lastW l0 d m with | some j => some ((R j).t H) | none => ((S 0).E H).get d
  | 0, _ => rfl
  | m + 1, hm => by
    have ho : l0[m]? = some l0[m] := List.getElem?_eq_getElem (by omega)
    rw [(hC m _ ho).hE H, putE_get, tab_get hC H d m (by omega)]
    simp only [lastW, ho, Option.bind_some]
    split <;> rfl

theorem tab_facts (hC : ∀ i o, l0[i]? = some o → DCond C l0 p old i o (S i) (R i) (S (i + 1))) (h0 : (S 0).G = []) : ∀ m, m ≤ l0.length → ∀ p ∈ (S m).G, p.1 < m ∧ (R p.1).pf = some p.2
  | 0, _, p, hp => by rw [h0] at hp; cases hp
  | m + 1, hm, p, hp => by
    have ho : l0[m]? = some l0[m] := List.getElem?_eq_getElem (by omega)
    rw [(hC m _ ho).hG] at hp
    rcases List.mem_append.1 hp with hp | hp
    · have := tab_facts hC h0 m (by omega) p hp
      exact ⟨by omega, this.2⟩
    · split at hp
      · cases hp
      · rename_i q hq
        simp at hp
        subst hp
        exact ⟨by simp, hq⟩

theorem tab_news (hC : ∀ i o, l0[i]? = some o → DCond C l0 p old i o (S i) (R i) (S (i + 1))) (h0 : ∀ H, (S 0).Nw H = []) (H : Hist) {q : Nat} (hq : q ≤ l0.length) (hv : ∀ m, m < q → (R m).φ H (H m).1 (H m).2) : ∀ m, m ≤ q →
    (S m).Nw H = (List.range m).flatMap fun j => (H j).2
  | 0, _ => by simp [h0]
  | m + 1, hm => by
    have ho : l0[m]? = some l0[m] := List.getElem?_eq_getElem (by omega)
    rw [(hC m _ ho).hN, tab_news hC h0 H hq hv m (by omega), ((hC m _ ho).val H (hv m (by omega))).2, List.range_succ]
    simp

theorem tab_B (hC : ∀ i o, l0[i]? = some o → DCond C l0 p old i o (S i) (R i) (S (i + 1))) : ∀ s s', s ≤ s' → s' ≤ l0.length → (∀ j, s ≤ j → j < s' → (R j).st = false) → (S s').B = (S s).B := by
  intro s s' h
  induction s' with
  | zero => intro _ _; rw [show s = 0 by omega]
  | succ m ih =>
    intro hm hst
    by_cases e : s = m + 1
    · rw [e]
    · have ho : l0[m]? = some l0[m] := List.getElem?_eq_getElem (by omega)
      rw [(hC m _ ho).same (hst m (by omega) (by omega))]
      exact ih (by omega) (by omega) fun j h1 h2 => hst j h1 (by omega)

theorem tab_B2 (hC : ∀ i o, l0[i]? = some o → DCond C l0 p old i o (S i) (R i) (S (i + 1))) {s s' : Nat} (hs : s ≤ l0.length) (hs' : s' ≤ l0.length) (h : ∀ j, j < l0.length → (R j).st = true → (j < s ↔ j < s')) : (S s').B = (S s).B := by
  rcases Nat.le_total s s' with hle | hle
  · refine tab_B hC s s' hle hs' fun j h1 h2 => ?_
    cases hj : (R j).st with
    | false => rfl
    | true => have := (h j (by omega) hj).2 h2; omega
  · refine (tab_B hC s' s hle hs fun j h1 h2 => ?_).symm
    cases hj : (R j).st with
    | false => rfl
    | true => have := (h j (by omega) hj).1 h2; omega

theorem tab_Bloc (hC : ∀ i o, l0[i]? = some o → DCond C l0 p old i o (S i) (R i) (S (i + 1))) (h0 : ∀ H H', (S 0).B H = (S 0).B H') (H H' : Hist) : ∀ s, s ≤ l0.length →
    (∀ j, j < s → (R j).st = true → ∀ i, dep l0.toArray i j = true → H i = H' i) → (S s).B H = (S s).B H'
  | 0, _, _ => h0 H H'
  | m + 1, hm, h => by
    have ho : l0[m]? = some l0[m] := List.getElem?_eq_getElem (by omega)
    have ih := tab_Bloc hC h0 H H' m (by omega) fun j hj => h j (by omega)
    cases hst : (R m).st with
    | false => rw [(hC m _ ho).same hst]; exact ih
    | true =>
      obtain ⟨_, _, q, ob, hob, hloc⟩ := (hC m _ ho).store hst
      rw [hob, hob, ih, hloc H H' (h m (by omega) hst)]
end

theorem filter_put {p : Nat → Bool} {i : Nat} (hp : p i = false) : ∀ {l : List Nat}, l.Nodup → i ∈ l → (l.filter fun j => p j || j == i).Perm (l.filter p ++ [i])
  | [], _, h => by cases h
  | x :: l, hn, h => by
    have hn' := List.nodup_cons.1 hn
    by_cases hx : x = i
    · subst hx
      have e : (l.filter fun j => p j || j == x) = l.filter p := List.filter_congr fun j hj => by
        have : j ≠ x := fun e => hn'.1 (e ▸ hj)
        simp [this]
      simp only [List.filter_cons, hp, Bool.false_or, beq_self_eq_true, if_true, e]
      exact (List.perm_append_comm (l₁ := [x]))
    · have hi : i ∈ l := by
        rcases List.mem_cons.1 h with h | h
        · exact absurd h.symm hx
        · exact h
      have ih := filter_put hp hn'.2 hi
      simp only [List.filter_cons]
      have e : (x == i) = false := by simp [hx]
      simp only [e, Bool.or_false]
      split
      · exact ih.cons x
      · exact ih

theorem flatMap_upd {f g : Nat → Hp} {i : Nat} (hg : g i = []) (h : ∀ j, j ≠ i → f j = g j) : ∀ n, i < n → ((List.range n).flatMap f).Perm ((List.range n).flatMap g ++ f i)
  | 0, hi => by omega
  | n + 1, hi => by
    rw [List.range_succ, List.flatMap_append, List.flatMap_append]
    simp only [List.flatMap_cons, List.flatMap_nil, List.append_nil]
    by_cases hin : i = n
    · subst hin
      rw [hg, List.append_nil]
      refine List.Perm.append_right _ (List.Perm.of_eq ?_)
      rw [List.flatMap_def, List.flatMap_def]
      congr 1
      exact List.map_congr_left fun j hj => h j (by have := List.mem_range.1 hj; omega)
    · rw [h n (fun e => hin e.symm)]
      refine (List.Perm.append_right _ (flatMap_upd hg h n (by omega))).trans ?_
      rw [List.append_assoc, List.append_assoc]
      exact List.Perm.append_left _ List.perm_append_comm
theorem getD_put {listed : Array Bool} {i j : Nat} (hi : i < listed.size) : (listed.setIfInBounds i true).getD j false = if j = i then true else listed.getD j false := by
  by_cases h : j = i
  · subst h; simp [hi]
  · rw [getD_set_ne false (fun e => h e.symm), if_neg h]
theorem pend_take {n : Nat} {old : Tk} {listed : Array Bool} {H : Hist} {i : Nat} {x : Value × Hp} (hl : listed.size = n) (hi : i < n) (hun : listed.getD i false = false) (hno : ∀ m', old.cz m' ≠ some i) (hav : ∀ j, old.cz i = some j → listed.getD j false = true) :
    (pend n old listed H).Perm (pend n old (listed.setIfInBounds i true) (fun j => if j = i then x else H j) ++ old.tk i H) := by
  have hls : i < listed.size := by rw [hl]; exact hi
  unfold pend
  have key := flatMap_upd (i := i) (f := fun m => if (!listed.getD m false && (match old.cz m with | none => true | some j => listed.getD j false)) = true then old.tk m H else [])
    (g := fun m => if (!(listed.setIfInBounds i true).getD m false && (match old.cz m with | none => true | some j => (listed.setIfInBounds i true).getD j false)) = true then old.tk m (fun j => if j = i then x else H j) else [])
    (by simp only [getD_put hls]; simp) (fun m hm => ?_) n hi
  · refine key.trans (List.Perm.append_left _ (List.Perm.of_eq ?_))
    simp only [hun, Bool.not_false, Bool.true_and]
    cases hc : old.cz i with
    | none => rfl
    | some j => simp only [hav j hc]; rfl
  · have e1 : old.tk m (fun j => if j = i then x else H j) = old.tk m H := old.hloc m _ _ fun j hj => by
      have : j ≠ i := fun e => hno m (e ▸ hj)
      simp [this]
    rw [e1]
    simp only [getD_put hls, if_neg hm]
    cases hc : old.cz m with
    | none => rfl
    | some j =>
      have : j ≠ i := fun e => hno m (e ▸ hc)
      simp only [if_neg this]
theorem pend_give {n : Nat} {old : Tk} {listed : Array Bool} {H : Hist} {i m0 : Nat} {x : Value × Hp} (hl : listed.size = n) (hi : i < n) (hm0 : m0 < n) (hne : m0 ≠ i) (hun : listed.getD i false = false) (hun0 : listed.getD m0 false = false) (hc : old.cz m0 = some i) (hno : old.tk i H = []) :
    (pend n old (listed.setIfInBounds i true) (fun j => if j = i then x else H j)).Perm (pend n old listed H ++ old.tk m0 (fun j => if j = i then x else H j)) := by
  have hls : i < listed.size := by rw [hl]; exact hi
  unfold pend
  have key := flatMap_upd (i := m0) (g := fun m => if (!listed.getD m false && (match old.cz m with | none => true | some j => listed.getD j false)) = true then old.tk m H else [])
    (f := fun m => if (!(listed.setIfInBounds i true).getD m false && (match old.cz m with | none => true | some j => (listed.setIfInBounds i true).getD j false)) = true then old.tk m (fun j => if j = i then x else H j) else [])
    (by simp only [hc, hun, Bool.and_false]; rfl) (fun m hm => ?_) n hm0
  · refine key.trans (List.Perm.append_left _ (List.Perm.of_eq ?_))
    simp only [getD_put hls, if_neg hne, hun0, hc]
    rfl
  · simp only [getD_put hls]
    by_cases hmi : m = i
    · subst hmi
      simp [hno]
    · have hcm : old.cz m ≠ some i := fun e => hm (old.hinj _ _ _ e hc)
      have e1 : old.tk m (fun j => if j = i then x else H j) = old.tk m H := old.hloc m _ _ fun j hj => by
        have : j ≠ i := fun e => hcm (e ▸ hj)
        simp [this]
      rw [e1, if_neg hmi]
      cases hc2 : old.cz m with
      | none => rfl
      | some j =>
        have : j ≠ i := fun e => hcm (e ▸ hc2)
        simp only [if_neg this]
theorem pend_any {n : Nat} {old : Tk} {listed : Array Bool} {H : Hist} {i : Nat} (hno : ∀ m', old.cz m' ≠ some i) (x y : Value × Hp) : pend n old listed (fun j => if j = i then x else H j) = pend n old listed (fun j => if j = i then y else H j) := by
  unfold pend
  rw [List.flatMap_def, List.flatMap_def]
  congr 1
  refine List.map_congr_left fun m _ => ?_
  have : old.tk m (fun j => if j = i then x else H j) = old.tk m (fun j => if j = i then y else H j) := old.hloc m _ _ fun j hj => by
    have : j ≠ i := fun e => hno m (e ▸ hj)
    simp [this]
  rw [this]
structure Inv (C : Ctx) (l0 : List Oper) (S : Nat → DState) (R : Nat → DRow) (old : Tk) (listed : Array Bool) (a : Act) (w : World) (H : Hist) : Prop where
  lsz : listed.size = l0.length
  closed : ∀ j m, dep l0.toArray j m = true → listed.getD m false = true → listed.getD j false = true
  valid : ∀ m, listed.getD m false = true → (R m).φ H (H m).1 (H m).2
  size : a.tmps.size = C.n
  defers : a.defers = []
  act : ∀ d m, m ≤ l0.length → (∀ j, (l0[j]?).bind (·.dst) = some d → (j < m ↔ listed.getD j false = true)) →
    match lastW l0 d m with
    | some j => a.tmps[d]? = some (H j).1
    | none => ∀ v, ((S 0).E H).get d = some v → a.tmps[d]? = some v
  mem : ∃ s, s ≤ l0.length ∧ (∀ j, j < l0.length → (R j).st = true → (j < s ↔ listed.getD j false = true)) ∧ St C (((S s).B H ++ news l0.length listed H) ++ pend l0.length old listed H) w

section
variable {C : Ctx} {l0 : List Oper} {S : Nat → DState} {R : Nat → DRow} {p : Nat} {old : Tk}
variable (hok : okReg l0 = true) (hC : ∀ i o, l0[i]? = some o → DCond C l0 p old i o (S i) (R i) (S (i + 1))) (hG0 : (S 0).G = []) (hN0 : ∀ H, (S 0).Nw H = []) (hE0 : ∀ H H', (S 0).E H = (S 0).E H') (hB0 : ∀ H H', (S 0).B H = (S 0).B H')

include hok in
theorem ready_deps {listed : Array Bool} (hcl : ∀ j m, dep l0.toArray j m = true → listed.getD m false = true → listed.getD j false = true) {i : Nat} (hr : i ∈ Region.ready .any l0.toArray listed) :
    ∀ j, dep l0.toArray j i = true → listed.getD j false = true := by
  intro j hj
  obtain ⟨_, o, ho, hall⟩ := mem_ready.1 hr
  have ho' : l0[i]? = some o := by simpa using ho
  obtain ⟨e, he, hb, h⟩ := dep_spec ho' (okReg_after hok ho') hj
  have := hall e he hb
  rcases h with rfl | h
  · exact this
  · exact hcl _ _ h this

include hok hC hG0 in
/-- What an operation that may come up now sees. -/
theorem Inv.sees {listed : Array Bool} {a : Act} {w : World} {H : Hist} (h : Inv C l0 S R old listed a w H) {i : Nat} (hr : i ∈ Region.ready .any l0.toArray listed) (hun : listed.getD i false = false) {o : Oper} (ho : l0[i]? = some o) :
    (∀ d ∈ slotsOf l0.toArray o, ∀ v, ((S i).E H).get d = some v → a.tmps[d]? = some v) ∧ Facts l0 i (S i).G H := by
  have hi : i < l0.length := (List.getElem?_eq_some_iff.1 ho).1
  have hdeps := ready_deps hok h.closed hr
  constructor
  · intro d hd v hv
    have hcond : ∀ j, (l0[j]?).bind (·.dst) = some d → (j < i ↔ listed.getD j false = true) := by
      intro j hj
      cases hp : l0[j]? with
      | none => simp [hp] at hj
      | some p =>
        have hpd : p.dst = some d := by simpa [hp] using hj
        constructor
        · intro hji
          have := okReg_slot hok ho hp hpd hd (by omega)
          rw [Nat.min_eq_left (by omega), Nat.max_eq_right (by omega)] at this
          exact hdeps j this
        · intro hl
          rcases Nat.lt_trichotomy j i with h1 | h1 | h1
          · exact h1
          · subst h1; rw [hun] at hl; cases hl
          · have := okReg_slot hok ho hp hpd hd (by omega)
            rw [Nat.min_eq_right (by omega), Nat.max_eq_left (by omega)] at this
            have := h.closed _ _ this hl
            rw [hun] at this; cases this
    have h1 := h.act d i (by omega) hcond
    have h2 := tab_get hC H d i (by omega)
    cases hlw : lastW l0 d i with
    | some j =>
      rw [hlw] at h1 h2
      simp only at h1 h2
      have hj := lastW_some hlw
      have hlj := (hcond j hj.2.1).1 hj.1
      have hoj : l0[j]? = some l0[j] := List.getElem?_eq_getElem (by omega)
      have := ((hC j _ hoj).val H (h.valid j hlj)).1
      rw [h1, ← this]
      rw [h2] at hv
      exact hv
    | none =>
      rw [hlw] at h1 h2
      simp only at h1 h2
      exact h1 v (by rw [← h2]; exact hv)
  · intro p hp hd
    have h1 := tab_facts hC hG0 i (by omega) p hp
    have hoj : l0[p.1]? = some l0[p.1] := List.getElem?_eq_getElem (by omega)
    exact (hC _ _ hoj).hpf _ h1.2 H (h.valid _ (hdeps _ hd))

include hok hC hE0 hB0 in
/-- A slot and its value: the frame behind an operation. -/
theorem Inv.put {listed : Array Bool} {a : Act} {w : World} {H : Hist} (h : Inv C l0 S R old listed a w H) {i : Nat} (hr : i ∈ Region.ready .any l0.toArray listed) (hun : listed.getD i false = false) {o : Oper} (ho : l0[i]? = some o)
    {v : Value} {N : Hp} (hφ : (R i).φ H v N) {w' : World}
    (hmem : ∃ s, s ≤ l0.length ∧ (∀ j, j < l0.length → (R j).st = true → (j < s ↔ (listed.setIfInBounds i true).getD j false = true)) ∧ St C (((S s).B H ++ (news l0.length listed H ++ N)) ++ pend l0.length old (listed.setIfInBounds i true) (fun j => if j = i then (v, N) else H j)) w') :
    Inv C l0 S R old (listed.setIfInBounds i true) (a.put o.dst v) w' (fun j => if j = i then (v, N) else H j) := by
  have hi : i < l0.length := (List.getElem?_eq_some_iff.1 ho).1
  have hil : i < listed.size := by rw [h.lsz]; exact hi
  have hdeps := ready_deps hok h.closed hr
  have hset : ∀ j, (listed.setIfInBounds i true).getD j false = (listed.getD j false || j == i) := by
    intro j
    by_cases hj : i = j
    · subst hj; simp [hil]
    · rw [getD_set_ne false hj]
      have : (j == i) = false := by simp; exact fun e => hj e.symm
      simp [this]
  have hagree : ∀ m, listed.getD m false = true ∨ m = i → ∀ j, dep l0.toArray j m = true → H j = (fun j => if j = i then (v, N) else H j) j := by
    intro m hm j hj
    have hlj : listed.getD j false = true := by
      rcases hm with hm | rfl
      · exact h.closed j m hj hm
      · exact hdeps j hj
    have : j ≠ i := by rintro rfl; rw [hun] at hlj; cases hlj
    simp [this]
  refine ⟨by simpa using h.lsz, ?_, ?_, ?_, ?_, ?_, ?_⟩
  · intro j m hd hm
    rw [hset] at hm ⊢
    rcases Bool.or_eq_true_iff.1 hm with hm | hm
    · simp [h.closed j m hd hm]
    · have : m = i := by simpa using hm
      subst this
      simp [hdeps j hd]
  · intro m hm
    rw [hset] at hm
    rcases Bool.or_eq_true_iff.1 hm with hm | hm
    · have hmi : m ≠ i := fun e => by rw [e, hun] at hm; exact absurd hm (by simp)
      have hml : m < l0.length := by
        rcases Nat.lt_or_ge m l0.length with h1 | h1
        · exact h1
        · rw [Array.getD_eq_getD_getElem?, Array.getElem?_eq_none (by rw [h.lsz]; exact h1)] at hm; cases hm
      have hom : l0[m]? = some l0[m] := List.getElem?_eq_getElem hml
      have := (hC m _ hom).loc H _ (hagree m (.inl hm)) _ _ (h.valid m hm)
      simpa [hmi] using this
    · have hmi : m = i := by simpa using hm
      subst hmi
      have := (hC m _ ho).loc H _ (hagree m (.inr rfl)) _ _ hφ
      simpa using this
  · cases hd : o.dst <;> simp [Act.put, h.size]
  · cases hd : o.dst <;> simp [Act.put, h.defers]
  · intro d m hm hcond
    have hdst : o.dst = some d → i < m := fun hd => (hcond i (by simp [ho, hd])).2 (by rw [hset]; simp)
    by_cases hod : o.dst = some d
    · have him := hdst hod
      have hdn : d < a.tmps.size := by
        have := (hC i _ ho).fits
        rw [hod] at this
        rw [h.size]
        simpa [fitsN] using this
      have hlast : lastW l0 d m = some i := by
        cases hlw : lastW l0 d m with
        | none => exact absurd (show (l0[i]?).bind (·.dst) = some d by simp [ho, hod]) (lastW_none hlw i him)
        | some j =>
          have hj := lastW_some hlw
          have hij := hj.2.2 i him (by simp [ho, hod])
          rcases Nat.eq_or_lt_of_le hij with h1 | h1
          · rw [h1]
          · exfalso
            have hlj := (hcond j hj.2.1).1 hj.1
            rw [hset] at hlj
            have hlj' : listed.getD j false = true := by
              rcases Bool.or_eq_true_iff.1 hlj with h2 | h2
              · exact h2
              · have : j = i := by simpa using h2
                omega
            cases hp : l0[j]? with
            | none => have := hj.2.1; simp [hp] at this
            | some p =>
              have hpd : p.dst = some d := by have := hj.2.1; simpa [hp] using this
              have hds : d ∈ slotsOf l0.toArray o := by unfold slotsOf; rw [hod]; simp
              have := okReg_slot hok ho hp hpd hds (by omega)
              rw [Nat.min_eq_right (by omega), Nat.max_eq_left (by omega)] at this
              have := h.closed _ _ this hlj'
              rw [hun] at this; cases this
      rw [hlast]
      simp [Act.put, hod, hdn]
    · have hcond' : ∀ j, (l0[j]?).bind (·.dst) = some d → (j < m ↔ listed.getD j false = true) := by
        intro j hj
        have hji : j ≠ i := by rintro rfl; simp [ho] at hj; exact hod hj
        have := hcond j hj
        rw [hset] at this
        simpa [hji] using this
      have h1 := h.act d m hm hcond'
      have hput : (a.put o.dst v).tmps[d]? = a.tmps[d]? := by
        cases hd : o.dst with
        | none => rfl
        | some e =>
          have : e ≠ d := fun e' => hod (by rw [hd, e'])
          simp [Act.put, Array.getElem?_setIfInBounds_ne this]
      cases hlw : lastW l0 d m with
      | none =>
        rw [hlw] at h1
        simp only at h1 ⊢
        rw [hput, hE0 _ H]
        exact h1
      | some j =>
        rw [hlw] at h1
        simp only at h1 ⊢
        have hj := lastW_some hlw
        have hji : j ≠ i := by
          rintro rfl
          have := hj.2.1
          simp [ho] at this
          exact hod this
        rw [hput]
        simpa [hji] using h1
  · obtain ⟨s, hs, hst, hS⟩ := hmem
    refine ⟨s, hs, hst, ?_⟩
    have hB : (S s).B (fun j => if j = i then (v, N) else H j) = (S s).B H := by
      refine (tab_Bloc hC hB0 H _ s hs fun j hj hjs x hx => ?_).symm
      have hlj := (hst j (by omega) hjs).1 hj
      rw [hset] at hlj
      refine hagree j ?_ x hx
      rcases Bool.or_eq_true_iff.1 hlj with h2 | h2
      · exact .inl h2
      · exact .inr (by simpa using h2)
    rw [hB]
    refine hS.perm (List.Perm.append_right _ (List.Perm.append_left _ ?_))
    unfold news
    have e1 : ((List.range l0.length).filter fun j => (listed.setIfInBounds i true).getD j false) = (List.range l0.length).filter fun j => listed.getD j false || j == i := List.filter_congr fun j _ => hset j
    have e2 := filter_put (p := fun j => listed.getD j false) hun List.nodup_range (List.mem_range.2 hi)
    rw [e1]
    refine List.Perm.trans ?_ ((e2.flatMap_right _).symm)
    rw [List.flatMap_append]
    have e3 : ((List.range l0.length).filter fun j => listed.getD j false).flatMap (fun j => ((fun j => if j = i then (v, N) else H j) j : Value × Hp).2) = ((List.range l0.length).filter fun j => listed.getD j false).flatMap fun j => (H j).2 := by
      rw [List.flatMap_def, List.flatMap_def]
      congr 1
      refine List.map_congr_left fun j hj => ?_
      have hl := (List.mem_filter.1 hj).2
      have : j ≠ i := fun e => by rw [e, hun] at hl; exact absurd hl (by simp)
      simp [this]
    rw [e3]
    have e4 : [i].flatMap (fun j => ((fun j => if j = i then (v, N) else H j) j : Value × Hp).2) = N := by simp
    rw [e4]
end

section
variable {C : Ctx} {l0 : List Oper} {S : Nat → DState} {R : Nat → DRow} {p : Nat} {old : Tk}
variable (hok : okReg l0 = true) (hC : ∀ i o, l0[i]? = some o → DCond C l0 p old i o (S i) (R i) (S (i + 1))) (hG0 : (S 0).G = []) (hE0 : ∀ H H', (S 0).E H = (S 0).E H') (hB0 : ∀ H H', (S 0).B H = (S 0).B H')

include hok hC hG0 hE0 hB0 in
/-- One operation comes up. -/
theorem Inv.go (hEn : ∀ i, i ≤ l0.length → ∀ H d v, ((S i).E H).get d = some v → d < C.n) {listed : Array Bool} {a : Act} {w : World} {H : Hist} (h : Inv C l0 S R old listed a w H) {i : Nat} (hr : i ∈ Region.ready .any l0.toArray listed) (hun : listed.getD i false = false) (hip : i < p)
    (hdz : ∀ m j, old.cz m = some j → dep l0.toArray j m = true) {Q : Exit → Act → World → Prop} {K : Act → World → Prop} (hK : ∀ a' w' H', Inv C l0 S R old (listed.setIfInBounds i true) a' w' H' → K a' w') : wpOp C.P l0.toArray Q i K a w := by
  obtain ⟨_, o, ho', _⟩ := mem_ready.1 hr
  have ho : l0[i]? = some o := by simpa using ho'
  have hi : i < l0.length := (List.getElem?_eq_some_iff.1 ho).1
  have hdeps := ready_deps hok h.closed hr
  obtain ⟨hsee, hfacts⟩ := h.sees hok hC hG0 hr hun ho
  obtain ⟨b, hb, hbf, hbt⟩ := (hC i o ho).step hip H hfacts
  have hwant : Region.wanted o (yielded l0.toArray a.tmps) = b := by
    have hg : ∀ d, (match o.guard with | some (g, _) => ((l0.toArray[g]?).bind (·.dst)).toList | none => []) = [d] → ∀ v, ((S i).E H).get d = some v → a.tmps[d]? = some v := fun d hd => hsee d (by unfold slotsOf; rw [hd]; simp)
    unfold wantedE at hb
    unfold Region.wanted
    split at hb
    · rename_i hgd; rw [hgd]; simpa using hb
    · rename_i j want hgd
      rw [hgd] at hg ⊢
      split at hb
      · rename_i d hd
        have key : ∀ v, ((S i).E H).get d = some v → ((l0.toArray[j]?).bind (·.dst)).bind (a.tmps[·]?) = some v := fun v hv => by
          rw [hd]; exact hg d (by simp only [hd]; rfl) v hv
        split at hb
        · rename_i c hc
          have := key _ hc
          simp only [yielded, this]
          simpa using hb
        · rename_i c hc
          have := key _ hc
          simp only [yielded, this]
          simpa using hb
        · cases hb
      · cases hb
  have hset : ∀ j, (listed.setIfInBounds i true).getD j false = (listed.getD j false || j == i) := by
    intro j
    have hil : i < listed.size := by rw [h.lsz]; exact hi
    by_cases hj : i = j
    · subst hj; simp [hil]
    · rw [getD_set_ne false hj]
      have : (j == i) = false := by simp; exact fun e => hj e.symm
      simp [this]
  obtain ⟨s, hs, hst, hS⟩ := h.mem
  have hO : (∀ m', old.cz m' ≠ some i) → ∀ x, (pend l0.length old listed H).Perm (pend l0.length old (listed.setIfInBounds i true) (fun j => if j = i then x else H j) ++ old.tk i H) := fun hno x =>
    pend_take h.lsz hi hun hno fun j hj => hdeps j (hdz i j hj)
  have hB1 : ∀ s', s' ≤ l0.length → (∀ j, j < l0.length → (R j).st = true → (j < s' ↔ listed.getD j false = true)) → (S s').B = (S s).B := fun s' hs' h' =>
    tab_B2 hC hs hs' fun j hj hjs => (hst j hj hjs).trans (h' j hj hjs).symm
  have hcurS : (R i).st = false → ∀ s, (∀ j, j < l0.length → (R j).st = true → (j < s ↔ listed.getD j false = true)) → ∀ j, j < l0.length → (R j).st = true → (j < s ↔ (listed.setIfInBounds i true).getD j false = true) := fun hri s hs' j hj hjs => by
    have : j ≠ i := fun e => by rw [e, hri] at hjs; cases hjs
    rw [hset, hs' j hj hjs]
    simp [this]
  have hmemi : isMem o.op = true → ∀ j, j < l0.length → (R j).st = true → (j < i ↔ listed.getD j false = true) := fun hm j hj hjs => by
    have hoj : l0[j]? = some l0[j] := List.getElem?_eq_getElem hj
    by_cases hji : j = i
    · subst hji; simp [hun]
    · have := okStore_spec ((hC j _ hoj).store hjs).1 ho hm (Ne.symm hji)
      constructor
      · intro hlt
        rw [Nat.min_eq_right (by omega), Nat.max_eq_left (by omega)] at this
        exact hdeps j this
      · intro hl
        rcases Nat.lt_or_ge j i with h1 | h1
        · exact h1
        · rw [Nat.min_eq_left (by omega), Nat.max_eq_right (by omega)] at this
          have := h.closed _ _ this hl
          rw [hun] at this; cases this
  unfold wpOp
  rw [ho']
  simp only
  rw [hwant]
  cases b with
  | false =>
    simp only [Bool.false_eq_true, if_false]
    obtain ⟨h1, h3, h4, h2⟩ := hbf rfl
    have hO := hO h4 (undef, [])
    rw [h3, List.append_nil] at hO
    exact hK _ _ _ (h.put hok hC hE0 hB0 hr hun ho h2 ⟨s, hs, hcurS h1 s hst, (hS.perm (List.Perm.append_left _ hO)).perm (by simp)⟩)
  | true =>
    simp only [if_true]
    refine .inl ?_
    rcases hbt rfl with ⟨hno, hd⟩ | ⟨hri, htk, m0, hc0, hd⟩
    rotate_left
    · have hdm := hdz m0 i hc0
      have hlt := dep_lt hok hdm
      have hun0 : listed.getD m0 false = false := by
        cases hx : listed.getD m0 false with
        | false => rfl
        | true => have := h.closed _ _ hdm hx; rw [hun] at this; cases this
      have := hd.of_act (okReg_sel hok ho) (hEn i (by omega) H) h.size hsee (M := (S s).B H ++ news l0.length listed H ++ pend l0.length old listed H) (by simpa using hS)
      refine this.wp ?_
      rintro v w' ⟨N, ⟨hφ, hN⟩, hSn⟩
      refine hK _ _ _ (h.put hok hC hE0 hB0 hr hun ho hφ ⟨s, hs, hcurS hri s hst, hSn.perm ?_⟩)
      have hg := pend_give (x := (v, [])) h.lsz hi hlt.2 (by omega) hun hun0 hc0 htk
      rw [← hN (fun j => if j = i then (v, []) else H j) (by simp)] at hg
      rw [List.nil_append, List.append_nil, List.append_assoc]
      exact List.Perm.append_left _ hg.symm
    rcases hd with ⟨hold, hd⟩ | ⟨hri, hd⟩
    rotate_left
    · have hS' : St C (old.tk i H ++ ((S s).B H ++ news l0.length listed H ++ pend l0.length old (listed.setIfInBounds i true) (fun j => if j = i then (undef, []) else H j))) w :=
        hS.perm ((List.Perm.append_left _ (hO hno (undef, []))).trans (by rw [← List.append_assoc]; exact List.perm_append_comm))
      have := hd.of_act (okReg_sel hok ho) (hEn i (by omega) H) h.size hsee hS'
      refine this.wp ?_
      rintro v w' ⟨N, hφ, hSn⟩
      refine hK _ _ _ (h.put hok hC hE0 hB0 hr hun ho hφ ⟨s, hs, hcurS hri s hst, hSn.perm ?_⟩)
      rw [pend_any hno (undef, []) (v, N), List.nil_append, List.append_assoc]
      exact (List.Perm.append_left _ List.perm_append_comm).trans (List.Perm.of_eq (by simp only [List.append_assoc]))
    have hO1 := hO hno (undef, [])
    rw [hold, List.append_nil] at hO1
    replace hS := hS.perm (List.Perm.append_left _ hO1)
    have hpa : ∀ x, pend l0.length old (listed.setIfInBounds i true) (fun j => if j = i then (undef, []) else H j) = pend l0.length old (listed.setIfInBounds i true) (fun j => if j = i then x else H j) := fun x => pend_any hno (undef, []) x
    clear hO hO1
    by_cases hm : isMem o.op = true
    · rw [if_pos hm] at hd
      have hmi := hmemi hm
      have hBi := hB1 i (by omega) hmi
      let rst := ((((List.range l0.length).filter fun j => listed.getD j false).filter fun j => !dep l0.toArray j i).flatMap fun j => (H j).2)
      have hp : (news l0.length listed H).Perm (newsDeps l0 i H ++ rst) := by
        unfold news newsDeps
        rw [← List.flatMap_append]
        refine List.Perm.flatMap_right _ ?_
        have e : ((List.range l0.length).filter (dep l0.toArray · i)) = ((List.range l0.length).filter fun j => listed.getD j false).filter (dep l0.toArray · i) := by
          rw [List.filter_filter]
          refine List.filter_congr fun j _ => ?_
          cases hd : dep l0.toArray j i with
          | false => simp
          | true => simp [hdeps j hd]
        rw [e]
        exact (List.filter_append_perm _ _).symm
      have hS' : St C (((S i).B H ++ newsDeps l0 i H) ++ (rst ++ pend l0.length old (listed.setIfInBounds i true) (fun j => if j = i then (undef, []) else H j))) w := by
        rw [hBi]
        refine hS.perm ?_
        rw [← List.append_assoc]
        refine List.Perm.append_right _ ?_
        rw [List.append_assoc]
        exact List.Perm.append_left _ hp
      have := hd.of_act (okReg_sel hok ho) (hEn i (by omega) H) h.size hsee hS'
      refine this.wp ?_
      rintro v w' ⟨N, hφ, hSn⟩
      refine hK _ _ _ (h.put hok hC hE0 hB0 hr hun ho hφ ?_)
      have hperm : ∀ B : Hp, ((B ++ newsDeps l0 i H) ++ (rst ++ pend l0.length old (listed.setIfInBounds i true) (fun j => if j = i then (undef, []) else H j)) ++ N).Perm ((B ++ (news l0.length listed H ++ N)) ++ pend l0.length old (listed.setIfInBounds i true) (fun j => if j = i then (undef, []) else H j)) := fun B => by
        generalize pend l0.length old (listed.setIfInBounds i true) (fun j => if j = i then (undef, []) else H j) = O
        have h1 : ((B ++ newsDeps l0 i H) ++ (rst ++ O) ++ N).Perm (((B ++ newsDeps l0 i H) ++ rst ++ N) ++ O) := by
          rw [← List.append_assoc, List.append_assoc _ O, List.append_assoc _ N]
          exact List.Perm.append_left _ List.perm_append_comm
        refine h1.trans (List.Perm.append_right _ ?_)
        rw [List.append_assoc, List.append_assoc, ← List.append_assoc (newsDeps l0 i H)]
        exact List.Perm.append_left _ (List.Perm.append_right _ hp.symm)
      cases hri : (R i).st with
      | false =>
        rw [(hC i o ho).same hri] at hSn
        exact ⟨i, by omega, hcurS hri i hmi, by have := hSn.perm (hperm _); rwa [hpa (v, N)] at this⟩
      | true =>
        refine ⟨i + 1, by omega, fun j hj hjs => ?_, by have := hSn.perm (hperm _); rwa [hpa (v, N)] at this⟩
        rw [hset]
        have := hmi j hj hjs
        by_cases hji : j = i
        · subst hji; simp
        · have e : (j == i) = false := by simp [hji]
          rw [e, Bool.or_false, ← this]
          omega
    · rw [if_neg hm] at hd
      have hri : (R i).st = false := by
        cases hri : (R i).st with
        | false => rfl
        | true => exact absurd ((hC i o ho).store hri).2.1 hm
      have := hd.of_act (okReg_sel hok ho) (hEn i (by omega) H) h.size hsee (M := (S s).B H ++ news l0.length listed H ++ pend l0.length old (listed.setIfInBounds i true) (fun j => if j = i then (undef, []) else H j)) (by simpa using hS)
      refine this.wp ?_
      rintro v w' ⟨N, hφ, hSn⟩
      refine hK _ _ _ (h.put hok hC hE0 hB0 hr hun ho hφ ⟨s, hs, hcurS hri s hst, hSn.perm ?_⟩)
      rw [← hpa (v, N), List.nil_append, List.append_assoc]
      exact (List.Perm.append_left _ List.perm_append_comm).trans (List.Perm.of_eq (by simp only [List.append_assoc]))

/-- Ordered behind all ahead of it, from p on. -/
def tailOk (l : List Oper) (p : Nat) : Bool :=
  let b := Region.before l.toArray
  l.zipIdx.all fun (_, m) => Nat.blt m p || (List.range m).all fun j => (b.getD m 0).testBit j
theorem tailOk_spec {l : List Oper} {p m j : Nat} (h : tailOk l p = true) (hm : p ≤ m) (hl : m < l.length) (hj : j < m) : dep l.toArray j m = true := by
  unfold tailOk at h
  simp only [List.all_eq_true, Bool.or_eq_true] at h
  have h1 := h (l[m], m) (by rw [List.mem_zipIdx_iff_getElem?]; simp [hl])
  rcases h1 with h1 | h1
  · simp only [Nat.blt_eq] at h1; omega
  · exact h1 j (List.mem_range.2 hj)

/-- All up to p are listed, and no other. -/
structure Upto (l0 : List Oper) (listed : Array Bool) (p : Nat) : Prop where
  size : listed.size = l0.length
  all : ∀ i, i < p → listed.getD i false = true
  none : ∀ i, p ≤ i → listed.getD i false = false

def left (l0 : List Oper) (listed : Array Bool) : Nat := ((List.range l0.length).filter fun j => !listed.getD j false).length
theorem left_put {l0 : List Oper} {listed : Array Bool} {i : Nat} (hl : listed.size = l0.length) (hi : i < l0.length) (hun : listed.getD i false = false) : left l0 (listed.setIfInBounds i true) + 1 = left l0 listed := by
  have hls : i < listed.size := by rw [hl]; exact hi
  have e : ((List.range l0.length).filter fun j => !listed.getD j false).Perm (((List.range l0.length).filter fun j => !(listed.setIfInBounds i true).getD j false) ++ [i]) := by
    have := filter_put (p := fun j => !(listed.setIfInBounds i true).getD j false) (i := i) (by simp [hls]) (l := List.range l0.length) List.nodup_range (List.mem_range.2 hi)
    refine List.Perm.trans (List.Perm.of_eq (List.filter_congr fun j _ => ?_)) this
    by_cases hj : i = j
    · subst hj; simp [hls, hun]
    · rw [getD_set_ne false hj]
      have : (j == i) = false := by simp; exact fun e => hj e.symm
      simp [this]
  have := e.length_eq
  rw [List.length_append, List.length_singleton] at this
  exact this.symm

include hok hC hG0 hE0 hB0 in
theorem Inv.all (hp : p ≤ l0.length) (htail : ∀ m j, p ≤ m → m < l0.length → j < m → dep l0.toArray j m = true) (hEn : ∀ i, i ≤ l0.length → ∀ H d v, ((S i).E H).get d = some v → d < C.n) (hdz : ∀ m j, old.cz m = some j → dep l0.toArray j m = true) {Q : Exit → Act → World → Prop}
    (hQ : ∀ fuel listed a w H, Inv C l0 S R old listed a w H → Upto l0 listed p → left l0 listed ≤ fuel → wpAny C.P .any l0.toArray Q fuel listed a w) :
    ∀ (fuel : Nat) (listed : Array Bool) (a : Act) (w : World) (H : Hist), Inv C l0 S R old listed a w H → (∀ i, p ≤ i → listed.getD i false = false) → left l0 listed ≤ fuel → wpAny C.P .any l0.toArray Q fuel listed a w := by
  have hdone : ∀ (listed : Array Bool) (a : Act) (w : World) (H : Hist), Inv C l0 S R old listed a w H → Region.ready .any l0.toArray listed = [] → ∀ i, i < l0.length → listed.getD i false = true := by
    intro listed a w H h hr i
    induction i using Nat.strongRecOn with
    | _ i ih =>
      intro hi
      cases hl : listed.getD i false with
      | true => rfl
      | false =>
        exfalso
        have ho : l0[i]? = some l0[i] := List.getElem?_eq_getElem hi
        have : i ∈ Region.ready .any l0.toArray listed := by
          rw [mem_ready]
          refine ⟨?_, l0[i], by simp, fun e he hb => ?_⟩
          · have : i < listed.size := by rw [h.lsz]; exact hi
            simpa [this] using hl
          · have := okReg_after hok ho e he hb
            exact ih e.on this (by omega)
        rw [hr] at this
        cases this
  intro fuel
  induction fuel with
  | zero =>
    intro listed a w H h hsuf hf
    refine hQ _ _ _ _ _ h ⟨h.lsz, fun i hi => ?_, hsuf⟩ hf
    cases hl : listed.getD i false with
    | true => rfl
    | false =>
      exfalso
      have : i ∈ (List.range l0.length).filter fun j => !listed.getD j false := List.mem_filter.2 ⟨List.mem_range.2 (by omega), by simp only [hl]; rfl⟩
      have := List.length_pos_of_mem this
      unfold left at hf
      omega
  | succ fuel ih =>
    intro listed a w H h hsuf hf
    by_cases hall : ∀ i, i < p → listed.getD i false = true
    · exact hQ _ _ _ _ _ h ⟨h.lsz, hall, hsuf⟩ hf
    refine ⟨fun hr => absurd (fun i hi => hdone _ _ _ _ h hr i (by omega)) hall, fun i hi => ?_⟩
    obtain ⟨h0, o, ho, _⟩ := mem_ready.1 hi
    have hil : i < l0.length := by
      have : l0[i]? = some o := by simpa using ho
      exact (List.getElem?_eq_some_iff.1 this).1
    have hls : i < listed.size := by rw [h.lsz]; exact hil
    have hun : listed.getD i false = false := by simpa [hls] using h0
    have hip : i < p := by
      refine Nat.lt_of_not_le fun hle => hall fun j hj => ?_
      exact ready_deps hok h.closed hi j (htail i j hle hil (by omega))
    refine h.go hok hC hG0 hE0 hB0 hEn hi hun hip hdz fun a' w' H' h' => ih _ _ _ _ h' (fun j hj => ?_) ?_
    · rw [getD_set_ne false (by omega)]
      exact hsuf j hj
    · have := left_put h.lsz hil hun
      omega
end

theorem wantedE_none {l0 : List Oper} {E : Env} : wantedE l0.toArray E none = some true := rfl

/-- All are listed. -/
theorem wpAny_done {P : Program} {l : List Oper} {Q : Exit → Act → World → Prop} {listed : Array Bool} {a : Act} {w : World} (hu : Upto l listed l.length) (h : Q .normal a w) (fuel : Nat) : wpAny P .any l.toArray Q fuel listed a w := by
  have hr : Region.ready .any l.toArray listed = [] := by
    apply List.eq_nil_iff_forall_not_mem.2
    intro i hi
    obtain ⟨h0, o, ho, _⟩ := mem_ready.1 hi
    have hil : i < l.length := by
      have : l[i]? = some o := by simpa using ho
      exact (List.getElem?_eq_some_iff.1 this).1
    have h1 := hu.all i hil
    have : i < listed.size := by rw [hu.size]; exact hil
    simp [this] at h0 h1
    rw [h0] at h1
    cases h1
  cases fuel with
  | zero => exact ⟨hr, h⟩
  | succ fuel => exact ⟨fun _ => h, fun i hi => by rw [hr] at hi; cases hi⟩
/-- From p on they come in order. -/
theorem wpAny_tail {P : Program} {l : List Oper} {Q : Exit → Act → World → Prop} (hok : okReg l = true) : ∀ (l2 : List Oper) (p : Nat), p + l2.length = l.length → (∀ j, l2[j]? = l[p + j]?) → (∀ m j, p ≤ m → m < l.length → j < m → dep l.toArray j m = true) →
    ∀ (listed : Array Bool) (a : Act) (w : World) (fuel : Nat), Upto l listed p → left l listed ≤ fuel → wpList P l.toArray Q l2 a w → wpAny P .any l.toArray Q fuel listed a w := by
  intro l2
  induction l2 with
  | nil =>
    intro p hp _ _ listed a w fuel hu _ h
    have : p = l.length := by simpa using hp
    subst this
    exact wpAny_done hu h fuel
  | cons o l2 ih =>
    intro p hp hl htail listed a w fuel hu hf h
    have hpl : p < l.length := by rw [← hp]; simp
    have ho : l[p]? = some o := by simpa using (hl 0).symm
    have hunp := hu.none p (Nat.le_refl _)
    have hlp := left_put hu.size hpl hunp
    cases fuel with
    | zero => omega
    | succ fuel =>
      have hready : ∀ i, i ∈ Region.ready .any l.toArray listed → i = p := by
        intro i hi
        obtain ⟨h0, o', ho', hall⟩ := mem_ready.1 hi
        have hil : i < l.length := by
          have : l[i]? = some o' := by simpa using ho'
          exact (List.getElem?_eq_some_iff.1 this).1
        have hls : i < listed.size := by rw [hu.size]; exact hil
        have hun : listed.getD i false = false := by simpa [hls] using h0
        rcases Nat.lt_trichotomy i p with h1 | h1 | h1
        · rw [hu.all i h1] at hun; cases hun
        · exact h1
        · exfalso
          have hd := htail i (i - 1) (by omega) hil (by omega)
          have ho'' : l[i]? = some o' := by simpa using ho'
          obtain ⟨e, he, hb, hcase⟩ := dep_spec ho'' (okReg_after hok ho'') hd
          have h3 := hall e he hb
          have h4 : e.on < p := by
            refine Nat.lt_of_not_le fun hle => ?_
            rw [hu.none _ hle] at h3; cases h3
          rcases hcase with hc | hc
          · omega
          · have := (dep_lt hok hc).1
            omega
      have hin : p ∈ Region.ready .any l.toArray listed := by
        rw [mem_ready]
        refine ⟨?_, o, by simpa using ho, fun e he hb => ?_⟩
        · have : p < listed.size := by rw [hu.size]; exact hpl
          simpa [this] using hunp
        · exact hu.all _ (okReg_after hok ho e he hb)
      refine ⟨fun hr => (by rw [hr] at hin; cases hin), fun i hi => ?_⟩
      obtain rfl := hready i hi
      have hu' : Upto l (listed.setIfInBounds i true) (i + 1) := by
        have hls : i < listed.size := by rw [hu.size]; exact hpl
        refine ⟨by simp [hu.size], fun j hj => ?_, fun j hj => ?_⟩
        · by_cases hji : i = j
          · subst hji; simp [hls]
          · rw [getD_set_ne false hji]; exact hu.all j (by omega)
        · rw [getD_set_ne false (by omega)]; exact hu.none j (by omega)
      have hnext : ∀ a' w', wpList P l.toArray Q l2 a' w' → wpAny P .any l.toArray Q fuel (listed.setIfInBounds i true) a' w' := fun a' w' h' =>
        ih (i + 1) (by rw [← hp]; simp; omega) (fun j => by have := hl (j + 1); simpa [Nat.add_assoc, Nat.add_comm 1 j] using this) (fun m j hm => htail m j (by omega)) _ _ _ _ hu' (by omega) h'
      unfold wpList at h
      unfold wpOp
      have ho2 : l.toArray[i]? = some o := by simpa using ho
      rw [ho2]
      simp only
      split
      · rename_i hw
        rw [if_pos hw] at h
        exact h.imp (Oper.wp_mono hnext) id
      · rename_i hw
        rw [if_neg hw] at h
        exact hnext _ _ h

/-- A region that draws its order, up to z.p. -/
theorem T_regionZ {C : Ctx} {k : K} {E : Env} {L : Hp} {id : Nat} {l l1 l2 : List Oper} {F : Env → Hp → Prop} {old : Tk} {L0 : Hp} (hold : ∀ j, l1.length ≤ j → ∀ H, old.tk j H = []) (hdz : ∀ m j, old.cz m = some j → dep l.toArray j m = true)
    (hL : Emb (L0 ++ (List.range l.length).flatMap fun m => match old.cz m with | none => old.tk m (fun _ => (undef, [])) | some _ => []) L) (hl : l = l1 ++ l2) (hm : C.P.follows .mixedOrders = true) (hok : okReg l = true)
    (htail : ∀ m j, l1.length ≤ m → m < l.length → j < m → dep l.toArray j m = true) (hfit : ∀ i o, l1.length ≤ i → l[i]? = some o → fitsN C.n o.dst = true)
    (hcont : ∀ E L, F E L → ∀ a w, Rel C.n E a → St C L w → ∀ fuel listed, Upto l listed l1.length → left l listed ≤ fuel → wpAny C.P .any l.toArray (lift C (k.sem C)) fuel listed a w)
    {zz : Zone} (hz1 : zz.p = l1.length) (hz2 : zz.F = F) (hz3 : zz.old = old) (h : DW C l zz l1 0 ⟨fun _ => E, fun _ => L0, fun _ => [], []⟩) : T C (.region id l.toArray true) k E L := by
  subst hz2 hz3
  obtain ⟨S, R, hS, hC, hF⟩ := h.tab (by rw [hz1]; exact hfit) (fun j hj => by rw [hl, Nat.zero_add, List.getElem?_append_left hj]) (by rw [hz1]; simp)
  rw [hz1] at hC hF
  have hpl : l1.length ≤ l.length := by rw [hl]; simp
  have hC' : ∀ i o, l[i]? = some o → DCond C l l1.length zz.old i o (S i) (R i) (S (i + 1)) := fun i o => hC i o (by omega)
  have hG0 : (S 0).G = [] := by rw [hS]
  have hN0 : ∀ H, (S 0).Nw H = [] := by rw [hS]; intro _; rfl
  have hE0 : ∀ H H', (S 0).E H = (S 0).E H' := by rw [hS]; intro _ _; rfl
  have hB0 : ∀ H H', (S 0).B H = (S 0).B H' := by rw [hS]; intro _ _; rfl
  refine ⟨⟨fun a w hr hs => wp_region_any hm ?_⟩⟩
  have hEn : ∀ i, i ≤ l.length → ∀ H d v, ((S i).E H).get d = some v → d < C.n := by
    intro i hi H d v hv
    rw [tab_get hC' H d i hi] at hv
    cases hlw : lastW l d i with
    | none =>
      rw [hlw, hS] at hv
      have := hr.get d v hv
      have := (Array.getElem?_eq_some_iff.1 this).1
      rw [hr.size] at this
      exact this
    | some j =>
      have hj := lastW_some hlw
      have hoj : l[j]? = some l[j] := List.getElem?_eq_getElem (by omega)
      have h1 := hj.2.1
      rw [hoj] at h1
      have := (hC' j _ hoj).fits
      simp only [Option.bind_some] at h1
      rw [h1] at this
      simpa [fitsN] using this
  have h0 : Inv C l S R zz.old (Array.replicate l.toArray.size false) a { w with drawn := w.drawn + 1 } (fun _ => (undef, [])) := by
    have hrep : ∀ j, (Array.replicate l.toArray.size false).getD j false = false := fun j => by
      by_cases hj : j < l.length <;> simp [hj]
    refine ⟨by simp, fun j m _ hm => (by rw [hrep] at hm; cases hm), fun m hm => (by rw [hrep] at hm; cases hm), hr.size, hr.defers, fun d m hm hcond => ?_, 0, by omega, fun j _ _ => (by rw [hrep]; simp), ?_⟩
    · have hlw : lastW l d m = none := by
        cases hlw : lastW l d m with
        | none => rfl
        | some j =>
          have hj := lastW_some hlw
          have := (hcond j hj.2.1).1 hj.1
          rw [hrep] at this
          cases this
      rw [hlw, hS]
      exact fun v hv => hr.get d v hv
    · have : news l.length (Array.replicate l.toArray.size false) (fun _ => (undef, [])) = [] := by
        unfold news
        rw [List.filter_eq_nil_iff.2 (fun j _ => by rw [hrep]; simp)]
        rfl
      have ho : pend l.length zz.old (Array.replicate l.toArray.size false) (fun _ => (undef, [])) = (List.range l.length).flatMap fun m => match zz.old.cz m with | none => zz.old.tk m (fun _ => (undef, [])) | some _ => [] := by
        unfold pend
        congr 1
        funext m
        rw [hrep]
        cases zz.old.cz m with
        | none => rfl
        | some j => simp only [hrep]; rfl
      rw [this, hS, ho]
      simp only [List.append_nil]
      replace hs := hs.emb hL
      exact ⟨hs.os, hs.tape, hs.output, hs.size, hs.fixed, hs.fb, let ⟨ow, ho⟩ := hs.own; ⟨ow, ho.free, ho.lt, ho.one, ho.sat⟩⟩
  have hlen : ((List.range l.length).filter fun j => !(Array.replicate l.toArray.size false).getD j false).length ≤ l.toArray.size := by
    refine Nat.le_trans (List.length_filter_le _ _) ?_
    simp
  refine Inv.all hok hC' hG0 hE0 hB0 hpl htail hEn hdz ?_ _ _ _ _ _ h0 (fun i _ => by by_cases hj : i < l.length <;> simp [hj]) hlen
  intro fuel listed a' w' H hI hu hfl
  have hval : ∀ m, m < l1.length → (R m).φ H (H m).1 (H m).2 := fun m hm => hI.valid m (hu.all m hm)
  have hfin := hF H fun p hp => by
    have h1 := tab_facts hC' hG0 l1.length hpl p hp
    have hoj : l[p.1]? = some l[p.1] := List.getElem?_eq_getElem (by omega)
    exact (hC' _ _ hoj).hpf _ h1.2 H (hval _ h1.1)
  refine hcont _ _ hfin _ _ ?_ ?_ _ _ hu hfl
  · refine ⟨hI.size, hI.defers, fun d v hd => ?_⟩
    have hcond : ∀ j, (l[j]?).bind (·.dst) = some d → (j < l1.length ↔ listed.getD j false = true) := fun j _ => by
      rcases Nat.lt_or_ge j l1.length with h1 | h1
      · simp [hu.all j h1, h1]
      · rw [hu.none j h1]; simp; omega
    have h1 := hI.act d l1.length hpl hcond
    have h2 := tab_get hC' H d l1.length hpl
    rw [h2] at hd
    cases hlw : lastW l d l1.length with
    | none =>
      rw [hlw] at h1 hd
      exact h1 v hd
    | some j =>
      rw [hlw] at h1 hd
      have hj := lastW_some hlw
      have hoj : l[j]? = some l[j] := List.getElem?_eq_getElem (by omega)
      have := ((hC' j _ hoj).val H (hval j hj.1)).1
      simp only at h1 hd
      rw [h1, ← this]
      exact hd
  · obtain ⟨s, hs, hst, hS'⟩ := hI.mem
    have e1 : (S l1.length).B = (S s).B := tab_B2 hC' hs hpl fun j hj hjs => by
      have := hst j hj hjs
      rw [this]
      rcases Nat.lt_or_ge j l1.length with h1 | h1
      · rw [hu.all j h1]; simp [h1]
      · rw [hu.none j h1]; simp; omega
    rw [e1, tab_news hC' hN0 H hpl hval l1.length (Nat.le_refl _)]
    have e2 : news l.length listed H = (List.range l1.length).flatMap fun j => (H j).2 := by
      unfold news
      congr 1
      rw [show l.length = l1.length + l2.length by rw [hl]; simp, List.range_add, List.filter_append, List.filter_eq_self.2 fun j hj => hu.all j (List.mem_range.1 hj), List.filter_eq_nil_iff.2 fun j hj => ?_, List.append_nil]
      obtain ⟨x, _, rfl⟩ := List.mem_map.1 hj
      rw [hu.none _ (by omega)]
      simp
    rw [← e2]
    have e3 : pend l.length zz.old listed H = [] := by
      unfold pend
      rw [List.flatMap_eq_nil_iff]
      intro j _
      rcases Nat.lt_or_ge j l1.length with h1 | h1
      · rw [hu.all j h1]; rfl
      · rw [hold j h1]; exact ite_self _
    rw [e3, List.append_nil] at hS'
    exact hS'

/-! ### the rules -/

theorem St.left {C : Ctx} {L M : Hp} {w : World} (h : St C (L ++ M) w) : St C L w := h.mono rfl

theorem Does.val {C : Ctx} {E : Env} {L X : Hp} {o : Oper} {v : Value} (h : Yv C E L o v) : Does C E (L ++ X) (L ++ X) o fun u N => u = v ∧ N = [] :=
  ⟨fun a w M hr hs => by
    rw [h.out a w hr (hs.left.left)]
    exact ⟨[], ⟨rfl, rfl⟩, by simpa using hs⟩⟩
theorem Does.val0 {C : Ctx} {E : Env} {o : Oper} {v : Value} (h : Yv C E [] o v) : Does C E [] [] o fun u N => u = v ∧ N = [] :=
  Does.val (X := []) h
theorem Does.call {C : Ctx} {E : Env} {L X : Hp} {dst : Option Tmp} {ty : TypeId} {pos : String} {af : Array Edge} {g : Option (Nat × Bool)} {fo : Operand} {f : FuncId} {aS : List Operand} {vs : List Value} {ats : Array TypeId}
    {R : Value → Hp → Prop} (hf : ev E fo = some (.func (.func f) #[] #[])) (ha : evs E aS = some vs) (hb : hasBody C.P f = true) (hc : ∀ w, St C (L ++ X) w → Fn C.P f vs.toArray w R) :
    Does C E (L ++ X) (L ++ X) ⟨dst, .call ⟨.value fo, aS.toArray, ats⟩, ty, pos, af, g⟩ R :=
  ⟨fun a w M hr hs => by
    rw [run_call hr hf ha hb]
    refine (hc w hs.left).mono ?_
    rintro e w' ⟨v, N, ow, rfl, hk, hN, hR⟩
    exact ⟨v, rfl, N, hR, hs.call hk hN⟩⟩
theorem Does.set {C : Ctx} {E : Env} {L X : Hp} {o : Oper} {q b : Nat} {cs cs' : Array Value} {e : TypeId} {fz : Nat × Nat} (hq : L[q]? = some (blk b (.cells cs e fz)))
    (hv : ∀ a w, Rel C.n E a → St C L w → w.heap[b]? = some (.cells cs e fz) → (execOp a.eval o).run C.P w = .ok .skip (w.setRow b cs')) :
    Does C E (L ++ X) (L.set q (blk b (.cells cs' e fz)) ++ X) o fun u N => u = undef ∧ N = [] :=
  ⟨fun a w M hr hs => by
    rw [hv a w hr (hs.left.left) (hs.left.left.known hq)]
    have hlt : q < L.length := (List.getElem?_eq_some_iff.1 hq).1
    refine ⟨[], ⟨rfl, rfl⟩, ?_⟩
    have hq' : (L ++ X ++ M)[q]? = some (blk b (.cells cs e fz)) := by
      rw [List.append_assoc, List.getElem?_append_left hlt]; exact hq
    have := hs.setRow (cs' := cs') hq'
    rw [List.append_assoc, List.set_append_left _ _ hlt, ← List.append_assoc] at this
    simpa using this⟩

/-- A walk in which no operation but the calls makes memory, and none hands back memory of its own. -/
structure D0 (C : Ctx) (l0 : List Oper) (z : Zone) (l : List Oper) (m : Nat) (E : Env) (L : Hp) : Prop where
  out : m + l.length = z.old.q → DW C l0 z (l ++ z.tl) m ⟨fun _ => E, fun _ => L, fun _ => [], []⟩

section
variable {C : Ctx} {l0 : List Oper} {z : Zone} {k : K} {E : Env} {L : Hp} {rest : List Oper} {m d : Nat} {op : Op} {ty : TypeId} {pos : String} {af : Array Edge} {g : Option (Nat × Bool)}

/-- All is drawn. -/
def zX (C : Ctx) (n : Nat) (k : K) : Zone := ⟨n, fun E L => X C .normal k E L, Tk.none n, []⟩
/-- The rest comes in order. -/
def zS (C : Ctx) (l : List Oper) (n : Nat) (l2 : List Oper) (k : K) : Zone := ⟨n, fun E L => S C l.toArray l2 k E L, Tk.none n, []⟩
/-- What an operation that may come early takes: nothing; what is there; what operation j makes. -/
inductive LT
  | no
  | fx (A : Asr)
  | nw (j : Nat) (ob : Obj)
def blockOf : Value → Nat
  | .pointer (some a) => a.block
  | _ => 0
def LT.tk (H : Hist) : Option LT → Hp
  | some (.fx A) => [A]
  | some (.nw j ob) => [blk (blockOf (H j).1) ob]
  | _ => []
def LT.cz : Option LT → Option Nat
  | some (.nw j _) => some j
  | _ => none
def LT.fixed : LT → Hp
  | .fx A => [A]
  | _ => []
/-- Each is made by one operation of the last ones, ahead of it; nobody else takes it. -/
def ltOk (l : List Oper) (q : Nat) (lt : List LT) : Bool :=
  let b := Region.before l.toArray
  (List.range lt.length).all fun t => match LT.cz lt[t]? with
    | some j => Nat.ble q j && (b.getD (q + t) 0).testBit j && (List.range lt.length).all fun t' => Nat.beq t t' || match LT.cz lt[t']? with | some j' => !Nat.beq j j' | none => true
    | none => true
theorem ltOk_spec {l : List Oper} {q : Nat} {lt : List LT} (h : ltOk l q lt = true) {t j : Nat} (ht : LT.cz lt[t]? = some j) : q ≤ j ∧ dep l.toArray j (q + t) = true ∧ ∀ t', LT.cz lt[t']? = some j → t = t' := by
  have hin : ∀ {t j : Nat}, LT.cz lt[t]? = some j → t < lt.length := fun {t j} ht => by
    rcases Nat.lt_or_ge t lt.length with h | h
    · exact h
    · rw [List.getElem?_eq_none h] at ht; cases ht
  unfold ltOk at h
  rw [List.all_eq_true] at h
  have h1 := h t (List.mem_range.2 (hin ht))
  rw [ht] at h1
  simp only [Bool.and_eq_true, List.all_eq_true, Nat.ble_eq] at h1
  refine ⟨h1.1.1, h1.1.2, fun t' ht' => ?_⟩
  have h2 := h1.2 t' (List.mem_range.2 (hin ht'))
  rw [ht'] at h2
  simpa using h2
def ltTk (l : List Oper) (q : Nat) (lt : List LT) (h : ltOk l q lt = true) : Tk where
  tk := fun m H => if m < q then [] else LT.tk H lt[m - q]?
  cz := fun m => if m < q then none else LT.cz lt[m - q]?
  q := q
  htk := fun m hm H => by simp [hm]
  hcz := fun m j hj => by
    split at hj
    · cases hj
    · exact (ltOk_spec h hj).1
  hinj := fun m m' j hj hj' => by
    split at hj
    · cases hj
    · split at hj'
      · cases hj'
      · have := (ltOk_spec h hj).2.2 _ hj'
        omega
  hloc := fun m H H' hh => by
    by_cases hm : m < q
    · simp [hm]
    · simp only [hm, if_false] at hh ⊢
      cases hl : lt[m - q]? with
      | none => rfl
      | some x =>
        rw [hl] at hh
        cases x with
        | no => rfl
        | fx A => rfl
        | nw j ob => simp only [LT.tk]; rw [hh j rfl]
/-- All is drawn; from q on stores stand that may come early. -/
def zL (C : Ctx) (l : List Oper) (q : Nat) (l2 : List Oper) (lt : List LT) (h : ltOk l q lt = true) (k : K) : Zone := ⟨l.length, fun E L => X C .normal k E L, ltTk l q lt h, l2⟩
def noNew (l : List Oper) : Bool := l.all fun o => match o.op with | .alloc _ => false | .box .. => false | _ => true
theorem emb_none (L : Hp) (n q : Nat) : Emb (L ++ (List.range n).flatMap fun m => match (Tk.none q).cz m with | none => (Tk.none q).tk m (fun _ => (undef, [])) | some _ => []) L := by
  have : ((List.range n).flatMap fun m => match (Tk.none q).cz m with | none => (Tk.none q).tk m (fun _ => (undef, [])) | some _ => []) = [] := List.flatMap_eq_nil_iff.2 fun _ _ => rfl
  rw [this, List.append_nil]
  exact Emb.refl L
theorem T_draw {id : Nat} {l : List Oper} (hm : C.P.follows .mixedOrders = true) (hok : okReg l = true) (_hn : noNew l = true) (h : D0 C l (zX C l.length k) l 0 E L) : T C (.region id l.toArray true) k E L := by
  refine T_regionZ (l1 := l) (l2 := []) (old := Tk.none l.length) (L0 := L) (fun _ _ _ => rfl) (fun _ _ h => by cases h) (emb_none L _ _) (by simp) hm hok (fun m j h1 h2 => absurd h2 (by omega)) (fun i o hi ho => ?_) (fun E L hX a w hr hs fuel listed hu _ => wpAny_done hu ⟨E, L, hr, hs, hX.out⟩ fuel) (zz := zX C l.length k) rfl rfl rfl (by have := h.out (by simp [zX, Tk.none]); simpa [zX] using this)
  rw [List.getElem?_eq_none hi] at ho
  cases ho
inductive Split : List Oper → List Oper → List Oper → Prop
  | zero {l : List Oper} : Split l [] l
  | succ {o : Oper} {l l1 l2 : List Oper} (h : Split l l1 l2) : Split (o :: l) (o :: l1) l2
theorem Split.eq {l l1 l2 : List Oper} (h : Split l l1 l2) : l = l1 ++ l2 := by
  induction h with
  | zero => rfl
  | succ _ ih => rw [ih]; rfl
theorem T_drawP {id : Nat} {l l1 l2 : List Oper} (hsp : Split l l1 l2) (hm : C.P.follows .mixedOrders = true) (hok : okReg l = true) (htail : tailOk l l1.length = true) (hfit : (l2.all fun o => fitsN C.n o.dst) = true)
    (h : D0 C l (zS C l l1.length l2 k) l1 0 E L) : T C (.region id l.toArray true) k E L := by
  have e := hsp.eq
  have ht : ∀ m j, l1.length ≤ m → m < l.length → j < m → dep l.toArray j m = true := fun m j => tailOk_spec htail
  refine T_regionZ (old := Tk.none l1.length) (L0 := L) (fun _ _ _ => rfl) (fun _ _ h => by cases h) (emb_none L _ _) e hm hok ht (fun i o hi ho => ?_) (fun E L hX a w hr hs fuel listed hu hf => wpAny_tail hok l2 l1.length (by rw [e]; simp) (fun j => ?_) ht listed a w fuel hu hf (hX.out a w hr hs)) (zz := zS C l l1.length l2 k) rfl rfl rfl (by have := h.out (by simp [zS, Tk.none]); simpa [zS] using this)
  · rw [e, List.getElem?_append_right hi] at ho
    exact List.all_eq_true.1 hfit o (List.mem_of_getElem? ho)
  · rw [e, List.getElem?_append_right (by omega)]
    congr 1
    omega

theorem D0_nil {n : Nat} (h : X C .normal k E L) : D0 C l0 (zX C n k) [] m E L := ⟨fun _ => .nil fun _ _ => by simpa [zX] using h⟩
theorem D0_nilS {l : List Oper} {n : Nat} {l2 : List Oper} (h : S C l.toArray l2 k E L) : D0 C l0 (zS C l n l2 k) [] m E L := ⟨fun _ => .nil fun _ _ => by simpa [zS] using h⟩
/-- A region in which stores stand last that may come early; lt: what they turn, L0: the rest of what is owned. -/
theorem T_drawL {id : Nat} {l l1 l2 : List Oper} (hsp : Split l l1 l2) (lt : List LT) (L0 : Hp) (hA : lt.length = l2.length) (hlt : ltOk l l1.length lt = true) (he : Emb (L0 ++ lt.flatMap LT.fixed) L) (hm : C.P.follows .mixedOrders = true) (hok : okReg l = true)
    (h : D0 C l (zL C l l1.length l2 lt hlt k) l1 0 E L0) : T C (.region id l.toArray true) k E L := by
  have e := hsp.eq
  have hAl : (List.range l.length).flatMap (fun m => match (ltTk l l1.length lt hlt).cz m with | none => (ltTk l l1.length lt hlt).tk m (fun _ => (undef, [])) | some _ => []) = lt.flatMap LT.fixed := by
    rw [show l.length = l1.length + l2.length by rw [e]; simp, List.range_add, List.flatMap_append]
    have h1 : (List.range l1.length).flatMap (fun m => match (ltTk l l1.length lt hlt).cz m with | none => (ltTk l l1.length lt hlt).tk m (fun _ => (undef, [])) | some _ => []) = [] := by
      rw [List.flatMap_eq_nil_iff]
      intro j hj
      simp only [ltTk, List.mem_range.1 hj, if_true]
    rw [h1, List.nil_append, List.flatMap_map, ← hA]
    have h2 : ∀ (B : List LT), (List.range B.length).flatMap (fun j => match LT.cz B[j]? with | none => LT.tk (fun _ => (undef, [])) B[j]? | some _ => []) = B.flatMap LT.fixed := by
      intro B
      induction B with
      | nil => rfl
      | cons a B ih =>
        rw [List.length_cons, List.range_succ_eq_map, List.flatMap_cons, List.flatMap_map, List.flatMap_cons, ← ih]
        congr 1
        cases a <;> rfl
    have h3 : (fun a => match (ltTk l l1.length lt hlt).cz (l1.length + a) with | none => (ltTk l l1.length lt hlt).tk (l1.length + a) (fun _ => (undef, [])) | some _ => []) = fun a => match LT.cz lt[a]? with | none => LT.tk (fun _ => (undef, [])) lt[a]? | some _ => [] := by
      funext a
      simp only [ltTk, show ¬ l1.length + a < l1.length by omega, if_false, Nat.add_sub_cancel_left]
    rw [h3]
    exact h2 lt
  refine T_regionZ (l1 := l) (l2 := []) (old := ltTk l l1.length lt hlt) (L0 := L0) (fun j hj H => ?_) (fun m j hj => ?_) (by rw [hAl]; exact he) (by simp) hm hok (fun m j h1 h2 => absurd h2 (by omega)) (fun i o hi ho => ?_) (fun E L hX a w hr hs fuel listed hu _ => wpAny_done hu ⟨E, L, hr, hs, hX.out⟩ fuel) (zz := zL C l l1.length l2 lt hlt k) rfl rfl rfl ?_
  · have hj' : l1.length + lt.length ≤ j := by rw [hA]; rw [e, List.length_append] at hj; exact hj
    simp only [ltTk, show ¬ j < l1.length by omega, if_false]
    rw [List.getElem?_eq_none (by omega)]
    rfl
  · simp only [ltTk] at hj
    split at hj
    · cases hj
    · have := (ltOk_spec hlt hj).2.1
      rwa [show l1.length + (m - l1.length) = m by omega] at this
  · rw [List.getElem?_eq_none hi] at ho
    cases ho
  · have := h.out (by simp [zL, ltTk])
    rwa [show (zL C l l1.length l2 lt hlt k).tl = l2 from rfl, ← e] at this
/-- The stores that may come early, and what makes what they turn. -/
structure DL (C : Ctx) (l0 : List Oper) (z : Zone) (l : List Oper) (m : Nat) (F : Hist → Env) (L : Hp) (N : Hist → Hp) : Prop where
  out : DW C l0 z l m ⟨F, fun _ => L, N, []⟩
section
variable {q : Nat} {l2 : List Oper} {lt : List LT} {hlt : ltOk l0 q lt = true} {F : Hist → Env} {N : Hist → Hp}
theorem D0_nilL (h : DL C l0 (zL C l0 q l2 lt hlt k) l2 m (fun _ => E) L (fun _ => [])) : D0 C l0 (zL C l0 q l2 lt hlt k) [] m E L := ⟨fun _ => h.out⟩
theorem DL_nil (h : ∀ H, X C .normal k (F H) (L ++ N H)) : DL C l0 (zL C l0 q l2 lt hlt k) [] m F L N := ⟨.nil fun H _ => h H⟩
theorem blk_inj {b b' : Nat} {o : Obj} (h : blk b o = blk b' o) : b = b' := by
  have h1 : blk b o (fun k => if k = b then some o else none) := by simp [blk]
  rw [h] at h1
  simp only [blk] at h1
  split at h1
  · rename_i e; exact e.symm
  · cases h1
theorem DL_set {B : Hist → Nat} {cs cs' : Array Value} {e : TypeId} {fz : Nat × Nat} (hq : Nat.ble q m = true) (htk : ∀ H, LT.tk H lt[m - q]? = [blk (B H) (.cells cs e fz)]) (hno : (lt.all fun x => match LT.cz (some x) with | some j => !Nat.beq j m | none => true) = true)
    (hv : ∀ H a w, Rel C.n (F H) a → w.heap[B H]? = some (.cells cs e fz) → (execOp a.eval ⟨none, op, ty, pos, af, none⟩).run C.P w = .ok .skip (w.setRow (B H) cs'))
    (h : DL C l0 (zL C l0 q l2 lt hlt k) rest (m + 1) F L (fun H => N H ++ [blk (B H) (.cells cs' e fz)])) : DL C l0 (zL C l0 q l2 lt hlt k) (⟨none, op, ty, pos, af, none⟩ :: rest) m F L N :=
  have hqm : ¬ m < q := by have := Nat.le_of_ble_eq_true hq; omega
  have htk' : ∀ H, (ltTk l0 q lt hlt).tk m H = [blk (B H) (.cells cs e fz)] := fun H => by simp only [ltTk, hqm, if_false]; exact htk H
  ⟨.cons ⟨fun H u M => u = undef ∧ M = [blk (B H) (.cells cs' e fz)], fun _ => undef, fun H => [blk (B H) (.cells cs' e fz)], none, false⟩ ⟨F, fun _ => L, fun H => N H ++ [blk (B H) (.cells cs' e fz)], []⟩
    { loc := fun H H' hd v M hM => by
        have h1 : (ltTk l0 q lt hlt).tk m H = (ltTk l0 q lt hlt).tk m H' := (ltTk l0 q lt hlt).hloc m H H' fun j hj => by
          simp only [ltTk, hqm, if_false] at hj
          have := (ltOk_spec hlt hj).2.1
          rw [show q + (m - q) = m by omega] at this
          exact hd j this
        rw [htk', htk'] at h1
        have h2 := blk_inj (List.cons.inj h1).1
        simp only at hM ⊢
        rw [← h2]; exact hM
      val := fun _ h => ⟨h.1.symm, h.2.symm⟩
      hE := fun _ => rfl
      hN := fun _ => rfl
      hG := rfl
      hpf := fun _ h => by cases h
      same := fun _ => rfl
      store := fun h => by cases h
      fits := rfl
      step := fun _ H _ => ⟨true, rfl, fun h => (by cases h), fun _ => .inl ⟨fun m' hm' => by
          simp only [zL, ltTk] at hm'
          split at hm'
          · cases hm'
          · cases hx : lt[m' - q]? with
            | none => rw [hx] at hm'; cases hm'
            | some x =>
              rw [hx] at hm'
              have := List.all_eq_true.1 hno x (List.mem_of_getElem? hx)
              rw [hm'] at this
              simp at this, .inr ⟨rfl, ⟨fun a w M hr hs => by
        rw [show (zL C l0 q l2 lt hlt k).old = ltTk l0 q lt hlt from rfl, htk' H] at hs
        rw [hv H a w hr (hs.left.known (q := 0) rfl)]
        refine ⟨_, ⟨rfl, rfl⟩, ?_⟩
        have := hs.setRow (q := 0) (cs' := cs') rfl
        refine this.perm ?_
        exact List.perm_append_comm (l₁ := [blk (B H) (.cells cs' e fz)])⟩⟩⟩⟩ } h.out⟩
/-- An operation that makes what a later one turns. -/
theorem DL_new {ob : Obj} (m' : Nat) (hq : Nat.ble q m = true) (hx : lt[m' - q]? = some (.nw m ob)) (hq' : Nat.ble q m' = true) (hno : LT.tk (fun _ => (undef, [])) lt[m - q]? = []) (hnc : LT.cz lt[m - q]? = none) (hd : Nat.blt d C.n = true)
    (hv : ∀ (a : Act) (w : World), (execOp a.eval ⟨some d, op, ty, pos, af, none⟩).run C.P w = .ok (.value (.pointer (some ⟨w.heap.size, 0, none⟩))) { w with heap := w.heap.push ob })
    (h : DL C l0 (zL C l0 q l2 lt hlt k) rest (m + 1) (fun H => (d, .pointer (some ⟨blockOf (H m).1, 0, none⟩)) :: F H) L N) : DL C l0 (zL C l0 q l2 lt hlt k) (⟨some d, op, ty, pos, af, none⟩ :: rest) m F L N :=
  have hqm : ¬ m < q := by have := Nat.le_of_ble_eq_true hq; omega
  have hqm' : ¬ m' < q := by have := Nat.le_of_ble_eq_true hq'; omega
  ⟨.cons ⟨fun _ v M => (∃ b, v = .pointer (some ⟨b, 0, none⟩)) ∧ M = [], fun H => .pointer (some ⟨blockOf (H m).1, 0, none⟩), fun _ => [], none, false⟩ ⟨fun H => (d, .pointer (some ⟨blockOf (H m).1, 0, none⟩)) :: F H, fun _ => L, N, []⟩
    { loc := fun _ _ _ _ _ h => h
      val := fun H h => by
        obtain ⟨⟨b, h1⟩, h2⟩ := h
        simp only
        rw [h1, h2]
        exact ⟨rfl, rfl⟩
      hE := fun _ => rfl
      hN := fun _ => by simp
      hG := rfl
      hpf := fun _ h => by cases h
      same := fun _ => rfl
      store := fun h => by cases h
      fits := hd
      step := fun _ H _ => ⟨true, rfl, fun h => (by cases h), fun _ => .inr ⟨rfl, (by
          simp only [zL, ltTk, hqm, if_false]
          cases hl : lt[m - q]? with
          | none => rfl
          | some x => rw [hl] at hno hnc; cases x with | no => rfl | fx A => cases hno | nw j ob => cases hnc), m', (by
          simp only [zL, ltTk, hqm', if_false, hx]; rfl), ⟨fun a w M _ hs => by
            rw [hv a w]
            refine ⟨[blk w.heap.size ob], ⟨⟨⟨_, rfl⟩, rfl⟩, fun H' hH' => ?_⟩, hs.push ob⟩
            simp only [zL, ltTk, hqm', if_false, hx, LT.tk, hH', blockOf]⟩⟩⟩ } h.out⟩
/-- An operation behind them that doesn't look at memory. -/
theorem DL_val {v : Value} (hi : isMem op = false) (hq : Nat.ble q m = true) (htk0 : LT.tk (fun _ => (undef, [])) lt[m - q]? = []) (hnc : LT.cz lt[m - q]? = none) (hno : (lt.all fun x => match LT.cz (some x) with | some j => !Nat.beq j m | none => true) = true) (hd : Nat.blt d C.n = true)
    (hv : ∀ H, Yv C (F H) [] ⟨some d, op, ty, pos, af, none⟩ v)
    (h : DL C l0 (zL C l0 q l2 lt hlt k) rest (m + 1) (fun H => (d, v) :: F H) L N) : DL C l0 (zL C l0 q l2 lt hlt k) (⟨some d, op, ty, pos, af, none⟩ :: rest) m F L N :=
  have hqm : ¬ m < q := by have := Nat.le_of_ble_eq_true hq; omega
  ⟨.cons ⟨fun _ u M => u = v ∧ M = [], fun _ => v, fun _ => [], none, false⟩ ⟨fun H => (d, v) :: F H, fun _ => L, N, []⟩
    { loc := fun _ _ _ _ _ h => h
      val := fun _ h => ⟨h.1.symm, h.2.symm⟩
      hE := fun _ => rfl
      hN := fun _ => by simp
      hG := rfl
      hpf := fun _ h => by cases h
      same := fun _ => rfl
      store := fun h => by cases h
      fits := hd
      step := fun _ H _ => ⟨true, rfl, fun h => (by cases h), fun _ => .inl ⟨fun m' hm' => by
          simp only [zL, ltTk] at hm'
          split at hm'
          · cases hm'
          · cases hx : lt[m' - q]? with
            | none => rw [hx] at hm'; cases hm'
            | some x =>
              rw [hx] at hm'
              have := List.all_eq_true.1 hno x (List.mem_of_getElem? hx)
              rw [hm'] at this
              simp at this, .inl ⟨(by
          simp only [zL, ltTk, hqm, if_false]
          cases hl : lt[m - q]? with
          | none => rfl
          | some x => rw [hl] at htk0 hnc; cases x with | no => rfl | fx A => cases htk0 | nw j ob => cases hnc), (by
          simp only [hi]
          exact Does.val0 (hv H))⟩⟩⟩ } h.out⟩
def LT.find : List LT → Nat → Nat → Option Nat
  | [], _, _ => none
  | .nw j _ :: l, m, t => bif Nat.beq j m then some t else LT.find l m (t + 1)
  | _ :: l, m, t => LT.find l m (t + 1)
theorem DL_allocA {t : TypeId} {t' : Nat} {cs : Array Value} (hz : zeroOf C.P t = some (.agg cs)) (hq : Nat.ble q m = true) (_hf : LT.find lt m 0 = some t') (hx : lt[t']? = some (.nw m (.cells cs t))) (hno : LT.tk (fun _ => (undef, [])) lt[m - q]? = []) (hnc : LT.cz lt[m - q]? = none) (hd : Nat.blt d C.n = true)
    (h : DL C l0 (zL C l0 q l2 lt hlt k) rest (m + 1) (fun H => (d, .pointer (some ⟨blockOf (H m).1, 0, none⟩)) :: F H) L N) : DL C l0 (zL C l0 q l2 lt hlt k) (⟨some d, .alloc t, ty, pos, af, none⟩ :: rest) m F L N :=
  DL_new (q + t') hq (by rw [Nat.add_sub_cancel_left]; exact hx) (by simp) hno hnc hd (fun a w => by simp [execOp, Instr.alloc, run_zeroValue hz, newVar, newRow, Value.cells]) h
end

theorem DCond.pure {dst : Option Nat} {o : Oper} (ho : o.dst = dst) {v : Value} (hf : fitsN C.n dst = true)
    (hz : m < z.old.q) (hs : ∃ b, wantedE l0.toArray E o.guard = some b ∧ (b = false → v = undef) ∧ (b = true → if isMem o.op = true then ∀ X, Does C E (L ++ X) (L ++ X) o (fun u N => u = v ∧ N = []) else Does C E [] [] o (fun u N => u = v ∧ N = []))) :
    DCond C l0 z.p z.old m o ⟨fun _ => E, fun _ => L, fun _ => [], []⟩ ⟨fun _ u N => u = v ∧ N = [], fun _ => v, fun _ => [], none, false⟩ ⟨fun _ => putE dst v E, fun _ => L, fun _ => [], []⟩ where
  loc := fun _ _ _ _ _ h => h
  val := fun _ h => ⟨h.1.symm, h.2.symm⟩
  hE := fun _ => by rw [ho]
  hN := fun _ => rfl
  hG := rfl
  hpf := fun _ h => by cases h
  same := fun _ => rfl
  store := fun h => by cases h
  fits := by rw [ho]; exact hf
  step := fun _ H _ => by
    obtain ⟨b, h1, h2, h3⟩ := hs
    have hno : ∀ m', z.old.cz m' ≠ some m := fun m' h => by have := z.old.hcz m' m h; omega
    refine ⟨b, h1, fun hb => ⟨rfl, z.old.htk m hz H, hno, (h2 hb).symm, rfl⟩, fun hb => .inl ⟨hno, .inl ⟨z.old.htk m hz H, ?_⟩⟩⟩
    have := h3 hb
    split
    · rename_i hm; rw [if_pos hm] at this; exact this _
    · rename_i hm; rw [if_neg hm] at this; exact this

/-- An operation that doesn't look at memory. -/
theorem D0_val {v : Value} (hi : isMem op = false) (hg : wantedE l0.toArray E g = some true) (hd : Nat.blt d C.n = true)
    (hv : Yv C E [] ⟨some d, op, ty, pos, af, g⟩ v) (h : D0 C l0 z rest (m + 1) ((d, v) :: E) L) : D0 C l0 z (⟨some d, op, ty, pos, af, g⟩ :: rest) m E L :=
  ⟨fun hq => .cons _ _ (DCond.pure rfl hd (by rw [← hq, List.length_cons]; omega) ⟨true, hg, fun h => (by cases h), fun _ => by simp only [hi]; exact Does.val0 hv⟩) (h.out (by rw [← hq, List.length_cons]; omega))⟩
/-- .. that looks at memory. -/
theorem D0_valM {v : Value} (hi : isMem op = true) (hg : wantedE l0.toArray E g = some true) (hd : Nat.blt d C.n = true)
    (hv : Yv C E L ⟨some d, op, ty, pos, af, g⟩ v) (h : D0 C l0 z rest (m + 1) ((d, v) :: E) L) : D0 C l0 z (⟨some d, op, ty, pos, af, g⟩ :: rest) m E L :=
  ⟨fun hq => .cons _ _ (DCond.pure rfl hd (by rw [← hq, List.length_cons]; omega) ⟨true, hg, fun h => (by cases h), fun _ => by simp only [hi, if_true]; exact fun X => Does.val hv⟩) (h.out (by rw [← hq, List.length_cons]; omega))⟩
theorem D0_skip (hg : wantedE l0.toArray E g = some false) (hd : Nat.blt d C.n = true) (h : D0 C l0 z rest (m + 1) ((d, undef) :: E) L) : D0 C l0 z (⟨some d, op, ty, pos, af, g⟩ :: rest) m E L :=
  ⟨fun hq => .cons _ _ (DCond.pure rfl hd (by rw [← hq, List.length_cons]; omega) ⟨false, hg, fun _ => rfl, fun h => by cases h⟩) (h.out (by rw [← hq, List.length_cons]; omega))⟩
theorem D0_skipN (hg : wantedE l0.toArray E g = some false) (h : D0 C l0 z rest (m + 1) E L) : D0 C l0 z (⟨none, op, ty, pos, af, g⟩ :: rest) m E L :=
  ⟨fun hq => .cons _ _ (DCond.pure (dst := none) rfl rfl (by rw [← hq, List.length_cons]; omega) ⟨false, hg, fun _ => rfl, fun h => by cases h⟩) (h.out (by rw [← hq, List.length_cons]; omega))⟩
/-- A call whose value alone is told. -/
theorem D0_callV {fo : Operand} {f : FuncId} {aS : List Operand} {vs : List Value} {ats : Array TypeId} {v : Value} (hf : ev E fo = some (.func (.func f) #[] #[])) (ha : evs E aS = some vs) (hb : hasBody C.P f = true)
    (hc : ∀ w, St C L w → Fn C.P f vs.toArray w fun u N => u = v ∧ N = []) (hg : wantedE l0.toArray E g = some true) (hd : Nat.blt d C.n = true)
    (h : D0 C l0 z rest (m + 1) ((d, v) :: E) L) : D0 C l0 z (⟨some d, .call ⟨.value fo, aS.toArray, ats⟩, ty, pos, af, g⟩ :: rest) m E L :=
  ⟨fun hq => .cons _ _ (DCond.pure rfl hd (by rw [← hq, List.length_cons]; omega) ⟨true, hg, fun h => (by cases h), fun _ => by
    simp only [isMem, if_true]; exact fun X => Does.call hf ha hb fun w hs => hc w hs.left⟩) (h.out (by rw [← hq, List.length_cons]; omega))⟩

/-- An operation that turns an owned block. -/
theorem D0_set (q : Nat) {b : Nat} {cs cs' : Array Value} {e : TypeId} {fz : Nat × Nat} (hi : isMem op = true) (hst : okStore l0 m = true) (hg : wantedE l0.toArray E g = some true)
    (hq : L[q]? = some (blk b (.cells cs e fz)))
    (hv : ∀ a w, Rel C.n E a → St C L w → w.heap[b]? = some (.cells cs e fz) → (execOp a.eval ⟨none, op, ty, pos, af, g⟩).run C.P w = .ok .skip (w.setRow b cs'))
    (h : D0 C l0 z rest (m + 1) E (L.set q (blk b (.cells cs' e fz)))) : D0 C l0 z (⟨none, op, ty, pos, af, g⟩ :: rest) m E L :=
  ⟨fun hqq => .cons ⟨fun _ u N => u = undef ∧ N = [], fun _ => undef, fun _ => [], none, true⟩ ⟨fun _ => E, fun _ => L.set q (blk b (.cells cs' e fz)), fun _ => [], []⟩
    { loc := fun _ _ _ _ _ h => h
      val := fun _ h => ⟨h.1.symm, h.2.symm⟩
      hE := fun _ => rfl
      hN := fun _ => rfl
      hG := rfl
      hpf := fun _ h => by cases h
      same := fun h => by cases h
      store := fun _ => ⟨hst, hi, q, fun _ => blk b (.cells cs' e fz), fun _ => rfl, fun _ _ _ => rfl⟩
      fits := rfl
      step := fun _ H _ => ⟨true, hg, fun h => (by cases h), fun _ => .inl ⟨fun m' h => by have := z.old.hcz m' m h; rw [← hqq, List.length_cons] at this; omega, .inl ⟨z.old.htk m (by rw [← hqq, List.length_cons]; omega) H, by simp only [hi, if_true]; exact Does.set hq hv⟩⟩⟩ } (h.out (by rw [← hqq, List.length_cons]; omega))⟩
end

section
variable {C : Ctx} {l0 : List Oper} {z : Zone} {k : K} {E : Env} {L : Hp} {rest : List Oper} {m : Nat} {ty : TypeId} {pos : String} {af : Array Edge} {g : Option (Nat × Bool)}
variable {x y : Operand} {t e : TypeId} {b off n : Nat} {kd : IntKind} {l l' : List Int} {p : Int}

/-- A store into a cell. -/
theorem D0_store1 (q : Nat) {v : Value} {cs cs' : Array Value} (hst : okStore l0 m = true) (ht : szOf C.P t = some 1) (hx : ev E x = some (.pointer (some ⟨b, off, none⟩))) (hy : ev E y = some v) (h1 : v.oneCell' = true)
    (hq : L[q]? = some (blk b (.cells cs e (0, 0)))) (ho : off < cs.size) (hcs : cs.setIfInBounds off v = cs') (hg : wantedE l0.toArray E g = some true)
    (h : D0 C l0 z rest (m + 1) E (L.set q (blk b (.cells cs' e (0, 0))))) : D0 C l0 z (⟨none, .store t x y, ty, pos, af, g⟩ :: rest) m E L :=
  D0_set q rfl hst hg hq (run_store1 ht hx hy h1 ho hcs) h
theorem D0_storeI (q : Nat) (hst : okStore l0 m = true) (ht : szOf C.P t = some 1) (hx : ev E x = some (.pointer (some ⟨b, off, none⟩))) (hy : ev E y = some (.int kd p))
    (hq : L[q]? = some (blk b (.cells (ints kd l) e (0, 0)))) (ho : off < l.length) (hl : l.set off p = l') (hg : wantedE l0.toArray E g = some true)
    (h : D0 C l0 z rest (m + 1) E (L.set q (blk b (.cells (ints kd l') e (0, 0))))) : D0 C l0 z (⟨none, .store t x y, ty, pos, af, g⟩ :: rest) m E L :=
  D0_store1 q hst ht hx hy rfl hq (by simpa using ho) (by rw [ints_set, hl]) hg h
theorem D0_storeAI (q : Nat) (hst : okStore l0 m = true) (ht : szOf C.P t = some n) (hx : ev E x = some (.pointer (some ⟨b, 0, none⟩))) (hy : ev E y = some (.agg (ints kd l')))
    (hq : L[q]? = some (blk b (.cells (ints kd l) e (0, 0)))) (hl : l.length = n) (hm : l'.length = n) (hg : wantedE l0.toArray E g = some true)
    (h : D0 C l0 z rest (m + 1) E (L.set q (blk b (.cells (ints kd l') e (0, 0))))) : D0 C l0 z (⟨none, .store t x y, ty, pos, af, g⟩ :: rest) m E L :=
  D0_set q rfl hst hg hq (run_storeA (by rw [ht, ints_size, hm]) hx hy (ints_one _ _) (by simp [hl, hm])) h
end
section
variable {C : Ctx} {l0 : List Oper} {k : K} {L : Hp} {rest : List Oper} {m : Nat} {ty : TypeId} {pos : String} {af : Array Edge}
variable {x y : Operand} {t e : TypeId} {n q : Nat} {kd : IntKind} {l l' : List Int} {l2 : List Oper}
theorem DL_storeAI {F : Hist → Env} {N : Hist → Hp} {B : Hist → Nat} {lt : List LT} {hlt : ltOk l0 q lt = true} (hq : Nat.ble q m = true) (htk : ∀ H, LT.tk H lt[m - q]? = [blk (B H) (.cells (ints kd l) e (0, 0))]) (hno : (lt.all fun x => match LT.cz (some x) with | some j => !Nat.beq j m | none => true) = true)
    (ht : szOf C.P t = some n) (hx : ∀ H, ev (F H) x = some (.pointer (some ⟨B H, 0, none⟩))) (hy : ∀ H, ev (F H) y = some (.agg (ints kd l')))
    (hl : l.length = n) (hm : l'.length = n) (h : DL C l0 (zL C l0 q l2 lt hlt k) rest (m + 1) F L (fun H => N H ++ [blk (B H) (.cells (ints kd l') e (0, 0))])) : DL C l0 (zL C l0 q l2 lt hlt k) (⟨none, .store t x y, ty, pos, af, none⟩ :: rest) m F L N :=
  DL_set hq htk hno (fun H a w hr hb => run_storeA' (by rw [ht, ints_size, hm]) (hx H) (hy H) (ints_one _ _) (by simp [hl, hm]) a w hr hb) h
end
/-- A walk that has made memory of its own: where it lies depends on the order. -/
structure D1 (C : Ctx) (l0 : List Oper) (z : Zone) (l : List Oper) (m : Nat) (E : Hist → Env) (L : Hp) (N : Hist → Hp) : Prop where
  out : m + l.length = z.old.q → DW C l0 z (l ++ z.tl) m ⟨E, fun _ => L, N, []⟩
section
variable {C : Ctx} {l0 : List Oper} {z : Zone} {k : K} {E : Env} {F : Hist → Env} {L : Hp} {N : Hist → Hp} {rest : List Oper} {m d : Nat} {op : Op} {ty : TypeId} {pos : String} {af : Array Edge}
theorem D0_new (h : D1 C l0 z rest m (fun _ => E) L (fun _ => [])) : D0 C l0 z rest m E L := ⟨h.out⟩
theorem D1_nil {n : Nat} (h : ∀ H, X C .normal k (F H) (L ++ N H)) : D1 C l0 (zX C n k) [] m F L N := ⟨fun _ => .nil fun H _ => h H⟩
theorem D1_nilS {l : List Oper} {n : Nat} {l2 : List Oper} (h : ∀ H, S C l.toArray l2 k (F H) (L ++ N H)) : D1 C l0 (zS C l n l2 k) [] m F L N := ⟨fun _ => .nil fun H _ => h H⟩
theorem D1_new {ob : Obj} (hi : isMem op = true) (hd : Nat.blt d C.n = true)
    (hv : ∀ (a : Act) (w : World), (execOp a.eval ⟨some d, op, ty, pos, af, none⟩).run C.P w = .ok (.value (.pointer (some ⟨w.heap.size, 0, none⟩))) { w with heap := w.heap.push ob })
    (h : ∀ b : Hist → Nat, D1 C l0 z rest (m + 1) (fun H => (d, .pointer (some ⟨b H, 0, none⟩)) :: F H) L (fun H => N H ++ [blk (b H) ob])) : D1 C l0 z (⟨some d, op, ty, pos, af, none⟩ :: rest) m F L N :=
  ⟨fun hqq => .cons ⟨fun _ v M => ∃ b, v = .pointer (some ⟨b, 0, none⟩) ∧ M = [blk b ob], fun H => .pointer (some ⟨blockOf (H m).1, 0, none⟩), fun H => [blk (blockOf (H m).1) ob], none, false⟩ ⟨fun H => (d, .pointer (some ⟨blockOf (H m).1, 0, none⟩)) :: F H, fun _ => L, fun H => N H ++ [blk (blockOf (H m).1) ob], []⟩
    { loc := fun _ _ _ _ _ h => h
      val := fun H h => by
        obtain ⟨b, h1, h2⟩ := h
        simp only
        rw [h1, h2]
        exact ⟨rfl, rfl⟩
      hE := fun _ => rfl
      hN := fun _ => rfl
      hG := rfl
      hpf := fun _ h => by cases h
      same := fun _ => rfl
      store := fun h => by cases h
      fits := hd
      step := fun _ H _ => ⟨true, rfl, fun h => (by cases h), fun _ => .inl ⟨fun m' h => by have := z.old.hcz m' m h; rw [← hqq, List.length_cons] at this; omega, .inl ⟨z.old.htk m (by rw [← hqq, List.length_cons]; omega) H, by
        simp only [hi, if_true]
        refine ⟨fun a w M _ hs => ?_⟩
        rw [hv a w]
        exact ⟨[blk w.heap.size ob], ⟨_, rfl, rfl⟩, hs.push ob⟩⟩⟩⟩ } ((h fun H => blockOf (H m).1).out (by rw [← hqq, List.length_cons]; omega))⟩
theorem D1_alloc {t : TypeId} {v : Value} (hz : zeroOf C.P t = some v) (hd : Nat.blt d C.n = true)
    (h : ∀ b : Hist → Nat, D1 C l0 z rest (m + 1) (fun H => (d, .pointer (some ⟨b H, 0, none⟩)) :: F H) L (fun H => N H ++ [blk (b H) (.cells v.cells t)])) : D1 C l0 z (⟨some d, .alloc t, ty, pos, af, none⟩ :: rest) m F L N :=
  D1_new rfl hd (fun a w => by simp [execOp, Instr.alloc, run_zeroValue hz, newVar, newRow]) h
theorem D1_allocA {t : TypeId} {cs : Array Value} (hz : zeroOf C.P t = some (.agg cs)) (hd : Nat.blt d C.n = true)
    (h : ∀ b : Hist → Nat, D1 C l0 z rest (m + 1) (fun H => (d, .pointer (some ⟨b H, 0, none⟩)) :: F H) L (fun H => N H ++ [blk (b H) (.cells cs t)])) : D1 C l0 z (⟨some d, .alloc t, ty, pos, af, none⟩ :: rest) m F L N :=
  D1_alloc hz hd h
end
end Go.Proofs.YtonmkjcilepdcaaGreatDoor
