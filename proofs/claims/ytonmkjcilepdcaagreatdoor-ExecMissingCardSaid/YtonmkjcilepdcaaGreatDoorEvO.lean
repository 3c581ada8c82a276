import Derived.Test.YtonmkjcilepdcaaGreatDoorEvQ
import Derived.Test.YtonmkjcilepdcaaGreatDoorGiven
/- The evaluator: answers, what must hold beside, which way is taken; operations of unknown numbers. -/
noncomputable section
namespace Go.Proofs.YtonmkjcilepdcaaGreatDoor
open Go.RowKit
set_option maxRecDepth 20000
set_option maxHeartbeats 4000000

/-- All of these hold. -/
def AllP (l : List Prop) : Prop := List.rec (motive := fun _ => Prop) True (fun p _ ih => p ∧ ih) l
theorem AllP_cons (p : Prop) (l : List Prop) : AllP (p :: l) = (p ∧ AllP l) := rfl
theorem AllP_nil : AllP [] = True := rfl
theorem AllP_append : ∀ (l m : List Prop), AllP (l ++ m) ↔ AllP l ∧ AllP m
  | [], m => by simp [AllP_nil]
  | p :: l, m => by rw [List.cons_append, AllP_cons, AllP_cons, AllP_append l m, and_assoc]
/-- The way: a test is known, or is said to be so; a loop is known. -/
inductive Ch where
  | lit
  | x
  | b (c : Bool)
  | loop (ex : Exit) (E2 : SE) (H2 : SH)
  | stop
/-- The way ahead; what must hold. -/
structure Th where
  orc : List Ch
  obl : List Prop
def forceTh {β : Type} (T : Th) (f : Th → β) : β := spine T.orc fun o => spine T.obl fun p => f ⟨o, p⟩
theorem forceTh_eq {β : Type} (T : Th) (f : Th → β) : forceTh T f = f T := by unfold forceTh; rw [spine_eq, spine_eq]
/-- An answer; or what is asked; or none. -/
inductive Ans (α : Type) where
  | ok (a : α)
  | askB (b : Bool)
  | askO (o : Oper)
  | askL (n : Nat) (c : Code) (E : SE) (H : SH)
  | no (k : Nat)
def Ans.bind {α β : Type} : Ans α → (α → Ans β) → Ans β
  | .ok a, f => f a
  | .askB b, _ => .askB b
  | .askO o, _ => .askO o
  | .askL n c E H, _ => .askL n c E H
  | .no k, _ => .no k
theorem Ans.bind_ok {α β : Type} {r : Ans α} {f : α → Ans β} {b : β} : r.bind f = .ok b ↔ ∃ a, r = .ok a ∧ f a = .ok b := by
  cases r <;> simp [Ans.bind]
abbrev SpecF := List SV → SH → Ans (SV × SH × List Prop)
/-- A test, on the way. -/
def testT (b : Bool) (T : Th) : Ans (Bool × Th) :=
  match T.orc with
  | [] => .ok (b, T)
  | .lit :: r => .ok (b, ⟨r, T.obl⟩)
  | .b c :: r => .ok (c, ⟨r, (b = c) :: T.obl⟩)
  | .stop :: _ => .askB b
  | _ => .no 10
theorem testT_ok {b c : Bool} {T T2 : Th} (h : testT b T = .ok (c, T2)) (hT : AllP T2.obl) : b = c ∧ AllP T.obl := by
  unfold testT at h
  split at h
  · cases h; exact ⟨rfl, hT⟩
  · cases h; exact ⟨rfl, hT⟩
  · cases h; exact hT
  · cases h
  · cases h
/-! ### operations of unknown numbers -/
def ixX (E : SE) (y : Operand) : Option Int :=
  match evS E y with
  | some (.k (.int _ i)) => some i
  | _ => none
theorem ixX_spec {σ : Nm} {E : SE} {n : Nat} {a : Act} (hr : Rel n (denE σ E) a) {y : Operand} {i : Int} (h : ixX E y = some i) : ∃ k, a.eval y = .int k i := by
  unfold ixX at h
  split at h
  · rename_i k p hy
    have h1 := evS_eval hr hy
    rw [den] at h1
    cases h
    exact ⟨k, h1⟩
  · cases h
def opIndexAddrX (P : Program) (E : SE) (t : TypeId) (x y : Operand) : Option (SV × List Prop) :=
  match evS E x, P.underlying t with
  | some (.ptr n off), some (.array len e) => match ixX E y, szOf P e with
    | some i, some k => some (.ptr n (off + i.toNat * k), [0 ≤ i ∧ i < len])
    | _, _ => none
  | some (.slice n off len _), some (.slice e) => match ixX E y, szOf P e with
    | some i, some k => some (.ptr n (off + i.toNat * k), [0 ≤ i ∧ i < len])
    | _, _ => none
  | some (.slc n _ off len), some (.slice e) => match ixX E y, szOf P e with
    | some i, some k => some (.ptr n (off + i.toNat * k), [0 ≤ i ∧ i < len])
    | _, _ => none
  | _, _ => none
theorem opIndexAddrX_ok {C : Ctx} {E : SE} {H : SH} {o : Oper} {v : SV} {t : TypeId} {x y : Operand} {ps : List Prop} (hop : o.op = .indexAddr t x y) (h : opIndexAddrX C.P E t x y = some (v, ps)) (hp : AllP ps) : OpOk C E H o v H := by
  unfold opIndexAddrX at h
  refine OpOk.of_val fun σ a w M hr hs => ?_
  split at h
  · rename_i n off len e hx hu
    have h1 := evS_eval hr hx
    rw [den] at h1
    split at h
    · rename_i i k hi hk
      cases h
      obtain ⟨kd, h2⟩ := ixX_spec hr hi
      have h3 := hp.1
      rw [den]
      unfold execOp
      simp [hop, h1, h2, Instr.indexAt, asIntOf, run_underlying hu, Instr.sureAddr, run_sizeOf hk, h3, addr_add]
    · cases h
  · rename_i n off len cap e hx hu
    have h1 := evS_eval hr hx
    rw [den] at h1
    split at h
    · rename_i i k hi hk
      cases h
      obtain ⟨kd, h2⟩ := ixX_spec hr hi
      have h3 := hp.1
      rw [den]
      unfold execOp
      simp [hop, h1, h2, Instr.indexAt, asIntOf, run_underlying hu, run_sizeOf hk, h3, addr_add]
    · cases h
  · rename_i n lo off len e hx hu
    have h1 := evS_eval hr hx
    rw [den] at h1
    split at h
    · rename_i i k hi hk
      cases h
      obtain ⟨kd, h2⟩ := ixX_spec hr hi
      have h3 := hp.1
      rw [den]
      unfold execOp
      simp [hop, h1, h2, Instr.indexAt, asIntOf, run_underlying hu, run_sizeOf hk, h3, addr_add]
    · cases h
  · cases h
/-- Operations that ask whether their numbers are known. -/
def xop : Op → Bool
  | .indexAddr .. => true
  | _ => false
def opX (P : Program) (E : SE) (H : SH) (o : Oper) : Option (SV × SH × List Prop) :=
  match o.op with
  | .indexAddr t x y => (opIndexAddrX P E t x y).map fun r => (r.1, H, r.2)
  | _ => none
theorem opX_ok {C : Ctx} {E : SE} {H H2 : SH} {o : Oper} {v : SV} {ps : List Prop} (h : opX C.P E H o = some (v, H2, ps)) (hp : AllP ps) : OpOk C E H o v H2 := by
  unfold opX at h
  split at h
  · rename_i t x y hop
    obtain ⟨⟨v', ps'⟩, h1, h2⟩ := Option.map_eq_some_iff.1 h
    cases h2
    exact opIndexAddrX_ok hop h1 hp
  · cases h
/-- What fits: the program, and the memory that is given. -/
structure Fit (P : Program) (B : World) (C : Ctx) : Prop where
  prog : C.P = P
  base : ∀ k, k < B.heap.size → C.FB k ∧ C.w0.heap[k]? = B.heap[k]?
/-- The memory that is given is there. -/
def Over (B w : World) : Prop := ∀ k, k < B.heap.size → w.heap[k]? = B.heap[k]?
theorem Over.refl (w : World) : Over w w := fun _ _ => rfl
theorem Over.cell {B w : World} (h : Over B w) {a : Addr} {v : Value} (hc : B.cell? a = some v) : w.cell? a = some v := by
  have := h _ (cell_there hc).2
  unfold World.cell? at hc ⊢
  rw [this]
  exact hc
theorem Over.size {B w : World} (h : Over B w) {k : Nat} (hk : k < B.heap.size) : k < w.heap.size := by
  have := h k hk
  rw [Array.getElem?_eq_getElem hk] at this
  exact (Array.getElem?_eq_some_iff.1 this).1
theorem Fit.over {P : Program} {B : World} {C : Ctx} (h : Fit P B C) {L : Hp} {w : World} (hs : St C L w) : Over B w := fun k hk => by
  obtain ⟨h1, h2⟩ := h.base k hk
  rw [hs.fixed k h1, h2]
theorem Over.fit {P : Program} {B w : World} (h : Over B w) : Fit P B (ctx P 0 w) := ⟨rfl, fun k hk => ⟨h.size hk, h k hk⟩⟩
/-- Cells that are known of the memory that is given. -/
abbrev Gb := List (Nat × List Value)
def GbOk (B : World) (G : Gb) : Prop := ∀ p ∈ G, ∀ (i : Nat) (v : Value), p.2[i]? = some v → B.cell? ⟨p.1, i, none⟩ = some v
theorem GbOk.nil (B : World) : GbOk B [] := fun _ h => by cases h
def gbL (b : Nat) (G : Gb) : Option (List Value) := List.rec (motive := fun _ => Option (List Value)) none (fun e _ ih => Bool.rec (motive := fun _ => Option (List Value)) ih (some e.2) (Nat.beq e.1 b)) G
theorem gbL_mem {b : Nat} {cs : List Value} : ∀ {G : Gb}, gbL b G = some cs → (b, cs) ∈ G
  | [], h => by cases h
  | (b', cs') :: G, h => by
    change Bool.rec (motive := fun _ => Option (List Value)) (gbL b G) (some cs') (Nat.beq b' b) = some cs at h
    cases hb : Nat.beq b' b with
    | true =>
      rw [hb] at h
      have h1 := Nat.eq_of_beq_eq_true hb
      cases h
      subst h1
      exact List.mem_cons_self
    | false =>
      rw [hb] at h
      exact List.mem_cons_of_mem _ (gbL_mem h)
def loadG (P : Program) (G : Gb) (t : TypeId) (b off : Nat) : Option SV :=
  match gbL b G with
  | some cs => match isAggT P t with
    | some true => match szOf P t with
      | some k => if off + k ≤ cs.length then some (.k (.agg (Array.mk ((cs.drop off).take k)))) else none
      | none => none
    | some false => (getL cs off).map .k
    | none => none
  | none => none
theorem loadG_run {P : Program} {B : World} {G : Gb} (hG : GbOk B G) {w : World} (hO : Over B w) {t : TypeId} {b off : Nat} {v : SV} (h : loadG P G t b off = some v) : ∃ u, v = .k u ∧ (loadVar t ⟨b, off, none⟩).run P w = .ok u w := by
  unfold loadG at h
  simp only [getL_eq] at h
  split at h
  case h_2 => cases h
  case h_1 cs hcs =>
    have hc : ∀ (i : Nat) (v : Value), cs[i]? = some v → w.cell? ⟨b, i, none⟩ = some v := fun i v hv => hO.cell (hG _ (gbL_mem hcs) i v hv)
    unfold isAggT at h
    cases hu : P.underlying t with
    | none => simp [hu] at h
    | some d =>
      simp only [hu, Option.map_some] at h
      cases hd : isAggB d with
      | true =>
        simp only [hd] at h
        split at h
        case h_2 => cases h
        case h_1 k hk =>
          split at h
          case isFalse => cases h
          case isTrue hle =>
            cases h
            refine ⟨_, rfl, ?_⟩
            have hl : ((cs.drop off).take k).length = k := by rw [List.length_take, List.length_drop]; omega
            have hrun : (loadCells ⟨b, off, none⟩ k).run P w = .ok (Array.mk ((cs.drop off).take k)) w := by
              have := run_loadCells_list (P := P) w ⟨b, off, none⟩ ((cs.drop off).take k) fun j v hj => by
                rw [List.getElem?_take] at hj
                split at hj
                · rw [List.getElem?_drop] at hj
                  rw [addr_add]
                  exact hc _ _ hj
                · cases hj
              rwa [hl] at this
            simp [loadVar, run_isAgg hu, hd, run_sizeOf hk, hrun]
      | false =>
        simp only [hd] at h
        obtain ⟨u, hu', rfl⟩ := Option.map_eq_some_iff.1 h
        have := hc _ _ hu'
        exact ⟨u, rfl, by simp [loadVar, run_isAgg hu, hd, this]⟩
/-- An operation, where cells of the memory that is given are known. -/
def opStepG (P : Program) (G : Gb) (E : SE) (H : SH) (o : Oper) : Option (SV × SH) :=
  match o.op with
  | .load t x => match evS E x with
    | some (.k (.pointer (some ⟨b, off, none⟩))) => keepH H (loadG P G t b off)
    | _ => opStep P E H o
  | _ => opStep P E H o
theorem opStepG_ok {P : Program} {B : World} {G : Gb} (hG : GbOk B G) {E : SE} {H H2 : SH} {o : Oper} {v : SV} (h : opStepG P G E H o = some (v, H2)) (C : Ctx) (hC : Fit P B C) : OpOk C E H o v H2 := by
  obtain ⟨rfl, hb⟩ := hC
  unfold opStepG at h
  split at h
  · rename_i t x hop
    split at h
    · rename_i b off hx
      obtain ⟨h', rfl⟩ := keepH_some h
      refine OpOk.of_val fun σ a w M hr hs => ?_
      obtain ⟨u, rfl, hrun⟩ := loadG_run hG (Fit.over ⟨rfl, hb⟩ hs) h'
      have hx' := evS_eval hr hx
      rw [den] at hx' ⊢
      unfold execOp
      simp [hop, hx', Instr.loadAt, Instr.sureAddr, hrun]
    · exact opStep_ok h
  · exact opStep_ok h
def ofOpt {α : Type} (k : Nat) : Option α → Ans α
  | some a => .ok a
  | none => .no k
theorem ofOpt_ok {α : Type} {k : Nat} {x : Option α} {a : α} : ofOpt k x = .ok a ↔ x = some a := by cases x <;> simp [ofOpt]
def opStepT (P : Program) (G : Gb) (E : SE) (H : SH) (o : Oper) (T : Th) : Ans (SV × SH × Th) :=
  match xop o.op with
  | false => (ofOpt 11 (opStepG P G E H o)).bind fun r => .ok (r.1, r.2, T)
  | true => match T.orc with
    | [] => (ofOpt 11 (opStepG P G E H o)).bind fun r => .ok (r.1, r.2, T)
    | .lit :: q => (ofOpt 11 (opStepG P G E H o)).bind fun r => .ok (r.1, r.2, ⟨q, T.obl⟩)
    | .x :: q => (ofOpt 12 (opX P E H o)).bind fun r => .ok (r.1, r.2.1, ⟨q, r.2.2 ++ T.obl⟩)
    | .stop :: _ => .askO o
    | _ => .no 13
theorem opStepT_ok {P : Program} {B : World} {G : Gb} (hG : GbOk B G) {E : SE} {H H2 : SH} {o : Oper} {T T2 : Th} {v : SV} (h : opStepT P G E H o T = .ok (v, H2, T2)) (hT : AllP T2.obl) : AllP T.obl ∧ ∀ C : Ctx, Fit P B C → OpOk C E H o v H2 := by
  have key : ∀ (T3 : Th), T3.obl = T.obl → ((ofOpt 11 (opStepG P G E H o)).bind fun r => Ans.ok (r.1, r.2, T3)) = .ok (v, H2, T2) → AllP T.obl ∧ ∀ C : Ctx, Fit P B C → OpOk C E H o v H2 := by
    intro T3 h3 h
    obtain ⟨⟨v', H'⟩, h1, h2⟩ := Ans.bind_ok.1 h
    cases h2
    rw [h3] at hT
    exact ⟨hT, fun C hC => opStepG_ok hG (ofOpt_ok.1 h1) C hC⟩
  unfold opStepT at h
  split at h
  · exact key T rfl h
  · split at h
    · exact key _ rfl h
    · refine key _ ?_ h
      rfl
    · obtain ⟨⟨v', H', ps⟩, h1, h2⟩ := Ans.bind_ok.1 h
      cases h2
      rw [AllP_append] at hT
      refine ⟨hT.2, fun C hC => ?_⟩
      obtain rfl := hC.prog
      exact opX_ok (ofOpt_ok.1 h1) hT.1
    · cases h
    · cases h
end Go.Proofs.YtonmkjcilepdcaaGreatDoor
end
