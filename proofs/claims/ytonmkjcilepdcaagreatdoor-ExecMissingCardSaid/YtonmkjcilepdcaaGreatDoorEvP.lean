import Derived.Test.YtonmkjcilepdcaaGreatDoorEvZ
import Derived.Test.YtonmkjcilepdcaaGreatDoorGiven
/- The evaluator: one way of a call; contracts of functions that make nothing. -/
namespace Go.Proofs.YtonmkjcilepdcaaGreatDoor
open Go.RowKit
set_option maxRecDepth 20000

theorem call_way {P : Program} {B : World} {spec : List (FuncId × SpecF)} (hspec : SpecOk P B spec) {G : Gb} (hG : GbOk B G) {fuel : Nat} {g : FuncId} {args : List SV} {H H2 : SH} {v : SV} {orc : List Ch} {obl : List Prop}
    (h : callB P (evC P (drS P) B [] [] spec G fuel) g args H ⟨orc, []⟩ = .ok (v, H2, ⟨[], obl⟩)) (ho : AllP obl) : CallOk P B g args H v H2 := by
  have := (callB_ok (evC_ok (drS_ok P) (TabOk.nil P B) hspec hG fuel).1 h ho).2
  rwa [evC_base] at this
theorem CallOk.fn {P : Program} {w : World} {g : FuncId} {vs : List Value} {v : Value} {H2 : SH} (h : CallOk P w g (vs.map .k) [.sym] (.k v) H2) : Fn P g vs.toArray w fun u N => u = v ∧ N = [] := by
  have hs0 : St (ctx P 0 w) [fun _ => True] w := by
    have : St (ctx P 0 w) [] w := St.startW P 0 w (FB := (· < w.heap.size)) (A := []) (ow := fun _ _ => False) (fun _ h => h) ⟨fun _ _ h => h.elim, fun _ _ h => h.elim, fun _ _ _ h => h.elim, fun i A h => by simp at h⟩
    simpa using this.addT
  have hs : St (ctx P 0 w) (denH (fun _ => (0, 0)) [.sym] ++ []) w := by
    rw [List.append_nil]
    exact hs0
  have hk := h.2 (ctx P 0 w) ⟨rfl, fun k hk => ⟨hk, rfl⟩⟩ _ w [] hs
  rw [den_map_k] at hk
  refine Calls.mono hk ?_
  rintro e w' ⟨u, rfl, σ', _, rfl, hs'⟩
  obtain ⟨ow, ho⟩ := (hs'.emb (Emb.nil _)).own
  exact ⟨_, [], ow, rfl, hs'.keptW, ho, by simp only [den], rfl⟩
/-- A function that makes nothing, and hangs on its arguments and on what is given. -/
theorem SpOk.pure {P : Program} {B : World} {g : FuncId} {f : SpecF} (h : ∀ args H v H2 ps, f args H = .ok (v, H2, ps) → AllP ps → H2 = H ∧ ∃ (vs : List Value) (u : Value), args = vs.map .k ∧ v = .k u ∧ ∀ w, Over B w → Fn P g vs.toArray w fun r N => r = u ∧ N = []) : SpOk P B g f := by
  intro args H v H2 ps hf hp
  obtain ⟨rfl, vs, u, rfl, rfl, hfn⟩ := h args H v H2 ps hf hp
  refine ⟨Nat.le_refl _, fun C hC σ w M hs => ?_⟩
  rw [den_map_k]
  refine Calls.mono (hfn w (hC.over hs)) ?_
  rintro e w' ⟨u', N, ow, rfl, hk, ho, rfl, rfl⟩
  refine ⟨_, rfl, σ, agree.refl _ _, by simp only [den], ?_⟩
  have := hs.call hk ho
  rwa [List.append_nil] at this
/-- .. that takes one value. -/
def spOne (a u : Value) : SpecF := fun args H => match args with
  | [.k v] => .ok (.k u, H, [v = a])
  | _ => .no 50
theorem spOne_ok {P : Program} {B : World} {g : FuncId} {a u : Value} (h : ∀ w, Over B w → Fn P g #[a] w fun r N => r = u ∧ N = []) : SpOk P B g (spOne a u) := by
  refine SpOk.pure fun args H v H2 ps hf hp => ?_
  unfold spOne at hf
  split at hf
  · rename_i x
    cases hf
    have e : x = a := hp.1
    subst e
    exact ⟨rfl, [x], u, rfl, rfl, h⟩
  · cases hf
def spNone (u : Value) : SpecF := fun args H => match args with
  | [] => .ok (.k u, H, [])
  | _ => .no 51
theorem spNone_ok {P : Program} {B : World} {g : FuncId} {u : Value} (h : ∀ w, Over B w → Fn P g #[] w fun r N => r = u ∧ N = []) : SpOk P B g (spNone u) := by
  refine SpOk.pure fun args H v H2 ps hf hp => ?_
  unfold spNone at hf
  split at hf
  · cases hf
    exact ⟨rfl, [], u, rfl, rfl, h⟩
  · cases hf
/-- A leaf: what a cell of its type may hold. -/
structure Lf where
  i : Int
  b : Bool
  a : Option Addr
  n : Nat
  c : Nat
def leafOf (d : Option TypeDesc) (x : Lf) : Value :=
  match d with
  | some (.int k) => .int k x.i
  | some .bool => .bool x.b
  | some (.slice _) => .slice x.a x.n x.c
  | _ => undef
def leafy : Option TypeDesc → Bool
  | some (.int _) => true
  | some .bool => true
  | some (.slice _) => true
  | _ => false
def cellsGo (P : Program) (f : Nat → Lf) : Nat → List TypeId → List Value
  | _, [] => []
  | j, u :: ts => leafOf (P.underlying u) (f j) :: cellsGo P f (j + 1) ts
/-- A struct's cells, their leaves unknown. -/
def cellsT (P : Program) (t : TypeId) (f : Nat → Lf) : Array Value := Array.mk (cellsGo P f 0 ((P.cellTypes P.depth t).getD []))
def typedB (P : Program) (t : TypeId) : Bool :=
  match P.cellTypes P.depth t with
  | some ts => Nat.beq ts.length (P.cellsOf t) && ts.all fun u => leafy (P.underlying u)
  | none => false
def lfOf : Value → Lf
  | .int _ i => ⟨i, false, none, 0, 0⟩
  | .bool b => ⟨0, b, none, 0, 0⟩
  | .slice a n c => ⟨0, false, a, n, c⟩
  | _ => ⟨0, false, none, 0, 0⟩
theorem cellsGo_get (P : Program) (f : Nat → Lf) : ∀ (ts : List TypeId) (j k : Nat), (cellsGo P f j ts)[k]? = (ts[k]?).map fun u => leafOf (P.underlying u) (f (j + k))
  | [], _, _ => by simp [cellsGo]
  | u :: ts, j, 0 => by simp [cellsGo]
  | u :: ts, j, k + 1 => by
    simp only [cellsGo, List.getElem?_cons_succ]
    rw [cellsGo_get P f ts (j + 1) k, show j + 1 + k = j + (k + 1) by omega]
theorem open_typed {P : Program} {W : World} {r : Reach} {b0 : Nat} {t : TypeId} {cs : Array Value} (h : Row.okWide P W r b0 t cs) (hs : cs.size = P.cellsOf t) (hk : typedB P t = true) : ∃ f, cs = cellsT P t f := by
  refine ⟨fun i => lfOf (cs.getD i undef), ?_⟩
  obtain ⟨ts, h1, _, h2⟩ := h
  unfold typedB at hk
  rw [h1] at hk
  simp only [Bool.and_eq_true, Nat.beq_eq, List.all_eq_true] at hk
  unfold cellsT
  rw [h1]
  apply Array.ext'
  refine List.ext_getElem? fun i => ?_
  simp only [Option.getD_some]
  rw [cellsGo_get]
  by_cases hi : i < cs.size
  · have hit : i < ts.length := by omega
    have e1 : cs.toList[i]? = some cs[i] := by simp [hi]
    obtain ⟨u, hu, hc⟩ := h2 i _ (Array.getElem?_eq_getElem hi)
    rw [Nat.mod_eq_of_lt hit] at hu
    rw [e1, hu, Option.map_some]
    have hl := hk.2 u (List.mem_of_getElem? hu)
    have e2 : cs.getD (0 + i) undef = cs[i] := by simp [Array.getD, hi]
    rw [e2]
    generalize cs[i] = v at *
    unfold leafy at hl
    unfold Cell.okWide Cell.ok at hc
    unfold leafOf
    congr 1
    split at hl
    · rename_i k hd
      simp only [hd] at hc ⊢
      cases v <;> simp_all [lfOf]
    · rename_i hd
      simp only [hd] at hc ⊢
      cases v <;> simp_all [lfOf]
    · rename_i e hd
      simp only [hd] at hc ⊢
      cases v <;> simp_all [lfOf]
    · cases hl
  · rw [List.getElem?_eq_none (by simpa using hi), List.getElem?_eq_none (by omega)]; rfl
end Go.Proofs.YtonmkjcilepdcaaGreatDoor
