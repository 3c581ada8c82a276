import Derived.Test.YtchoncjikdfbgaaGreatDraw2
/- Regions that draw their order, and hold calls that hand back memory: what the tactics use. -/
namespace Go.Proofs.YtchoncjikdfbgaaGreat
open Go.RowKit
section
variable {C : Ctx} {l0 : List Oper} {z : Zone} {k : K} {E : Env} {F : Hist → Env} {L : Hp} {K : Kn} {rest : List Oper} {m d : Nat} {op : Op} {ty : TypeId} {pos : String} {af : Array Edge} {g : Option (Nat × Bool)}
theorem D2_asg (j : Nat) {x : Operand} (hj : dep l0.toArray j m = true) (hg : ∀ H, wantedE l0.toArray (F H) g = some true) (hd : Nat.blt d C.n = true) (hx : ∀ H, ev (F H) x = some (H j).1)
    (h : D2 C l0 z rest (m + 1) (fun H => (d, (H j).1) :: F H) L K) : D2 C l0 z (⟨some d, .assign x, ty, pos, af, g⟩ :: rest) m F L K :=
  D2_assign (v := fun H => (H j).1) (fun H H' hh => by rw [hh j hj]) hg hd hx h
theorem D2_moveT (j i : Nat) {x : Operand} (hj : dep l0.toArray j m = true) (hg : ∀ H, wantedE l0.toArray (F H) g = some true) (hd : Nat.blt d C.n = true) (hx : ∀ H, ev (F H) x = some (tg (H j).1 i))
    (h : D2 C l0 z rest (m + 1) (fun H => (d, tg (H j).1 i) :: F H) L K) : D2 C l0 z (⟨some d, .move x, ty, pos, af, g⟩ :: rest) m F L K :=
  D2_valH (v := fun H => tg (H j).1 i) (fun H H' hh => by rw [hh j hj]) rfl hg hd (fun H _ => Y_move (hx H)) h
theorem D2_asgT (j i : Nat) {x : Operand} (hj : dep l0.toArray j m = true) (hg : ∀ H, wantedE l0.toArray (F H) g = some true) (hd : Nat.blt d C.n = true) (hx : ∀ H, ev (F H) x = some (tg (H j).1 i))
    (h : D2 C l0 z rest (m + 1) (fun H => (d, tg (H j).1 i) :: F H) L K) : D2 C l0 z (⟨some d, .assign x, ty, pos, af, g⟩ :: rest) m F L K :=
  D2_assign (v := fun H => tg (H j).1 i) (fun H H' hh => by rw [hh j hj]) hg hd hx h
def rowK (Rs : List (Nat × IntKind × List Int)) : Kn := Rs.map fun r => (r.1, rowP r.2.1 r.2.2)
theorem rowK_hp (H : Hist) : ∀ Rs : List (Nat × IntKind × List Int), Kn.ok (rowK Rs) H → Kn.hp (rowK Rs) H = Rs.map fun r => row r.2.1 r.2.2 (H r.1).1
  | [], _ => rfl
  | r :: Rs, h => by
    have h1 : (H r.1).2 = [row r.2.1 r.2.2 (H r.1).1] := h _ (List.mem_cons_self ..)
    have h2 := rowK_hp H Rs fun p hp => h p (List.mem_cons_of_mem _ hp)
    show (H r.1).2 ++ Kn.hp (rowK Rs) H = _
    rw [h1, h2]
    rfl
/-- The end of such a region, where all that calls have handed back is rows. -/
theorem D2_nilR (Rs : List (Nat × IntKind × List Int)) {n : Nat} (hE : K = rowK Rs) (h : ∀ V : Hist, X C .normal k (F V) (L ++ Rs.map fun r => row r.2.1 r.2.2 (V r.1).1)) : D2 C l0 (zX C n k) [] m F L K :=
  D2_nil fun H hK => by
    subst hE
    rw [rowK_hp H Rs hK]
    exact h H
end
end Go.Proofs.YtchoncjikdfbgaaGreat
