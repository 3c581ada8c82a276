import Derived.Test.YtonmkjcilepdcaaGreatDoorEvY
/- The evaluator: a function of known arguments; an operation of known operands, in the walks. -/
namespace Go.Proofs.YtonmkjcilepdcaaGreatDoor
open Go.RowKit
set_option maxRecDepth 20000
set_option maxHeartbeats 4000000

def isV (u : Value) : Ans Value → Bool
  | .ok v => eqV 100 v u
  | _ => false
theorem ev_val {P : Program} {g fuel : Nat} (pur : List FuncId) {w : World} {tab : List (FuncId × List Value × Value)} (ht : TabOk P w tab) {G : Gb} (hG : GbOk w G) (vs : List Value) {u : Value} (h : isV u (callP P (evC P (drS P) w pur tab [] G fuel) g vs) = true) : Fn P g vs.toArray w fun v N => v = u ∧ N = [] := by
  unfold isV at h
  split at h
  case h_2 => cases h
  case h_1 v' hc =>
    rw [← eqV_eq _ _ _ h]
    exact callP_ok (evC_ok (drS_ok P) ht (SpecOk.nil P w) hG fuel).1 hc w (by rw [evC_base]; exact Over.refl w)
/-- What an operation of known operands yields. -/
def plE (E : Env) (x : Operand) : Value := (ev E x).getD undef
theorem Y_pure {C : Ctx} {E : Env} {L : Hp} {o : Oper} {v : Value} (h : (o.op.operands.all (fun x => (ev E x).isSome) && !isSel o.op) = true) (hp : pureRun C.P (execOp (plE E) o) = some (.value v)) : Yv C E L o v := by
  simp only [Bool.and_eq_true, Array.all_eq_true_iff_forall_mem, Bool.not_eq_true'] at h
  refine ⟨fun a w hr hs => ?_⟩
  have he : execOp a.eval o = execOp (plE E) o := execOp_congr o (fun cs b hcb => by simp [hcb, isSel] at h) fun x hx => by
    have := h.1 x hx
    obtain ⟨u, hu⟩ := Option.isSome_iff_exists.1 this
    rw [hr.eval hu]
    simp [plE, hu]
  rw [he]
  exact pureRun_run hp
section
variable {C : Ctx} {E : Env} {L : Hp} {dst : Option Tmp} {ty : TypeId} {pos : String} {g : Option (Nat × Bool)} {af : Array Edge} {t i : Nat} {x : Operand} {b off : Nat}
/-- A field's place. -/
def offOf (P : Program) (t i : Nat) : Option Nat :=
  match P.underlying t with
  | some (.struct fs) => match fs[i]? with
    | some f => match szOf P f.type with
      | some (_ + 1) => some f.offset
      | _ => none
    | none => none
  | _ => none
theorem Y_fieldA (k : Nat) (ht : offOf C.P t i = some k) (hx : ev E x = some (.pointer (some ⟨b, off, none⟩))) :
    Yv C E L ⟨dst, .fieldAddr t x i, ty, pos, af, g⟩ (.pointer (some ⟨b, off + k, none⟩)) := by
  refine ⟨fun a w hr _ => ?_⟩
  have hx' := hr.eval hx
  unfold offOf at ht
  split at ht
  case h_2 => cases ht
  case h_1 fs hu =>
    split at ht
    case h_2 => cases ht
    case h_1 f hf =>
      split at ht
      case h_2 => cases ht
      case h_1 hk =>
        cases ht
        unfold execOp
        simp [hx', Instr.fieldAt, run_underlying hu, hf, Instr.sureAddr, fieldPlace, run_sizeOf hk, addr_add]
theorem Y_loadAT (q : Nat) {cs : Array Value} {e : TypeId} {fz : Nat × Nat} (ht : isAggT C.P t = some true) (hx : ev E x = some (.pointer (some ⟨b, 0, none⟩)))
    (hq : L[q]? = some (blk b (.cells cs e fz))) (hz : szOf C.P t = some cs.size) : Yv C E L ⟨dst, .load t x, ty, pos, af, g⟩ (.agg cs) := by
  obtain ⟨d, hu, hd⟩ := Option.map_eq_some_iff.1 ht
  exact Y_loadA q hu hd hx hq hz
theorem Res1_aggT {P : Program} (q : Nat) {a : Tmp} {cs : Array Value} {e : TypeId} {fz : Nat × Nat} (ha : E.get a = some (.pointer (some ⟨b, 0, none⟩))) (ht : isAggT P t = some true)
    (hq : L[q]? = some (blk b (.cells cs e fz))) (hz : szOf P t = some cs.size) : Res1 P E L (.cell a t) (.agg cs) := by
  obtain ⟨d, hu, hd⟩ := Option.map_eq_some_iff.1 ht
  exact .agg q ha hu (by cases d <;> simp_all [isAggB]) hq hz
end
end Go.Proofs.YtonmkjcilepdcaaGreatDoor
