import Derived.Test.YtonmkjcilepdcaaGreatDoorEvD
import Derived.Laws.AppendOwn
/- The evaluator: parts of slices, lengths, nil, append, copy. -/
noncomputable section
namespace Go.Proofs.YtonmkjcilepdcaaGreatDoor
open Go.RowKit
set_option maxRecDepth 20000
set_option maxHeartbeats 4000000

/-- How long a row may be known to be. -/
def roomS (P : Program) (H : SH) (e : TypeId) (n : Nat) : Option Nat :=
  match getL H n, szOf P e with
  | some (.pre sz cs _), some k => if Nat.beq sz k && Nat.blt 0 sz then some (cs.length / sz) else none
  | _, _ => none
theorem roomS_spec {C : Ctx} {σ : Nm} {H : SH} {M : Hp} {w : World} (hs : St C (denH σ H ++ M) w) {e : TypeId} {n r : Nat} (h : roomS C.P H e n = some r) : r ≤ (σ n).2 := by
  unfold roomS at h
  simp only [getL_eq] at h
  split at h
  case h_2 => cases h
  case h_1 sz cs e' k ho hk =>
    split at h
    case isFalse => cases h
    case isTrue hc =>
      simp only [Bool.and_eq_true, Nat.beq_eq, Nat.blt_eq] at hc
      cases h
      obtain ⟨ow, hown⟩ := hs.own
      have hq : (denH σ H ++ M)[n]? = some (denO σ n (.pre sz cs e')) := by
        rw [List.getElem?_append_left (by rw [denH_length]; exact (List.getElem?_eq_some_iff.1 ho).1), denH_get, ho]; rfl
      obtain ⟨post, _, hp⟩ := hown.sat n _ hq
      refine Nat.div_le_of_le_mul ?_
      rw [Nat.mul_comm, hp]
      omega
def optIx (E : SE) : Option Operand → Nat → Nat → Option Nat
  | none, dflt, _ => some dflt
  | some y, _, top => match evS E y with
    | some (.k (.int _ i)) => if 0 ≤ i ∧ i ≤ top then some i.toNat else none
    | _ => none
theorem run_bound0 {P : Program} {w : World} {k : IntKind} {p : Int} {i top : Nat} {code : BoundsCode} (h : 0 ≤ p ∧ p ≤ (top : Int)) (h2 : p.toNat = i) : (Instr.sliceBound (.int k p) top code).run P w = .ok i w := by
  simp [Instr.sliceBound, asIntOf, h, h2]
theorem bounds_run {σ : Nm} {E : SE} {n : Nat} {a : Act} (hr : Rel n (denE σ E) a) {lo hi : Option Operand} {l h len cap top : Nat} (hh : optIx E hi len top = some h) (hl : optIx E lo 0 h = some l) (ht : top ≤ cap) (P : Program) (w : World) (b : Bool) :
    (Instr.sliceBounds b len cap (lo.map a.eval) (hi.map a.eval) none).run P w = .ok (l, h, cap) w := by
  have e1 : ∀ code, (match hi.map a.eval with | some v => Instr.sliceBound v cap code | none => (pure len : Sem Nat)).run P w = .ok h w := by
    intro code
    cases hi with
    | none => simp only [optIx, Option.some.injEq] at hh; subst hh; rfl
    | some y =>
      simp only [optIx] at hh
      split at hh
      · rename_i k p hy
        split at hh
        · rename_i hc
          cases hh
          have := evS_eval hr hy
          rw [den] at this
          simp only [Option.map_some, this]
          exact run_bound0 (by omega) rfl
        · cases hh
      · cases hh
  have e2 : ∀ code, (match lo.map a.eval with | some v => Instr.sliceBound v h code | none => (pure 0 : Sem Nat)).run P w = .ok l w := by
    intro code
    cases lo with
    | none => simp only [optIx, Option.some.injEq] at hl; subst hl; rfl
    | some y =>
      simp only [optIx] at hl
      split at hl
      · rename_i k p hy
        split at hl
        · rename_i hc
          cases hl
          have := evS_eval hr hy
          rw [den] at this
          simp only [Option.map_some, this]
          exact run_bound0 hc rfl
        · cases hl
      · cases hl
  unfold Instr.sliceBounds
  cases hi with
  | none =>
    obtain rfl : len = h := by simpa [optIx] using hh
    cases lo with
    | none =>
      obtain rfl : 0 = l := by simpa [optIx] using hl
      simp
    | some y =>
      have h2 := e2 .sliceB
      simp only [Option.map_some] at h2
      simp [h2]
  | some y =>
    have h1 := fun c => e1 c
    simp only [Option.map_some] at h1
    cases lo with
    | none =>
      obtain rfl : 0 = l := by simpa [optIx] using hl
      cases b <;> simp [h1]
    | some z =>
      have h2 := e2 .sliceB
      simp only [Option.map_some] at h2
      cases b <;> simp [h1, h2]
def opSlice (P : Program) (E : SE) (H : SH) (t : TypeId) (x : Operand) (lo hi mx : Option Operand) : Option SV :=
  match mx with
  | some _ => none
  | none => match evS E x, P.underlying t with
    | some (.ptr n off), some (.array len e) => match optIx E hi len len, szOf P e with
      | some h, some k => match optIx E lo 0 h with
        | some l => some (.slice n (if len = l then off else off + l * k) (h - l) (len - l))
        | none => none
      | _, _ => none
    | some (.slice n off len cap), some (.slice e) => match optIx E hi len cap, szOf P e with
      | some h, some k => match optIx E lo 0 h with
        | some l => some (.slice n (if cap = l then off else off + l * k) (h - l) (cap - l))
        | none => none
      | _, _ => none
    | some (.slc n lo' off len), some (.slice e) => match roomS P H e n, szOf P e with
      | some r, some k => if Nat.blt lo' r then match optIx E hi len (r - lo') with
          | some h => match optIx E lo 0 h with
            | some l => if Nat.blt (lo' + l) r || Nat.beq l 0 then some (.slc n (lo' + l) (off + l * k) (h - l)) else none
            | none => none
          | none => none
        else none
      | _, _ => none
    | _, _ => none
theorem opSlice_ok {C : Ctx} {E : SE} {H : SH} {o : Oper} {v : SV} {t : TypeId} {x : Operand} {lo hi mx : Option Operand} (hop : o.op = .slice t x lo hi mx) (h : opSlice C.P E H t x lo hi mx = some v) : OpOk C E H o v H := by
  unfold opSlice at h
  refine OpOk.of_val fun σ a w M hr hs => ?_
  split at h
  case h_1 => cases h
  case h_2 =>
    split at h
    · rename_i n off len e hx hu
      have h1 := evS_eval hr hx
      rw [den] at h1
      split at h
      · rename_i hh k hhi hk
        split at h
        · rename_i l hl
          cases h
          have hb := bounds_run hr hhi hl (Nat.le_refl _) C.P w false
          unfold execOp
          simp only [Option.map_none, hop, h1, Instr.sliceAt, Sem.run_bind, run_underlying hu, Result.andThen_ok, Instr.sureAddr, Sem.run_pure, hb, run_sizeOf hk, addr_add]
          split <;> simp [den]
        · cases h
      · cases h
    · rename_i n off len cap e hx hu
      have h1 := evS_eval hr hx
      rw [den] at h1
      split at h
      · rename_i hh k hhi hk
        split at h
        · rename_i l hl
          cases h
          have hb := bounds_run hr hhi hl (Nat.le_refl _) C.P w true
          unfold execOp
          simp only [Option.map_none, hop, h1, Instr.sliceAt, Instr.slice, Sem.run_bind, run_underlying hu, Result.andThen_ok, Sem.run_pure, hb, run_sizeOf hk, Option.map_some, addr_add]
          split <;> simp [den]
        · cases h
      · cases h
    · rename_i n lo' off len e hx hu
      have h1 := evS_eval hr hx
      rw [den] at h1
      split at h
      · rename_i r k hroom hk
        have hrm := roomS_spec hs hroom
        split at h
        case isFalse => cases h
        case isTrue hlt =>
          simp only [Nat.blt_eq] at hlt
          split at h
          case h_2 => cases h
          case h_1 hh hhi =>
            split at h
            case h_2 => cases h
            case h_1 l hl =>
              split at h
              case isFalse => cases h
              case isTrue hc =>
                simp only [Bool.or_eq_true, Nat.blt_eq, Nat.beq_eq] at hc
                cases h
                have hb := bounds_run hr hhi hl (show r - lo' ≤ (σ n).2 - lo' by omega) C.P w true
                have hne : ¬ ((σ n).2 - lo' = l) := by omega
                unfold execOp
                simp only [Option.map_none, hop, h1, Instr.sliceAt, Instr.slice, Sem.run_bind, run_underlying hu, Result.andThen_ok, Sem.run_pure, hb, run_sizeOf hk, Option.map_some, addr_add, if_neg hne, den]
                rw [show (σ n).2 - (lo' + l) = (σ n).2 - lo' - l by omega]
      · cases h
    · cases h
end Go.Proofs.YtonmkjcilepdcaaGreatDoor
end
