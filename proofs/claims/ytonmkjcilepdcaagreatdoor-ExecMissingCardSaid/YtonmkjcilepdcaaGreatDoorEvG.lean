import Derived.Test.YtonmkjcilepdcaaGreatDoorEvF
/- The evaluator: what turns maps and rows. -/
noncomputable section
namespace Go.Proofs.YtonmkjcilepdcaaGreatDoor
open Go.RowKit
set_option maxRecDepth 20000
set_option maxHeartbeats 4000000

def opMapUpdate (P : Program) (E : SE) (H : SH) (t : TypeId) (m x y : Operand) : Option SH :=
  match evS E m, plainV E x, evS E y, P.underlying t with
  | some (.map n), some key, some s, some (.map K _) => match getL H n with
    | some (.map es c) => match keysS es with
      | some ks => match pureRun P (Instr.checkKey false 10000 K key), pureRun P (Instr.findKey K key ks) with
        | some _, some (some (i, _)) => match es[i]? with
          | some (.k old, _, b) => if Instr.sameBits 10000 old key then setK H n (.map (es.set i (.k key, s, b)) c) some else none
          | _ => none
        | some _, some none => setK H n (.map (es ++ [(.k key, s, c)]) (c + 1)) some
        | _, _ => none
      | none => none
    | _ => none
  | _, _, _, _ => none
theorem St.setMap {C : Ctx} {σ : Nm} {H : SH} {M : Hp} {w : World} (hs : St C (denH σ H ++ M) w) {n : Nat} {es es2 : List (SV × SV × Nat)} {c c2 : Nat} (ho : H[n]? = some (.map es c)) :
    St C (denH σ (H.set n (.map es2 c2)) ++ M) { w with heap := w.heap.setIfInBounds (σ n).1 (.map (denM σ es2).toArray c2) } := by
  have hnl := (List.getElem?_eq_some_iff.1 ho).1
  have hq : (denH σ H ++ M)[n]? = some (denO σ n (.map es c)) := by
    rw [List.getElem?_append_left (by rw [denH_length]; exact hnl), denH_get, ho]; rfl
  have key : (denH σ (H.set n (.map es2 c2)) ++ M) = (denH σ H ++ M).set n (denO σ n (.map es2 c2)) := by
    rw [denH_set, List.set_append_left _ _ (by rw [denH_length]; exact hnl)]
  rw [key]
  refine hs.upd hq rfl rfl rfl (by simp) fun D hD hl => ?_
  have hb := cut_in (show cut D w (σ n).1 = _ from hD)
  have hlt := hl _ hb.1
  refine ⟨D, fun _ h => .inl h, fun b hb => by simpa using hl b hb, fun b' _ hn => ?_, cut_of hb.1 ?_⟩
  · show (w.heap.setIfInBounds (σ n).1 _)[b']? = _
    rw [Array.getElem?_setIfInBounds_ne (fun e => hn (by rw [← e]; exact hb.1))]
  · show (w.heap.setIfInBounds (σ n).1 _)[(σ n).1]? = _
    rw [Array.getElem?_setIfInBounds_self_of_lt hlt]
theorem opMapUpdate_ok {C : Ctx} {E : SE} {H H2 : SH} {o : Oper} {t : TypeId} {m x y : Operand} (hop : o.op = .mapUpdate t m x y ∨ o.op = .insert t m x y) (h : opMapUpdate C.P E H t m x y = some H2) : OpOk C E H o (.k undef) H2 := by
  unfold opMapUpdate at h
  simp only [getL_eq] at h
  intro σ a w M hr hs
  split at h
  case h_2 => cases h
  case h_1 n key s K V hm hx hy hu =>
    have h1 := evS_eval hr hm
    have h2 := plainV_eval hr hx
    have h3 := evS_eval hr hy
    rw [den] at h1
    split at h
    case h_2 => cases h
    case h_1 es c ho =>
      have hw := hs.smap ho
      split at h
      case h_2 => cases h
      case h_1 ks hks =>
        have hkeys := keysS_den (σ := σ) hks
        split at h
        · rename_i i u hck hf
          split at h
          · rename_i old v0 b hi
            split at h
            case isFalse => cases h
            case isTrue hsame =>
              rw [setK_eq] at h
              cases h
              have hck' := pureRun_run (w := w) hck
              have hf' := pureRun_run (w := w) (findKey_keys hkeys hf)
              have hold : (denM σ es)[i]? = some ⟨old, den σ v0, b⟩ := by unfold denM; simp [hi, den]
              have hstay : (Instr.keyThatStays old key).run C.P w = .ok key w := by
                unfold Instr.keyThatStays
                rw [if_pos hsame]
                rfl
              have hmod : (denM σ es).toArray.modify i (fun e => { e with key := key, val := den σ s }) = (denM σ (es.set i (.k key, s, b))).toArray := by
                apply Array.toList_inj.1
                refine List.ext_getElem? fun j => ?_
                rw [Array.getElem?_toList, Array.getElem?_modify, List.getElem?_toArray]
                unfold denM
                simp only [List.getElem?_map, List.getElem?_set]
                by_cases hj : i = j
                · subst hj
                  obtain ⟨hil, hget⟩ := List.getElem?_eq_some_iff.1 hi
                  simp [hi, den, hil, hget]
                · simp [hj]
              have hrun : (Instr.mapUpdate t (.map (some (σ n).1)) key (den σ s)).run C.P w = .ok () { w with heap := w.heap.setIfInBounds (σ n).1 (.map (denM σ (es.set i (.k key, s, b))).toArray c) } := by
                have hold2 : (denM σ es).toArray[i]? = some ⟨old, den σ v0, b⟩ := by rw [List.getElem?_toArray]; exact hold
                simp only [Instr.mapUpdate, Sem.run_bind, run_underlying hu, Result.andThen_ok, getObj, Sem.run, hw, hck', hf', Option.map_some, Sem.run_pure, hold2, Option.getD_some, hstay, setObj, hmod]
              have : (execOp a.eval o).run C.P w = .ok .skip { w with heap := w.heap.setIfInBounds (σ n).1 (.map (denM σ (es.set i (.k key, s, b))).toArray c) } := by
                unfold execOp
                rcases hop with hop | hop <;> simp only [hop, h1, h2, h3, Sem.run_bind, hrun, Result.andThen_ok, Sem.run_pure]
              rw [this]
              exact ⟨σ, by rw [List.length_set]; exact agree.refl _ _, by rw [den], hs.setMap ho⟩
          · cases h
        · rename_i hck hf
          rw [setK_eq] at h
          cases h
          have hck' := pureRun_run (w := w) hck
          have hf' := pureRun_run (w := w) (findKey_keys hkeys hf)
          have hpush : (denM σ es).toArray.push { key := key, val := den σ s, born := c } = (denM σ (es ++ [(.k key, s, c)])).toArray := by
            apply Array.toList_inj.1
            simp [denM, den]
          have hrun : (Instr.mapUpdate t (.map (some (σ n).1)) key (den σ s)).run C.P w = .ok () { w with heap := w.heap.setIfInBounds (σ n).1 (.map (denM σ (es ++ [(.k key, s, c)])).toArray (c + 1)) } := by
            simp only [Instr.mapUpdate, Sem.run_bind, run_underlying hu, Result.andThen_ok, getObj, Sem.run, hw, hck', hf', Option.map_none, setObj, hpush]
          have : (execOp a.eval o).run C.P w = .ok .skip { w with heap := w.heap.setIfInBounds (σ n).1 (.map (denM σ (es ++ [(.k key, s, c)])).toArray (c + 1)) } := by
            unfold execOp
            rcases hop with hop | hop <;> simp only [hop, h1, h2, h3, Sem.run_bind, hrun, Result.andThen_ok, Sem.run_pure]
          rw [this]
          exact ⟨σ, by rw [List.length_set]; exact agree.refl _ _, by rw [den], hs.setMap ho⟩
        · cases h
/-! ### rows -/
def natS (E : SE) (x : Operand) : Option Nat :=
  match evS E x with
  | some (.k (.int _ i)) => if 0 ≤ i ∧ i < 1099511627776 then some i.toNat else none
  | _ => none
theorem natS_spec {σ : Nm} {E : SE} {n : Nat} {a : Act} (hr : Rel n (denE σ E) a) {y : Operand} {i : Nat} (h : natS E y = some i) : ∃ k, a.eval y = .int k (i : Int) ∧ i < 1099511627776 := by
  unfold natS at h
  split at h
  · rename_i k p hy
    have h1 := evS_eval hr hy
    rw [den] at h1
    split at h
    · rename_i hc
      cases h
      exact ⟨k, by rw [h1]; congr 1; omega, by omega⟩
    · cases h
  · cases h
def opMakeSlice (P : Program) (E : SE) (H : SH) (t : TypeId) (l c : Operand) : Option (SV × SH) :=
  match natS E l, natS E c, P.underlying t with
  | some l, some c, some (.slice e) => match szOf P e, zeroOf P e, bytesOf P e with
    | some size, some z, some bytes => if bndH (lenL H) H && Nat.ble l c && Nat.ble (bytes * c) 140737488355328 then
        pushK H (.cells (((List.range (c * size)).map fun i => z.cells[i % z.cells.size]!).map .k) e) fun H' => some (.slice (lenL H) 0 l c, H')
      else none
    | _, _, _ => none
  | _, _, _ => none
theorem opMakeSlice_ok {C : Ctx} {E : SE} {H H2 : SH} {o : Oper} {v : SV} {t : TypeId} {l c : Operand} (hop : o.op = .makeSlice t l c) (h : opMakeSlice C.P E H t l c = some (v, H2)) : OpOk C E H o v H2 := by
  unfold opMakeSlice at h
  simp only [lenL_eq] at h
  split at h
  case h_2 => cases h
  case h_1 l' c' e hl hc hu =>
    split at h
    case h_2 => cases h
    case h_1 size z bytes hsz hz hby =>
      split at h
      case isFalse => cases h
      case isTrue hcond =>
        simp only [Bool.and_eq_true, Nat.ble_eq] at hcond
        rw [pushK_eq] at h
        cases h
        refine OpOk.of_new hcond.1.1 fun σ a w M hr hs => ⟨.cells ((List.range (c' * size)).map fun i => z.cells[i % z.cells.size]!).toArray e, ?_, by rw [denO, upd_self, denL_k]⟩
        obtain ⟨k1, h1, hb1⟩ := natS_spec hr hl
        obtain ⟨k2, h2, hb2⟩ := natS_spec hr hc
        obtain ⟨i, hi, hib⟩ : ∃ i, C.P.info? e = some i ∧ i.bytes = bytes := by
          unfold bytesOf at hby
          cases hi : C.P.info? e with
          | none => simp [hi] at hby
          | some i => exact ⟨i, rfl, by simpa [hi] using hby⟩
        have hbz : ((i.bytes : Int) * (c' : Int)) ≤ 281474976710656 := by
          rw [hib]
          have h9 := hcond.2
          rw [← Int.natCast_mul]
          omega
        have hle : ((l' : Nat) : Int) ≤ (c' : Int) := by have := hcond.1.2; omega
        have hiz : i.zero = some z := by unfold zeroOf at hz; rw [hi] at hz; simpa using hz
        have his : i.size = size := by unfold szOf at hsz; rw [hi] at hsz; simpa using hsz
        have hm := run_make (P := C.P) w t e i _ hu hi hiz k1 k2 (l' : Int) (c' : Int) (by omega) hle hbz (by omega)
        have hmc : madeCells z.cells ((c' : Int).toNat * i.size) = ((List.range (c' * size)).map fun i => z.cells[i % z.cells.size]!).toArray := by
          rw [his, Int.toNat_natCast]
          apply Array.toList_inj.1
          simp [madeCells]
        rw [hmc, Int.toNat_natCast, Int.toNat_natCast] at hm
        unfold execOp
        simp only [hop, h1, h2, Sem.run_bind, hm, Result.andThen_ok, Sem.run_pure, den, upd_self]
        rfl
end Go.Proofs.YtonmkjcilepdcaaGreatDoor
end
