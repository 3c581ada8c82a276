import Derived.Test.YtonmkjcilepdcaaGreatDoorEvC
/- The evaluator: places, parts, interfaces, functions, slices. -/
noncomputable section
namespace Go.Proofs.YtonmkjcilepdcaaGreatDoor
open Go.RowKit
set_option maxRecDepth 20000
set_option maxHeartbeats 4000000

def opMove (E : SE) (x : Operand) : Option SV := evS E x
theorem opMove_ok {C : Ctx} {E : SE} {H : SH} {o : Oper} {v : SV} {x : Operand} (hop : o.op = .move x ∨ o.op = .assign x) (h : opMove E x = some v) : OpOk C E H o v H :=
  OpOk.of_val fun σ a w M hr hs => by
    have := evS_eval hr h
    unfold execOp
    rcases hop with hop | hop <;> simp [hop, this]
def opPick (E : SE) (c x y : Operand) : Option SV :=
  match evS E c with
  | some (.k (.bool true)) => evS E x
  | some (.k (.bool false)) => evS E y
  | _ => none
theorem opPick_ok {C : Ctx} {E : SE} {H : SH} {o : Oper} {v : SV} {c x y : Operand} (hop : o.op = .pick c x y) (h : opPick E c x y = some v) : OpOk C E H o v H := by
  unfold opPick at h
  refine OpOk.of_val fun σ a w M hr hs => ?_
  split at h
  · rename_i hc
    have h1 := evS_eval hr hc
    have h2 := evS_eval hr h
    unfold execOp
    simp [hop, h1, h2, den, asBool]
  · rename_i hc
    have h1 := evS_eval hr hc
    have h2 := evS_eval hr h
    unfold execOp
    simp [hop, h1, h2, den, asBool]
  · cases h
def opExtract (E : SE) (x : Operand) (i : Nat) : Option SV :=
  match evS E x with
  | some (.tup vs) => vs[i]?
  | _ => none
theorem opExtract_ok {C : Ctx} {E : SE} {H : SH} {o : Oper} {v : SV} {x : Operand} {i : Nat} (hop : o.op = .extract x i) (h : opExtract E x i = some v) : OpOk C E H o v H := by
  unfold opExtract at h
  refine OpOk.of_val fun σ a w M hr hs => ?_
  split at h
  · rename_i vs hx
    have h1 := evS_eval hr hx
    rw [den] at h1
    have h2 : (denL σ vs)[i]? = some (den σ v) := by rw [denL_get, h]; rfl
    unfold execOp
    simp [hop, h1, Instr.extract, h2]
  · cases h
def opFieldAddr (P : Program) (E : SE) (t : TypeId) (x : Operand) (i : Nat) : Option SV :=
  match evS E x, P.underlying t with
  | some (.ptr n off), some (.struct fs) => match fs[i]? with
    | some f => match szOf P f.type with
      | some (_ + 1) => some (.ptr n (off + f.offset))
      | _ => none
    | none => none
  | _, _ => none
theorem opFieldAddr_ok {C : Ctx} {E : SE} {H : SH} {o : Oper} {v : SV} {t : TypeId} {x : Operand} {i : Nat} (hop : o.op = .fieldAddr t x i) (h : opFieldAddr C.P E t x i = some v) : OpOk C E H o v H := by
  unfold opFieldAddr at h
  refine OpOk.of_val fun σ a w M hr hs => ?_
  split at h
  · rename_i n off fs hx hu
    have h1 := evS_eval hr hx
    rw [den] at h1
    split at h
    · rename_i f hf
      split at h
      · rename_i k hk
        cases h
        rw [den]
        unfold execOp
        simp [hop, h1, Instr.fieldAt, run_underlying hu, hf, Instr.sureAddr, fieldPlace, run_sizeOf hk, addr_add]
      · cases h
    · cases h
  · cases h
def ixOf (E : SE) (y : Operand) (len : Nat) : Option Nat :=
  match evS E y with
  | some (.k (.int _ i)) => if 0 ≤ i ∧ i < len then some i.toNat else none
  | _ => none
def opIndexAddr (P : Program) (E : SE) (t : TypeId) (x y : Operand) : Option SV :=
  match evS E x, P.underlying t with
  | some (.ptr n off), some (.array len e) => match ixOf E y len, szOf P e with
    | some i, some k => some (.ptr n (off + i * k))
    | _, _ => none
  | some (.slice n off len _), some (.slice e) => match ixOf E y len, szOf P e with
    | some i, some k => some (.ptr n (off + i * k))
    | _, _ => none
  | some (.slc n _ off len), some (.slice e) => match ixOf E y len, szOf P e with
    | some i, some k => some (.ptr n (off + i * k))
    | _, _ => none
  | _, _ => none
theorem ixOf_spec {σ : Nm} {E : SE} {n : Nat} {a : Act} (hr : Rel n (denE σ E) a) {y : Operand} {len i : Nat} (h : ixOf E y len = some i) : ∃ k p, a.eval y = .int k p ∧ (0 ≤ p ∧ p < (len : Int)) ∧ p.toNat = i := by
  unfold ixOf at h
  split at h
  · rename_i k p hy
    have h1 := evS_eval hr hy
    rw [den] at h1
    split at h
    · rename_i hc
      cases h
      exact ⟨k, p, h1, hc, rfl⟩
    · cases h
  · cases h
theorem opIndexAddr_ok {C : Ctx} {E : SE} {H : SH} {o : Oper} {v : SV} {t : TypeId} {x y : Operand} (hop : o.op = .indexAddr t x y) (h : opIndexAddr C.P E t x y = some v) : OpOk C E H o v H := by
  unfold opIndexAddr at h
  refine OpOk.of_val fun σ a w M hr hs => ?_
  split at h
  · rename_i n off len e hx hu
    have h1 := evS_eval hr hx
    rw [den] at h1
    split at h
    · rename_i i k hi hk
      cases h
      obtain ⟨kd, p, h2, h3, h4⟩ := ixOf_spec hr hi
      rw [den]
      unfold execOp
      simp [hop, h1, h2, Instr.indexAt, asIntOf, run_underlying hu, Instr.sureAddr, run_sizeOf hk, h3, addr_add, h4]
    · cases h
  · rename_i n off len cap e hx hu
    have h1 := evS_eval hr hx
    rw [den] at h1
    split at h
    · rename_i i k hi hk
      cases h
      obtain ⟨kd, p, h2, h3, h4⟩ := ixOf_spec hr hi
      rw [den]
      unfold execOp
      simp [hop, h1, h2, Instr.indexAt, asIntOf, run_underlying hu, run_sizeOf hk, h3, addr_add, h4]
    · cases h
  · rename_i n lo off len e hx hu
    have h1 := evS_eval hr hx
    rw [den] at h1
    split at h
    · rename_i i k hi hk
      cases h
      obtain ⟨kd, p, h2, h3, h4⟩ := ixOf_spec hr hi
      rw [den]
      unfold execOp
      simp [hop, h1, h2, Instr.indexAt, asIntOf, run_underlying hu, run_sizeOf hk, h3, addr_add, h4]
    · cases h
  · cases h
def opNilCheck (E : SE) (x : Operand) : Option SV :=
  match evS E x with
  | some (.ptr n off) => some (.ptr n off)
  | some (.func f cs) => some (.func f cs)
  | some (.iface t v) => some (.iface t v)
  | some (.map n) => some (.map n)
  | _ => none
theorem opNilCheck_ok {C : Ctx} {E : SE} {H : SH} {o : Oper} {v : SV} {x : Operand} (hop : o.op = .nilCheck x) (h : opNilCheck E x = some v) : OpOk C E H o v H := by
  unfold opNilCheck at h
  refine OpOk.of_val fun σ a w M hr hs => ?_
  split at h
  all_goals first | cases h | skip
  all_goals
    rename_i hx
    have h1 := evS_eval hr hx
    unfold execOp
    simp [hop, h1, den]
def opMakeIface (P : Program) (E : SE) (t : TypeId) (x : Operand) : Option SV :=
  match evS E x, P.underlying t with
  | some _, some (.interface _) => none
  | some s, some _ => some (.iface t s)
  | _, _ => none
theorem opMakeIface_ok {C : Ctx} {E : SE} {H : SH} {o : Oper} {v : SV} {t : TypeId} {x : Operand} (hop : o.op = .makeInterface t x) (h : opMakeIface C.P E t x = some v) : OpOk C E H o v H := by
  unfold opMakeIface at h
  refine OpOk.of_val fun σ a w M hr hs => ?_
  split at h
  · cases h
  · rename_i s d hne hx hu
    cases h
    have h1 := evS_eval hr hx
    unfold execOp
    have : (Instr.makeInterface t (den σ s)).run C.P w = .ok (.iface t (den σ s)) w := by
      unfold Instr.makeInterface
      rw [Sem.run_bind, run_underlying hu]
      cases d <;> first | rfl | (exact (hne _ rfl).elim)
    simp [hop, h1, this, den]
  · cases h
def evsS (E : SE) : List Operand → Option (List SV)
  | [] => some []
  | x :: xs => match evS E x, evsS E xs with
    | some v, some vs => some (v :: vs)
    | _, _ => none
theorem evsS_eval {σ : Nm} {E : SE} {n : Nat} {a : Act} (hr : Rel n (denE σ E) a) : ∀ {xs : List Operand} {vs : List SV}, evsS E xs = some vs → xs.map a.eval = denL σ vs
  | [], vs, h => by simp only [evsS, Option.some.injEq] at h; subst h; rw [denL]; rfl
  | x :: xs, vs, h => by
    simp only [evsS] at h
    split at h
    · rename_i v us hx hl
      cases h
      rw [denL, List.map_cons, evS_eval hr hx, evsS_eval hr hl]
    · cases h
def opMakeFunc (E : SE) (f : Go.Fn) (first captured : List Operand) : Option SV :=
  match f, first, evsS E captured with
  | .func g, [], some cs => some (.func g cs)
  | _, _, _ => none
theorem opMakeFunc_ok {C : Ctx} {E : SE} {H : SH} {o : Oper} {v : SV} {f : Go.Fn} {first captured : Array Operand} (hop : o.op = .makeFunc f first captured) (h : opMakeFunc E f first.toList captured.toList = some v) : OpOk C E H o v H := by
  unfold opMakeFunc at h
  refine OpOk.of_val fun σ a w M hr hs => ?_
  split at h
  · rename_i g cs hf hcs
    cases h
    have h1 := evsS_eval hr hcs
    have h2 : first = #[] := by apply Array.toList_inj.1; rw [hf]
    have h3 : captured.map a.eval = (denL σ cs).toArray := by apply Array.toList_inj.1; rw [Array.toList_map, h1]
    unfold execOp
    simp [hop, Instr.makeFunc, h2, h3, den]
  · cases h
def opMakeMap (E : SE) (H : SH) (r : Option Operand) : Option (SV × SH) :=
  match r with
  | none => if bndH (lenL H) H then pushK H (.map [] 0) fun H' => some (.map (lenL H), H') else none
  | some _ => none
theorem opMakeMap_ok {C : Ctx} {E : SE} {H H2 : SH} {o : Oper} {v : SV} {t : TypeId} {r : Option Operand} (hop : o.op = .makeMap t r) (h : opMakeMap E H r = some (v, H2)) : OpOk C E H o v H2 := by
  unfold opMakeMap at h
  simp only [lenL_eq] at h
  split at h
  · split at h
    case isFalse => cases h
    case isTrue hb =>
      rw [pushK_eq] at h
      cases h
      refine OpOk.of_new hb fun σ a w M hr hs => ⟨.map #[] 0, ?_, ?_⟩
      · unfold execOp
        simp [hop, Instr.makeMap, newObj, den, Sem.run]
      · simp [denO, denM]
  · cases h
def opBuildSlice (P : Program) (E : SE) (H : SH) (t : TypeId) (len : Nat) (parts : List (Nat × Operand)) : Option (SV × SH) :=
  match P.underlying t, partsS E parts with
  | some (.slice e), some ps => match szOf P e, zeroOf P e with
    | some size, some z =>
      if Nat.ble (len * size) 16777216 && bndH (lenL H) H && ps.all (fun p => bnd (lenL H) p.2) then
        match fillS (fun i => some (i * size, size)) (((List.range (len * size)).map fun i => z.cells[i % z.cells.size]!).map .k) ps with
        | some cs => if bndL (lenL H) cs then pushK H (.cells cs e) fun H' => some (.slice (lenL H) 0 len len, H') else none
        | none => none
      else none
    | _, _ => none
  | _, _ => none
theorem opBuildSlice_ok {C : Ctx} {E : SE} {H H2 : SH} {o : Oper} {v : SV} {t : TypeId} {len : Nat} {parts : Array (Nat × Operand)} (hop : o.op = .buildSlice t len parts) (h : opBuildSlice C.P E H t len parts.toList = some (v, H2)) : OpOk C E H o v H2 := by
  unfold opBuildSlice at h
  simp only [lenL_eq] at h
  split at h
  case h_2 => cases h
  case h_1 e ps hu hps =>
    split at h
    case h_2 => cases h
    case h_1 size z hsz hz =>
      split at h
      case isFalse => cases h
      case isTrue hc =>
        simp only [Bool.and_eq_true, Nat.ble_eq] at hc
        split at h
        case h_2 => cases h
        case h_1 cs hcs =>
          split at h
          case isFalse => cases h
          case isTrue hb =>
            rw [pushK_eq] at h
            cases h
            refine OpOk.of_new hc.1.2 fun σ a w M hr hs => ⟨.cells (denL σ cs).toArray e, ?_, ?_⟩
            · have h1 := partsS_eval hr hps
              have h2 := fillS_den (σ := σ) hcs
              rw [denL_k] at h2
              have h4 : (parts.map fun (x : Nat × Operand) => match x with | (i, x) => (i, a.eval x)).toList = ps.map fun p => (p.1, den σ p.2) := by
                rw [Array.toList_map, ← h1]
              have h6 : ¬ len * size > 2 ^ 24 := by omega
              unfold execOp
              by_cases h0 : len * size = 0
              · simp [hop, Instr.buildSlice, run_underlying hu, run_sizeOf hsz, h0, newRow, newObj]
                have h5 : (Array.map (fun _ => (default : Value)) (Array.range 0)) = ((List.range (len * size)).map fun i => z.cells[i % z.cells.size]!).toArray := by simp [h0]
                rw [h5, h1, h2]
                simp only [den, upd_self]
                rfl
              · simp [hop, Instr.buildSlice, run_underlying hu, run_sizeOf hsz, h0, run_zeroValue hz, newRow, newObj]
                have h5 : (Array.map (fun x => z.cells[x % z.cells.size]!) (Array.range (len * size))) = ((List.range (len * size)).map fun i => z.cells[i % z.cells.size]!).toArray := by
                  apply Array.toList_inj.1
                  simp
                rw [if_neg (by omega), h5, h1, h2]
                simp only [den, upd_self]
                rfl
            · rw [denO, upd_self, denL_bnd (agree.lt (agree_upd σ H.length (w.heap.size, 0))) _ hb]
/-- The array behind a row. -/
def opArrayPtr (P : Program) (E : SE) (t : TypeId) (x : Operand) : Option SV :=
  match P.underlying t, evS E x with
  | some (.array n _), some (.slice q off len _) => if Nat.ble n len then some (.ptr q off) else none
  | some (.array n _), some (.slc q _ off len) => if Nat.ble n len then some (.ptr q off) else none
  | _, _ => none
theorem opArrayPtr_ok {C : Ctx} {E : SE} {H : SH} {o : Oper} {v : SV} {t : TypeId} {x : Operand} (hop : o.op = .sliceToArrayPointer t x) (h : opArrayPtr C.P E t x = some v) : OpOk C E H o v H := by
  unfold opArrayPtr at h
  refine OpOk.of_val fun σ a w M hr hs => ?_
  split at h
  · rename_i n e q off len cap hu hx
    split at h
    · rename_i hn
      rw [Nat.ble_eq] at hn
      cases h
      have h1 := evS_eval hr hx
      rw [den] at h1
      unfold execOp
      simp [hop, h1, Instr.arrayAt, run_underlying hu, Nat.not_lt.2 hn, den]
    · cases h
  · rename_i n e q lo off len hu hx
    split at h
    · rename_i hn
      rw [Nat.ble_eq] at hn
      cases h
      have h1 := evS_eval hr hx
      rw [den] at h1
      unfold execOp
      simp [hop, h1, Instr.arrayAt, run_underlying hu, Nat.not_lt.2 hn, den]
    · cases h
  · cases h
end Go.Proofs.YtonmkjcilepdcaaGreatDoor
end
