import Derived.Test.YtonmkjcilepdcaaGreatDoorEvB
/- The evaluator: new objects, places, structs. -/
noncomputable section
namespace Go.Proofs.YtonmkjcilepdcaaGreatDoor
open Go.RowKit
set_option maxRecDepth 20000
set_option maxHeartbeats 4000000

def opStore (P : Program) (E : SE) (H : SH) (t : TypeId) (x y : Operand) : Option SH :=
  match evS E x, evS E y with
  | some (.ptr n off), some s => storeS P H t n off s
  | _, _ => none
theorem opStore_ok {C : Ctx} {E : SE} {H H2 : SH} {o : Oper} {t : TypeId} {x y : Operand} (hop : o.op = .store t x y) (h : opStore C.P E H t x y = some H2) : OpOk C E H o (.k undef) H2 := by
  unfold opStore at h
  split at h
  case h_2 => cases h
  case h_1 n off s hx hy =>
    intro σ a w M hr hs
    have hx' := evS_eval hr hx
    have hy' := evS_eval hr hy
    rw [den] at hx'
    obtain ⟨hl, w', h1, h2⟩ := storeS_run hs h
    have : (execOp a.eval o).run C.P w = .ok .skip w' := by
      unfold execOp
      simp [hop, hx', hy', Instr.storeAt, Instr.sureAddr, h1]
    rw [this]
    exact ⟨σ, by rw [hl]; exact agree.refl _ _, by rw [den], h2⟩
/-! ### new objects -/
theorem OpOk.of_new {C : Ctx} {E : SE} {H : SH} {o : Oper} {v : SV} {so : SO} (hb : bndH H.length H = true)
    (h : ∀ (σ : Nm) (a : Act) (w : World) (M : Hp), Rel C.n (denE σ E) a → St C (denH σ H ++ M) w →
      ∃ ob, (execOp a.eval o).run C.P w = .ok (.value (den (upd σ H.length (w.heap.size, 0)) v)) { w with heap := w.heap.push ob } ∧ denO (upd σ H.length (w.heap.size, 0)) H.length so = blk w.heap.size ob) : OpOk C E H o v (H ++ [so]) := by
  intro σ a w M hr hs
  obtain ⟨ob, h1, h2⟩ := h σ a w M hr hs
  rw [h1]
  refine ⟨upd σ H.length (w.heap.size, 0), by rw [List.length_append]; exact agree_upd _ _ _, rfl, ?_⟩
  have h3 := hs.push ob
  rw [denH_append, h2, denH_bnd (agree.lt (agree_upd σ H.length (w.heap.size, 0))) hb]
  refine h3.perm ?_
  rw [List.append_assoc, List.append_assoc]
  exact List.Perm.append_left _ List.perm_append_comm
theorem denL_k (σ : Nm) (l : List Value) : denL σ (l.map .k) = l := by
  rw [denL_map, List.map_map]
  have : (den σ ∘ SV.k) = id := by funext v; simp [den]
  rw [this, List.map_id]
def opAlloc (P : Program) (H : SH) (t : TypeId) : Option (SV × SH) :=
  match zeroOf P t with
  | some z => if bndH (lenL H) H then pushK H (.cells (z.cells.toList.map .k) t) fun H' => some (.ptr (lenL H) 0, H') else none
  | none => none
theorem opAlloc_ok {C : Ctx} {E : SE} {H H2 : SH} {o : Oper} {v : SV} {t : TypeId} (hop : o.op = .alloc t) (h : opAlloc C.P H t = some (v, H2)) : OpOk C E H o v H2 := by
  unfold opAlloc at h
  simp only [lenL_eq] at h
  split at h
  case h_2 => cases h
  case h_1 z hz =>
    split at h
    case isFalse => cases h
    case isTrue hb =>
      rw [pushK_eq] at h
      cases h
      refine OpOk.of_new hb fun σ a w M hr hs => ⟨.cells z.cells t, ?_, ?_⟩
      · unfold execOp
        simp [hop, Instr.alloc, run_zeroValue hz, newVar, newRow, den]
      · simp only [denO, denL_k, upd_self, Array.toArray_toList]
def opBox (E : SE) (H : SH) (t : TypeId) (x : Operand) : Option (SV × SH) :=
  match evS E x with
  | some s => if bndH (lenL H) H && bndL (lenL H) (cellsS s) then pushK H (.cells (cellsS s) t) fun H' => some (.ptr (lenL H) 0, H') else none
  | none => none
theorem opBox_ok {C : Ctx} {E : SE} {H H2 : SH} {o : Oper} {v : SV} {t : TypeId} {x : Operand} (hop : o.op = .box t x) (h : opBox E H t x = some (v, H2)) : OpOk C E H o v H2 := by
  unfold opBox at h
  simp only [lenL_eq] at h
  split at h
  case h_2 => cases h
  case h_1 s hx =>
    split at h
    case isFalse => cases h
    case isTrue hb =>
      simp only [Bool.and_eq_true] at hb
      rw [pushK_eq] at h
      cases h
      refine OpOk.of_new hb.1 fun σ a w M hr hs => ⟨.cells (den σ s).cells t, ?_, ?_⟩
      · have := evS_eval hr hx
        unfold execOp
        simp [hop, Instr.box, newVar, newRow, den, this]
      · rw [denO, upd_self, denL_bnd (agree.lt (agree_upd σ H.length (w.heap.size, 0))) _ hb.2, ← cellsS_den, Array.toArray_toList]
theorem fold_set (off : Nat) : ∀ (vs : List Value) (i : Nat) (cells : Array Value), off + i + vs.length ≤ cells.size →
    ((vs.zipIdx i).foldl (fun (cs : Array Value) (p : Value × Nat) => cs.setIfInBounds (off + p.2) p.1) cells).toList = cells.toList.take (off + i) ++ vs ++ cells.toList.drop (off + i + vs.length)
  | [], i, cells, _ => by simp
  | v :: vs, i, cells, h => by
    simp only [List.zipIdx_cons, List.foldl_cons]
    rw [fold_set off vs (i + 1) _ (by simp at h ⊢; omega)]
    have e := list_seg_step cells.toList (off + i) v vs (by simp at h ⊢; omega)
    simpa [Array.toList_setIfInBounds, Nat.add_assoc] using e
def fillS (place : Nat → Option (Nat × Nat)) : List SV → List (Nat × SV) → Option (List SV)
  | cs, [] => some cs
  | cs, (i, s) :: rest => match place i with
    | some (off, size) => if Nat.beq (cellsS s).length size && Nat.ble (off + size) cs.length then fillS place (putCells cs off (cellsS s)) rest else none
    | none => none
theorem putCells_den (σ : Nm) (cs vs : List SV) (off : Nat) : denL σ (putCells cs off vs) = (denL σ cs).take off ++ denL σ vs ++ (denL σ cs).drop (off + vs.length) := by
  unfold putCells
  rw [denL_append, denL_append, denL_take, denL_drop]
theorem fillS_den {σ : Nm} {place : Nat → Option (Nat × Nat)} : ∀ {ps : List (Nat × SV)} {cs cs2 : List SV}, fillS place cs ps = some cs2 →
    Instr.fill place (denL σ cs).toArray (ps.map fun p => (p.1, den σ p.2)) = some (denL σ cs2).toArray
  | [], cs, cs2, h => by simp only [fillS, Option.some.injEq] at h; subst h; rfl
  | (i, s) :: ps, cs, cs2, h => by
    simp only [fillS] at h
    split at h
    case h_2 => cases h
    case h_1 off size hp =>
      split at h
      case isFalse => cases h
      case isTrue hc =>
        simp only [Bool.and_eq_true, Nat.beq_eq, Nat.ble_eq] at hc
        obtain ⟨rfl, hle⟩ := hc
        have ih := fillS_den (σ := σ) h
        have hv := cellsS_den σ s
        have hsz : (den σ s).cells.size = (cellsS s).length := by rw [← Array.length_toList, hv, denL_length]
        have hf : (den σ s).cells.zipIdx.foldl (fun (cs : Array Value) (x : Value × Nat) => match x with | (c, j) => cs.setIfInBounds (off + j) c) (denL σ cs).toArray = (denL σ (putCells cs off (cellsS s))).toArray := by
          apply Array.toList_inj.1
          have := fold_set off (denL σ (cellsS s)) 0 (denL σ cs).toArray (by simp; omega)
          rw [← Array.foldl_toList, Array.toList_zipIdx, hv]
          rw [putCells_den, ← denL_length σ (cellsS s)]
          simpa using this
        simp only [List.map_cons, Instr.fill, hp]
        rw [if_neg (by simp [hsz]; omega), hf, ih]
def partsS (E : SE) : List (Nat × Operand) → Option (List (Nat × SV))
  | [] => some []
  | (i, x) :: l => match evS E x, partsS E l with
    | some s, some r => some ((i, s) :: r)
    | _, _ => none
theorem partsS_eval {σ : Nm} {E : SE} {n : Nat} {a : Act} (hr : Rel n (denE σ E) a) : ∀ {l : List (Nat × Operand)} {ps : List (Nat × SV)}, partsS E l = some ps → l.map (fun p => (p.1, a.eval p.2)) = ps.map fun p => (p.1, den σ p.2)
  | [], ps, h => by simp only [partsS, Option.some.injEq] at h; subst h; rfl
  | (i, x) :: l, ps, h => by
    simp only [partsS] at h
    split at h
    case h_2 => cases h
    case h_1 s r hx hl =>
      cases h
      simp only [List.map_cons, evS_eval hr hx, partsS_eval hr hl]
def opBuild (P : Program) (E : SE) (t : TypeId) (parts : List (Nat × Operand)) : Option SV :=
  match zeroOf P t, P.underlying t, partsS E parts with
  | some z, some (.struct fields), some ps => match pureRun P (fields.mapM fun f => do pure (f.offset, ← sizeOf f.type)) with
    | some places => (fillS (places[·]?) (z.cells.toList.map .k) ps).map mkAgg
    | none => none
  | some z, some (.array _ e), some ps => match szOf P e with
    | some size => (fillS (fun i => some (i * size, size)) (z.cells.toList.map .k) ps).map mkAgg
    | none => none
  | _, _, _ => none
theorem opBuild_ok {C : Ctx} {E : SE} {H : SH} {o : Oper} {v : SV} {t : TypeId} {parts : Array (Nat × Operand)} (hop : o.op = .build t parts) (h : opBuild C.P E t parts.toList = some v) : OpOk C E H o v H := by
  unfold opBuild at h
  split at h
  case h_3 => cases h
  case h_1 z fields ps hz hu hps =>
    split at h
    case h_2 => cases h
    case h_1 places hpl =>
      obtain ⟨cs, hcs, rfl⟩ := Option.map_eq_some_iff.1 h
      refine OpOk.of_val fun σ a w M hr hs => ?_
      have h1 := partsS_eval hr hps
      have h2 := fillS_den (σ := σ) hcs
      rw [denL_k] at h2
      simp only [Array.toArray_toList] at h2
      have h3 := pureRun_run (w := w) hpl
      rw [mkAgg_den]
      have h4 : (parts.map fun (x : Nat × Operand) => match x with | (i, x) => (i, a.eval x)).toList = ps.map fun p => (p.1, den σ p.2) := by
        rw [Array.toList_map, ← h1]
      unfold execOp
      simp only [hop, Instr.build, Sem.run_bind, run_zeroValue hz, Result.andThen_ok, run_underlying hu, h3, h4, h2]
      rfl
  case h_2 z n e ps hz hu hps =>
    split at h
    case h_2 => cases h
    case h_1 size hsz =>
      obtain ⟨cs, hcs, rfl⟩ := Option.map_eq_some_iff.1 h
      refine OpOk.of_val fun σ a w M hr hs => ?_
      have h1 := partsS_eval hr hps
      have h2 := fillS_den (σ := σ) hcs
      rw [denL_k] at h2
      simp only [Array.toArray_toList] at h2
      rw [mkAgg_den]
      have h4 : (parts.map fun (x : Nat × Operand) => match x with | (i, x) => (i, a.eval x)).toList = ps.map fun p => (p.1, den σ p.2) := by
        rw [Array.toList_map, ← h1]
      unfold execOp
      simp only [hop, Instr.build, Sem.run_bind, run_zeroValue hz, Result.andThen_ok, run_underlying hu, run_sizeOf hsz, h4, h2]
      rfl
end Go.Proofs.YtonmkjcilepdcaaGreatDoor
end
