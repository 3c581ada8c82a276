import Derived.Test.YtonmkjcilepdcaaGreatDoorEvG
/- The evaluator: append. -/
noncomputable section
namespace Go.Proofs.YtonmkjcilepdcaaGreatDoor
open Go.RowKit
set_option maxRecDepth 20000
set_option maxHeartbeats 4000000

/-- Cells that a slice shows. -/
def seenS (H : SH) (size : Nat) : SV → Option (Nat × List SV)
  | .slice m off len _ => match (getL H m).bind cellsOf with
    | some cs => if Nat.ble (off + len * size) cs.length then some (len, (cs.drop off).take (len * size)) else none
    | none => none
  | .slc m _ off len => match (getL H m).bind cellsOf with
    | some cs => if Nat.ble (off + len * size) cs.length then some (len, (cs.drop off).take (len * size)) else none
    | none => none
  | _ => none
theorem seenS_spec {C : Ctx} {σ : Nm} {H : SH} {M : Hp} {w : World} (hs : St C (denH σ H ++ M) w) {size : Nat} {s : SV} {len : Nat} {xs : List SV} (h : seenS H size s = some (len, xs)) :
    ∃ a c, den σ s = .slice (some a) len c ∧ xs.length = len * size ∧ ∀ j u, (denL σ xs)[j]? = some u → w.cell? (a.add j) = some u := by
  have key : ∀ {m off len' : Nat} {cs : List SV}, (H[m]?).bind cellsOf = some cs → off + len' * size ≤ cs.length → ∀ j u, (denL σ ((cs.drop off).take (len' * size)))[j]? = some u → w.cell? ((⟨(σ m).1, off, none⟩ : Addr).add j) = some u := by
    intro m off len' cs hm hle j u hj
    obtain ⟨o, ho, hc⟩ := Option.bind_eq_some_iff.1 hm
    rw [denL_get] at hj
    obtain ⟨s, h1, rfl⟩ := Option.map_eq_some_iff.1 hj
    rw [List.getElem?_take] at h1
    split at h1
    · rw [List.getElem?_drop] at h1
      rw [addr_add]
      exact hs.scell ho hc h1
    · cases h1
  unfold seenS at h
  simp only [getL_eq] at h
  split at h
  · split at h
    · rename_i m off len' cap cs hm
      split at h
      · rename_i hle
        rw [Nat.ble_eq] at hle
        cases h
        exact ⟨_, _, by rw [den], by rw [List.length_take, List.length_drop]; omega, key hm hle⟩
      · cases h
    · cases h
  · split at h
    · rename_i m lo off len' cs hm
      split at h
      · rename_i hle
        rw [Nat.ble_eq] at hle
        cases h
        exact ⟨_, _, by rw [den], by rw [List.length_take, List.length_drop]; omega, key hm hle⟩
      · cases h
    · cases h
  · cases h
/-- The row that is added to: its name, its length, its cells. -/
def headS (H : SH) (size : Nat) (e : TypeId) : SV → Option (Nat × Nat × List SV)
  | .slc q lo off len => match getL H q with
    | some (.pre sz cs e') => if Nat.beq lo 0 && Nat.beq off 0 && Nat.beq sz size && Nat.beq e' e && Nat.ble (len * size) cs.length then some (q, len, cs.take (len * size)) else none
    | _ => none
  | .slice q off len cap => match getL H q with
    | some (.cells cs e') => if Nat.beq off 0 && Nat.beq e' e && Nat.ble len cap && Nat.beq cs.length (cap * size) then some (q, len, cs.take (len * size)) else none
    | _ => none
  | _ => none
theorem headS_spec {C : Ctx} {σ : Nm} {H : SH} {M : Hp} {w : World} (hs : St C (denH σ H ++ M) w) {size : Nat} {e : TypeId} {s : SV} {q len : Nat} {xs : List SV} (h : headS H size e s = some (q, len, xs)) :
    ∃ cap o, H[q]? = some o ∧ den σ s = .slice (some ⟨(σ q).1, 0, none⟩) len cap ∧ xs.length = len * size ∧
      ∀ D, (denO σ q o) (cut D w) → ∃ post, cut D w (σ q).1 = some (.cells (denL σ xs ++ post).toArray e (0, 0)) ∧ cap * size = xs.length + post.length := by
  unfold headS at h
  simp only [getL_eq] at h
  split at h
  · rename_i q' lo off len'
    split at h
    · rename_i sz cs e' ho
      split at h
      · rename_i hc
        simp only [Bool.and_eq_true, Nat.beq_eq, Nat.ble_eq] at hc
        obtain ⟨⟨⟨⟨rfl, rfl⟩, rfl⟩, rfl⟩, hle⟩ := hc
        cases h
        refine ⟨(σ q).2, _, ho, by rw [den, Nat.sub_zero], by rw [List.length_take]; omega, fun D hD => ?_⟩
        obtain ⟨post, h1, h2⟩ := hD
        refine ⟨denL σ (cs.drop (len * sz)) ++ post, ?_, by simp [List.length_take]; omega⟩
        rw [h1, ← List.append_assoc, ← denL_append, List.take_append_drop]
      · cases h
    · cases h
  · rename_i q' off len' cap
    split at h
    · rename_i cs e' ho
      split at h
      · rename_i hc
        simp only [Bool.and_eq_true, Nat.beq_eq, Nat.ble_eq] at hc
        obtain ⟨⟨⟨rfl, rfl⟩, hlc⟩, hl⟩ := hc
        cases h
        have hle : len * size ≤ cs.length := by rw [hl]; exact Nat.mul_le_mul_right _ hlc
        refine ⟨cap, _, ho, by rw [den], by rw [List.length_take]; omega, fun D hD => ?_⟩
        refine ⟨denL σ (cs.drop (len * size)), ?_, by simp [List.length_take]; omega⟩
        rw [← denL_append, List.take_append_drop]
        exact hD
      · cases h
    · cases h
  · cases h
theorem St.addT {C : Ctx} {L : Hp} {w : World} (hs : St C L w) : St C (L ++ [fun _ => True]) w := hs.push' rfl rfl rfl (Nat.le_refl _) (fun _ _ => rfl) trivial
/-- What an assertion says comes last. -/
theorem St.moveLast {C : Ctx} {L : Hp} {w : World} {q : Nat} {A : Asr} (hq : q < L.length) (hs : St C (L.set q A) w) : St C (L.set q (fun _ => True) ++ [A]) w := by
  refine hs.addT.emb ⟨fun i => if i = q then L.length else if i = L.length then q else i, fun i j e => ?_, fun i B hB => ?_⟩
  · simp only at e
    split at e <;> split at e <;> (try split at e) <;> (try split at e) <;> omega
  · simp only
    by_cases h1 : i = q
    · subst h1
      rw [List.getElem?_append_left (by simpa using hq), List.getElem?_set_self hq] at hB
      rw [if_pos rfl, List.getElem?_append_right (by simp), List.length_set, Nat.sub_self]
      exact hB
    · rw [if_neg h1]
      by_cases h2 : i = L.length
      · subst h2
        rw [List.getElem?_append_right (by simp), List.length_set, Nat.sub_self] at hB
        rw [if_pos rfl, List.getElem?_append_left (by simpa using hq), List.getElem?_set_self hq]
        exact hB
      · rw [if_neg h2]
        by_cases h3 : i < L.length
        · rw [List.getElem?_append_left (by simpa using h3), List.getElem?_set_ne (fun e => h1 e.symm)] at hB ⊢
          exact hB
        · have := (List.getElem?_eq_some_iff.1 hB).1
          simp at this
          omega
def opAppend (P : Program) (E : SE) (H : SH) (t : TypeId) (x y : Operand) : Option (SV × SH) :=
  match evS E x, evS E y, P.underlying t with
  | some sx, some sy, some (.slice e) => match szOf P e, bytesOf P e, zeroOf P e with
    | some size, some bytes, some z => match seenS H size sy with
      | some (m, news) =>
        if news.all oneS && Nat.blt 0 size && Nat.beq z.cells.size size then match sx with
          | .k (.slice none 0 0) =>
            if Nat.blt 0 m && Nat.ble m 1099511627776 && Nat.ble (m * bytes) 140737488355328 && bndH (lenL H) H && bndL (lenL H) news then
              pushK H (.pre size news e) fun H' => some (.slc (lenL H) 0 0 m, H')
            else none
          | sx => match headS H size e sx with
            | some (q, n, xs) =>
              if Nat.ble (n + m) 1099511627776 && Nat.ble ((n + m) * bytes) 140737488355328 && bndH (lenL H) (H.set q .dead) && bndL (lenL H) (xs ++ news) then
                pushK (H.set q .dead) (.pre size (xs ++ news) e) fun H' => some (.slc (lenL H) 0 0 (n + m), H')
              else none
            | none => none
        else none
      | none => none
    | _, _, _ => none
  | _, _, _ => none
theorem drew_alloc_size (w : World) (ob : Obj) : (w.drew.alloc ob).heap.size = w.heap.size + 1 := by
  show (w.heap.push ob).size = _
  exact Array.size_push ob
theorem zeroCells_len (z : Array Value) (n k : Nat) (h : z.size = k) : (Builtin.zeroCells z n).toList.length = n * k := by
  rw [Array.length_toList]
  simp [Builtin.zeroCells, h]
theorem zeroCells_size (z : Array Value) (n : Nat) : (Builtin.zeroCells z n).size = n * z.size := by simp [Builtin.zeroCells]
theorem opAppend_ok {C : Ctx} {E : SE} {H H2 : SH} {o : Oper} {v : SV} {t : TypeId} {x y : Operand} {args : Array Operand} {ats : Array TypeId} (hop : o.op = .call ⟨.builtin .append, args, ats⟩) (ha : args.toList = [x, y]) (ht : ats.toList = [t, t]) (h : opAppend C.P E H t x y = some (v, H2)) : OpOk C E H o v H2 := by
  obtain rfl : args = #[x, y] := by apply Array.toList_inj.1; rw [ha]
  obtain rfl : ats = #[t, t] := by apply Array.toList_inj.1; rw [ht]
  unfold opAppend at h
  simp only [lenL_eq] at h
  split at h
  case h_2 => cases h
  case h_1 sx sy e hx hy hu =>
    split at h
    case h_2 => cases h
    case h_1 size bytes z hsz hby hz =>
      split at h
      case h_2 => cases h
      case h_1 m news hsee =>
        split at h
        case isFalse => cases h
        case isTrue hc =>
          simp only [Bool.and_eq_true, List.all_eq_true, Nat.blt_eq, Nat.beq_eq] at hc
          obtain ⟨⟨hone, hpos⟩, hzs⟩ := hc
          obtain ⟨i, hi, hib, his, hiz⟩ : ∃ i, C.P.info? e = some i ∧ i.bytes = bytes ∧ i.size = size ∧ i.zero = some z := by
            unfold bytesOf at hby
            unfold szOf at hsz
            unfold zeroOf at hz
            cases hi : C.P.info? e with
            | none => simp [hi] at hby
            | some i => exact ⟨i, rfl, by simpa [hi] using hby, by simpa [hi] using hsz, by simpa [hi] using hz⟩
          split at h
          · rename_i _ hnil
            split at h
            case isFalse => cases h
            case isTrue hc2 =>
              simp only [Bool.and_eq_true, Nat.blt_eq, Nat.ble_eq] at hc2
              obtain ⟨⟨⟨⟨hm0, hm1⟩, hm2⟩, hbH⟩, hbn⟩ := hc2
              rw [pushK_eq] at h
              cases h
              intro σ a w M hr hs
              have h1 := evS_eval hr hx
              have h2 := evS_eval hr hy
              obtain ⟨ad, c, hd, hl, hcell⟩ := seenS_spec hs hsee
              have happ := run_append_nil (P := C.P) (w := w) t o.type e i z hu hi hiz ad m c (denL σ news) (by rw [denL_length, hl, his]) hcell hm0 (by omega) (by rw [hib]; omega)
              obtain ⟨cs, hcs⟩ := run_built (P := C.P) (w := w) hr hop
              have hrun : (execOp a.eval o).run C.P w = .ok (.value (.slice (some ⟨w.heap.size, 0, none⟩) m (grownCap w m 0 e))) (w.drew.alloc (.cells ((denL σ news).toArray ++ Builtin.zeroCells z.cells (grownCap w m 0 e - m)) e)) := by
                rw [hcs]
                simp only [builtin, List.map_toArray, List.map_cons, List.map_nil, h1, h2, hd, den, Sem.run_bind, happ, Result.andThen_ok, Sem.run_pure]
              rw [hrun]
              have hge := grownCap_ge w m 0 e
              refine ⟨upd σ H.length (w.heap.size, grownCap w m 0 e), by rw [List.length_append]; exact agree_upd _ _ _, by rw [den, upd_self, Nat.sub_zero], ?_⟩
              rw [denH_append, denH_bnd (agree.lt (agree_upd σ H.length _)) hbH]
              have h3 : St C ((denH σ H ++ M) ++ [denO (upd σ H.length (w.heap.size, grownCap w m 0 e)) H.length (.pre size news e)]) (w.drew.alloc (.cells ((denL σ news).toArray ++ Builtin.zeroCells z.cells (grownCap w m 0 e - m)) e)) := by
                refine hs.push' rfl rfl rfl (by rw [drew_alloc_size]; omega) (fun b hb => heap_alloc_old w.drew _ b hb) ?_
                refine ⟨(Builtin.zeroCells z.cells (grownCap w m 0 e - m)).toList, cut_of ⟨by rw [upd_self]; exact Nat.le_refl _, by rw [upd_self, drew_alloc_size]; exact Nat.lt_succ_self _⟩ ?_, ?_⟩
                · rw [upd_self, denL_bnd (agree.lt (agree_upd σ H.length _)) _ hbn]
                  have := heap_alloc_new w.drew (.cells ((denL σ news).toArray ++ Builtin.zeroCells z.cells (grownCap w m 0 e - m)) e)
                  rw [show w.drew.heap.size = w.heap.size from rfl] at this
                  rw [this]
                  congr 2
                  apply Array.toList_inj.1
                  simp
                · rw [upd_self, zeroCells_len _ _ _ hzs, hl, ← Nat.add_mul]
                  congr 1
                  simp only []
                  omega
              refine h3.perm ?_
              rw [List.append_assoc, List.append_assoc]
              exact List.Perm.append_left _ List.perm_append_comm
          · split at h
            case h_2 => cases h
            case h_1 q n xs hhead =>
              split at h
              case isFalse => cases h
              case isTrue hc2 =>
                simp only [Bool.and_eq_true, Nat.ble_eq] at hc2
                obtain ⟨⟨⟨hm1, hm2⟩, hbH⟩, hbn⟩ := hc2
                rw [pushK_eq] at h
                cases h
                intro σ a w M hr hs
                have h1 := evS_eval hr hx
                have h2 := evS_eval hr hy
                obtain ⟨ad, c, hd, hl, hcell⟩ := seenS_spec hs hsee
                obtain ⟨cap, so, ho, hdx, hxl, hso⟩ := headS_spec hs hhead
                obtain ⟨cs, hcs⟩ := run_built (P := C.P) (w := w) hr hop
                have hql := (List.getElem?_eq_some_iff.1 ho).1
                have hq : (denH σ H ++ M)[q]? = some (denO σ q so) := by
                  rw [List.getElem?_append_left (by rw [denH_length]; exact hql), denH_get, ho]; rfl
                obtain ⟨ow, hown⟩ := hs.own
                obtain ⟨post, hpost, hcap⟩ := hso _ (hown.sat q _ hq)
                have hw := (cut_in hpost).2
                have hone' : ∀ u ∈ denL σ news, u.oneCell' = true := by
                  intro u hu
                  rw [denL_map] at hu
                  obtain ⟨s, hs', rfl⟩ := List.mem_map.1 hu
                  exact oneS_den (hone s hs')
                have hsetlen : (H.set q .dead).length = H.length := List.length_set
                by_cases hroom : n + m ≤ cap
                · have hfit : n * i.size + (denL σ news).length ≤ (denL σ xs ++ post).toArray.size := by
                    rw [his, denL_length, hl, List.size_toArray, List.length_append, denL_length, ← hcap, ← Nat.add_mul]
                    exact Nat.mul_le_mul_right _ hroom
                  have happ := run_append_room (P := C.P) w t o.type e i hu hi (σ q).1 n cap _ hw ad m c (denL σ news) (by rw [denL_length, hl, his]) hcell hone' hroom hfit
                  have hcur : ((denL σ xs ++ post).toArray.toList.take (n * i.size) ++ denL σ news ++ (denL σ xs ++ post).toArray.toList.drop (n * i.size + (denL σ news).length)) = denL σ (xs ++ news) ++ post.drop news.length := by
                    simp only []
                    rw [his, ← hxl, List.take_append_of_le_length (by rw [denL_length]; exact Nat.le_refl _), List.take_of_length_le (by rw [denL_length]; exact Nat.le_refl _), denL_append, List.append_assoc, List.append_assoc, denL_length]
                    congr 2
                    rw [List.drop_append, List.drop_of_length_le (by rw [denL_length]; omega), List.nil_append, denL_length]
                    congr 1
                    omega
                  rw [hcur] at happ
                  have hrun : (execOp a.eval o).run C.P w = .ok (.value (.slice (some ⟨(σ q).1, 0, none⟩) (n + m) cap)) (w.setRow (σ q).1 (denL σ (xs ++ news) ++ post.drop news.length).toArray) := by
                    rw [hcs]
                    simp only [builtin, List.map_toArray, List.map_cons, List.map_nil, h1, h2, hd, hdx, Sem.run_bind, happ, Result.andThen_ok, Sem.run_pure]
                  rw [hrun]
                  refine ⟨upd σ H.length ((σ q).1, cap), by rw [List.length_append, hsetlen]; exact agree_upd _ _ _, by rw [den, upd_self, Nat.sub_zero], ?_⟩
                  rw [denH_append, denH_bnd (agree.lt (agree_upd σ H.length _)) hbH, hsetlen]
                  have h3 : St C ((denH σ H ++ M).set q (denO (upd σ H.length ((σ q).1, cap)) H.length (.pre size (xs ++ news) e))) (w.setRow (σ q).1 (denL σ (xs ++ news) ++ post.drop news.length).toArray) := by
                    refine hs.upd hq rfl rfl rfl (by simp) fun D hD hlD => ?_
                    obtain ⟨post2, hp2, _⟩ := hso D hD
                    have hb := cut_in hp2
                    refine ⟨D, fun _ h => .inl h, fun b hb => by simpa using hlD b hb, fun b' _ hn => setRow_other _ _ _ _ (fun e => hn (e ▸ hb.1)), ?_⟩
                    refine ⟨post.drop news.length, ?_, ?_⟩
                    · rw [upd_self, denL_bnd (agree.lt (agree_upd σ H.length _)) _ hbn]
                      exact cut_of hb.1 (setRow_heap w _ _ _ e (0, 0) hb.2)
                    · have hp : news.length ≤ post.length := by
                        have := Nat.mul_le_mul_right size hroom
                        rw [Nat.add_mul] at this
                        omega
                      rw [upd_self, List.length_append, List.length_drop]
                      simp only []
                      omega
                  have h4 := h3.moveLast (by simp; omega)
                  rw [List.set_append_left _ _ (by rw [denH_length]; exact hql)] at h4
                  have h5 : (denH σ H).set q (fun _ => True) = denH σ (H.set q .dead) := by rw [denH_set]; rfl
                  rw [h5] at h4
                  refine h4.perm ?_
                  rw [List.append_assoc, List.append_assoc]
                  exact List.Perm.append_left _ List.perm_append_comm
                · have holds : ∀ j u, (denL σ xs)[j]? = some u → w.cell? ((⟨(σ q).1, 0, none⟩ : Addr).add j) = some u := by
                    intro j u hj
                    rw [addr_add, Nat.zero_add]
                    have : (denL σ xs ++ post)[j]? = some u := by rw [List.getElem?_append_left (List.getElem?_eq_some_iff.1 hj).1, hj]
                    simp [World.cell?, hw, this]
                  have happ := run_append_grow (P := C.P) w t o.type e i z hu hi hiz ⟨(σ q).1, 0, none⟩ n cap (denL σ xs) (by rw [denL_length, hxl, his]) holds ad m c (denL σ news) (by rw [denL_length, hl, his]) hcell (by omega) (by omega) (growslice_fits (by omega) (by rw [hib]; exact hm2))
                  have hrun : (execOp a.eval o).run C.P w = .ok (.value (.slice (some ⟨w.heap.size, 0, none⟩) (n + m) (grownCap w (n + m) cap e))) (w.drew.alloc (.cells ((denL σ xs).toArray ++ (denL σ news).toArray ++ Builtin.zeroCells z.cells (grownCap w (n + m) cap e - (n + m))) e)) := by
                    rw [hcs]
                    simp only [builtin, List.map_toArray, List.map_cons, List.map_nil, h1, h2, hd, hdx, Sem.run_bind, happ, Result.andThen_ok, Sem.run_pure]
                  rw [hrun]
                  have hge := grownCap_ge w (n + m) cap e
                  generalize grownCap w (n + m) cap e = cap2 at *
                  refine ⟨upd σ H.length (w.heap.size, cap2), by rw [List.length_append, hsetlen]; exact agree_upd _ _ _, by rw [den, upd_self, Nat.sub_zero], ?_⟩
                  rw [denH_append, denH_bnd (agree.lt (agree_upd σ H.length _)) hbH, hsetlen]
                  have hs2 : St C (denH σ (H.set q .dead) ++ M) w := by
                    have := hs.conv hq (A' := fun _ => True) (fun _ _ => trivial)
                    rw [List.set_append_left _ _ (by rw [denH_length]; exact hql)] at this
                    rw [denH_set]
                    exact this
                  have h3 : St C ((denH σ (H.set q .dead) ++ M) ++ [denO (upd σ H.length (w.heap.size, cap2)) H.length (.pre size (xs ++ news) e)]) (w.drew.alloc (.cells ((denL σ xs).toArray ++ (denL σ news).toArray ++ Builtin.zeroCells z.cells (cap2 - (n + m))) e)) := by
                    refine hs2.push' rfl rfl rfl (by rw [drew_alloc_size]; omega) (fun b hb => heap_alloc_old w.drew _ b hb) ?_
                    refine ⟨(Builtin.zeroCells z.cells (cap2 - (n + m))).toList, cut_of ⟨by rw [upd_self]; exact Nat.le_refl _, by rw [upd_self, drew_alloc_size]; exact Nat.lt_succ_self _⟩ ?_, ?_⟩
                    · rw [upd_self, denL_bnd (agree.lt (agree_upd σ H.length _)) _ hbn]
                      have := heap_alloc_new w.drew (.cells ((denL σ xs).toArray ++ (denL σ news).toArray ++ Builtin.zeroCells z.cells (cap2 - (n + m))) e)
                      rw [show w.drew.heap.size = w.heap.size from rfl] at this
                      rw [this]
                      congr 2
                      apply Array.toList_inj.1
                      simp [denL_append]
                    · rw [upd_self, zeroCells_len _ _ _ hzs, List.length_append, hl, hxl, ← Nat.add_mul, ← Nat.add_mul]
                      congr 1
                      simp only []
                      omega
                  refine h3.perm ?_
                  rw [List.append_assoc, List.append_assoc]
                  exact List.Perm.append_left _ List.perm_append_comm
/-- Nothing is appended. -/
def opAppendNil (P : Program) (E : SE) (H : SH) (t : TypeId) (x y : Operand) : Option SV :=
  match evS E y, P.underlying t with
  | some (.k (.slice none 0 0)), some (.slice e) => match szOf P e with
    | some _ => match evS E x with
      | some (.k (.slice none 0 0)) => some (.k (.slice none 0 0))
      | some (.slice q off len cap) => if Nat.ble len cap then some (.slice q off len cap) else none
      | some (.slc q lo off len) => match roomS P H e q with
        | some r => if Nat.ble (lo + len) r then some (.slc q lo off len) else none
        | none => none
      | _ => none
    | none => none
  | _, _ => none
theorem opAppendNil_ok {C : Ctx} {E : SE} {H : SH} {o : Oper} {v : SV} {t : TypeId} {x y : Operand} {args : Array Operand} {ats : Array TypeId} (hop : o.op = .call ⟨.builtin .append, args, ats⟩) (ha : args.toList = [x, y]) (ht : ats.toList = [t, t]) (h : opAppendNil C.P E H t x y = some v) : OpOk C E H o v H := by
  obtain rfl : args = #[x, y] := by apply Array.toList_inj.1; rw [ha]
  obtain rfl : ats = #[t, t] := by apply Array.toList_inj.1; rw [ht]
  unfold opAppendNil at h
  refine OpOk.of_val fun σ a w M hr hs => ?_
  obtain ⟨cs, hcs⟩ := run_built (P := C.P) (w := w) hr hop
  rw [hcs]
  split at h
  case h_2 => cases h
  case h_1 e hy hu =>
    have h2 := evS_eval hr hy
    rw [den] at h2
    split at h
    case h_2 => cases h
    case h_1 k hk =>
      have key : ∀ (b : Option Addr) (len cap : Nat), len ≤ cap → a.eval x = .slice b len cap → (builtin .append #[t, t] o.type cs (#[x, y].map a.eval)).run C.P w = .ok (.value (.slice b len cap)) w := by
        intro b len cap hle h1
        have hz : (storeCells (((⟨0, 0, none⟩ : Addr))) []).run C.P w = .ok () w := rfl
        cases b with
        | none => simp [builtin, Builtin.append_, run_underlying hu, run_sizeOf hk, h1, h2, Builtin.lenOf, Builtin.firstCells, hle]
        | some ad => simp [builtin, Builtin.append_, run_underlying hu, run_sizeOf hk, h1, h2, Builtin.lenOf, Builtin.firstCells, hle, storeCells]
      split at h
      · rename_i hx
        cases h
        have h1 := evS_eval hr hx
        rw [den] at h1
        rw [key none 0 0 (Nat.le_refl _) h1, den]
      · rename_i q off len cap hx
        have h1 := evS_eval hr hx
        rw [den] at h1
        split at h
        · rename_i hle
          rw [Nat.ble_eq] at hle
          cases h
          rw [key _ len cap hle h1, den]
        · cases h
      · rename_i q lo off len hx
        have h1 := evS_eval hr hx
        rw [den] at h1
        split at h
        · rename_i r hroom
          have hrm := roomS_spec hs hroom
          split at h
          · rename_i hle
            rw [Nat.ble_eq] at hle
            cases h
            rw [key _ len _ (by omega) h1, den]
          · cases h
        · cases h
      · cases h
theorem putS_run {C : Ctx} {σ : Nm} {H : SH} {M : Hp} {w : World} (hs : St C (denH σ H ++ M) w) {n off : Nat} {o : SO} {cs vs : List SV} (ho : H[n]? = some o) (hc : cellsOf o = some cs) (hle : off + vs.length ≤ cs.length) (hone : ∀ x ∈ vs, oneS x = true) :
    ∃ w', (storeCells ⟨(σ n).1, off, none⟩ (denL σ vs)).run C.P w = .ok () w' ∧ St C (denH σ (H.set n (setCells o (putCells cs off vs))) ++ M) w' := by
  have hnl := (List.getElem?_eq_some_iff.1 ho).1
  have hq : (denH σ H ++ M)[n]? = some (denO σ n o) := by
    rw [List.getElem?_append_left (by rw [denH_length]; exact hnl), denH_get, ho]; rfl
  have hone' : ∀ v ∈ denL σ vs, v.oneCell' = true := by
    intro v hv
    rw [denL_map] at hv
    obtain ⟨x, hx, rfl⟩ := List.mem_map.1 hv
    exact oneS_den (hone x hx)
  -- the block's cells, and what comes behind them
  obtain ⟨ow, hown⟩ := hs.own
  obtain ⟨e, post, hA, hmk⟩ : ∃ (e : TypeId) (post : List Value), cut (ow n) w (σ n).1 = some (.cells (denL σ cs ++ post).toArray e (0, 0)) ∧ ∀ (cs2 : List SV) (h' : PH), cs2.length = cs.length → h' (σ n).1 = some (.cells (denL σ cs2 ++ post).toArray e (0, 0)) → denO σ n (setCells o cs2) h' := by
    have h := hown.sat n _ hq
    cases o with
    | cells cs' e =>
      simp only [cellsOf, Option.some.injEq] at hc
      subst hc
      exact ⟨e, [], by rw [List.append_nil]; exact h, fun cs2 h' _ hh => by rw [List.append_nil] at hh; exact hh⟩
    | pre sz cs' e =>
      simp only [cellsOf, Option.some.injEq] at hc
      subst hc
      obtain ⟨post, hp, hsz⟩ := h
      exact ⟨e, post, hp, fun cs2 h' hl hh => ⟨post, hh, by rw [hsz, hl]⟩⟩
    | _ => cases hc
  have hw := (cut_in hA).2
  have hst := run_storeCells_at C.P (σ n).1 off e (denL σ vs) 0 (denL σ cs ++ post).toArray w hw (by simp; omega) hone'
  have hput : ((denL σ cs ++ post).toArray.toList.take (off + 0) ++ denL σ vs ++ (denL σ cs ++ post).toArray.toList.drop (off + 0 + (denL σ vs).length)) = denL σ (putCells cs off vs) ++ post := by
    unfold putCells
    rw [denL_append, denL_append, denL_take, denL_drop, Nat.add_zero, denL_length, List.append_assoc, List.append_assoc, List.append_assoc]
    simp only []
    rw [List.take_append_of_le_length (by rw [denL_length]; omega), List.drop_append_of_le_length (by rw [denL_length]; omega)]
  rw [hput] at hst
  refine ⟨w.setRow (σ n).1 (denL σ (putCells cs off vs) ++ post).toArray, by simpa using hst, ?_⟩
  · have key : (denH σ (H.set n (setCells o (putCells cs off vs))) ++ M) = (denH σ H ++ M).set n (denO σ n (setCells o (putCells cs off vs))) := by
      rw [denH_set, List.set_append_left _ _ (by rw [denH_length]; exact hnl)]
    rw [key]
    have hlen : (putCells cs off vs).length = cs.length := by unfold putCells; simp; omega
    refine hs.upd hq rfl rfl rfl (by simp) fun D hD hl => ?_
    obtain ⟨hb1, hb2⟩ : D (σ n).1 ∧ w.heap[(σ n).1]? = some (.cells (denL σ cs ++ post).toArray e (0, 0)) := by
      have h1 : ∃ x, cut D w (σ n).1 = some x := by
        cases o with
        | cells cs' e => exact ⟨_, hD⟩
        | pre sz cs' e => obtain ⟨post, hp, _⟩ := hD; exact ⟨_, hp⟩
        | _ => cases hc
      obtain ⟨x, hx⟩ := h1
      exact ⟨(cut_in hx).1, hw⟩
    exact ⟨D, fun _ h => .inl h, fun b hb => by simpa using hl b hb, fun b' _ hn => setRow_other _ _ _ _ (fun e => hn (e ▸ hb1)), hmk _ _ hlen (cut_of hb1 (setRow_heap w _ _ _ e (0, 0) hb2))⟩
def opCopy (P : Program) (E : SE) (H : SH) (t : TypeId) (x y : Operand) : Option (SV × SH) :=
  match evS E x, evS E y, P.underlying t with
  | some sx, some sy, some (.slice e) => match szOf P e with
    | some size => match seenS H size sx, seenS H size sy with
      | some (d, _), some (m, news) => match sx with
        | .slice q off _ _ => match getL H q with
          | some o => match cellsOf o with
            | some cs => if Nat.ble (off + (news.take (min m d * size)).length) cs.length && (news.take (min m d * size)).all oneS then
                setK H q (setCells o (putCells cs off (news.take (min m d * size)))) fun H' => some (.k (.int .i64 ((min m d : Nat) : Int)), H') else none
            | none => none
          | none => none
        | _ => none
      | _, _ => none
    | none => none
  | _, _, _ => none
theorem opCopy_ok {C : Ctx} {E : SE} {H H2 : SH} {o : Oper} {v : SV} {t u : TypeId} {x y : Operand} {args : Array Operand} {ats : Array TypeId} (hop : o.op = .call ⟨.builtin .copy, args, ats⟩) (ha : args.toList = [x, y]) (ht : ats.toList = [t, u]) (h : opCopy C.P E H t x y = some (v, H2)) : OpOk C E H o v H2 := by
  obtain rfl : args = #[x, y] := by apply Array.toList_inj.1; rw [ha]
  obtain rfl : ats = #[t, u] := by apply Array.toList_inj.1; rw [ht]
  unfold opCopy at h
  simp only [getL_eq] at h
  intro σ a w M hr hs
  split at h
  case h_2 => cases h
  case h_1 sx sy e hx hy hu =>
    have h1 := evS_eval hr hx
    have h2 := evS_eval hr hy
    split at h
    case h_2 => cases h
    case h_1 size hsz =>
      split at h
      case h_2 => cases h
      case h_1 d xs m news hsd hsm =>
        obtain ⟨ad, c, hd, hl, hcell⟩ := seenS_spec hs hsm
        split at h
        case h_2 => cases h
        case h_1 q off len' cap =>
          split at h
          case h_2 => cases h
          case h_1 so ho =>
            split at h
            case h_2 => cases h
            case h_1 cs hc =>
              split at h
              case isFalse => cases h
              case isTrue hcond =>
                simp only [Bool.and_eq_true, Nat.ble_eq, List.all_eq_true] at hcond
                rw [setK_eq] at h
                cases h
                have hlen : len' = d := by
                  unfold seenS at hsd
                  simp only [getL_eq] at hsd
                  split at hsd
                  · split at hsd
                    · cases hsd; rfl
                    · cases hsd
                  · cases hsd
                subst hlen
                have hnl : (denL σ (news.take (min m len' * size))).length = min m len' * size := by
                  rw [denL_length, List.length_take, hl]
                  exact Nat.min_eq_left (Nat.mul_le_mul_right _ (Nat.min_le_left _ _))
                have hload := run_loadCells_list (P := C.P) w ad (denL σ (news.take (min m len' * size))) fun j u hj => by
                  rw [denL_take, List.getElem?_take] at hj
                  split at hj
                  · exact hcell j u hj
                  · cases hj
                rw [hnl] at hload
                obtain ⟨w', hst, hs'⟩ := putS_run hs ho hc hcond.1 hcond.2
                obtain ⟨cs', hcs⟩ := run_built (P := C.P) (w := w) hr hop
                have hrun : (execOp a.eval o).run C.P w = .ok (.value (.int .i64 ((min m len' : Nat) : Int))) w' := by
                  rw [hcs]
                  have h1' : a.eval x = .slice (some ⟨(σ q).1, off, none⟩) len' cap := by rw [h1, den]
                  have hmin : Nat.min m len' = min m len' := rfl
                  simp [builtin, Builtin.copy_, h1', h2, hd, run_underlying hu, run_sizeOf hsz, Builtin.lenOf, Builtin.firstCells, hmin, hload, hst, goInt]
                rw [hrun]
                exact ⟨σ, by rw [List.length_set]; exact agree.refl _ _, by rw [den], hs'⟩
end Go.Proofs.YtonmkjcilepdcaaGreatDoor
end
