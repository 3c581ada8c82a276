import Derived.Test.YtchoncjikdfbgaaDoorSlices
import Derived.Laws.BytesString
/- Copies; strings. -/
namespace Go.Proofs.YtchoncjikdfbgaaDoor
open Go.RowKit
set_option maxRecDepth 20000
section
variable {C : Ctx} {k : K} {E : Env} {L : Hp} {ops : Array Oper} {rest : List Oper} {dst : Option Tmp} {ty : TypeId} {pos : String} {af : Array Edge} {g : Option (Nat × Bool)}
variable {x y : Operand} {t t' e es u : TypeId} {b off d n len : Nat} {kd : IntKind} {l m : List Int} {v : Value}
/-- copy(dst, src): dst lies in an owned block of integers. -/
theorem S_copyB (q : Nat) {dc : Nat} {ats : Array TypeId} (h0 : ats[0]? = some t) (ht : C.P.underlying t = some (.slice es)) (he : szOf C.P es = some 1)
    (hx : ev E x = some (.slice (some ⟨b, off, none⟩) len dc)) (hy : ev E y = some v) (hq : L[q]? = some (blk b (.cells (ints kd l) e (0, 0)))) (hr : ∀ w, St C L w → Rd w v kd m) (hn : min m.length len = n) (ho : off + n ≤ l.length)
    (hg : wantedE ops E g = some true) (hd : Nat.blt d C.n = true)
    (h : S C ops rest k ((d, .int .i64 n) :: E) (L.set q (blk b (.cells (ints kd (l.take off ++ m.take n ++ l.drop (off + n))) e (0, 0))))) : S C ops (⟨some d, .call ⟨.builtin .copy, #[x, y], ats⟩, ty, pos, af, g⟩ :: rest) k E L := by
  refine ⟨fun a w hrel hs => ?_⟩
  obtain ⟨sb, cap, rfl, _⟩ := (hr w hs).out
  exact (S_setV (C := C) (k := k) (rest := rest) (ops := ops) q hg hd hq (run_copy h0 ht he hx hy hr hn ho) h).out a w hrel hs
/-- .. dst is an owned slice. -/
theorem S_copyR (q : Nat) {ats : Array TypeId} {u : Value} (h0 : ats[0]? = some t) (ht : C.P.underlying t = some (.slice es)) (he : szOf C.P es = some 1)
    (hx : ev E x = some v) (hy : ev E y = some u) (hq : L[q]? = some (row kd l v)) (hr : ∀ w, St C L w → Rd w u kd m) (hn : min m.length l.length = n)
    (hg : wantedE ops E g = some true) (hd : Nat.blt d C.n = true)
    (h : ∀ z, S C ops rest k ((d, z) :: E) (L.set q (row kd (m.take n ++ l.drop n) v))) : S C ops (⟨some d, .call ⟨.builtin .copy, #[x, y], ats⟩, ty, pos, af, g⟩ :: rest) k E L := by
  refine S_updV q (R := fun _ => row kd (m.take n ++ l.drop n) v) hg hd hq (fun a w D hrel hs hA hl => ?_) h
  have hrd := hr w hs
  obtain ⟨sb, cap, rfl, hmc, _⟩ := hrd.out
  have hlen : (m.take n ++ l.drop n).length = l.length := by simp; omega
  rcases hA with ⟨rfl, rfl⟩ | ⟨gb, gc, post, ge, rfl, hb, hc⟩
  · have hn0 : n = 0 := by rw [← hn]; simp
    subst hn0
    refine ⟨.int .i64 0, w, D, ?_, rfl, rfl, rfl, Nat.le_refl _, fun b h => .inl h, fun _ _ _ => rfl, .inl ⟨rfl, by simp⟩⟩
    obtain ⟨cs, hcs⟩ := run_builtin (dst := some d) (ty := ty) (pos := pos) (af := af) (g := g) hrel (P := C.P) (b := .copy) (as := [x, y]) (ats := ats) (w := w) (vs := [_, _]) (by simp [evs, hx, hy]; exact ⟨rfl, rfl⟩)
    rw [hcs]
    have h1 := run_load_ints (P := C.P) hrd (n := 0) (by omega)
    simp only [builtin, Builtin.copy_, List.getElem?_toArray, List.getElem?_cons_zero, List.getElem?_cons_succ, h0, Sem.run_bind, run_underlying ht, Result.andThen_ok, run_sizeOf he, Builtin.lenOf, Sem.run_pure]
    have h5 : Nat.min m.length 0 = 0 := Nat.min_zero _
    rw [h5, h1]
    simp [ints, goInt]
  · have hb' := (cut_in hb).2
    have := run_copy (C := C) (E := E) (L := L) (ty := ty) (pos := pos) (af := af) (g := g) (d := d) (b := gb) (off := 0) (e := ge) (l := l ++ post) (n := n) h0 ht he hx hy hr hn (by simp; omega) a w hrel hs hb'
    refine ⟨_, _, D, this, rfl, rfl, rfl, by simp, fun b h => .inl h, fun j _ hj => setRow_other _ _ _ _ fun e3 => hj (e3 ▸ (cut_in hb).1), .inr ⟨gb, gc, post, ge, by rw [hlen], cut_of (cut_in hb).1 ?_, by rw [hlen]; exact hc⟩⟩
    rw [setRow_heap w gb _ _ ge _ hb', List.take_zero, List.nil_append, Nat.zero_add, List.drop_append_of_le_length (by omega), List.append_assoc]
end
section
variable {C : Ctx} {k : K} {E : Env} {L : Hp} {ops : Array Oper} {rest : List Oper} {dst : Option Tmp} {ty : TypeId} {pos : String} {af : Array Edge} {g : Option (Nat × Bool)}
variable {x y : Operand} {t e : TypeId} {b off n : Nat} {kd : IntKind} {l m r : List Int}
/-- A store of some integers of a block. -/
theorem S_storePI (q : Nat) (ht : szOf C.P t = some n) (hx : ev E x = some (.pointer (some ⟨b, off, none⟩))) (hy : ev E y = some (.agg (ints kd m)))
    (hq : L[q]? = some (blk b (.cells (ints kd l) e (0, 0)))) (hm : m.length = n) (ho : off + n ≤ l.length) (hr : l.take off ++ m ++ l.drop (off + n) = r) (hg : wantedE ops E g = some true)
    (h : S C ops rest k E (L.set q (blk b (.cells (ints kd r) e (0, 0))))) : S C ops (⟨none, .store t x y, ty, pos, af, g⟩ :: rest) k E L := by
  refine S_set q hg rfl hq (fun a w hrel hs hb => ?_) h
  have h2 := run_storeCells_at (P := C.P) b off e (m.map (Value.int kd)) 0 (ints kd l) w hb (by simp; omega) (fun v hv => by obtain ⟨p, _, rfl⟩ := List.mem_map.1 hv; rfl)
  have h3 : ((ints kd l).toList.take (off + 0) ++ m.map (Value.int kd) ++ (ints kd l).toList.drop (off + 0 + (m.map (Value.int kd)).length)).toArray = ints kd r := by
    rw [← hr]
    simp [ints, List.map_take, List.map_drop, hm]
  rw [h3] at h2
  have h4 : (ints kd m).toList = m.map (Value.int kd) := by simp [ints]
  simp only [execOp, hrel.eval hx, hrel.eval hy, Instr.storeAt, Instr.sureAddr, Sem.run_bind, Sem.run_pure, Result.andThen_ok, storeVar, Value.cells, run_sizeOf ht, ints_size, hm, h4, h2, ne_eq, not_true_eq_false, if_false]
variable {E : Env}
/-- Some of the integers of a block, named. -/
theorem Y_loadPX (q : Nat) {d : TypeDesc} {fz : Nat × Nat} (ht : C.P.underlying t = some d) (hd : isAggB d = true) (hx : ev E x = some (.pointer (some ⟨b, off, none⟩)))
    (hq : L[q]? = some (blk b (.cells (ints kd l) e fz))) (hz : szOf C.P t = some n) (hn : off + n ≤ l.length) (hr : (l.drop off).take n = r) : Yv C E L ⟨dst, .load t x, ty, pos, af, g⟩ (.agg (ints kd r)) :=
  hr ▸ Y_loadPI q ht hd hx hq hz hn
end
/-- What a step leads to is said once, whatever way it took. -/
theorem T_cutK {C : Ctx} {k : K} {E : Env} {L : Hp} {c y : Code} {α : Type} (J : α → Prop) (F : α → Env) (M : α → Hp) (hx : T C c (.loop (fun E' L' => ∃ a, J a ∧ Env.sub (F a) E' ∧ Emb (M a) L') k) E L) (hy : ∀ a, J a → T C y k (F a) (M a)) : T C c (.seq y k) E L := by
  refine ⟨⟨fun a w hr hs => ?_⟩⟩
  refine wp_mono (hx.out.out a w hr hs) ?_
  rintro ex a w ⟨E', L', hr', hs', hq⟩
  cases ex with
  | normal =>
    simp only [K.sem] at hq
    obtain ⟨z, hz, hF, hL⟩ := hq
    exact ⟨E', L', hr', hs', (show T0 C y (k.sem C) E' L' from ⟨fun a w hr hs => (hy z hz).out.out a w (hr.mono hF) (hs.emb hL)⟩)⟩
  | _ => exact ⟨E', L', hr', hs', by simpa [K.sem] using hq⟩
theorem Y_maxI {C : Ctx} {E : Env} {L : Hp} {dst : Option Tmp} {ty : TypeId} {pos : String} {af : Array Edge} {g : Option (Nat × Bool)} {x y : Operand} {k : IntKind} {p q r : Int} {ats : Array TypeId} (hx : ev E x = some (.int k p)) (hy : ev E y = some (.int k q)) (hr : max p q = r) :
    Yv C E L ⟨dst, .call ⟨.builtin .max, #[x, y], ats⟩, ty, pos, af, g⟩ (.int k r) := by
  refine ⟨fun a w h _ => ?_⟩
  obtain ⟨cs, hc⟩ := run_builtin (dst := dst) (ty := ty) (pos := pos) (af := af) (g := g) h (P := C.P) (b := .max) (as := [x, y]) (ats := ats) (w := w) (vs := [.int k p, .int k q]) (by simp [evs, hx, hy])
  rw [hc]
  have : (if p < q then q else p) = r := by rw [← hr]; split <;> omega
  simp [builtin, Builtin.max_, Builtin.max2, this]
/-- The string of bytes. -/
def strI (l : List Int) : ByteArray := l.foldl (fun r n => r.push (UInt8.ofNat n.toNat)) ByteArray.empty
theorem strI_data : ∀ (l : List Int) (r : ByteArray), (l.foldl (fun r n => r.push (UInt8.ofNat n.toNat)) r).data = r.data ++ (l.map fun n => UInt8.ofNat n.toNat).toArray
  | [], r => by simp
  | p :: l, r => by
    rw [List.foldl_cons, strI_data l]
    simp [ByteArray.push]
theorem strI_append (l m : List Int) : strI l ++ strI m = strI (l ++ m) := by
  unfold strI
  rw [List.foldl_append]
  apply ByteArray.ext
  rw [strI_data, ByteArray.data_append]
  congr 1
  rw [strI_data]
  simp
theorem strI_size (l : List Int) : (strI l).size = l.length := by
  have : (strI l).data.size = l.length := by
    unfold strI
    rw [strI_data]
    simp
  exact this
section
variable {C : Ctx} {E : Env} {L : Hp} {dst : Option Tmp} {ty : TypeId} {pos : String} {af : Array Edge} {g : Option (Nat × Bool)}
variable {x y : Operand} {t e u : TypeId} {l m : List Int} {v : Value} {s r : ByteArray}
theorem Y_toStr (ht : C.P.underlying t = some (.slice e)) (he : C.P.underlying e = some (.int .u8)) (hu : C.P.underlying u = some .string) (hx : ev E x = some v) (hr : ∀ w, St C L w → Rd w v .u8 l) :
    Yv C E L ⟨dst, .convert t u x, ty, pos, af, g⟩ (.string (strI l)) := by
  refine ⟨fun a w h hs => ?_⟩
  have hrd := hr w hs
  obtain ⟨sb, cap, rfl, hc, h3⟩ := hrd.out
  have h1 := run_convert_bytes_string (P := C.P) w t u e sb l.length cap ht he hu
  simp only [execOp, h.eval hx, Sem.run_bind, h1]
  cases sb with
  | none =>
    rcases h3 with rfl | ⟨_, _, _, _, _, ha, _⟩
    · rfl
    · cases ha
  | some a' =>
    have h2 : (loadCells a' l.length).run C.P w = .ok (l.map (Value.int .u8)).toArray w := by
      rcases h3 with rfl | ⟨b, off, cs, e', fz, ha, hw, hcs⟩
      · exact run_loadCells_list (P := C.P) w a' [] fun j v hv => by simp at hv
      · cases ha
        have := run_loadCells_list (P := C.P) w ⟨b, off, none⟩ (l.map (Value.int .u8)) fun j v hv => by
          rw [List.getElem?_map, Option.map_eq_some_iff] at hv
          obtain ⟨p, hp, rfl⟩ := hv
          rw [addr_add]
          exact hrd.cell hp
        rwa [List.length_map] at this
    rw [run_bytesToString w a' l.length cap l h2]
    rfl
theorem eqGuard_str (op : BinOp) (t : TypeId) (x y : Operand) (p q : ByteArray) (P : Program) (w : World) : (eqGuard op t x y (.string p) (.string q)).run P w = .ok () w := by
  cases op <;> rfl
theorem Y_eqlT_t (hx : ev E x = some (.string s)) (hy : ev E y = some (.string r)) (h : s = r) : Yv C E L ⟨dst, .binOp .eql t x y u, ty, pos, af, g⟩ (.bool true) := by
  subst h
  refine ⟨fun a w h _ => ?_⟩
  simp [execOp, h.eval hx, h.eval hy, Sem.run_bind, eqGuard_str, Result.andThen_ok, binOp, Op.stringOp]
theorem Y_neqT_f (hx : ev E x = some (.string s)) (hy : ev E y = some (.string r)) (h : s = r) : Yv C E L ⟨dst, .binOp .neq t x y u, ty, pos, af, g⟩ (.bool false) := by
  subst h
  refine ⟨fun a w h _ => ?_⟩
  simp [execOp, h.eval hx, h.eval hy, Sem.run_bind, eqGuard_str, Result.andThen_ok, binOp, Op.stringOp]
theorem Y_catT (hx : ev E x = some (.string (strI l))) (hy : ev E y = some (.string (strI m))) (h : l.length + m.length ≤ 1099511627776) : Yv C E L ⟨dst, .binOp .add t x y u, ty, pos, af, g⟩ (.string (strI (l ++ m))) := by
  refine ⟨fun a w h' _ => ?_⟩
  have hs : ¬ ((((strI l).size + (strI m).size : Nat) : Int) > IntKind.i64.max) := by
    rw [strI_size, strI_size]
    have : IntKind.i64.max = 9223372036854775807 := rfl
    omega
  simp only [execOp, h'.eval hx, h'.eval hy, Sem.run_bind, eqGuard_str, Result.andThen_ok, binOp, Op.stringOp]
  rw [if_neg hs, strI_append]
  rfl
end
theorem Rd.whole {C : Ctx} {L : Hp} {w : World} (hs : St C L w) (q : Nat) {b n : Nat} {k : IntKind} {l : List Int} {e : TypeId} {fz : Nat × Nat} (hq : L[q]? = some (blk b (.cells (ints k l) e fz))) (hl : l.length = n) : Rd w (.slice (some ⟨b, 0, none⟩) n n) k l := by
  subst hl
  exact Rd.own hs hq (fun i p h => by simpa using h) (Nat.le_refl _)
end Go.Proofs.YtchoncjikdfbgaaDoor
