import Derived.Laws.AppendOwn
import Derived.Laws.MakeOwn
import Derived.Test.YtjolmphkmfbpbaaDoorProg
import Derived.Laws.MathBits
import Derived.ProofKit
import Derived.OpenShut
import Derived.ShutString
import Derived.ChangeOld
import Derived.Laws.IdiomArrays
import Derived.Laws.BytesString
import Derived.SizedLaws
import Derived.Test.YtjolmphkmfbpbaaDoorP0
/- Slices of integers that are owned. -/
namespace Go.Proofs.YtjolmphkmfbpbaaDoor
open Go.RowKit
/-- An owned slice of integers, from its block's begin on. -/
def row (k : IntKind) (l : List Int) (v : Value) : Asr := fun h =>
  (v = .slice none 0 0 ∧ l = []) ∨ ∃ g cap post e, v = .slice (some ⟨g, 0, none⟩) l.length cap ∧ h g = some (.cells (ints k (l ++ post)) e (0, 0)) ∧ cap = l.length + post.length
/-- An element's place. -/
def vAt (v : Value) (i : Nat) : Addr :=
  match v with
  | .slice (some ⟨b, off, _⟩) _ _ => ⟨b, off + i, none⟩
  | _ => ⟨0, 0, none⟩
def vTake (n : Nat) (v : Value) : Value :=
  match v with
  | .slice a _ c => .slice a n c
  | v => v
def vDrop (n : Nat) (v : Value) : Value :=
  match v with
  | .slice a m c => .slice (addrAt a c n) (m - n) (c - n)
  | v => v
theorem row.rd {k : IntKind} {l : List Int} {v : Value} {D : Nat → Prop} {w : World} (h : row k l v (cut D w)) : Rd w v k l := by
  rcases h with ⟨rfl, rfl⟩ | ⟨g, cap, post, e, rfl, h, hc⟩
  · exact ⟨none, 0, rfl, by simp, .inl rfl⟩
  · refine ⟨some ⟨g, 0, none⟩, cap, rfl, by omega, .inr ⟨g, 0, _, e, (0, 0), rfl, (cut_in h).2, fun i p hp => ?_⟩⟩
    rw [Nat.zero_add, ints_get, List.getElem?_append_left (List.getElem?_eq_some_iff.1 hp).1, hp]
    rfl
theorem St.rowRd {C : Ctx} {L : Hp} {w : World} (h : St C L w) (q : Nat) {k : IntKind} {l : List Int} {v : Value} (hq : L[q]? = some (row k l v)) : Rd w v k l := by
  obtain ⟨ow, ho⟩ := h.own
  exact row.rd (ho.sat q _ hq)
theorem row.take {k : IntKind} {l : List Int} {v : Value} {h : PH} (hr : row k l v h) {n : Nat} (hn : n ≤ l.length) : row k (l.take n) (vTake n v) h := by
  have hl : (l.take n).length = n := by rw [List.length_take]; omega
  rcases hr with ⟨rfl, rfl⟩ | ⟨g, cap, post, e, rfl, hg, hc⟩
  · left
    simp at hn
    subst hn
    exact ⟨rfl, rfl⟩
  · right
    refine ⟨g, cap, l.drop n ++ post, e, by rw [hl]; rfl, by rw [← List.append_assoc, List.take_append_drop]; exact hg, ?_⟩
    rw [hl, List.length_append, List.length_drop]
    omega
/-- What is said may be said otherwise. -/
theorem St.conv {C : Ctx} {L : Hp} {w : World} (h : St C L w) {q : Nat} {A A' : Asr} (hq : L[q]? = some A) (hA : ∀ h, A h → A' h) : St C (L.set q A') w :=
  h.upd hq rfl rfl rfl (Nat.le_refl _) fun D hD hl => ⟨D, fun _ h => .inl h, hl, fun _ _ _ => rfl, hA _ hD⟩
theorem S_conv {C : Ctx} {k : K} {E : Env} {L : Hp} {ops : Array Oper} {l : List Oper} (q : Nat) {A A' : Asr} (hq : L[q]? = some A) (hA : ∀ h, A h → A' h) (h : S C ops l k E (L.set q A')) : S C ops l k E L :=
  ⟨fun a w hr hs => h.out a w hr (hs.conv hq hA)⟩
/-- An array that is sliced whole. -/
theorem row.of_blk {k : IntKind} {l : List Int} {b n : Nat} {e : TypeId} {h : PH} (hb : blk b (.cells (ints k l) e (0, 0)) h) (hn : l.length = n) : row k l (.slice (some ⟨b, 0, none⟩) n n) h :=
  .inr ⟨b, n, [], e, by rw [hn], by rw [List.append_nil]; exact hb, by rw [List.length_nil, hn]; rfl⟩
/-! ### append -/
def bytesOf (P : Program) (t : TypeId) : Option Nat := (P.info? t).map (·.bytes)
theorem zeroCells_int (k : IntKind) (n : Nat) : Builtin.zeroCells (Value.int k 0).cells n = ints k (List.replicate n 0) := by
  apply Array.ext
  · simp [Builtin.zeroCells, Value.cells, ints]
  · intro i h1 h2
    simp [Builtin.zeroCells, Value.cells, ints, Nat.mod_one]
theorem Rd.first {P : Program} {w : World} {v : Value} {k : IntKind} {l : List Int} (h : Rd w v k l) : (Builtin.firstCells 1 l.length v).run P w = .ok (ints k l) w := by
  obtain ⟨a, c, rfl, h2, h3⟩ := h.out
  have := run_load_ints (P := P) h (n := l.length) (Nat.le_refl _)
  rw [List.take_length] at this
  exact this
theorem Rd.drew {w : World} {v : Value} {k : IntKind} {l : List Int} (h : Rd w v k l) : Rd w.drew v k l := by
  obtain ⟨a, c, h1, h2, h3⟩ := h.out
  exact ⟨a, c, h1, h2, h3⟩
theorem ints_append (k : IntKind) (l m : List Int) : ints k l ++ ints k m = ints k (l ++ m) := by simp [ints]
section
variable {P : Program} {t t' ty e e' : TypeId} {k : IntKind} {l m : List Int} {v x : Value} {bytes : Nat}
theorem run_append_row {w : World} {D : Nat → Prop} (ht : P.underlying t = some (.slice e)) (ht' : P.underlying t' = some (.slice e')) (he : szOf P e = some 1) (hb : bytesOf P e = some bytes) (hz : zeroOf P e = some (.int k 0))
    (hv : row k l v (cut D w)) (hx : Rd w x k m) (hm : l.length + m.length ≤ 1099511627776) (hby : 0 < bytes ∧ bytes ≤ 128) :
    ∃ v' w' D', (Builtin.append_ #[t, t'] ty #[v, x]).run P w = .ok v' w' ∧ w'.os = w.os ∧ w'.tape = w.tape ∧ w'.output = w.output ∧ w.heap.size ≤ w'.heap.size ∧
      (∀ b, D' b → D b ∨ (w.heap.size ≤ b ∧ b < w'.heap.size)) ∧ (∀ b, b < w.heap.size → ¬ D b → w'.heap[b]? = w.heap[b]?) ∧ row k (l ++ m) v' (cut D' w') := by
  obtain ⟨i, hi, hsz⟩ : ∃ i, P.info? e = some i ∧ i.size = 1 := by
    unfold szOf at he
    cases h : P.info? e with
    | none => simp [h] at he
    | some i => simp [h] at he; exact ⟨i, rfl, he⟩
  have hib : i.bytes = bytes := by unfold bytesOf at hb; rw [hi] at hb; simpa using hb
  have hiz : i.zero = some (.int k 0) := by unfold zeroOf at hz; rw [hi] at hz; simpa using hz
  have hfx := hx.first (P := P)
  have hfxd := hx.drew.first (P := P)
  have hxv := hx
  obtain ⟨xa, xc, rfl, hxc, _⟩ := hxv.out
  clear hxv
  have grow : ∀ (old : Option Addr) (n cap : Nat), n = l.length → cap < n + m.length → n ≤ cap → v = .slice old n cap → Rd w v k l →
      ∃ v' w' D', (Builtin.append_ #[t, t'] ty #[v, .slice xa m.length xc]).run P w = .ok v' w' ∧ w'.os = w.os ∧ w'.tape = w.tape ∧ w'.output = w.output ∧ w.heap.size ≤ w'.heap.size ∧
        (∀ b, D' b → D b ∨ (w.heap.size ≤ b ∧ b < w'.heap.size)) ∧ (∀ b, b < w.heap.size → ¬ D b → w'.heap[b]? = w.heap[b]?) ∧ row k (l ++ m) v' (cut D' w') := by
    intro old n cap hn hc hnc hv hr
    subst hn
    have hfo := hr.drew.first (P := P)
    rw [hv] at hfo
    have h1 : ¬ (l.length + m.length ≤ cap) := by omega
    have h2 : ¬ ((9223372036854775807 : Int) < (l.length : Int) + (m.length : Int)) := by omega
    have h3 : ¬ (281474976710656 < Builtin.nextslicecap (l.length + m.length) cap * i.bytes) := by
      have a1 := nextslicecap_le hc
      have a2 : Builtin.nextslicecap (l.length + m.length) cap * i.bytes ≤ 2199023255552 * 128 := Nat.mul_le_mul (by omega) (by omega)
      omega
    have hge : l.length + m.length ≤ grownCap w (l.length + m.length) cap e := by simp [grownCap, Question.cut]
    refine ⟨.slice (some ⟨w.heap.size, 0, none⟩) (l.length + m.length) (grownCap w (l.length + m.length) cap e),
      w.drew.alloc (.cells (ints k l ++ ints k m ++ ints k (List.replicate (grownCap w (l.length + m.length) cap e - (l.length + m.length)) 0)) e), fun b => b = w.heap.size, ?_, rfl, rfl, rfl, ?_, ?_, ?_, ?_⟩
    · rw [hv]
      simp [Builtin.append_, run_underlying ht, run_underlying ht', sizeOf, typeInfo, zeroValue, hi, hiz, hsz, Builtin.lenOf, h1, h2, h3, Question.forced, hfo, hfxd, newRow, grownCap, zeroCells_int]
    · simp
    · rintro b rfl; right; simp
    · intro b hb _
      exact heap_alloc_old w.drew _ b hb
    · right
      refine ⟨w.heap.size, _, List.replicate (grownCap w (l.length + m.length) cap e - (l.length + m.length)) 0, e, by rw [List.length_append], ?_, ?_⟩
      · rw [ints_append, ints_append]
        exact cut_of rfl (heap_alloc_new w.drew _)
      · rw [List.length_append, List.length_replicate]
        omega
  rcases hv with ⟨rfl, rfl⟩ | ⟨g, cap, post, e0, rfl, hg, hc⟩
  · by_cases hm0 : m = []
    · subst hm0
      refine ⟨.slice none 0 0, w, fun _ => False, ?_, rfl, rfl, rfl, Nat.le_refl _, fun _ h => h.elim, fun _ _ _ => rfl, .inl ⟨rfl, rfl⟩⟩
      simp at hfx
      simp [Builtin.append_, run_underlying ht, run_underlying ht', sizeOf, typeInfo, hi, hsz, Builtin.lenOf, hfx]
    · have : m.length ≠ 0 := by simpa using hm0
      exact grow none 0 0 rfl (by omega) (Nat.le_refl _) rfl ⟨none, 0, rfl, by simp, .inl rfl⟩
  · have hg' := cut_in hg
    by_cases hr : l.length + m.length ≤ cap
    · have hst := run_storeCells_at P g l.length e0 (m.map (Value.int k)) 0 (ints k (l ++ post)) w hg'.2 (by simp; omega) (fun v hv => by obtain ⟨p, _, rfl⟩ := List.mem_map.1 hv; rfl)
      have h4 : (ints k m).toList = m.map (Value.int k) := by simp [ints]
      have h3 : ((ints k (l ++ post)).toList.take (l.length + 0) ++ m.map (Value.int k) ++ (ints k (l ++ post)).toList.drop (l.length + 0 + (m.map (Value.int k)).length)).toArray = ints k (l ++ m ++ post.drop m.length) := by
        simp [ints, List.drop_append]
      rw [h3] at hst
      refine ⟨.slice (some ⟨g, 0, none⟩) (l.length + m.length) cap, w.setRow g (ints k (l ++ m ++ post.drop m.length)), D, ?_, rfl, rfl, rfl, by simp, fun _ h => .inl h, ?_, .inr ⟨g, cap, post.drop m.length, e0, by rw [List.length_append], ?_, ?_⟩⟩
      · simp [Builtin.append_, run_underlying ht, run_underlying ht', sizeOf, typeInfo, hi, hsz, Builtin.lenOf, hr, hfx, Addr.add_lit, h4, hst]
      · intro b _ hb
        exact setRow_other _ _ _ _ fun e => hb (e ▸ hg'.1)
      · exact cut_of hg'.1 (setRow_heap w g _ _ e0 _ hg'.2)
      · rw [List.length_append, List.length_drop]
        omega
    · exact grow (some ⟨g, 0, none⟩) l.length cap rfl (by omega) (by omega) rfl (row.rd (.inr ⟨g, cap, post, e0, rfl, hg, hc⟩))
end
section
variable {C : Ctx} {K0 : K} {E : Env} {L : Hp} {ops : Array Oper} {rest : List Oper} {dst : Option Tmp} {ty : TypeId} {pos : String} {af : Array Edge} {g : Option (Nat × Bool)}
variable {x y : Operand} {t t' e e' : TypeId} {k k' : IntKind} {p z : Int} {i n : Nat} {l m : List Int} {v u : Value} {d : Nat}
/-- An operation that turns what an assertion says, and yields a value. -/
theorem S_updV (q : Nat) {op : Op} {A : Asr} {R : Value → Asr} (hg : wantedE ops E g = some true) (hd : Nat.blt d C.n = true) (hq : L[q]? = some A)
    (hv : ∀ a w D, Rel C.n E a → St C L w → A (cut D w) → (∀ b, D b → b < w.heap.size) → ∃ v w' D', (execOp a.eval ⟨some d, op, ty, pos, af, g⟩).run C.P w = .ok (.value v) w' ∧ w'.os = w.os ∧ w'.tape = w.tape ∧ w'.output = w.output ∧ w.heap.size ≤ w'.heap.size ∧
      (∀ b, D' b → D b ∨ (w.heap.size ≤ b ∧ b < w'.heap.size)) ∧ (∀ b, b < w.heap.size → ¬ D b → w'.heap[b]? = w.heap[b]?) ∧ R v (cut D' w'))
    (h : ∀ v, S C ops rest K0 ((d, v) :: E) (L.set q (R v))) : S C ops (⟨some d, op, ty, pos, af, g⟩ :: rest) K0 E L := by
  refine ⟨fun a w hr hs => ?_⟩
  unfold wpList
  rw [wantedE_spec hr (o := ⟨some d, op, ty, pos, af, g⟩) hg, if_pos rfl]
  refine .inl ?_
  unfold Oper.wp
  obtain ⟨ow, ho⟩ := hs.own
  obtain ⟨v, w', D', h0, h1, h2, h3, h4, h5, h6, h7⟩ := hv a w (ow q) hr hs (ho.sat q _ hq) (ho.lt q)
  rw [h0]
  refine (h v).out _ _ (hr.put (by simpa using hd) v) ?_
  have hql : q < L.length := (List.getElem?_eq_some_iff.1 hq).1
  have hfb : ∀ b, C.FB b → b < w.heap.size := fun b hb => by have := hs.fb b hb; have := hs.size; omega
  have hlt : ∀ b, D' b → b < w'.heap.size := fun b hb => (h5 b hb).elim (fun h => Nat.lt_of_lt_of_le (ho.lt q b h) h4) (fun h => h.2)
  refine ⟨h1.trans hs.os, h2.trans hs.tape, h3.trans hs.output, Nat.le_trans hs.size h4, fun j hj => ?_, hs.fb, fun i b => if i = q then D' b else ow i b, ?_, ?_, ?_, ?_⟩
  · rw [h6 j (hfb j hj) fun hb => ho.free q j hb hj]; exact hs.fixed j hj
  · intro i b hb hF
    split at hb
    · rcases h5 b hb with h8 | h8
      · exact ho.free q b h8 hF
      · have := hfb b hF; omega
    · exact ho.free i b hb hF
  · intro i b hb
    split at hb
    · exact hlt b hb
    · exact Nat.lt_of_lt_of_le (ho.lt i b hb) h4
  · intro i j b hi hj
    split at hi <;> split at hj
    · omega
    · rename_i e1 e2
      rcases h5 b hi with h8 | h8
      · exact absurd (ho.one j q b hj h8) e2
      · have := ho.lt j b hj; omega
    · rename_i e1 e2
      rcases h5 b hj with h8 | h8
      · exact absurd (ho.one i q b hi h8) e1
      · have := ho.lt i b hi; omega
    · exact ho.one i j b hi hj
  · intro i B hB
    by_cases hi : i = q
    · subst hi
      rw [List.getElem?_set_self hql] at hB
      simp only [if_true]
      have : R v = B := by simpa using hB
      exact this ▸ h7
    · rw [List.getElem?_set_ne (fun e => hi e.symm)] at hB
      simp only [if_neg hi]
      rw [cut_congr fun b hb => h6 b (ho.lt i b hb) fun hb' => hi (ho.one i q b hb hb')]
      exact ho.sat i B hB
theorem S_append (q : Nat) {ats : Array TypeId} {bytes : Nat} (h0 : ats = #[t, t']) (ht : C.P.underlying t = some (.slice e)) (ht' : C.P.underlying t' = some (.slice e')) (he : szOf C.P e = some 1) (hb : bytesOf C.P e = some bytes) (hz : zeroOf C.P e = some (.int k 0))
    (hx : ev E x = some v) (hy : ev E y = some u) (hq : L[q]? = some (row k l v)) (hr : ∀ w, St C L w → Rd w u k m) (hm : l.length + m.length ≤ 1099511627776) (hby : (Nat.blt 0 bytes && Nat.ble bytes 128) = true) (hg : wantedE ops E g = some true) (hd : Nat.blt d C.n = true)
    (h : ∀ v', S C ops rest K0 ((d, v') :: E) (L.set q (row k (l ++ m) v'))) : S C ops (⟨some d, .call ⟨.builtin .append, #[x, y], ats⟩, ty, pos, af, g⟩ :: rest) K0 E L := by
  refine S_updV (R := row k (l ++ m)) q hg hd hq (fun a w D hrel hs hA _ => ?_) h
  obtain ⟨cs, hc⟩ := run_builtin (dst := some d) (ty := ty) (pos := pos) (af := af) (g := g) hrel (P := C.P) (b := .append) (aS := [x, y]) (ats := ats) (w := w) (vs := [v, u]) (by simp [evs, hx, hy])
  simp only [Bool.and_eq_true, Nat.blt_eq, Nat.ble_eq] at hby
  obtain ⟨v', w', D', h1, h2⟩ := run_append_row (ty := ty) ht ht' he hb hz hA (hr w hs) hm hby
  refine ⟨v', w', D', ?_, h2⟩
  rw [hc]
  subst h0
  simp only [builtin, Sem.run_bind]
  rw [h1]
  rfl
/-- An operation that makes what an assertion says. -/
theorem S_newR {op : Op} {R : Value → Asr} (hg : wantedE ops E g = some true) (hd : Nat.blt d C.n = true)
    (hv : ∀ a w, Rel C.n E a → St C L w → ∃ v w', (execOp a.eval ⟨some d, op, ty, pos, af, g⟩).run C.P w = .ok (.value v) w' ∧ w'.os = w.os ∧ w'.tape = w.tape ∧ w'.output = w.output ∧ w.heap.size ≤ w'.heap.size ∧
      (∀ b, b < w.heap.size → w'.heap[b]? = w.heap[b]?) ∧ R v (cut (fun b => w.heap.size ≤ b ∧ b < w'.heap.size) w'))
    (h : ∀ v, S C ops rest K0 ((d, v) :: E) (L ++ [R v])) : S C ops (⟨some d, op, ty, pos, af, g⟩ :: rest) K0 E L := by
  refine ⟨fun a w hr hs => ?_⟩
  unfold wpList
  rw [wantedE_spec hr (o := ⟨some d, op, ty, pos, af, g⟩) hg, if_pos rfl]
  refine .inl ?_
  unfold Oper.wp
  obtain ⟨v, w', h0, h1, h2, h3, h4, h5, h6⟩ := hv a w hr hs
  rw [h0]
  exact (h v).out _ _ (hr.put (by simpa using hd) v) (hs.push' h1 h2 h3 h4 h5 h6)
theorem row.new {w : World} {k : IntKind} {l : List Int} {e : TypeId} {n : Nat} (hn : l.length = n) : row k l (.slice (some ⟨w.heap.size, 0, none⟩) n n) (cut (fun b => w.heap.size ≤ b ∧ b < (w.alloc (.cells (ints k l) e)).heap.size) (w.alloc (.cells (ints k l) e))) :=
  .inr ⟨w.heap.size, n, [], e, by rw [hn], by rw [List.append_nil]; exact cut_of ⟨Nat.le_refl _, by simp⟩ (heap_alloc_new w _), by rw [List.length_nil, hn]; rfl⟩
theorem S_makeR {bytes : Nat} (ht : C.P.underlying t = some (.slice e)) (he : szOf C.P e = some 1) (hb : bytesOf C.P e = some bytes) (hz : zeroOf C.P e = some (.int k 0)) (hx : ev E x = some (.int k' p)) (hy : ev E y = some (.int k' p)) (hp : IsNat p n)
    (hn : n ≤ 1099511627776) (hby : (Nat.blt 0 bytes && Nat.ble bytes 128) = true) (hg : wantedE ops E g = some true) (hd : Nat.blt d C.n = true)
    (h : ∀ v, S C ops rest K0 ((d, v) :: E) (L ++ [row k (List.replicate n 0) v])) : S C ops (⟨some d, .makeSlice t x y, ty, pos, af, g⟩ :: rest) K0 E L := by
  refine S_newR (R := row k (List.replicate n 0)) hg hd (fun a w hrel _ => ?_) h
  obtain ⟨i, hi, hsz⟩ : ∃ i, C.P.info? e = some i ∧ i.size = 1 := by
    unfold szOf at he
    cases h : C.P.info? e with
    | none => simp [h] at he
    | some i => simp [h] at he; exact ⟨i, rfl, he⟩
  have hib : i.bytes = bytes := by unfold bytesOf at hb; rw [hi] at hb; simpa using hb
  have hiz : i.zero = some (.int k 0) := by unfold zeroOf at hz; rw [hi] at hz; simpa using hz
  simp only [Bool.and_eq_true, Nat.blt_eq, Nat.ble_eq] at hby
  have hp' := hp.eq
  subst hp'
  have hbn : (i.bytes : Int) * (n : Int) ≤ 281474976710656 := by
    have : i.bytes * n ≤ 128 * 1099511627776 := Nat.mul_le_mul (by omega) hn
    rw [← Int.natCast_mul]
    omega
  have hm := run_make (P := C.P) w t e i _ ht hi hiz k' k' (n : Int) (n : Int) (by omega) (Int.le_refl _) hbn (by omega)
  have hmc : madeCells (Value.int k 0).cells ((n : Int).toNat * i.size) = ints k (List.replicate n 0) := by
    rw [hsz, Int.toNat_natCast, Nat.mul_one]
    apply Array.ext
    · simp [madeCells, ints]
    · intro j h1 h2
      simp [madeCells, Value.cells, ints, Nat.mod_one]
  rw [hmc, Int.toNat_natCast] at hm
  exact ⟨.slice (some ⟨w.heap.size, 0, none⟩) n n, w.alloc (.cells (ints k (List.replicate n 0)) e), by simp [execOp, hrel.eval hx, hrel.eval hy, hm], rfl, rfl, rfl, by simp, fun b hb => heap_alloc_old w _ b hb, row.new (by simp)⟩
/-- A slice that is written out. -/
theorem S_sliceR {parts : List (Nat × Operand)} {ps : List (Nat × Int)} (ht : C.P.underlying t = some (.slice e)) (he : szOf C.P e = some 1) (hz : zeroOf C.P e = some (.int k 0)) (hp : partsI k E parts = some ps)
    (ha : (Nat.ble n 16777216 && ps.all (fun p => Nat.blt p.1 n)) = true) (hg : wantedE ops E g = some true) (hd : Nat.blt d C.n = true)
    (h : ∀ v, S C ops rest K0 ((d, v) :: E) (L ++ [row k (fillI (List.replicate n 0) ps) v])) : S C ops (⟨some d, .buildSlice t n parts.toArray, ty, pos, af, g⟩ :: rest) K0 E L := by
  refine S_newR (R := row k (fillI (List.replicate n 0) ps)) hg hd (fun a w hr _ => ?_) h
  rw [Bool.and_eq_true, Nat.ble_eq] at ha
  have h1 : (parts.toArray.map fun (i, x) => (i, a.eval x)) = (ps.map fun p => (p.1, Value.int k p.2)).toArray := by
    rw [List.map_toArray, partsI_spec hr hp]
  have h2 := fill_ints k ps (List.replicate n 0) (by simpa using ha.2)
  have h3 : (fillI (List.replicate n 0) ps).length = n := by
    have : ∀ (ps : List (Nat × Int)) (l : List Int), (fillI l ps).length = l.length := by
      intro ps
      induction ps with
      | nil => intro l; rfl
      | cons p ps ih => intro l; simp only [fillI]; rw [ih]; simp
    rw [this, List.length_replicate]
  have h5 : n ≠ 0 → (Array.range (n * 1)).map (fun i => (#[Value.int k 0] : Array Value)[i % (#[Value.int k 0] : Array Value).size]!) = ints k (List.replicate n 0) := fun _ => by
    apply Array.ext
    · simp [ints]
    · intro j h1 h2
      simp [ints, Nat.mod_one]
  have h2' : Instr.fill (fun i => some (i * 1, 1)) (ints k (List.replicate n 0)) (ps.map fun p => (p.1, Value.int k p.2)) = some (ints k (fillI (List.replicate n 0) ps)) := h2
  refine ⟨.slice (some ⟨w.heap.size, 0, none⟩) n n, w.alloc (.cells (ints k (fillI (List.replicate n 0) ps)) e), ?_, ?_, ?_, ?_, ?_, ?_, row.new (e := e) h3⟩
  · simp only [execOp, h1, Instr.buildSlice, Sem.run_bind, run_underlying ht, Result.andThen_ok, run_sizeOf he]
    rw [if_neg (by omega)]
    by_cases hn : n = 0
    · subst hn
      rw [if_pos rfl]
      simp only [pure_bind]
      rw [show (Array.map (fun x => (#[] : Array Value)[x % (#[] : Array Value).size]!) (Array.range (0 * 1))) = ints k (List.replicate 0 0) by simp [ints], h2']
      rfl
    · rw [if_neg (by omega)]
      simp only [Sem.run_bind, run_zeroValue hz, Result.andThen_ok, pure_bind, Value.cells, h5 hn, h2']
      rfl
  · rfl
  · rfl
  · rfl
  · simp
  · exact fun b hb => heap_alloc_old w _ b hb
/-- A call that hands back what it has made. -/
theorem S_callR {fo : Operand} {f : FuncId} {aS : List Operand} {vs : List Value} {ats : Array TypeId} (R : Value → Asr) (hf : ev E fo = some (.func (.func f) #[] #[])) (ha : evs E aS = some vs) (hb : hasBody C.P f = true)
    (hc : ∀ w, St C L w → Fn C.P f vs.toArray w fun v N => N = [R v]) (hg : wantedE ops E g = some true) (hd : Nat.blt d C.n = true)
    (h : ∀ v, S C ops rest K0 ((d, v) :: E) (L ++ [R v])) : S C ops (⟨some d, .call ⟨.value fo, aS.toArray, ats⟩, ty, pos, af, g⟩ :: rest) K0 E L :=
  S_call _ hf ha hb hc hg hd (by rintro v N rfl; exact h v)
end
/-! ### reading -/
section
variable {C : Ctx} {E : Env} {L : Hp} {dst : Option Tmp} {ty : TypeId} {pos : String} {af : Array Edge} {g : Option (Nat × Bool)}
variable {x y : Operand} {t e : TypeId} {k k' : IntKind} {p z : Int} {i n : Nat} {l m : List Int} {v : Value}
theorem Y_lenV {ats : Array TypeId} (h0 : ats[0]? = some t) (ht : C.P.underlying t = some (.slice e)) (hx : ev E x = some v) (hr : ∀ w, St C L w → Rd w v k l) (hn : l.length = n) :
    Yv C E L ⟨dst, .call ⟨.builtin .len, #[x], ats⟩, ty, pos, af, g⟩ (.int .i64 n) := by
  refine ⟨fun a w h hs => ?_⟩
  obtain ⟨b, c, rfl, _⟩ := (hr w hs).out
  exact (Y_len (C := C) (L := L) h0 ht (hn ▸ hx)).out a w h hs
theorem Y_ixV (ht : C.P.underlying t = some (.slice e)) (he : szOf C.P e = some 1) (hx : ev E x = some v) (hy : ev E y = some (.int k' p)) (hr : ∀ w, St C L w → Rd w v k l)
    (hp : IsNat p i) (hi : i < l.length) : Yv C E L ⟨dst, .indexAddr t x y, ty, pos, af, g⟩ (.pointer (some (vAt v i))) := by
  refine ⟨fun a w h hs => ?_⟩
  obtain ⟨b, c, rfl, _, h3⟩ := (hr w hs).out
  rcases h3 with rfl | ⟨b', off, cs, e', fz, rfl, _, _⟩
  · simp at hi
  · exact (Y_ixs (C := C) (L := L) ht he hx hy hp hi).out a w h hs
theorem Y_loadV {d : TypeDesc} (ht : C.P.underlying t = some d) (hd : isAggB d = false) (hx : ev E x = some (.pointer (some (vAt v i)))) (hr : ∀ w, St C L w → Rd w v k l) (hv : l[i]? = some p) :
    Yv C E L ⟨dst, .load t x, ty, pos, af, g⟩ (.int k p) := by
  refine ⟨fun a w h hs => ?_⟩
  have hr' := hr w hs
  obtain ⟨b, c, rfl, _, h3⟩ := hr'.out
  rcases h3 with rfl | ⟨b', off, cs, e', fz, rfl, _, _⟩
  · simp at hv
  · exact (Y_load (C := C) (L := L) ht hd hx fun w' hs' => (hr w' hs').cell hv).out a w h hs
theorem Rd.takeV {w : World} {v : Value} {k : IntKind} {l : List Int} (h : Rd w v k l) {j : Nat} (hj : j ≤ l.length) : Rd w (vTake j v) k (l.take j) := by
  obtain ⟨b, c, rfl, _, _⟩ := h.out
  exact h.take j hj
theorem Rd.dropV {w : World} {v : Value} {k : IntKind} {l : List Int} (h : Rd w v k l) {j : Nat} (hj : j ≤ l.length) : Rd w (vDrop j v) k (l.drop j) := by
  obtain ⟨b, c, rfl, _, _⟩ := h.out
  exact h.drop j hj
theorem Y_sliceLoV (ht : C.P.underlying t = some (.slice e)) (he : szOf C.P e = some 1) (hx : ev E x = some v) (hy : ev E y = some (.int k' p)) (hr : ∀ w, St C L w → Rd w v k l) (hp : IsNat p i) (hi : i ≤ l.length) :
    Yv C E L ⟨dst, .slice t x (some y) none none, ty, pos, af, g⟩ (vDrop i v) := by
  refine ⟨fun a w h hs => ?_⟩
  obtain ⟨b, c, rfl, hc, _⟩ := (hr w hs).out
  exact (Y_sliceLo (C := C) (L := L) ht he hx hy hp hi hc).out a w h hs
theorem Y_sliceHiV (ht : C.P.underlying t = some (.slice e)) (he : szOf C.P e = some 1) (hx : ev E x = some v) (hy : ev E y = some (.int k' p)) (hr : ∀ w, St C L w → Rd w v k l) (hp : IsNat p i) (hi : i ≤ l.length) :
    Yv C E L ⟨dst, .slice t x none (some y) none, ty, pos, af, g⟩ (vTake i v) := by
  refine ⟨fun a w h hs => ?_⟩
  obtain ⟨b, c, rfl, hc, _⟩ := (hr w hs).out
  exact (Y_sliceHi (C := C) (L := L) ht he hx hy hp (Nat.le_trans hi hc)).out a w h hs
end
/-! ### writing -/
section
variable {C : Ctx} {K0 : K} {E : Env} {L : Hp} {ops : Array Oper} {rest : List Oper} {ty : TypeId} {pos : String} {af : Array Edge} {g : Option (Nat × Bool)}
variable {x y : Operand} {t : TypeId} {k : IntKind} {p : Int} {i : Nat} {l : List Int} {v : Value}
theorem S_storeR (q : Nat) (ht : szOf C.P t = some 1) (hx : ev E x = some (.pointer (some (vAt v i)))) (hy : ev E y = some (.int k p)) (hq : L[q]? = some (row k l v)) (hi : i < l.length) (hg : wantedE ops E g = some true)
    (h : S C ops rest K0 E (L.set q (row k (l.set i p) v))) : S C ops (⟨none, .store t x y, ty, pos, af, g⟩ :: rest) K0 E L := by
  refine ⟨fun a w hr hs => ?_⟩
  unfold wpList
  rw [wantedE_spec hr (o := ⟨none, .store t x y, ty, pos, af, g⟩) hg, if_pos rfl]
  refine .inl ?_
  unfold Oper.wp
  obtain ⟨ow, ho⟩ := hs.own
  rcases ho.sat q _ hq with ⟨rfl, rfl⟩ | ⟨b, cap, post, e, rfl, hb, hc⟩
  · simp at hi
  · have hb' := (cut_in hb).2
    have := run_store1 (C := C) (E := E) (L := L) (ty := ty) (pos := pos) (af := af) (g := g) (b := b) (off := 0 + i) (cs := ints k (l ++ post)) (cs' := ints k ((l ++ post).set (0 + i) p)) ht hx hy rfl (by simp; omega) (ints_set _ _ _ _) a w hr hs hb'
    rw [this]
    simp only [Oper.upon, Act.put]
    refine h.out _ _ hr (hs.upd hq rfl rfl rfl (by simp) fun D hD hl => ⟨D, fun _ h => .inl h, fun b hb => by simpa using hl b hb, ?_, ?_⟩)
    · rcases hD with ⟨h1, _⟩ | ⟨b2, cap2, post2, e2, h1, hb2, _⟩
      · cases h1
      · intro j _ hj
        have e1 : b = b2 := by injection h1 with h1; injection h1 with h1; injection h1
        exact setRow_other _ _ _ _ fun e3 => hj (e3 ▸ e1 ▸ (cut_in hb2).1)
    · rcases hD with ⟨h1, _⟩ | ⟨b2, cap2, post2, e2, h1, hb2, _⟩
      · cases h1
      · have e1 : b = b2 := by injection h1 with h1; injection h1 with h1; injection h1
        subst e1
        refine .inr ⟨b, cap, post, e, by rw [List.length_set], cut_of (cut_in hb2).1 ?_, by rw [List.length_set]; exact hc⟩
        rw [setRow_heap w b _ _ e _ hb', Nat.zero_add, List.set_append_left _ _ hi]
end
/-- x[:hi] of an owned one: what lies behind is given up. -/
theorem S_cutR {C : Ctx} {K0 : K} {E : Env} {L : Hp} {ops : Array Oper} {rest : List Oper} {ty : TypeId} {pos : String} {af : Array Edge} {g : Option (Nat × Bool)} {x y : Operand} {t e : TypeId} {k k' : IntKind} {p : Int} {i d : Nat} {l : List Int} {v : Value}
    (q : Nat) (ht : C.P.underlying t = some (.slice e)) (he : szOf C.P e = some 1) (hx : ev E x = some v) (hy : ev E y = some (.int k' p)) (hq : L[q]? = some (row k l v)) (hp : IsNat p i) (hi : i ≤ l.length) (hg : wantedE ops E g = some true) (hd : Nat.blt d C.n = true)
    (h : S C ops rest K0 ((d, vTake i v) :: E) (L.set q (row k (l.take i) (vTake i v)))) : S C ops (⟨some d, .slice t x none (some y) none, ty, pos, af, g⟩ :: rest) K0 E L :=
  S_val hg hd (Y_sliceHiV ht he hx hy (fun _ hs => hs.rowRd q hq) hp hi) (S_conv q hq (fun _ hr => hr.take hi) h)
/-! ### a slice's shape -/
structure Sh (v : Value) (n : Nat) : Prop where
  out : ∃ a c, v = .slice a n c ∧ n ≤ c ∧ (n = 0 ∨ ∃ b off, a = some ⟨b, off, none⟩)
theorem Rd.sh {w : World} {v : Value} {k : IntKind} {l : List Int} (h : Rd w v k l) : Sh v l.length := by
  obtain ⟨a, c, rfl, h2, h3⟩ := h.out
  refine ⟨a, c, rfl, h2, ?_⟩
  rcases h3 with rfl | ⟨b, off, cs, e, fz, rfl, _⟩
  · exact .inl rfl
  · exact .inr ⟨b, off, rfl⟩
theorem T_sh {C : Ctx} {k : K} {E : Env} {L : Hp} {c : Code} (q : Nat) {kd : IntKind} {l : List Int} {v : Value} (hq : L[q]? = some (row kd l v)) (h : Sh v l.length → T C c k E L) : T C c k E L :=
  ⟨⟨fun a w hr hs => (h (hs.rowRd q hq).sh).out.out a w hr hs⟩⟩
section
variable {C : Ctx} {E : Env} {L : Hp} {dst : Option Tmp} {ty : TypeId} {pos : String} {af : Array Edge} {g : Option (Nat × Bool)}
variable {x y : Operand} {t e : TypeId} {k' : IntKind} {p : Int} {i n : Nat} {v : Value}
theorem Y_ixS (ht : C.P.underlying t = some (.slice e)) (he : szOf C.P e = some 1) (hx : ev E x = some v) (hy : ev E y = some (.int k' p)) (hs : Sh v n)
    (hp : IsNat p i) (hi : i < n) : Yv C E L ⟨dst, .indexAddr t x y, ty, pos, af, g⟩ (.pointer (some (vAt v i))) := by
  obtain ⟨a, c, rfl, hc, h⟩ := hs.out
  rcases h with rfl | ⟨b, off, rfl⟩
  · omega
  · exact Y_ixs ht he hx hy hp hi
end
end Go.Proofs.YtjolmphkmfbpbaaDoor
/- Numbers and their digits. -/
namespace Go.Proofs.YtjolmphkmfbpbaaDoor
/-- The lowest n digits of x to the base b. -/
def dl (b n x : Nat) : List Int := (List.range n).map fun i => ((x / b ^ i % b : Nat) : Int)
@[simp] theorem dl_length (b n x : Nat) : (dl b n x).length = n := by simp [dl]
theorem dl_get {b n x i : Nat} (h : i < n) : (dl b n x)[i]? = some ((x / b ^ i % b : Nat) : Int) := by simp [dl, h]
theorem dl_lt {b n x i : Nat} (h : i < n) : i < (dl b n x).length := by rwa [dl_length]
theorem dl_le {b n x i : Nat} (h : i ≤ n) : i ≤ (dl b n x).length := by rwa [dl_length]
theorem dl_succ (b n x : Nat) : dl b (n + 1) x = dl b n x ++ [((x / b ^ n % b : Nat) : Int)] := by simp [dl, List.range_succ]
theorem dl_congr {b n x y : Nat} (h : ∀ i, i < n → x / b ^ i % b = y / b ^ i % b) : dl b n x = dl b n y := by
  unfold dl
  exact List.map_congr_left fun i hi => by rw [h i (List.mem_range.1 hi)]
theorem digit_mod (b n x i : Nat) (h : i < n) : x % b ^ n / b ^ i % b = x / b ^ i % b := by
  obtain ⟨k, rfl⟩ : ∃ k, n = i + (k + 1) := ⟨n - i - 1, by omega⟩
  rw [Nat.pow_add, Nat.mod_mul_right_div_self, Nat.pow_succ, Nat.mul_comm (b ^ k) b, Nat.mod_mul_right_mod]
theorem dl_mod (b n x : Nat) : dl b n (x % b ^ n) = dl b n x := dl_congr fun i h => digit_mod b n x i h
theorem digits_inj {b : Nat} (hb : 0 < b) : ∀ (n x y : Nat), x < b ^ n → y < b ^ n → (∀ i, i < n → x / b ^ i % b = y / b ^ i % b) → x = y
  | 0, x, y, hx, hy, _ => by simp at hx hy; omega
  | n + 1, x, y, hx, hy, h => by
    have h0 := h 0 (by omega)
    simp only [Nat.pow_zero, Nat.div_one] at h0
    have h1 := digits_inj hb n (x / b) (y / b) (Nat.div_lt_of_lt_mul (by rw [Nat.pow_succ] at hx; rw [Nat.mul_comm]; exact hx)) (Nat.div_lt_of_lt_mul (by rw [Nat.pow_succ] at hy; rw [Nat.mul_comm]; exact hy)) fun i hi => by
      have := h (i + 1) (by omega)
      rw [Nat.pow_succ, Nat.mul_comm, ← Nat.div_div_eq_div_mul, ← Nat.div_div_eq_div_mul] at this
      exact this
    rw [← Nat.div_add_mod x b, ← Nat.div_add_mod y b, h0, h1]
theorem dl_inj {b n x y : Nat} (hb : 0 < b) (hx : x < b ^ n) (hy : y < b ^ n) (h : dl b n x = dl b n y) : x = y := by
  refine digits_inj hb n x y hx hy fun i hi => ?_
  have h1 := dl_get (b := b) (x := x) hi
  rw [h, dl_get hi] at h1
  have : ((y / b ^ i % b : Nat) : Int) = ((x / b ^ i % b : Nat) : Int) := by simpa using h1
  omega
theorem digit_add_lt {b x d i j : Nat} (hb : 0 < b) (hx : x < b ^ i) (hd : d < b) : (x + d * b ^ i) / b ^ j % b = if j < i then x / b ^ j % b else if j = i then d else 0 := by
  have hp : 0 < b ^ i := Nat.pow_pos hb
  split
  · rename_i h
    rw [← digit_mod b i (x + d * b ^ i) j h, Nat.add_mul_mod_self_right, digit_mod b i x j h]
  · split
    · rename_i h h2
      subst h2
      rw [Nat.add_mul_div_right _ _ hp, Nat.div_eq_of_lt hx, Nat.zero_add, Nat.mod_eq_of_lt hd]
    · rename_i h h2
      have h3 : x + d * b ^ i < b ^ (i + 1) := by
        rw [Nat.pow_succ]
        have : (d + 1) * b ^ i ≤ b * b ^ i := Nat.mul_le_mul_right _ hd
        rw [Nat.succ_mul] at this
        rw [Nat.mul_comm (b ^ i) b]
        omega
      have h4 : b ^ (i + 1) ≤ b ^ j := Nat.pow_le_pow_right hb (by omega)
      rw [Nat.div_eq_of_lt (by omega), Nat.zero_mod]
theorem dl_set {b n x d i : Nat} (hb : 0 < b) (hx : x < b ^ i) (hd : d < b) : (dl b n x).set i ((d : Nat) : Int) = dl b n (x + d * b ^ i) := by
  apply List.ext_getElem?
  intro j
  rw [List.getElem?_set]
  by_cases hj : j < n
  · rw [dl_get hj, dl_get hj, dl_length, digit_add_lt hb hx hd]
    by_cases h1 : i = j
    · subst h1; simp [hj]
    · simp only [h1, if_false]
      by_cases h2 : j < i
      · simp [h2]
      · have : x / b ^ j % b = 0 := by
          have : b ^ i ≤ b ^ j := Nat.pow_le_pow_right hb (by omega)
          rw [Nat.div_eq_of_lt (by omega), Nat.zero_mod]
        simp [h2, this, show j ≠ i by omega]
  · have h1 : (dl b n x)[j]? = none := List.getElem?_eq_none (by rw [dl_length]; omega)
    have h2 : (dl b n (x + d * b ^ i))[j]? = none := List.getElem?_eq_none (by rw [dl_length]; omega)
    rw [h1, h2, dl_length]
    split
    · rename_i h; subst h; simp [hj]
    · rfl
/-- The number that digits tell, the lowest first. -/
def vl (b : Nat) : List Nat → Nat
  | [] => 0
  | d :: l => d + b * vl b l
theorem vl_lt {b : Nat} : ∀ {l : List Nat}, (∀ d ∈ l, d < b) → vl b l < b ^ l.length
  | [], _ => by simp [vl]
  | d :: l, h => by
    have h1 := h d List.mem_cons_self
    have h2 := vl_lt (l := l) fun e he => h e (List.mem_cons_of_mem _ he)
    simp only [vl, List.length_cons, Nat.pow_succ]
    have : b * (vl b l + 1) ≤ b * b ^ l.length := Nat.mul_le_mul_left _ h2
    rw [Nat.mul_succ] at this
    rw [Nat.mul_comm (b ^ l.length) b]
    omega
theorem vl_digit {b : Nat} (hb : 0 < b) : ∀ {l : List Nat}, (∀ d ∈ l, d < b) → ∀ i, i < l.length → vl b l / b ^ i % b = l.getD i 0
  | [], _, i, hi => by simp at hi
  | d :: l, h, 0, _ => by
    have := h d List.mem_cons_self
    simp [vl, Nat.mod_eq_of_lt this]
  | d :: l, h, i + 1, hi => by
    have h1 := h d List.mem_cons_self
    have ih := vl_digit hb (l := l) (fun e he => h e (List.mem_cons_of_mem _ he)) i (by simp at hi; omega)
    simp only [vl]
    rw [Nat.pow_succ, Nat.mul_comm (b ^ i) b, ← Nat.div_div_eq_div_mul, Nat.add_mul_div_left _ _ hb, Nat.div_eq_of_lt h1, Nat.zero_add, ih]
    simp
theorem dl_vl {b : Nat} (hb : 0 < b) {l : List Nat} (h : ∀ d ∈ l, d < b) : dl b l.length (vl b l) = l.map fun d => ((d : Nat) : Int) := by
  apply List.ext_getElem?
  intro j
  by_cases hj : j < l.length
  · rw [dl_get hj, vl_digit hb h j hj]
    simp [hj, List.getD]
  · rw [List.getElem?_eq_none (by rw [dl_length]; omega), List.getElem?_eq_none (by simp; omega)]
theorem dl_zero (b n : Nat) : dl b n 0 = List.replicate n 0 := by
  apply List.ext_getElem?
  intro i
  by_cases h : i < n
  · rw [dl_get h]; simp [h]
  · rw [List.getElem?_eq_none (by simp; omega), List.getElem?_eq_none (by simp; omega)]
theorem dig_high {b x n i : Nat} (hb : 0 < b) (hx : x < b ^ n) (h : n ≤ i) : x / b ^ i = 0 := Nat.div_eq_of_lt (Nat.lt_of_lt_of_le hx (Nat.pow_le_pow_right hb h))
theorem dig_high' {b x n i : Nat} (hb : 0 < b) (hx : x < b ^ n) (h : n ≤ i) : x / b ^ i % b = 0 := by rw [dig_high hb hx h, Nat.zero_mod]
theorem dl_drop (b n x j : Nat) : (dl b n x).drop j = dl b (n - j) (x / b ^ j) := by
  apply List.ext_getElem?
  intro i
  rw [List.getElem?_drop]
  by_cases h : j + i < n
  · rw [dl_get h, dl_get (by omega), Nat.div_div_eq_div_mul, ← Nat.pow_add]
  · rw [List.getElem?_eq_none (by simp; omega), List.getElem?_eq_none (by simp; omega)]
theorem dl_take (b n x j : Nat) (hj : j ≤ n) : (dl b n x).take j = dl b j x := by
  apply List.ext_getElem?
  intro i
  rw [List.getElem?_take]
  by_cases h : i < j
  · rw [if_pos h, dl_get (by omega), dl_get h]
  · rw [if_neg h, List.getElem?_eq_none (by simp; omega)]
theorem dl_cons {b n x d : Nat} (hd : d < b) : dl b (n + 1) (d + b * x) = ((d : Nat) : Int) :: dl b n x := by
  have hb : 0 < b := by omega
  apply List.ext_getElem?
  intro i
  cases i with
  | zero => rw [dl_get (by omega), Nat.pow_zero, Nat.div_one, Nat.add_mul_mod_self_left, Nat.mod_eq_of_lt hd]; rfl
  | succ i =>
    rw [List.getElem?_cons_succ]
    by_cases h : i < n
    · rw [dl_get (by omega), dl_get h, Nat.pow_succ, Nat.mul_comm (b ^ i), ← Nat.div_div_eq_div_mul, Nat.add_mul_div_left _ _ hb, Nat.div_eq_of_lt hd, Nat.zero_add]
    · rw [List.getElem?_eq_none (by simp; omega), List.getElem?_eq_none (by simp; omega)]
/-- A word. -/
def W (x : Nat) : Value := .agg (ints .u64 (dl 18446744073709551616 4 x))
/-- The reference's 32 digits. -/
def D (x : Nat) : Value := .agg (ints .i64 (dl 256 32 x))
theorem W_congr {x y : Nat} (h : x = y) : W x = W y := by rw [h]
end Go.Proofs.YtjolmphkmfbpbaaDoor
/- What the translation says of its types, and which of its functions have a text. -/
namespace Go.Proofs.YtjolmphkmfbpbaaDoor
set_option maxRecDepth 100000
def tyTab : List (Nat × TypeDesc) := [(2, .int .i64), (3, .int .i64), (4, .bool), (5, .int .u8), (6, .int .u8), (9, .string), (10, .string), (11, .string), (12, .int .u64), (15, .pointer 122), (16, .pointer 125), (17, .pointer 133), (21, .int .i32), (22, .slice 5), (23, .int .u64), (33, .array 32 5), (34, .array 32 5), (37, .int .i64), (45, .int .u32), (46, .array 8 45), (48, .array 128 5), (49, .array 4 23), (50, .array 4 23), (51, .array 3 50), (53, .array 3 23), (57, .array 64 45), (70, .slice 45), (71, .slice 45), (75, .slice 3), (76, .slice 3), (83, .slice 23), (86, .int .u64), (95, .array 8 23), (103, .array 32 3), (104, .array 32 3), (123, .array 0 16), (126, .int .u8), (127, .int .u8), (129, .pointer 5), (130, .int .i32), (131, .int .i32)]
theorem tyTab_all : ∀ p ∈ tyTab, Tryd.prog.underlying p.1 = some p.2 := by
  unfold tyTab
  intro p hp
  simp only [List.mem_cons, List.not_mem_nil, or_false] at hp
  rcases hp with rfl | rfl | rfl | rfl | rfl | rfl | rfl | rfl | rfl | rfl | rfl | rfl | rfl | rfl | rfl | rfl | rfl | rfl | rfl | rfl | rfl | rfl | rfl | rfl | rfl | rfl | rfl | rfl | rfl | rfl | rfl | rfl | rfl | rfl | rfl | rfl | rfl | rfl | rfl | rfl | rfl
  all_goals kernel_rfl
theorem und {t : Nat} {d : TypeDesc} (h : tabGet t tyTab = some d) : Tryd.prog.underlying t = some d := tyTab_all (t, d) (tabGet_mem h)
def szTab : List (Nat × Nat) := [(2, 1), (3, 1), (4, 1), (5, 1), (6, 1), (9, 1), (10, 1), (11, 1), (12, 1), (15, 1), (16, 1), (17, 1), (21, 1), (22, 1), (23, 1), (33, 32), (34, 32), (37, 1), (45, 1), (46, 8), (48, 128), (49, 4), (50, 4), (51, 12), (53, 3), (57, 64), (70, 1), (71, 1), (75, 1), (76, 1), (83, 1), (86, 1), (95, 8), (103, 32), (104, 32), (123, 0), (126, 1), (127, 1), (129, 1), (130, 1), (131, 1)]
theorem szTab_all : ∀ p ∈ szTab, szOf Tryd.prog p.1 = some p.2 := by
  unfold szTab
  intro p hp
  simp only [List.mem_cons, List.not_mem_nil, or_false] at hp
  rcases hp with rfl | rfl | rfl | rfl | rfl | rfl | rfl | rfl | rfl | rfl | rfl | rfl | rfl | rfl | rfl | rfl | rfl | rfl | rfl | rfl | rfl | rfl | rfl | rfl | rfl | rfl | rfl | rfl | rfl | rfl | rfl | rfl | rfl | rfl | rfl | rfl | rfl | rfl | rfl | rfl | rfl
  all_goals kernel_rfl
theorem siz {t : Nat} {d : Nat} (h : tabGet t szTab = some d) : szOf Tryd.prog t = some d := szTab_all (t, d) (tabGet_mem h)
def byTab : List (Nat × Nat) := [(2, 8), (3, 8), (4, 1), (5, 1), (6, 1), (9, 16), (10, 16), (11, 16), (12, 8), (15, 8), (16, 8), (17, 8), (21, 4), (22, 24), (23, 8), (33, 32), (34, 32), (37, 8), (45, 4), (46, 32), (48, 128), (49, 32), (50, 32), (51, 96), (53, 24), (57, 256), (70, 24), (71, 24), (75, 24), (76, 24), (83, 24), (86, 8), (95, 64), (103, 256), (104, 256), (123, 0), (126, 1), (127, 1), (129, 8), (130, 4), (131, 4)]
theorem byTab_all : ∀ p ∈ byTab, bytesOf Tryd.prog p.1 = some p.2 := by
  unfold byTab
  intro p hp
  simp only [List.mem_cons, List.not_mem_nil, or_false] at hp
  rcases hp with rfl | rfl | rfl | rfl | rfl | rfl | rfl | rfl | rfl | rfl | rfl | rfl | rfl | rfl | rfl | rfl | rfl | rfl | rfl | rfl | rfl | rfl | rfl | rfl | rfl | rfl | rfl | rfl | rfl | rfl | rfl | rfl | rfl | rfl | rfl | rfl | rfl | rfl | rfl | rfl | rfl
  all_goals kernel_rfl
theorem byt {t : Nat} {d : Nat} (h : tabGet t byTab = some d) : bytesOf Tryd.prog t = some d := byTab_all (t, d) (tabGet_mem h)
def zeTab : List (Nat × Value) := [(2, .int .i64 0), (3, .int .i64 0), (4, .bool false), (5, .int .u8 0), (6, .int .u8 0), (9, .string ⟨#[]⟩), (10, .string ⟨#[]⟩), (11, .string ⟨#[]⟩), (12, .int .u64 0), (21, .int .i32 0), (22, .slice none 0 0), (23, .int .u64 0), (33, .agg (ints .u8 (List.replicate 32 0))), (34, .agg (ints .u8 (List.replicate 32 0))), (37, .int .i64 0), (45, .int .u32 0), (46, .agg (ints .u32 (List.replicate 8 0))), (48, .agg (ints .u8 (List.replicate 128 0))), (49, .agg (ints .u64 (List.replicate 4 0))), (50, .agg (ints .u64 (List.replicate 4 0))), (51, .agg (ints .u64 (List.replicate 12 0))), (53, .agg (ints .u64 (List.replicate 3 0))), (57, .agg (ints .u32 (List.replicate 64 0))), (70, .slice none 0 0), (71, .slice none 0 0), (75, .slice none 0 0), (76, .slice none 0 0), (83, .slice none 0 0), (86, .int .u64 0), (95, .agg (ints .u64 (List.replicate 8 0))), (103, .agg (ints .i64 (List.replicate 32 0))), (104, .agg (ints .i64 (List.replicate 32 0))), (126, .int .u8 0), (127, .int .u8 0), (130, .int .i32 0), (131, .int .i32 0)]
theorem zeTab_all : ∀ p ∈ zeTab, zeroOf Tryd.prog p.1 = some p.2 := by
  unfold zeTab
  intro p hp
  simp only [List.mem_cons, List.not_mem_nil, or_false] at hp
  rcases hp with rfl | rfl | rfl | rfl | rfl | rfl | rfl | rfl | rfl | rfl | rfl | rfl | rfl | rfl | rfl | rfl | rfl | rfl | rfl | rfl | rfl | rfl | rfl | rfl | rfl | rfl | rfl | rfl | rfl | rfl | rfl | rfl | rfl | rfl | rfl | rfl
  all_goals kernel_rfl
theorem zer {t : Nat} {d : Value} (h : tabGet t zeTab = some d) : zeroOf Tryd.prog t = some d := zeTab_all (t, d) (tabGet_mem h)
def eqTys : List Nat := [33, 34, 46, 48, 49, 50, 53, 57, 95, 103, 104]
theorem eqTys_all : ∀ t ∈ eqTys, Tryd.prog.eqGuardType Tryd.prog.depth t = false := by
  unfold eqTys
  intro t ht
  simp only [List.mem_cons, List.not_mem_nil, or_false] at ht
  rcases ht with rfl | rfl | rfl | rfl | rfl | rfl | rfl | rfl | rfl | rfl | rfl
  all_goals kernel_rfl
theorem eqg {t : Nat} (h : eqTys.contains t = true) : Tryd.prog.eqGuardType Tryd.prog.depth t = false := eqTys_all t (by simpa using h)
def bodies : List Nat := [2, 3, 4, 5, 6, 7, 8, 9, 10, 11, 12, 13, 14, 15, 16, 17, 18, 19, 20, 21, 22, 23, 24, 25, 26, 27, 28, 29, 30, 31, 32, 33, 34, 35, 36, 37, 38, 39, 40, 41, 42, 43, 44, 45, 46, 47, 48, 49, 50, 51, 52, 53, 54, 55, 56, 57, 59, 60, 61, 62, 63, 64, 65, 66, 67, 68, 69, 70, 71, 72, 73, 74, 75, 76, 77, 78, 79, 80, 81, 82, 83, 106]
theorem bodies_all : bodies.all (hasBody Tryd.prog) = true := by kernel_rfl
theorem bod {f : Nat} (h : bodies.contains f = true) : hasBody Tryd.prog f = true := List.all_eq_true.1 bodies_all f (by simpa using h)
end Go.Proofs.YtjolmphkmfbpbaaDoor
/- The calls of package word: what each hands back, as numbers. -/
namespace Go.Proofs.YtjolmphkmfbpbaaDoor
open Go.RowKit
set_option maxRecDepth 10000
set_option maxHeartbeats 4000000
theorem run_ext {P : Program} {f : FuncId} {fn : Func} {e : Array Value → Sem Value} (hf : P.funcs[f]? = some fn) (hb : fn.body = none) (hnm : (fn.name == "runtime.NumGoroutine") = false) (hn : Extern.findNext fn = none) (he : Extern.find fn = some e)
    {args : Array Value} {w : World} {v : Value} (h : (e args).run P w = .ok v w) : (callFunc f args).run P w = .ok (.value v) w := by
  unfold callFunc
  simp only [Sem.run_bind, run_program, Result.andThen_ok, hf, hb, hn, he, hnm, Option.isNone_none, if_true, Bool.false_eq_true, if_false, run_mark, h, Sem.run_pure]
theorem three_eq (x y c : Nat) (nm : String) : Extern.MathBitsCarry.three nm #[.int .u64 x, .int .u64 y, .int .u64 c] = (do
      let c := (← asInt (.int .u64 c)).toNat
      if c > 1 then unsupported (.noEntry ("extern/math/bits." ++ nm ++ ": a carry that is neither 0 nor 1"))
      pure ((← asInt (.int .u64 x)).toNat, (← asInt (.int .u64 y)).toNat, c) : Sem (Nat × Nat × Nat)) := by kernel_rfl
theorem find_add64 : Extern.find Tryd.f58 = some (fun args => do
    let (x, y, c) ← Extern.MathBitsCarry.three "Add64" args
    pure (Extern.MathBitsCarry.pair ((x + y + c) % Extern.MathBitsCarry.m64) ((x + y + c) / Extern.MathBitsCarry.m64))) := by kernel_rfl
theorem findNext_add64 : Extern.findNext Tryd.f58 = none := by kernel_rfl
theorem name_add64 : (Tryd.f58.name == "runtime.NumGoroutine") = false := by kernel_rfl
theorem add64 (x y c : Nat) (hc : c ≤ 1) (w : World) : (callFunc 58 #[.int .u64 x, .int .u64 y, .int .u64 c]).run Tryd.prog w =
    .ok (.value (.tuple #[.int .u64 (((x + y + c) % 18446744073709551616 : Nat) : Int), .int .u64 (((x + y + c) / 18446744073709551616 : Nat) : Int)])) w := by
  refine run_ext Tryd.func58 rfl name_add64 findNext_add64 find_add64 ?_
  have : ¬ 1 < c := by omega
  rw [three_eq]
  simp only [Sem.run_bind, Sem.run_pure, Result.andThen_ok, asInt, asIntOf, Int.toNat_natCast]
  rw [if_neg this]
  simp only [Sem.run_pure, Result.andThen_ok, pure_bind, Int.toNat_natCast]
  rfl
theorem find_sub64 : Extern.find Tryd.f84 = some (fun args => do
    let (x, y, b) ← Extern.MathBitsCarry.three "Sub64" args
    pure (Extern.MathBitsCarry.pair ((x + Extern.MathBitsCarry.m64 - y - b) % Extern.MathBitsCarry.m64) (if x < y + b then 1 else 0))) := by kernel_rfl
theorem findNext_sub64 : Extern.findNext Tryd.f84 = none := by kernel_rfl
theorem name_sub64 : (Tryd.f84.name == "runtime.NumGoroutine") = false := by kernel_rfl
theorem sub64 (x y c : Nat) (hc : c ≤ 1) (w : World) : (callFunc 84 #[.int .u64 x, .int .u64 y, .int .u64 c]).run Tryd.prog w =
    .ok (.value (.tuple #[.int .u64 (((x + 18446744073709551616 - (y + c)) % 18446744073709551616 : Nat) : Int), .int .u64 (((if x < y + c then 1 else 0) : Nat) : Int)])) w := by
  refine run_ext Tryd.func84 rfl name_sub64 findNext_sub64 find_sub64 ?_
  have : ¬ 1 < c := by omega
  have e : x + 2 ^ 64 - y - c = x + 18446744073709551616 - (y + c) := by omega
  rw [three_eq]
  simp only [Sem.run_bind, Sem.run_pure, Result.andThen_ok, asInt, asIntOf, Int.toNat_natCast]
  rw [if_neg this]
  simp only [Sem.run_pure, Result.andThen_ok, pure_bind, Int.toNat_natCast, Extern.MathBitsCarry.m64]
  rw [e]
  rfl
theorem carry_step {b P r t : Nat} (hP : 0 < P) (hr : r < P) : (r + t * P) % (P * b) = r + t % b * P ∧ (r + t * P) / (P * b) = t / b := by
  constructor
  · rw [Nat.mod_mul, Nat.add_mul_mod_self_right, Nat.mod_eq_of_lt hr, Nat.add_mul_div_right _ _ hP, Nat.div_eq_of_lt hr, Nat.zero_add, Nat.mul_comm]
  · rw [← Nat.div_div_eq_div_mul, Nat.add_mul_div_right _ _ hP, Nat.div_eq_of_lt hr, Nat.zero_add]
theorem mod_pow_succ' (x b i : Nat) : x % b ^ (i + 1) = x % b ^ i + x / b ^ i % b * b ^ i := by
  rw [Nat.pow_succ, Nat.mod_mul, Nat.mul_comm (b ^ i)]
/-- One digit more of a sum. -/
theorem add_step (b i x y : Nat) (hb : 0 < b) : let s := x % b ^ i + y % b ^ i; let t := x / b ^ i % b + y / b ^ i % b + s / b ^ i
    (x % b ^ (i + 1) + y % b ^ (i + 1)) % b ^ (i + 1) = s % b ^ i + t % b * b ^ i ∧ (x % b ^ (i + 1) + y % b ^ (i + 1)) / b ^ (i + 1) = t / b := by
  intro s t
  have hP : 0 < b ^ i := Nat.pow_pos hb
  have e : x % b ^ (i + 1) + y % b ^ (i + 1) = s % b ^ i + t * b ^ i := by
    rw [mod_pow_succ', mod_pow_succ']
    have := Nat.div_add_mod s (b ^ i)
    simp only [t, Nat.add_mul]
    rw [Nat.mul_comm (b ^ i)] at this
    omega
  rw [e, Nat.pow_succ]
  exact carry_step hP (Nat.mod_lt _ hP)
theorem add_any (x y : Nat) (_hx : x < 2 ^ 256) (_hy : y < 2 ^ 256) (w : World) : Fn Tryd.prog 33 #[W x, W y] w fun v N => v = W ((x + y) % 2 ^ 256) ∧ N = [] := by
  refine Fn_of (args := [W x, W y]) Tryd.func33 rfl Tryd.ntmps33 Tryd.results33 (by simp) ?_
  refine T_sr ?_
  refine S_boxA rfl rfl rfl fun _ => ?_
  refine S_boxA rfl rfl rfl fun _ => ?_
  refine S_allocA (zer rfl) rfl rfl fun _ => ?_
  refine S_nx ?_
  refine T_sr ?_
  refine S_allocA (zer rfl) rfl rfl fun _ => ?_
  refine S_nx ?_
  refine T_sr ?_
  refine S_as rfl rfl rfl ?_
  refine S_nx ?_
  refine T_seq ?_
  refine T_sr ?_
  refine S_mv rfl rfl rfl ?_
  refine S_nx ?_
  refine T_block ?_
  rename_i b0 b1 b2 b3
  refine T_loop (α := Nat × Nat × Nat) (fun a => a.1 ≤ 4 ∧ a.2.1 = (x % 18446744073709551616 ^ a.1 + y % 18446744073709551616 ^ a.1) / 18446744073709551616 ^ a.1 ∧ a.2.2 = (x % 18446744073709551616 ^ a.1 + y % 18446744073709551616 ^ a.1) % 18446744073709551616 ^ a.1)
    (fun a => [(2, .pointer (some ⟨b0, 0, none⟩)), (3, .pointer (some ⟨b1, 0, none⟩)), (4, .pointer (some ⟨b2, 0, none⟩)), (5, .pointer (some ⟨b3, 0, none⟩)), (6, .int .u64 a.2.1), (10, .int .i64 a.1)])
    (fun a => [blk b0 (.cells (ints .u64 (dl 18446744073709551616 4 x)) 50 (0, 0)), blk b1 (.cells (ints .u64 (dl 18446744073709551616 4 y)) 50 (0, 0)),
      blk b2 (.cells (ints .u64 (List.replicate 4 0)) 50 (0, 0)), blk b3 (.cells (ints .u64 (dl 18446744073709551616 4 a.2.2)) 50 (0, 0))])
    (fun a => 4 - a.1) (0, 0, 0) (by simp [Nat.mod_one]) (by repeat (first | exact Env.sub_nil _ | (apply Env.sub_cons; rfl))) [] rfl ?_
  rintro ⟨i, c, s⟩ ⟨hi, hc, hs⟩
  dsimp only at hi hc hs ⊢
  obtain ⟨h1, h2⟩ := add_step 18446744073709551616 i x y (by omega)
  rw [← hc] at h1 h2
  rw [← hs] at h1
  have hP : 0 < 18446744073709551616 ^ i := Nat.pow_pos (by omega)
  have hs' : s < 18446744073709551616 ^ i := by rw [hs]; exact Nat.mod_lt _ hP
  have hc' : c ≤ 1 := by
    have := Nat.mod_lt x hP
    have := Nat.mod_lt y hP
    rw [hc]
    exact Nat.le_of_lt_succ (Nat.div_lt_of_lt_mul (by omega))
  refine T_sr ?_
  refine S_val rfl rfl (Y_lss rfl rfl) ?_
  refine S_nx ?_
  refine T_seq ?_
  refine T_if rfl (fun h => ?_) (fun h => ?_)
  · refine T_skip ?_
    refine X_seq ?_
    refine T_seq ?_
    refine T_block ?_
    refine T_sr ?_
    refine S_mv rfl rfl rfl ?_
    refine S_as rfl rfl rfl ?_
    refine S_nx ?_
    refine T_seq ?_
    refine T_draw (by kernel_rfl) (by kernel_rfl) rfl ?_
    refine D0_val rfl rfl rfl (Y_move rfl) ?_
    refine D0_val rfl rfl rfl (Y_ixa (und rfl) (siz rfl) rfl rfl (nat_cast _) (by omega)) ?_
    refine D0_valM rfl rfl rfl (Y_loadI 0 (und rfl) rfl rfl rfl (dl_get (by omega))) ?_
    refine D0_val rfl rfl rfl (Y_move rfl) ?_
    refine D0_val rfl rfl rfl (Y_ixa (und rfl) (siz rfl) rfl rfl (nat_cast _) (by omega)) ?_
    refine D0_valM rfl rfl rfl (Y_loadI 1 (und rfl) rfl rfl rfl (dl_get (by omega))) ?_
    refine D0_val rfl rfl rfl (Y_move rfl) ?_
    refine D0_valM rfl rfl rfl (Y_ext rfl rfl fun w => add64 _ _ _ hc' _) ?_
    refine D0_val rfl rfl rfl (Y_move rfl) ?_
    refine D0_val rfl rfl rfl (Y_extract rfl rfl) ?_
    refine D0_val rfl rfl rfl (Y_extract rfl rfl) ?_
    refine D0_val rfl rfl rfl (Y_assign rfl) ?_
    refine D0_val rfl rfl rfl (Y_assign rfl) ?_
    refine D0_nil ?_
    refine X_seq ?_
    refine T_sr ?_
    refine S_mv rfl rfl rfl ?_
    refine S_mv rfl rfl rfl ?_
    refine S_val rfl rfl (Y_ixa (und rfl) (siz rfl) rfl rfl (nat_cast _) (by omega)) ?_
    refine S_storeI 3 (siz rfl) rfl rfl rfl (by simp; omega) rfl rfl ?_
    refine S_nx ?_
    refine T_region ?_
    refine S_mv rfl rfl rfl ?_
    refine S_as rfl rfl rfl ?_
    refine S_nil ?_
    refine X_blk ?_
    refine X_seq ?_
    refine T_region ?_
    refine S_val rfl rfl (Y_addN rfl rfl (nat_cast _) (nat_lit' _) (by omega)) ?_
    refine S_mv rfl rfl rfl ?_
    refine S_nil ?_
    refine X_loop ?_
    refine ⟨(i + 1, _, _), ⟨by dsimp only; omega, h2.symm, h1.symm⟩, by dsimp only; omega, (by repeat (first | exact Env.sub_nil _ | (apply Env.sub_cons; rfl))), [], ?_⟩
    rw [dl_set (by omega) hs' (Nat.mod_lt _ (by omega))]
    rfl
  · refine T_exit ?_
    refine X_seq_exit ?_
    refine X_loop_exit ?_
    refine X_blk_hit rfl ?_
    refine X_seq ?_
    refine T_sr ?_
    refine S_val rfl rfl (Y_loadAI 3 (und rfl) rfl rfl rfl (siz rfl) (dl_length _ _ _)) ?_
    refine S_storeAI 2 (siz rfl) rfl rfl rfl rfl (dl_length _ _ _) rfl ?_
    refine S_nx ?_
    refine T_ret ?_
    obtain rfl : i = 4 := by omega
    refine X_fin_ret ?_
    exact ⟨[_], [], .cons (.agg 2 rfl (und rfl) rfl rfl (siz rfl)) .nil, Emb.nil _, W_congr (by rw [hs, ← Nat.add_mod]), rfl⟩
theorem sub_any (x y : Nat) (hx : x < 2 ^ 256) (hy : y < 2 ^ 256) (w : World) : Fn Tryd.prog 76 #[W x, W y] w fun v N => v = W ((x + 2 ^ 256 - y) % 2 ^ 256) ∧ N = [] := by
  refine Fn_of (args := [W x, W y]) Tryd.func76 rfl Tryd.ntmps76 Tryd.results76 (by simp) ?_
  refine T_sr ?_
  refine S_boxA rfl rfl rfl fun _ => ?_
  refine S_boxA rfl rfl rfl fun _ => ?_
  refine S_allocA (zer rfl) rfl rfl fun _ => ?_
  refine S_nx ?_
  refine T_sr ?_
  refine S_allocA (zer rfl) rfl rfl fun _ => ?_
  refine S_nx ?_
  refine T_sr ?_
  refine S_as rfl rfl rfl ?_
  refine S_nx ?_
  refine T_seq ?_
  refine T_sr ?_
  refine S_mv rfl rfl rfl ?_
  refine S_nx ?_
  refine T_block ?_
  rename_i b0 b1 b2 b3
  refine T_loop (α := Nat × Nat × Nat) (fun a => a.1 ≤ 4 ∧ a.2.1 ≤ 1 ∧ a.2.2 < 18446744073709551616 ^ a.1 ∧ x % 18446744073709551616 ^ a.1 + a.2.1 * 18446744073709551616 ^ a.1 = y % 18446744073709551616 ^ a.1 + a.2.2)
    (fun a => [(2, .pointer (some ⟨b0, 0, none⟩)), (3, .pointer (some ⟨b1, 0, none⟩)), (4, .pointer (some ⟨b2, 0, none⟩)), (5, .pointer (some ⟨b3, 0, none⟩)), (6, .int .u64 a.2.1), (10, .int .i64 a.1)])
    (fun a => [blk b0 (.cells (ints .u64 (dl 18446744073709551616 4 (x))) 50 (0, 0)), blk b1 (.cells (ints .u64 (dl 18446744073709551616 4 (y))) 50 (0, 0)), blk b2 (.cells (ints .u64 (List.replicate 4 0)) 50 (0, 0)), blk b3 (.cells (ints .u64 (dl 18446744073709551616 4 (a.2.2))) 50 (0, 0))])
    (fun a => 4 - a.1) (0, 0, 0) (by simp [Nat.mod_one]) (by repeat (first | exact Env.sub_nil _ | (apply Env.sub_cons; rfl))) [] rfl ?_
  rintro ⟨i, c, s⟩ ⟨hi, hc, hs, he⟩
  dsimp only at hi hc hs he ⊢
  have hP : 0 < 18446744073709551616 ^ i := Nat.pow_pos (by omega)
  by_cases h : i < 4
  · refine T_sr ?_
    refine S_val rfl rfl (Y_lss_t rfl rfl (by omega)) ?_
    refine S_nx ?_
    refine T_seq ?_
    refine T_cond_true rfl ?_
    refine T_skip ?_
    refine X_seq ?_
    refine T_seq ?_
    refine T_block ?_
    refine T_sr ?_
    refine S_mv rfl rfl rfl ?_
    refine S_as rfl rfl rfl ?_
    refine S_nx ?_
    refine T_seq ?_
    refine T_draw (by kernel_rfl) (by kernel_rfl) rfl ?_
    refine D0_val rfl rfl rfl (Y_move rfl) ?_
    refine D0_val rfl rfl rfl (Y_ixa (und rfl) (siz rfl) rfl rfl (nat_cast _) (by assumption)) ?_
    refine D0_valM rfl rfl rfl (Y_loadI 0 (und rfl) rfl rfl rfl (dl_get (by assumption))) ?_
    refine D0_val rfl rfl rfl (Y_move rfl) ?_
    refine D0_val rfl rfl rfl (Y_ixa (und rfl) (siz rfl) rfl rfl (nat_cast _) (by assumption)) ?_
    refine D0_valM rfl rfl rfl (Y_loadI 1 (und rfl) rfl rfl rfl (dl_get (by assumption))) ?_
    refine D0_val rfl rfl rfl (Y_move rfl) ?_
    refine D0_valM rfl rfl rfl (Y_ext rfl rfl fun w => sub64 _ _ _ hc _) ?_
    refine D0_val rfl rfl rfl (Y_move rfl) ?_
    refine D0_val rfl rfl rfl (Y_extract rfl rfl) ?_
    refine D0_val rfl rfl rfl (Y_extract rfl rfl) ?_
    refine D0_val rfl rfl rfl (Y_assign rfl) ?_
    refine D0_val rfl rfl rfl (Y_assign rfl) ?_
    refine D0_nil ?_
    refine X_seq ?_
    refine T_sr ?_
    refine S_mv rfl rfl rfl ?_
    refine S_mv rfl rfl rfl ?_
    refine S_val rfl rfl (Y_ixa (und rfl) (siz rfl) rfl rfl (nat_cast _) (by assumption)) ?_
    refine S_storeI 3 (siz rfl) rfl rfl rfl (by simp; omega) rfl rfl ?_
    refine S_nx ?_
    refine T_region ?_
    refine S_mv rfl rfl rfl ?_
    refine S_as rfl rfl rfl ?_
    refine S_nil ?_
    refine X_blk ?_
    refine X_seq ?_
    refine T_region ?_
    refine S_val rfl rfl (Y_addN rfl rfl (nat_cast _) (nat_lit' _) (by omega)) ?_
    refine S_mv rfl rfl rfl ?_
    refine S_nil ?_
    have hd := Nat.mod_lt (x / 18446744073709551616 ^ i) (show 0 < 18446744073709551616 by omega)
    have hd' := Nat.mod_lt (y / 18446744073709551616 ^ i) (show 0 < 18446744073709551616 by omega)
    have e1 := mod_pow_succ' x 18446744073709551616 i
    have e2 := mod_pow_succ' y 18446744073709551616 i
    have e3 : (18446744073709551616 : Nat) ^ (i + 1) = 18446744073709551616 * 18446744073709551616 ^ i := by rw [Nat.pow_succ, Nat.mul_comm]
    generalize hxi : x / 18446744073709551616 ^ i % 18446744073709551616 = xi at *
    generalize hyi : y / 18446744073709551616 ^ i % 18446744073709551616 = yi at *
    have hdl : (xi + 18446744073709551616 - (yi + c)) % 18446744073709551616 < 18446744073709551616 := Nat.mod_lt _ (by omega)
    have key : xi + (if xi < yi + c then 1 else 0) * 18446744073709551616 = yi + c + (xi + 18446744073709551616 - (yi + c)) % 18446744073709551616 := by
      split <;> omega
    refine X_loop ?_
    refine ⟨(i + 1, (if xi < yi + c then 1 else 0), s + (xi + 18446744073709551616 - (yi + c)) % 18446744073709551616 * 18446744073709551616 ^ i), ⟨by dsimp only; omega, by dsimp only; split <;> omega, ?_, ?_⟩, by dsimp only; omega, (by repeat (first | exact Env.sub_nil _ | (apply Env.sub_cons; rfl))), [], ?_⟩
    · dsimp only
      rw [e3]
      have := Nat.mul_le_mul_right (18446744073709551616 ^ i) (show (xi + 18446744073709551616 - (yi + c)) % 18446744073709551616 + 1 ≤ 18446744073709551616 from hdl)
      rw [Nat.succ_mul] at this
      omega
    · dsimp only
      rw [e1, e2, e3, ← Nat.mul_assoc]
      have := congrArg (· * 18446744073709551616 ^ i) key
      simp only [Nat.add_mul] at this
      omega
    · rw [dl_set (by omega) hs (Nat.mod_lt _ (by omega))]
      rfl
  · refine T_sr ?_
    refine S_val rfl rfl (Y_lss_f rfl rfl (by omega)) ?_
    refine S_nx ?_
    refine T_seq ?_
    refine T_cond_false rfl ?_
    refine T_exit ?_
    refine X_seq_exit ?_
    refine X_loop_exit ?_
    refine X_blk_hit rfl ?_
    refine X_seq ?_
    refine T_sr ?_
    refine S_val rfl rfl (Y_loadAI 3 (und rfl) rfl rfl rfl (siz rfl) (dl_length _ _ _)) ?_
    refine S_storeAI 2 (siz rfl) rfl rfl rfl rfl (dl_length _ _ _) rfl ?_
    refine S_nx ?_
    refine T_ret ?_
    obtain rfl : i = 4 := by omega
    ((first | refine X_fin_ret ?_ | refine X_fin ?_); exact ⟨[_], [], .cons (.agg 2 rfl (und rfl) rfl rfl (siz rfl)) .nil, Emb.nil _, W_congr (by rw [show 18446744073709551616 ^ 4 = 2 ^ 256 by decide, Nat.mod_eq_of_lt hx, Nat.mod_eq_of_lt hy] at *; omega), rfl⟩)
theorem digit_bits (x i j : Nat) : (x / 18446744073709551616 ^ i % 18446744073709551616).testBit j = (decide (j < 64) && x.testBit (64 * i + j)) := by
  rw [show (18446744073709551616 : Nat) = 2 ^ 64 by decide, ← Nat.pow_mul, Nat.testBit_mod_two_pow, Nat.testBit_div_two_pow, Nat.add_comm]
theorem dl4 (x : Nat) : dl 18446744073709551616 4 x = [((x / 18446744073709551616 ^ 0 % 18446744073709551616 : Nat) : Int), ((x / 18446744073709551616 ^ 1 % 18446744073709551616 : Nat) : Int), ((x / 18446744073709551616 ^ 2 % 18446744073709551616 : Nat) : Int), ((x / 18446744073709551616 ^ 3 % 18446744073709551616 : Nat) : Int)] := rfl
theorem digit_lt (x i : Nat) : x / 18446744073709551616 ^ i % 18446744073709551616 < 18446744073709551616 := Nat.mod_lt _ (by omega)
theorem of_any (n : Nat) (hn : n < 18446744073709551616) (w : World) : Fn Tryd.prog 30 #[.int .u64 n] w fun v N => v = W n ∧ N = [] := by
  refine Fn_of (args := [.int .u64 n]) Tryd.func30 rfl Tryd.ntmps30 Tryd.results30 (by simp) ?_
  refine T_sr ?_
  refine S_allocA (zer rfl) rfl rfl fun _ => ?_
  refine S_nx ?_
  refine T_sr ?_
  refine S_mv rfl rfl rfl ?_
  refine S_val rfl rfl (Y_build (und rfl) (siz rfl) (zer rfl) rfl rfl) ?_
  refine S_storeAI 0 (siz rfl) rfl rfl rfl rfl rfl rfl ?_
  refine S_nx ?_
  refine T_ret ?_
  ((first | refine X_fin_ret ?_ | refine X_fin ?_); exact ⟨[_], [], .cons (.agg 0 rfl (und rfl) rfl rfl (siz rfl)) .nil, Emb.nil _, by
        have h1 : n / 18446744073709551616 ^ 1 = 0 := Nat.div_eq_of_lt (by omega)
        have h2 : n / 18446744073709551616 ^ 2 = 0 := Nat.div_eq_of_lt (by omega)
        have h3 : n / 18446744073709551616 ^ 3 = 0 := Nat.div_eq_of_lt (by omega)
        unfold W; rw [dl4, h1, h2, h3, Nat.pow_zero, Nat.div_one, Nat.mod_eq_of_lt hn]; rfl, rfl⟩)
end Go.Proofs.YtjolmphkmfbpbaaDoor
/- The calls of package word: the second half. -/
namespace Go.Proofs.YtjolmphkmfbpbaaDoor
open Go.RowKit
set_option maxRecDepth 10000
set_option maxHeartbeats 4000000
theorem small_any (x : Nat) (hx : x < 2 ^ 256) (w : World) : Fn Tryd.prog 22 #[W x] w fun v N => v = .tuple #[.int .u64 ((if x < 18446744073709551616 then x else 0 : Nat) : Int), .bool (decide (x < 18446744073709551616))] ∧ N = [] := by
  have hor : (x / 18446744073709551616 ^ 1 % 18446744073709551616 ||| x / 18446744073709551616 ^ 2 % 18446744073709551616) < 18446744073709551616 := Nat.or_lt_two_pow (n := 64) (digit_lt x 1) (digit_lt x 2)
  by_cases h : x < 18446744073709551616
  · have h1 : x / 18446744073709551616 ^ 1 = 0 := Nat.div_eq_of_lt (by omega)
    have h2 : x / 18446744073709551616 ^ 2 = 0 := Nat.div_eq_of_lt (by omega)
    have h3 : x / 18446744073709551616 ^ 3 = 0 := Nat.div_eq_of_lt (by omega)
    have hz : (x / 18446744073709551616 ^ 1 % 18446744073709551616 ||| x / 18446744073709551616 ^ 2 % 18446744073709551616 ||| x / 18446744073709551616 ^ 3 % 18446744073709551616) = 0 := by
      rw [h1, h2, h3]; rfl
    have hzi : ¬ (((x / 18446744073709551616 ^ 1 % 18446744073709551616 ||| x / 18446744073709551616 ^ 2 % 18446744073709551616 ||| x / 18446744073709551616 ^ 3 % 18446744073709551616 : Nat) : Int) ≠ 0) := by
      rw [hz]; simp
    refine Fn_of (args := [W x]) Tryd.func22 rfl Tryd.ntmps22 Tryd.results22 (by simp) ?_
    refine T_sr ?_
    refine S_boxA rfl rfl rfl fun _ => ?_
    refine S_as rfl rfl rfl ?_
    refine S_as rfl rfl rfl ?_
    refine S_nx ?_
    refine T_seq ?_
    refine T_sr ?_
    refine S_val rfl rfl (Y_ixa (und rfl) (siz rfl) rfl rfl (nat_lit' _) (Nat.le_of_ble_eq_true rfl)) ?_
    refine S_val rfl rfl (Y_loadI 0 (und rfl) rfl rfl rfl (dl_get (Nat.le_of_ble_eq_true rfl))) ?_
    refine S_val rfl rfl (Y_ixa (und rfl) (siz rfl) rfl rfl (nat_lit' _) (Nat.le_of_ble_eq_true rfl)) ?_
    refine S_val rfl rfl (Y_loadI 0 (und rfl) rfl rfl rfl (dl_get (Nat.le_of_ble_eq_true rfl))) ?_
    refine S_val rfl rfl (Y_or rfl rfl (nat_cast _) (nat_cast _) rfl (by simp only [IntKind.bits]; omega) (by simp only [IntKind.bits]; omega)) ?_
    refine S_val rfl rfl (Y_ixa (und rfl) (siz rfl) rfl rfl (nat_lit' _) (Nat.le_of_ble_eq_true rfl)) ?_
    refine S_val rfl rfl (Y_loadI 0 (und rfl) rfl rfl rfl (dl_get (Nat.le_of_ble_eq_true rfl))) ?_
    refine S_val rfl rfl (Y_or rfl rfl (nat_cast _) (nat_cast _) rfl (by simp only [IntKind.bits]; assumption) (by simp only [IntKind.bits]; omega)) ?_
    refine S_val rfl rfl (Y_neq_f rfl rfl (by assumption)) ?_
    refine S_nx ?_
    refine T_cond_false rfl ?_
    refine T_skip ?_
    refine X_seq ?_
    refine T_sr ?_
    refine S_val rfl rfl (Y_ixa (und rfl) (siz rfl) rfl rfl (nat_lit' _) (Nat.le_of_ble_eq_true rfl)) ?_
    refine S_val rfl rfl (Y_loadI 0 (und rfl) rfl rfl rfl (dl_get (Nat.le_of_ble_eq_true rfl))) ?_
    refine S_as rfl rfl rfl ?_
    refine S_as rfl rfl rfl ?_
    refine S_nx ?_
    refine T_ret ?_
    ((first | refine X_fin_ret ?_ | refine X_fin ?_); exact ⟨[_, _], [], .cons (.tmp rfl) (.cons (.tmp rfl) .nil), Emb.nil _, by simp [retOf, h, Nat.mod_eq_of_lt h], rfl⟩)
  · have hz : (x / 18446744073709551616 ^ 1 % 18446744073709551616 ||| x / 18446744073709551616 ^ 2 % 18446744073709551616 ||| x / 18446744073709551616 ^ 3 % 18446744073709551616) ≠ 0 := by
      intro h0
      have g := congrArg Nat.testBit h0
      have e : ∀ i, i = 1 ∨ i = 2 ∨ i = 3 → x / 18446744073709551616 ^ i % 18446744073709551616 = 0 := fun i hi => by
        apply Nat.eq_of_testBit_eq
        intro j
        have := congrFun g j
        simp only [Nat.testBit_or, Nat.zero_testBit, Bool.or_eq_false_iff] at this ⊢
        rcases hi with rfl | rfl | rfl
        · exact this.1.1
        · exact this.1.2
        · exact this.2
      have e1 := e 1 (by omega)
      have e2 := e 2 (by omega)
      have e3 := e 3 (by omega)
      omega
    have hzi : ((x / 18446744073709551616 ^ 1 % 18446744073709551616 ||| x / 18446744073709551616 ^ 2 % 18446744073709551616 ||| x / 18446744073709551616 ^ 3 % 18446744073709551616 : Nat) : Int) ≠ 0 := fun e => hz (by exact_mod_cast e)
    refine Fn_of (args := [W x]) Tryd.func22 rfl Tryd.ntmps22 Tryd.results22 (by simp) ?_
    refine T_sr ?_
    refine S_boxA rfl rfl rfl fun _ => ?_
    refine S_as rfl rfl rfl ?_
    refine S_as rfl rfl rfl ?_
    refine S_nx ?_
    refine T_seq ?_
    refine T_sr ?_
    refine S_val rfl rfl (Y_ixa (und rfl) (siz rfl) rfl rfl (nat_lit' _) (Nat.le_of_ble_eq_true rfl)) ?_
    refine S_val rfl rfl (Y_loadI 0 (und rfl) rfl rfl rfl (dl_get (Nat.le_of_ble_eq_true rfl))) ?_
    refine S_val rfl rfl (Y_ixa (und rfl) (siz rfl) rfl rfl (nat_lit' _) (Nat.le_of_ble_eq_true rfl)) ?_
    refine S_val rfl rfl (Y_loadI 0 (und rfl) rfl rfl rfl (dl_get (Nat.le_of_ble_eq_true rfl))) ?_
    refine S_val rfl rfl (Y_or rfl rfl (nat_cast _) (nat_cast _) rfl (by simp only [IntKind.bits]; omega) (by simp only [IntKind.bits]; omega)) ?_
    refine S_val rfl rfl (Y_ixa (und rfl) (siz rfl) rfl rfl (nat_lit' _) (Nat.le_of_ble_eq_true rfl)) ?_
    refine S_val rfl rfl (Y_loadI 0 (und rfl) rfl rfl rfl (dl_get (Nat.le_of_ble_eq_true rfl))) ?_
    refine S_val rfl rfl (Y_or rfl rfl (nat_cast _) (nat_cast _) rfl (by simp only [IntKind.bits]; assumption) (by simp only [IntKind.bits]; omega)) ?_
    refine S_val rfl rfl (Y_neq_t rfl rfl (by assumption)) ?_
    refine S_nx ?_
    refine T_cond_true rfl ?_
    refine T_sr ?_
    refine S_as rfl rfl rfl ?_
    refine S_as rfl rfl rfl ?_
    refine S_nx ?_
    refine T_ret ?_
    refine X_seq_ret ?_
    ((first | refine X_fin_ret ?_ | refine X_fin ?_); exact ⟨[_, _], [], .cons (.tmp rfl) (.cons (.tmp rfl) .nil), Emb.nil _, by simp [retOf, h], rfl⟩)
/-- A part of a word; 0 beyond. -/
def partN (x : Nat) (i : Int) : Nat := if 0 ≤ i ∧ i ≤ 3 then x / 18446744073709551616 ^ i.toNat % 18446744073709551616 else 0
theorem part_any (x : Nat) (i : Int) (w : World) : Fn Tryd.prog 83 #[W x, .int .i64 i] w fun v N => v = .int .u64 (partN x i) ∧ N = [] := by
  by_cases h1 : i < 0
  · refine Fn_of (args := [W x, .int .i64 i]) Tryd.func83 rfl Tryd.ntmps83 Tryd.results83 (by simp) ?_
    refine T_sr ?_
    refine S_boxA rfl rfl rfl fun _ => ?_
    refine S_as rfl rfl rfl ?_
    refine S_nx ?_
    refine T_seq ?_
    refine T_sr ?_
    refine S_mv rfl rfl rfl ?_
    refine S_val rfl rfl (Y_lss_t rfl rfl (by assumption)) ?_
    refine S_mv rfl rfl rfl ?_
    refine S_skip rfl rfl ?_
    refine S_skip rfl rfl ?_
    refine S_val rfl rfl (Y_pick_t rfl rfl) ?_
    refine S_nx ?_
    refine T_cond_true rfl ?_
    refine T_sr ?_
    refine S_as rfl rfl rfl ?_
    refine S_nx ?_
    refine T_ret ?_
    refine X_seq_ret ?_
    ((first | refine X_fin_ret ?_ | refine X_fin ?_); exact ⟨[_], [], .cons (.tmp rfl) .nil, Emb.nil _, by unfold partN; rw [if_neg (by omega)]; rfl, rfl⟩)
  · by_cases h2 : 3 < i
    · refine Fn_of (args := [W x, .int .i64 i]) Tryd.func83 rfl Tryd.ntmps83 Tryd.results83 (by simp) ?_
      refine T_sr ?_
      refine S_boxA rfl rfl rfl fun _ => ?_
      refine S_as rfl rfl rfl ?_
      refine S_nx ?_
      refine T_seq ?_
      refine T_sr ?_
      refine S_mv rfl rfl rfl ?_
      refine S_val rfl rfl (Y_lss_f rfl rfl (by assumption)) ?_
      refine S_mv rfl rfl rfl ?_
      refine S_mv rfl rfl rfl ?_
      refine S_val rfl rfl (Y_gtr_t rfl rfl (by assumption)) ?_
      refine S_val rfl rfl (Y_pick_f rfl rfl) ?_
      refine S_nx ?_
      refine T_cond_true rfl ?_
      refine T_sr ?_
      refine S_as rfl rfl rfl ?_
      refine S_nx ?_
      refine T_ret ?_
      refine X_seq_ret ?_
      ((first | refine X_fin_ret ?_ | refine X_fin ?_); exact ⟨[_], [], .cons (.tmp rfl) .nil, Emb.nil _, by unfold partN; rw [if_neg (by omega)]; rfl, rfl⟩)
    · obtain ⟨j, rfl⟩ : ∃ j : Nat, i = j := ⟨i.toNat, by omega⟩
      refine Fn_of (args := [W x, .int .i64 j]) Tryd.func83 rfl Tryd.ntmps83 Tryd.results83 (by simp) ?_
      refine T_sr ?_
      refine S_boxA rfl rfl rfl fun _ => ?_
      refine S_as rfl rfl rfl ?_
      refine S_nx ?_
      refine T_seq ?_
      refine T_sr ?_
      refine S_mv rfl rfl rfl ?_
      refine S_val rfl rfl (Y_lss_f rfl rfl (by assumption)) ?_
      refine S_mv rfl rfl rfl ?_
      refine S_mv rfl rfl rfl ?_
      refine S_val rfl rfl (Y_gtr_f rfl rfl (by assumption)) ?_
      refine S_val rfl rfl (Y_pick_f rfl rfl) ?_
      refine S_nx ?_
      refine T_cond_false rfl ?_
      refine T_skip ?_
      refine X_seq ?_
      refine T_sr ?_
      refine S_mv rfl rfl rfl ?_
      refine S_val rfl rfl (Y_ixa (und rfl) (siz rfl) rfl rfl (nat_cast _) (by omega)) ?_
      refine S_val rfl rfl (Y_loadI 0 (und rfl) rfl rfl rfl (dl_get (by omega))) ?_
      refine S_as rfl rfl rfl ?_
      refine S_nx ?_
      refine T_ret ?_
      ((first | refine X_fin_ret ?_ | refine X_fin ?_); exact ⟨[_], [], .cons (.tmp rfl) .nil, Emb.nil _, by unfold partN; rw [if_pos (by omega)]; rfl, rfl⟩)
theorem bit_any (x n : Nat) (hx : x < 2 ^ 256) (hn : n < 18446744073709551616) (w : World) : Fn Tryd.prog 62 #[W x, .int .u64 n] w fun v N => v = .bool (x.testBit n) ∧ N = [] := by
  by_cases h : n < 256
  · have hb : (x / 18446744073709551616 ^ (n / 64) % 18446744073709551616 / 2 ^ (n % 64)) &&& 1 = if x.testBit n then 1 else 0 := by
      rw [Nat.and_one_is_mod]
      have := digit_bits x (n / 64) (n % 64)
      rw [show 64 * (n / 64) + n % 64 = n by omega] at this
      simp only [show n % 64 < 64 by omega, decide_true, Bool.true_and] at this
      rw [← this, Nat.testBit_eq_decide_div_mod_eq]
      simp only [decide_eq_true_eq]
      split <;> omega
    have hd := digit_lt x (n / 64)
    have hd2 : x / 18446744073709551616 ^ (n / 64) % 18446744073709551616 / 2 ^ (n % 64) ≤ x / 18446744073709551616 ^ (n / 64) % 18446744073709551616 := Nat.div_le_self _ _
    refine Fn_of (args := [W x, .int .u64 n]) Tryd.func62 rfl Tryd.ntmps62 Tryd.results62 (by simp) ?_
    cases hx : x.testBit n with
    | true =>
      rw [hx, if_pos rfl] at hb
      refine T_sr ?_
      refine S_boxA rfl rfl rfl fun _ => ?_
      refine S_as rfl rfl rfl ?_
      refine S_nx ?_
      refine T_sr ?_
      refine S_mv rfl rfl rfl ?_
      refine S_val rfl rfl (Y_lss_t rfl rfl (by omega)) ?_
      refine S_mv rfl rfl rfl ?_
      refine S_mv rfl rfl rfl ?_
      refine S_val rfl rfl (Y_quoN rfl rfl (nat_cast _) (nat_lit' _) (Nat.succ_ne_zero _) (by first | with_reducible exact xi64 (by omega) | with_reducible exact x64 (by omega) | with_reducible exact x8 (by omega) | with_reducible exact x32 (by omega))) ?_
      refine S_val rfl rfl (Y_ixa (und rfl) (siz rfl) rfl rfl (nat_cast _) (by omega)) ?_
      refine S_val rfl rfl (Y_loadI 0 (und rfl) rfl rfl rfl (dl_get (by omega))) ?_
      refine S_mv rfl rfl rfl ?_
      refine S_val rfl rfl (Y_remN rfl rfl (nat_cast _) (nat_lit' _) (Nat.succ_ne_zero _)) ?_
      refine S_val rfl rfl (Y_shrN rfl rfl (nat_cast _) (nat_cast _) (by simp only [IntKind.bits]; assumption)) ?_
      refine S_val rfl rfl (Y_and rfl rfl (nat_cast _) (nat_lit' _) rfl (by simp only [IntKind.bits]; omega) (by simp only [IntKind.bits]; omega)) ?_
      refine S_val rfl rfl (Y_eql_t rfl rfl (by omega)) ?_
      refine S_val rfl rfl (Y_pick_t rfl rfl) ?_
      refine S_as rfl rfl rfl ?_
      refine S_nx ?_
      refine T_ret ?_
      ((first | refine X_fin_ret ?_ | refine X_fin ?_); exact ⟨[_], [], .cons (.tmp rfl) .nil, Emb.nil _, rfl, rfl⟩)
    | false =>
      rw [hx, if_neg (by simp)] at hb
      refine T_sr ?_
      refine S_boxA rfl rfl rfl fun _ => ?_
      refine S_as rfl rfl rfl ?_
      refine S_nx ?_
      refine T_sr ?_
      refine S_mv rfl rfl rfl ?_
      refine S_val rfl rfl (Y_lss_t rfl rfl (by omega)) ?_
      refine S_mv rfl rfl rfl ?_
      refine S_mv rfl rfl rfl ?_
      refine S_val rfl rfl (Y_quoN rfl rfl (nat_cast _) (nat_lit' _) (Nat.succ_ne_zero _) (by first | with_reducible exact xi64 (by omega) | with_reducible exact x64 (by omega) | with_reducible exact x8 (by omega) | with_reducible exact x32 (by omega))) ?_
      refine S_val rfl rfl (Y_ixa (und rfl) (siz rfl) rfl rfl (nat_cast _) (by omega)) ?_
      refine S_val rfl rfl (Y_loadI 0 (und rfl) rfl rfl rfl (dl_get (by omega))) ?_
      refine S_mv rfl rfl rfl ?_
      refine S_val rfl rfl (Y_remN rfl rfl (nat_cast _) (nat_lit' _) (Nat.succ_ne_zero _)) ?_
      refine S_val rfl rfl (Y_shrN rfl rfl (nat_cast _) (nat_cast _) (by simp only [IntKind.bits]; assumption)) ?_
      refine S_val rfl rfl (Y_and rfl rfl (nat_cast _) (nat_lit' _) rfl (by simp only [IntKind.bits]; omega) (by simp only [IntKind.bits]; omega)) ?_
      refine S_val rfl rfl (Y_eql_f rfl rfl (by omega)) ?_
      refine S_val rfl rfl (Y_pick_t rfl rfl) ?_
      refine S_as rfl rfl rfl ?_
      refine S_nx ?_
      refine T_ret ?_
      ((first | refine X_fin_ret ?_ | refine X_fin ?_); exact ⟨[_], [], .cons (.tmp rfl) .nil, Emb.nil _, rfl, rfl⟩)
  · have hb : x.testBit n = false := Nat.testBit_lt_two_pow (Nat.lt_of_lt_of_le hx (Nat.pow_le_pow_right (by omega) (by omega)))
    refine Fn_of (args := [W x, .int .u64 n]) Tryd.func62 rfl Tryd.ntmps62 Tryd.results62 (by simp) ?_
    refine T_sr ?_
    refine S_boxA rfl rfl rfl fun _ => ?_
    refine S_as rfl rfl rfl ?_
    refine S_nx ?_
    refine T_sr ?_
    refine S_mv rfl rfl rfl ?_
    refine S_val rfl rfl (Y_lss_f rfl rfl (by omega)) ?_
    refine S_mv rfl rfl rfl ?_
    refine S_skip rfl rfl ?_
    refine S_skip rfl rfl ?_
    refine S_skip rfl rfl ?_
    refine S_skip rfl rfl ?_
    refine S_skip rfl rfl ?_
    refine S_skip rfl rfl ?_
    refine S_skip rfl rfl ?_
    refine S_skip rfl rfl ?_
    refine S_skip rfl rfl ?_
    refine S_val rfl rfl (Y_pick_f rfl rfl) ?_
    refine S_as rfl rfl rfl ?_
    refine S_nx ?_
    refine T_ret ?_
    ((first | refine X_fin_ret ?_ | refine X_fin ?_); exact ⟨[_], [], .cons (.tmp rfl) .nil, Emb.nil _, by rw [hb]; rfl, rfl⟩)
theorem mul64_nat (x y : Nat) (hx : x < 18446744073709551616) (hy : y < 18446744073709551616) :
    ((x / 2 ^ 32 * (y / 2 ^ 32) % 18446744073709551616 + (x / 2 ^ 32 * (y % 4294967296) % 18446744073709551616 + x % 4294967296 * (y % 4294967296) % 18446744073709551616 / 2 ^ 32) % 18446744073709551616 / 2 ^ 32) % 18446744073709551616 +
      ((x / 2 ^ 32 * (y % 4294967296) % 18446744073709551616 + x % 4294967296 * (y % 4294967296) % 18446744073709551616 / 2 ^ 32) % 18446744073709551616 % 4294967296 + x % 4294967296 * (y / 2 ^ 32) % 18446744073709551616) % 18446744073709551616 / 2 ^ 32) % 18446744073709551616 = x * y / 18446744073709551616 := by
  have ex : x = x / 2 ^ 32 * 4294967296 + x % 4294967296 := by omega
  have ey : y = y / 2 ^ 32 * 4294967296 + y % 4294967296 := by omega
  have b1 : x / 2 ^ 32 ≤ 4294967295 := by omega
  have b2 : x % 4294967296 ≤ 4294967295 := by omega
  have b3 : y / 2 ^ 32 ≤ 4294967295 := by omega
  have b4 : y % 4294967296 ≤ 4294967295 := by omega
  generalize x / 2 ^ 32 = x1 at *
  generalize x % 4294967296 = x0 at *
  generalize y / 2 ^ 32 = y1 at *
  generalize y % 4294967296 = y0 at *
  have pA := Nat.mul_le_mul b1 b3
  have pB := Nat.mul_le_mul b1 b4
  have pC := Nat.mul_le_mul b2 b4
  have pD := Nat.mul_le_mul b2 b3
  have hxy : x * y = x1 * y1 * 18446744073709551616 + (x1 * y0 + x0 * y1) * 4294967296 + x0 * y0 := by
    rw [ex, ey]
    have e1 : (x1 * 4294967296 + x0) * (y1 * 4294967296 + y0) = x1 * y1 * (4294967296 * 4294967296) + (x1 * y0 + x0 * y1) * 4294967296 + x0 * y0 := by grind
    exact e1
  rw [hxy]
  generalize x1 * y1 = A at *
  generalize x1 * y0 = B at *
  generalize x0 * y0 = C at *
  generalize x0 * y1 = D at *
  omega
theorem mul64_any (x y : Nat) (hx : x < 18446744073709551616) (hy : y < 18446744073709551616) (w : World) : Fn Tryd.prog 59 #[.int .u64 x, .int .u64 y] w fun v N => v = .tuple #[.int .u64 ((x * y / 18446744073709551616 : Nat) : Int), .int .u64 ((x * y % 18446744073709551616 : Nat) : Int)] ∧ N = [] := by
  refine Fn_of (args := [.int .u64 x, .int .u64 y]) Tryd.func59 rfl Tryd.ntmps59 Tryd.results59 (by simp) ?_
  refine T_sr ?_
  refine S_as rfl rfl rfl ?_
  refine S_as rfl rfl rfl ?_
  refine S_nx ?_
  refine T_sr ?_
  refine S_mv rfl rfl rfl ?_
  refine S_val rfl rfl (Y_mask32 rfl rfl (nat_cast _) (by assumption)) ?_
  refine S_as rfl rfl rfl ?_
  refine S_nx ?_
  refine T_sr ?_
  refine S_mv rfl rfl rfl ?_
  refine S_val rfl rfl (Y_shrN rfl rfl (nat_cast _) (nat_lit' _) (by simp only [IntKind.bits]; assumption)) ?_
  refine S_as rfl rfl rfl ?_
  refine S_nx ?_
  refine T_sr ?_
  refine S_mv rfl rfl rfl ?_
  refine S_val rfl rfl (Y_mask32 rfl rfl (nat_cast _) (by assumption)) ?_
  refine S_as rfl rfl rfl ?_
  refine S_nx ?_
  refine T_sr ?_
  refine S_mv rfl rfl rfl ?_
  refine S_val rfl rfl (Y_shrN rfl rfl (nat_cast _) (nat_lit' _) (by simp only [IntKind.bits]; assumption)) ?_
  refine S_as rfl rfl rfl ?_
  refine S_nx ?_
  refine T_sr ?_
  refine S_mv rfl rfl rfl ?_
  refine S_mv rfl rfl rfl ?_
  refine S_val rfl rfl (Y_mul64 rfl rfl (nat_cast _) (nat_cast _)) ?_
  refine S_as rfl rfl rfl ?_
  refine S_nx ?_
  refine T_sr ?_
  refine S_mv rfl rfl rfl ?_
  refine S_mv rfl rfl rfl ?_
  refine S_val rfl rfl (Y_mul64 rfl rfl (nat_cast _) (nat_cast _)) ?_
  refine S_mv rfl rfl rfl ?_
  refine S_val rfl rfl (Y_shrN rfl rfl (nat_cast _) (nat_lit' _) (by simp only [IntKind.bits]; omega)) ?_
  refine S_val rfl rfl (Y_add64 rfl rfl (nat_cast _) (nat_cast _)) ?_
  refine S_as rfl rfl rfl ?_
  refine S_nx ?_
  refine T_sr ?_
  refine S_mv rfl rfl rfl ?_
  refine S_val rfl rfl (Y_mask32 rfl rfl (nat_cast _) (by omega)) ?_
  refine S_as rfl rfl rfl ?_
  refine S_nx ?_
  refine T_sr ?_
  refine S_mv rfl rfl rfl ?_
  refine S_val rfl rfl (Y_shrN rfl rfl (nat_cast _) (nat_lit' _) (by simp only [IntKind.bits]; omega)) ?_
  refine S_as rfl rfl rfl ?_
  refine S_nx ?_
  refine T_sr ?_
  refine S_mv rfl rfl rfl ?_
  refine S_mv rfl rfl rfl ?_
  refine S_mv rfl rfl rfl ?_
  refine S_val rfl rfl (Y_mul64 rfl rfl (nat_cast _) (nat_cast _)) ?_
  refine S_val rfl rfl (Y_add64 rfl rfl (nat_cast _) (nat_cast _)) ?_
  refine S_as rfl rfl rfl ?_
  refine S_nx ?_
  refine T_sr ?_
  refine S_mv rfl rfl rfl ?_
  refine S_mv rfl rfl rfl ?_
  refine S_val rfl rfl (Y_mul64 rfl rfl (nat_cast _) (nat_cast _)) ?_
  refine S_mv rfl rfl rfl ?_
  refine S_val rfl rfl (Y_add64 rfl rfl (nat_cast _) (nat_cast _)) ?_
  refine S_mv rfl rfl rfl ?_
  refine S_val rfl rfl (Y_shrN rfl rfl (nat_cast _) (nat_lit' _) (by simp only [IntKind.bits]; omega)) ?_
  refine S_val rfl rfl (Y_add64 rfl rfl (nat_cast _) (nat_cast _)) ?_
  refine S_as rfl rfl rfl ?_
  refine S_nx ?_
  refine T_sr ?_
  refine S_mv rfl rfl rfl ?_
  refine S_mv rfl rfl rfl ?_
  refine S_val rfl rfl (Y_mul64 rfl rfl (nat_cast _) (nat_cast _)) ?_
  refine S_as rfl rfl rfl ?_
  refine S_nx ?_
  refine T_ret ?_
  ((first | refine X_fin_ret ?_ | refine X_fin ?_); exact ⟨[_, _], [], .cons (.tmp rfl) (.cons (.tmp rfl) .nil), Emb.nil _, by rw [mul64_nat x y hx hy]; rfl, rfl⟩)
/-- A row of a product: in n digits what is above is cut off. -/
theorem mul_row (b n i y : Nat) (hi : i ≤ n) : y % b ^ (n - i) * b ^ i = y * b ^ i % b ^ n := by
  have : b ^ n = b ^ (n - i) * b ^ i := by rw [← Nat.pow_add]; congr 1; omega
  rw [this, Nat.mul_mod_mul_right]
theorem mul_outer (b n i x y o : Nat) (hi : i ≤ n) (ho : o % b ^ n = x % b ^ i * y % b ^ n) : (o + x / b ^ i % b * (y % b ^ (n - i)) * b ^ i) % b ^ n = x % b ^ (i + 1) * y % b ^ n := by
  rw [Nat.mul_assoc, mul_row b n i y hi, Nat.add_mod, Nat.mul_mod, Nat.mod_mod, ← Nat.mul_mod, ho, ← Nat.add_mod, mod_pow_succ', Nat.add_mul]
  congr 2
  rw [Nat.mul_assoc, Nat.mul_comm y]
theorem digit_rep {b r d h i j : Nat} (hb : 0 < b) (hr : r < b ^ i) (hd : d < b) : (r + d * b ^ i + h * b ^ (i + 1)) / b ^ j % b = if j < i then r / b ^ j % b else if j = i then d else h / b ^ (j - i - 1) % b := by
  have hP : 0 < b ^ i := Nat.pow_pos hb
  have h1 : r + d * b ^ i < b ^ (i + 1) := by
    rw [Nat.pow_succ, Nat.mul_comm (b ^ i) b]
    have : (d + 1) * b ^ i ≤ b * b ^ i := Nat.mul_le_mul_right _ hd
    rw [Nat.succ_mul] at this
    omega
  split
  · rename_i hj
    rw [← digit_mod b i _ j hj, Nat.pow_succ, show h * (b ^ i * b) = (h * b) * b ^ i by rw [Nat.mul_comm (b ^ i) b, Nat.mul_assoc], Nat.add_mul_mod_self_right, Nat.add_mul_mod_self_right, digit_mod b i _ j hj]
  · split
    · rename_i _ hj
      subst hj
      rw [Nat.pow_succ, show h * (b ^ j * b) = (h * b) * b ^ j by rw [Nat.mul_comm (b ^ j) b, Nat.mul_assoc], Nat.add_assoc, ← Nat.add_mul, Nat.add_mul_div_right _ _ hP, Nat.div_eq_of_lt hr, Nat.zero_add, Nat.add_mul_mod_self_right, Nat.mod_eq_of_lt hd]
    · rename_i hj hj2
      have : b ^ j = b ^ (i + 1) * b ^ (j - i - 1) := by rw [← Nat.pow_add]; congr 1; omega
      rw [this, ← Nat.div_div_eq_div_mul, Nat.add_mul_div_right _ _ (Nat.pow_pos hb), Nat.div_eq_of_lt h1, Nat.zero_add]
theorem split_at (b i x : Nat) : x = x % b ^ i + x / b ^ i % b * b ^ i + x / b ^ (i + 1) * b ^ (i + 1) := by
  rw [← mod_pow_succ', Nat.mul_comm (x / b ^ (i + 1)), Nat.mod_add_div]
/-- A digit is turned. -/
theorem dl_put {b n x d i : Nat} (hb : 0 < b) (hd : d < b) : (dl b n x).set i ((d : Nat) : Int) = dl b n (x - x / b ^ i % b * b ^ i + d * b ^ i) := by
  have hs := split_at b i x
  have hr : x % b ^ i < b ^ i := Nat.mod_lt _ (Nat.pow_pos hb)
  have hxi : x / b ^ i % b < b := Nat.mod_lt _ hb
  generalize x % b ^ i = r at *
  generalize x / b ^ i % b = c at *
  generalize x / b ^ (i + 1) = h at *
  subst hs
  have e : r + c * b ^ i + h * b ^ (i + 1) - c * b ^ i + d * b ^ i = r + d * b ^ i + h * b ^ (i + 1) := by omega
  rw [e]
  apply List.ext_getElem?
  intro j
  rw [List.getElem?_set, dl_length]
  by_cases hj : j < n
  · rw [dl_get hj, dl_get hj, digit_rep hb hr hd, digit_rep hb hr hxi]
    by_cases h1 : i = j
    · subst h1; simp [hj]
    · simp only [h1, if_false, show ¬ j = i by omega]
  · have h1 : (dl b n (r + c * b ^ i + h * b ^ (i + 1)))[j]? = none := List.getElem?_eq_none (by rw [dl_length]; omega)
    have h2 : (dl b n (r + d * b ^ i + h * b ^ (i + 1)))[j]? = none := List.getElem?_eq_none (by rw [dl_length]; omega)
    rw [h1, h2]
    split
    · rename_i h; subst h; simp [hj]
    · rfl
theorem dl_eqmod {b n x y : Nat} (h : x % b ^ n = y % b ^ n) : dl b n x = dl b n y := by rw [← dl_mod, h, dl_mod]
theorem mul_any (x y : Nat) (w : World) : Fn Tryd.prog 34 #[W x, W y] w fun v N => v = W (x * y % 2 ^ 256) ∧ N = [] := by
  refine Fn_of (args := [W x, W y]) Tryd.func34 rfl Tryd.ntmps34 Tryd.results34 (by simp) ?_
  refine T_sr ?_
  refine S_boxA rfl rfl rfl fun _ => ?_
  refine S_boxA rfl rfl rfl fun _ => ?_
  refine S_allocA (zer rfl) rfl rfl fun _ => ?_
  refine S_nx ?_
  refine T_sr ?_
  refine S_allocA (zer rfl) rfl rfl fun _ => ?_
  refine S_nx ?_
  refine T_seq ?_
  refine T_sr ?_
  refine S_mv rfl rfl rfl ?_
  refine S_nx ?_
  refine T_block ?_
  rename_i b0 b1 b2 b3
  refine T_loop (α := Nat × Nat) (fun a => a.1 ≤ 4 ∧ a.2 % 18446744073709551616 ^ 4 = x % 18446744073709551616 ^ a.1 * y % 18446744073709551616 ^ 4)
    (fun a => [(2, .pointer (some ⟨b0, 0, none⟩)), (3, .pointer (some ⟨b1, 0, none⟩)), (4, .pointer (some ⟨b2, 0, none⟩)), (5, .pointer (some ⟨b3, 0, none⟩)), (12, .int .i64 a.1)])
    (fun a => [blk b0 (.cells (ints .u64 (dl 18446744073709551616 4 (x))) 50 (0, 0)), blk b1 (.cells (ints .u64 (dl 18446744073709551616 4 (y))) 50 (0, 0)), blk b2 (.cells (ints .u64 (List.replicate 4 0)) 50 (0, 0)), blk b3 (.cells (ints .u64 (dl 18446744073709551616 4 (a.2))) 50 (0, 0))])
    (fun a => 4 - a.1) (0, 0) (by simp [Nat.mod_one]) (by repeat (first | exact Env.sub_nil _ | (apply Env.sub_cons; rfl))) [] rfl ?_
  rintro ⟨i, o⟩ ⟨hi, ho⟩
  dsimp only at hi ho ⊢
  by_cases h : i < 4
  · refine T_sr ?_
    refine S_val rfl rfl (Y_lss_t rfl rfl (by omega)) ?_
    refine S_nx ?_
    refine T_seq ?_
    refine T_cond_true rfl ?_
    refine T_skip ?_
    refine X_seq ?_
    refine T_seq ?_
    refine T_block ?_
    refine T_sr ?_
    refine S_mv rfl rfl rfl ?_
    refine S_as rfl rfl rfl ?_
    refine S_nx ?_
    refine T_sr ?_
    refine S_as rfl rfl rfl ?_
    refine S_nx ?_
    refine T_sr ?_
    refine S_as rfl rfl rfl ?_
    refine S_nx ?_
    refine T_block ?_
    refine T_loop (α := Nat × Nat × Nat) (fun a => a.1 ≤ 4 - i ∧ a.2.1 < 18446744073709551616 ∧ a.2.2 + a.2.1 * 18446744073709551616 ^ (i + a.1) = o + x / 18446744073709551616 ^ i % 18446744073709551616 * (y % 18446744073709551616 ^ a.1) * 18446744073709551616 ^ i)
      (fun a => [(2, .pointer (some ⟨b0, 0, none⟩)), (3, .pointer (some ⟨b1, 0, none⟩)), (4, .pointer (some ⟨b2, 0, none⟩)), (5, .pointer (some ⟨b3, 0, none⟩)), (12, .int .i64 i), (6, .int .i64 i), (7, .int .u64 a.2.1), (8, .int .i64 a.1)])
      (fun a => [blk b0 (.cells (ints .u64 (dl 18446744073709551616 4 (x))) 50 (0, 0)), blk b1 (.cells (ints .u64 (dl 18446744073709551616 4 (y))) 50 (0, 0)), blk b2 (.cells (ints .u64 (List.replicate 4 0)) 50 (0, 0)), blk b3 (.cells (ints .u64 (dl 18446744073709551616 4 (a.2.2))) 50 (0, 0))])
      (fun a => 4 - a.1) (0, 0, o) (by simp [Nat.mod_one]) (by repeat (first | exact Env.sub_nil _ | (apply Env.sub_cons; rfl))) [] rfl ?_
    rintro ⟨j, c, p⟩ ⟨hj, hc, hp⟩
    dsimp only at hj hc hp ⊢
    have hxi := digit_lt x i
    have hyj := digit_lt y j
    have hpj := digit_lt p (i + j)
    have hxy : x / 18446744073709551616 ^ i % 18446744073709551616 * (y / 18446744073709551616 ^ j % 18446744073709551616) ≤ 18446744073709551615 * 18446744073709551615 := Nat.mul_le_mul (by omega) (by omega)
    by_cases h2 : i + j < 4
    · refine T_seq ?_
      refine T_sr ?_
      refine S_mv rfl rfl rfl ?_
      refine S_mv rfl rfl rfl ?_
      refine S_val rfl rfl (Y_addN rfl rfl (nat_cast _) (nat_cast _) (by omega)) ?_
      refine S_val rfl rfl (Y_lss_t rfl rfl (by omega)) ?_
      refine S_nx ?_
      refine T_cond_true rfl ?_
      refine T_skip ?_
      refine X_seq ?_
      refine T_seq ?_
      refine T_block ?_
      refine T_seq ?_
      refine T_draw (by kernel_rfl) (by kernel_rfl) rfl ?_
      refine D0_val rfl rfl rfl (Y_move rfl) ?_
      refine D0_val rfl rfl rfl (Y_ixa (und rfl) (siz rfl) rfl rfl (nat_cast _) (by assumption)) ?_
      refine D0_valM rfl rfl rfl (Y_loadI 0 (und rfl) rfl rfl rfl (dl_get (by assumption))) ?_
      refine D0_val rfl rfl rfl (Y_move rfl) ?_
      refine D0_val rfl rfl rfl (Y_ixa (und rfl) (siz rfl) rfl rfl (nat_cast _) (by omega)) ?_
      refine D0_valM rfl rfl rfl (Y_loadI 1 (und rfl) rfl rfl rfl (dl_get (by omega))) ?_
      refine D0_callV rfl rfl (bod rfl) (fun w hs => mul64_any _ _ hxi hyj _) rfl rfl ?_
      refine D0_val rfl rfl rfl (Y_move rfl) ?_
      refine D0_val rfl rfl rfl (Y_extract rfl rfl) ?_
      refine D0_val rfl rfl rfl (Y_extract rfl rfl) ?_
      refine D0_val rfl rfl rfl (Y_assign rfl) ?_
      refine D0_val rfl rfl rfl (Y_assign rfl) ?_
      refine D0_nil ?_
      refine X_seq ?_
      refine T_sr ?_
      refine S_mv rfl rfl rfl ?_
      refine S_mv rfl rfl rfl ?_
      refine S_mv rfl rfl rfl ?_
      refine S_val rfl rfl (Y_addN rfl rfl (nat_cast _) (nat_cast _) (by omega)) ?_
      refine S_val rfl rfl (Y_ixa (und rfl) (siz rfl) rfl rfl (nat_cast _) (by assumption)) ?_
      refine S_val rfl rfl (Y_loadI 3 (und rfl) rfl rfl rfl (dl_get (by assumption))) ?_
      refine S_val rfl rfl (Y_ext rfl rfl fun w => add64 _ _ 0 (by omega) _) ?_
      refine S_mv rfl rfl rfl ?_
      refine S_val rfl rfl (Y_extract rfl rfl) ?_
      refine S_val rfl rfl (Y_extract rfl rfl) ?_
      refine S_as rfl rfl rfl ?_
      refine S_as rfl rfl rfl ?_
      refine S_nx ?_
      refine T_sr ?_
      refine S_mv rfl rfl rfl ?_
      refine S_mv rfl rfl rfl ?_
      refine S_val rfl rfl (Y_addU rfl rfl (nat_cast _) (nat_cast _) rfl (by simp only [IntKind.bits]; omega)) ?_
      refine S_as rfl rfl rfl ?_
      refine S_nx ?_
      refine T_sr ?_
      refine S_mv rfl rfl rfl ?_
      refine S_mv rfl rfl rfl ?_
      refine S_val rfl rfl (Y_ext rfl rfl fun w => add64 _ _ 0 (by omega) _) ?_
      refine S_mv rfl rfl rfl ?_
      refine S_val rfl rfl (Y_extract rfl rfl) ?_
      refine S_val rfl rfl (Y_extract rfl rfl) ?_
      refine S_as rfl rfl rfl ?_
      refine S_as rfl rfl rfl ?_
      refine S_nx ?_
      refine T_sr ?_
      refine S_mv rfl rfl rfl ?_
      refine S_mv rfl rfl rfl ?_
      refine S_val rfl rfl (Y_addN rfl rfl (nat_cast _) (nat_cast _) (by omega)) ?_
      refine S_mv rfl rfl rfl ?_
      refine S_val rfl rfl (Y_ixa (und rfl) (siz rfl) rfl rfl (nat_cast _) (by assumption)) ?_
      refine S_storeI 3 (siz rfl) rfl rfl rfl (by simp; omega) rfl rfl ?_
      refine S_nx ?_
      refine T_region ?_
      refine S_mv rfl rfl rfl ?_
      refine S_mv rfl rfl rfl ?_
      refine S_val rfl rfl (Y_addU rfl rfl (nat_cast _) (nat_cast _) rfl (by simp only [IntKind.bits]; omega)) ?_
      refine S_as rfl rfl rfl ?_
      refine S_nil ?_
      refine X_blk ?_
      refine X_seq ?_
      refine T_region ?_
      refine S_mv rfl rfl rfl ?_
      refine S_val rfl rfl (Y_addN rfl rfl (nat_cast _) (nat_lit' _) (by omega)) ?_
      refine S_as rfl rfl rfl ?_
      refine S_nil ?_
      refine X_loop ?_
      refine ⟨(j + 1, _, _), ⟨?_, ?_, ?_⟩, ?_, (by repeat (first | exact Env.sub_nil _ | (apply Env.sub_cons; rfl))), [], by rw [dl_put (by omega) (Nat.mod_lt _ (by omega))]; rfl⟩
      · dsimp only; omega
      · dsimp only; omega
      · dsimp only
        have hs := split_at 18446744073709551616 (i + j) p
        have hy2 := mod_pow_succ' y 18446744073709551616 j
        rw [hy2]
        generalize x / 18446744073709551616 ^ i % 18446744073709551616 = xi at *
        generalize y / 18446744073709551616 ^ j % 18446744073709551616 = yj at *
        generalize p / 18446744073709551616 ^ (i + j) % 18446744073709551616 = pj at *
        have hP : (18446744073709551616 : Nat) ^ (i + (j + 1)) = 18446744073709551616 * 18446744073709551616 ^ (i + j) := by rw [← Nat.add_assoc, Nat.pow_succ, Nat.mul_comm]
        have hQ : xi * (y % 18446744073709551616 ^ j + yj * 18446744073709551616 ^ j) * 18446744073709551616 ^ i = xi * (y % 18446744073709551616 ^ j) * 18446744073709551616 ^ i + xi * yj * 18446744073709551616 ^ (i + j) := by
          rw [Nat.mul_add, Nat.add_mul, ← Nat.mul_assoc xi yj, Nat.mul_assoc (xi * yj), ← Nat.pow_add, Nat.add_comm j i]
        rw [hP, hQ, ← Nat.mul_assoc]
        generalize xi * yj = m at *
        generalize hl : ((m % 18446744073709551616 + pj + 0) % 18446744073709551616 + c + 0) % 18446744073709551616 = l2
        generalize hcc : m / 18446744073709551616 + (m % 18446744073709551616 + pj + 0) / 18446744073709551616 + ((m % 18446744073709551616 + pj + 0) % 18446744073709551616 + c + 0) / 18446744073709551616 = c2
        have key : l2 + c2 * 18446744073709551616 = m + pj + c := by omega
        have k2 := congrArg (· * 18446744073709551616 ^ (i + j)) key
        simp only [Nat.add_mul] at k2
        omega
      · dsimp only; omega
    · refine T_seq ?_
      refine T_sr ?_
      refine S_mv rfl rfl rfl ?_
      refine S_mv rfl rfl rfl ?_
      refine S_val rfl rfl (Y_addN rfl rfl (nat_cast _) (nat_cast _) (by omega)) ?_
      refine S_val rfl rfl (Y_lss_f rfl rfl (by omega)) ?_
      refine S_nx ?_
      refine T_cond_false rfl ?_
      refine T_exit ?_
      refine X_seq_exit ?_
      refine X_loop_exit ?_
      refine X_blk_hit rfl ?_
      refine X_blk ?_
      refine X_seq ?_
      refine T_region ?_
      refine S_val rfl rfl (Y_addN rfl rfl (nat_cast _) (nat_lit' _) (by omega)) ?_
      refine S_mv rfl rfl rfl ?_
      refine S_nil ?_
      obtain rfl : j = 4 - i := by omega
      refine X_loop ?_
      refine ⟨(i + 1, p), ⟨?_, ?_⟩, ?_, (by repeat (first | exact Env.sub_nil _ | (apply Env.sub_cons; rfl))), [], rfl⟩
      · dsimp only; omega
      · dsimp only
        rw [← mul_outer 18446744073709551616 4 i x y o hi ho, ← hp, show i + (4 - i) = 4 by omega, Nat.add_mul_mod_self_right]
      · dsimp only; omega
  · refine T_sr ?_
    refine S_val rfl rfl (Y_lss_f rfl rfl (by omega)) ?_
    refine S_nx ?_
    refine T_seq ?_
    refine T_cond_false rfl ?_
    refine T_exit ?_
    refine X_seq_exit ?_
    refine X_loop_exit ?_
    refine X_blk_hit rfl ?_
    refine X_seq ?_
    refine T_sr ?_
    refine S_val rfl rfl (Y_loadAI 3 (und rfl) rfl rfl rfl (siz rfl) (dl_length _ _ _)) ?_
    refine S_storeAI 2 (siz rfl) rfl rfl rfl rfl (dl_length _ _ _) rfl ?_
    refine S_nx ?_
    refine T_ret ?_
    obtain rfl : i = 4 := by omega
    ((first | refine X_fin_ret ?_ | refine X_fin ?_); exact ⟨[_], [], .cons (.agg 2 rfl (und rfl) rfl rfl (siz rfl)) .nil, Emb.nil _, by
          show W o = _
          unfold W
          rw [dl_eqmod (y := x * y % 2 ^ 256)]
          rw [ho, show 18446744073709551616 ^ 4 = 2 ^ 256 by decide, Nat.mod_mod, Nat.mul_mod, Nat.mod_mod, ← Nat.mul_mod], rfl⟩)
/-- How two numbers stand. -/
def cmpI (x y : Nat) : Int := if x < y then -1 else if x = y then 0 else 1
theorem compare_any (x y : Nat) (hx : x < 2 ^ 256) (hy : y < 2 ^ 256) (w : World) : Fn Tryd.prog 75 #[W x, W y] w fun v N => v = .int .i64 (cmpI x y) ∧ N = [] := by
  by_cases he : x = y
  · subst he
    have hd : dl 18446744073709551616 4 x = dl 18446744073709551616 4 x := rfl
    refine Fn_of (args := [W x, W x]) Tryd.func75 rfl Tryd.ntmps75 Tryd.results75 (by simp) ?_
    refine T_sr ?_
    refine S_boxA rfl rfl rfl fun _ => ?_
    refine S_boxA rfl rfl rfl fun _ => ?_
    refine S_as rfl rfl rfl ?_
    refine S_nx ?_
    refine T_seq ?_
    refine T_sr ?_
    refine S_val rfl rfl (Y_loadAI 0 (und rfl) rfl rfl rfl (siz rfl) (dl_length _ _ _)) ?_
    refine S_val rfl rfl (Y_loadAI 1 (und rfl) rfl rfl rfl (siz rfl) (dl_length _ _ _)) ?_
    refine S_val rfl rfl (Y_eqlA_t (eqg rfl) (und rfl) (und rfl) (siz rfl) rfl rfl (dl_length _ _ _) rfl) ?_
    refine S_nx ?_
    refine T_cond_true rfl ?_
    refine T_sr ?_
    refine S_as rfl rfl rfl ?_
    refine S_nx ?_
    refine T_ret ?_
    refine X_seq_ret ?_
    ((first | refine X_fin_ret ?_ | refine X_fin ?_); exact ⟨[_], [], .cons (.tmp rfl) .nil, Emb.nil _, by unfold cmpI; simp [retOf], rfl⟩)
  · have hd : dl 18446744073709551616 4 x ≠ dl 18446744073709551616 4 y := fun h => he (dl_inj (by omega) (Nat.lt_of_lt_of_le hx (by decide)) (Nat.lt_of_lt_of_le hy (by decide)) h)
    refine Fn_of (args := [W x, W y]) Tryd.func75 rfl Tryd.ntmps75 Tryd.results75 (by simp) ?_
    refine T_sr ?_
    refine S_boxA rfl rfl rfl fun _ => ?_
    refine S_boxA rfl rfl rfl fun _ => ?_
    refine S_as rfl rfl rfl ?_
    refine S_nx ?_
    refine T_seq ?_
    refine T_sr ?_
    refine S_val rfl rfl (Y_loadAI 0 (und rfl) rfl rfl rfl (siz rfl) (dl_length _ _ _)) ?_
    refine S_val rfl rfl (Y_loadAI 1 (und rfl) rfl rfl rfl (siz rfl) (dl_length _ _ _)) ?_
    refine S_val rfl rfl (Y_eqlA_f (eqg rfl) (und rfl) (und rfl) (siz rfl) rfl rfl (dl_length _ _ _) (dl_length _ _ _) (by assumption)) ?_
    refine S_nx ?_
    refine T_cond_false rfl ?_
    refine T_skip ?_
    refine X_seq ?_
    refine T_sr ?_
    refine S_as rfl rfl rfl ?_
    refine S_nx ?_
    refine T_seq ?_
    refine T_block ?_
    rename_i b0 b1
    refine T_loop (α := Nat) (fun j => j ≤ 3 ∧ x / 18446744073709551616 ^ (j + 1) = y / 18446744073709551616 ^ (j + 1))
      (fun j => [(2, .pointer (some ⟨b0, 0, none⟩)), (3, .pointer (some ⟨b1, 0, none⟩)), (5, .int .i64 j)])
      (fun j => [blk b0 (.cells (ints .u64 (dl 18446744073709551616 4 (x))) 50 (0, 0)), blk b1 (.cells (ints .u64 (dl 18446744073709551616 4 (y))) 50 (0, 0))]) (fun j => j) 3 ?_ (by repeat (first | exact Env.sub_nil _ | (apply Env.sub_cons; rfl))) [] rfl ?_
    · rw [Nat.div_eq_of_lt (Nat.lt_of_lt_of_le hx (by decide)), Nat.div_eq_of_lt (Nat.lt_of_lt_of_le hy (by decide))]; simp
    rintro j ⟨hj, hd⟩
    have ex : x / 18446744073709551616 ^ j = x / 18446744073709551616 ^ j % 18446744073709551616 + 18446744073709551616 * (x / 18446744073709551616 ^ (j + 1)) := by
      rw [Nat.pow_succ, ← Nat.div_div_eq_div_mul]; omega
    have ey : y / 18446744073709551616 ^ j = y / 18446744073709551616 ^ j % 18446744073709551616 + 18446744073709551616 * (y / 18446744073709551616 ^ (j + 1)) := by
      rw [Nat.pow_succ, ← Nat.div_div_eq_div_mul]; omega
    by_cases hq : x / 18446744073709551616 ^ j % 18446744073709551616 = y / 18446744073709551616 ^ j % 18446744073709551616
    · have hj0 : j ≠ 0 := by
        rintro rfl
        simp only [Nat.pow_zero, Nat.div_one] at ex ey hq
        omega
      refine T_seq ?_
      refine T_seq ?_
      refine T_draw (by kernel_rfl) (by kernel_rfl) rfl ?_
      refine D0_val rfl rfl rfl (Y_move rfl) ?_
      refine D0_val rfl rfl rfl (Y_ixa (und rfl) (siz rfl) rfl rfl (nat_cast _) (by omega)) ?_
      refine D0_valM rfl rfl rfl (Y_loadI 0 (und rfl) rfl rfl rfl (dl_get (by omega))) ?_
      refine D0_val rfl rfl rfl (Y_move rfl) ?_
      refine D0_val rfl rfl rfl (Y_ixa (und rfl) (siz rfl) rfl rfl (nat_cast _) (by omega)) ?_
      refine D0_valM rfl rfl rfl (Y_loadI 1 (und rfl) rfl rfl rfl (dl_get (by omega))) ?_
      refine D0_val rfl rfl rfl (Y_eql_t rfl rfl (by omega)) ?_
      refine D0_nil ?_
      refine X_seq ?_
      refine T_cond_true rfl ?_
      refine T_skip ?_
      refine X_seq ?_
      refine T_block ?_
      refine T_region ?_
      refine S_mv rfl rfl rfl ?_
      refine S_val rfl rfl (Y_subN rfl rfl (nat_cast _) (nat_lit' _) (by omega) (by omega)) ?_
      refine S_as rfl rfl rfl ?_
      refine S_nil ?_
      refine X_blk ?_
      refine X_loop ?_
      obtain ⟨i, rfl⟩ : ∃ i, j = i + 1 := ⟨j - 1, by omega⟩
      exact ⟨i, ⟨by omega, by omega⟩, by omega, (by repeat (first | exact Env.sub_nil _ | (apply Env.sub_cons; rfl))), [], rfl⟩
    · by_cases hl : x / 18446744073709551616 ^ j % 18446744073709551616 < y / 18446744073709551616 ^ j % 18446744073709551616
      · have hlt : x < y := by
          have h1 := Nat.div_add_mod x (18446744073709551616 ^ j)
          have h2 := Nat.div_add_mod y (18446744073709551616 ^ j)
          have h3 := Nat.mod_lt x (show 0 < 18446744073709551616 ^ j from Nat.pow_pos (by omega))
          have h4 : x / 18446744073709551616 ^ j + 1 ≤ y / 18446744073709551616 ^ j := by omega
          have := Nat.mul_le_mul_left (18446744073709551616 ^ j) h4
          rw [Nat.mul_add] at this
          omega
        refine T_seq ?_
        refine T_seq ?_
        refine T_draw (by kernel_rfl) (by kernel_rfl) rfl ?_
        refine D0_val rfl rfl rfl (Y_move rfl) ?_
        refine D0_val rfl rfl rfl (Y_ixa (und rfl) (siz rfl) rfl rfl (nat_cast _) (by omega)) ?_
        refine D0_valM rfl rfl rfl (Y_loadI 0 (und rfl) rfl rfl rfl (dl_get (by omega))) ?_
        refine D0_val rfl rfl rfl (Y_move rfl) ?_
        refine D0_val rfl rfl rfl (Y_ixa (und rfl) (siz rfl) rfl rfl (nat_cast _) (by omega)) ?_
        refine D0_valM rfl rfl rfl (Y_loadI 1 (und rfl) rfl rfl rfl (dl_get (by omega))) ?_
        refine D0_val rfl rfl rfl (Y_eql_f rfl rfl (by omega)) ?_
        refine D0_nil ?_
        refine X_seq ?_
        refine T_cond_false rfl ?_
        refine T_exit ?_
        refine X_seq_exit ?_
        refine X_loop_exit ?_
        refine X_blk_hit rfl ?_
        refine X_seq ?_
        refine T_seq ?_
        refine T_seq ?_
        refine T_draw (by kernel_rfl) (by kernel_rfl) rfl ?_
        refine D0_val rfl rfl rfl (Y_move rfl) ?_
        refine D0_val rfl rfl rfl (Y_ixa (und rfl) (siz rfl) rfl rfl (nat_cast _) (by omega)) ?_
        refine D0_valM rfl rfl rfl (Y_loadI 0 (und rfl) rfl rfl rfl (dl_get (by omega))) ?_
        refine D0_val rfl rfl rfl (Y_move rfl) ?_
        refine D0_val rfl rfl rfl (Y_ixa (und rfl) (siz rfl) rfl rfl (nat_cast _) (by omega)) ?_
        refine D0_valM rfl rfl rfl (Y_loadI 1 (und rfl) rfl rfl rfl (dl_get (by omega))) ?_
        refine D0_val rfl rfl rfl (Y_lss_t rfl rfl (by omega)) ?_
        refine D0_nil ?_
        refine X_seq ?_
        refine T_cond_true rfl ?_
        refine T_sr ?_
        refine S_as rfl rfl rfl ?_
        refine S_nx ?_
        refine T_ret ?_
        refine X_seq_ret ?_
        ((first | refine X_fin_ret ?_ | refine X_fin ?_); exact ⟨[_], [], .cons (.tmp rfl) .nil, Emb.nil _, by unfold cmpI; rw [if_pos hlt]; rfl, rfl⟩)
      · have hlt : y < x := by
          have h1 := Nat.div_add_mod x (18446744073709551616 ^ j)
          have h2 := Nat.div_add_mod y (18446744073709551616 ^ j)
          have h3 := Nat.mod_lt y (show 0 < 18446744073709551616 ^ j from Nat.pow_pos (by omega))
          have h4 : y / 18446744073709551616 ^ j + 1 ≤ x / 18446744073709551616 ^ j := by omega
          have := Nat.mul_le_mul_left (18446744073709551616 ^ j) h4
          rw [Nat.mul_add] at this
          omega
        refine T_seq ?_
        refine T_seq ?_
        refine T_draw (by kernel_rfl) (by kernel_rfl) rfl ?_
        refine D0_val rfl rfl rfl (Y_move rfl) ?_
        refine D0_val rfl rfl rfl (Y_ixa (und rfl) (siz rfl) rfl rfl (nat_cast _) (by omega)) ?_
        refine D0_valM rfl rfl rfl (Y_loadI 0 (und rfl) rfl rfl rfl (dl_get (by omega))) ?_
        refine D0_val rfl rfl rfl (Y_move rfl) ?_
        refine D0_val rfl rfl rfl (Y_ixa (und rfl) (siz rfl) rfl rfl (nat_cast _) (by omega)) ?_
        refine D0_valM rfl rfl rfl (Y_loadI 1 (und rfl) rfl rfl rfl (dl_get (by omega))) ?_
        refine D0_val rfl rfl rfl (Y_eql_f rfl rfl (by omega)) ?_
        refine D0_nil ?_
        refine X_seq ?_
        refine T_cond_false rfl ?_
        refine T_exit ?_
        refine X_seq_exit ?_
        refine X_loop_exit ?_
        refine X_blk_hit rfl ?_
        refine X_seq ?_
        refine T_seq ?_
        refine T_seq ?_
        refine T_draw (by kernel_rfl) (by kernel_rfl) rfl ?_
        refine D0_val rfl rfl rfl (Y_move rfl) ?_
        refine D0_val rfl rfl rfl (Y_ixa (und rfl) (siz rfl) rfl rfl (nat_cast _) (by omega)) ?_
        refine D0_valM rfl rfl rfl (Y_loadI 0 (und rfl) rfl rfl rfl (dl_get (by omega))) ?_
        refine D0_val rfl rfl rfl (Y_move rfl) ?_
        refine D0_val rfl rfl rfl (Y_ixa (und rfl) (siz rfl) rfl rfl (nat_cast _) (by omega)) ?_
        refine D0_valM rfl rfl rfl (Y_loadI 1 (und rfl) rfl rfl rfl (dl_get (by omega))) ?_
        refine D0_val rfl rfl rfl (Y_lss_f rfl rfl (by omega)) ?_
        refine D0_nil ?_
        refine X_seq ?_
        refine T_cond_false rfl ?_
        refine T_skip ?_
        refine X_seq ?_
        refine T_sr ?_
        refine S_as rfl rfl rfl ?_
        refine S_nx ?_
        refine T_ret ?_
        ((first | refine X_fin_ret ?_ | refine X_fin ?_); exact ⟨[_], [], .cons (.tmp rfl) .nil, Emb.nil _, by unfold cmpI; rw [if_neg (by omega), if_neg (by omega)]; rfl, rfl⟩)
end Go.Proofs.YtjolmphkmfbpbaaDoor
/- The calls of package word: shifts, how many bits, bytes. -/
namespace Go.Proofs.YtjolmphkmfbpbaaDoor
open Go.RowKit
set_option maxRecDepth 10000
set_option maxHeartbeats 4000000
theorem partN_lt (x : Nat) (i : Int) : partN x i < 18446744073709551616 := by
  unfold partN
  split
  · exact digit_lt _ _
  · omega
theorem part_bit (x : Nat) (k : Int) (t : Nat) : (partN x k).testBit t = (decide (0 ≤ k ∧ k ≤ 3) && (decide (t < 64) && x.testBit (64 * k.toNat + t))) := by
  unfold partN
  split
  · rename_i h; rw [digit_bits]; simp [h]
  · rename_i h; simp [h]
theorem shl_digit (x n i : Nat) (hi : i < 4) : (partN x ((i : Int) - ((n / 64 : Nat) : Int)) * 2 ^ (n % 64) % 18446744073709551616 ||| partN x ((i : Int) - ((n / 64 : Nat) : Int) - 1) / 2 ^ (64 - n % 64)) = x * 2 ^ n / 18446744073709551616 ^ i % 18446744073709551616 := by
  apply Nat.eq_of_testBit_eq
  intro j
  rw [digit_bits, Nat.testBit_or, show (18446744073709551616 : Nat) = 2 ^ 64 by decide, Nat.testBit_mod_two_pow, Nat.testBit_mul_two_pow, Nat.testBit_div_two_pow, part_bit, part_bit, Nat.testBit_mul_two_pow]
  generalize hk : (i : Int) - ((n / 64 : Nat) : Int) = k
  by_cases hj : j < 64
  · rw [decide_eq_true hj]
    by_cases hl : n % 64 ≤ j
    · rw [decide_eq_false (show ¬ (j + (64 - n % 64) < 64) by omega), decide_eq_true (show n % 64 ≤ j from hl), decide_eq_true (show j - n % 64 < 64 by omega)]
      by_cases h2 : n ≤ 64 * i + j
      · rw [decide_eq_true (show 0 ≤ k ∧ k ≤ 3 by omega), decide_eq_true (show 64 * i + j ≥ n from h2), show 64 * k.toNat + (j - n % 64) = 64 * i + j - n by omega]
        simp
      · rw [decide_eq_false (show ¬ (0 ≤ k ∧ k ≤ 3) by omega), decide_eq_false (show ¬ (64 * i + j ≥ n) from h2)]
        simp
    · rw [decide_eq_true (show j + (64 - n % 64) < 64 by omega), decide_eq_false hl]
      by_cases h2 : n ≤ 64 * i + j
      · rw [decide_eq_true (show 0 ≤ k - 1 ∧ k - 1 ≤ 3 by omega), decide_eq_true (show 64 * i + j ≥ n from h2), show 64 * (k - 1).toNat + (j + (64 - n % 64)) = 64 * i + j - n by omega]
        simp
      · rw [decide_eq_false (show ¬ (0 ≤ k - 1 ∧ k - 1 ≤ 3) by omega), decide_eq_false (show ¬ (64 * i + j ≥ n) from h2)]
        simp
  · rw [decide_eq_false hj, decide_eq_false (show ¬ (j + (64 - n % 64) < 64) by omega)]
    simp
theorem shl_any (x n : Nat) (hn : n < 18446744073709551616) (w : World) : Fn Tryd.prog 74 #[W x, .int .u64 n] w fun v N => v = W (x * 2 ^ n % 2 ^ 256) ∧ N = [] := by
  by_cases h : n < 256
  · refine Fn_of (args := [W x, .int .u64 n]) Tryd.func74 rfl Tryd.ntmps74 Tryd.results74 (by simp) ?_
    refine T_sr ?_
    refine S_boxA rfl rfl rfl fun _ => ?_
    refine S_allocA (zer rfl) rfl rfl fun _ => ?_
    refine S_nx ?_
    refine T_seq ?_
    refine T_sr ?_
    refine S_mv rfl rfl rfl ?_
    refine S_val rfl rfl (Y_geq_f rfl rfl (by omega)) ?_
    refine S_nx ?_
    refine T_cond_false rfl ?_
    refine T_skip ?_
    refine X_seq ?_
    refine T_sr ?_
    refine S_mv rfl rfl rfl ?_
    refine S_val rfl rfl (Y_quoN rfl rfl (nat_cast _) (nat_lit' _) (Nat.succ_ne_zero _) (by first | with_reducible exact xi64 (by omega) | with_reducible exact x64 (by omega) | with_reducible exact x8 (by omega) | with_reducible exact x32 (by omega))) ?_
    refine S_val rfl rfl (Y_conv (und rfl) (und rfl) rfl (wi64 (by omega) (by omega))) ?_
    refine S_mv rfl rfl rfl ?_
    refine S_val rfl rfl (Y_remN rfl rfl (nat_cast _) (nat_lit' _) (Nat.succ_ne_zero _)) ?_
    refine S_as rfl rfl rfl ?_
    refine S_as rfl rfl rfl ?_
    refine S_nx ?_
    refine T_sr ?_
    refine S_allocA (zer rfl) rfl rfl fun _ => ?_
    refine S_nx ?_
    refine T_seq ?_
    refine T_sr ?_
    refine S_mv rfl rfl rfl ?_
    refine S_nx ?_
    refine T_block ?_
    rename_i b0 b1 b2
    refine T_loop (α := Nat × Nat) (fun a => a.1 ≤ 4 ∧ a.2 = x * 2 ^ n % 18446744073709551616 ^ a.1)
      (fun a => [(2, .pointer (some ⟨b0, 0, none⟩)), (4, .pointer (some ⟨b1, 0, none⟩)), (5, .int .i64 ((n / 64 : Nat) : Int)), (6, .int .u64 ((n % 64 : Nat) : Int)), (7, .pointer (some ⟨b2, 0, none⟩)), (17, .int .i64 a.1)])
      (fun a => [blk b0 (.cells (ints .u64 (dl 18446744073709551616 4 (x))) 50 (0, 0)), blk b1 (.cells (ints .u64 (List.replicate 4 0)) 50 (0, 0)), blk b2 (.cells (ints .u64 (dl 18446744073709551616 4 (a.2))) 50 (0, 0))])
      (fun a => 4 - a.1) (0, 0) (by simp [Nat.mod_one]) (by repeat (first | exact Env.sub_nil _ | (apply Env.sub_cons; rfl))) [] rfl ?_
    rintro ⟨i, s⟩ ⟨hi, hs⟩
    dsimp only at hi hs ⊢
    by_cases h2 : i < 4
    · have hb1 := partN_lt x ((i : Int) - ((n / 64 : Nat) : Int) - 1)
      have hb2 : partN x ((i : Int) - ((n / 64 : Nat) : Int) - 1) / 2 ^ (64 - n % 64) < 18446744073709551616 := Nat.lt_of_le_of_lt (Nat.div_le_self _ _) hb1
      refine T_sr ?_
      refine S_val rfl rfl (Y_lss_t rfl rfl (by omega)) ?_
      refine S_nx ?_
      refine T_seq ?_
      refine T_cond_true rfl ?_
      refine T_skip ?_
      refine X_seq ?_
      refine T_seq ?_
      refine T_block ?_
      refine T_sr ?_
      refine S_mv rfl rfl rfl ?_
      refine S_as rfl rfl rfl ?_
      refine S_nx ?_
      refine T_draw (by kernel_rfl) (by kernel_rfl) rfl ?_
      refine D0_val rfl rfl rfl (Y_move rfl) ?_
      refine D0_valM rfl rfl rfl (Y_loadAI 0 (und rfl) rfl rfl rfl (siz rfl) (dl_length _ _ _)) ?_
      refine D0_val rfl rfl rfl (Y_move rfl) ?_
      refine D0_val rfl rfl rfl (Y_move rfl) ?_
      refine D0_val rfl rfl rfl (Y_sub rfl rfl (wi64 (by omega) (by omega))) ?_
      refine D0_callV rfl rfl (bod rfl) (fun w hs => part_any _ _ _) rfl rfl ?_
      refine D0_val rfl rfl rfl (Y_move rfl) ?_
      refine D0_val rfl rfl rfl (Y_shlN rfl rfl (nat_cast _) (nat_cast _) rfl pw64) ?_
      refine D0_valM rfl rfl rfl (Y_loadAI 0 (und rfl) rfl rfl rfl (siz rfl) (dl_length _ _ _)) ?_
      refine D0_val rfl rfl rfl (Y_move rfl) ?_
      refine D0_val rfl rfl rfl (Y_move rfl) ?_
      refine D0_val rfl rfl rfl (Y_sub rfl rfl (wi64 (by omega) (by omega))) ?_
      refine D0_val rfl rfl rfl (Y_sub rfl rfl (wi64 (by omega) (by omega))) ?_
      refine D0_callV rfl rfl (bod rfl) (fun w hs => part_any _ _ _) rfl rfl ?_
      refine D0_val rfl rfl rfl (Y_move rfl) ?_
      refine D0_val rfl rfl rfl (Y_subU rfl rfl (nat_lit' _) (nat_cast _) rfl (by omega) (by simp only [IntKind.bits]; omega)) ?_
      refine D0_val rfl rfl rfl (Y_shrN rfl rfl (nat_cast _) (nat_cast _) (by simp only [IntKind.bits]; assumption)) ?_
      refine D0_val rfl rfl rfl (Y_or rfl rfl (nat_cast _) (nat_cast _) rfl (by simp only [IntKind.bits]; omega) (by simp only [IntKind.bits]; assumption)) ?_
      refine D0_val rfl rfl rfl (Y_ixa (und rfl) (siz rfl) rfl rfl (nat_cast _) (by assumption)) ?_
      refine D0_storeI 2 rfl (siz rfl) rfl rfl rfl (by simp; omega) rfl rfl ?_
      refine D0_nil ?_
      refine X_blk ?_
      refine X_seq ?_
      refine T_region ?_
      refine S_val rfl rfl (Y_addN rfl rfl (nat_cast _) (nat_lit' _) (by omega)) ?_
      refine S_mv rfl rfl rfl ?_
      refine S_nil ?_
      refine X_loop ?_
      refine ⟨(i + 1, x * 2 ^ n % 18446744073709551616 ^ (i + 1)), ⟨?_, rfl⟩, ?_, (by repeat (first | exact Env.sub_nil _ | (apply Env.sub_cons; rfl))), [], ?_⟩
      · dsimp only; omega
      · dsimp only; omega
      · have hd := digit_lt (x * 2 ^ n) i
        rw [shl_digit x n i h2, dl_set (by omega) (by rw [hs]; exact Nat.mod_lt _ (Nat.pow_pos (by omega))) hd, hs, ← mod_pow_succ']
        rfl
    · refine T_sr ?_
      refine S_val rfl rfl (Y_lss_f rfl rfl (by omega)) ?_
      refine S_nx ?_
      refine T_seq ?_
      refine T_cond_false rfl ?_
      refine T_exit ?_
      refine X_seq_exit ?_
      refine X_loop_exit ?_
      refine X_blk_hit rfl ?_
      refine X_seq ?_
      refine T_sr ?_
      refine S_val rfl rfl (Y_loadAI 2 (und rfl) rfl rfl rfl (siz rfl) (dl_length _ _ _)) ?_
      refine S_storeAI 1 (siz rfl) rfl rfl rfl rfl (dl_length _ _ _) rfl ?_
      refine S_nx ?_
      refine T_ret ?_
      obtain rfl : i = 4 := by omega
      ((first | refine X_fin_ret ?_ | refine X_fin ?_); exact ⟨[_], [], .cons (.agg 1 rfl (und rfl) rfl rfl (siz rfl)) .nil, Emb.nil _, by rw [hs, show (18446744073709551616 : Nat) ^ 4 = 2 ^ 256 by decide]; rfl, rfl⟩)
  · have hz : x * 2 ^ n % 2 ^ 256 = 0 := by
      obtain ⟨j, rfl⟩ : ∃ j, n = 256 + j := ⟨n - 256, by omega⟩
      rw [Nat.pow_add, Nat.mul_left_comm, Nat.mul_mod_right]
    refine Fn_of (args := [W x, .int .u64 n]) Tryd.func74 rfl Tryd.ntmps74 Tryd.results74 (by simp) ?_
    refine T_sr ?_
    refine S_boxA rfl rfl rfl fun _ => ?_
    refine S_allocA (zer rfl) rfl rfl fun _ => ?_
    refine S_nx ?_
    refine T_seq ?_
    refine T_sr ?_
    refine S_mv rfl rfl rfl ?_
    refine S_val rfl rfl (Y_geq_t rfl rfl (by omega)) ?_
    refine S_nx ?_
    refine T_cond_true rfl ?_
    refine T_sr ?_
    refine S_val rfl rfl (Y_build (und rfl) (siz rfl) (zer rfl) rfl rfl) ?_
    refine S_storeAI 1 (siz rfl) rfl rfl rfl rfl rfl rfl ?_
    refine S_nx ?_
    refine T_ret ?_
    refine X_seq_ret ?_
    ((first | refine X_fin_ret ?_ | refine X_fin ?_); exact ⟨[_], [], .cons (.agg 1 rfl (und rfl) rfl rfl (siz rfl)) .nil, Emb.nil _, by rw [hz]; rfl, rfl⟩)
def tabOk (s : ByteArray) : Bool := (List.range 256).all fun i => match s[i]? with | some c => Nat.beq c.toNat (bitLen i) | none => false
theorem tab_of {s : ByteArray} (h : tabOk s = true) (i : Nat) (hi : i < 256) : ∃ c, s[i]? = some c ∧ c.toNat = bitLen i := by
  have := List.all_eq_true.1 h i (List.mem_range.2 hi)
  split at this
  · rename_i c hc
    exact ⟨c, hc, Nat.eq_of_beq_eq_true this⟩
  · cases this
theorem Y_tab {C : Ctx} {E : Env} {L : Hp} {dst : Option Tmp} {ty : TypeId} {pos : String} {af : Array Edge} {g : Option (Nat × Bool)} {x y : Operand} {t : TypeId} {k : IntKind} {p : Int} {i : Nat} {s : ByteArray}
    (ht : C.P.underlying t = some .string) (hx : ev E x = some (.string s)) (hy : ev E y = some (.int k p)) (hp : IsNat p i) (hs : tabOk s = true) (hi : i < 256) : Yv C E L ⟨dst, .index t x y, ty, pos, af, g⟩ (.int .u8 ((min (bitLen i) 8 : Nat) : Int)) := by
  obtain ⟨c, h1, h2⟩ := tab_of hs i hi
  exact Y_indexS' ht hx hy hp h1 (by rw [h2, Nat.min_eq_left (bitLen_le8 i hi)])
theorem len64_any (x : Nat) (hx : x < 18446744073709551616) (w : World) : Fn Tryd.prog 57 #[.int .u64 x] w fun v N => v = .int .i64 ((bitLen x : Nat) : Int) ∧ N = [] := by
  refine Fn_of (args := [.int .u64 x]) Tryd.func57 rfl Tryd.ntmps57 Tryd.results57 (by simp) ?_
  refine T_sr ?_
  refine S_as rfl rfl rfl ?_
  refine S_nx ?_
  refine T_seq ?_
  refine T_sr ?_
  refine S_mv rfl rfl rfl ?_
  refine S_val rfl rfl (Y_geq rfl rfl) ?_
  refine S_nx ?_
  refine T_if rfl (fun h1 => ?_) (fun h1 => ?_)
  all_goals
    first | (refine T_sr ?_; refine S_mv rfl rfl rfl ?_; refine S_val rfl rfl (Y_shrN rfl rfl (by with_reducible exact nat_cast _) (nat_lit' _) (by simp only [IntKind.bits]; assumption)) ?_; refine S_as rfl rfl rfl ?_; refine S_nx ?_; refine T_region ?_; refine S_as rfl rfl rfl ?_; refine S_nx ?_; refine T_seq ?_; refine T_sr ?_; refine S_mv rfl rfl rfl ?_; refine S_val rfl rfl (Y_geq rfl rfl) ?_; refine S_nx ?_) | (refine T_skip ?_; refine X_seq ?_; refine T_seq ?_; refine T_sr ?_; refine S_mv rfl rfl rfl ?_; refine S_val rfl rfl (Y_geq rfl rfl) ?_; refine S_nx ?_)
    refine T_if rfl (fun h2 => ?_) (fun h2 => ?_)
  all_goals
    first | (refine T_sr ?_; refine S_mv rfl rfl rfl ?_; refine S_val rfl rfl (Y_shrN rfl rfl (by with_reducible exact nat_cast _) (nat_lit' _) (by simp only [IntKind.bits]; assumption)) ?_; refine S_as rfl rfl rfl ?_; refine S_nx ?_; refine T_region ?_; refine S_mv rfl rfl rfl ?_; refine S_val rfl rfl (Y_addN rfl rfl (nat_lit' _) (nat_lit' _) (Nat.le_of_ble_eq_true rfl)) ?_; refine S_as rfl rfl rfl ?_; refine S_nx ?_; refine T_seq ?_; refine T_sr ?_; refine S_mv rfl rfl rfl ?_; refine S_val rfl rfl (Y_geq rfl rfl) ?_; refine S_nx ?_) | (refine T_sr ?_; refine S_mv rfl rfl rfl ?_; refine S_val rfl rfl (Y_shrN rfl rfl (by with_reducible exact nat_cast _) (nat_lit' _) (by simp only [IntKind.bits]; omega)) ?_; refine S_as rfl rfl rfl ?_; refine S_nx ?_; refine T_region ?_; refine S_mv rfl rfl rfl ?_; refine S_val rfl rfl (Y_addN rfl rfl (nat_lit' _) (nat_lit' _) (Nat.le_of_ble_eq_true rfl)) ?_; refine S_as rfl rfl rfl ?_; refine S_nx ?_; refine T_seq ?_; refine T_sr ?_; refine S_mv rfl rfl rfl ?_; refine S_val rfl rfl (Y_geq rfl rfl) ?_; refine S_nx ?_) | (refine T_skip ?_; refine X_seq ?_; refine T_seq ?_; refine T_sr ?_; refine S_mv rfl rfl rfl ?_; refine S_val rfl rfl (Y_geq rfl rfl) ?_; refine S_nx ?_)
    refine T_if rfl (fun h3 => ?_) (fun h3 => ?_)
  all_goals
    first | (refine T_sr ?_; refine S_mv rfl rfl rfl ?_; refine S_val rfl rfl (Y_shrN rfl rfl (by with_reducible exact nat_cast _) (nat_lit' _) (by simp only [IntKind.bits]; assumption)) ?_; refine S_as rfl rfl rfl ?_; refine S_nx ?_; refine T_region ?_; refine S_mv rfl rfl rfl ?_; refine S_val rfl rfl (Y_addN rfl rfl (nat_lit' _) (nat_lit' _) (Nat.le_of_ble_eq_true rfl)) ?_; refine S_as rfl rfl rfl ?_; refine S_nx ?_; refine T_sr ?_; refine S_mv rfl rfl rfl ?_; refine S_mv rfl rfl rfl ?_; refine S_val rfl rfl (Y_conv (und rfl) (und rfl) rfl (wu8 (by omega) (by omega))) ?_) | (refine T_sr ?_; refine S_mv rfl rfl rfl ?_; refine S_val rfl rfl (Y_shrN rfl rfl (by with_reducible exact nat_cast _) (nat_lit' _) (by simp only [IntKind.bits]; omega)) ?_; refine S_as rfl rfl rfl ?_; refine S_nx ?_; refine T_region ?_; refine S_mv rfl rfl rfl ?_; refine S_val rfl rfl (Y_addN rfl rfl (by with_reducible exact nat_cast _) (nat_lit' _) (Nat.le_of_ble_eq_true rfl)) ?_; refine S_as rfl rfl rfl ?_; refine S_nx ?_; refine T_sr ?_; refine S_mv rfl rfl rfl ?_; refine S_mv rfl rfl rfl ?_; refine S_val rfl rfl (Y_conv (und rfl) (und rfl) rfl (wu8 (by omega) (by omega))) ?_) | (refine T_sr ?_; refine S_mv rfl rfl rfl ?_; refine S_val rfl rfl (Y_shrN rfl rfl (by with_reducible exact nat_cast _) (nat_lit' _) (by simp only [IntKind.bits]; omega)) ?_; refine S_as rfl rfl rfl ?_; refine S_nx ?_; refine T_region ?_; refine S_mv rfl rfl rfl ?_; refine S_val rfl rfl (Y_addN rfl rfl (nat_lit' _) (nat_lit' _) (Nat.le_of_ble_eq_true rfl)) ?_; refine S_as rfl rfl rfl ?_; refine S_nx ?_; refine T_sr ?_; refine S_mv rfl rfl rfl ?_; refine S_mv rfl rfl rfl ?_; refine S_val rfl rfl (Y_conv (und rfl) (und rfl) rfl (wu8 (by omega) (by omega))) ?_) | (refine T_skip ?_; refine X_seq ?_; refine T_sr ?_; refine S_mv rfl rfl rfl ?_; refine S_mv rfl rfl rfl ?_; refine S_val rfl rfl (Y_conv (und rfl) (und rfl) rfl (wu8 (by omega) (by omega))) ?_)
    refine S_val rfl rfl (Y_tab (und rfl) rfl rfl (by first | with_reducible exact nat_cast _ | exact nat_lit' _) (by kernel_rfl) (by omega)) ?_
    first | (refine S_val rfl rfl (Y_conv (und rfl) (und rfl) rfl (wi64 (by omega) (by omega))) ?_; refine S_val rfl rfl (Y_addN rfl rfl (by with_reducible exact nat_cast _) (by with_reducible exact nat_cast _) (by omega)) ?_; refine S_as rfl rfl rfl ?_; refine S_nx ?_; refine T_ret ?_) | (refine S_val rfl rfl (Y_conv (und rfl) (und rfl) rfl (wi64 (by omega) (by omega))) ?_; refine S_val rfl rfl (Y_addN rfl rfl (nat_lit' _) (by with_reducible exact nat_cast _) (by omega)) ?_; refine S_as rfl rfl rfl ?_; refine S_nx ?_; refine T_ret ?_)
    (first | refine X_fin_ret ?_ | refine X_fin ?_)
    refine ⟨[_], [], .cons (.tmp rfl) .nil, Emb.nil _, int_congr ?_, rfl⟩
    try (have s32 := bitLen_shift x 32 (by omega))
    try (have s16 := bitLen_shift x 16 (by omega))
    try (have s8 := bitLen_shift x 8 (by omega))
    try (have s3216 := bitLen_shift (x / 2 ^ 32) 16 (by omega))
    try (have s328 := bitLen_shift (x / 2 ^ 32) 8 (by omega))
    try (have s168 := bitLen_shift (x / 2 ^ 16) 8 (by omega))
    try (have s32168 := bitLen_shift (x / 2 ^ 32 / 2 ^ 16) 8 (by omega))
    try (have l0 := bitLen_le8 x (by omega))
    try (have l1 := bitLen_le8 (x / 2 ^ 32) (by omega))
    try (have l2 := bitLen_le8 (x / 2 ^ 16) (by omega))
    try (have l3 := bitLen_le8 (x / 2 ^ 8) (by omega))
    try (have l4 := bitLen_le8 (x / 2 ^ 32 / 2 ^ 16) (by omega))
    try (have l5 := bitLen_le8 (x / 2 ^ 32 / 2 ^ 8) (by omega))
    try (have l6 := bitLen_le8 (x / 2 ^ 16 / 2 ^ 8) (by omega))
    try (have l7 := bitLen_le8 (x / 2 ^ 32 / 2 ^ 16 / 2 ^ 8) (by omega))
    omega
theorem bitLen_top (x j : Nat) (h : x / 18446744073709551616 ^ (j + 1) = 0) (h2 : x / 18446744073709551616 ^ j % 18446744073709551616 ≠ 0) : bitLen x = 64 * j + bitLen (x / 18446744073709551616 ^ j % 18446744073709551616) := by
  have e : x / 18446744073709551616 ^ j % 18446744073709551616 = x / 18446744073709551616 ^ j := by
    rw [Nat.pow_succ, ← Nat.div_div_eq_div_mul] at h
    omega
  rw [e] at h2 ⊢
  rw [show (18446744073709551616 : Nat) ^ j = 2 ^ (64 * j) by rw [Nat.pow_mul]] at h2 ⊢
  exact bitLen_shift x _ h2
theorem bitLen_le64 (x : Nat) (h : x < 18446744073709551616) : bitLen x ≤ 64 := by
  unfold bitLen
  split
  · omega
  · rename_i h0
    have := (Nat.log2_lt h0).2 (show x < 2 ^ 64 from h)
    omega
theorem len_any (x : Nat) (hx : x < 2 ^ 256) (w : World) : Fn Tryd.prog 32 #[W x] w fun v N => v = .int .i64 ((bitLen x : Nat) : Int) ∧ N = [] := by
  refine Fn_of (args := [W x]) Tryd.func32 rfl Tryd.ntmps32 Tryd.results32 (by simp) ?_
  refine T_sr ?_
  refine S_boxA rfl rfl rfl fun _ => ?_
  refine S_as rfl rfl rfl ?_
  refine S_nx ?_
  refine T_seq ?_
  refine T_sr ?_
  refine S_as rfl rfl rfl ?_
  refine S_nx ?_
  refine T_block ?_
  rename_i b0
  refine T_loop (α := Nat) (fun j => j ≤ 4 ∧ x / 18446744073709551616 ^ j = 0)
    (fun j => [(1, .pointer (some ⟨b0, 0, none⟩)), (3, .int .i64 ((j : Int) - 1))])
    (fun j => [blk b0 (.cells (ints .u64 (dl 18446744073709551616 4 (x))) 50 (0, 0))]) (fun j => j) 4 ⟨by omega, Nat.div_eq_of_lt (Nat.lt_of_lt_of_le hx (by decide))⟩ (by repeat (first | exact Env.sub_nil _ | (apply Env.sub_cons; rfl))) [] rfl ?_
  rintro j ⟨hj, hz⟩
  by_cases h : j = 0
  · subst h
    refine T_seq ?_
    refine T_sr ?_
    refine S_mv rfl rfl rfl ?_
    refine S_val rfl rfl (Y_geq_f rfl rfl (by decide)) ?_
    refine S_nx ?_
    refine T_cond_false rfl ?_
    refine T_exit ?_
    refine X_seq_exit ?_
    refine X_loop_exit ?_
    refine X_blk_hit rfl ?_
    refine X_seq ?_
    refine T_sr ?_
    refine S_as rfl rfl rfl ?_
    refine S_nx ?_
    refine T_ret ?_
    ((first | refine X_fin_ret ?_ | refine X_fin ?_); exact ⟨[_], [], .cons (.tmp rfl) .nil, Emb.nil _, by rw [show x = 0 by simpa using hz]; rfl, rfl⟩)
  · obtain ⟨i, rfl⟩ : ∃ i, j = i + 1 := ⟨j - 1, by omega⟩
    rw [show (((i + 1 : Nat) : Int) - 1) = (i : Int) by omega]
    have hd := digit_lt x i
    by_cases h0 : x / 18446744073709551616 ^ i % 18446744073709551616 = 0
    · refine T_seq ?_
      refine T_sr ?_
      refine S_mv rfl rfl rfl ?_
      refine S_val rfl rfl (Y_geq_t rfl rfl (by omega)) ?_
      refine S_nx ?_
      refine T_cond_true rfl ?_
      refine T_skip ?_
      refine X_seq ?_
      refine T_seq ?_
      refine T_block ?_
      refine T_sr ?_
      refine S_mv rfl rfl rfl ?_
      refine S_val rfl rfl (Y_ixa (und rfl) (siz rfl) rfl rfl (nat_cast _) (by assumption)) ?_
      refine S_val rfl rfl (Y_loadI 0 (und rfl) rfl rfl rfl (dl_get (by assumption))) ?_
      refine S_val rfl rfl (Y_neq_f rfl rfl (by omega)) ?_
      refine S_nx ?_
      refine T_cond_false rfl ?_
      refine T_skip ?_
      refine X_blk ?_
      refine X_seq ?_
      refine T_region ?_
      refine S_mv rfl rfl rfl ?_
      refine S_val rfl rfl (Y_sub rfl rfl (wi64 (by omega) (by omega))) ?_
      refine S_as rfl rfl rfl ?_
      refine S_nil ?_
      refine X_loop ?_
      have hz' : x / 18446744073709551616 ^ i = 0 := by
        rw [Nat.pow_succ, ← Nat.div_div_eq_div_mul] at hz
        omega
      exact ⟨i, ⟨by omega, hz'⟩, by omega, (by repeat (first | exact Env.sub_nil _ | (apply Env.sub_cons; rfl))), [], rfl⟩
    · have hl := bitLen_le64 _ hd
      have ht := bitLen_top x i hz h0
      refine T_seq ?_
      refine T_sr ?_
      refine S_mv rfl rfl rfl ?_
      refine S_val rfl rfl (Y_geq_t rfl rfl (by omega)) ?_
      refine S_nx ?_
      refine T_cond_true rfl ?_
      refine T_skip ?_
      refine X_seq ?_
      refine T_seq ?_
      refine T_block ?_
      refine T_sr ?_
      refine S_mv rfl rfl rfl ?_
      refine S_val rfl rfl (Y_ixa (und rfl) (siz rfl) rfl rfl (nat_cast _) (by assumption)) ?_
      refine S_val rfl rfl (Y_loadI 0 (und rfl) rfl rfl rfl (dl_get (by assumption))) ?_
      refine S_val rfl rfl (Y_neq_t rfl rfl (by omega)) ?_
      refine S_nx ?_
      refine T_cond_true rfl ?_
      refine T_sr ?_
      refine S_mv rfl rfl rfl ?_
      refine S_val rfl rfl (Y_mulN rfl rfl (nat_lit' _) (nat_cast _) (by omega)) ?_
      refine S_mv rfl rfl rfl ?_
      refine S_val rfl rfl (Y_ixa (und rfl) (siz rfl) rfl rfl (nat_cast _) (by assumption)) ?_
      refine S_val rfl rfl (Y_loadI 0 (und rfl) rfl rfl rfl (dl_get (by assumption))) ?_
      refine S_callV rfl rfl (bod rfl) (fun w hs => len64_any _ hd _) rfl rfl ?_
      refine S_val rfl rfl (Y_addN rfl rfl (nat_cast _) (nat_cast _) (by omega)) ?_
      refine S_as rfl rfl rfl ?_
      refine S_nx ?_
      refine T_ret ?_
      refine X_blk_ret ?_
      refine X_seq_ret ?_
      refine X_loop_ret ?_
      refine X_blk_ret ?_
      refine X_seq_ret ?_
      ((first | refine X_fin_ret ?_ | refine X_fin ?_); exact ⟨[_], [], .cons (.tmp rfl) .nil, Emb.nil _, int_congr (by rw [ht]), rfl⟩)
end Go.Proofs.YtjolmphkmfbpbaaDoor
/- The calls of the reference of layer 1, as numbers. -/
namespace Go.Proofs.YtjolmphkmfbpbaaDoor
open Go.RowKit
set_option maxRecDepth 10000
set_option maxHeartbeats 4000000
theorem dig256_lt (x i : Nat) : x / 256 ^ i % 256 < 256 := Nat.mod_lt _ (by omega)
/-- The parts of a word whose digits from j on are in. -/
def wst (x j : Nat) : List Int := (List.range 4).map fun t => ((x / 18446744073709551616 ^ t % 18446744073709551616 / 256 ^ (j - 8 * t) : Nat) : Int)
@[simp] theorem wst_length (x j : Nat) : (wst x j).length = 4 := by simp [wst]
end Go.Proofs.YtjolmphkmfbpbaaDoor
/- The reference's numbers of any length. -/
namespace Go.Proofs.YtjolmphkmfbpbaaDoor
open Go.RowKit
set_option maxRecDepth 10000
set_option maxHeartbeats 4000000
theorem nat_any (x n i : Nat) (hx : x < 256 ^ n) (_hi : i < 1000000000000) (v : Value) (w : World) (hr : Rd w v .i64 (dl 256 n x)) :
    Fn Tryd.prog 70 #[v, .int .i64 i] w fun u N => u = .int .i64 ((x / 256 ^ i % 256 : Nat) : Int) ∧ N = [] := by
  by_cases h : i < n
  · refine Fn_of (args := [v, .int .i64 i]) Tryd.func70 rfl Tryd.ntmps70 Tryd.results70 (by simp) ?_
    refine T_sr ?_
    refine S_as rfl rfl rfl ?_
    refine S_nx ?_
    refine T_seq ?_
    refine T_sr ?_
    refine S_mv rfl rfl rfl ?_
    refine S_mv rfl rfl rfl ?_
    refine S_val rfl rfl (Y_lenV rfl (und rfl) rfl (fun _ hs => Rd.st (by assumption) hs) (dl_length _ _ _)) ?_
    refine S_val rfl rfl (Y_lss_t rfl rfl (by omega)) ?_
    refine S_nx ?_
    refine T_cond_true rfl ?_
    refine T_sr ?_
    refine S_mv rfl rfl rfl ?_
    refine S_mv rfl rfl rfl ?_
    refine S_val rfl rfl (Y_ixV (und rfl) (siz rfl) rfl rfl (fun _ hs => Rd.st (by assumption) hs) (nat_cast _) (dl_lt (by assumption))) ?_
    refine S_val rfl rfl (Y_loadV (und rfl) rfl rfl (fun _ hs => Rd.st (by assumption) hs) (dl_get (by assumption))) ?_
    refine S_as rfl rfl rfl ?_
    refine S_nx ?_
    refine T_ret ?_
    refine X_seq_ret ?_
    ((first | refine X_fin_ret ?_ | refine X_fin ?_); exact ⟨[_], [], .cons (.tmp rfl) .nil, Emb.nil _, rfl, rfl⟩)
  · refine Fn_of (args := [v, .int .i64 i]) Tryd.func70 rfl Tryd.ntmps70 Tryd.results70 (by simp) ?_
    refine T_sr ?_
    refine S_as rfl rfl rfl ?_
    refine S_nx ?_
    refine T_seq ?_
    refine T_sr ?_
    refine S_mv rfl rfl rfl ?_
    refine S_mv rfl rfl rfl ?_
    refine S_val rfl rfl (Y_lenV rfl (und rfl) rfl (fun _ hs => Rd.st (by assumption) hs) (dl_length _ _ _)) ?_
    refine S_val rfl rfl (Y_lss_f rfl rfl (by omega)) ?_
    refine S_nx ?_
    refine T_cond_false rfl ?_
    refine T_skip ?_
    refine X_seq ?_
    refine T_sr ?_
    refine S_as rfl rfl rfl ?_
    refine S_nx ?_
    refine T_ret ?_
    ((first | refine X_fin_ret ?_ | refine X_fin ?_); exact ⟨[_], [], .cons (.tmp rfl) .nil, Emb.nil _, by rw [dig_high' (by omega) hx (by omega)]; rfl, rfl⟩)
theorem digits_eq {x y i : Nat} (h : x / 256 ^ (i + 1) = y / 256 ^ (i + 1)) (hd : x / 256 ^ i % 256 = y / 256 ^ i % 256) : x / 256 ^ i = y / 256 ^ i := by
  rw [Nat.pow_succ, ← Nat.div_div_eq_div_mul, ← Nat.div_div_eq_div_mul] at h
  omega
theorem digits_lt {x y i : Nat} (h : x / 256 ^ (i + 1) = y / 256 ^ (i + 1)) (hlt : x / 256 ^ i % 256 < y / 256 ^ i % 256) : x < y := by
  rw [Nat.pow_succ, ← Nat.div_div_eq_div_mul, ← Nat.div_div_eq_div_mul] at h
  exact Nat.lt_of_div_lt_div (c := 256 ^ i) (by omega)
theorem nless_any (x y n m : Nat) (hx : x < 256 ^ n) (hy : y < 256 ^ m) (hn : n ≤ 1000000) (hm : m ≤ 1000000) (v u : Value) (w : World) (hv : Rd w v .i64 (dl 256 n x)) (hu : Rd w u .i64 (dl 256 m y)) :
    Fn Tryd.prog 49 #[v, u] w fun r N => r = .bool (decide (x < y)) ∧ N = [] := by
  refine Fn_of (args := [v, u]) Tryd.func49 rfl Tryd.ntmps49 Tryd.results49 (by simp) ?_
  refine T_sr ?_
  refine S_as rfl rfl rfl ?_
  refine S_nx ?_
  refine T_seq ?_
  refine T_sr ?_
  refine S_mv rfl rfl rfl ?_
  refine S_val rfl rfl (Y_lenV rfl (und rfl) rfl (fun _ hs => Rd.st (by assumption) hs) (dl_length _ _ _)) ?_
  refine S_mv rfl rfl rfl ?_
  refine S_val rfl rfl (Y_lenV rfl (und rfl) rfl (fun _ hs => Rd.st (by assumption) hs) (dl_length _ _ _)) ?_
  refine S_val rfl rfl (Y_max rfl rfl (nat_cast _) (nat_cast _)) ?_
  refine S_val rfl rfl (Y_sub rfl rfl (wi64 (by omega) (by omega))) ?_
  refine S_as rfl rfl rfl ?_
  refine S_nx ?_
  refine T_block ?_
  refine T_loop (α := Nat) (fun j => j ≤ max n m ∧ x / 256 ^ j = y / 256 ^ j)
    (fun j => [(0, v), (1, u), (5, .int .i64 ((j : Int) - 1))])
    (fun j => [])
    (fun j => j) (max n m) ⟨Nat.le_refl _, by rw [dig_high (by omega) hx (Nat.le_max_left _ _), dig_high (by omega) hy (Nat.le_max_right _ _)]⟩ (by repeat (first | exact Env.sub_nil _ | (apply Env.sub_cons; rfl))) [] rfl ?_
  intro j ⟨hj, he⟩
  by_cases h : j = 0
  · subst h
    have hxy : x = y := by simpa using he
    refine T_seq ?_
    refine T_sr ?_
    refine S_mv rfl rfl rfl ?_
    refine S_val rfl rfl (Y_geq_f rfl rfl (by decide)) ?_
    refine S_nx ?_
    refine T_cond_false rfl ?_
    refine T_exit ?_
    refine X_seq_exit ?_
    refine X_loop_exit ?_
    refine X_blk_hit rfl ?_
    refine X_seq ?_
    refine T_sr ?_
    refine S_as rfl rfl rfl ?_
    refine S_nx ?_
    refine T_ret ?_
    ((first | refine X_fin_ret ?_ | refine X_fin ?_); exact ⟨[_], [], .cons (.tmp rfl) .nil, Emb.nil _, by rw [decide_eq_false (by omega)]; rfl, rfl⟩)
  · obtain ⟨i, rfl⟩ : ∃ i, j = i + 1 := ⟨j - 1, by omega⟩
    rw [show (((i + 1 : Nat) : Int) - 1) = (i : Int) by omega]
    rcases Nat.lt_trichotomy (x / 256 ^ i % 256) (y / 256 ^ i % 256) with hc | hc | hc
    · have hl := digits_lt he hc
      refine T_seq ?_
      refine T_sr ?_
      refine S_mv rfl rfl rfl ?_
      refine S_val rfl rfl (Y_geq_t rfl rfl (by omega)) ?_
      refine S_nx ?_
      refine T_cond_true rfl ?_
      refine T_skip ?_
      refine X_seq ?_
      refine T_seq ?_
      refine T_block ?_
      refine T_sr ?_
      refine S_mv rfl rfl rfl ?_
      refine S_mv rfl rfl rfl ?_
      refine S_callV rfl rfl (bod rfl) (fun w hs => nat_any x n i hx (by omega) v _ (by first | exact hs.rowRd 0 rfl | exact hs.rowRd 1 rfl | exact hs.rowRd 2 rfl | exact hs.rowRd 3 rfl | exact hs.rowRd 4 rfl | exact hs.rowRd 5 rfl | exact hs.rowRd 6 rfl | exact hs.rowRd 7 rfl | exact hs.rowRd 8 rfl | exact hs.rowRd 9 rfl | exact hs.rowRd 10 rfl | exact hs.rowRd 11 rfl | exact hs.rowRd 12 rfl | exact hs.rowRd 13 rfl | exact Rd.st (by assumption) hs)) rfl rfl ?_
      refine S_mv rfl rfl rfl ?_
      refine S_mv rfl rfl rfl ?_
      refine S_callV rfl rfl (bod rfl) (fun w hs => nat_any y m i hy (by omega) u _ (by first | exact hs.rowRd 0 rfl | exact hs.rowRd 1 rfl | exact hs.rowRd 2 rfl | exact hs.rowRd 3 rfl | exact hs.rowRd 4 rfl | exact hs.rowRd 5 rfl | exact hs.rowRd 6 rfl | exact hs.rowRd 7 rfl | exact hs.rowRd 8 rfl | exact hs.rowRd 9 rfl | exact hs.rowRd 10 rfl | exact hs.rowRd 11 rfl | exact hs.rowRd 12 rfl | exact hs.rowRd 13 rfl | exact Rd.st (by assumption) hs)) rfl rfl ?_
      refine S_val rfl rfl (Y_neq_t rfl rfl (by omega)) ?_
      refine S_nx ?_
      refine T_cond_true rfl ?_
      refine T_sr ?_
      refine S_mv rfl rfl rfl ?_
      refine S_mv rfl rfl rfl ?_
      refine S_callV rfl rfl (bod rfl) (fun w hs => nat_any x n i hx (by omega) v _ (by first | exact hs.rowRd 0 rfl | exact hs.rowRd 1 rfl | exact hs.rowRd 2 rfl | exact hs.rowRd 3 rfl | exact hs.rowRd 4 rfl | exact hs.rowRd 5 rfl | exact hs.rowRd 6 rfl | exact hs.rowRd 7 rfl | exact hs.rowRd 8 rfl | exact hs.rowRd 9 rfl | exact hs.rowRd 10 rfl | exact hs.rowRd 11 rfl | exact hs.rowRd 12 rfl | exact hs.rowRd 13 rfl | exact Rd.st (by assumption) hs)) rfl rfl ?_
      refine S_mv rfl rfl rfl ?_
      refine S_mv rfl rfl rfl ?_
      refine S_callV rfl rfl (bod rfl) (fun w hs => nat_any y m i hy (by omega) u _ (by first | exact hs.rowRd 0 rfl | exact hs.rowRd 1 rfl | exact hs.rowRd 2 rfl | exact hs.rowRd 3 rfl | exact hs.rowRd 4 rfl | exact hs.rowRd 5 rfl | exact hs.rowRd 6 rfl | exact hs.rowRd 7 rfl | exact hs.rowRd 8 rfl | exact hs.rowRd 9 rfl | exact hs.rowRd 10 rfl | exact hs.rowRd 11 rfl | exact hs.rowRd 12 rfl | exact hs.rowRd 13 rfl | exact Rd.st (by assumption) hs)) rfl rfl ?_
      refine S_val rfl rfl (Y_lss_t rfl rfl (by omega)) ?_
      refine S_as rfl rfl rfl ?_
      refine S_nx ?_
      refine T_ret ?_
      refine X_blk_ret ?_
      refine X_seq_ret ?_
      refine X_loop_ret ?_
      refine X_blk_ret ?_
      refine X_seq_ret ?_
      ((first | refine X_fin_ret ?_ | refine X_fin ?_); exact ⟨[_], [], .cons (.tmp rfl) .nil, Emb.nil _, by rw [decide_eq_true hl]; rfl, rfl⟩)
    · have e := digits_eq he hc
      refine T_seq ?_
      refine T_sr ?_
      refine S_mv rfl rfl rfl ?_
      refine S_val rfl rfl (Y_geq_t rfl rfl (by omega)) ?_
      refine S_nx ?_
      refine T_cond_true rfl ?_
      refine T_skip ?_
      refine X_seq ?_
      refine T_seq ?_
      refine T_block ?_
      refine T_sr ?_
      refine S_mv rfl rfl rfl ?_
      refine S_mv rfl rfl rfl ?_
      refine S_callV rfl rfl (bod rfl) (fun w hs => nat_any x n i hx (by omega) v _ (by first | exact hs.rowRd 0 rfl | exact hs.rowRd 1 rfl | exact hs.rowRd 2 rfl | exact hs.rowRd 3 rfl | exact hs.rowRd 4 rfl | exact hs.rowRd 5 rfl | exact hs.rowRd 6 rfl | exact hs.rowRd 7 rfl | exact hs.rowRd 8 rfl | exact hs.rowRd 9 rfl | exact hs.rowRd 10 rfl | exact hs.rowRd 11 rfl | exact hs.rowRd 12 rfl | exact hs.rowRd 13 rfl | exact Rd.st (by assumption) hs)) rfl rfl ?_
      refine S_mv rfl rfl rfl ?_
      refine S_mv rfl rfl rfl ?_
      refine S_callV rfl rfl (bod rfl) (fun w hs => nat_any y m i hy (by omega) u _ (by first | exact hs.rowRd 0 rfl | exact hs.rowRd 1 rfl | exact hs.rowRd 2 rfl | exact hs.rowRd 3 rfl | exact hs.rowRd 4 rfl | exact hs.rowRd 5 rfl | exact hs.rowRd 6 rfl | exact hs.rowRd 7 rfl | exact hs.rowRd 8 rfl | exact hs.rowRd 9 rfl | exact hs.rowRd 10 rfl | exact hs.rowRd 11 rfl | exact hs.rowRd 12 rfl | exact hs.rowRd 13 rfl | exact Rd.st (by assumption) hs)) rfl rfl ?_
      refine S_val rfl rfl (Y_neq_f rfl rfl (by omega)) ?_
      refine S_nx ?_
      refine T_cond_false rfl ?_
      refine T_skip ?_
      refine X_blk ?_
      refine X_seq ?_
      refine T_region ?_
      refine S_mv rfl rfl rfl ?_
      refine S_val rfl rfl (Y_sub rfl rfl (wi64 (by omega) (by omega))) ?_
      refine S_as rfl rfl rfl ?_
      refine S_nil ?_
      refine X_loop ?_
      exact ⟨i, ⟨by omega, e⟩, by omega, (by repeat (first | exact Env.sub_nil _ | (apply Env.sub_cons; rfl))), [], rfl⟩
    · have hl := digits_lt he.symm hc
      refine T_seq ?_
      refine T_sr ?_
      refine S_mv rfl rfl rfl ?_
      refine S_val rfl rfl (Y_geq_t rfl rfl (by omega)) ?_
      refine S_nx ?_
      refine T_cond_true rfl ?_
      refine T_skip ?_
      refine X_seq ?_
      refine T_seq ?_
      refine T_block ?_
      refine T_sr ?_
      refine S_mv rfl rfl rfl ?_
      refine S_mv rfl rfl rfl ?_
      refine S_callV rfl rfl (bod rfl) (fun w hs => nat_any x n i hx (by omega) v _ (by first | exact hs.rowRd 0 rfl | exact hs.rowRd 1 rfl | exact hs.rowRd 2 rfl | exact hs.rowRd 3 rfl | exact hs.rowRd 4 rfl | exact hs.rowRd 5 rfl | exact hs.rowRd 6 rfl | exact hs.rowRd 7 rfl | exact hs.rowRd 8 rfl | exact hs.rowRd 9 rfl | exact hs.rowRd 10 rfl | exact hs.rowRd 11 rfl | exact hs.rowRd 12 rfl | exact hs.rowRd 13 rfl | exact Rd.st (by assumption) hs)) rfl rfl ?_
      refine S_mv rfl rfl rfl ?_
      refine S_mv rfl rfl rfl ?_
      refine S_callV rfl rfl (bod rfl) (fun w hs => nat_any y m i hy (by omega) u _ (by first | exact hs.rowRd 0 rfl | exact hs.rowRd 1 rfl | exact hs.rowRd 2 rfl | exact hs.rowRd 3 rfl | exact hs.rowRd 4 rfl | exact hs.rowRd 5 rfl | exact hs.rowRd 6 rfl | exact hs.rowRd 7 rfl | exact hs.rowRd 8 rfl | exact hs.rowRd 9 rfl | exact hs.rowRd 10 rfl | exact hs.rowRd 11 rfl | exact hs.rowRd 12 rfl | exact hs.rowRd 13 rfl | exact Rd.st (by assumption) hs)) rfl rfl ?_
      refine S_val rfl rfl (Y_neq_t rfl rfl (by omega)) ?_
      refine S_nx ?_
      refine T_cond_true rfl ?_
      refine T_sr ?_
      refine S_mv rfl rfl rfl ?_
      refine S_mv rfl rfl rfl ?_
      refine S_callV rfl rfl (bod rfl) (fun w hs => nat_any x n i hx (by omega) v _ (by first | exact hs.rowRd 0 rfl | exact hs.rowRd 1 rfl | exact hs.rowRd 2 rfl | exact hs.rowRd 3 rfl | exact hs.rowRd 4 rfl | exact hs.rowRd 5 rfl | exact hs.rowRd 6 rfl | exact hs.rowRd 7 rfl | exact hs.rowRd 8 rfl | exact hs.rowRd 9 rfl | exact hs.rowRd 10 rfl | exact hs.rowRd 11 rfl | exact hs.rowRd 12 rfl | exact hs.rowRd 13 rfl | exact Rd.st (by assumption) hs)) rfl rfl ?_
      refine S_mv rfl rfl rfl ?_
      refine S_mv rfl rfl rfl ?_
      refine S_callV rfl rfl (bod rfl) (fun w hs => nat_any y m i hy (by omega) u _ (by first | exact hs.rowRd 0 rfl | exact hs.rowRd 1 rfl | exact hs.rowRd 2 rfl | exact hs.rowRd 3 rfl | exact hs.rowRd 4 rfl | exact hs.rowRd 5 rfl | exact hs.rowRd 6 rfl | exact hs.rowRd 7 rfl | exact hs.rowRd 8 rfl | exact hs.rowRd 9 rfl | exact hs.rowRd 10 rfl | exact hs.rowRd 11 rfl | exact hs.rowRd 12 rfl | exact hs.rowRd 13 rfl | exact Rd.st (by assumption) hs)) rfl rfl ?_
      refine S_val rfl rfl (Y_lss_f rfl rfl (by omega)) ?_
      refine S_as rfl rfl rfl ?_
      refine S_nx ?_
      refine T_ret ?_
      refine X_blk_ret ?_
      refine X_seq_ret ?_
      refine X_loop_ret ?_
      refine X_blk_ret ?_
      refine X_seq_ret ?_
      ((first | refine X_fin_ret ?_ | refine X_fin ?_); exact ⟨[_], [], .cons (.tmp rfl) .nil, Emb.nil _, by rw [decide_eq_false (by omega)]; rfl, rfl⟩)
theorem nzero_any (x n : Nat) (hx : x < 256 ^ n) (hn : n ≤ 1000000) (v : Value) (w : World) (hv : Rd w v .i64 (dl 256 n x)) : Fn Tryd.prog 47 #[v] w fun r N => r = .bool (decide (x = 0)) ∧ N = [] := by
  refine Fn_of (args := [v]) Tryd.func47 rfl Tryd.ntmps47 Tryd.results47 (by simp) ?_
  refine T_sr ?_
  refine S_as rfl rfl rfl ?_
  refine S_nx ?_
  refine T_seq ?_
  refine T_sr ?_
  refine S_mv rfl rfl rfl ?_
  refine S_val rfl rfl (Y_lenV rfl (und rfl) rfl (fun _ hs => Rd.st (by assumption) hs) (dl_length _ _ _)) ?_
  refine S_mv rfl rfl rfl ?_
  refine S_nx ?_
  refine T_block ?_
  refine T_loop (α := Nat) (fun j => j ≤ n ∧ x % 256 ^ j = 0)
    (fun j => [(0, v), (5, .int .i64 n), (6, .int .i64 j)])
    (fun j => [])
    (fun j => n - j) 0 ⟨by omega, by simp [Nat.mod_one]⟩ (by repeat (first | exact Env.sub_nil _ | (apply Env.sub_cons; rfl))) [] rfl ?_
  intro j ⟨hj, he⟩
  by_cases h : j < n
  · by_cases h0 : x / 256 ^ j % 256 = 0
    · refine T_sr ?_
      refine S_val rfl rfl (Y_lss_t rfl rfl (by omega)) ?_
      refine S_nx ?_
      refine T_seq ?_
      refine T_cond_true rfl ?_
      refine T_skip ?_
      refine X_seq ?_
      refine T_seq ?_
      refine T_block ?_
      refine T_sr ?_
      refine S_mv rfl rfl rfl ?_
      refine S_as rfl rfl rfl ?_
      refine S_nx ?_
      refine T_sr ?_
      refine S_mv rfl rfl rfl ?_
      refine S_mv rfl rfl rfl ?_
      refine S_val rfl rfl (Y_ixV (und rfl) (siz rfl) rfl rfl (fun _ hs => Rd.st (by assumption) hs) (nat_cast _) (dl_lt (by assumption))) ?_
      refine S_val rfl rfl (Y_loadV (und rfl) rfl rfl (fun _ hs => Rd.st (by assumption) hs) (dl_get (by assumption))) ?_
      refine S_val rfl rfl (Y_neq_f rfl rfl (by omega)) ?_
      refine S_nx ?_
      refine T_cond_false rfl ?_
      refine T_skip ?_
      refine X_blk ?_
      refine X_seq ?_
      refine T_region ?_
      refine S_val rfl rfl (Y_addN rfl rfl (nat_cast _) (nat_lit' _) (by omega)) ?_
      refine S_mv rfl rfl rfl ?_
      refine S_nil ?_
      refine X_loop ?_
      exact ⟨j + 1, ⟨by omega, by rw [mod_pow_succ', h0, he, Nat.zero_mul]⟩, by omega, (by repeat (first | exact Env.sub_nil _ | (apply Env.sub_cons; rfl))), [], rfl⟩
    · refine T_sr ?_
      refine S_val rfl rfl (Y_lss_t rfl rfl (by omega)) ?_
      refine S_nx ?_
      refine T_seq ?_
      refine T_cond_true rfl ?_
      refine T_skip ?_
      refine X_seq ?_
      refine T_seq ?_
      refine T_block ?_
      refine T_sr ?_
      refine S_mv rfl rfl rfl ?_
      refine S_as rfl rfl rfl ?_
      refine S_nx ?_
      refine T_sr ?_
      refine S_mv rfl rfl rfl ?_
      refine S_mv rfl rfl rfl ?_
      refine S_val rfl rfl (Y_ixV (und rfl) (siz rfl) rfl rfl (fun _ hs => Rd.st (by assumption) hs) (nat_cast _) (dl_lt (by assumption))) ?_
      refine S_val rfl rfl (Y_loadV (und rfl) rfl rfl (fun _ hs => Rd.st (by assumption) hs) (dl_get (by assumption))) ?_
      refine S_val rfl rfl (Y_neq_t rfl rfl (by omega)) ?_
      refine S_nx ?_
      refine T_cond_true rfl ?_
      refine T_sr ?_
      refine S_as rfl rfl rfl ?_
      refine S_nx ?_
      refine T_ret ?_
      refine X_blk_ret ?_
      refine X_seq_ret ?_
      refine X_loop_ret ?_
      refine X_blk_ret ?_
      refine X_seq_ret ?_
      ((first | refine X_fin_ret ?_ | refine X_fin ?_); exact ⟨[_], [], .cons (.tmp rfl) .nil, Emb.nil _, by rw [decide_eq_false (by rintro rfl; simp at h0)]; rfl, rfl⟩)
  · obtain rfl : j = n := by omega
    refine T_sr ?_
    refine S_val rfl rfl (Y_lss_f rfl rfl (by omega)) ?_
    refine S_nx ?_
    refine T_seq ?_
    refine T_cond_false rfl ?_
    refine T_exit ?_
    refine X_seq_exit ?_
    refine X_loop_exit ?_
    refine X_blk_hit rfl ?_
    refine X_seq ?_
    refine T_sr ?_
    refine S_as rfl rfl rfl ?_
    refine S_nx ?_
    refine T_ret ?_
    ((first | refine X_fin_ret ?_ | refine X_fin ?_); exact ⟨[_], [], .cons (.tmp rfl) .nil, Emb.nil _, by rw [decide_eq_true (by rwa [Nat.mod_eq_of_lt hx] at he)]; rfl, rfl⟩)
theorem sum_digit (b i x y : Nat) (hb : 0 < b) : (x + y) / b ^ i % b = (x / b ^ i % b + y / b ^ i % b + (x % b ^ i + y % b ^ i) / b ^ i) % b := by
  have hP : 0 < b ^ i := Nat.pow_pos hb
  have e : (x + y) / b ^ i = x / b ^ i + y / b ^ i + (x % b ^ i + y % b ^ i) / b ^ i := by
    have h1 := Nat.div_add_mod x (b ^ i)
    have h2 := Nat.div_add_mod y (b ^ i)
    have : x + y = (x % b ^ i + y % b ^ i) + (x / b ^ i + y / b ^ i) * b ^ i := by
      rw [Nat.add_mul, Nat.mul_comm (x / b ^ i), Nat.mul_comm (y / b ^ i)]
      omega
    rw [this, Nat.add_mul_div_right _ _ hP]
    omega
  rw [e]
  conv => lhs; rw [Nat.add_mod, Nat.add_mod (x / b ^ i)]
  conv => rhs; rw [Nat.add_mod]
theorem sum_carry (b i x y : Nat) (hb : 0 < b) : (x % b ^ (i + 1) + y % b ^ (i + 1)) / b ^ (i + 1) = (x / b ^ i % b + y / b ^ i % b + (x % b ^ i + y % b ^ i) / b ^ i) / b := (add_step b i x y hb).2
theorem carry_le (b i x y : Nat) (hb : 0 < b) : (x % b ^ i + y % b ^ i) / b ^ i ≤ 1 := by
  have hP : 0 < b ^ i := Nat.pow_pos hb
  have := Nat.mod_lt x hP
  have := Nat.mod_lt y hP
  exact Nat.le_of_lt_succ (Nat.div_lt_of_lt_mul (by omega))
theorem nplus_any (x y n m : Nat) (hx : x < 256 ^ n) (hy : y < 256 ^ m) (hn : n ≤ 1000000) (hm : m ≤ 1000000) (v u : Value) (w : World) (hv : Rd w v .i64 (dl 256 n x)) (hu : Rd w u .i64 (dl 256 m y)) :
    Fn Tryd.prog 45 #[v, u] w fun r N => N = [row .i64 (dl 256 (max n m + 1) (x + y)) r] := by
  refine Fn_of (args := [v, u]) Tryd.func45 rfl Tryd.ntmps45 Tryd.results45 (by simp) ?_
  refine T_sr ?_
  refine S_as rfl rfl rfl ?_
  refine S_nx ?_
  refine T_sr ?_
  refine S_sliceR (und rfl) (siz rfl) (zer rfl) rfl rfl rfl rfl fun _ => ?_
  refine S_as rfl rfl rfl ?_
  refine S_nx ?_
  refine T_sr ?_
  refine S_as rfl rfl rfl ?_
  refine S_nx ?_
  refine T_seq ?_
  refine T_sr ?_
  refine S_as rfl rfl rfl ?_
  refine S_nx ?_
  refine T_block ?_
  rename_i v0
  refine T_loop (α := Nat × Nat × Value) (fun a => a.1 ≤ max n m + 1 ∧ a.2.1 = (x % 256 ^ a.1 + y % 256 ^ a.1) / 256 ^ a.1)
    (fun a => [(0, v), (1, u), (5, a.2.2), (6, .int .i64 a.2.1), (7, .int .i64 a.1)])
    (fun a => [row .i64 (dl 256 a.1 (x + y)) a.2.2])
    (fun a => max n m + 1 - a.1) (0, 0, v0) (by simp [Nat.mod_one]) (by repeat (first | exact Env.sub_nil _ | (apply Env.sub_cons; rfl))) [] rfl ?_
  rintro ⟨i, c, v1⟩ ⟨hi, hc⟩
  dsimp only at hi hc ⊢
  have hc1 := carry_le 256 i x y (by omega)
  have hx1 := dig256_lt x i
  have hy1 := dig256_lt y i
  have hs := sum_digit 256 i x y (by omega)
  have hc2 := sum_carry 256 i x y (by omega)
  rw [← hc] at hs hc2 hc1
  by_cases h : i < max n m + 1
  · refine T_seq ?_
    refine T_sr ?_
    refine S_mv rfl rfl rfl ?_
    refine S_mv rfl rfl rfl ?_
    refine S_val rfl rfl (Y_lenV rfl (und rfl) rfl (fun _ hs => Rd.st (by assumption) hs) (dl_length _ _ _)) ?_
    refine S_mv rfl rfl rfl ?_
    refine S_val rfl rfl (Y_lenV rfl (und rfl) rfl (fun _ hs => Rd.st (by assumption) hs) (dl_length _ _ _)) ?_
    refine S_val rfl rfl (Y_max rfl rfl (nat_cast _) (nat_cast _)) ?_
    refine S_val rfl rfl (Y_addN rfl rfl (nat_cast _) (nat_lit' _) (by omega)) ?_
    refine S_val rfl rfl (Y_lss_t rfl rfl (by omega)) ?_
    refine S_nx ?_
    refine T_cond_true rfl ?_
    refine T_skip ?_
    refine X_seq ?_
    refine T_seq ?_
    refine T_block ?_
    refine T_sr ?_
    refine S_mv rfl rfl rfl ?_
    refine S_mv rfl rfl rfl ?_
    refine S_callV rfl rfl (bod rfl) (fun w hs => nat_any x n i hx (by omega) v _ (by first | exact hs.rowRd 0 rfl | exact hs.rowRd 1 rfl | exact hs.rowRd 2 rfl | exact hs.rowRd 3 rfl | exact hs.rowRd 4 rfl | exact hs.rowRd 5 rfl | exact hs.rowRd 6 rfl | exact hs.rowRd 7 rfl | exact hs.rowRd 8 rfl | exact hs.rowRd 9 rfl | exact hs.rowRd 10 rfl | exact hs.rowRd 11 rfl | exact hs.rowRd 12 rfl | exact hs.rowRd 13 rfl | exact Rd.st (by assumption) hs)) rfl rfl ?_
    refine S_mv rfl rfl rfl ?_
    refine S_mv rfl rfl rfl ?_
    refine S_callV rfl rfl (bod rfl) (fun w hs => nat_any y m i hy (by omega) u _ (by first | exact hs.rowRd 0 rfl | exact hs.rowRd 1 rfl | exact hs.rowRd 2 rfl | exact hs.rowRd 3 rfl | exact hs.rowRd 4 rfl | exact hs.rowRd 5 rfl | exact hs.rowRd 6 rfl | exact hs.rowRd 7 rfl | exact hs.rowRd 8 rfl | exact hs.rowRd 9 rfl | exact hs.rowRd 10 rfl | exact hs.rowRd 11 rfl | exact hs.rowRd 12 rfl | exact hs.rowRd 13 rfl | exact Rd.st (by assumption) hs)) rfl rfl ?_
    refine S_val rfl rfl (Y_addN rfl rfl (nat_cast _) (nat_cast _) (by omega)) ?_
    refine S_mv rfl rfl rfl ?_
    refine S_val rfl rfl (Y_addN rfl rfl (nat_cast _) (nat_cast _) (by omega)) ?_
    refine S_as rfl rfl rfl ?_
    refine S_nx ?_
    refine T_sr ?_
    refine S_mv rfl rfl rfl ?_
    refine S_mv rfl rfl rfl ?_
    refine S_val rfl rfl (Y_remN rfl rfl (nat_cast _) (nat_lit' _) (Nat.succ_ne_zero _)) ?_
    refine S_sliceR (und rfl) (siz rfl) (zer rfl) rfl rfl rfl rfl fun _ => ?_
    refine S_append 0 rfl (und rfl) (und rfl) (siz rfl) (byt rfl) (zer rfl) rfl rfl rfl (fun _ hs => hs.rowRd 1 rfl) (by simp; omega) rfl rfl rfl fun _ => ?_
    refine S_as rfl rfl rfl ?_
    refine S_nx ?_
    refine T_region ?_
    refine S_mv rfl rfl rfl ?_
    refine S_val rfl rfl (Y_quoN rfl rfl (nat_cast _) (nat_lit' _) (Nat.succ_ne_zero _) (by first | with_reducible exact xi64 (by omega) | with_reducible exact x64 (by omega) | with_reducible exact x8 (by omega) | with_reducible exact x32 (by omega))) ?_
    refine S_as rfl rfl rfl ?_
    refine S_nil ?_
    refine X_blk ?_
    refine X_seq ?_
    refine T_region ?_
    refine S_mv rfl rfl rfl ?_
    refine S_val rfl rfl (Y_addN rfl rfl (nat_cast _) (nat_lit' _) (by omega)) ?_
    refine S_as rfl rfl rfl ?_
    refine S_nil ?_
    refine X_loop ?_
    refine ⟨(i + 1, (x / 256 ^ i % 256 + y / 256 ^ i % 256 + c) / 256, _), ⟨by dsimp only; omega, hc2.symm⟩, by dsimp only; omega, (by repeat (first | exact Env.sub_nil _ | (apply Env.sub_cons; rfl))), ?_⟩
    dsimp only
    rw [dl_succ 256 i (x + y), hs]
    exact ⟨_, rfl⟩
  · obtain rfl : i = max n m + 1 := by omega
    refine T_seq ?_
    refine T_sr ?_
    refine S_mv rfl rfl rfl ?_
    refine S_mv rfl rfl rfl ?_
    refine S_val rfl rfl (Y_lenV rfl (und rfl) rfl (fun _ hs => Rd.st (by assumption) hs) (dl_length _ _ _)) ?_
    refine S_mv rfl rfl rfl ?_
    refine S_val rfl rfl (Y_lenV rfl (und rfl) rfl (fun _ hs => Rd.st (by assumption) hs) (dl_length _ _ _)) ?_
    refine S_val rfl rfl (Y_max rfl rfl (nat_cast _) (nat_cast _)) ?_
    refine S_val rfl rfl (Y_addN rfl rfl (nat_cast _) (nat_lit' _) (by omega)) ?_
    refine S_val rfl rfl (Y_lss_f rfl rfl (by omega)) ?_
    refine S_nx ?_
    refine T_cond_false rfl ?_
    refine T_exit ?_
    refine X_seq_exit ?_
    refine X_loop_exit ?_
    refine X_blk_hit rfl ?_
    refine X_seq ?_
    refine T_sr ?_
    refine S_mv rfl rfl rfl ?_
    refine S_as rfl rfl rfl ?_
    refine S_nx ?_
    refine T_ret ?_
    ((first | refine X_fin_ret ?_ | refine X_fin ?_); exact ⟨[_], [_], .cons (.tmp rfl) .nil, Emb.one 0 rfl, rfl⟩)
end Go.Proofs.YtjolmphkmfbpbaaDoor
/- The reference's differences and products. -/
namespace Go.Proofs.YtjolmphkmfbpbaaDoor
open Go.RowKit
set_option maxRecDepth 10000
set_option maxHeartbeats 4000000
theorem nminus_any (z y n m : Nat) (hx : z + y < 256 ^ n) (hy : y < 256 ^ m) (hn : n ≤ 1000000) (_hm : m ≤ 1000000) (v u : Value) (w : World) (hv : Rd w v .i64 (dl 256 n (z + y))) (hu : Rd w u .i64 (dl 256 m y)) :
    Fn Tryd.prog 71 #[v, u] w fun r N => N = [row .i64 (dl 256 n z) r] := by
  refine Fn_of (args := [v, u]) Tryd.func71 rfl Tryd.ntmps71 Tryd.results71 (by simp) ?_
  refine T_sr ?_
  refine S_as rfl rfl rfl ?_
  refine S_nx ?_
  refine T_sr ?_
  refine S_sliceR (und rfl) (siz rfl) (zer rfl) rfl rfl rfl rfl fun _ => ?_
  refine S_as rfl rfl rfl ?_
  refine S_nx ?_
  refine T_sr ?_
  refine S_as rfl rfl rfl ?_
  refine S_nx ?_
  refine T_seq ?_
  refine T_sr ?_
  refine S_mv rfl rfl rfl ?_
  refine S_val rfl rfl (Y_lenV rfl (und rfl) rfl (fun _ hs => Rd.st (by assumption) hs) (dl_length _ _ _)) ?_
  refine S_mv rfl rfl rfl ?_
  refine S_nx ?_
  refine T_block ?_
  rename_i v0
  refine T_loop (α := Nat × Nat × Value) (fun a => a.1 ≤ n ∧ a.2.1 = (z % 256 ^ a.1 + y % 256 ^ a.1) / 256 ^ a.1)
    (fun a => [(0, v), (1, u), (5, a.2.2), (6, .int .i64 a.2.1), (11, .int .i64 n), (12, .int .i64 a.1)])
    (fun a => [row .i64 (dl 256 a.1 z) a.2.2])
    (fun a => n - a.1) (0, 0, v0) (by simp [Nat.mod_one]) (by repeat (first | exact Env.sub_nil _ | (apply Env.sub_cons; rfl))) [] rfl ?_
  rintro ⟨i, c, v1⟩ ⟨hi, hc⟩
  dsimp only at hi hc ⊢
  have hc1 := carry_le 256 i z y (by omega)
  have hx1 := dig256_lt (z + y) i
  have hy1 := dig256_lt y i
  have hz1 := dig256_lt z i
  have hs := sum_digit 256 i z y (by omega)
  have hc2 := sum_carry 256 i z y (by omega)
  rw [← hc] at hs hc2 hc1
  by_cases h : i < n
  · by_cases hb : z / 256 ^ i % 256 + y / 256 ^ i % 256 + c < 256
    · have hle : y / 256 ^ i % 256 ≤ (z + y) / 256 ^ i % 256 := by omega
      have hle2 : c ≤ (z + y) / 256 ^ i % 256 - y / 256 ^ i % 256 := by omega
      have e : z / 256 ^ i % 256 = (z + y) / 256 ^ i % 256 - y / 256 ^ i % 256 - c := by omega
      refine T_sr ?_
      refine S_val rfl rfl (Y_lss_t rfl rfl (by omega)) ?_
      refine S_nx ?_
      refine T_seq ?_
      refine T_cond_true rfl ?_
      refine T_skip ?_
      refine X_seq ?_
      refine T_seq ?_
      refine T_block ?_
      refine T_sr ?_
      refine S_mv rfl rfl rfl ?_
      refine S_as rfl rfl rfl ?_
      refine S_nx ?_
      refine T_seq ?_
      refine T_draw (by kernel_rfl) (by kernel_rfl) rfl ?_
      refine D0_val rfl rfl rfl (Y_move rfl) ?_
      refine D0_val rfl rfl rfl (Y_move rfl) ?_
      refine D0_val rfl rfl rfl (Y_ixV (und rfl) (siz rfl) rfl rfl (fun _ hs => Rd.st (by assumption) hs) (nat_cast _) (dl_lt (by assumption))) ?_
      refine D0_valM rfl rfl rfl (Y_loadV (und rfl) rfl rfl (fun _ hs => Rd.st (by assumption) hs) (dl_get (by assumption))) ?_
      refine D0_val rfl rfl rfl (Y_move rfl) ?_
      refine D0_val rfl rfl rfl (Y_move rfl) ?_
      refine D0_callV rfl rfl (bod rfl) (fun w hs => nat_any y m i hy (by omega) u _ (by first | exact hs.rowRd 0 rfl | exact hs.rowRd 1 rfl | exact hs.rowRd 2 rfl | exact hs.rowRd 3 rfl | exact hs.rowRd 4 rfl | exact hs.rowRd 5 rfl | exact hs.rowRd 6 rfl | exact hs.rowRd 7 rfl | exact hs.rowRd 8 rfl | exact hs.rowRd 9 rfl | exact hs.rowRd 10 rfl | exact hs.rowRd 11 rfl | exact hs.rowRd 12 rfl | exact hs.rowRd 13 rfl | exact Rd.st (by assumption) hs)) rfl rfl ?_
      refine D0_val rfl rfl rfl (Y_subN rfl rfl (nat_cast _) (nat_cast _) (by assumption) (by omega)) ?_
      refine D0_val rfl rfl rfl (Y_move rfl) ?_
      refine D0_val rfl rfl rfl (Y_subN rfl rfl (nat_cast _) (nat_cast _) (by assumption) (by omega)) ?_
      refine D0_val rfl rfl rfl (Y_assign rfl) ?_
      refine D0_nil ?_
      refine X_seq ?_
      refine T_sr ?_
      refine S_as rfl rfl rfl ?_
      refine S_nx ?_
      refine T_seq ?_
      refine T_sr ?_
      refine S_mv rfl rfl rfl ?_
      refine S_val rfl rfl (Y_lss_f rfl rfl (by omega)) ?_
      refine S_nx ?_
      refine T_cond_false rfl ?_
      refine T_skip ?_
      refine X_seq ?_
      refine T_region ?_
      refine S_mv rfl rfl rfl ?_
      refine S_mv rfl rfl rfl ?_
      refine S_sliceR (und rfl) (siz rfl) (zer rfl) rfl rfl rfl rfl fun _ => ?_
      refine S_append 0 rfl (und rfl) (und rfl) (siz rfl) (byt rfl) (zer rfl) rfl rfl rfl (fun _ hs => hs.rowRd 1 rfl) (by simp; omega) rfl rfl rfl fun _ => ?_
      refine S_as rfl rfl rfl ?_
      refine S_nil ?_
      refine X_blk ?_
      refine X_seq ?_
      refine T_region ?_
      refine S_val rfl rfl (Y_addN rfl rfl (nat_cast _) (nat_lit' _) (by omega)) ?_
      refine S_mv rfl rfl rfl ?_
      refine S_nil ?_
      refine X_loop ?_
      refine ⟨(i + 1, 0, _), ⟨by dsimp only; omega, by dsimp only; omega⟩, by dsimp only; omega, (by repeat (first | exact Env.sub_nil _ | (apply Env.sub_cons; rfl))), ?_⟩
      dsimp only
      rw [dl_succ 256 i z, e]
      exact ⟨_, rfl⟩
    · have hlt : ((z + y) / 256 ^ i % 256 : Nat) + 0 < y / 256 ^ i % 256 + c := by omega
      have e : ((z / 256 ^ i % 256 : Nat) : Int) = (((z + y) / 256 ^ i % 256 : Nat) : Int) - ((y / 256 ^ i % 256 : Nat) : Int) - (c : Int) + 256 := by omega
      refine T_sr ?_
      refine S_val rfl rfl (Y_lss_t rfl rfl (by omega)) ?_
      refine S_nx ?_
      refine T_seq ?_
      refine T_cond_true rfl ?_
      refine T_skip ?_
      refine X_seq ?_
      refine T_seq ?_
      refine T_block ?_
      refine T_sr ?_
      refine S_mv rfl rfl rfl ?_
      refine S_as rfl rfl rfl ?_
      refine S_nx ?_
      refine T_seq ?_
      refine T_draw (by kernel_rfl) (by kernel_rfl) rfl ?_
      refine D0_val rfl rfl rfl (Y_move rfl) ?_
      refine D0_val rfl rfl rfl (Y_move rfl) ?_
      refine D0_val rfl rfl rfl (Y_ixV (und rfl) (siz rfl) rfl rfl (fun _ hs => Rd.st (by assumption) hs) (nat_cast _) (dl_lt (by assumption))) ?_
      refine D0_valM rfl rfl rfl (Y_loadV (und rfl) rfl rfl (fun _ hs => Rd.st (by assumption) hs) (dl_get (by assumption))) ?_
      refine D0_val rfl rfl rfl (Y_move rfl) ?_
      refine D0_val rfl rfl rfl (Y_move rfl) ?_
      refine D0_callV rfl rfl (bod rfl) (fun w hs => nat_any y m i hy (by omega) u _ (by first | exact hs.rowRd 0 rfl | exact hs.rowRd 1 rfl | exact hs.rowRd 2 rfl | exact hs.rowRd 3 rfl | exact hs.rowRd 4 rfl | exact hs.rowRd 5 rfl | exact hs.rowRd 6 rfl | exact hs.rowRd 7 rfl | exact hs.rowRd 8 rfl | exact hs.rowRd 9 rfl | exact hs.rowRd 10 rfl | exact hs.rowRd 11 rfl | exact hs.rowRd 12 rfl | exact hs.rowRd 13 rfl | exact Rd.st (by assumption) hs)) rfl rfl ?_
      refine D0_val rfl rfl rfl (Y_sub rfl rfl (wi64 (by omega) (by omega))) ?_
      refine D0_val rfl rfl rfl (Y_move rfl) ?_
      refine D0_val rfl rfl rfl (Y_sub rfl rfl (wi64 (by omega) (by omega))) ?_
      refine D0_val rfl rfl rfl (Y_assign rfl) ?_
      refine D0_nil ?_
      refine X_seq ?_
      refine T_sr ?_
      refine S_as rfl rfl rfl ?_
      refine S_nx ?_
      refine T_seq ?_
      refine T_sr ?_
      refine S_mv rfl rfl rfl ?_
      refine S_val rfl rfl (Y_lss_t rfl rfl (by omega)) ?_
      refine S_nx ?_
      refine T_cond_true rfl ?_
      refine T_sr ?_
      refine S_mv rfl rfl rfl ?_
      refine S_val rfl rfl (Y_add rfl rfl (wi64 (by omega) (by omega))) ?_
      refine S_as rfl rfl rfl ?_
      refine S_nx ?_
      refine T_region ?_
      refine S_as rfl rfl rfl ?_
      refine S_nx ?_
      refine T_region ?_
      refine S_mv rfl rfl rfl ?_
      refine S_mv rfl rfl rfl ?_
      refine S_sliceR (und rfl) (siz rfl) (zer rfl) rfl rfl rfl rfl fun _ => ?_
      refine S_append 0 rfl (und rfl) (und rfl) (siz rfl) (byt rfl) (zer rfl) rfl rfl rfl (fun _ hs => hs.rowRd 1 rfl) (by simp; omega) rfl rfl rfl fun _ => ?_
      refine S_as rfl rfl rfl ?_
      refine S_nil ?_
      refine X_blk ?_
      refine X_seq ?_
      refine T_region ?_
      refine S_val rfl rfl (Y_addN rfl rfl (nat_cast _) (nat_lit' _) (by omega)) ?_
      refine S_mv rfl rfl rfl ?_
      refine S_nil ?_
      refine X_loop ?_
      refine ⟨(i + 1, 1, _), ⟨by dsimp only; omega, by dsimp only; omega⟩, by dsimp only; omega, (by repeat (first | exact Env.sub_nil _ | (apply Env.sub_cons; rfl))), ?_⟩
      dsimp only
      rw [dl_succ 256 i z, e]
      exact ⟨_, rfl⟩
  · obtain rfl : i = n := by omega
    refine T_sr ?_
    refine S_val rfl rfl (Y_lss_f rfl rfl (by omega)) ?_
    refine S_nx ?_
    refine T_seq ?_
    refine T_cond_false rfl ?_
    refine T_exit ?_
    refine X_seq_exit ?_
    refine X_loop_exit ?_
    refine X_blk_hit rfl ?_
    refine X_seq ?_
    refine T_sr ?_
    refine S_mv rfl rfl rfl ?_
    refine S_as rfl rfl rfl ?_
    refine S_nx ?_
    refine T_ret ?_
    ((first | refine X_fin_ret ?_ | refine X_fin ?_); exact ⟨[_], [_], .cons (.tmp rfl) .nil, Emb.one 0 rfl, rfl⟩)
theorem ntimes_any (x y n m : Nat) (hx : x < 256 ^ n) (hy : y < 256 ^ m) (hn : n ≤ 1000000) (hm : m ≤ 1000000) (v u : Value) (w : World) (hv : Rd w v .i64 (dl 256 n x)) (hu : Rd w u .i64 (dl 256 m y)) :
    Fn Tryd.prog 46 #[v, u] w fun r N => N = [row .i64 (dl 256 (n + m + 1) (x * y)) r] := by
  refine Fn_of (args := [v, u]) Tryd.func46 rfl Tryd.ntmps46 Tryd.results46 (by simp) ?_
  refine T_sr ?_
  refine S_as rfl rfl rfl ?_
  refine S_nx ?_
  refine T_sr ?_
  refine S_mv rfl rfl rfl ?_
  refine S_val rfl rfl (Y_lenV rfl (und rfl) rfl (fun _ hs => Rd.st (by assumption) hs) (dl_length _ _ _)) ?_
  refine S_mv rfl rfl rfl ?_
  refine S_val rfl rfl (Y_lenV rfl (und rfl) rfl (fun _ hs => Rd.st (by assumption) hs) (dl_length _ _ _)) ?_
  refine S_val rfl rfl (Y_addN rfl rfl (nat_cast _) (nat_cast _) (by omega)) ?_
  refine S_val rfl rfl (Y_addN rfl rfl (nat_cast _) (nat_lit' _) (by omega)) ?_
  refine S_makeR (und rfl) (siz rfl) (byt rfl) (zer rfl) rfl rfl (nat_cast _) (by omega) rfl rfl rfl fun _ => ?_
  refine S_as rfl rfl rfl ?_
  refine S_nx ?_
  refine T_seq ?_
  refine T_sr ?_
  refine S_mv rfl rfl rfl ?_
  refine S_val rfl rfl (Y_lenV rfl (und rfl) rfl (fun _ hs => Rd.st (by assumption) hs) (dl_length _ _ _)) ?_
  refine S_mv rfl rfl rfl ?_
  refine S_nx ?_
  refine T_block ?_
  rename_i vo
  refine T_loop (α := Nat × Nat) (fun a => a.1 ≤ n ∧ a.2 = x % 256 ^ a.1 * y)
    (fun a => [(0, v), (1, u), (5, vo), (18, .int .i64 n), (19, .int .i64 a.1)])
    (fun a => [row .i64 (dl 256 (n + m + 1) a.2) vo])
    (fun a => n - a.1) (0, 0) (by simp [Nat.mod_one]) (by repeat (first | exact Env.sub_nil _ | (apply Env.sub_cons; rfl))) [] (by dsimp only; rw [dl_zero]; rfl) ?_
  rintro ⟨i, o⟩ ⟨hi, ho⟩
  dsimp only at hi ho ⊢
  by_cases h : i < n
  · have hxi := dig256_lt x i
    refine T_sr ?_
    refine S_val rfl rfl (Y_lss_t rfl rfl (by omega)) ?_
    refine S_nx ?_
    refine T_seq ?_
    refine T_cond_true rfl ?_
    refine T_skip ?_
    refine X_seq ?_
    refine T_seq ?_
    refine T_block ?_
    refine T_sr ?_
    refine S_mv rfl rfl rfl ?_
    refine S_as rfl rfl rfl ?_
    refine S_nx ?_
    refine T_sr ?_
    refine S_as rfl rfl rfl ?_
    refine S_nx ?_
    refine T_sr ?_
    refine S_as rfl rfl rfl ?_
    refine S_nx ?_
    refine T_block ?_
    refine T_loop (α := Nat × Nat × Nat) (fun a => a.1 ≤ n + m + 1 ∧ a.2.1 < 256 ∧ a.2.2 + a.2.1 * 256 ^ (i + a.1) = o + x / 256 ^ i % 256 * (y % 256 ^ a.1) * 256 ^ i)
      (fun a => [(0, v), (1, u), (5, vo), (6, .int .i64 i), (7, .int .i64 a.2.1), (8, .int .i64 a.1), (18, .int .i64 n), (19, .int .i64 i)])
      (fun a => [row .i64 (dl 256 (n + m + 1) a.2.2) vo])
      (fun a => n + m + 1 - a.1) (0, 0, o) (by simp [Nat.mod_one]) (by repeat (first | exact Env.sub_nil _ | (apply Env.sub_cons; rfl))) [] rfl ?_
    rintro ⟨j, c, p⟩ ⟨hj, hc, hp⟩
    dsimp only at hj hc hp ⊢
    refine T_sh 0 rfl fun hsh => ?_
    rw [dl_length] at hsh
    have hyj := dig256_lt y j
    have hpj := dig256_lt p (i + j)
    have hxy : x / 256 ^ i % 256 * (y / 256 ^ j % 256) ≤ 255 * 255 := Nat.mul_le_mul (by omega) (by omega)
    have hstep : (p - p / 256 ^ (i + j) % 256 * 256 ^ (i + j) + (p / 256 ^ (i + j) % 256 + x / 256 ^ i % 256 * (y / 256 ^ j % 256) + c) % 256 * 256 ^ (i + j)) + (p / 256 ^ (i + j) % 256 + x / 256 ^ i % 256 * (y / 256 ^ j % 256) + c) / 256 * 256 ^ (i + (j + 1)) = o + x / 256 ^ i % 256 * (y % 256 ^ (j + 1)) * 256 ^ i := by
      have hs := split_at 256 (i + j) p
      have hy2 := mod_pow_succ' y 256 j
      rw [hy2]
      generalize x / 256 ^ i % 256 = xi at *
      generalize y / 256 ^ j % 256 = yj at *
      generalize p / 256 ^ (i + j) % 256 = pj at *
      have hP : (256 : Nat) ^ (i + (j + 1)) = 256 * 256 ^ (i + j) := by rw [← Nat.add_assoc, Nat.pow_succ, Nat.mul_comm]
      have hQ : xi * (y % 256 ^ j + yj * 256 ^ j) * 256 ^ i = xi * (y % 256 ^ j) * 256 ^ i + xi * yj * 256 ^ (i + j) := by
        rw [Nat.mul_add, Nat.add_mul, ← Nat.mul_assoc xi yj, Nat.mul_assoc (xi * yj), ← Nat.pow_add, Nat.add_comm j i]
      rw [hP, hQ, ← Nat.mul_assoc]
      generalize xi * yj = m at *
      generalize hl : (pj + m + c) % 256 = l2
      generalize hcc : (pj + m + c) / 256 = c2
      have key : l2 + c2 * 256 = m + pj + c := by omega
      have k2 := congrArg (· * 256 ^ (i + j)) key
      simp only [Nat.add_mul] at k2
      omega
    by_cases h1 : j < m
    · have hb : i + j < n + m + 1 := by omega
      refine T_seq ?_
      refine T_sr ?_
      refine S_mv rfl rfl rfl ?_
      refine S_mv rfl rfl rfl ?_
      refine S_val rfl rfl (Y_lenV rfl (und rfl) rfl (fun _ hs => Rd.st (by assumption) hs) (dl_length _ _ _)) ?_
      refine S_val rfl rfl (Y_lss_t rfl rfl (by omega)) ?_
      refine S_mv rfl rfl rfl ?_
      refine S_skip rfl rfl ?_
      refine S_skip rfl rfl ?_
      refine S_val rfl rfl (Y_pick_t rfl rfl) ?_
      refine S_nx ?_
      refine T_cond_true rfl ?_
      refine T_skip ?_
      refine X_seq ?_
      refine T_seq ?_
      refine T_block ?_
      refine T_seq ?_
      refine T_draw (by kernel_rfl) (by kernel_rfl) rfl ?_
      refine D0_val rfl rfl rfl (Y_move rfl) ?_
      refine D0_val rfl rfl rfl (Y_move rfl) ?_
      refine D0_val rfl rfl rfl (Y_move rfl) ?_
      refine D0_val rfl rfl rfl (Y_addN rfl rfl (nat_cast _) (nat_cast _) (by omega)) ?_
      refine D0_val rfl rfl rfl (Y_ixS (und rfl) (siz rfl) rfl rfl (by assumption) (nat_cast _) (by assumption)) ?_
      refine D0_valM rfl rfl rfl (Y_loadV (und rfl) rfl rfl (fun _ hs => hs.rowRd 0 rfl) (dl_get (by assumption))) ?_
      refine D0_val rfl rfl rfl (Y_move rfl) ?_
      refine D0_val rfl rfl rfl (Y_move rfl) ?_
      refine D0_val rfl rfl rfl (Y_ixV (und rfl) (siz rfl) rfl rfl (fun _ hs => Rd.st (by assumption) hs) (nat_cast _) (dl_lt (by assumption))) ?_
      refine D0_valM rfl rfl rfl (Y_loadV (und rfl) rfl rfl (fun _ hs => Rd.st (by assumption) hs) (dl_get (by assumption))) ?_
      refine D0_val rfl rfl rfl (Y_move rfl) ?_
      refine D0_val rfl rfl rfl (Y_move rfl) ?_
      refine D0_callV rfl rfl (bod rfl) (fun w hs => nat_any y m j hy (by omega) u _ (by first | exact hs.rowRd 0 rfl | exact hs.rowRd 1 rfl | exact hs.rowRd 2 rfl | exact hs.rowRd 3 rfl | exact hs.rowRd 4 rfl | exact hs.rowRd 5 rfl | exact hs.rowRd 6 rfl | exact hs.rowRd 7 rfl | exact hs.rowRd 8 rfl | exact hs.rowRd 9 rfl | exact hs.rowRd 10 rfl | exact hs.rowRd 11 rfl | exact hs.rowRd 12 rfl | exact hs.rowRd 13 rfl | exact Rd.st (by assumption) hs)) rfl rfl ?_
      refine D0_val rfl rfl rfl (Y_mulN rfl rfl (nat_cast _) (nat_cast _) (by omega)) ?_
      refine D0_val rfl rfl rfl (Y_addN rfl rfl (nat_cast _) (nat_cast _) (by omega)) ?_
      refine D0_val rfl rfl rfl (Y_move rfl) ?_
      refine D0_val rfl rfl rfl (Y_addN rfl rfl (nat_cast _) (nat_cast _) (by omega)) ?_
      refine D0_val rfl rfl rfl (Y_assign rfl) ?_
      refine D0_nil ?_
      refine X_seq ?_
      refine T_sr ?_
      refine S_mv rfl rfl rfl ?_
      refine S_mv rfl rfl rfl ?_
      refine S_mv rfl rfl rfl ?_
      refine S_val rfl rfl (Y_addN rfl rfl (nat_cast _) (nat_cast _) (by omega)) ?_
      refine S_mv rfl rfl rfl ?_
      refine S_val rfl rfl (Y_remN rfl rfl (nat_cast _) (nat_lit' _) (Nat.succ_ne_zero _)) ?_
      refine S_val rfl rfl (Y_ixV (und rfl) (siz rfl) rfl rfl (fun _ hs => hs.rowRd 0 rfl) (nat_cast _) (dl_lt (by assumption))) ?_
      refine S_storeR 0 (siz rfl) rfl rfl rfl (dl_lt (by assumption)) rfl ?_
      refine S_nx ?_
      refine T_region ?_
      refine S_mv rfl rfl rfl ?_
      refine S_val rfl rfl (Y_quoN rfl rfl (nat_cast _) (nat_lit' _) (Nat.succ_ne_zero _) (by first | with_reducible exact xi64 (by omega) | with_reducible exact x64 (by omega) | with_reducible exact x8 (by omega) | with_reducible exact x32 (by omega))) ?_
      refine S_as rfl rfl rfl ?_
      refine S_nil ?_
      refine X_blk ?_
      refine X_seq ?_
      refine T_region ?_
      refine S_mv rfl rfl rfl ?_
      refine S_val rfl rfl (Y_addN rfl rfl (nat_cast _) (nat_lit' _) (by omega)) ?_
      refine S_as rfl rfl rfl ?_
      refine S_nil ?_
      refine X_loop ?_
      refine ⟨(j + 1, _, _), ⟨by dsimp only; omega, by dsimp only; omega, hstep⟩, by dsimp only; omega, (by repeat (first | exact Env.sub_nil _ | (apply Env.sub_cons; rfl))), ?_⟩
      dsimp only
      rw [← dl_put (by omega) (Nat.mod_lt _ (by omega))]
      exact ⟨_, rfl⟩
    · have hyy : y % 256 ^ j = y := Nat.mod_eq_of_lt (Nat.lt_of_lt_of_le hy (Nat.pow_le_pow_right (by omega) (by omega)))
      have hsum : p + c * 256 ^ (i + j) = x % 256 ^ (i + 1) * y := by
        rw [hp, hyy, ho, mod_pow_succ', Nat.add_mul, Nat.mul_right_comm]
      by_cases h2 : 0 < c
      · have hb0 : i + j < n + m := by
          have e1 : x % 256 ^ (i + 1) * y < 256 ^ (i + 1) * 256 ^ m := Nat.mul_lt_mul'' (Nat.mod_lt _ (Nat.pow_pos (by omega))) hy
          have e2 : 256 ^ (i + j) ≤ c * 256 ^ (i + j) := Nat.le_mul_of_pos_left _ h2
          have e3 : (256 : Nat) ^ (i + j) < 256 ^ (i + 1 + m) := by rw [Nat.pow_add 256 (i + 1)]; omega
          have := (Nat.pow_lt_pow_iff_right (by omega : 1 < 256)).1 e3
          omega
        have hb : i + j < n + m + 1 := by omega
        refine T_seq ?_
        refine T_sr ?_
        refine S_mv rfl rfl rfl ?_
        refine S_mv rfl rfl rfl ?_
        refine S_val rfl rfl (Y_lenV rfl (und rfl) rfl (fun _ hs => Rd.st (by assumption) hs) (dl_length _ _ _)) ?_
        refine S_val rfl rfl (Y_lss_f rfl rfl (by omega)) ?_
        refine S_mv rfl rfl rfl ?_
        refine S_mv rfl rfl rfl ?_
        refine S_val rfl rfl (Y_gtr_t rfl rfl (by omega)) ?_
        refine S_val rfl rfl (Y_pick_f rfl rfl) ?_
        refine S_nx ?_
        refine T_cond_true rfl ?_
        refine T_skip ?_
        refine X_seq ?_
        refine T_seq ?_
        refine T_block ?_
        refine T_seq ?_
        refine T_draw (by kernel_rfl) (by kernel_rfl) rfl ?_
        refine D0_val rfl rfl rfl (Y_move rfl) ?_
        refine D0_val rfl rfl rfl (Y_move rfl) ?_
        refine D0_val rfl rfl rfl (Y_move rfl) ?_
        refine D0_val rfl rfl rfl (Y_addN rfl rfl (nat_cast _) (nat_cast _) (by omega)) ?_
        refine D0_val rfl rfl rfl (Y_ixS (und rfl) (siz rfl) rfl rfl (by assumption) (nat_cast _) (by assumption)) ?_
        refine D0_valM rfl rfl rfl (Y_loadV (und rfl) rfl rfl (fun _ hs => hs.rowRd 0 rfl) (dl_get (by assumption))) ?_
        refine D0_val rfl rfl rfl (Y_move rfl) ?_
        refine D0_val rfl rfl rfl (Y_move rfl) ?_
        refine D0_val rfl rfl rfl (Y_ixV (und rfl) (siz rfl) rfl rfl (fun _ hs => Rd.st (by assumption) hs) (nat_cast _) (dl_lt (by assumption))) ?_
        refine D0_valM rfl rfl rfl (Y_loadV (und rfl) rfl rfl (fun _ hs => Rd.st (by assumption) hs) (dl_get (by assumption))) ?_
        refine D0_val rfl rfl rfl (Y_move rfl) ?_
        refine D0_val rfl rfl rfl (Y_move rfl) ?_
        refine D0_callV rfl rfl (bod rfl) (fun w hs => nat_any y m j hy (by omega) u _ (by first | exact hs.rowRd 0 rfl | exact hs.rowRd 1 rfl | exact hs.rowRd 2 rfl | exact hs.rowRd 3 rfl | exact hs.rowRd 4 rfl | exact hs.rowRd 5 rfl | exact hs.rowRd 6 rfl | exact hs.rowRd 7 rfl | exact hs.rowRd 8 rfl | exact hs.rowRd 9 rfl | exact hs.rowRd 10 rfl | exact hs.rowRd 11 rfl | exact hs.rowRd 12 rfl | exact hs.rowRd 13 rfl | exact Rd.st (by assumption) hs)) rfl rfl ?_
        refine D0_val rfl rfl rfl (Y_mulN rfl rfl (nat_cast _) (nat_cast _) (by omega)) ?_
        refine D0_val rfl rfl rfl (Y_addN rfl rfl (nat_cast _) (nat_cast _) (by omega)) ?_
        refine D0_val rfl rfl rfl (Y_move rfl) ?_
        refine D0_val rfl rfl rfl (Y_addN rfl rfl (nat_cast _) (nat_cast _) (by omega)) ?_
        refine D0_val rfl rfl rfl (Y_assign rfl) ?_
        refine D0_nil ?_
        refine X_seq ?_
        refine T_sr ?_
        refine S_mv rfl rfl rfl ?_
        refine S_mv rfl rfl rfl ?_
        refine S_mv rfl rfl rfl ?_
        refine S_val rfl rfl (Y_addN rfl rfl (nat_cast _) (nat_cast _) (by omega)) ?_
        refine S_mv rfl rfl rfl ?_
        refine S_val rfl rfl (Y_remN rfl rfl (nat_cast _) (nat_lit' _) (Nat.succ_ne_zero _)) ?_
        refine S_val rfl rfl (Y_ixV (und rfl) (siz rfl) rfl rfl (fun _ hs => hs.rowRd 0 rfl) (nat_cast _) (dl_lt (by assumption))) ?_
        refine S_storeR 0 (siz rfl) rfl rfl rfl (dl_lt (by assumption)) rfl ?_
        refine S_nx ?_
        refine T_region ?_
        refine S_mv rfl rfl rfl ?_
        refine S_val rfl rfl (Y_quoN rfl rfl (nat_cast _) (nat_lit' _) (Nat.succ_ne_zero _) (by first | with_reducible exact xi64 (by omega) | with_reducible exact x64 (by omega) | with_reducible exact x8 (by omega) | with_reducible exact x32 (by omega))) ?_
        refine S_as rfl rfl rfl ?_
        refine S_nil ?_
        refine X_blk ?_
        refine X_seq ?_
        refine T_region ?_
        refine S_mv rfl rfl rfl ?_
        refine S_val rfl rfl (Y_addN rfl rfl (nat_cast _) (nat_lit' _) (by omega)) ?_
        refine S_as rfl rfl rfl ?_
        refine S_nil ?_
        refine X_loop ?_
        refine ⟨(j + 1, _, _), ⟨by dsimp only; omega, by dsimp only; omega, hstep⟩, by dsimp only; omega, (by repeat (first | exact Env.sub_nil _ | (apply Env.sub_cons; rfl))), ?_⟩
        dsimp only
        rw [← dl_put (by omega) (Nat.mod_lt _ (by omega))]
        exact ⟨_, rfl⟩
      · obtain rfl : c = 0 := by omega
        refine T_seq ?_
        refine T_sr ?_
        refine S_mv rfl rfl rfl ?_
        refine S_mv rfl rfl rfl ?_
        refine S_val rfl rfl (Y_lenV rfl (und rfl) rfl (fun _ hs => Rd.st (by assumption) hs) (dl_length _ _ _)) ?_
        refine S_val rfl rfl (Y_lss_f rfl rfl (by omega)) ?_
        refine S_mv rfl rfl rfl ?_
        refine S_mv rfl rfl rfl ?_
        refine S_val rfl rfl (Y_gtr_f rfl rfl (by decide)) ?_
        refine S_val rfl rfl (Y_pick_f rfl rfl) ?_
        refine S_nx ?_
        refine T_cond_false rfl ?_
        refine T_exit ?_
        refine X_seq_exit ?_
        refine X_loop_exit ?_
        refine X_blk_hit rfl ?_
        refine X_blk ?_
        refine X_seq ?_
        refine T_region ?_
        refine S_val rfl rfl (Y_addN rfl rfl (nat_cast _) (nat_lit' _) (by omega)) ?_
        refine S_mv rfl rfl rfl ?_
        refine S_nil ?_
        refine X_loop ?_
        exact ⟨(i + 1, p), ⟨by dsimp only; omega, by simpa using hsum⟩, by dsimp only; omega, (by repeat (first | exact Env.sub_nil _ | (apply Env.sub_cons; rfl))), [], rfl⟩
  · obtain rfl : i = n := by omega
    have : o = x * y := by rw [ho, Nat.mod_eq_of_lt hx]
    subst this
    refine T_sr ?_
    refine S_val rfl rfl (Y_lss_f rfl rfl (by omega)) ?_
    refine S_nx ?_
    refine T_seq ?_
    refine T_cond_false rfl ?_
    refine T_exit ?_
    refine X_seq_exit ?_
    refine X_loop_exit ?_
    refine X_blk_hit rfl ?_
    refine X_seq ?_
    refine T_sr ?_
    refine S_mv rfl rfl rfl ?_
    refine S_as rfl rfl rfl ?_
    refine S_nx ?_
    refine T_ret ?_
    ((first | refine X_fin_ret ?_ | refine X_fin ?_); exact ⟨[_], [_], .cons (.tmp rfl) .nil, Emb.one 0 rfl, rfl⟩)
end Go.Proofs.YtjolmphkmfbpbaaDoor
/- Arguments, opened: words and numbers. -/
namespace Go.Proofs.YtjolmphkmfbpbaaDoor
open Go.ChangeShapes Go.WideShapes Go.ChangeAt Go.RowKit
set_option maxRecDepth 20000
theorem open_u64 {H : Type} {enc : TypeId × Value → H} {W0 : World} {r : Reach} {b0 base : Nat} {spare : Nat → Bool} {held : Bool} {t : TypeId} {v : Value} {d : DataW H} {p : List MemPlace} (ht : Tryd.prog.underlying t = some (.int .u64))
    (hv : Value.okWide Tryd.prog W0 r b0 t v) (h : DataW.Trod enc Tryd.prog W0 base spare held t v d p) : ∃ x : Nat, x < 18446744073709551616 ∧ v = .int .u64 x := by
  obtain ⟨x, rfl, _, _, w⟩ := open_int ht hv h
  have := bounds_u64 w
  exact ⟨x.toNat, by omega, by rw [Int.toNat_of_nonneg (by omega)]⟩
theorem open_i64 {H : Type} {enc : TypeId × Value → H} {W0 : World} {r : Reach} {b0 base : Nat} {spare : Nat → Bool} {held : Bool} {t : TypeId} {v : Value} {d : DataW H} {p : List MemPlace} (ht : Tryd.prog.underlying t = some (.int .i64))
    (hv : Value.okWide Tryd.prog W0 r b0 t v) (h : DataW.Trod enc Tryd.prog W0 base spare held t v d p) : ∃ x : Int, (-9223372036854775808 ≤ x ∧ x ≤ 9223372036854775807) ∧ v = .int .i64 x := by
  obtain ⟨x, rfl, _, _, w⟩ := open_int ht hv h
  have := bounds_i64 w
  exact ⟨x, by omega, rfl⟩
end Go.Proofs.YtjolmphkmfbpbaaDoor
/- Numbers and their bytes, the highest first; numbers to the base 2^32 without noughts ahead. -/
namespace Go.Proofs.YtjolmphkmfbpbaaDoor
set_option maxRecDepth 20000
/-- The lowest n bytes of x, the highest first. -/
def bel (n x : Nat) : List Int := (dl 256 n x).reverse
@[simp] theorem bel_length (n x : Nat) : (bel n x).length = n := by simp [bel]
theorem bel_get {n x i : Nat} (h : i < n) : (bel n x)[i]? = some ((x / 256 ^ (n - 1 - i) % 256 : Nat) : Int) := by
  unfold bel
  rw [List.getElem?_reverse (by rwa [dl_length]), dl_length, dl_get (by omega)]
theorem bel_mod (n x : Nat) : bel n (x % 256 ^ n) = bel n x := by unfold bel; rw [dl_mod]
theorem bel_drop (n x j : Nat) (hj : j ≤ n) : (bel n x).drop j = bel (n - j) x := by
  unfold bel
  rw [List.drop_reverse, dl_length, dl_take _ _ _ _ (by omega)]
theorem bel_take (n x j : Nat) (hj : j ≤ n) : (bel n x).take j = bel j (x / 256 ^ (n - j)) := by
  unfold bel
  rw [List.take_reverse, dl_length, dl_drop, show n - (n - j) = j by omega]
theorem bel_zero (n : Nat) : bel n 0 = List.replicate n 0 := by unfold bel; rw [dl_zero, List.reverse_replicate]
/-- Any bytes are those of a number. -/
theorem bytes_of (l : List Int) (h : ∀ p ∈ l, 0 ≤ p ∧ p < 256) : ∃ x, x < 256 ^ l.length ∧ l = bel l.length x := by
  have h1 : ∀ d ∈ l.reverse.map Int.toNat, d < 256 := by
    intro d hd
    obtain ⟨p, hp, rfl⟩ := List.mem_map.1 hd
    have := h p (List.mem_reverse.1 hp)
    omega
  have h2 : (l.reverse.map Int.toNat).length = l.length := by simp
  have h3 := vl_lt h1
  have h4 := dl_vl (b := 256) (by omega) h1
  rw [h2] at h3 h4
  refine ⟨_, h3, ?_⟩
  unfold bel
  rw [h4, List.map_map]
  have h5 : l.reverse.map ((fun d : Nat => (d : Int)) ∘ Int.toNat) = l.reverse := by
    conv => rhs; rw [← List.map_id l.reverse]
    refine List.map_congr_left fun p hp => ?_
    have := h p (List.mem_reverse.1 hp)
    show ((p.toNat : Nat) : Int) = p
    omega
  rw [h5, List.reverse_reverse]
theorem bel_append (n m x y : Nat) (hy : y < 256 ^ m) : bel n x ++ bel m y = bel (n + m) (x * 256 ^ m + y) := by
  unfold bel
  rw [← List.reverse_append]
  congr 1
  refine List.ext_getElem? fun i => ?_
  by_cases h : i < m
  · rw [List.getElem?_append_left (by rwa [dl_length]), dl_get h, dl_get (by omega)]
    have := digit_add_low (x := x) (y := y) (m := m) (i := i) h
    rw [this]
  · by_cases h2 : i < n + m
    · rw [List.getElem?_append_right (by rw [dl_length]; omega), dl_length, dl_get (by omega), dl_get h2]
      have e : (x * 256 ^ m + y) / 256 ^ i = x / 256 ^ (i - m) := by
        conv => lhs; rw [show i = m + (i - m) by omega, Nat.pow_add, ← Nat.div_div_eq_div_mul, Nat.mul_comm, Nat.mul_add_div (Nat.pow_pos (by omega)), Nat.div_eq_of_lt hy, Nat.add_zero]
      rw [e]
    · rw [List.getElem?_eq_none (by simp; omega), List.getElem?_eq_none (by simp; omega)]
where
  digit_add_low {x y m i : Nat} (h : i < m) : (x * 256 ^ m + y) / 256 ^ i % 256 = y / 256 ^ i % 256 := by
    have e : x * 256 ^ m = x * 256 ^ (m - i - 1) * 256 * 256 ^ i := by
      rw [Nat.mul_assoc, Nat.mul_assoc, ← Nat.pow_succ', ← Nat.pow_add]
      congr 2
      omega
    rw [e, Nat.add_comm, Nat.add_mul_div_right _ _ (Nat.pow_pos (by omega)), Nat.add_mul_mod_self_right]
theorem bel_snoc (n x c : Nat) (hc : c < 256) : bel n x ++ [(c : Int)] = bel (n + 1) (x * 256 + c) := by
  have h : [(c : Int)] = bel 1 c := by simp [bel, dl]; omega
  rw [h, bel_append n 1 x c (by simpa using hc), Nat.pow_one]
/-- How many digits to the base 2^32 a number has. -/
def tr (x : Nat) : Nat := if x = 0 then 0 else x.log2 / 32 + 1
theorem b32 (n : Nat) : (4294967296 : Nat) ^ n = 2 ^ (32 * n) := by rw [Nat.pow_mul]
theorem tr_lt (x : Nat) : x < 4294967296 ^ tr x := by
  unfold tr
  split
  · rename_i h; rw [h]; omega
  · rename_i h
    rw [b32, ← Nat.log2_lt h]
    omega
theorem tr_le {x n : Nat} (h : x < 4294967296 ^ n) : tr x ≤ n := by
  unfold tr
  split
  · omega
  · rename_i h0
    rw [b32, ← Nat.log2_lt h0] at h
    omega
theorem tr_ge {x n : Nat} (h : 4294967296 ^ n ≤ x) : n < tr x := by
  have h1 := Nat.lt_of_le_of_lt h (tr_lt x)
  exact (Nat.pow_lt_pow_iff_right (by omega : 1 < 4294967296)).1 h1
theorem tr_mono {x y : Nat} (h : x ≤ y) : tr x ≤ tr y := tr_le (Nat.lt_of_le_of_lt h (tr_lt y))
theorem tr_pos {x : Nat} (h : x ≠ 0) : 0 < tr x := tr_ge (n := 0) (by omega)
/-- A nought at the end. -/
theorem tr_cut {x m : Nat} (hx : x < 4294967296 ^ (m + 1)) (h : x / 4294967296 ^ m % 4294967296 = 0) : x < 4294967296 ^ m := by
  have h2 : x / 4294967296 ^ m < 4294967296 := Nat.div_lt_of_lt_mul (by rwa [Nat.pow_succ] at hx)
  rw [Nat.mod_eq_of_lt h2] at h
  rcases Nat.lt_or_ge x (4294967296 ^ m) with h3 | h3
  · exact h3
  · have := Nat.div_pos h3 (Nat.pow_pos (by omega)); omega
theorem tr_end {x m : Nat} (hx : x < 4294967296 ^ (m + 1)) (h : x / 4294967296 ^ m % 4294967296 ≠ 0) : tr x = m + 1 := by
  have h1 := tr_le hx
  have h2 : 4294967296 ^ m ≤ x := by
    rcases Nat.lt_or_ge x (4294967296 ^ m) with h3 | h3
    · rw [Nat.div_eq_of_lt h3] at h; exact absurd (Nat.zero_mod _) h
    · exact h3
  have := tr_ge h2
  omega
/-- A byte laid over noughts. -/
theorem lay_or {y c t : Nat} (hy : y / 256 ^ t % 256 = 0) (hc : c < 256) : y + c * 256 ^ t = y ||| c * 256 ^ t := by
  have e : (256 : Nat) ^ t = 2 ^ (8 * t) := by rw [Nat.pow_mul]
  have h1 : y = y / 256 ^ (t + 1) * 256 ^ (t + 1) + y % 256 ^ t := by
    have := split_at 256 t y
    rw [hy] at this
    omega
  have h2 : y % 256 ^ t < 256 ^ t := Nat.mod_lt _ (Nat.pow_pos (by omega))
  have h3 : y + c * 256 ^ t = 256 ^ t * (y / 256 ^ (t + 1) * 256 + c) + y % 256 ^ t := by
    conv => lhs; rw [h1]
    rw [Nat.pow_succ, Nat.mul_add, Nat.mul_comm (256 ^ t) c, Nat.mul_comm (256 ^ t) 256, Nat.mul_comm (256 ^ t) (_ * 256), Nat.mul_assoc]
    omega
  have h4 : y = 256 ^ t * (y / 256 ^ (t + 1) * 256) + y % 256 ^ t := by
    conv => lhs; rw [h1]
    rw [Nat.pow_succ, Nat.mul_comm (256 ^ t) (_ * 256), Nat.mul_assoc, Nat.mul_comm 256]
  refine Nat.eq_of_testBit_eq fun i => ?_
  rw [h3, e, Nat.testBit_two_pow_mul_add _ (by rw [← e]; exact h2), Nat.testBit_or]
  conv => rhs; rw [h4, e, Nat.testBit_two_pow_mul_add _ (by rw [← e]; exact h2)]
  rw [Nat.testBit_mul_two_pow]
  by_cases hi : i < 8 * t
  · rw [if_pos hi, if_pos hi, decide_eq_false (by omega)]; simp
  · rw [if_neg hi, if_neg hi, decide_eq_true (by omega), Bool.true_and, show (256 : Nat) = 2 ^ 8 by decide, Nat.mul_comm _ (2 ^ 8), Nat.testBit_two_pow_mul_add _ hc, Nat.testBit_two_pow_mul]
    by_cases hj : i - 8 * t < 8
    · rw [if_pos hj, decide_eq_false (by omega)]; simp
    · rw [if_neg hj, decide_eq_true (by omega), Bool.true_and, Nat.testBit_lt_two_pow (Nat.lt_of_lt_of_le hc (show 2 ^ 8 ≤ 2 ^ (i - 8 * t) from Nat.pow_le_pow_right (by omega) (by omega)))]; simp
theorem lay_dl {s n y c t : Nat} (hs : 0 < s) (hy : y / 256 ^ t % 256 = 0) (hc : c < 256) (_ht : t / s < n) :
    (dl (256 ^ s) n y).set (t / s) ((y / (256 ^ s) ^ (t / s) % 256 ^ s ||| c * 256 ^ (t % s) : Nat) : Int) = dl (256 ^ s) n (y + c * 256 ^ t) := by
  have key : ∀ i, (y + c * 256 ^ t) / (256 ^ s) ^ i % 256 ^ s = y / (256 ^ s) ^ i % 256 ^ s ||| c * 256 ^ t / (256 ^ s) ^ i % 256 ^ s := fun i => by
    rw [lay_or hy hc, show (256 : Nat) ^ s = 2 ^ (8 * s) by rw [Nat.pow_mul], ← Nat.pow_mul, Nat.or_div_two_pow, Nat.or_mod_two_pow]
  have ht : t = s * (t / s) + t % s := (Nat.div_add_mod t s).symm
  have hm : t % s < s := Nat.mod_lt _ hs
  refine List.ext_getElem? fun i => ?_
  rw [List.getElem?_set]
  by_cases hi : t / s = i
  · rw [if_pos hi]
    by_cases hn : i < n
    · rw [if_pos (by rw [dl_length]; omega), dl_get hn, key, ← hi]
      have e : c * 256 ^ t / (256 ^ s) ^ (t / s) = c * 256 ^ (t % s) := by
        conv => lhs; rw [show (256 : Nat) ^ t = 256 ^ (t % s) * (256 ^ s) ^ (t / s) by rw [← Nat.pow_mul, ← Nat.pow_add]; congr 1; omega]
        rw [← Nat.mul_assoc, Nat.mul_div_cancel _ (Nat.pow_pos (Nat.pow_pos (by omega)))]
      rw [e, Nat.mod_eq_of_lt (a := c * 256 ^ (t % s))]
      calc c * 256 ^ (t % s) < 256 * 256 ^ (t % s) := Nat.mul_lt_mul_of_pos_right hc (Nat.pow_pos (by omega))
        _ = 256 ^ (t % s + 1) := by rw [Nat.pow_succ, Nat.mul_comm]
        _ ≤ 256 ^ s := Nat.pow_le_pow_right (by omega) (by omega)
    · omega
  · rw [if_neg hi]
    by_cases hn : i < n
    · rw [dl_get hn, dl_get hn, key]
      have e : c * 256 ^ t / (256 ^ s) ^ i % 256 ^ s = 0 := by
        rcases Nat.lt_or_ge i (t / s) with h | h
        · have e2 : c * 256 ^ t = c * 256 ^ (t - s * (i + 1)) * 256 ^ s * (256 ^ s) ^ i := by
            rw [← Nat.pow_mul, Nat.mul_assoc, Nat.mul_assoc, ← Nat.pow_add, ← Nat.pow_add]
            congr 2
            have : s * (i + 1) ≤ s * (t / s) := Nat.mul_le_mul_left _ h
            rw [Nat.mul_add] at *
            omega
          rw [e2, Nat.mul_div_cancel _ (Nat.pow_pos (Nat.pow_pos (by omega)))]
          exact Nat.mul_mod_left _ _
        · rw [Nat.div_eq_of_lt, Nat.zero_mod]
          calc c * 256 ^ t < 256 * 256 ^ t := Nat.mul_lt_mul_of_pos_right hc (Nat.pow_pos (by omega))
            _ = 256 ^ (t + 1) := by rw [Nat.pow_succ, Nat.mul_comm]
            _ ≤ 256 ^ (s * i) := Nat.pow_le_pow_right (by omega) (by
                have : s * (t / s + 1) ≤ s * i := Nat.mul_le_mul_left _ (by omega)
                rw [Nat.mul_add] at this
                omega)
            _ = (256 ^ s) ^ i := Nat.pow_mul ..
      rw [e, Nat.or_zero]
    · rw [List.getElem?_eq_none (by simp; omega), List.getElem?_eq_none (by simp; omega)]
theorem bel_le {n x i : Nat} (h : i ≤ n) : i ≤ (bel n x).length := by rwa [bel_length]
theorem lay8 {y c i k : Nat} (hk : k < 8) (hi : i < 4) (hy : y / 256 ^ (8 * i + k) % 256 = 0) (hc : c < 256) :
    (dl 18446744073709551616 4 y).set i ((y / 18446744073709551616 ^ i % 18446744073709551616 ||| c * 2 ^ (8 * k) % 18446744073709551616 : Nat) : Int) = dl 18446744073709551616 4 (y + c * 256 ^ (8 * i + k)) := by
  have := lay_dl (s := 8) (n := 4) (t := 8 * i + k) (by omega) hy hc (by omega)
  rw [show (8 * i + k) / 8 = i by omega, show (8 * i + k) % 8 = k by omega, show (256 : Nat) ^ 8 = 18446744073709551616 by decide] at this
  rw [← this, Nat.mod_eq_of_lt (a := c * 2 ^ (8 * k)), Nat.pow_mul]
  have h1 : 2 ^ (8 * k) ≤ 2 ^ 56 := Nat.pow_le_pow_right (by omega) (by omega)
  have h2 : c * 2 ^ (8 * k) ≤ 255 * 2 ^ 56 := Nat.mul_le_mul (by omega) h1
  omega
theorem lay4 {y c t n : Nat} (ht : t / 4 < n) (hy : y / 256 ^ t % 256 = 0) (hc : c < 256) :
    (dl 4294967296 n y).set (t / 4) ((y / 4294967296 ^ (t / 4) % 4294967296 ||| c * 2 ^ (8 * (t % 4)) % 4294967296 : Nat) : Int) = dl 4294967296 n (y + c * 256 ^ t) := by
  have := lay_dl (s := 4) (n := n) (t := t) (by omega) hy hc ht
  rw [show (256 : Nat) ^ 4 = 4294967296 by decide] at this
  rw [← this, Nat.mod_eq_of_lt (a := c * 2 ^ (8 * (t % 4))), Nat.pow_mul]
  have h1 : 2 ^ (8 * (t % 4)) ≤ 2 ^ 24 := Nat.pow_le_pow_right (by omega) (by omega)
  have h2 : c * 2 ^ (8 * (t % 4)) ≤ 255 * 2 ^ 24 := Nat.mul_le_mul (by omega) h1
  omega
theorem from_all (m y : Nat) (hm : m ≤ 32) (hy : y < 256 ^ m) :
    (List.replicate 32 (0 : Int)).take (if 32 = 32 - m then 0 else 32 - m) ++ (bel m y).take m ++ (List.replicate 32 (0 : Int)).drop ((if 32 = 32 - m then 0 else 32 - m) + m) = bel 32 y := by
  have e : (bel m y).take m = bel m y := List.take_of_length_le (by rw [bel_length]; omega)
  rw [e]
  by_cases h : m = 0
  · subst h
    have : y = 0 := by omega
    subst this
    rw [if_pos rfl, List.take_zero, List.nil_append, Nat.add_zero, List.drop_zero, bel_zero, bel_zero]
    rfl
  · rw [if_neg (by omega), List.take_replicate, List.drop_replicate, show 32 - (32 - m + m) = 0 by omega, show min (32 - m) 32 = 32 - m by omega, ← bel_zero, bel_append _ _ _ _ hy]
    simp
    congr 1
    omega
end Go.Proofs.YtjolmphkmfbpbaaDoor
/- Slices of bytes: what comes in; copies; strings. -/
namespace Go.Proofs.YtjolmphkmfbpbaaDoor
open Go.ChangeShapes Go.WideShapes Go.ChangeAt Go.RowKit
set_option maxRecDepth 20000
theorem cellsB : Tryd.prog.cellsOf 5 = 1 := by kernel_rfl
/-- A slice of bytes that comes in: the bytes of a number. -/
theorem open_bytes {H : Type} {enc : TypeId × Value → H} {W0 : World} {r : Reach} {b0 base : Nat} {spare : Nat → Bool} {held : Bool} {v : Value} {d : DataW H} {p : List MemPlace}
    (hv : Value.okWide Tryd.prog W0 r b0 22 v) (h : DataW.Trod enc Tryd.prog W0 base spare held 22 v d p) : ∃ n x, x < 256 ^ n ∧ n ≤ 9223372036854775807 ∧ Rd W0 v .u8 (bel n x) ∧ (n = 0 ∨ ∃ elems rest, d = .slice elems rest ∧ n ≤ elems.length + rest.length) := by
  obtain ⟨a, len, cap, rfl⟩ := okWide_slice Tryd.underlying22 hv
  obtain ⟨fuel, hf⟩ := h
  rcases open_ints Tryd.underlying22 Tryd.underlying5 cellsB hf with ⟨hcs, _⟩ | ⟨a', len', cap', zs, hcs, _, hl, hm, hz, hxd, hcell, hwf⟩
  · simp [Value.cells] at hcs
    obtain ⟨rfl, rfl, rfl⟩ := hcs
    exact ⟨0, 0, by omega, by omega, ⟨none, 0, rfl, Nat.le_refl _, .inl rfl⟩, .inl rfl⟩
  · simp [Value.cells] at hcs
    obtain ⟨rfl, rfl, rfl⟩ := hcs
    have hlen : (zs.take len).length = len := by
      rw [List.length_take, hz]
      split <;> omega
    have hb : ∀ p ∈ zs.take len, 0 ≤ p ∧ p < 256 := fun p hp => by
      have := bounds_u8 (hwf p (List.mem_of_mem_take hp))
      omega
    obtain ⟨x, hx, hxe⟩ := bytes_of _ hb
    rw [hlen] at hx hxe
    refine ⟨len, x, hx, Nat.le_trans hl hm, ?_, .inr ⟨_, _, (Prod.mk.inj hxd).1, by unfold lits; rw [List.length_map, hlen]; omega⟩⟩
    rw [← hxe]
    refine ⟨some a', cap, by rw [hlen], by rw [hlen]; exact hl, ?_⟩
    by_cases h0 : len = 0
    · left
      subst h0
      exact List.take_zero ..
    · right
      have hzl : len ≤ zs.length := by rw [List.length_take] at hlen; omega
      have c0 := hcell 0 (by omega)
      obtain ⟨ab, ao, spot⟩ := a'
      have hspot : spot = none := by simpa [Addr.add] using World.cell?_spot c0
      subst hspot
      have key : ∃ cs e fz, W0.heap[ab]? = some (.cells cs e fz) := by
        rw [addr_add] at c0
        unfold World.cell? at c0
        split at c0
        · rename_i cs e fz hh
          exact ⟨cs, e, fz, hh⟩
        · cases c0
      obtain ⟨cs, e, fz, hh⟩ := key
      refine ⟨ab, ao, cs, e, fz, rfl, hh, fun i q hq => ?_⟩
      have hi : i < len := by
        have := (List.getElem?_eq_some_iff.1 hq).1
        omega
      have ci := hcell i (by omega)
      rw [addr_add] at ci
      unfold World.cell? at ci
      rw [hh] at ci
      simp only [Option.isSome_none, Bool.false_eq_true, if_false] at ci
      rw [List.getElem?_take, if_pos hi] at hq
      rw [ci, List.getD, hq]
      rfl
end Go.Proofs.YtjolmphkmfbpbaaDoor
/- Copies; strings. -/
namespace Go.Proofs.YtjolmphkmfbpbaaDoor
open Go.RowKit
set_option maxRecDepth 20000
section
variable {C : Ctx} {k : K} {E : Env} {L : Hp} {ops : Array Oper} {rest : List Oper} {dst : Option Tmp} {ty : TypeId} {pos : String} {af : Array Edge} {g : Option (Nat × Bool)}
variable {x y : Operand} {t t' e es u : TypeId} {b off d n len : Nat} {kd : IntKind} {l m : List Int} {v : Value}
/-- copy(dst, src): dst lies in an owned block of integers. -/
theorem S_copyB (q : Nat) {dc : Nat} {ats : Array TypeId} (h0 : ats[0]? = some t) (ht : C.P.underlying t = some (.slice es)) (he : szOf C.P es = some 1)
    (hx : ev E x = some (.slice (some ⟨b, off, none⟩) len dc)) (hy : ev E y = some v) (hq : L[q]? = some (blk b (.cells (ints kd l) e (0, 0)))) (hr : ∀ w, St C L w → Rd w v kd m) (hn : min m.length len = n) (ho : off + n ≤ l.length)
    (hg : wantedE ops E g = some true) (hd : Nat.blt d C.n = true)
    (h : S C ops rest k ((d, .int .i64 n) :: E) (L.set q (blk b (.cells (ints kd (l.take off ++ m.take n ++ l.drop (off + n))) e (0, 0))))) : S C ops (⟨some d, .call ⟨.builtin .copy, #[x, y], ats⟩, ty, pos, af, g⟩ :: rest) k E L := by
  refine ⟨fun a w hrel hs => ?_⟩
  obtain ⟨sb, cap, rfl, _⟩ := (hr w hs).out
  exact (S_setV (C := C) (k := k) (rest := rest) (ops := ops) q hg hd hq (run_copy h0 ht he hx hy hr hn ho) h).out a w hrel hs
/-- .. dst is an owned slice. -/
theorem S_copyR (q : Nat) {ats : Array TypeId} {u : Value} (h0 : ats[0]? = some t) (ht : C.P.underlying t = some (.slice es)) (he : szOf C.P es = some 1)
    (hx : ev E x = some v) (hy : ev E y = some u) (hq : L[q]? = some (row kd l v)) (hr : ∀ w, St C L w → Rd w u kd m) (hn : min m.length l.length = n)
    (hg : wantedE ops E g = some true) (hd : Nat.blt d C.n = true)
    (h : ∀ z, S C ops rest k ((d, z) :: E) (L.set q (row kd (m.take n ++ l.drop n) v))) : S C ops (⟨some d, .call ⟨.builtin .copy, #[x, y], ats⟩, ty, pos, af, g⟩ :: rest) k E L := by
  refine S_updV q (R := fun _ => row kd (m.take n ++ l.drop n) v) hg hd hq (fun a w D hrel hs hA hl => ?_) h
  have hrd := hr w hs
  obtain ⟨sb, cap, rfl, hmc, _⟩ := hrd.out
  have hlen : (m.take n ++ l.drop n).length = l.length := by simp; omega
  rcases hA with ⟨rfl, rfl⟩ | ⟨gb, gc, post, ge, rfl, hb, hc⟩
  · have hn0 : n = 0 := by rw [← hn]; simp
    subst hn0
    refine ⟨.int .i64 0, w, D, ?_, rfl, rfl, rfl, Nat.le_refl _, fun b h => .inl h, fun _ _ _ => rfl, .inl ⟨rfl, by simp⟩⟩
    obtain ⟨cs, hcs⟩ := run_builtin (dst := some d) (ty := ty) (pos := pos) (af := af) (g := g) hrel (P := C.P) (b := .copy) (aS := [x, y]) (ats := ats) (w := w) (vs := [_, _]) (by simp [evs, hx, hy]; exact ⟨rfl, rfl⟩)
    rw [hcs]
    have h1 := run_load_ints (P := C.P) hrd (n := 0) (by omega)
    simp only [builtin, Builtin.copy_, List.getElem?_toArray, List.getElem?_cons_zero, List.getElem?_cons_succ, h0, Sem.run_bind, run_underlying ht, Result.andThen_ok, run_sizeOf he, Builtin.lenOf, Sem.run_pure]
    have h5 : Nat.min m.length 0 = 0 := Nat.min_zero _
    rw [h5, h1]
    simp [ints, goInt]
  · have hb' := (cut_in hb).2
    have := run_copy (C := C) (E := E) (L := L) (ty := ty) (pos := pos) (af := af) (g := g) (d := d) (b := gb) (off := 0) (e := ge) (l := l ++ post) (n := n) h0 ht he hx hy hr hn (by simp; omega) a w hrel hs hb'
    refine ⟨_, _, D, this, rfl, rfl, rfl, by simp, fun b h => .inl h, fun j _ hj => setRow_other _ _ _ _ fun e3 => hj (e3 ▸ (cut_in hb).1), .inr ⟨gb, gc, post, ge, by rw [hlen], cut_of (cut_in hb).1 ?_, by rw [hlen]; exact hc⟩⟩
    rw [setRow_heap w gb _ _ ge _ hb', List.take_zero, List.nil_append, Nat.zero_add, List.drop_append_of_le_length (by omega), List.append_assoc]
end
section
variable {C : Ctx} {k : K} {E : Env} {L : Hp} {ops : Array Oper} {rest : List Oper} {dst : Option Tmp} {ty : TypeId} {pos : String} {af : Array Edge} {g : Option (Nat × Bool)}
variable {x y : Operand} {t e : TypeId} {b off n : Nat} {kd : IntKind} {l m r : List Int}
/-- A store of some integers of a block. -/
theorem S_storePI (q : Nat) (ht : szOf C.P t = some n) (hx : ev E x = some (.pointer (some ⟨b, off, none⟩))) (hy : ev E y = some (.agg (ints kd m)))
    (hq : L[q]? = some (blk b (.cells (ints kd l) e (0, 0)))) (hm : m.length = n) (ho : off + n ≤ l.length) (hr : l.take off ++ m ++ l.drop (off + n) = r) (hg : wantedE ops E g = some true)
    (h : S C ops rest k E (L.set q (blk b (.cells (ints kd r) e (0, 0))))) : S C ops (⟨none, .store t x y, ty, pos, af, g⟩ :: rest) k E L := by
  refine S_set q hg rfl hq (fun a w hrel hs hb => ?_) h
  have h2 := run_storeCells_at (P := C.P) b off e (m.map (Value.int kd)) 0 (ints kd l) w hb (by simp; omega) (fun v hv => by obtain ⟨p, _, rfl⟩ := List.mem_map.1 hv; rfl)
  have h3 : ((ints kd l).toList.take (off + 0) ++ m.map (Value.int kd) ++ (ints kd l).toList.drop (off + 0 + (m.map (Value.int kd)).length)).toArray = ints kd r := by
    rw [← hr]
    simp [ints, List.map_take, List.map_drop, hm]
  rw [h3] at h2
  have h4 : (ints kd m).toList = m.map (Value.int kd) := by simp [ints]
  simp only [execOp, hrel.eval hx, hrel.eval hy, Instr.storeAt, Instr.sureAddr, Sem.run_bind, Sem.run_pure, Result.andThen_ok, storeVar, Value.cells, run_sizeOf ht, ints_size, hm, h4, h2, ne_eq, not_true_eq_false, if_false]
variable {E : Env}
/-- Some of the integers of a block, named. -/
theorem Y_loadPX (q : Nat) {d : TypeDesc} {fz : Nat × Nat} (ht : C.P.underlying t = some d) (hd : isAggB d = true) (hx : ev E x = some (.pointer (some ⟨b, off, none⟩)))
    (hq : L[q]? = some (blk b (.cells (ints kd l) e fz))) (hz : szOf C.P t = some n) (hn : off + n ≤ l.length) (hr : (l.drop off).take n = r) : Yv C E L ⟨dst, .load t x, ty, pos, af, g⟩ (.agg (ints kd r)) :=
  hr ▸ Y_loadPI q ht hd hx hq hz hn
end
/-- What a step leads to is said once, whatever way it took. -/
theorem T_cutK {C : Ctx} {k : K} {E : Env} {L : Hp} {c y : Code} {α : Type} (J : α → Prop) (F : α → Env) (M : α → Hp) (hx : T C c (.loop (fun E' L' => ∃ a, J a ∧ Env.sub (F a) E' ∧ Emb (M a) L') k) E L) (hy : ∀ a, J a → T C y k (F a) (M a)) : T C c (.seq y k) E L := by
  refine ⟨⟨fun a w hr hs => ?_⟩⟩
  refine wp_mono (hx.out.out a w hr hs) ?_
  rintro ex a w ⟨E', L', hr', hs', hq⟩
  cases ex with
  | normal =>
    simp only [K.sem] at hq
    obtain ⟨z, hz, hF, hL⟩ := hq
    exact ⟨E', L', hr', hs', (show T0 C y (k.sem C) E' L' from ⟨fun a w hr hs => (hy z hz).out.out a w (hr.mono hF) (hs.emb hL)⟩)⟩
  | _ => exact ⟨E', L', hr', hs', by simpa [K.sem] using hq⟩
theorem Y_maxI {C : Ctx} {E : Env} {L : Hp} {dst : Option Tmp} {ty : TypeId} {pos : String} {af : Array Edge} {g : Option (Nat × Bool)} {x y : Operand} {k : IntKind} {p q r : Int} {ats : Array TypeId} (hx : ev E x = some (.int k p)) (hy : ev E y = some (.int k q)) (hr : max p q = r) :
    Yv C E L ⟨dst, .call ⟨.builtin .max, #[x, y], ats⟩, ty, pos, af, g⟩ (.int k r) := by
  refine ⟨fun a w h _ => ?_⟩
  obtain ⟨cs, hc⟩ := run_builtin (dst := dst) (ty := ty) (pos := pos) (af := af) (g := g) h (P := C.P) (b := .max) (aS := [x, y]) (ats := ats) (w := w) (vs := [.int k p, .int k q]) (by simp [evs, hx, hy])
  rw [hc]
  have : (if p < q then q else p) = r := by rw [← hr]; split <;> omega
  simp [builtin, Builtin.max_, Builtin.max2, this]
/-- The string of bytes. -/
def strI (l : List Int) : ByteArray := l.foldl (fun r n => r.push (UInt8.ofNat n.toNat)) ByteArray.empty
section
variable {C : Ctx} {E : Env} {L : Hp} {dst : Option Tmp} {ty : TypeId} {pos : String} {af : Array Edge} {g : Option (Nat × Bool)}
variable {x y : Operand} {t e u : TypeId} {l m : List Int} {v : Value} {s r : ByteArray}
theorem Y_toStr (ht : C.P.underlying t = some (.slice e)) (he : C.P.underlying e = some (.int .u8)) (hu : C.P.underlying u = some .string) (hx : ev E x = some v) (hr : ∀ w, St C L w → Rd w v .u8 l) :
    Yv C E L ⟨dst, .convert t u x, ty, pos, af, g⟩ (.string (strI l)) := by
  refine ⟨fun a w h hs => ?_⟩
  have hrd := hr w hs
  obtain ⟨sb, cap, rfl, hc, h3⟩ := hrd.out
  have h1 := run_convert_bytes_string (P := C.P) w t u e sb l.length cap ht he hu
  simp only [execOp, h.eval hx, Sem.run_bind, h1]
  cases sb with
  | none =>
    rcases h3 with rfl | ⟨_, _, _, _, _, ha, _⟩
    · rfl
    · cases ha
  | some a' =>
    have h2 : (loadCells a' l.length).run C.P w = .ok (l.map (Value.int .u8)).toArray w := by
      rcases h3 with rfl | ⟨b, off, cs, e', fz, ha, hw, hcs⟩
      · exact run_loadCells_list (P := C.P) w a' [] fun j v hv => by simp at hv
      · cases ha
        have := run_loadCells_list (P := C.P) w ⟨b, off, none⟩ (l.map (Value.int .u8)) fun j v hv => by
          rw [List.getElem?_map, Option.map_eq_some_iff] at hv
          obtain ⟨p, hp, rfl⟩ := hv
          rw [addr_add]
          exact hrd.cell hp
        rwa [List.length_map] at this
    rw [run_bytesToString w a' l.length cap l h2]
    rfl
theorem eqGuard_str (op : BinOp) (t : TypeId) (x y : Operand) (p q : ByteArray) (P : Program) (w : World) : (eqGuard op t x y (.string p) (.string q)).run P w = .ok () w := by
  cases op <;> rfl
theorem Y_eqlT_t (hx : ev E x = some (.string s)) (hy : ev E y = some (.string r)) (h : s = r) : Yv C E L ⟨dst, .binOp .eql t x y u, ty, pos, af, g⟩ (.bool true) := by
  subst h
  refine ⟨fun a w h _ => ?_⟩
  simp [execOp, h.eval hx, h.eval hy, Sem.run_bind, eqGuard_str, Result.andThen_ok, binOp, Op.stringOp]
end
end Go.Proofs.YtjolmphkmfbpbaaDoor
/- The reference's bits and shifts. -/
namespace Go.Proofs.YtjolmphkmfbpbaaDoor
open Go.RowKit
set_option maxRecDepth 10000
set_option maxHeartbeats 4000000
/-- A bit; 0 beyond. -/
def bitN (x : Nat) (n : Int) : Nat := if 0 ≤ n ∧ n ≤ 255 then x / 2 ^ n.toNat % 2 else 0
theorem bitN_lt (x : Nat) (n : Int) : bitN x n < 2 := by
  unfold bitN
  split
  · exact Nat.mod_lt _ (by omega)
  · omega
theorem bit_digit (x t e : Nat) (he : e < 8) : x / 256 ^ t % 256 / 2 ^ e % 2 = x / 2 ^ (8 * t + e) % 2 := by
  rw [← Nat.toNat_testBit, ← Nat.toNat_testBit, show 256 = 2 ^ 8 by decide, ← Nat.pow_mul, Nat.testBit_mod_two_pow, Nat.testBit_div_two_pow, Nat.add_comm e, decide_eq_true he, Bool.true_and]
theorem rbit_any (x : Nat) (n : Int) (w : World) : Fn Tryd.prog 78 #[D x, .int .i64 n] w fun v N => v = .int .i64 ((bitN x n : Nat) : Int) ∧ N = [] := by
  by_cases h1 : n < 0
  · refine Fn_of (args := [D x, .int .i64 n]) Tryd.func78 rfl Tryd.ntmps78 Tryd.results78 (by simp) ?_
    refine T_sr ?_
    refine S_boxA rfl rfl rfl fun _ => ?_
    refine S_as rfl rfl rfl ?_
    refine S_nx ?_
    refine T_seq ?_
    refine T_sr ?_
    refine S_mv rfl rfl rfl ?_
    refine S_val rfl rfl (Y_lss_t rfl rfl (by assumption)) ?_
    refine S_mv rfl rfl rfl ?_
    refine S_skip rfl rfl ?_
    refine S_skip rfl rfl ?_
    refine S_val rfl rfl (Y_pick_t rfl rfl) ?_
    refine S_nx ?_
    refine T_cond_true rfl ?_
    refine T_sr ?_
    refine S_as rfl rfl rfl ?_
    refine S_nx ?_
    refine T_ret ?_
    refine X_seq_ret ?_
    ((first | refine X_fin_ret ?_ | refine X_fin ?_); exact ⟨[_], [], .cons (.tmp rfl) .nil, Emb.nil _, by unfold bitN; rw [if_neg (by omega)]; rfl, rfl⟩)
  · by_cases h2 : 255 < n
    · refine Fn_of (args := [D x, .int .i64 n]) Tryd.func78 rfl Tryd.ntmps78 Tryd.results78 (by simp) ?_
      refine T_sr ?_
      refine S_boxA rfl rfl rfl fun _ => ?_
      refine S_as rfl rfl rfl ?_
      refine S_nx ?_
      refine T_seq ?_
      refine T_sr ?_
      refine S_mv rfl rfl rfl ?_
      refine S_val rfl rfl (Y_lss_f rfl rfl (by assumption)) ?_
      refine S_mv rfl rfl rfl ?_
      refine S_mv rfl rfl rfl ?_
      refine S_val rfl rfl (Y_gtr_t rfl rfl (by assumption)) ?_
      refine S_val rfl rfl (Y_pick_f rfl rfl) ?_
      refine S_nx ?_
      refine T_cond_true rfl ?_
      refine T_sr ?_
      refine S_as rfl rfl rfl ?_
      refine S_nx ?_
      refine T_ret ?_
      refine X_seq_ret ?_
      ((first | refine X_fin_ret ?_ | refine X_fin ?_); exact ⟨[_], [], .cons (.tmp rfl) .nil, Emb.nil _, by unfold bitN; rw [if_neg (by omega)]; rfl, rfl⟩)
    · obtain ⟨j, rfl⟩ : ∃ j : Nat, n = j := ⟨n.toNat, by omega⟩
      refine Fn_of (args := [D x, .int .i64 j]) Tryd.func78 rfl Tryd.ntmps78 Tryd.results78 (by simp) ?_
      refine T_sr ?_
      refine S_boxA rfl rfl rfl fun _ => ?_
      refine S_as rfl rfl rfl ?_
      refine S_nx ?_
      refine T_seq ?_
      refine T_sr ?_
      refine S_mv rfl rfl rfl ?_
      refine S_val rfl rfl (Y_lss_f rfl rfl (by assumption)) ?_
      refine S_mv rfl rfl rfl ?_
      refine S_mv rfl rfl rfl ?_
      refine S_val rfl rfl (Y_gtr_f rfl rfl (by assumption)) ?_
      refine S_val rfl rfl (Y_pick_f rfl rfl) ?_
      refine S_nx ?_
      refine T_cond_false rfl ?_
      refine T_skip ?_
      refine X_seq ?_
      refine T_sr ?_
      refine S_mv rfl rfl rfl ?_
      refine S_val rfl rfl (Y_quoN rfl rfl (nat_cast _) (nat_lit' _) (Nat.succ_ne_zero _) (by first | with_reducible exact xi64 (by omega) | with_reducible exact x64 (by omega) | with_reducible exact x8 (by omega) | with_reducible exact x32 (by omega))) ?_
      refine S_val rfl rfl (Y_ixa (und rfl) (siz rfl) rfl rfl (nat_cast _) (by omega)) ?_
      refine S_val rfl rfl (Y_loadI 0 (und rfl) rfl rfl rfl (dl_get (by omega))) ?_
      refine S_as rfl rfl rfl ?_
      refine S_nx ?_
      refine T_seq ?_
      refine T_sr ?_
      refine S_as rfl rfl rfl ?_
      refine S_nx ?_
      refine T_block ?_
      rename_i b0
      refine T_loop (α := Nat × Nat) (fun a => a.1 ≤ j % 8 ∧ a.2 = x / 256 ^ (j / 8) % 256 / 2 ^ a.1)
        (fun a => [(1, .int .i64 j), (2, .pointer (some ⟨b0, 0, none⟩)), (5, .int .i64 a.2), (6, .int .i64 a.1)])
        (fun _ => [blk b0 (.cells (ints .i64 (dl 256 32 (x))) 104 (0, 0))])
        (fun a => 8 - a.1) (0, x / 256 ^ (j / 8) % 256) (by simp) (by repeat (first | exact Env.sub_nil _ | (apply Env.sub_cons; rfl))) [] rfl ?_
      rintro ⟨k, v⟩ ⟨hk, hv⟩
      dsimp only at hk hv ⊢
      have hv' : v < 256 := by rw [hv]; exact Nat.lt_of_le_of_lt (Nat.div_le_self _ _) (dig256_lt x _)
      refine T_seq ?_
      refine T_sr ?_
      refine S_mv rfl rfl rfl ?_
      refine S_mv rfl rfl rfl ?_
      refine S_val rfl rfl (Y_remN rfl rfl (nat_cast _) (nat_lit' _) (Nat.succ_ne_zero _)) ?_
      refine S_val rfl rfl (Y_lss rfl rfl) ?_
      refine S_nx ?_
      refine T_if rfl (fun h => ?_) (fun h => ?_)
      · refine T_skip ?_
        refine X_seq ?_
        refine T_seq ?_
        refine T_block ?_
        refine T_region ?_
        refine S_mv rfl rfl rfl ?_
        refine S_val rfl rfl (Y_quoN rfl rfl (nat_cast _) (nat_lit' _) (Nat.succ_ne_zero _) (by first | with_reducible exact xi64 (by omega) | with_reducible exact x64 (by omega) | with_reducible exact x8 (by omega) | with_reducible exact x32 (by omega))) ?_
        refine S_as rfl rfl rfl ?_
        refine S_nil ?_
        refine X_blk ?_
        refine X_seq ?_
        refine T_region ?_
        refine S_mv rfl rfl rfl ?_
        refine S_val rfl rfl (Y_addN rfl rfl (nat_cast _) (nat_lit' _) (by omega)) ?_
        refine S_as rfl rfl rfl ?_
        refine S_nil ?_
        refine X_loop ?_
        refine ⟨(k + 1, v / 2), ⟨by dsimp only; omega, by dsimp only; rw [hv, Nat.div_div_eq_div_mul, ← Nat.pow_succ]⟩, by dsimp only; omega, (by repeat (first | exact Env.sub_nil _ | (apply Env.sub_cons; rfl))), [], rfl⟩
      · obtain rfl : k = j % 8 := by omega
        refine T_exit ?_
        refine X_seq_exit ?_
        refine X_loop_exit ?_
        refine X_blk_hit rfl ?_
        refine X_seq ?_
        refine T_sr ?_
        refine S_mv rfl rfl rfl ?_
        refine S_val rfl rfl (Y_remN rfl rfl (nat_cast _) (nat_lit' _) (Nat.succ_ne_zero _)) ?_
        refine S_as rfl rfl rfl ?_
        refine S_nx ?_
        refine T_ret ?_
        ((first | refine X_fin_ret ?_ | refine X_fin ?_); exact ⟨[_], [], .cons (.tmp rfl) .nil, Emb.nil _, by
                  unfold bitN
                  rw [if_pos (by omega), hv, bit_digit x _ _ (by omega), show 8 * (j / 8) + j % 8 = j by omega]; rfl, rfl⟩)
/-- The parts of a number whose bits from j on are in. -/
def bst (x j : Nat) : List Int := (List.range 32).map fun t => ((x / 256 ^ t % 256 / 2 ^ (j - 8 * t) : Nat) : Int)
@[simp] theorem bst_length (x j : Nat) : (bst x j).length = 32 := by simp [bst]
end Go.Proofs.YtjolmphkmfbpbaaDoor
/- Bytes, and how numbers stand. -/
namespace Go.Proofs.YtjolmphkmfbpbaaDoor
open Go.RowKit
set_option maxRecDepth 10000
set_option maxHeartbeats 4000000
/-- Bytes, the highest first. -/
def be (x : Nat) : List Int := (dl 256 32 x).reverse
@[simp] theorem be_length (x : Nat) : (be x).length = 32 := by simp [be]
end Go.Proofs.YtjolmphkmfbpbaaDoor
/- The reference's and, or, xor. -/
namespace Go.Proofs.YtjolmphkmfbpbaaDoor
open Go.RowKit
set_option maxRecDepth 10000
set_option maxHeartbeats 4000000
theorem bitN_nat (x i : Nat) (hi : i < 256) : bitN x i = x / 2 ^ i % 2 := by
  unfold bitN
  rw [if_pos (by omega), Int.toNat_natCast]
end Go.Proofs.YtjolmphkmfbpbaaDoor
/- How numbers stand, their lengths, their bytes. -/
namespace Go.Proofs.YtjolmphkmfbpbaaDoor
open Go.RowKit
set_option maxRecDepth 10000
set_option maxHeartbeats 4000000
theorem bitLen_bit (x i : Nat) (h : x / 2 ^ i % 2 = 1) : bitLen (x % 2 ^ (i + 1)) = i + 1 := by
  have hP : 0 < 2 ^ i := Nat.pow_pos (by omega)
  have e : x % 2 ^ (i + 1) / 2 ^ i = 1 := by
    rw [mod_pow_succ', h, Nat.one_mul, Nat.add_div_right _ hP, Nat.div_eq_of_lt (Nat.mod_lt _ hP)]
  rw [bitLen_shift _ i (by omega), e]
  rfl
theorem rlen_any (x : Nat) (hx : x < 2 ^ 256) (w : World) : Fn Tryd.prog 69 #[D x] w fun v N => v = .int .i64 ((bitLen x : Nat) : Int) ∧ N = [] := by
  refine Fn_of (args := [D x]) Tryd.func69 rfl Tryd.ntmps69 Tryd.results69 (by simp) ?_
  refine T_sr ?_
  refine S_boxA rfl rfl rfl fun _ => ?_
  refine S_as rfl rfl rfl ?_
  refine S_nx ?_
  refine T_sr ?_
  refine S_as rfl rfl rfl ?_
  refine S_nx ?_
  refine T_seq ?_
  refine T_sr ?_
  refine S_as rfl rfl rfl ?_
  refine S_nx ?_
  refine T_block ?_
  rename_i b0
  refine T_loop (α := Nat × Nat) (fun a => a.1 ≤ 256 ∧ a.2 = bitLen (x % 2 ^ a.1))
    (fun a => [(1, .pointer (some ⟨b0, 0, none⟩)), (3, .int .i64 a.2), (4, .int .i64 a.1)])
    (fun _ => [blk b0 (.cells (ints .i64 (dl 256 32 (x))) 104 (0, 0))])
    (fun a => 256 - a.1) (0, 0) ⟨by omega, by rw [Nat.pow_zero, Nat.mod_one]; rfl⟩ (by repeat (first | exact Env.sub_nil _ | (apply Env.sub_cons; rfl))) [] rfl ?_
  rintro ⟨i, n⟩ ⟨hi, hn⟩
  dsimp only at hi hn ⊢
  refine T_seq ?_
  refine T_sr ?_
  refine S_mv rfl rfl rfl ?_
  refine S_val rfl rfl (Y_lss rfl rfl) ?_
  refine S_nx ?_
  refine T_if rfl (fun h => ?_) (fun h => ?_)
  · have hb := bitN_nat x i (by omega)
    have hb2 := bitN_lt x i
    by_cases hc : bitN x i = 1
    · have hc' : ((bitN x i : Nat) : Int) = 1 := by omega
      refine T_skip ?_
      refine X_seq ?_
      refine T_seq ?_
      refine T_block ?_
      refine T_sr ?_
      refine S_val rfl rfl (Y_loadAI 0 (und rfl) rfl rfl rfl (siz rfl) (dl_length _ _ _)) ?_
      refine S_mv rfl rfl rfl ?_
      refine S_callV rfl rfl (bod rfl) (fun w hs => rbit_any x i _) rfl rfl ?_
      refine S_val rfl rfl (Y_eql_t rfl rfl (by assumption)) ?_
      refine S_nx ?_
      refine T_cond_true rfl ?_
      refine T_region ?_
      refine S_mv rfl rfl rfl ?_
      refine S_val rfl rfl (Y_addN rfl rfl (nat_cast _) (nat_lit' _) (by omega)) ?_
      refine S_as rfl rfl rfl ?_
      refine S_nil ?_
      refine X_blk ?_
      refine X_seq ?_
      refine T_region ?_
      refine S_mv rfl rfl rfl ?_
      refine S_val rfl rfl (Y_addN rfl rfl (nat_cast _) (nat_lit' _) (by omega)) ?_
      refine S_as rfl rfl rfl ?_
      refine S_nil ?_
      refine X_loop ?_
      exact ⟨(i + 1, i + 1), ⟨by dsimp only; omega, (bitLen_bit x i (by omega)).symm⟩, by dsimp only; omega, (by repeat (first | exact Env.sub_nil _ | (apply Env.sub_cons; rfl))), [], rfl⟩
    · have hc' : ¬ ((bitN x i : Nat) : Int) = 1 := by omega
      refine T_skip ?_
      refine X_seq ?_
      refine T_seq ?_
      refine T_block ?_
      refine T_sr ?_
      refine S_val rfl rfl (Y_loadAI 0 (und rfl) rfl rfl rfl (siz rfl) (dl_length _ _ _)) ?_
      refine S_mv rfl rfl rfl ?_
      refine S_callV rfl rfl (bod rfl) (fun w hs => rbit_any x i _) rfl rfl ?_
      refine S_val rfl rfl (Y_eql_f rfl rfl (by assumption)) ?_
      refine S_nx ?_
      refine T_cond_false rfl ?_
      refine T_skip ?_
      refine X_blk ?_
      refine X_seq ?_
      refine T_region ?_
      refine S_mv rfl rfl rfl ?_
      refine S_val rfl rfl (Y_addN rfl rfl (nat_cast _) (nat_lit' _) (by omega)) ?_
      refine S_as rfl rfl rfl ?_
      refine S_nil ?_
      refine X_loop ?_
      exact ⟨(i + 1, n), ⟨by dsimp only; omega, by dsimp only; rw [mod_pow_succ', show x / 2 ^ i % 2 = 0 by omega, Nat.zero_mul, Nat.add_zero]; exact hn⟩, by dsimp only; omega, (by repeat (first | exact Env.sub_nil _ | (apply Env.sub_cons; rfl))), [], rfl⟩
  · obtain rfl : i = 256 := by omega
    refine T_exit ?_
    refine X_seq_exit ?_
    refine X_loop_exit ?_
    refine X_blk_hit rfl ?_
    refine X_seq ?_
    refine T_sr ?_
    refine S_mv rfl rfl rfl ?_
    refine S_as rfl rfl rfl ?_
    refine S_nx ?_
    refine T_ret ?_
    ((first | refine X_fin_ret ?_ | refine X_fin ?_); exact ⟨[_], [], .cons (.tmp rfl) .nil, Emb.nil _, by rw [hn, Nat.mod_eq_of_lt hx]; rfl, rfl⟩)
end Go.Proofs.YtjolmphkmfbpbaaDoor
