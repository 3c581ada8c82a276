import Derived.Test.YtonmkjcilepdcaaGreatDoorDraw
import Derived.Laws.AppendOwn
import Derived.Laws.MakeOwn
/- Slices of integers that are owned. -/
namespace Go.Proofs.YtonmkjcilepdcaaGreatDoor
open Go.RowKit

/-- An owned slice of integers, from its block's begin on. -/
def row (k : IntKind) (l : List Int) (v : Value) : Asr := fun h =>
  (v = .slice none 0 0 ∧ l = []) ∨ ∃ g cap post e, v = .slice (some ⟨g, 0, none⟩) l.length cap ∧ h g = some (.cells (ints k (l ++ post)) e (0, 0)) ∧ cap = l.length + post.length
/-- An element's place. -/
def vAt (v : Value) (i : Nat) : Addr :=
  match v with
  | .slice (some ⟨b, off, _⟩) _ _ => ⟨b, off + i, none⟩
  | _ => ⟨0, 0, none⟩
def vTake (n : Nat) (v : Value) : Value :=
  match v with
  | .slice a _ c => .slice a n c
  | v => v
def vDrop (n : Nat) (v : Value) : Value :=
  match v with
  | .slice a m c => .slice (addrAt a c n) (m - n) (c - n)
  | v => v

theorem row.rd {k : IntKind} {l : List Int} {v : Value} {D : Nat → Prop} {w : World} (h : row k l v (cut D w)) : Rd w v k l := by
  rcases h with ⟨rfl, rfl⟩ | ⟨g, cap, post, e, rfl, h, hc⟩
  · exact ⟨none, 0, rfl, by simp, .inl rfl⟩
  · refine ⟨some ⟨g, 0, none⟩, cap, rfl, by omega, .inr ⟨g, 0, _, e, (0, 0), rfl, (cut_in h).2, fun i p hp => ?_⟩⟩
    rw [Nat.zero_add, ints_get, List.getElem?_append_left (List.getElem?_eq_some_iff.1 hp).1, hp]
    rfl
theorem St.rowRd {C : Ctx} {L : Hp} {w : World} (h : St C L w) (q : Nat) {k : IntKind} {l : List Int} {v : Value} (hq : L[q]? = some (row k l v)) : Rd w v k l := by
  obtain ⟨ow, ho⟩ := h.own
  exact row.rd (ho.sat q _ hq)
theorem row.take {k : IntKind} {l : List Int} {v : Value} {h : PH} (hr : row k l v h) {n : Nat} (hn : n ≤ l.length) : row k (l.take n) (vTake n v) h := by
  have hl : (l.take n).length = n := by rw [List.length_take]; omega
  rcases hr with ⟨rfl, rfl⟩ | ⟨g, cap, post, e, rfl, hg, hc⟩
  · left
    simp at hn
    subst hn
    exact ⟨rfl, rfl⟩
  · right
    refine ⟨g, cap, l.drop n ++ post, e, by rw [hl]; rfl, by rw [← List.append_assoc, List.take_append_drop]; exact hg, ?_⟩
    rw [hl, List.length_append, List.length_drop]
    omega
/-- What is said may be said otherwise. -/
theorem St.conv {C : Ctx} {L : Hp} {w : World} (h : St C L w) {q : Nat} {A A' : Asr} (hq : L[q]? = some A) (hA : ∀ h, A h → A' h) : St C (L.set q A') w :=
  h.upd hq rfl rfl rfl (Nat.le_refl _) fun D hD hl => ⟨D, fun _ h => .inl h, hl, fun _ _ _ => rfl, hA _ hD⟩
theorem T_conv {C : Ctx} {k : K} {E : Env} {L : Hp} {c : Code} (q : Nat) {A A' : Asr} (hq : L[q]? = some A) (hA : ∀ h, A h → A' h) (h : T C c k E (L.set q A')) : T C c k E L :=
  ⟨⟨fun a w hr hs => h.out.out a w hr (hs.conv hq hA)⟩⟩
theorem S_conv {C : Ctx} {k : K} {E : Env} {L : Hp} {ops : Array Oper} {l : List Oper} (q : Nat) {A A' : Asr} (hq : L[q]? = some A) (hA : ∀ h, A h → A' h) (h : S C ops l k E (L.set q A')) : S C ops l k E L :=
  ⟨fun a w hr hs => h.out a w hr (hs.conv hq hA)⟩
/-- An array that is sliced whole. -/
theorem row.of_blk {k : IntKind} {l : List Int} {b n : Nat} {e : TypeId} {h : PH} (hb : blk b (.cells (ints k l) e (0, 0)) h) (hn : l.length = n) : row k l (.slice (some ⟨b, 0, none⟩) n n) h :=
  .inr ⟨b, n, [], e, by rw [hn], by rw [List.append_nil]; exact hb, by rw [List.length_nil, hn]; rfl⟩

/-! ### append -/
def bytesOf (P : Program) (t : TypeId) : Option Nat := (P.info? t).map (·.bytes)
theorem zeroCells_int (k : IntKind) (n : Nat) : Builtin.zeroCells (Value.int k 0).cells n = ints k (List.replicate n 0) := by
  apply Array.ext
  · simp [Builtin.zeroCells, Value.cells, ints]
  · intro i h1 h2
    simp [Builtin.zeroCells, Value.cells, ints, Nat.mod_one]
theorem Rd.first {P : Program} {w : World} {v : Value} {k : IntKind} {l : List Int} (h : Rd w v k l) : (Builtin.firstCells 1 l.length v).run P w = .ok (ints k l) w := by
  obtain ⟨a, c, rfl, h2, h3⟩ := h.out
  have := run_load_ints (P := P) h (n := l.length) (Nat.le_refl _)
  rw [List.take_length] at this
  exact this
theorem Rd.drew {w : World} {v : Value} {k : IntKind} {l : List Int} (h : Rd w v k l) : Rd w.drew v k l := by
  obtain ⟨a, c, h1, h2, h3⟩ := h.out
  exact ⟨a, c, h1, h2, h3⟩
theorem ints_append (k : IntKind) (l m : List Int) : ints k l ++ ints k m = ints k (l ++ m) := by simp [ints]

section
variable {P : Program} {t t' ty e e' : TypeId} {k : IntKind} {l m : List Int} {v x : Value} {bytes : Nat}
theorem run_append_row {w : World} {D : Nat → Prop} (ht : P.underlying t = some (.slice e)) (ht' : P.underlying t' = some (.slice e')) (he : szOf P e = some 1) (hb : bytesOf P e = some bytes) (hz : zeroOf P e = some (.int k 0))
    (hv : row k l v (cut D w)) (hx : Rd w x k m) (hm : l.length + m.length ≤ 1099511627776) (hby : 0 < bytes ∧ bytes ≤ 128) :
    ∃ v' w' D', (Builtin.append_ #[t, t'] ty #[v, x]).run P w = .ok v' w' ∧ w'.os = w.os ∧ w'.tape = w.tape ∧ w'.output = w.output ∧ w.heap.size ≤ w'.heap.size ∧
      (∀ b, D' b → D b ∨ (w.heap.size ≤ b ∧ b < w'.heap.size)) ∧ (∀ b, b < w.heap.size → ¬ D b → w'.heap[b]? = w.heap[b]?) ∧ row k (l ++ m) v' (cut D' w') := by
  obtain ⟨i, hi, hsz⟩ : ∃ i, P.info? e = some i ∧ i.size = 1 := by
    unfold szOf at he
    cases h : P.info? e with
    | none => simp [h] at he
    | some i => simp [h] at he; exact ⟨i, rfl, he⟩
  have hib : i.bytes = bytes := by unfold bytesOf at hb; rw [hi] at hb; simpa using hb
  have hiz : i.zero = some (.int k 0) := by unfold zeroOf at hz; rw [hi] at hz; simpa using hz
  have hfx := hx.first (P := P)
  have hfxd := hx.drew.first (P := P)
  have hxv := hx
  obtain ⟨xa, xc, rfl, hxc, _⟩ := hxv.out
  clear hxv
  have grow : ∀ (old : Option Addr) (n cap : Nat), n = l.length → cap < n + m.length → n ≤ cap → v = .slice old n cap → Rd w v k l →
      ∃ v' w' D', (Builtin.append_ #[t, t'] ty #[v, .slice xa m.length xc]).run P w = .ok v' w' ∧ w'.os = w.os ∧ w'.tape = w.tape ∧ w'.output = w.output ∧ w.heap.size ≤ w'.heap.size ∧
        (∀ b, D' b → D b ∨ (w.heap.size ≤ b ∧ b < w'.heap.size)) ∧ (∀ b, b < w.heap.size → ¬ D b → w'.heap[b]? = w.heap[b]?) ∧ row k (l ++ m) v' (cut D' w') := by
    intro old n cap hn hc hnc hv hr
    subst hn
    have hfo := hr.drew.first (P := P)
    rw [hv] at hfo
    have h1 : ¬ (l.length + m.length ≤ cap) := by omega
    have h2 : ¬ ((9223372036854775807 : Int) < (l.length : Int) + (m.length : Int)) := by omega
    have h3 : ¬ (281474976710656 < Builtin.nextslicecap (l.length + m.length) cap * i.bytes) := by
      have a1 := nextslicecap_le hc
      have a2 : Builtin.nextslicecap (l.length + m.length) cap * i.bytes ≤ 2199023255552 * 128 := Nat.mul_le_mul (by omega) (by omega)
      omega
    have hge : l.length + m.length ≤ grownCap w (l.length + m.length) cap e := by simp [grownCap, Question.cut]
    refine ⟨.slice (some ⟨w.heap.size, 0, none⟩) (l.length + m.length) (grownCap w (l.length + m.length) cap e),
      w.drew.alloc (.cells (ints k l ++ ints k m ++ ints k (List.replicate (grownCap w (l.length + m.length) cap e - (l.length + m.length)) 0)) e), fun b => b = w.heap.size, ?_, rfl, rfl, rfl, ?_, ?_, ?_, ?_⟩
    · rw [hv]
      simp [Builtin.append_, run_underlying ht, run_underlying ht', sizeOf, typeInfo, zeroValue, hi, hiz, hsz, Builtin.lenOf, h1, h2, h3, Question.forced, hfo, hfxd, newRow, grownCap, zeroCells_int]
    · simp
    · rintro b rfl; right; simp
    · intro b hb _
      exact heap_alloc_old w.drew _ b hb
    · right
      refine ⟨w.heap.size, _, List.replicate (grownCap w (l.length + m.length) cap e - (l.length + m.length)) 0, e, by rw [List.length_append], ?_, ?_⟩
      · rw [ints_append, ints_append]
        exact cut_of rfl (heap_alloc_new w.drew _)
      · rw [List.length_append, List.length_replicate]
        omega
  rcases hv with ⟨rfl, rfl⟩ | ⟨g, cap, post, e0, rfl, hg, hc⟩
  · by_cases hm0 : m = []
    · subst hm0
      refine ⟨.slice none 0 0, w, fun _ => False, ?_, rfl, rfl, rfl, Nat.le_refl _, fun _ h => h.elim, fun _ _ _ => rfl, .inl ⟨rfl, rfl⟩⟩
      simp at hfx
      simp [Builtin.append_, run_underlying ht, run_underlying ht', sizeOf, typeInfo, hi, hsz, Builtin.lenOf, hfx]
    · have : m.length ≠ 0 := by simpa using hm0
      exact grow none 0 0 rfl (by omega) (Nat.le_refl _) rfl ⟨none, 0, rfl, by simp, .inl rfl⟩
  · have hg' := cut_in hg
    by_cases hr : l.length + m.length ≤ cap
    · have hst := run_storeCells_at P g l.length e0 (m.map (Value.int k)) 0 (ints k (l ++ post)) w hg'.2 (by simp; omega) (fun v hv => by obtain ⟨p, _, rfl⟩ := List.mem_map.1 hv; rfl)
      have h4 : (ints k m).toList = m.map (Value.int k) := by simp [ints]
      have h3 : ((ints k (l ++ post)).toList.take (l.length + 0) ++ m.map (Value.int k) ++ (ints k (l ++ post)).toList.drop (l.length + 0 + (m.map (Value.int k)).length)).toArray = ints k (l ++ m ++ post.drop m.length) := by
        simp [ints, List.drop_append]
      rw [h3] at hst
      refine ⟨.slice (some ⟨g, 0, none⟩) (l.length + m.length) cap, w.setRow g (ints k (l ++ m ++ post.drop m.length)), D, ?_, rfl, rfl, rfl, by simp, fun _ h => .inl h, ?_, .inr ⟨g, cap, post.drop m.length, e0, by rw [List.length_append], ?_, ?_⟩⟩
      · simp [Builtin.append_, run_underlying ht, run_underlying ht', sizeOf, typeInfo, hi, hsz, Builtin.lenOf, hr, hfx, Addr.add_lit, h4, hst]
      · intro b _ hb
        exact setRow_other _ _ _ _ fun e => hb (e ▸ hg'.1)
      · exact cut_of hg'.1 (setRow_heap w g _ _ e0 _ hg'.2)
      · rw [List.length_append, List.length_drop]
        omega
    · exact grow (some ⟨g, 0, none⟩) l.length cap rfl (by omega) (by omega) rfl (row.rd (.inr ⟨g, cap, post, e0, rfl, hg, hc⟩))
end

section
variable {C : Ctx} {K0 : K} {E : Env} {L : Hp} {ops : Array Oper} {rest : List Oper} {dst : Option Tmp} {ty : TypeId} {pos : String} {af : Array Edge} {g : Option (Nat × Bool)}
variable {x y : Operand} {t t' e e' : TypeId} {k k' : IntKind} {p z : Int} {i n : Nat} {l m : List Int} {v u : Value} {d : Nat}

/-- An operation that turns what an assertion says, and yields a value. -/
theorem S_updV (q : Nat) {op : Op} {A : Asr} {R : Value → Asr} (hg : wantedE ops E g = some true) (hd : Nat.blt d C.n = true) (hq : L[q]? = some A)
    (hv : ∀ a w D, Rel C.n E a → St C L w → A (cut D w) → (∀ b, D b → b < w.heap.size) → ∃ v w' D', (execOp a.eval ⟨some d, op, ty, pos, af, g⟩).run C.P w = .ok (.value v) w' ∧ w'.os = w.os ∧ w'.tape = w.tape ∧ w'.output = w.output ∧ w.heap.size ≤ w'.heap.size ∧
      (∀ b, D' b → D b ∨ (w.heap.size ≤ b ∧ b < w'.heap.size)) ∧ (∀ b, b < w.heap.size → ¬ D b → w'.heap[b]? = w.heap[b]?) ∧ R v (cut D' w'))
    (h : ∀ v, S C ops rest K0 ((d, v) :: E) (L.set q (R v))) : S C ops (⟨some d, op, ty, pos, af, g⟩ :: rest) K0 E L := by
  refine ⟨fun a w hr hs => ?_⟩
  unfold wpList
  rw [wantedE_spec hr (o := ⟨some d, op, ty, pos, af, g⟩) hg, if_pos rfl]
  refine .inl ?_
  unfold Oper.wp
  obtain ⟨ow, ho⟩ := hs.own
  obtain ⟨v, w', D', h0, h1, h2, h3, h4, h5, h6, h7⟩ := hv a w (ow q) hr hs (ho.sat q _ hq) (ho.lt q)
  rw [h0]
  refine (h v).out _ _ (hr.put (by simpa using hd) v) ?_
  have hql : q < L.length := (List.getElem?_eq_some_iff.1 hq).1
  have hfb : ∀ b, C.FB b → b < w.heap.size := fun b hb => by have := hs.fb b hb; have := hs.size; omega
  have hlt : ∀ b, D' b → b < w'.heap.size := fun b hb => (h5 b hb).elim (fun h => Nat.lt_of_lt_of_le (ho.lt q b h) h4) (fun h => h.2)
  refine ⟨h1.trans hs.os, h2.trans hs.tape, h3.trans hs.output, Nat.le_trans hs.size h4, fun j hj => ?_, hs.fb, fun i b => if i = q then D' b else ow i b, ?_, ?_, ?_, ?_⟩
  · rw [h6 j (hfb j hj) fun hb => ho.free q j hb hj]; exact hs.fixed j hj
  · intro i b hb hF
    split at hb
    · rcases h5 b hb with h8 | h8
      · exact ho.free q b h8 hF
      · have := hfb b hF; omega
    · exact ho.free i b hb hF
  · intro i b hb
    split at hb
    · exact hlt b hb
    · exact Nat.lt_of_lt_of_le (ho.lt i b hb) h4
  · intro i j b hi hj
    split at hi <;> split at hj
    · omega
    · rename_i e1 e2
      rcases h5 b hi with h8 | h8
      · exact absurd (ho.one j q b hj h8) e2
      · have := ho.lt j b hj; omega
    · rename_i e1 e2
      rcases h5 b hj with h8 | h8
      · exact absurd (ho.one i q b hi h8) e1
      · have := ho.lt i b hi; omega
    · exact ho.one i j b hi hj
  · intro i B hB
    by_cases hi : i = q
    · subst hi
      rw [List.getElem?_set_self hql] at hB
      simp only [if_true]
      have : R v = B := by simpa using hB
      exact this ▸ h7
    · rw [List.getElem?_set_ne (fun e => hi e.symm)] at hB
      simp only [if_neg hi]
      rw [cut_congr fun b hb => h6 b (ho.lt i b hb) fun hb' => hi (ho.one i q b hb hb')]
      exact ho.sat i B hB

theorem S_append (q : Nat) {ats : Array TypeId} {bytes : Nat} (h0 : ats = #[t, t']) (ht : C.P.underlying t = some (.slice e)) (ht' : C.P.underlying t' = some (.slice e')) (he : szOf C.P e = some 1) (hb : bytesOf C.P e = some bytes) (hz : zeroOf C.P e = some (.int k 0))
    (hx : ev E x = some v) (hy : ev E y = some u) (hq : L[q]? = some (row k l v)) (hr : ∀ w, St C L w → Rd w u k m) (hm : l.length + m.length ≤ 1099511627776) (hby : (Nat.blt 0 bytes && Nat.ble bytes 128) = true) (hg : wantedE ops E g = some true) (hd : Nat.blt d C.n = true)
    (h : ∀ v', S C ops rest K0 ((d, v') :: E) (L.set q (row k (l ++ m) v'))) : S C ops (⟨some d, .call ⟨.builtin .append, #[x, y], ats⟩, ty, pos, af, g⟩ :: rest) K0 E L := by
  refine S_updV (R := row k (l ++ m)) q hg hd hq (fun a w D hrel hs hA _ => ?_) h
  obtain ⟨cs, hc⟩ := run_builtin (dst := some d) (ty := ty) (pos := pos) (af := af) (g := g) hrel (P := C.P) (b := .append) (aS := [x, y]) (ats := ats) (w := w) (vs := [v, u]) (by simp [evs, hx, hy])
  simp only [Bool.and_eq_true, Nat.blt_eq, Nat.ble_eq] at hby
  obtain ⟨v', w', D', h1, h2⟩ := run_append_row (ty := ty) ht ht' he hb hz hA (hr w hs) hm hby
  refine ⟨v', w', D', ?_, h2⟩
  rw [hc]
  subst h0
  simp only [builtin, Sem.run_bind]
  rw [h1]
  rfl

/-- An operation that makes what an assertion says. -/
theorem S_newR {op : Op} {R : Value → Asr} (hg : wantedE ops E g = some true) (hd : Nat.blt d C.n = true)
    (hv : ∀ a w, Rel C.n E a → St C L w → ∃ v w', (execOp a.eval ⟨some d, op, ty, pos, af, g⟩).run C.P w = .ok (.value v) w' ∧ w'.os = w.os ∧ w'.tape = w.tape ∧ w'.output = w.output ∧ w.heap.size ≤ w'.heap.size ∧
      (∀ b, b < w.heap.size → w'.heap[b]? = w.heap[b]?) ∧ R v (cut (fun b => w.heap.size ≤ b ∧ b < w'.heap.size) w'))
    (h : ∀ v, S C ops rest K0 ((d, v) :: E) (L ++ [R v])) : S C ops (⟨some d, op, ty, pos, af, g⟩ :: rest) K0 E L := by
  refine ⟨fun a w hr hs => ?_⟩
  unfold wpList
  rw [wantedE_spec hr (o := ⟨some d, op, ty, pos, af, g⟩) hg, if_pos rfl]
  refine .inl ?_
  unfold Oper.wp
  obtain ⟨v, w', h0, h1, h2, h3, h4, h5, h6⟩ := hv a w hr hs
  rw [h0]
  exact (h v).out _ _ (hr.put (by simpa using hd) v) (hs.push' h1 h2 h3 h4 h5 h6)
theorem row.new {w : World} {k : IntKind} {l : List Int} {e : TypeId} {n : Nat} (hn : l.length = n) : row k l (.slice (some ⟨w.heap.size, 0, none⟩) n n) (cut (fun b => w.heap.size ≤ b ∧ b < (w.alloc (.cells (ints k l) e)).heap.size) (w.alloc (.cells (ints k l) e))) :=
  .inr ⟨w.heap.size, n, [], e, by rw [hn], by rw [List.append_nil]; exact cut_of ⟨Nat.le_refl _, by simp⟩ (heap_alloc_new w _), by rw [List.length_nil, hn]; rfl⟩
theorem S_makeR {bytes : Nat} (ht : C.P.underlying t = some (.slice e)) (he : szOf C.P e = some 1) (hb : bytesOf C.P e = some bytes) (hz : zeroOf C.P e = some (.int k 0)) (hx : ev E x = some (.int k' p)) (hy : ev E y = some (.int k' p)) (hp : IsNat p n)
    (hn : n ≤ 1099511627776) (hby : (Nat.blt 0 bytes && Nat.ble bytes 128) = true) (hg : wantedE ops E g = some true) (hd : Nat.blt d C.n = true)
    (h : ∀ v, S C ops rest K0 ((d, v) :: E) (L ++ [row k (List.replicate n 0) v])) : S C ops (⟨some d, .makeSlice t x y, ty, pos, af, g⟩ :: rest) K0 E L := by
  refine S_newR (R := row k (List.replicate n 0)) hg hd (fun a w hrel _ => ?_) h
  obtain ⟨i, hi, hsz⟩ : ∃ i, C.P.info? e = some i ∧ i.size = 1 := by
    unfold szOf at he
    cases h : C.P.info? e with
    | none => simp [h] at he
    | some i => simp [h] at he; exact ⟨i, rfl, he⟩
  have hib : i.bytes = bytes := by unfold bytesOf at hb; rw [hi] at hb; simpa using hb
  have hiz : i.zero = some (.int k 0) := by unfold zeroOf at hz; rw [hi] at hz; simpa using hz
  simp only [Bool.and_eq_true, Nat.blt_eq, Nat.ble_eq] at hby
  have hp' := hp.eq
  subst hp'
  have hbn : (i.bytes : Int) * (n : Int) ≤ 281474976710656 := by
    have : i.bytes * n ≤ 128 * 1099511627776 := Nat.mul_le_mul (by omega) hn
    rw [← Int.natCast_mul]
    omega
  have hm := run_make (P := C.P) w t e i _ ht hi hiz k' k' (n : Int) (n : Int) (by omega) (Int.le_refl _) hbn (by omega)
  have hmc : madeCells (Value.int k 0).cells ((n : Int).toNat * i.size) = ints k (List.replicate n 0) := by
    rw [hsz, Int.toNat_natCast, Nat.mul_one]
    apply Array.ext
    · simp [madeCells, ints]
    · intro j h1 h2
      simp [madeCells, Value.cells, ints, Nat.mod_one]
  rw [hmc, Int.toNat_natCast] at hm
  exact ⟨.slice (some ⟨w.heap.size, 0, none⟩) n n, w.alloc (.cells (ints k (List.replicate n 0)) e), by simp [execOp, hrel.eval hx, hrel.eval hy, hm], rfl, rfl, rfl, by simp, fun b hb => heap_alloc_old w _ b hb, row.new (by simp)⟩
/-- A slice that is written out. -/
theorem S_sliceR {parts : List (Nat × Operand)} {ps : List (Nat × Int)} (ht : C.P.underlying t = some (.slice e)) (he : szOf C.P e = some 1) (hz : zeroOf C.P e = some (.int k 0)) (hp : partsI k E parts = some ps)
    (ha : (Nat.ble n 16777216 && ps.all (fun p => Nat.blt p.1 n)) = true) (hg : wantedE ops E g = some true) (hd : Nat.blt d C.n = true)
    (h : ∀ v, S C ops rest K0 ((d, v) :: E) (L ++ [row k (fillI (List.replicate n 0) ps) v])) : S C ops (⟨some d, .buildSlice t n parts.toArray, ty, pos, af, g⟩ :: rest) K0 E L := by
  refine S_newR (R := row k (fillI (List.replicate n 0) ps)) hg hd (fun a w hr _ => ?_) h
  rw [Bool.and_eq_true, Nat.ble_eq] at ha
  have h1 : (parts.toArray.map fun (i, x) => (i, a.eval x)) = (ps.map fun p => (p.1, Value.int k p.2)).toArray := by
    rw [List.map_toArray, partsI_spec hr hp]
  have h2 := fill_ints k ps (List.replicate n 0) (by simpa using ha.2)
  have h3 : (fillI (List.replicate n 0) ps).length = n := by
    have : ∀ (ps : List (Nat × Int)) (l : List Int), (fillI l ps).length = l.length := by
      intro ps
      induction ps with
      | nil => intro l; rfl
      | cons p ps ih => intro l; simp only [fillI]; rw [ih]; simp
    rw [this, List.length_replicate]
  have h5 : n ≠ 0 → (Array.range (n * 1)).map (fun i => (#[Value.int k 0] : Array Value)[i % (#[Value.int k 0] : Array Value).size]!) = ints k (List.replicate n 0) := fun _ => by
    apply Array.ext
    · simp [ints]
    · intro j h1 h2
      simp [ints, Nat.mod_one]
  have h2' : Instr.fill (fun i => some (i * 1, 1)) (ints k (List.replicate n 0)) (ps.map fun p => (p.1, Value.int k p.2)) = some (ints k (fillI (List.replicate n 0) ps)) := h2
  refine ⟨.slice (some ⟨w.heap.size, 0, none⟩) n n, w.alloc (.cells (ints k (fillI (List.replicate n 0) ps)) e), ?_, ?_, ?_, ?_, ?_, ?_, row.new (e := e) h3⟩
  · simp only [execOp, h1, Instr.buildSlice, Sem.run_bind, run_underlying ht, Result.andThen_ok, run_sizeOf he]
    rw [if_neg (by omega)]
    by_cases hn : n = 0
    · subst hn
      rw [if_pos rfl]
      simp only [pure_bind]
      rw [show (Array.map (fun x => (#[] : Array Value)[x % (#[] : Array Value).size]!) (Array.range (0 * 1))) = ints k (List.replicate 0 0) by simp [ints], h2']
      rfl
    · rw [if_neg (by omega)]
      simp only [Sem.run_bind, run_zeroValue hz, Result.andThen_ok, pure_bind, Value.cells, h5 hn, h2']
      rfl
  · rfl
  · rfl
  · rfl
  · simp
  · exact fun b hb => heap_alloc_old w _ b hb

/-- A call that hands back what it has made. -/
theorem S_callR {fo : Operand} {f : FuncId} {aS : List Operand} {vs : List Value} {ats : Array TypeId} (R : Value → Asr) (hf : ev E fo = some (.func (.func f) #[] #[])) (ha : evs E aS = some vs) (hb : hasBody C.P f = true)
    (hc : ∀ w, St C L w → Fn C.P f vs.toArray w fun v N => N = [R v]) (hg : wantedE ops E g = some true) (hd : Nat.blt d C.n = true)
    (h : ∀ v, S C ops rest K0 ((d, v) :: E) (L ++ [R v])) : S C ops (⟨some d, .call ⟨.value fo, aS.toArray, ats⟩, ty, pos, af, g⟩ :: rest) K0 E L :=
  S_call _ hf ha hb hc hg hd (by rintro v N rfl; exact h v)
theorem S_callR2 {fo : Operand} {f : FuncId} {aS : List Operand} {vs : List Value} {ats : Array TypeId} (R1 R2 : Value → Asr) (hf : ev E fo = some (.func (.func f) #[] #[])) (ha : evs E aS = some vs) (hb : hasBody C.P f = true)
    (hc : ∀ w, St C L w → Fn C.P f vs.toArray w fun v N => ∃ v1 v2, v = .tuple #[v1, v2] ∧ N = [R1 v1, R2 v2]) (hg : wantedE ops E g = some true) (hd : Nat.blt d C.n = true)
    (h : ∀ v1 v2, S C ops rest K0 ((d, .tuple [v1, v2].toArray) :: E) (L ++ [R1 v1, R2 v2])) : S C ops (⟨some d, .call ⟨.value fo, aS.toArray, ats⟩, ty, pos, af, g⟩ :: rest) K0 E L :=
  S_call _ hf ha hb hc hg hd (by rintro v N ⟨v1, v2, rfl, rfl⟩; exact h v1 v2)
end

/-! ### reading -/
section
variable {C : Ctx} {E : Env} {L : Hp} {dst : Option Tmp} {ty : TypeId} {pos : String} {af : Array Edge} {g : Option (Nat × Bool)}
variable {x y : Operand} {t e : TypeId} {k k' : IntKind} {p z : Int} {i n : Nat} {l m : List Int} {v : Value}

theorem Y_lenV {ats : Array TypeId} (h0 : ats[0]? = some t) (ht : C.P.underlying t = some (.slice e)) (hx : ev E x = some v) (hr : ∀ w, St C L w → Rd w v k l) (hn : l.length = n) :
    Yv C E L ⟨dst, .call ⟨.builtin .len, #[x], ats⟩, ty, pos, af, g⟩ (.int .i64 n) := by
  refine ⟨fun a w h hs => ?_⟩
  obtain ⟨b, c, rfl, _⟩ := (hr w hs).out
  exact (Y_len (C := C) (L := L) h0 ht (hn ▸ hx)).out a w h hs
theorem Y_ixV (ht : C.P.underlying t = some (.slice e)) (he : szOf C.P e = some 1) (hx : ev E x = some v) (hy : ev E y = some (.int k' p)) (hr : ∀ w, St C L w → Rd w v k l)
    (hp : IsNat p i) (hi : i < l.length) : Yv C E L ⟨dst, .indexAddr t x y, ty, pos, af, g⟩ (.pointer (some (vAt v i))) := by
  refine ⟨fun a w h hs => ?_⟩
  obtain ⟨b, c, rfl, _, h3⟩ := (hr w hs).out
  rcases h3 with rfl | ⟨b', off, cs, e', fz, rfl, _, _⟩
  · simp at hi
  · exact (Y_ixs (C := C) (L := L) ht he hx hy hp hi).out a w h hs
theorem Y_loadV {d : TypeDesc} (ht : C.P.underlying t = some d) (hd : isAggB d = false) (hx : ev E x = some (.pointer (some (vAt v i)))) (hr : ∀ w, St C L w → Rd w v k l) (hv : l[i]? = some p) :
    Yv C E L ⟨dst, .load t x, ty, pos, af, g⟩ (.int k p) := by
  refine ⟨fun a w h hs => ?_⟩
  have hr' := hr w hs
  obtain ⟨b, c, rfl, _, h3⟩ := hr'.out
  rcases h3 with rfl | ⟨b', off, cs, e', fz, rfl, _, _⟩
  · simp at hv
  · exact (Y_load (C := C) (L := L) ht hd hx fun w' hs' => (hr w' hs').cell hv).out a w h hs
theorem Rd.takeV {w : World} {v : Value} {k : IntKind} {l : List Int} (h : Rd w v k l) {j : Nat} (hj : j ≤ l.length) : Rd w (vTake j v) k (l.take j) := by
  obtain ⟨b, c, rfl, _, _⟩ := h.out
  exact h.take j hj
theorem Rd.dropV {w : World} {v : Value} {k : IntKind} {l : List Int} (h : Rd w v k l) {j : Nat} (hj : j ≤ l.length) : Rd w (vDrop j v) k (l.drop j) := by
  obtain ⟨b, c, rfl, _, _⟩ := h.out
  exact h.drop j hj
theorem Y_sliceLoV (ht : C.P.underlying t = some (.slice e)) (he : szOf C.P e = some 1) (hx : ev E x = some v) (hy : ev E y = some (.int k' p)) (hr : ∀ w, St C L w → Rd w v k l) (hp : IsNat p i) (hi : i ≤ l.length) :
    Yv C E L ⟨dst, .slice t x (some y) none none, ty, pos, af, g⟩ (vDrop i v) := by
  refine ⟨fun a w h hs => ?_⟩
  obtain ⟨b, c, rfl, hc, _⟩ := (hr w hs).out
  exact (Y_sliceLo (C := C) (L := L) ht he hx hy hp hi hc).out a w h hs
theorem Y_sliceHiV (ht : C.P.underlying t = some (.slice e)) (he : szOf C.P e = some 1) (hx : ev E x = some v) (hy : ev E y = some (.int k' p)) (hr : ∀ w, St C L w → Rd w v k l) (hp : IsNat p i) (hi : i ≤ l.length) :
    Yv C E L ⟨dst, .slice t x none (some y) none, ty, pos, af, g⟩ (vTake i v) := by
  refine ⟨fun a w h hs => ?_⟩
  obtain ⟨b, c, rfl, hc, _⟩ := (hr w hs).out
  exact (Y_sliceHi (C := C) (L := L) ht he hx hy hp (Nat.le_trans hi hc)).out a w h hs
end

/-! ### writing -/
section
variable {C : Ctx} {K0 : K} {E : Env} {L : Hp} {ops : Array Oper} {rest : List Oper} {ty : TypeId} {pos : String} {af : Array Edge} {g : Option (Nat × Bool)}
variable {x y : Operand} {t : TypeId} {k : IntKind} {p : Int} {i : Nat} {l : List Int} {v : Value}
theorem S_storeR (q : Nat) (ht : szOf C.P t = some 1) (hx : ev E x = some (.pointer (some (vAt v i)))) (hy : ev E y = some (.int k p)) (hq : L[q]? = some (row k l v)) (hi : i < l.length) (hg : wantedE ops E g = some true)
    (h : S C ops rest K0 E (L.set q (row k (l.set i p) v))) : S C ops (⟨none, .store t x y, ty, pos, af, g⟩ :: rest) K0 E L := by
  refine ⟨fun a w hr hs => ?_⟩
  unfold wpList
  rw [wantedE_spec hr (o := ⟨none, .store t x y, ty, pos, af, g⟩) hg, if_pos rfl]
  refine .inl ?_
  unfold Oper.wp
  obtain ⟨ow, ho⟩ := hs.own
  rcases ho.sat q _ hq with ⟨rfl, rfl⟩ | ⟨b, cap, post, e, rfl, hb, hc⟩
  · simp at hi
  · have hb' := (cut_in hb).2
    have := run_store1 (C := C) (E := E) (L := L) (ty := ty) (pos := pos) (af := af) (g := g) (b := b) (off := 0 + i) (cs := ints k (l ++ post)) (cs' := ints k ((l ++ post).set (0 + i) p)) ht hx hy rfl (by simp; omega) (ints_set _ _ _ _) a w hr hs hb'
    rw [this]
    simp only [Oper.upon, Act.put]
    refine h.out _ _ hr (hs.upd hq rfl rfl rfl (by simp) fun D hD hl => ⟨D, fun _ h => .inl h, fun b hb => by simpa using hl b hb, ?_, ?_⟩)
    · rcases hD with ⟨h1, _⟩ | ⟨b2, cap2, post2, e2, h1, hb2, _⟩
      · cases h1
      · intro j _ hj
        have e1 : b = b2 := by injection h1 with h1; injection h1 with h1; injection h1
        exact setRow_other _ _ _ _ fun e3 => hj (e3 ▸ e1 ▸ (cut_in hb2).1)
    · rcases hD with ⟨h1, _⟩ | ⟨b2, cap2, post2, e2, h1, hb2, _⟩
      · cases h1
      · have e1 : b = b2 := by injection h1 with h1; injection h1 with h1; injection h1
        subst e1
        refine .inr ⟨b, cap, post, e, by rw [List.length_set], cut_of (cut_in hb2).1 ?_, by rw [List.length_set]; exact hc⟩
        rw [setRow_heap w b _ _ e _ hb', Nat.zero_add, List.set_append_left _ _ hi]
end

/-- x[:hi] of an owned one: what lies behind is given up. -/
theorem S_cutR {C : Ctx} {K0 : K} {E : Env} {L : Hp} {ops : Array Oper} {rest : List Oper} {ty : TypeId} {pos : String} {af : Array Edge} {g : Option (Nat × Bool)} {x y : Operand} {t e : TypeId} {k k' : IntKind} {p : Int} {i d : Nat} {l : List Int} {v : Value}
    (q : Nat) (ht : C.P.underlying t = some (.slice e)) (he : szOf C.P e = some 1) (hx : ev E x = some v) (hy : ev E y = some (.int k' p)) (hq : L[q]? = some (row k l v)) (hp : IsNat p i) (hi : i ≤ l.length) (hg : wantedE ops E g = some true) (hd : Nat.blt d C.n = true)
    (h : S C ops rest K0 ((d, vTake i v) :: E) (L.set q (row k (l.take i) (vTake i v)))) : S C ops (⟨some d, .slice t x none (some y) none, ty, pos, af, g⟩ :: rest) K0 E L :=
  S_val hg hd (Y_sliceHiV ht he hx hy (fun _ hs => hs.rowRd q hq) hp hi) (S_conv q hq (fun _ hr => hr.take hi) h)
/-! ### a slice's shape -/
structure Sh (v : Value) (n : Nat) : Prop where
  out : ∃ a c, v = .slice a n c ∧ n ≤ c ∧ (n = 0 ∨ ∃ b off, a = some ⟨b, off, none⟩)
theorem Rd.sh {w : World} {v : Value} {k : IntKind} {l : List Int} (h : Rd w v k l) : Sh v l.length := by
  obtain ⟨a, c, rfl, h2, h3⟩ := h.out
  refine ⟨a, c, rfl, h2, ?_⟩
  rcases h3 with rfl | ⟨b, off, cs, e, fz, rfl, _⟩
  · exact .inl rfl
  · exact .inr ⟨b, off, rfl⟩
theorem T_sh {C : Ctx} {k : K} {E : Env} {L : Hp} {c : Code} (q : Nat) {kd : IntKind} {l : List Int} {v : Value} (hq : L[q]? = some (row kd l v)) (h : Sh v l.length → T C c k E L) : T C c k E L :=
  ⟨⟨fun a w hr hs => (h (hs.rowRd q hq).sh).out.out a w hr hs⟩⟩
section
variable {C : Ctx} {E : Env} {L : Hp} {dst : Option Tmp} {ty : TypeId} {pos : String} {af : Array Edge} {g : Option (Nat × Bool)}
variable {x y : Operand} {t e : TypeId} {k' : IntKind} {p : Int} {i n : Nat} {v : Value}
theorem Y_ixS (ht : C.P.underlying t = some (.slice e)) (he : szOf C.P e = some 1) (hx : ev E x = some v) (hy : ev E y = some (.int k' p)) (hs : Sh v n)
    (hp : IsNat p i) (hi : i < n) : Yv C E L ⟨dst, .indexAddr t x y, ty, pos, af, g⟩ (.pointer (some (vAt v i))) := by
  obtain ⟨a, c, rfl, hc, h⟩ := hs.out
  rcases h with rfl | ⟨b, off, rfl⟩
  · omega
  · exact Y_ixs ht he hx hy hp hi
theorem Y_lenS {ats : Array TypeId} (h0 : ats[0]? = some t) (ht : C.P.underlying t = some (.slice e)) (hx : ev E x = some v) (hs : Sh v n) :
    Yv C E L ⟨dst, .call ⟨.builtin .len, #[x], ats⟩, ty, pos, af, g⟩ (.int .i64 n) := by
  obtain ⟨a, c, rfl, hc, h⟩ := hs.out
  exact Y_len h0 ht hx
theorem Y_sliceHiS (ht : C.P.underlying t = some (.slice e)) (he : szOf C.P e = some 1) (hx : ev E x = some v) (hy : ev E y = some (.int k' p)) (hs : Sh v n) (hp : IsNat p i) (hi : i ≤ n) :
    Yv C E L ⟨dst, .slice t x none (some y) none, ty, pos, af, g⟩ (vTake i v) := by
  obtain ⟨a, c, rfl, hc, h⟩ := hs.out
  exact Y_sliceHi ht he hx hy hp (by omega)
theorem Y_sliceLoS (ht : C.P.underlying t = some (.slice e)) (he : szOf C.P e = some 1) (hx : ev E x = some v) (hy : ev E y = some (.int k' p)) (hs : Sh v n) (hp : IsNat p i) (hi : i ≤ n) :
    Yv C E L ⟨dst, .slice t x (some y) none none, ty, pos, af, g⟩ (vDrop i v) := by
  obtain ⟨a, c, rfl, hc, h⟩ := hs.out
  exact Y_sliceLo ht he hx hy hp hi hc
end
end Go.Proofs.YtonmkjcilepdcaaGreatDoor
