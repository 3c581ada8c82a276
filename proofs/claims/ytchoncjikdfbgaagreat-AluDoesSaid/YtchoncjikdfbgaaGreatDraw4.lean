import Derived.Test.YtchoncjikdfbgaaGreatDraw3
import Derived.Test.YtchoncjikdfbgaaGreatStrs
/- Regions that draw their order: operations that look at what calls have handed back, or make a slice. -/
namespace Go.Proofs.YtchoncjikdfbgaaGreat
open Go.RowKit
section
variable {C : Ctx} {l0 : List Oper} {z : Zone} {k : K} {E : Env} {F : Hist → Env} {L : Hp} {K : Kn} {rest : List Oper} {m d : Nat} {op : Op} {ty : TypeId} {pos : String} {af : Array Edge} {g : Option (Nat × Bool)}
/-- An operation that looks at what some calls have handed back. -/
theorem D2_valK (sel : List Nat) {v : Value} (hk : depOk l0 m ((K.pick sel).map (·.1)) = true) (hi : isMem op = true) (hg : ∀ H, wantedE l0.toArray (F H) g = some true) (hd : Nat.blt d C.n = true)
    (hv : ∀ H, (K.pick sel).ok H → Yv C (F H) (L ++ (K.pick sel).hp H) ⟨some d, op, ty, pos, af, g⟩ v)
    (h : D2 C l0 z rest (m + 1) (fun H => (d, v) :: F H) L K) : D2 C l0 z (⟨some d, op, ty, pos, af, g⟩ :: rest) m F L K := by
  refine ⟨fun hq => ?_⟩
  have hz : m < z.old.q := by rw [← hq, List.length_cons]; omega
  have h' := h.out (by rw [← hq, List.length_cons]; omega)
  refine .cons ⟨fun _ u N => u = v ∧ N = [], fun _ => v, fun _ => [], none, false⟩ ⟨fun H => (d, v) :: F H, fun _ => L, K.hp, K.map fun p => (p.1, fun H => p.2 (H p.1).1 (H p.1).2)⟩
    { loc := fun _ _ _ _ _ h => h
      val := fun _ h => ⟨h.1.symm, h.2.symm⟩
      hE := fun _ => rfl
      hN := fun H => by simp
      hG := by simp
      hpf := fun p hp => by cases hp
      same := fun _ => rfl
      store := fun h => by cases h
      fits := hd
      step := fun _ H hF => ⟨true, hg H, fun h => (by cases h), fun _ => .inl ⟨fun m' h => by have := z.old.hcz m' m h; omega, .inl ⟨z.old.htk m hz H, by
        simp only [hi, if_true]
        refine ⟨fun a w M hr hs => ?_⟩
        have hok : (K.pick sel).ok H := fun p hp => hF _ (List.mem_map.2 ⟨p, Kn.pick_mem hp, rfl⟩) (depOk_dep hk (List.mem_map.2 ⟨p, hp, rfl⟩))
        have he : Emb ((K.pick sel).hp H) (newsDeps l0 m H) := by
          have := depOk_emb hk H
          unfold Kn.hp
          rwa [List.flatMap_map] at this
        rw [(hv H hok).out a w hr (hs.left.emb (Emb.append_left L he))]
        exact ⟨[], ⟨rfl, rfl⟩, by simpa using hs⟩⟩⟩⟩ } h'
/-- An operation that makes something. -/
theorem D2_newR {R : Value → Asr} (hi : isMem op = true) (hg : ∀ H, wantedE l0.toArray (F H) g = some true) (hd : Nat.blt d C.n = true)
    (hv : ∀ H a w, Rel C.n (F H) a → ∃ v w', (execOp a.eval ⟨some d, op, ty, pos, af, g⟩).run C.P w = .ok (.value v) w' ∧ w'.os = w.os ∧ w'.tape = w.tape ∧ w'.output = w.output ∧ w.heap.size ≤ w'.heap.size ∧
      (∀ b, b < w.heap.size → w'.heap[b]? = w.heap[b]?) ∧ R v (cut (fun b => w.heap.size ≤ b ∧ b < w'.heap.size) w'))
    (h : D2 C l0 z rest (m + 1) (fun H => (d, (H m).1) :: F H) L (K ++ [(m, fun v N => N = [R v])])) : D2 C l0 z (⟨some d, op, ty, pos, af, g⟩ :: rest) m F L K := by
  refine ⟨fun hq => ?_⟩
  have hz : m < z.old.q := by rw [← hq, List.length_cons]; omega
  have h' := h.out (by rw [← hq, List.length_cons]; omega)
  refine .cons ⟨fun _ u N => N = [R u], fun H => (H m).1, fun H => (H m).2, some fun H => (H m).2 = [R (H m).1], false⟩ ⟨fun H => (d, (H m).1) :: F H, fun _ => L, (K ++ [(m, fun v N => N = [R v])]).hp, (K ++ [(m, fun v N => N = [R v])]).map fun p => (p.1, fun H => p.2 (H p.1).1 (H p.1).2)⟩
    { loc := fun _ _ _ _ _ h => h
      val := fun _ _ => ⟨rfl, rfl⟩
      hE := fun _ => rfl
      hN := fun H => by simp [Kn.hp]
      hG := by simp
      hpf := fun p hp H hR => by cases hp; exact hR
      same := fun _ => rfl
      store := fun h => by cases h
      fits := hd
      step := fun _ H hF => ⟨true, hg H, fun h => (by cases h), fun _ => .inl ⟨fun m' h => by have := z.old.hcz m' m h; omega, .inl ⟨z.old.htk m hz H, by
        simp only [hi, if_true]
        refine ⟨fun a w M hr hs => ?_⟩
        obtain ⟨v, w', h1, h2, h3, h4, h5, h6, h7⟩ := hv H a w hr
        rw [h1]
        exact ⟨[R v], rfl, hs.push' h2 h3 h4 h5 h6 h7⟩⟩⟩⟩ } h'
end
section
variable {C : Ctx} {E : Env} {dst : Option Tmp} {ty : TypeId} {pos : String} {af : Array Edge} {g : Option (Nat × Bool)}
variable {x y : Operand} {t e : TypeId} {k k' : IntKind} {p : Int} {n : Nat}
theorem run_makeR {bytes : Nat} (ht : C.P.underlying t = some (.slice e)) (he : szOf C.P e = some 1) (hb : bytesOf C.P e = some bytes) (hz : zeroOf C.P e = some (.int k 0)) (hx : ev E x = some (.int k' p)) (hy : ev E y = some (.int k' p)) (hp : IsNat p n)
    (hn : n ≤ 1099511627776) (hby : (Nat.blt 0 bytes && Nat.ble bytes 128) = true) (a : Act) (w : World) (hrel : Rel C.n E a) : ∃ v w', (execOp a.eval ⟨dst, .makeSlice t x y, ty, pos, af, g⟩).run C.P w = .ok (.value v) w' ∧ w'.os = w.os ∧ w'.tape = w.tape ∧ w'.output = w.output ∧ w.heap.size ≤ w'.heap.size ∧
      (∀ b, b < w.heap.size → w'.heap[b]? = w.heap[b]?) ∧ row k (List.replicate n 0) v (cut (fun b => w.heap.size ≤ b ∧ b < w'.heap.size) w') := by
  obtain ⟨i, hi, hsz⟩ : ∃ i, C.P.info? e = some i ∧ i.size = 1 := by
    unfold szOf at he
    cases h : C.P.info? e with
    | none => simp [h] at he
    | some i => simp [h] at he; exact ⟨i, rfl, he⟩
  have hib : i.bytes = bytes := by unfold bytesOf at hb; rw [hi] at hb; simpa using hb
  have hiz : i.zero = some (.int k 0) := by unfold zeroOf at hz; rw [hi] at hz; simpa using hz
  simp only [Bool.and_eq_true, Nat.blt_eq, Nat.ble_eq] at hby
  have hp' := hp.eq
  subst hp'
  have hbn : (i.bytes : Int) * (n : Int) ≤ 281474976710656 := by
    have : i.bytes * n ≤ 128 * 1099511627776 := Nat.mul_le_mul (by omega) hn
    rw [← Int.natCast_mul]
    omega
  have hm := run_make (P := C.P) w t e i _ ht hi hiz k' k' (n : Int) (n : Int) (by omega) (Int.le_refl _) hbn (by omega)
  have hmc : madeCells (Value.int k 0).cells ((n : Int).toNat * i.size) = ints k (List.replicate n 0) := by
    rw [hsz, Int.toNat_natCast, Nat.mul_one]
    apply Array.ext
    · simp [madeCells, ints]
    · intro j h1 h2
      simp [madeCells, Value.cells, ints, Nat.mod_one]
  rw [hmc, Int.toNat_natCast] at hm
  exact ⟨.slice (some ⟨w.heap.size, 0, none⟩) n n, w.alloc (.cells (ints k (List.replicate n 0)) e), by simp [execOp, hrel.eval hx, hrel.eval hy, hm], rfl, rfl, rfl, by simp, fun b hb => heap_alloc_old w _ b hb, row.new (by simp)⟩
end
end Go.Proofs.YtchoncjikdfbgaaGreat
