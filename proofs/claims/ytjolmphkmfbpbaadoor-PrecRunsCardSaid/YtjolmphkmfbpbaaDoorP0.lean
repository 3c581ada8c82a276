import Derived.Orders
import Derived.Below
import Derived.KernelRfl
import Derived.Tactics
import Derived.Laws.Rows
import Derived.Laws.CopyOwn
import Derived.Laws.CopyRow
namespace Go.Proofs.YtjolmphkmfbpbaaDoor
open Go.RowKit
abbrev Env := List (Nat × Value)
/-- A part of memory. -/
abbrev PH := Nat → Option Obj
/-- What is said of a part of memory. -/
abbrev Asr := PH → Prop
abbrev Hp := List Asr
/-- A block that is known. -/
def blk (b : Nat) (o : Obj) : Asr := fun h => h b = some o
open Classical in
/-- The part of memory that a set of blocks is. -/
noncomputable def cut (S : Nat → Prop) (w : World) : PH := fun b => if S b then w.heap[b]? else none
theorem cut_in {S : Nat → Prop} {w : World} {b : Nat} {o : Obj} (h : cut S w b = some o) : S b ∧ w.heap[b]? = some o := by
  unfold cut at h
  split at h
  · exact ⟨by assumption, h⟩
  · cases h
theorem cut_of {S : Nat → Prop} {w : World} {b : Nat} {o : Obj} (h : S b) (hw : w.heap[b]? = some o) : cut S w b = some o := by
  unfold cut
  rw [if_pos h, hw]
theorem cut_congr {S : Nat → Prop} {w w' : World} (h : ∀ b, S b → w'.heap[b]? = w.heap[b]?) : cut S w' = cut S w := by
  funext b
  unfold cut
  split
  · rename_i hb; exact h b hb
  · rfl
/-- Whose blocks: each assertion has blocks of its own, and holds of them. -/
structure Own (FB : Nat → Prop) (L : Hp) (w : World) (ow : Nat → Nat → Prop) : Prop where
  free : ∀ i b, ow i b → ¬ FB b
  lt : ∀ i b, ow i b → b < w.heap.size
  one : ∀ i j b, ow i b → ow j b → i = j
  sat : ∀ (i : Nat) (A : Asr), L[i]? = some A → A (cut (ow i) w)
/-- N stands among L. -/
def Emb (N L : Hp) : Prop := ∃ f : Nat → Nat, (∀ i j, f i = f j → i = j) ∧ ∀ (i : Nat) (A : Asr), N[i]? = some A → L[f i]? = some A
theorem Own.emb {FB : Nat → Prop} {L N : Hp} {w : World} {ow : Nat → Nat → Prop} (h : Own FB L w ow) (he : Emb N L) : ∃ ow', Own FB N w ow' ∧ ∀ i b, ow' i b → ∃ j, ow j b := by
  obtain ⟨f, hf, hN⟩ := he
  exact ⟨fun i => ow (f i), ⟨fun i b => h.free _ b, fun i b => h.lt _ b, fun i j b h1 h2 => hf _ _ (h.one _ _ b h1 h2), fun i A hA => h.sat _ A (hN i A hA)⟩, fun i b hb => ⟨_, hb⟩⟩
theorem Emb.refl (L : Hp) : Emb L L := ⟨id, fun _ _ h => h, fun _ _ h => h⟩
theorem Emb.trans {A B D : Hp} (h : Emb A B) (g : Emb B D) : Emb A D := by
  obtain ⟨f, hf, h⟩ := h
  obtain ⟨k, hk, g⟩ := g
  exact ⟨fun i => k (f i), fun i j e => hf _ _ (hk _ _ e), fun i a ha => g _ _ (h _ _ ha)⟩
theorem Emb.left (L M : Hp) : Emb L (L ++ M) := ⟨id, fun _ _ h => h, fun i A h => by
  have := (List.getElem?_eq_some_iff.1 h).1
  rw [id, List.getElem?_append_left this]; exact h⟩
theorem Emb.cons {N L : Hp} (a : Asr) (h : Emb N L) : Emb (a :: N) (a :: L) := by
  obtain ⟨f, hf, h⟩ := h
  refine ⟨fun i => match i with | 0 => 0 | i + 1 => f i + 1, ?_, ?_⟩
  · intro i j e
    cases i <;> cases j <;> simp_all
    exact hf _ _ e
  · intro i A hA
    cases i with
    | zero => simpa using hA
    | succ i => simp at hA ⊢; exact h i A hA
theorem Emb.skip {N L : Hp} (a : Asr) (h : Emb N L) : Emb N (a :: L) := by
  obtain ⟨f, hf, h⟩ := h
  exact ⟨fun i => f i + 1, fun i j e => hf _ _ (by simpa using e), fun i A hA => by simpa using h i A hA⟩
theorem Emb.nil (L : Hp) : Emb [] L := ⟨id, fun _ _ h => h, fun i A h => by simp at h⟩
theorem Emb.one (q : Nat) {A : Asr} {L : Hp} (h : L[q]? = some A) : Emb [A] L :=
  ⟨fun i => q + i, fun i j e => by simpa using e, fun i B hB => by
    match i with
    | 0 => have : A = B := by simpa using hB
           subst this; exact h
    | i + 1 => simp at hB⟩
theorem Emb.two (q r : Nat) (hqr : Nat.beq q r = false) {A B : Asr} {L : Hp} (h : L[q]? = some A) (h2 : L[r]? = some B) : Emb [A, B] L := by
  have hne : q ≠ r := by rintro rfl; simp at hqr
  refine ⟨fun i => match i with | 0 => q | 1 => r | i + 2 => q + r + i + 1, ?_, ?_⟩
  · intro i j e
    match i, j with
    | 0, 0 => rfl
    | 1, 1 => rfl
    | 0, 1 => exact absurd e hne
    | 1, 0 => exact absurd e.symm hne
    | 0, j + 2 => have e : q = q + r + j + 1 := e; omega
    | 1, j + 2 => have e : r = q + r + j + 1 := e; omega
    | i + 2, 0 => have e : q + r + i + 1 = q := e; omega
    | i + 2, 1 => have e : q + r + i + 1 = r := e; omega
    | i + 2, j + 2 => have e : q + r + i + 1 = q + r + j + 1 := e; omega
  · intro i X hX
    match i with
    | 0 => have : A = X := by simpa using hX
           subst this; exact h
    | 1 => have : B = X := by simpa using hX
           subst this; exact h2
    | i + 2 => simp at hX
def nodupB : List Nat → Bool
  | [] => true
  | q :: qs => !qs.contains q && nodupB qs
theorem nodupB_spec : ∀ {qs : List Nat}, nodupB qs = true → qs.Nodup
  | [], _ => List.nodup_nil
  | q :: qs, h => by
    simp only [nodupB, Bool.and_eq_true, Bool.not_eq_true', List.contains_eq_mem, decide_eq_false_iff_not] at h
    exact List.nodup_cons.2 ⟨h.1, nodupB_spec h.2⟩
theorem mem_le_sum : ∀ {qs : List Nat} {q : Nat}, q ∈ qs → q ≤ qs.sum
  | a :: qs, q, h => by
    rw [List.sum_cons]
    rcases List.mem_cons.1 h with rfl | h
    · omega
    · have := mem_le_sum h; omega
/-- .. at these places. -/
theorem Emb.idx (qs : List Nat) {N L : Hp} (hn : nodupB qs = true) (h : qs.map (fun q => L[q]?) = N.map some) : Emb N L := by
  have hd := nodupB_spec hn
  have hl : qs.length = N.length := by have := congrArg List.length h; simpa using this
  refine ⟨fun i => if h : i < qs.length then qs[i] else qs.sum + 1 + i, ?_, ?_⟩
  · intro i j e
    by_cases hi : i < qs.length <;> by_cases hj : j < qs.length
    · simp only [hi, hj, dite_true] at e
      exact (List.getElem_inj hd).1 e
    · simp only [hi, hj, dite_true, dite_false] at e
      have := mem_le_sum (List.getElem_mem hi); omega
    · simp only [hi, hj, dite_true, dite_false] at e
      have := mem_le_sum (List.getElem_mem hj); omega
    · simp only [hi, hj, dite_false] at e
      omega
  · intro i A hA
    have hi : i < qs.length := by rw [hl]; exact (List.getElem?_eq_some_iff.1 hA).1
    simp only [hi, dite_true]
    have := congrArg (fun l => l[i]?) h
    simp only [List.getElem?_map, hA, List.getElem?_eq_getElem hi, Option.map_some] at this
    simpa using this
theorem Emb.of_perm {N L : Hp} (h : N.Perm L) : Emb N L := by
  induction h with
  | nil => exact .refl _
  | cons a _ ih => exact ih.cons a
  | swap a b l =>
    refine ⟨fun i => match i with | 0 => 1 | 1 => 0 | i + 2 => i + 2, ?_, ?_⟩
    · intro i j e
      match i, j with
      | 0, 0 => rfl
      | 1, 1 => rfl
      | i + 2, j + 2 => simpa using e
      | 0, 1 => simp at e
      | 1, 0 => simp at e
      | 0, j + 2 => simp at e
      | 1, j + 2 => simp at e
      | i + 2, 0 => simp at e
      | i + 2, 1 => simp at e
    · intro i A hA
      match i with
      | 0 => simpa using hA
      | 1 => simpa using hA
      | i + 2 => simpa using hA
  | trans _ _ ih1 ih2 => exact ih1.trans ih2
/-- What is known of a slot. -/
def Env.get : Env → Nat → Option Value
  | [], _ => none
  | (e, v) :: E, d => bif Nat.beq e d then some v else Env.get E d
structure Ctx where
  P : Program
  n : Nat
  FB : Nat → Prop
  w0 : World
structure Rel (n : Nat) (E : Env) (a : Act) : Prop where
  size : a.tmps.size = n
  defers : a.defers = []
  get : ∀ d v, E.get d = some v → a.tmps[d]? = some v
structure St (C : Ctx) (L : Hp) (w : World) : Prop where
  os : w.os = C.w0.os
  tape : w.tape = C.w0.tape
  output : w.output = C.w0.output
  size : C.w0.heap.size ≤ w.heap.size
  fixed : ∀ k, C.FB k → w.heap[k]? = C.w0.heap[k]?
  fb : ∀ k, C.FB k → k < C.w0.heap.size
  own : ∃ ow, Own C.FB L w ow
def ev (E : Env) : Operand → Option Value
  | .tmp d => E.get d
  | .const v => some v
  | .global g => some (.pointer (some ⟨g, 0, none⟩))
  | .func f => some (.func (.func f) #[] #[])
theorem Rel.eval {n : Nat} {E : Env} {a : Act} (h : Rel n E a) {x : Operand} {v : Value} (hx : ev E x = some v) : a.eval x = v := by
  cases x with
  | tmp d =>
    have := h.get d v hx
    simp [Act.eval, Array.getD_eq_getD_getElem?, this]
  | const u => simpa [ev, Act.eval] using hx
  | global g => simpa [ev, Act.eval] using hx
  | func f => simpa [ev, Act.eval] using hx
theorem Rel.put {n : Nat} {E : Env} {a : Act} (h : Rel n E a) {d : Nat} (hd : d < n) (v : Value) : Rel n ((d, v) :: E) (a.put (some d) v) := by
  refine ⟨by simp [Act.put, h.size], h.defers, fun e u he => ?_⟩
  simp only [Env.get] at he
  by_cases hde : d = e
  · subst hde
    simp at he
    subst he
    simp [Act.put, h.size, hd]
  · have hb : Nat.beq d e = false := by
      cases hh : Nat.beq d e with
      | false => rfl
      | true => exact absurd (Nat.eq_of_beq_eq_true hh) hde
    rw [hb] at he
    have := h.get e u he
    simp [Act.put, Array.getElem?_setIfInBounds_ne hde, this]
theorem Rel.mono {n : Nat} {E F : Env} {a : Act} (h : Rel n E a) (hF : ∀ d v, F.get d = some v → E.get d = some v) : Rel n F a :=
  ⟨h.size, h.defers, fun d v hd => h.get d v (hF d v hd)⟩
/-- What comes behind. -/
inductive K where
  | seq (b : Code) (k : K)
  | blk (id : Nat) (k : K)
  | loop (I : Env → Hp → Prop) (k : K)
  | fin (Q : Env → Hp → Prop)
def lift (C : Ctx) (Q : Exit → Env → Hp → Prop) (ex : Exit) (a : Act) (w : World) : Prop :=
  ∃ E L, Rel C.n E a ∧ St C L w ∧ Q ex E L
structure T0 (C : Ctx) (c : Code) (Q : Exit → Env → Hp → Prop) (E : Env) (L : Hp) : Prop where
  out : ∀ a w, Rel C.n E a → St C L w → c.wp C.P (lift C Q) a w
def K.sem (C : Ctx) : K → Exit → Env → Hp → Prop
  | .seq b k, ex => match ex with
    | .normal => T0 C b (K.sem C k)
    | ex => K.sem C k ex
  | .blk id k, ex => match ex with
    | .exit id' => if id' = id then K.sem C k .normal else K.sem C k (.exit id')
    | ex => K.sem C k ex
  | .loop I k, ex => match ex with
    | .normal => I
    | ex => K.sem C k ex
  | .fin Q, ex => match ex with
    | .normal => Q
    | .ret => Q
    | _ => fun _ _ => False
/-- The code c, from what is known, and then k. -/
structure T (C : Ctx) (c : Code) (k : K) (E : Env) (L : Hp) : Prop where
  out : T0 C c (k.sem C) E L
/-- The way ex is taken, and then k. -/
structure X (C : Ctx) (ex : Exit) (k : K) (E : Env) (L : Hp) : Prop where
  out : k.sem C ex E L
section
variable {C : Ctx} {k : K} {E : Env} {L : Hp}
theorem T_seq {x y : Code} (h : T C x (.seq y k) E L) : T C (.seq x y) k E L := by
  refine ⟨⟨fun a w hr hs => wp_seq (wp_mono (h.out.out a w hr hs) ?_)⟩⟩
  rintro ex a w ⟨E', L', hr', hs', hq⟩
  cases ex with
  | normal => exact T0.out (by simpa [K.sem] using hq) a w hr' hs'
  | _ => exact ⟨E', L', hr', hs', by simpa [K.sem] using hq⟩
theorem X_seq {y : Code} (h : T C y k E L) : X C .normal (.seq y k) E L := ⟨by simpa [K.sem] using h.out⟩
theorem X_seq_exit {y : Code} {i : Nat} (h : X C (.exit i) k E L) : X C (.exit i) (.seq y k) E L := ⟨by simpa [K.sem] using h.out⟩
theorem X_seq_ret {y : Code} (h : X C .ret k E L) : X C .ret (.seq y k) E L := ⟨by simpa [K.sem] using h.out⟩
theorem X_blk {i : Nat} (h : X C .normal k E L) : X C .normal (.blk i k) E L := ⟨by simpa [K.sem] using h.out⟩
theorem X_blk_hit {i j : Nat} (hij : Nat.beq i j = true) (h : X C .normal k E L) : X C (.exit i) (.blk j k) E L :=
  ⟨by have := Nat.eq_of_beq_eq_true hij; simpa [K.sem, this] using h.out⟩
theorem X_blk_miss {i j : Nat} (hij : Nat.beq i j = false) (h : X C (.exit i) k E L) : X C (.exit i) (.blk j k) E L :=
  ⟨by have : i ≠ j := by rintro rfl; simp at hij
      simpa [K.sem, this] using h.out⟩
theorem X_blk_ret {i : Nat} (h : X C .ret k E L) : X C .ret (.blk i k) E L := ⟨by simpa [K.sem] using h.out⟩
theorem X_loop {I : Env → Hp → Prop} (h : I E L) : X C .normal (.loop I k) E L := ⟨by simpa [K.sem] using h⟩
theorem X_loop_exit {I : Env → Hp → Prop} {i : Nat} (h : X C (.exit i) k E L) : X C (.exit i) (.loop I k) E L := ⟨by simpa [K.sem] using h.out⟩
theorem X_loop_ret {I : Env → Hp → Prop} (h : X C .ret k E L) : X C .ret (.loop I k) E L := ⟨by simpa [K.sem] using h.out⟩
theorem X_fin {Q : Env → Hp → Prop} (h : Q E L) : X C .normal (.fin Q) E L := ⟨by simpa [K.sem] using h⟩
theorem X_fin_ret {Q : Env → Hp → Prop} (h : Q E L) : X C .ret (.fin Q) E L := ⟨by simpa [K.sem] using h⟩
theorem T_skip (h : X C .normal k E L) : T C .skip k E L := ⟨⟨fun _ _ hr hs => wp_skip ⟨E, L, hr, hs, h.out⟩⟩⟩
theorem T_exit {i : Nat} (h : X C (.exit i) k E L) : T C (.exit i) k E L := ⟨⟨fun _ _ hr hs => wp_exit ⟨E, L, hr, hs, h.out⟩⟩⟩
theorem T_ret (h : X C .ret k E L) : T C .ret k E L := ⟨⟨fun _ _ hr hs => wp_ret ⟨E, L, hr, hs, h.out⟩⟩⟩
theorem T_block {i : Nat} {c : Code} (h : T C c (.blk i k) E L) : T C (.block i c) k E L := by
  refine ⟨⟨fun a w hr hs => wp_block (wp_mono (h.out.out a w hr hs) ?_)⟩⟩
  rintro ex a w ⟨E', L', hr', hs', hq⟩
  cases ex with
  | exit j =>
    simp only [Exit.inBlock, K.sem] at hq ⊢
    split
    · rename_i e; rw [if_pos e] at hq; exact ⟨E', L', hr', hs', hq⟩
    · rename_i e; rw [if_neg e] at hq; exact ⟨E', L', hr', hs', hq⟩
  | _ => exact ⟨E', L', hr', hs', by simpa [K.sem] using hq⟩
theorem T_cond_true {c : Operand} {x y : Code} (hc : ev E c = some (.bool true)) (h : T C x k E L) : T C (.cond c x y) k E L :=
  ⟨⟨fun a w hr hs => wp_cond_true (hr.eval hc) (h.out.out a w hr hs)⟩⟩
theorem T_cond_false {c : Operand} {x y : Code} (hc : ev E c = some (.bool false)) (h : T C y k E L) : T C (.cond c x y) k E L :=
  ⟨⟨fun a w hr hs => wp_cond_false (hr.eval hc) (h.out.out a w hr hs)⟩⟩
theorem T_cond {c : Operand} {x y : Code} {b : Bool} (hc : ev E c = some (.bool b)) (ht : b = true → T C x k E L) (hf : b = false → T C y k E L) : T C (.cond c x y) k E L := by
  cases b
  · exact T_cond_false hc (hf rfl)
  · exact T_cond_true hc (ht rfl)
/-- A test on something that may hold or not. -/
theorem T_if {c : Operand} {x y : Code} {p : Prop} [Decidable p] (hc : ev E c = some (.bool (decide p))) (ht : p → T C x k E L) (hf : ¬ p → T C y k E L) : T C (.cond c x y) k E L :=
  T_cond hc (fun h => ht (of_decide_eq_true h)) (fun h => hf (of_decide_eq_false h))
theorem St.emb {C : Ctx} {L N : Hp} {w : World} (h : St C L w) (he : Emb N L) : St C N w := by
  obtain ⟨ow, ho⟩ := h.own
  obtain ⟨ow', ho', _⟩ := ho.emb he
  exact ⟨h.os, h.tape, h.output, h.size, h.fixed, h.fb, ow', ho'⟩
theorem St.mono {C : Ctx} {L M N : Hp} {w : World} (h : St C L w) (hL : L = M ++ N) : St C M w := h.emb (hL ▸ Emb.left M N)
theorem St.perm {C : Ctx} {L L' : Hp} {w : World} (h : St C L w) (hp : L.Perm L') : St C L' w := h.emb (Emb.of_perm hp.symm)
theorem St.known {C : Ctx} {L : Hp} {w : World} (h : St C L w) {q b : Nat} {o : Obj} (hq : L[q]? = some (blk b o)) : w.heap[b]? = some o := by
  obtain ⟨ow, ho⟩ := h.own
  exact (cut_in (ho.sat q _ hq)).2
def Env.sub (F E : Env) : Prop := ∀ d v, F.get d = some v → E.get d = some v
theorem Env.sub_nil (E : Env) : Env.sub [] E := fun _ _ h => by cases h
theorem Env.sub_cons {F E : Env} {d : Nat} {v : Value} (h : E.get d = some v) (hF : Env.sub F E) : Env.sub ((d, v) :: F) E := by
  intro e u he
  simp only [Env.get] at he
  cases hb : Nat.beq d e with
  | true =>
    rw [hb] at he
    have := Nat.eq_of_beq_eq_true hb
    subst this
    simp at he
    subst he
    exact h
  | false => rw [hb] at he; exact hF e u he
theorem wp_loop_gen {P : Program} {Q : Exit → Act → World → Prop} {c : Code} {α : Type} (I : α → Act → World → Prop) (m : α → Nat)
    (round : ∀ x a w, I x a w → c.wp P (Exit.then (fun a' w' => ∃ y, I y a' w' ∧ m y < m x) Q) a w) (x₀ : α) {a : Act} {w : World} (h₀ : I x₀ a w) : (Code.loop c).wp P Q a w := by
  intro b k cs
  have key : ∀ n x a w, m x = n → I x a w →
      ∃ e a' w', Q e a' w' ∧ Arrives P (lone (b.at a (.code c :: .inLoop c :: k)) cs w) b k cs e a' w' := by
    intro n
    induction n using Nat.strongRecOn with
    | _ n ih =>
      intro x a w hn hI
      obtain ⟨e, a₁, w₁, hq, harr⟩ := round x a w hI b (.inLoop c :: k) cs
      cases e with
      | normal =>
        obtain ⟨y, hI₁, hlt⟩ := hq
        obtain ⟨e₂, a₂, w₂, hq₂, harr₂⟩ := ih (m y) (hn ▸ hlt) y a₁ w₁ rfl hI₁
        exact ⟨e₂, a₂, w₂, hq₂, .of_steps (Steps.trans harr (.one step_inLoop)) harr₂⟩
      | exit id => exact ⟨_, a₁, w₁, hq, .pass (x := .inLoop c) rfl (fun _ _ => .inl (by simp)) harr⟩
      | goto l => exact ⟨_, a₁, w₁, hq, .pass (x := .inLoop c) rfl (fun _ _ => .inl (by simp)) harr⟩
      | ret => exact ⟨_, a₁, w₁, hq, .pass (x := .inLoop c) rfl (fun _ _ => .inl (by simp)) harr⟩
      | panic ch => exact ⟨_, a₁, w₁, hq, .pass (x := .inLoop c) rfl (fun _ _ => .inl (by simp)) harr⟩
      | outgrown => exact ⟨_, a₁, w₁, hq, .pass (x := .inLoop c) rfl (fun _ _ => .inl (by simp)) harr⟩
  obtain ⟨e, a', w', hq, harr⟩ := key _ x₀ a w rfl h₀
  exact ⟨e, a', w', hq, .of_steps (.one step_loop) harr⟩
/-- A loop: at each of its heads there is an x with J x; each round lowers m. -/
theorem T_loop {c : Code} {α : Type} (J : α → Prop) (F : α → Env) (M : α → Hp) (m : α → Nat) (x₀ : α) (hJ : J x₀) (hF : Env.sub (F x₀) E) (N : Hp) (hL : L = M x₀ ++ N)
    (round : ∀ x, J x → T C c (.loop (fun E' L' => ∃ y, J y ∧ m y < m x ∧ Env.sub (F y) E' ∧ ∃ N', L' = M y ++ N') k) (F x) (M x)) : T C (.loop c) k E L := by
  refine ⟨⟨fun a w hr hs => wp_loop_gen (fun x a w => J x ∧ Rel C.n (F x) a ∧ St C (M x) w) m ?_ x₀ ⟨hJ, hr.mono hF, hs.mono hL⟩⟩⟩
  rintro x a w ⟨hx, hr, hs⟩
  refine wp_mono ((round x hx).out.out a w hr hs) ?_
  rintro ex a w ⟨E', L', hr', hs', hq⟩
  cases ex with
  | normal =>
    simp only [K.sem] at hq
    obtain ⟨y, hy, hm, hF', N', hL'⟩ := hq
    exact ⟨y, ⟨hy, hr'.mono hF', hs'.mono hL'⟩, hm⟩
  | _ => exact ⟨E', L', hr', hs', by simpa [K.sem] using hq⟩
/-- .. what is owned at its head may lie anywhere. -/
theorem T_loopE {c : Code} {α : Type} (J : α → Prop) (F : α → Env) (M : α → Hp) (m : α → Nat) (x₀ : α) (hJ : J x₀) (hF : Env.sub (F x₀) E) (hL : Emb (M x₀) L)
    (round : ∀ x, J x → T C c (.loop (fun E' L' => ∃ y, J y ∧ m y < m x ∧ Env.sub (F y) E' ∧ Emb (M y) L') k) (F x) (M x)) : T C (.loop c) k E L := by
  refine ⟨⟨fun a w hr hs => wp_loop_gen (fun x a w => J x ∧ Rel C.n (F x) a ∧ St C (M x) w) m ?_ x₀ ⟨hJ, hr.mono hF, hs.emb hL⟩⟩⟩
  rintro x a w ⟨hx, hr, hs⟩
  refine wp_mono ((round x hx).out.out a w hr hs) ?_
  rintro ex a w ⟨E', L', hr', hs', hq⟩
  cases ex with
  | normal =>
    simp only [K.sem] at hq
    obtain ⟨y, hy, hm, hF', hL'⟩ := hq
    exact ⟨y, ⟨hy, hr'.mono hF', hs'.emb hL'⟩, hm⟩
  | _ => exact ⟨E', L', hr', hs', by simpa [K.sem] using hq⟩
end
/-- In whatever fits, the operation yields v and leaves the world. -/
structure Yv (C : Ctx) (E : Env) (L : Hp) (o : Oper) (v : Value) : Prop where
  out : ∀ a w, Rel C.n E a → St C L w → (execOp a.eval o).run C.P w = .ok (.value v) w
section
variable {C : Ctx} {k : K} {E : Env} {L : Hp}
/-! ### operations, in the order in which they stand -/
structure S (C : Ctx) (ops : Array Oper) (l : List Oper) (k : K) (E : Env) (L : Hp) : Prop where
  out : ∀ a w, Rel C.n E a → St C L w → wpList C.P ops (lift C (k.sem C)) l a w
theorem T_region {id : Nat} {l : List Oper} (h : S C l.toArray l k E L) : T C (.region id l.toArray false) k E L :=
  ⟨⟨fun a w hr hs => wp_region_lit (h.out a w hr hs)⟩⟩
theorem S_nil {ops : Array Oper} (h : X C .normal k E L) : S C ops [] k E L := ⟨fun _ _ hr hs => ⟨E, L, hr, hs, h.out⟩⟩
/-- Is the operation wanted? -/
def wantedE (ops : Array Oper) (E : Env) : Option (Nat × Bool) → Option Bool
  | none => some true
  | some (j, want) =>
    match (ops[j]?).bind (·.dst) with
    | some d => match E.get d with
      | some (.bool b) => some (b == want)
      | some (.tuple _) => some false
      | _ => none
    | none => none
theorem wantedE_spec {n : Nat} {ops : Array Oper} {a : Act} (hr : Rel n E a) {o : Oper} {b : Bool} (h : wantedE ops E o.guard = some b) : Region.wanted o (yielded ops a.tmps) = b := by
  unfold wantedE at h
  unfold Region.wanted
  split at h
  · rename_i hg; rw [hg]; simpa using h
  · rename_i j want hg
    rw [hg]
    split at h
    · rename_i d hd
      have key : ∀ v, E.get d = some v → ((ops[j]?).bind (·.dst)).bind (a.tmps[·]?) = some v := fun v hv => by rw [hd]; exact hr.get d v hv
      split at h
      · rename_i c hc
        have := key _ hc
        simp only [yielded, this]
        simpa using h
      · rename_i c hc
        have := key _ hc
        simp only [yielded, this]
        simpa using h
      · cases h
    · cases h
def putE (dst : Option Nat) (v : Value) (E : Env) : Env :=
  match dst with
  | some d => (d, v) :: E
  | none => E
def fitsN (n : Nat) : Option Nat → Bool
  | some d => Nat.blt d n
  | none => true
theorem Rel.putE {n : Nat} {a : Act} (h : Rel n E a) {dst : Option Nat} (hd : fitsN n dst = true) (v : Value) : Rel n (putE dst v E) (a.put dst v) := by
  cases dst with
  | none => exact h
  | some d => exact h.put (by simpa [fitsN] using hd) v
variable {ops : Array Oper} {rest : List Oper}
section
variable {op : Op} {ty : TypeId} {pos : String} {af : Array Edge} {g : Option (Nat × Bool)} {d : Nat}
/-- An operation that isn't wanted. -/
theorem S_skip (hg : wantedE ops E g = some false) (hd : Nat.blt d C.n = true) (h : S C ops rest k ((d, undef) :: E) L) : S C ops (⟨some d, op, ty, pos, af, g⟩ :: rest) k E L := by
  refine ⟨fun a w hr hs => ?_⟩
  unfold wpList
  rw [wantedE_spec hr (o := ⟨some d, op, ty, pos, af, g⟩) hg]
  simpa using h.out _ _ (hr.put (by simpa using hd) undef) hs
/-- An operation that yields a value and leaves what is known of memory. -/
theorem S_val {v : Value} (hg : wantedE ops E g = some true) (hd : Nat.blt d C.n = true)
    (hv : Yv C E L ⟨some d, op, ty, pos, af, g⟩ v) (h : S C ops rest k ((d, v) :: E) L) : S C ops (⟨some d, op, ty, pos, af, g⟩ :: rest) k E L := by
  refine ⟨fun a w hr hs => ?_⟩
  unfold wpList
  rw [wantedE_spec hr (o := ⟨some d, op, ty, pos, af, g⟩) hg, if_pos rfl]
  refine .inl ?_
  unfold Oper.wp
  rw [hv.out a w hr hs]
  exact h.out _ _ (hr.put (by simpa using hd) v) hs
end
end
/-! ### values -/
section
variable {C : Ctx} {E : Env} {L : Hp}
variable {dst : Option Tmp} {ty : TypeId} {pos : String} {af : Array Edge} {g : Option (Nat × Bool)}
theorem Y_move {x : Operand} {v : Value} (hx : ev E x = some v) : Yv C E L ⟨dst, .move x, ty, pos, af, g⟩ v :=
  .mk fun a w hr _ => by simp [execOp, hr.eval hx]
theorem Y_assign {x : Operand} {v : Value} (hx : ev E x = some v) : Yv C E L ⟨dst, .assign x, ty, pos, af, g⟩ v :=
  .mk fun a w hr _ => by simp [execOp, hr.eval hx]
theorem Y_pick_t {c x y : Operand} {v : Value} (hc : ev E c = some (.bool true)) (hx : ev E x = some v) : Yv C E L ⟨dst, .pick c x y, ty, pos, af, g⟩ v :=
  .mk fun a w hr _ => by simp [execOp, hr.eval hx, hr.eval hc, asBool]
theorem Y_pick_f {c x y : Operand} {v : Value} (hc : ev E c = some (.bool false)) (hx : ev E y = some v) : Yv C E L ⟨dst, .pick c x y, ty, pos, af, g⟩ v :=
  .mk fun a w hr _ => by simp [execOp, hr.eval hx, hr.eval hc, asBool]
theorem Y_extract {x : Operand} {i : Nat} {vs : List Value} {v : Value} (hx : ev E x = some (.tuple vs.toArray)) (hv : vs[i]? = some v) : Yv C E L ⟨dst, .extract x i, ty, pos, af, g⟩ v :=
  .mk fun a w hr _ => by simp [execOp, hr.eval hx, Instr.extract, hv]
theorem eqGuard_int (op : BinOp) (t : TypeId) (x y : Operand) (k k' : IntKind) (p q : Int) (P : Program) (w : World) : (eqGuard op t x y (.int k p) (.int k' q)).run P w = .ok () w := by
  unfold eqGuard
  cases op <;> simp
/-- The integer is this natural number. -/
structure IsNat (p : Int) (m : Nat) : Prop where
  eq : p = (m : Int)
theorem nat_cast (m : Nat) : IsNat (m : Int) m := ⟨rfl⟩
theorem nat_lit' (n : Nat) : IsNat (@OfNat.ofNat Int n (@instOfNat n)) (@OfNat.ofNat Nat n (instOfNatNat n)) := ⟨rfl⟩
section
variable {x y : Operand} {t u : TypeId} {k k' : IntKind} {p q r : Int} {m n : Nat}
theorem Y_addN (hx : ev E x = some (.int .i64 p)) (hy : ev E y = some (.int .i64 q)) (hp : IsNat p m) (hq : IsNat q n) (h : m + n < 9223372036854775808) : Yv C E L ⟨dst, .binOp .add t x y u, ty, pos, af, g⟩ (.int .i64 ((m + n : Nat) : Int)) := by
  refine ⟨fun a w hr _ => ?_⟩
  have := hp.eq
  have := hq.eq
  subst p q
  have e : IntKind.i64.wrap ((m : Int) + n) = ((m + n : Nat) : Int) := by simp [IntKind.wrap, IntKind.signed, IntKind.bits]; omega
  simp [execOp, hr.eval hx, hr.eval hy, eqGuard_int, binOp, Op.intArith, e]
theorem Y_subN (hx : ev E x = some (.int .i64 p)) (hy : ev E y = some (.int .i64 q)) (hp : IsNat p m) (hq : IsNat q n) (h : n ≤ m) (hm : m < 9223372036854775808) : Yv C E L ⟨dst, .binOp .sub t x y u, ty, pos, af, g⟩ (.int .i64 ((m - n : Nat) : Int)) := by
  refine ⟨fun a w hr _ => ?_⟩
  have := hp.eq
  have := hq.eq
  subst p q
  have e : IntKind.i64.wrap ((m : Int) - n) = ((m - n : Nat) : Int) := by simp [IntKind.wrap, IntKind.signed, IntKind.bits]; omega
  simp [execOp, hr.eval hx, hr.eval hy, eqGuard_int, binOp, Op.intArith, e]
theorem Y_mulN (hx : ev E x = some (.int .i64 p)) (hy : ev E y = some (.int .i64 q)) (hp : IsNat p m) (hq : IsNat q n) (h : m * n < 9223372036854775808) : Yv C E L ⟨dst, .binOp .mul t x y u, ty, pos, af, g⟩ (.int .i64 ((m * n : Nat) : Int)) := by
  refine ⟨fun a w hr _ => ?_⟩
  have := hp.eq
  have := hq.eq
  subst p q
  have e : IntKind.i64.wrap ((m : Int) * n) = ((m * n : Nat) : Int) := by rw [← Int.natCast_mul]; simp [IntKind.wrap, IntKind.signed, IntKind.bits]; omega
  simp [execOp, hr.eval hx, hr.eval hy, eqGuard_int, binOp, Op.intArith, e]
/-- .. of unsigned ones: what stays within. -/
theorem Y_addU (hx : ev E x = some (.int k p)) (hy : ev E y = some (.int k q)) (hp : IsNat p m) (hq : IsNat q n) (hk : k.signed = false) (h : m + n < 2 ^ k.bits) : Yv C E L ⟨dst, .binOp .add t x y u, ty, pos, af, g⟩ (.int k ((m + n : Nat) : Int)) := by
  refine ⟨fun a w hr _ => ?_⟩
  have := hp.eq
  have := hq.eq
  subst p q
  have e : k.wrap ((m : Int) + n) = ((m + n : Nat) : Int) := by
    simp only [IntKind.wrap, hk, Bool.false_and, Bool.false_eq_true, if_false]
    rw [← Int.natCast_add]
    exact Int.emod_eq_of_lt (by omega) (by exact_mod_cast h)
  simp [execOp, hr.eval hx, hr.eval hy, eqGuard_int, binOp, Op.intArith, e]
theorem Y_mulU (hx : ev E x = some (.int k p)) (hy : ev E y = some (.int k q)) (hp : IsNat p m) (hq : IsNat q n) (hk : k.signed = false) (h : m * n < 2 ^ k.bits) : Yv C E L ⟨dst, .binOp .mul t x y u, ty, pos, af, g⟩ (.int k ((m * n : Nat) : Int)) := by
  refine ⟨fun a w hr _ => ?_⟩
  have := hp.eq
  have := hq.eq
  subst p q
  have e : k.wrap ((m : Int) * n) = ((m * n : Nat) : Int) := by
    simp only [IntKind.wrap, hk, Bool.false_and, Bool.false_eq_true, if_false]
    rw [← Int.natCast_mul]
    exact Int.emod_eq_of_lt (by omega) (by exact_mod_cast h)
  simp [execOp, hr.eval hx, hr.eval hy, eqGuard_int, binOp, Op.intArith, e]
theorem Y_subU (hx : ev E x = some (.int k p)) (hy : ev E y = some (.int k q)) (hp : IsNat p m) (hq : IsNat q n) (hk : k.signed = false) (h : n ≤ m) (hm : m < 2 ^ k.bits) : Yv C E L ⟨dst, .binOp .sub t x y u, ty, pos, af, g⟩ (.int k ((m - n : Nat) : Int)) := by
  refine ⟨fun a w hr _ => ?_⟩
  have := hp.eq
  have := hq.eq
  subst p q
  have e : k.wrap ((m : Int) - n) = ((m - n : Nat) : Int) := by
    simp only [IntKind.wrap, hk, Bool.false_and, Bool.false_eq_true, if_false]
    rw [← Int.natCast_sub h]
    exact Int.emod_eq_of_lt (by omega) (by exact_mod_cast (by omega : m - n < 2 ^ k.bits))
  simp [execOp, hr.eval hx, hr.eval hy, eqGuard_int, binOp, Op.intArith, e]
/-- .. what goes round, at 64 bits. -/
theorem Y_add64 (hx : ev E x = some (.int .u64 p)) (hy : ev E y = some (.int .u64 q)) (hp : IsNat p m) (hq : IsNat q n) : Yv C E L ⟨dst, .binOp .add t x y u, ty, pos, af, g⟩ (.int .u64 (((m + n) % 18446744073709551616 : Nat) : Int)) := by
  refine ⟨fun a w hr _ => ?_⟩
  have := hp.eq
  have := hq.eq
  subst p q
  have e : IntKind.u64.wrap ((m : Int) + n) = (((m + n) % 18446744073709551616 : Nat) : Int) := by simp [IntKind.wrap, IntKind.signed, IntKind.bits]
  simp [execOp, hr.eval hx, hr.eval hy, eqGuard_int, binOp, Op.intArith, e]
theorem Y_mul64 (hx : ev E x = some (.int .u64 p)) (hy : ev E y = some (.int .u64 q)) (hp : IsNat p m) (hq : IsNat q n) : Yv C E L ⟨dst, .binOp .mul t x y u, ty, pos, af, g⟩ (.int .u64 ((m * n % 18446744073709551616 : Nat) : Int)) := by
  refine ⟨fun a w hr _ => ?_⟩
  have := hp.eq
  have := hq.eq
  subst p q
  have e : IntKind.u64.wrap ((m : Int) * n) = ((m * n % 18446744073709551616 : Nat) : Int) := by simp [IntKind.wrap, IntKind.signed, IntKind.bits]
  simp [execOp, hr.eval hx, hr.eval hy, eqGuard_int, binOp, Op.intArith, e]
theorem Y_sub64 (hx : ev E x = some (.int .u64 p)) (hy : ev E y = some (.int .u64 q)) (hp : IsNat p m) (hq : IsNat q n) (hn : n ≤ 18446744073709551616) : Yv C E L ⟨dst, .binOp .sub t x y u, ty, pos, af, g⟩ (.int .u64 (((m + (18446744073709551616 - n)) % 18446744073709551616 : Nat) : Int)) := by
  refine ⟨fun a w hr _ => ?_⟩
  have := hp.eq
  have := hq.eq
  subst p q
  have e : IntKind.u64.wrap ((m : Int) - n) = (((m + (18446744073709551616 - n)) % 18446744073709551616 : Nat) : Int) := by simp [IntKind.wrap, IntKind.signed, IntKind.bits]; omega
  simp [execOp, hr.eval hx, hr.eval hy, eqGuard_int, binOp, Op.intArith, e]
theorem Y_quoN (hx : ev E x = some (.int k p)) (hy : ev E y = some (.int k q)) (hp : IsNat p m) (hq : IsNat q n) (hn : n ≠ 0) (hk : (m : Int) ≤ k.max) : Yv C E L ⟨dst, .binOp .quo t x y u, ty, pos, af, g⟩ (.int k ((m / n : Nat) : Int)) := by
  refine ⟨fun a w hr _ => ?_⟩
  have := hp.eq
  have := hq.eq
  subst p q
  have h0 : m / n ≤ m := Nat.div_le_self _ _
  have e : k.wrap ((m : Int) / n) = (m : Int) / n := by
    rw [← Int.natCast_ediv]
    generalize m / n = j at *
    cases k <;> simp [IntKind.max, IntKind.wrap, IntKind.signed, IntKind.bits] at * <;> omega
  have hn' : (n : Int) ≠ 0 := by omega
  simp [execOp, hr.eval hx, hr.eval hy, eqGuard_int, binOp, Op.intDiv, hn, e]
theorem Y_remN (hx : ev E x = some (.int k p)) (hy : ev E y = some (.int k q)) (hp : IsNat p m) (hq : IsNat q n) (hn : n ≠ 0) : Yv C E L ⟨dst, .binOp .rem t x y u, ty, pos, af, g⟩ (.int k ((m % n : Nat) : Int)) := by
  refine ⟨fun a w hr _ => ?_⟩
  have := hp.eq
  have := hq.eq
  subst p q
  simp [execOp, hr.eval hx, hr.eval hy, eqGuard_int, binOp, Op.intDiv, hn]
  rfl
theorem pow_min (m s b : Nat) (hm : m < 2 ^ b) : m / 2 ^ min s b = m / 2 ^ s := by
  rcases Nat.le_total s b with h | h
  · rw [Nat.min_eq_left h]
  · rw [Nat.min_eq_right h, Nat.div_eq_of_lt hm, Nat.div_eq_of_lt (Nat.lt_of_lt_of_le hm (Nat.pow_le_pow_right (by omega) h))]
/-- Shifted down, without a sign. -/
theorem Y_shrN (hx : ev E x = some (.int k p)) (hy : ev E y = some (.int k' q)) (hp : IsNat p m) (hq : IsNat q n) (hm : m < 2 ^ k.bits) : Yv C E L ⟨dst, .binOp .shr t x y u, ty, pos, af, g⟩ (.int k ((m / 2 ^ n : Nat) : Int)) := by
  refine ⟨fun a w hr _ => ?_⟩
  have := hp.eq
  have := hq.eq
  subst p q
  have e : ((m : Nat) : Int).fdiv (2 ^ min n k.bits) = ((m / 2 ^ n : Nat) : Int) := by
    rw [← pow_min m n k.bits hm, show (2 : Int) ^ min n k.bits = ((2 ^ min n k.bits : Nat) : Int) by simp, Int.fdiv_eq_ediv_of_nonneg _ (Int.natCast_nonneg _), Int.natCast_ediv]
  simp [execOp, hr.eval hx, hr.eval hy, eqGuard_int, binOp, Op.shift, e]
  exact fun h => absurd h (by omega)
/-- Shifted up, without a sign. -/
theorem Y_shlN (hx : ev E x = some (.int k p)) (hy : ev E y = some (.int k' q)) (hp : IsNat p m) (hq : IsNat q n) (hk : k.signed = false) {B : Nat} (hB : 2 ^ k.bits = B) : Yv C E L ⟨dst, .binOp .shl t x y u, ty, pos, af, g⟩ (.int k ((m * 2 ^ n % B : Nat) : Int)) := by
  refine ⟨fun a w hr _ => ?_⟩
  have := hp.eq
  have := hq.eq
  subst p q B
  have e : k.wrap ((m : Int) * 2 ^ min n k.bits) = ((m * 2 ^ n % 2 ^ k.bits : Nat) : Int) := by
    simp only [IntKind.wrap, hk, Bool.false_and, Bool.false_eq_true, if_false]
    rw [show (2 : Int) ^ min n k.bits = ((2 ^ min n k.bits : Nat) : Int) by simp, show (2 : Int) ^ k.bits = ((2 ^ k.bits : Nat) : Int) by simp, ← Int.natCast_mul, ← Int.natCast_emod]
    congr 1
    rcases Nat.le_total n k.bits with h | h
    · rw [Nat.min_eq_left h]
    · rw [Nat.min_eq_right h, Nat.mul_mod_left]
      obtain ⟨j, rfl⟩ : ∃ j, n = k.bits + j := ⟨n - k.bits, by omega⟩
      rw [Nat.pow_add, ← Nat.mul_assoc, Nat.mul_right_comm, Nat.mul_mod_left]
  simp [execOp, hr.eval hx, hr.eval hy, eqGuard_int, binOp, Op.shift, e]
  exact fun h => absurd h (by omega)
theorem natmod {m b : Nat} (h : m < 2 ^ b) : ((m : Nat) : Int) % (2 : Int) ^ b = m := Int.emod_eq_of_lt (by omega) (by exact_mod_cast h)
theorem Y_add (hx : ev E x = some (.int k p)) (hy : ev E y = some (.int k q)) (hr : k.wrap (p + q) = r) : Yv C E L ⟨dst, .binOp .add t x y u, ty, pos, af, g⟩ (.int k r) :=
  .mk fun a w h _ => by simp [execOp, h.eval hx, h.eval hy, eqGuard_int, binOp, Op.intArith, hr]
theorem Y_sub (hx : ev E x = some (.int k p)) (hy : ev E y = some (.int k q)) (hr : k.wrap (p - q) = r) : Yv C E L ⟨dst, .binOp .sub t x y u, ty, pos, af, g⟩ (.int k r) :=
  .mk fun a w h _ => by simp [execOp, h.eval hx, h.eval hy, eqGuard_int, binOp, Op.intArith, hr]
theorem Y_and (hx : ev E x = some (.int k p)) (hy : ev E y = some (.int k q)) (hp : IsNat p m) (hq : IsNat q n) (hk : k.signed = false) (hm : m < 2 ^ k.bits) (hn : n < 2 ^ k.bits) :
    Yv C E L ⟨dst, .binOp .and t x y u, ty, pos, af, g⟩ (.int k ((m &&& n : Nat) : Int)) := by
  refine ⟨fun a w h _ => ?_⟩
  have := hp.eq
  have := hq.eq
  subst p q
  have h3 : m &&& n < 2 ^ k.bits := Nat.and_lt_two_pow m hn
  simp [execOp, h.eval hx, h.eval hy, eqGuard_int, binOp, Op.intBits, IntKind.wrap, hk, Nat.mod_eq_of_lt hm, Nat.mod_eq_of_lt hn, natmod h3]
theorem Y_mask32 (hx : ev E x = some (.int .u64 p)) (hy : ev E y = some (.int .u64 4294967295)) (hp : IsNat p m) (hm : m < 18446744073709551616) : Yv C E L ⟨dst, .binOp .and t x y u, ty, pos, af, g⟩ (.int .u64 ((m % 4294967296 : Nat) : Int)) := by
  have := Y_and (C := C) (L := L) (dst := dst) (ty := ty) (pos := pos) (af := af) (g := g) (t := t) (u := u) hx hy hp (n := 4294967295) ⟨rfl⟩ rfl (by simp only [IntKind.bits]; omega) (by simp only [IntKind.bits]; omega)
  rwa [show m &&& 4294967295 = m % 4294967296 from Nat.and_two_pow_sub_one_eq_mod m 32] at this
theorem Y_or (hx : ev E x = some (.int k p)) (hy : ev E y = some (.int k q)) (hp : IsNat p m) (hq : IsNat q n) (hk : k.signed = false) (hm : m < 2 ^ k.bits) (hn : n < 2 ^ k.bits) :
    Yv C E L ⟨dst, .binOp .or t x y u, ty, pos, af, g⟩ (.int k ((m ||| n : Nat) : Int)) := by
  refine ⟨fun a w h _ => ?_⟩
  have := hp.eq
  have := hq.eq
  subst p q
  have h3 : m ||| n < 2 ^ k.bits := Nat.or_lt_two_pow hm hn
  simp [execOp, h.eval hx, h.eval hy, eqGuard_int, binOp, Op.intBits, IntKind.wrap, hk, Nat.mod_eq_of_lt hm, Nat.mod_eq_of_lt hn, natmod h3]
theorem Y_xor (hx : ev E x = some (.int k p)) (hy : ev E y = some (.int k q)) (hp : IsNat p m) (hq : IsNat q n) (hk : k.signed = false) (hm : m < 2 ^ k.bits) (hn : n < 2 ^ k.bits) :
    Yv C E L ⟨dst, .binOp .xor t x y u, ty, pos, af, g⟩ (.int k ((m ^^^ n : Nat) : Int)) := by
  refine ⟨fun a w h _ => ?_⟩
  have := hp.eq
  have := hq.eq
  subst p q
  have h3 : m ^^^ n < 2 ^ k.bits := Nat.xor_lt_two_pow hm hn
  simp [execOp, h.eval hx, h.eval hy, eqGuard_int, binOp, Op.intBits, IntKind.wrap, hk, Nat.mod_eq_of_lt hm, Nat.mod_eq_of_lt hn, natmod h3]
/-- ^x of an unsigned number. -/
theorem Y_cpl (hx : ev E x = some (.int k p)) (hp : IsNat p m) (hk : k.signed = false) (hm : m < 2 ^ k.bits) :
    Yv C E L ⟨dst, .unOp .xor t x, ty, pos, af, g⟩ (.int k ((2 ^ k.bits - 1 - m : Nat) : Int)) := by
  refine ⟨fun a w h _ => ?_⟩
  have := hp.eq
  subst p
  have h0 := Nat.two_pow_pos k.bits
  have hmax : IntKind.max k = ((2 ^ k.bits - 1 : Nat) : Int) := by
    simp only [IntKind.max, hk]
    simp only [Bool.false_eq_true, if_false]
    rw [Int.natCast_sub (by omega)]
    simp
  have h2 : (((2 ^ k.bits - 1 : Nat) : Nat) : Int) % 2 ^ k.bits = (2 ^ k.bits - 1 : Nat) := natmod (by omega)
  have hx2 : (2 ^ k.bits - 1) ^^^ m = 2 ^ k.bits - 1 - m := by
    apply Nat.eq_of_testBit_eq
    intro i
    rw [Nat.testBit_xor, Nat.testBit_two_pow_sub_one, show 2 ^ k.bits - 1 - m = 2 ^ k.bits - (m + 1) by omega, Nat.testBit_two_pow_sub_succ hm]
    by_cases hi : i < k.bits
    · simp [hi]
    · have : m.testBit i = false := Nat.testBit_lt_two_pow (Nat.lt_of_lt_of_le hm (Nat.pow_le_pow_right (by omega) (by omega)))
      simp [hi, this]
  have h4 : ((2 ^ k.bits - 1 - m : Nat) : Int) % 2 ^ k.bits = ((2 ^ k.bits - 1 - m : Nat) : Int) := natmod (by omega)
  simp only [execOp, h.eval hx, Op.unary, hk, Bool.false_eq_true, if_false, hmax, Op.intBits]
  simp only [Sem.run_bind, Sem.run_pure, Result.andThen_ok, BitVec.toNat_xor, BitVec.toNat_ofInt]
  rw [show (((2 ^ k.bits : Nat) : Int)) = (2 : Int) ^ k.bits by simp, h2, natmod hm]
  simp only [Int.toNat_natCast, hx2, IntKind.wrap, hk, Bool.false_and, Bool.false_eq_true, if_false, h4]
theorem Y_eql (hx : ev E x = some (.int k p)) (hy : ev E y = some (.int k q)) : Yv C E L ⟨dst, .binOp .eql t x y u, ty, pos, af, g⟩ (.bool (decide (p = q))) :=
  .mk fun a w h _ => by simp [execOp, h.eval hx, h.eval hy, eqGuard_int, binOp, Op.intCmp]; rfl
theorem Y_neq (hx : ev E x = some (.int k p)) (hy : ev E y = some (.int k q)) : Yv C E L ⟨dst, .binOp .neq t x y u, ty, pos, af, g⟩ (.bool (decide (p ≠ q))) :=
  .mk fun a w h _ => by
    have : (p != q) = decide (p ≠ q) := by by_cases e : p = q <;> simp [e]
    simp [execOp, h.eval hx, h.eval hy, eqGuard_int, binOp, Op.intCmp, this]
theorem Y_lss (hx : ev E x = some (.int k p)) (hy : ev E y = some (.int k q)) : Yv C E L ⟨dst, .binOp .lss t x y u, ty, pos, af, g⟩ (.bool (decide (p < q))) :=
  .mk fun a w h _ => by simp [execOp, h.eval hx, h.eval hy, eqGuard_int, binOp, Op.intCmp]
theorem Y_leq (hx : ev E x = some (.int k p)) (hy : ev E y = some (.int k q)) : Yv C E L ⟨dst, .binOp .leq t x y u, ty, pos, af, g⟩ (.bool (decide (p ≤ q))) :=
  .mk fun a w h _ => by simp [execOp, h.eval hx, h.eval hy, eqGuard_int, binOp, Op.intCmp]
theorem Y_gtr (hx : ev E x = some (.int k p)) (hy : ev E y = some (.int k q)) : Yv C E L ⟨dst, .binOp .gtr t x y u, ty, pos, af, g⟩ (.bool (decide (q < p))) :=
  .mk fun a w h _ => by simp [execOp, h.eval hx, h.eval hy, eqGuard_int, binOp, Op.intCmp]
theorem Y_geq (hx : ev E x = some (.int k p)) (hy : ev E y = some (.int k q)) : Yv C E L ⟨dst, .binOp .geq t x y u, ty, pos, af, g⟩ (.bool (decide (q ≤ p))) :=
  .mk fun a w h _ => by simp [execOp, h.eval hx, h.eval hy, eqGuard_int, binOp, Op.intCmp]
theorem Y_lss_t (hx : ev E x = some (.int k p)) (hy : ev E y = some (.int k q)) (h : p < q) : Yv C E L ⟨dst, .binOp .lss t x y u, ty, pos, af, g⟩ (.bool true) := by
  have := Y_lss (C := C) (L := L) (dst := dst) (ty := ty) (pos := pos) (af := af) (g := g) (t := t) (u := u) hx hy
  rwa [decide_eq_true h] at this
theorem Y_lss_f (hx : ev E x = some (.int k p)) (hy : ev E y = some (.int k q)) (h : ¬ (p < q)) : Yv C E L ⟨dst, .binOp .lss t x y u, ty, pos, af, g⟩ (.bool false) := by
  have := Y_lss (C := C) (L := L) (dst := dst) (ty := ty) (pos := pos) (af := af) (g := g) (t := t) (u := u) hx hy
  rwa [decide_eq_false h] at this
theorem Y_leq_t (hx : ev E x = some (.int k p)) (hy : ev E y = some (.int k q)) (h : p ≤ q) : Yv C E L ⟨dst, .binOp .leq t x y u, ty, pos, af, g⟩ (.bool true) := by
  have := Y_leq (C := C) (L := L) (dst := dst) (ty := ty) (pos := pos) (af := af) (g := g) (t := t) (u := u) hx hy
  rwa [decide_eq_true h] at this
theorem Y_leq_f (hx : ev E x = some (.int k p)) (hy : ev E y = some (.int k q)) (h : ¬ (p ≤ q)) : Yv C E L ⟨dst, .binOp .leq t x y u, ty, pos, af, g⟩ (.bool false) := by
  have := Y_leq (C := C) (L := L) (dst := dst) (ty := ty) (pos := pos) (af := af) (g := g) (t := t) (u := u) hx hy
  rwa [decide_eq_false h] at this
theorem Y_gtr_t (hx : ev E x = some (.int k p)) (hy : ev E y = some (.int k q)) (h : q < p) : Yv C E L ⟨dst, .binOp .gtr t x y u, ty, pos, af, g⟩ (.bool true) := by
  have := Y_gtr (C := C) (L := L) (dst := dst) (ty := ty) (pos := pos) (af := af) (g := g) (t := t) (u := u) hx hy
  rwa [decide_eq_true h] at this
theorem Y_gtr_f (hx : ev E x = some (.int k p)) (hy : ev E y = some (.int k q)) (h : ¬ (q < p)) : Yv C E L ⟨dst, .binOp .gtr t x y u, ty, pos, af, g⟩ (.bool false) := by
  have := Y_gtr (C := C) (L := L) (dst := dst) (ty := ty) (pos := pos) (af := af) (g := g) (t := t) (u := u) hx hy
  rwa [decide_eq_false h] at this
theorem Y_geq_t (hx : ev E x = some (.int k p)) (hy : ev E y = some (.int k q)) (h : q ≤ p) : Yv C E L ⟨dst, .binOp .geq t x y u, ty, pos, af, g⟩ (.bool true) := by
  have := Y_geq (C := C) (L := L) (dst := dst) (ty := ty) (pos := pos) (af := af) (g := g) (t := t) (u := u) hx hy
  rwa [decide_eq_true h] at this
theorem Y_geq_f (hx : ev E x = some (.int k p)) (hy : ev E y = some (.int k q)) (h : ¬ (q ≤ p)) : Yv C E L ⟨dst, .binOp .geq t x y u, ty, pos, af, g⟩ (.bool false) := by
  have := Y_geq (C := C) (L := L) (dst := dst) (ty := ty) (pos := pos) (af := af) (g := g) (t := t) (u := u) hx hy
  rwa [decide_eq_false h] at this
theorem Y_eql_t (hx : ev E x = some (.int k p)) (hy : ev E y = some (.int k q)) (h : p = q) : Yv C E L ⟨dst, .binOp .eql t x y u, ty, pos, af, g⟩ (.bool true) := by
  have := Y_eql (C := C) (L := L) (dst := dst) (ty := ty) (pos := pos) (af := af) (g := g) (t := t) (u := u) hx hy
  rwa [decide_eq_true h] at this
theorem Y_eql_f (hx : ev E x = some (.int k p)) (hy : ev E y = some (.int k q)) (h : ¬ (p = q)) : Yv C E L ⟨dst, .binOp .eql t x y u, ty, pos, af, g⟩ (.bool false) := by
  have := Y_eql (C := C) (L := L) (dst := dst) (ty := ty) (pos := pos) (af := af) (g := g) (t := t) (u := u) hx hy
  rwa [decide_eq_false h] at this
theorem Y_neq_t (hx : ev E x = some (.int k p)) (hy : ev E y = some (.int k q)) (h : p ≠ q) : Yv C E L ⟨dst, .binOp .neq t x y u, ty, pos, af, g⟩ (.bool true) := by
  have := Y_neq (C := C) (L := L) (dst := dst) (ty := ty) (pos := pos) (af := af) (g := g) (t := t) (u := u) hx hy
  rwa [decide_eq_true h] at this
theorem Y_neq_f (hx : ev E x = some (.int k p)) (hy : ev E y = some (.int k q)) (h : ¬ (p ≠ q)) : Yv C E L ⟨dst, .binOp .neq t x y u, ty, pos, af, g⟩ (.bool false) := by
  have := Y_neq (C := C) (L := L) (dst := dst) (ty := ty) (pos := pos) (af := af) (g := g) (t := t) (u := u) hx hy
  rwa [decide_eq_false h] at this
theorem Y_conv {d : TypeDesc} (hu : C.P.underlying u = some (.int k)) (ht : C.P.underlying t = some d) (hx : ev E x = some (.int k' p)) (hr : k.wrap p = r) : Yv C E L ⟨dst, .convert t u x, ty, pos, af, g⟩ (.int k r) :=
  .mk fun a w h _ => by simp [execOp, h.eval hx, convert, run_underlying hu, run_underlying ht, Conv.intToInt, hr]
theorem Y_neg (hx : ev E x = some (.int k p)) (hr : k.wrap (0 - p) = r) : Yv C E L ⟨dst, .unOp .neg t x, ty, pos, af, g⟩ (.int k r) :=
  .mk fun a w h _ => by simp [execOp, h.eval hx, Op.unary, Op.intArith, ← hr]
end
theorem Y_not {x : Operand} {t : TypeId} {b c : Bool} (hx : ev E x = some (.bool b)) (hc : (!b) = c) : Yv C E L ⟨dst, .unOp .not t x, ty, pos, af, g⟩ (.bool c) :=
  .mk fun a w h _ => by simp [execOp, h.eval hx, Op.unary, hc]
theorem addr_add (b off n : Nat) : (⟨b, off, none⟩ : Addr).add n = ⟨b, off + n, none⟩ := by
  unfold Addr.add
  split <;> simp_all
def szOf (P : Program) (t : TypeId) : Option Nat := (P.info? t).map (·.size)
theorem run_sizeOf {P : Program} {t n : Nat} (h : szOf P t = some n) (w : World) : (sizeOf t).run P w = .ok n w := by
  unfold szOf at h
  cases hi : P.info? t with
  | none => simp [hi] at h
  | some i => simp [hi] at h; simp [sizeOf, typeInfo, hi, h]
def zeroOf (P : Program) (t : TypeId) : Option Value := (P.info? t).bind (·.zero)
theorem run_zeroValue {P : Program} {t : Nat} {v : Value} (h : zeroOf P t = some v) (w : World) : (zeroValue t).run P w = .ok v w := by
  unfold zeroOf at h
  cases hi : P.info? t with
  | none => simp [hi] at h
  | some i => simp [hi] at h; simp [zeroValue, typeInfo, hi, h]
section
variable {x y : Operand} {t e : TypeId} {k : IntKind} {p : Int} {n b off len cap i sz : Nat}
/-- An element's place in an array that begins its block, of elements of one cell. -/
theorem Y_ixa (ht : C.P.underlying t = some (.array n e)) (he : szOf C.P e = some 1) (hx : ev E x = some (.pointer (some ⟨b, 0, none⟩))) (hy : ev E y = some (.int k p))
    (hp : IsNat p i) (hi : i < n) : Yv C E L ⟨dst, .indexAddr t x y, ty, pos, af, g⟩ (.pointer (some ⟨b, i, none⟩)) := by
  refine ⟨fun a w h _ => ?_⟩
  have hp := hp.eq
  have h1 : 0 ≤ p ∧ p < (n : Int) := by omega
  have h2 : p.toNat = i := by omega
  simp [execOp, h.eval hx, h.eval hy, Instr.indexAt, asIntOf, run_underlying ht, Instr.sureAddr, run_sizeOf he, h1, addr_add, h2]
/-- An element's place in an array. -/
theorem Y_ixg (ht : C.P.underlying t = some (.array n e)) (he : szOf C.P e = some sz) (hx : ev E x = some (.pointer (some ⟨b, off, none⟩))) (hy : ev E y = some (.int k p))
    (hp : IsNat p i) (hi : i < n) : Yv C E L ⟨dst, .indexAddr t x y, ty, pos, af, g⟩ (.pointer (some ⟨b, off + i * sz, none⟩)) := by
  refine ⟨fun a w h _ => ?_⟩
  have hp := hp.eq
  have h1 : 0 ≤ p ∧ p < (n : Int) := by omega
  have h2 : p.toNat = i := by omega
  simp [execOp, h.eval hx, h.eval hy, Instr.indexAt, asIntOf, run_underlying ht, Instr.sureAddr, run_sizeOf he, h1, addr_add, h2]
/-- An element's place in a slice's array, of elements of one cell. -/
theorem Y_ixs (ht : C.P.underlying t = some (.slice e)) (he : szOf C.P e = some 1) (hx : ev E x = some (.slice (some ⟨b, off, none⟩) len cap)) (hy : ev E y = some (.int k p))
    (hp : IsNat p i) (hi : i < len) : Yv C E L ⟨dst, .indexAddr t x y, ty, pos, af, g⟩ (.pointer (some ⟨b, off + i, none⟩)) := by
  refine ⟨fun a w h _ => ?_⟩
  have hp := hp.eq
  have h1 : 0 ≤ p ∧ p < (len : Int) := by omega
  have h2 : p.toNat = i := by omega
  simp [execOp, h.eval hx, h.eval hy, Instr.indexAt, asIntOf, run_underlying ht, run_sizeOf he, h1, addr_add, h2]
def isAggB : TypeDesc → Bool
  | .struct _ | .array _ _ => true
  | _ => false
theorem run_isAgg {P : Program} {t : Nat} {d : TypeDesc} (h : P.underlying t = some d) (w : World) : (isAgg t).run P w = .ok (isAggB d) w := by
  unfold isAgg
  rw [Sem.run_bind, run_underlying h w]
  cases d <;> simp [isAggB]
theorem St.cell {C : Ctx} {L : Hp} {w : World} (h : St C L w) {q : Nat} {b off : Nat} {cs : Array Value} {e : TypeId} {fz : Nat × Nat} (hq : L[q]? = some (blk b (.cells cs e fz))) : w.cell? ⟨b, off, none⟩ = cs[off]? := by
  have := h.known hq
  simp [World.cell?, this]
/-- A cell that is known in whatever world fits. -/
theorem Y_load {d : TypeDesc} {v : Value} (ht : C.P.underlying t = some d) (hd : isAggB d = false) (hx : ev E x = some (.pointer (some ⟨b, off, none⟩)))
    (hc : ∀ w, St C L w → w.cell? ⟨b, off, none⟩ = some v) : Yv C E L ⟨dst, .load t x, ty, pos, af, g⟩ v := by
  refine ⟨fun a w h hs => ?_⟩
  simp [execOp, h.eval hx, Instr.loadAt, Instr.sureAddr, loadVar, run_isAgg ht, hd, hc w hs]
/-- A cell of what is owned. -/
theorem Y_load1 (q : Nat) {d : TypeDesc} {v : Value} {cs : Array Value} {e : TypeId} {fz : Nat × Nat} (ht : C.P.underlying t = some d) (hd : isAggB d = false) (hx : ev E x = some (.pointer (some ⟨b, off, none⟩)))
    (hq : L[q]? = some (blk b (.cells cs e fz))) (hv : cs[off]? = some v) : Yv C E L ⟨dst, .load t x, ty, pos, af, g⟩ v :=
  Y_load ht hd hx fun w hs => by rw [hs.cell hq, hv]
/-- The whole of a block that is owned. -/
theorem Y_loadA (q : Nat) {d : TypeDesc} {cs : Array Value} {e : TypeId} {fz : Nat × Nat} (ht : C.P.underlying t = some d) (hd : isAggB d = true) (hx : ev E x = some (.pointer (some ⟨b, 0, none⟩)))
    (hq : L[q]? = some (blk b (.cells cs e fz))) (hz : szOf C.P t = some cs.size) : Yv C E L ⟨dst, .load t x, ty, pos, af, g⟩ (.agg cs) := by
  refine ⟨fun a w h hs => ?_⟩
  have hw := hs.known hq
  have := run_loadVar_row (P := C.P) w b e t cs fz d hw ht (by cases d <;> simp_all [isAggB]) hz
  simp [execOp, h.eval hx, Instr.loadAt, Instr.sureAddr, this]
end
end
/-! ### new blocks, stores -/
section
variable {C : Ctx} {k : K} {E : Env} {L : Hp} {ops : Array Oper} {rest : List Oper} {dst : Option Tmp} {ty : TypeId} {pos : String} {af : Array Edge} {g : Option (Nat × Bool)}
variable {x y : Operand} {t e : TypeId} {b off : Nat}
/-- What an assertion's blocks become. -/
theorem St.upd {C : Ctx} {L : Hp} {w w' : World} (h : St C L w) {q : Nat} {A A' : Asr} (hq : L[q]? = some A) (h1 : w'.os = w.os) (h2 : w'.tape = w.tape) (h3 : w'.output = w.output) (h4 : w.heap.size ≤ w'.heap.size)
    (hu : ∀ D, A (cut D w) → (∀ b, D b → b < w.heap.size) → ∃ D', (∀ b, D' b → D b ∨ w.heap.size ≤ b) ∧ (∀ b, D' b → b < w'.heap.size) ∧ (∀ b, b < w.heap.size → ¬ D b → w'.heap[b]? = w.heap[b]?) ∧ A' (cut D' w')) : St C (L.set q A') w' := by
  obtain ⟨ow, ho⟩ := h.own
  have hql : q < L.length := (List.getElem?_eq_some_iff.1 hq).1
  obtain ⟨D', hd1, hd2, hd3, hd4⟩ := hu (ow q) (ho.sat q A hq) (ho.lt q)
  have hfb : ∀ b, C.FB b → b < w.heap.size := fun b hb => by have := h.fb b hb; have := h.size; omega
  refine ⟨h1.trans h.os, h2.trans h.tape, h3.trans h.output, Nat.le_trans h.size h4, fun k hk => ?_, h.fb, fun i b => if i = q then D' b else ow i b, ?_, ?_, ?_, ?_⟩
  · rw [hd3 k (hfb k hk) (fun hb => ho.free q k hb hk)]; exact h.fixed k hk
  · intro i b hb hF
    split at hb
    · rcases hd1 b hb with h5 | h5
      · exact ho.free q b h5 hF
      · have := hfb b hF; omega
    · exact ho.free i b hb hF
  · intro i b hb
    split at hb
    · exact hd2 b hb
    · exact Nat.lt_of_lt_of_le (ho.lt i b hb) h4
  · intro i j b hi hj
    split at hi <;> split at hj
    · omega
    · rename_i e1 e2
      rcases hd1 b hi with h5 | h5
      · exact absurd (ho.one j q b hj h5) e2
      · have := ho.lt j b hj; omega
    · rename_i e1 e2
      rcases hd1 b hj with h5 | h5
      · exact absurd (ho.one i q b hi h5) e1
      · have := ho.lt i b hi; omega
    · exact ho.one i j b hi hj
  · intro i B hB
    by_cases hi : i = q
    · subst hi
      rw [List.getElem?_set_self hql] at hB
      simp only [if_true]
      have : A' = B := by simpa using hB
      exact this ▸ hd4
    · rw [List.getElem?_set_ne (fun e => hi e.symm)] at hB
      simp only [if_neg hi]
      rw [cut_congr fun b hb => hd3 b (ho.lt i b hb) fun hb' => hi (ho.one i q b hb hb')]
      exact ho.sat i B hB
theorem St.push' {C : Ctx} {L : Hp} {w w' : World} (h : St C L w) {A : Asr} (h1 : w'.os = w.os) (h2 : w'.tape = w.tape) (h3 : w'.output = w.output) (h4 : w.heap.size ≤ w'.heap.size) (h5 : ∀ b, b < w.heap.size → w'.heap[b]? = w.heap[b]?)
    (hA : A (cut (fun b => w.heap.size ≤ b ∧ b < w'.heap.size) w')) : St C (L ++ [A]) w' := by
  obtain ⟨ow, ho⟩ := h.own
  have hfb : ∀ b, C.FB b → b < w.heap.size := fun b hb => by have := h.fb b hb; have := h.size; omega
  refine ⟨h1.trans h.os, h2.trans h.tape, h3.trans h.output, Nat.le_trans h.size h4, fun k hk => ?_, h.fb, fun i b => if i < L.length then ow i b else i = L.length ∧ w.heap.size ≤ b ∧ b < w'.heap.size, ?_, ?_, ?_, ?_⟩
  · rw [h5 k (hfb k hk)]; exact h.fixed k hk
  · intro i b hb hF
    split at hb
    · exact ho.free i b hb hF
    · have := hfb b hF; omega
  · intro i b hb
    split at hb
    · exact Nat.lt_of_lt_of_le (ho.lt i b hb) h4
    · exact hb.2.2
  · intro i j b hi hj
    split at hi <;> split at hj
    · exact ho.one i j b hi hj
    · have := ho.lt i b hi; omega
    · have := ho.lt j b hj; omega
    · omega
  · intro i B hB
    by_cases hi : i < L.length
    · rw [List.getElem?_append_left hi] at hB
      simp only [if_pos hi]
      rw [cut_congr fun b hb => h5 b (ho.lt i b hb)]
      exact ho.sat i B hB
    · rw [List.getElem?_append_right (by omega)] at hB
      have hi0 : i - L.length = 0 := by
        have := (List.getElem?_eq_some_iff.1 hB).1
        simp at this
        omega
      rw [hi0] at hB
      have hB' : A = B := by simpa using hB
      subst hB'
      have : (fun b => if i < L.length then ow i b else i = L.length ∧ w.heap.size ≤ b ∧ b < w'.heap.size) = fun b => w.heap.size ≤ b ∧ b < w'.heap.size := by
        funext b
        rw [if_neg hi]
        simp [show i = L.length by omega]
      rw [this]
      exact hA
theorem St.push {C : Ctx} {L : Hp} {w : World} (h : St C L w) (o : Obj) : St C (L ++ [blk w.heap.size o]) { w with heap := w.heap.push o } :=
  h.push' rfl rfl rfl (by simp) (fun b hb => by simp only [Array.getElem?_push]; rw [if_neg (by omega)]) (cut_of (by simp) (by simp))
/-- A new block. -/
theorem S_new {op : Op} {d : Nat} {ob : Obj} (hg : wantedE ops E g = some true) (hd : Nat.blt d C.n = true)
    (hv : ∀ a w, Rel C.n E a → St C L w → (execOp a.eval ⟨some d, op, ty, pos, af, g⟩).run C.P w = .ok (.value (.pointer (some ⟨w.heap.size, 0, none⟩))) { w with heap := w.heap.push ob })
    (h : ∀ b, S C ops rest k ((d, .pointer (some ⟨b, 0, none⟩)) :: E) (L ++ [blk b ob])) : S C ops (⟨some d, op, ty, pos, af, g⟩ :: rest) k E L := by
  refine ⟨fun a w hr hs => ?_⟩
  unfold wpList
  rw [wantedE_spec hr (o := ⟨some d, op, ty, pos, af, g⟩) hg, if_pos rfl]
  refine .inl ?_
  unfold Oper.wp
  rw [hv a w hr hs]
  exact (h w.heap.size).out _ _ (hr.put (by simpa using hd) _) (hs.push ob)
theorem S_alloc {v : Value} {d : Nat} (hz : zeroOf C.P t = some v) (hg : wantedE ops E g = some true) (hd : Nat.blt d C.n = true)
    (h : ∀ b, S C ops rest k ((d, .pointer (some ⟨b, 0, none⟩)) :: E) (L ++ [blk b (.cells v.cells t)])) : S C ops (⟨some d, .alloc t, ty, pos, af, g⟩ :: rest) k E L :=
  S_new hg hd (fun a w _ _ => by simp [execOp, Instr.alloc, run_zeroValue hz, newVar, newRow]) h
theorem S_box {v : Value} {d : Nat} (hx : ev E x = some v) (hg : wantedE ops E g = some true) (hd : Nat.blt d C.n = true)
    (h : ∀ b, S C ops rest k ((d, .pointer (some ⟨b, 0, none⟩)) :: E) (L ++ [blk b (.cells v.cells t)])) : S C ops (⟨some d, .box t x, ty, pos, af, g⟩ :: rest) k E L :=
  S_new hg hd (fun a w hr _ => by simp [execOp, hr.eval hx, Instr.box, newVar, newRow]) h
/-- .. of integers. -/
theorem S_allocA {cs : Array Value} {d : Nat} (hz : zeroOf C.P t = some (.agg cs)) (hg : wantedE ops E g = some true) (hd : Nat.blt d C.n = true)
    (h : ∀ b, S C ops rest k ((d, .pointer (some ⟨b, 0, none⟩)) :: E) (L ++ [blk b (.cells cs t)])) : S C ops (⟨some d, .alloc t, ty, pos, af, g⟩ :: rest) k E L :=
  S_alloc hz hg hd h
theorem S_boxA {cs : Array Value} {d : Nat} (hx : ev E x = some (.agg cs)) (hg : wantedE ops E g = some true) (hd : Nat.blt d C.n = true)
    (h : ∀ b, S C ops rest k ((d, .pointer (some ⟨b, 0, none⟩)) :: E) (L ++ [blk b (.cells cs t)])) : S C ops (⟨some d, .box t x, ty, pos, af, g⟩ :: rest) k E L :=
  S_box hx hg hd h
theorem St.setRow {C : Ctx} {L : Hp} {w : World} (h : St C L w) {q : Nat} {cs cs' : Array Value} {fz : Nat × Nat} (hq : L[q]? = some (blk b (.cells cs e fz))) : St C (L.set q (blk b (.cells cs' e fz))) (w.setRow b cs') :=
  h.upd hq rfl rfl rfl (by simp) fun D hD hl => by
    have hb := cut_in hD
    exact ⟨D, fun _ h => .inl h, fun b hb => by simpa using hl b hb, fun b' _ hn => setRow_other _ _ _ _ (fun e => hn (e ▸ hb.1)), cut_of hb.1 (setRow_heap w b cs cs' e fz hb.2)⟩
/-- An operation that turns an owned block and yields nothing. -/
theorem S_set (q : Nat) {o : Oper} {cs cs' : Array Value} {fz : Nat × Nat} (hg : wantedE ops E o.guard = some true) (hd : o.dst = none)
    (hq : L[q]? = some (blk b (.cells cs e fz)))
    (hv : ∀ a w, Rel C.n E a → St C L w → w.heap[b]? = some (.cells cs e fz) → (execOp a.eval o).run C.P w = .ok .skip (w.setRow b cs'))
    (h : S C ops rest k E (L.set q (blk b (.cells cs' e fz)))) : S C ops (o :: rest) k E L := by
  refine ⟨fun a w hr hs => ?_⟩
  unfold wpList
  rw [wantedE_spec hr hg, if_pos rfl]
  refine .inl ?_
  unfold Oper.wp
  rw [hv a w hr hs (hs.known hq)]
  simp only [Oper.upon, hd, Act.put]
  exact h.out _ _ hr (hs.setRow hq)
theorem run_store1' {v : Value} {cs cs' : Array Value} (ht : szOf C.P t = some 1) (hx : ev E x = some (.pointer (some ⟨b, off, none⟩))) (hy : ev E y = some v) (h1 : v.oneCell' = true)
    (ho : off < cs.size) (hcs : cs.setIfInBounds off v = cs') : ∀ a w, Rel C.n E a → w.heap[b]? = some (.cells cs e (0, 0)) → (execOp a.eval ⟨none, .store t x y, ty, pos, af, g⟩).run C.P w = .ok .skip (w.setRow b cs') := by
  intro a w hr hb
  have hc : v.cells = #[v] := by cases v <;> simp_all [Value.oneCell', Value.cells]
  have hcell : w.cell? ⟨b, off, none⟩ = some cs[off] := by simp [World.cell?, hb, ho]
  have hfro : w.frozen? ⟨b, off, none⟩ = false := by simp [World.frozen?, hb]
  have hst : (store ((⟨b, off, none⟩ : Addr).add 0) v).run C.P w = .ok () (w.setRow b cs') := by
    rw [addr_add, Nat.add_zero, run_store C.P w _ v _ h1, hcell]
    simp [hfro, setCell_eq_setRow w b off cs e (0, 0) v hb, hcs]
  simp [execOp, hr.eval hx, hr.eval hy, Instr.storeAt, Instr.sureAddr, storeVar, hc, run_sizeOf ht, storeCells, hst]
theorem run_storeA' {cs cs' : Array Value} (ht : szOf C.P t = some cs'.size) (hx : ev E x = some (.pointer (some ⟨b, 0, none⟩))) (hy : ev E y = some (.agg cs'))
    (h1 : cs'.all (·.oneCell') = true) (hz : cs.size = cs'.size) : ∀ a w, Rel C.n E a → w.heap[b]? = some (.cells cs e (0, 0)) → (execOp a.eval ⟨none, .store t x y, ty, pos, af, g⟩).run C.P w = .ok .skip (w.setRow b cs') := by
  intro a w hr hb
  have := run_storeVar_row (P := C.P) w b e t cs cs' hb ht hz h1
  simp [execOp, hr.eval hx, hr.eval hy, Instr.storeAt, Instr.sureAddr, this]
theorem run_store1 {v : Value} {cs cs' : Array Value} (ht : szOf C.P t = some 1) (hx : ev E x = some (.pointer (some ⟨b, off, none⟩))) (hy : ev E y = some v) (h1 : v.oneCell' = true)
    (ho : off < cs.size) (hcs : cs.setIfInBounds off v = cs') : ∀ a w, Rel C.n E a → St C L w → w.heap[b]? = some (.cells cs e (0, 0)) → (execOp a.eval ⟨none, .store t x y, ty, pos, af, g⟩).run C.P w = .ok .skip (w.setRow b cs') :=
  fun a w hr _ => run_store1' ht hx hy h1 ho hcs a w hr
theorem run_storeA {cs cs' : Array Value} (ht : szOf C.P t = some cs'.size) (hx : ev E x = some (.pointer (some ⟨b, 0, none⟩))) (hy : ev E y = some (.agg cs'))
    (h1 : cs'.all (·.oneCell') = true) (hz : cs.size = cs'.size) : ∀ a w, Rel C.n E a → St C L w → w.heap[b]? = some (.cells cs e (0, 0)) → (execOp a.eval ⟨none, .store t x y, ty, pos, af, g⟩).run C.P w = .ok .skip (w.setRow b cs') :=
  fun a w hr _ => run_storeA' ht hx hy h1 hz a w hr
/-- A store into a cell. -/
theorem S_store1 (q : Nat) {v : Value} {cs cs' : Array Value} (ht : szOf C.P t = some 1) (hx : ev E x = some (.pointer (some ⟨b, off, none⟩))) (hy : ev E y = some v) (h1 : v.oneCell' = true)
    (hq : L[q]? = some (blk b (.cells cs e (0, 0)))) (ho : off < cs.size) (hcs : cs.setIfInBounds off v = cs') (hg : wantedE ops E g = some true)
    (h : S C ops rest k E (L.set q (blk b (.cells cs' e (0, 0))))) : S C ops (⟨none, .store t x y, ty, pos, af, g⟩ :: rest) k E L :=
  S_set q hg rfl hq (run_store1 ht hx hy h1 ho hcs) h
/-- A store of a whole block. -/
theorem S_storeA (q : Nat) {cs cs' : Array Value} (ht : szOf C.P t = some cs'.size) (hx : ev E x = some (.pointer (some ⟨b, 0, none⟩))) (hy : ev E y = some (.agg cs'))
    (h1 : cs'.all (·.oneCell') = true) (hq : L[q]? = some (blk b (.cells cs e (0, 0)))) (hz : cs.size = cs'.size) (hg : wantedE ops E g = some true)
    (h : S C ops rest k E (L.set q (blk b (.cells cs' e (0, 0))))) : S C ops (⟨none, .store t x y, ty, pos, af, g⟩ :: rest) k E L :=
  S_set q hg rfl hq (run_storeA ht hx hy h1 hz) h
end
/-! ### calls -/
/-- Blocks of FB are as they were. -/
structure Kept (FB : Nat → Prop) (w w' : World) : Prop where
  os : w'.os = w.os
  tape : w'.tape = w.tape
  output : w'.output = w.output
  size : w.heap.size ≤ w'.heap.size
  block : ∀ k, FB k → w'.heap[k]? = w.heap[k]?
/-- The call returns; the blocks of FB are as they were; R of the value and of what is owned then. -/
def FnW (P : Program) (f : FuncId) (args : Array Value) (w : World) (FB : Nat → Prop) (R : Value → Hp → Prop) : Prop :=
  Calls P f args w fun e w' => ∃ v N ow, e = .returned v ∧ Kept FB w w' ∧ Own FB N w' ow ∧ R v N
/-- The call returns; what was there is as it was; R of the value and of the new blocks that one wants to know of. -/
def Fn (P : Program) (f : FuncId) (args : Array Value) (w : World) (R : Value → Hp → Prop) : Prop := FnW P f args w (· < w.heap.size) R
theorem Fn.out {P : Program} {f : FuncId} {args : Array Value} {w : World} {R : Value → Hp → Prop} (h : Fn P f args w R) : Calls P f args w fun e w' => ∃ v N, e = .returned v ∧ Below w.heap.size w w' ∧ R v N :=
  Calls.mono h fun _ _ ⟨v, N, _, he, hk, _, hR⟩ => ⟨v, N, he, ⟨hk.os, hk.tape, hk.output, hk.size, hk.block⟩, hR⟩
/-- The function has a text of its own. -/
def hasBody (P : Program) (f : FuncId) : Bool :=
  match P.funcs[f]? with
  | some fn => fn.body.isSome && !(fn.name == "runtime.NumGoroutine")
  | none => false
theorem run_callFunc {P : Program} {f : FuncId} (h : hasBody P f = true) (args : Array Value) (w : World) : (callFunc f args).run P w = .ok (.enter f args) w := by
  unfold hasBody at h
  unfold callFunc
  cases hf : P.funcs[f]? with
  | none => simp [hf] at h
  | some fn =>
    simp [hf] at h
    have hb : fn.body ≠ none := by
      intro hh
      simp [hh] at h
    simp [hf, hb, h.2]
def evs (E : Env) : List Operand → Option (List Value)
  | [] => some []
  | x :: xs => match ev E x, evs E xs with
    | some v, some vs => some (v :: vs)
    | _, _ => none
theorem evs_spec {n : Nat} {E : Env} {a : Act} (hr : Rel n E a) : ∀ {xs : List Operand} {vs : List Value}, evs E xs = some vs → xs.map a.eval = vs
  | [], vs, h => by simp [evs] at h; simp [h]
  | x :: xs, vs, h => by
    simp only [evs] at h
    split at h
    · rename_i v us hv hus
      simp at h
      subst h
      simp [hr.eval hv, evs_spec hr hus]
    · cases h
theorem Own.mono {FB FB' : Nat → Prop} {L : Hp} {w : World} {ow : Nat → Nat → Prop} (h : Own FB L w ow) (hF : ∀ b, FB' b → FB b) : Own FB' L w ow :=
  ⟨fun i b hb hf => h.free i b hb (hF b hf), h.lt, h.one, h.sat⟩
/-- Behind a call that was handed A. -/
theorem St.callS {C : Ctx} {L A M : Hp} {w : World} (h : St C L w) (he : Emb (A ++ M) L) : ∃ FB, (∀ b, FB b → b < w.heap.size) ∧ (∃ ow, Own FB A w ow) ∧
    ∀ (N : Hp) (w' : World) (ow' : Nat → Nat → Prop), Kept FB w w' → Own FB N w' ow' → St C (M ++ N) w' := by
  obtain ⟨ow, ho⟩ := (h.emb he).own
  have hfb : ∀ b, C.FB b → b < w.heap.size := fun b hb => by have := h.fb b hb; have := h.size; omega
  refine ⟨fun b => b < w.heap.size ∧ ¬ ∃ i, i < A.length ∧ ow i b, fun b hb => hb.1, ⟨fun i b => i < A.length ∧ ow i b, ?_, ?_, ?_, ?_⟩, ?_⟩
  · exact fun i b hb hf => hf.2 ⟨i, hb⟩
  · exact fun i b hb => ho.lt i b hb.2
  · exact fun i j b hi hj => ho.one i j b hi.2 hj.2
  · intro i B hB
    have hi := (List.getElem?_eq_some_iff.1 hB).1
    have := ho.sat i B (by rw [List.getElem?_append_left hi]; exact hB)
    have e : (fun b => i < A.length ∧ ow i b) = ow i := by funext b; simp [hi]
    rw [e]; exact this
  · intro N w' ow' hk hn
    have hM : ∀ i b, ow (A.length + i) b → b < w.heap.size ∧ ¬ ∃ j, j < A.length ∧ ow j b := fun i b hb => ⟨ho.lt _ b hb, fun ⟨j, hj, hjb⟩ => by have := ho.one _ _ b hb hjb; omega⟩
    have hF : ∀ b, C.FB b → b < w.heap.size ∧ ¬ ∃ j, j < A.length ∧ ow j b := fun b hb => ⟨hfb b hb, fun ⟨j, hj, hjb⟩ => ho.free j b hjb hb⟩
    refine ⟨hk.os.trans h.os, hk.tape.trans h.tape, hk.output.trans h.output, Nat.le_trans h.size hk.size, fun k hkf => by rw [hk.block k (hF k hkf)]; exact h.fixed k hkf, h.fb,
      fun i b => if i < M.length then ow (A.length + i) b else ow' (i - M.length) b, ?_, ?_, ?_, ?_⟩
    · intro i b hb hf
      split at hb
      · exact ho.free _ b hb hf
      · exact hn.free _ b hb (hF b hf)
    · intro i b hb
      split at hb
      · exact Nat.lt_of_lt_of_le (ho.lt _ b hb) hk.size
      · exact hn.lt _ b hb
    · intro i j b hi hj
      split at hi <;> split at hj
      · have := ho.one _ _ b hi hj; omega
      · exact absurd (hM _ b hi) (hn.free _ b hj)
      · exact absurd (hM _ b hj) (hn.free _ b hi)
      · have := hn.one _ _ b hi hj; omega
    · intro i B hB
      by_cases hi : i < M.length
      · rw [List.getElem?_append_left hi] at hB
        simp only [if_pos hi]
        rw [cut_congr fun b hb => hk.block b (hM i b hb)]
        exact ho.sat _ B (by rw [List.getElem?_append_right (by omega), Nat.add_sub_cancel_left]; exact hB)
      · rw [List.getElem?_append_right (by omega)] at hB
        simp only [if_neg hi]
        exact hn.sat _ B hB
theorem St.call {C : Ctx} {L N : Hp} {w w' : World} {ow : Nat → Nat → Prop} (h : St C L w) (hb : Kept (· < w.heap.size) w w') (hN : Own (· < w.heap.size) N w' ow) : St C (L ++ N) w' := by
  obtain ⟨FB, h1, _, h3⟩ := h.callS (A := []) (M := L) (Emb.refl L)
  exact h3 N w' ow ⟨hb.os, hb.tape, hb.output, hb.size, fun k hk => hb.block k (h1 k hk)⟩ (hN.mono h1)
section
variable {C : Ctx} {k : K} {E : Env} {L : Hp} {ops : Array Oper} {rest : List Oper} {dst : Option Tmp} {ty : TypeId} {pos : String} {af : Array Edge} {g : Option (Nat × Bool)}
theorem run_call {n : Nat} {E : Env} {a : Act} (hr : Rel n E a) {P : Program} {fo : Operand} {f : FuncId} {aS : List Operand} {vs : List Value} {ats : Array TypeId} {w : World} (hf : ev E fo = some (.func (.func f) #[] #[])) (ha : evs E aS = some vs) (hb : hasBody P f = true) :
    (execOp a.eval ⟨dst, .call ⟨.value fo, aS.toArray, ats⟩, ty, pos, af, g⟩).run P w = .ok (.enter f vs.toArray) w := by
  have h1 : aS.toArray.map a.eval = vs.toArray := by rw [List.map_toArray, evs_spec hr ha]
  simp [execOp, resolve, hr.eval hf, Deferred.ofValue, invoke, evs_spec hr ha, run_callFunc hb]
/-- A call. -/
theorem S_call {d : Nat} {fo : Operand} {f : FuncId} {aS : List Operand} {vs : List Value} {ats : Array TypeId} (R : Value → Hp → Prop) (hf : ev E fo = some (.func (.func f) #[] #[])) (ha : evs E aS = some vs) (hb : hasBody C.P f = true)
    (hc : ∀ w, St C L w → Fn C.P f vs.toArray w R) (hg : wantedE ops E g = some true) (hd : Nat.blt d C.n = true)
    (h : ∀ v N, R v N → S C ops rest k ((d, v) :: E) (L ++ N)) : S C ops (⟨some d, .call ⟨.value fo, aS.toArray, ats⟩, ty, pos, af, g⟩ :: rest) k E L := by
  refine ⟨fun a w hr hs => ?_⟩
  unfold wpList
  rw [wantedE_spec hr (o := ⟨some d, .call ⟨.value fo, aS.toArray, ats⟩, ty, pos, af, g⟩) hg, if_pos rfl]
  refine .inl ?_
  unfold Oper.wp
  rw [run_call hr hf ha hb]
  refine (hc w hs).mono ?_
  rintro e w' ⟨v, N, ow, rfl, hk, hN, hR⟩
  exact (h v N hR).out _ _ (hr.put (by simpa using hd) v) (hs.call hk hN)
/-- A call of which only the value is told. -/
theorem S_callV {d : Nat} {fo : Operand} {f : FuncId} {aS : List Operand} {vs : List Value} {ats : Array TypeId} {v : Value} (hf : ev E fo = some (.func (.func f) #[] #[])) (ha : evs E aS = some vs) (hb : hasBody C.P f = true)
    (hc : ∀ w, St C L w → Fn C.P f vs.toArray w fun u N => u = v ∧ N = []) (hg : wantedE ops E g = some true) (hd : Nat.blt d C.n = true)
    (h : S C ops rest k ((d, v) :: E) L) : S C ops (⟨some d, .call ⟨.value fo, aS.toArray, ats⟩, ty, pos, af, g⟩ :: rest) k E L :=
  S_call _ hf ha hb hc hg hd (by rintro v N ⟨rfl, rfl⟩; rw [List.append_nil]; exact h)
/-- A call that no text of the program answers: the model's own answer. -/
theorem Y_ext {fo : Operand} {f : FuncId} {aS : List Operand} {vs : List Value} {ats : Array TypeId} {v : Value} (hf : ev E fo = some (.func (.func f) #[] #[])) (ha : evs E aS = some vs)
    (hc : ∀ w, (callFunc f vs.toArray).run C.P w = .ok (.value v) w) : Yv C E L ⟨dst, .call ⟨.value fo, aS.toArray, ats⟩, ty, pos, af, g⟩ v := by
  refine ⟨fun a w hr _ => ?_⟩
  have h1 : aS.toArray.map a.eval = vs.toArray := by rw [List.map_toArray, evs_spec hr ha]
  simp [execOp, resolve, hr.eval hf, Deferred.ofValue, invoke, evs_spec hr ha, hc]
end
/-! ### a function -/
/-- A result. -/
inductive Res1 (P : Program) (E : Env) (L : Hp) : ResultVar → Value → Prop
  | tmp {t : Tmp} {v : Value} (h : E.get t = some v) : Res1 P E L (.tmp t) v
  | agg (q : Nat) {a : Tmp} {t : TypeId} {b : Nat} {d : TypeDesc} {cs : Array Value} {e : TypeId} {fz : Nat × Nat} (ha : E.get a = some (.pointer (some ⟨b, 0, none⟩))) (ht : P.underlying t = some d) (hd : (match d with | .struct _ | .array _ _ => true | _ => false) = true)
      (hq : L[q]? = some (blk b (.cells cs e fz))) (hz : szOf P t = some cs.size) : Res1 P E L (.cell a t) (.agg cs)
  | one (q : Nat) {a : Tmp} {t : TypeId} {b : Nat} {d : TypeDesc} {v : Value} {cs : Array Value} {e : TypeId} {fz : Nat × Nat} (ha : E.get a = some (.pointer (some ⟨b, 0, none⟩))) (ht : P.underlying t = some d) (hd : isAggB d = false)
      (hq : L[q]? = some (blk b (.cells cs e fz))) (hz : cs[0]? = some v) : Res1 P E L (.cell a t) v
inductive Ress (P : Program) (E : Env) (L : Hp) : List ResultVar → List Value → Prop
  | nil : Ress P E L [] []
  | cons {r : ResultVar} {rs : List ResultVar} {v : Value} {vs : List Value} (h : Res1 P E L r v) (hs : Ress P E L rs vs) : Ress P E L (r :: rs) (v :: vs)
def retOf : List Value → Value
  | [v] => v
  | vs => .tuple vs.toArray
def resSem (tmps : Array Value) : ResultVar → Sem Value
  | .tmp t => pure (tmps.getD t undef)
  | .cell a t => do loadVar t (← asAddr (tmps.getD a undef))
theorem Res1.run {C : Ctx} {E : Env} {L : Hp} {r : ResultVar} {v : Value} (h : Res1 C.P E L r v) {a : Act} {w : World} (hr : Rel C.n E a) (hs : St C L w) :
    (resSem a.tmps r).run C.P w = .ok v w := by
  cases h with
  | tmp h => simp [resSem, hr.get _ _ h]
  | agg q ha ht hd hq hz =>
    have hw := hs.known hq
    have := run_loadVar_row (P := C.P) w _ _ _ _ _ _ hw ht hd hz
    simp [resSem, hr.get _ _ ha, asAddr, this]
  | one q ha ht hd hq hz =>
    have := hs.cell (off := 0) hq
    rw [hz] at this
    simp [resSem, hr.get _ _ ha, asAddr, loadVar, run_isAgg ht, hd, this]
theorem Ress.run {C : Ctx} {E : Env} {L : Hp} {a : Act} {w : World} (hr : Rel C.n E a) (hs : St C L w) : ∀ {rs : List ResultVar} {vs : List Value}, Ress C.P E L rs vs →
    (rs.mapM (resSem a.tmps)).run C.P w = .ok vs w
  | _, _, .nil => by simp
  | _, _, .cons h hs' => by
    have h1 := h.run hr hs
    have h2 := Ress.run hr hs hs'
    rw [List.mapM_cons, Sem.run_bind, h1]
    simp only [Result.andThen_ok]
    rw [Sem.run_bind, h2]
    rfl
theorem results_run {C : Ctx} {E : Env} {L : Hp} {a : Act} {w : World} (hr : Rel C.n E a) (hs : St C L w) {fn : Func} {rs : List ResultVar} (hrs : fn.results = rs.toArray) {vs : List Value} (h : Ress C.P E L rs vs) :
    (results fn a.tmps).run C.P w = .ok (retOf vs) w := by
  have h0 : results fn a.tmps = (do let vs ← fn.results.mapM (resSem a.tmps); pure (if h : vs.size = 1 then vs[0] else .tuple vs)) := by
    have : (fun r : ResultVar => (match r with | .tmp t => pure (a.tmps.getD t undef) | .cell b t => do loadVar t (← asAddr (a.tmps.getD b undef)) : Sem Value)) = resSem a.tmps := by
      funext r
      cases r <;> rfl
    unfold results
    rw [← this]
    rfl
  rw [h0, hrs, Sem.run_bind]
  have := Ress.run hr hs h
  rw [show (rs.toArray.mapM (resSem a.tmps)) = List.toArray <$> (rs.mapM (resSem a.tmps)) by simp]
  rw [Sem.run_map, this]
  simp only [Result.andThen_ok, Sem.run_pure]
  congr 1
  match vs with
  | [] => rfl
  | [v] => rfl
  | v :: u :: vs => simp [retOf]
def argsEnv : Nat → List Value → Env
  | _, [] => []
  | i, v :: vs => (i, v) :: argsEnv (i + 1) vs
theorem argsEnv_get : ∀ (i : Nat) (vs : List Value) (d : Nat) (v : Value), (argsEnv i vs).get d = some v → i ≤ d ∧ vs[d - i]? = some v
  | _, [], _, _, h => by cases h
  | i, u :: vs, d, v, h => by
    simp only [argsEnv, Env.get] at h
    cases hb : Nat.beq i d with
    | true =>
      rw [hb] at h
      have := Nat.eq_of_beq_eq_true hb
      subst this
      simp at h
      simp [h]
    | false =>
      rw [hb] at h
      have hne : i ≠ d := by rintro rfl; simp at hb
      have := argsEnv_get (i + 1) vs d v h
      refine ⟨by omega, ?_⟩
      rw [show d - i = (d - (i + 1)) + 1 by omega]
      simpa using this.2
/-- The world in which a call begins. -/
def ctxW (P : Program) (n : Nat) (w : World) (FB : Nat → Prop) : Ctx := ⟨P, n, FB, w⟩
/-- .. that only makes new blocks. -/
def ctx (P : Program) (n : Nat) (w : World) : Ctx := ⟨P, n, (· < w.heap.size), w⟩
theorem St.startW (P : Program) (n : Nat) (w : World) {FB : Nat → Prop} {A : Hp} {ow : Nat → Nat → Prop} (hf : ∀ b, FB b → b < w.heap.size) (h : Own FB A w ow) : St (ctxW P n w FB) A w :=
  ⟨rfl, rfl, rfl, Nat.le_refl _, fun _ _ => rfl, hf, ow, h⟩
theorem St.keptW {P : Program} {n : Nat} {w w' : World} {FB : Nat → Prop} {L : Hp} (h : St (ctxW P n w FB) L w') : Kept FB w w' :=
  ⟨h.os, h.tape, h.output, h.size, fun k hk => h.fixed k hk⟩
/-- What is asked at a function's end. -/
def Done (P : Program) (rs : List ResultVar) (R : Value → Hp → Prop) (E : Env) (L : Hp) : Prop :=
  ∃ vs N, Ress P E L rs vs ∧ Emb N L ∧ R (retOf vs) N
theorem FnW_of {P : Program} {f : FuncId} {fn : Func} {c : Code} {rs : List ResultVar} {n : Nat} {args : List Value} {w : World} {R : Value → Hp → Prop} {FB : Nat → Prop} {A : Hp} {ow : Nat → Nat → Prop}
    (hf : P.funcs[f]? = some fn) (hb : fn.body = some c) (hn : fn.ntmps = n) (hrs : fn.results = rs.toArray) (hargs : args.length ≤ n) (hFB : ∀ b, FB b → b < w.heap.size) (hA : Own FB A w ow)
    (h : T (ctxW P n w FB) c (.fin (Done P rs R)) (argsEnv 0 args) A) : FnW P f args.toArray w FB R := by
  refine calls_of_wp hf hb ?_
  rw [hn]
  have hrel : Rel n (argsEnv 0 args) { tmps := args.toArray ++ Array.replicate (n - args.toArray.size) undef, defers := [] } := by
    refine ⟨by simp; omega, rfl, fun d v hd => ?_⟩
    have := (argsEnv_get 0 args d v hd).2
    simp only [Nat.sub_zero] at this
    have hlt : d < args.length := (List.getElem?_eq_some_iff.1 this).1
    rw [Array.getElem?_append_left (by simpa using hlt)]
    simpa using this
  refine wp_mono (h.out.out _ w hrel (St.startW P n w hFB hA)) ?_
  rintro ex a w' ⟨E, L, hr, hs, hq⟩
  have key : Done P rs R E L → a.defers = [] ∧ ∃ v, (results fn a.tmps).run P w' = .ok v w' ∧ ∃ v' N ow, Ending.returned v = .returned v' ∧ Kept FB w w' ∧ Own FB N w' ow ∧ R v' N := by
    rintro ⟨vs, N, h1, h2, h3⟩
    obtain ⟨ow', ho⟩ := (hs.emb h2).own
    exact ⟨hr.defers, _, results_run (C := ctxW P n w FB) hr hs hrs h1, _, N, ow', rfl, hs.keptW, ho, h3⟩
  cases ex with
  | normal => exact key hq
  | ret => exact key hq
  | _ => exact (hq : False).elim
theorem Fn_of {P : Program} {f : FuncId} {fn : Func} {c : Code} {rs : List ResultVar} {n : Nat} {args : List Value} {w : World} {R : Value → Hp → Prop}
    (hf : P.funcs[f]? = some fn) (hb : fn.body = some c) (hn : fn.ntmps = n) (hrs : fn.results = rs.toArray) (hargs : args.length ≤ n)
    (h : T (ctx P n w) c (.fin (Done P rs R)) (argsEnv 0 args) []) : Fn P f args.toArray w R :=
  FnW_of hf hb hn hrs hargs (fun _ h => h) (A := []) (ow := fun _ _ => False) ⟨fun _ _ h => h.elim, fun _ _ h => h.elim, fun _ _ _ h => h.elim, fun i A h => by simp at h⟩ h
/-! ### rows of integers -/
def ints (k : IntKind) (l : List Int) : Array Value := (l.map (Value.int k)).toArray
@[simp] theorem ints_size (k : IntKind) (l : List Int) : (ints k l).size = l.length := by simp [ints]
theorem ints_get (k : IntKind) (l : List Int) (i : Nat) : (ints k l)[i]? = (l[i]?).map (Value.int k) := by simp [ints]
theorem ints_set (k : IntKind) (l : List Int) (i : Nat) (v : Int) : (ints k l).setIfInBounds i (.int k v) = ints k (l.set i v) := by
  apply Array.ext_getElem?
  intro j
  simp only [ints, Array.getElem?_setIfInBounds, List.getElem?_toArray, List.size_toArray, List.length_map, List.getElem?_map, List.getElem?_set]
  by_cases h : i = j
  · subst h
    by_cases h2 : i < l.length <;> simp [h2]
  · simp [h]
theorem ints_one (k : IntKind) (l : List Int) : (ints k l).all (·.oneCell') = true := by
  rw [Array.all_eq_true_iff_forall_mem]
  intro v hv
  simp only [ints, List.mem_toArray, List.mem_map] at hv
  obtain ⟨p, _, rfl⟩ := hv
  rfl
def fillI (l : List Int) : List (Nat × Int) → List Int
  | [] => l
  | (i, p) :: ps => fillI (l.set i p) ps
@[simp] theorem fillI_length : ∀ (ps : List (Nat × Int)) (l : List Int), (fillI l ps).length = l.length
  | [], _ => rfl
  | p :: ps, l => by rw [fillI, fillI_length ps]; simp
theorem fill_ints (k : IntKind) : ∀ (ps : List (Nat × Int)) (l : List Int), ps.all (fun p => Nat.blt p.1 l.length) = true →
    Instr.fill (fun i => some (i * 1, 1)) (ints k l) (ps.map fun p => (p.1, .int k p.2)) = some (ints k (fillI l ps))
  | [], l, _ => rfl
  | (i, p) :: ps, l, h => by
    simp only [List.all_cons, Bool.and_eq_true] at h
    have h1 : i < l.length := by simpa using h.1
    have ih := fill_ints k ps (l.set i p) (by simpa using h.2)
    have h2 : ¬ (l.length < i + 1) := by omega
    simp only [List.map_cons, Instr.fill, Value.cells]
    simp [ints_set, h2, fillI]
    simpa using ih
def partsI (k : IntKind) (E : Env) : List (Nat × Operand) → Option (List (Nat × Int))
  | [] => some []
  | (i, x) :: xs => match ev E x, partsI k E xs with
    | some (.int k' p), some ps => bif k' == k then some ((i, p) :: ps) else none
    | _, _ => none
instance : LawfulBEq IntKind := inferInstance
theorem partsI_spec {n : Nat} {k : IntKind} {E : Env} {a : Act} (hr : Rel n E a) : ∀ {xs : List (Nat × Operand)} {ps : List (Nat × Int)}, partsI k E xs = some ps →
    (xs.map fun (i, x) => (i, a.eval x)) = ps.map fun p => (p.1, .int k p.2)
  | [], ps, h => by simp [partsI] at h; simp [h]
  | (i, x) :: xs, ps, h => by
    simp only [partsI] at h
    split at h
    · rename_i k' p qs hv hqs
      cases hk : k' == k with
      | false => simp [hk] at h
      | true =>
        simp only [hk, cond_true, Option.some.injEq] at h
        have : k' = k := by simpa using hk
        subst this
        subst h
        simp [hr.eval hv, partsI_spec hr hqs]
    · cases h
section
variable {C : Ctx} {E : Env} {L : Hp} {dst : Option Tmp} {ty : TypeId} {pos : String} {af : Array Edge} {g : Option (Nat × Bool)}
variable {x y : Operand} {t e : TypeId} {b off n : Nat} {k : IntKind} {l : List Int} {p : Int} {fz : Nat × Nat}
/-- An array of integers, written out. -/
theorem Y_build {parts : List (Nat × Operand)} {ps : List (Nat × Int)} (ht : C.P.underlying t = some (.array n e)) (he : szOf C.P e = some 1) (hz : zeroOf C.P t = some (.agg (ints k l)))
    (hp : partsI k E parts = some ps) (ha : ps.all (fun p => Nat.blt p.1 l.length) = true) : Yv C E L ⟨dst, .build t parts.toArray, ty, pos, af, g⟩ (.agg (ints k (fillI l ps))) := by
  refine ⟨fun a w hr _ => ?_⟩
  have h1 : (parts.toArray.map fun (i, x) => (i, a.eval x)) = (ps.map fun p => (p.1, Value.int k p.2)).toArray := by
    rw [List.map_toArray, partsI_spec hr hp]
  have h2 := fill_ints k ps l ha
  simp only [execOp, h1, Instr.build, Sem.run_bind, run_zeroValue hz, Result.andThen_ok, run_underlying ht, run_sizeOf he, Value.cells, h2]
  rfl
/-- A cell of integers that are owned. -/
theorem Y_loadI (q : Nat) {d : TypeDesc} (ht : C.P.underlying t = some d) (hd : isAggB d = false) (hx : ev E x = some (.pointer (some ⟨b, off, none⟩)))
    (hq : L[q]? = some (blk b (.cells (ints k l) e fz))) (hv : l[off]? = some p) : Yv C E L ⟨dst, .load t x, ty, pos, af, g⟩ (.int k p) :=
  Y_load1 q ht hd hx hq (by rw [ints_get, hv]; rfl)
/-- All integers of a block that is owned. -/
theorem Y_loadAI (q : Nat) {d : TypeDesc} (ht : C.P.underlying t = some d) (hd : isAggB d = true) (hx : ev E x = some (.pointer (some ⟨b, 0, none⟩)))
    (hq : L[q]? = some (blk b (.cells (ints k l) e fz))) (hz : szOf C.P t = some n) (hl : l.length = n) : Yv C E L ⟨dst, .load t x, ty, pos, af, g⟩ (.agg (ints k l)) :=
  Y_loadA q ht hd hx hq (by rw [hz, ints_size, hl])
end
section
variable {C : Ctx} {k : K} {E : Env} {L : Hp} {ops : Array Oper} {rest : List Oper} {dst : Option Tmp} {ty : TypeId} {pos : String} {af : Array Edge} {g : Option (Nat × Bool)}
variable {x y : Operand} {t e : TypeId} {b off n : Nat} {kd : IntKind} {l m : List Int} {p : Int}
theorem S_storeI (q : Nat) (ht : szOf C.P t = some 1) (hx : ev E x = some (.pointer (some ⟨b, off, none⟩))) (hy : ev E y = some (.int kd p))
    (hq : L[q]? = some (blk b (.cells (ints kd l) e (0, 0)))) (ho : off < l.length) (hl : l.set off p = m) (hg : wantedE ops E g = some true)
    (h : S C ops rest k E (L.set q (blk b (.cells (ints kd m) e (0, 0))))) : S C ops (⟨none, .store t x y, ty, pos, af, g⟩ :: rest) k E L :=
  S_store1 q ht hx hy rfl hq (by simpa using ho) (by rw [ints_set, hl]) hg h
theorem S_storeAI (q : Nat) (ht : szOf C.P t = some n) (hx : ev E x = some (.pointer (some ⟨b, 0, none⟩))) (hy : ev E y = some (.agg (ints kd m)))
    (hq : L[q]? = some (blk b (.cells (ints kd l) e (0, 0)))) (hl : l.length = n) (hm : m.length = n) (hg : wantedE ops E g = some true)
    (h : S C ops rest k E (L.set q (blk b (.cells (ints kd m) e (0, 0))))) : S C ops (⟨none, .store t x y, ty, pos, af, g⟩ :: rest) k E L :=
  S_storeA q (by rw [ht, ints_size, hm]) hx hy (ints_one _ _) hq (by simp [hl, hm]) hg h
end
theorem win {k : IntKind} {z : Int} (h1 : k.min ≤ z) (h2 : z ≤ k.max) : k.wrap z = z := by
  cases k <;> simp [IntKind.min, IntKind.max, IntKind.wrap, IntKind.signed, IntKind.bits] at * <;> omega
theorem pw64 : 2 ^ IntKind.bits .u64 = 18446744073709551616 := rfl
theorem pw32 : 2 ^ IntKind.bits .u32 = 4294967296 := rfl
theorem x64 {m : Nat} (h : m < 18446744073709551616) : (m : Int) ≤ IntKind.max .u64 := by
  show (m : Int) ≤ 18446744073709551615
  omega
theorem xi64 {m : Nat} (h : m < 9223372036854775808) : (m : Int) ≤ IntKind.max .i64 := by
  show (m : Int) ≤ 9223372036854775807
  omega
theorem x8 {m : Nat} (h : m < 256) : (m : Int) ≤ IntKind.max .u8 := by
  show (m : Int) ≤ 255
  omega
theorem x32 {m : Nat} (h : m < 4294967296) : (m : Int) ≤ IntKind.max .u32 := by
  show (m : Int) ≤ 4294967295
  omega
theorem int_congr {k : IntKind} {a b : Int} (h : a = b) : Value.int k a = .int k b := by rw [h]
theorem wi64 {z : Int} (h1 : -9223372036854775808 ≤ z) (h2 : z ≤ 9223372036854775807) : IntKind.i64.wrap z = z := win h1 h2
theorem wu64 {z : Int} (h1 : 0 ≤ z) (h2 : z ≤ 18446744073709551615) : IntKind.u64.wrap z = z := win h1 h2
theorem wu32 {z : Int} (h1 : 0 ≤ z) (h2 : z ≤ 4294967295) : IntKind.u32.wrap z = z := win h1 h2
theorem wu8 {z : Int} (h1 : 0 ≤ z) (h2 : z ≤ 255) : IntKind.u8.wrap z = z := win h1 h2
theorem wu8n {n : Nat} : IntKind.u8.wrap ((n : Nat) : Int) = ((n % 256 : Nat) : Int) := rfl
theorem wu32n {n : Nat} : IntKind.u32.wrap ((n : Nat) : Int) = ((n % 4294967296 : Nat) : Int) := rfl
def tabGet {α : Type} (t : Nat) : List (Nat × α) → Option α
  | [] => none
  | (u, d) :: r => bif Nat.beq u t then some d else tabGet t r
theorem tabGet_mem {α : Type} {t : Nat} {d : α} : ∀ {r : List (Nat × α)}, tabGet t r = some d → (t, d) ∈ r
  | [], h => by cases h
  | (u, d') :: r, h => by
    simp only [tabGet] at h
    cases hb : Nat.beq u t with
    | true =>
      have := Nat.eq_of_beq_eq_true hb
      subst this
      simp at h
      subst h
      exact List.mem_cons_self
    | false => rw [hb] at h; exact List.mem_cons_of_mem _ (tabGet_mem h)
/-! ### arrays as values; slices -/
section
variable {C : Ctx} {E : Env} {L : Hp} {dst : Option Tmp} {ty : TypeId} {pos : String} {af : Array Edge} {g : Option (Nat × Bool)}
variable {x y : Operand} {t e : TypeId} {k kd : IntKind} {p q : Int} {n i len cap m : Nat} {l : List Int}
/-- A byte of a string. -/
theorem Y_indexS {s : ByteArray} {c : UInt8} (ht : C.P.underlying t = some .string) (hx : ev E x = some (.string s)) (hy : ev E y = some (.int k p)) (hp : IsNat p i) (hv : s[i]? = some c) :
    Yv C E L ⟨dst, .index t x y, ty, pos, af, g⟩ (.int .u8 c.toNat) := by
  refine ⟨fun a w h _ => ?_⟩
  have hp := hp.eq
  have h1 : 0 ≤ p := by omega
  have h2 : p.toNat = i := by omega
  simp [execOp, h.eval hx, h.eval hy, Instr.index, asIntOf, run_underlying ht, h1, h2, hv]
theorem Y_indexS' {s : ByteArray} {c : UInt8} (ht : C.P.underlying t = some .string) (hx : ev E x = some (.string s)) (hy : ev E y = some (.int k p)) (hp : IsNat p i) (hv : s[i]? = some c) (hc : c.toNat = m) :
    Yv C E L ⟨dst, .index t x y, ty, pos, af, g⟩ (.int .u8 (m : Int)) := hc ▸ Y_indexS ht hx hy hp hv
theorem run_builtin {n : Nat} {E : Env} {a : Act} (hr : Rel n E a) {P : Program} {b : Builtin} {aS : List Operand} {vs : List Value} {ats : Array TypeId} {w : World} (ha : evs E aS = some vs) :
    ∃ cs, (execOp a.eval ⟨dst, .call ⟨.builtin b, aS.toArray, ats⟩, ty, pos, af, g⟩).run P w = (builtin b ats ty cs vs.toArray).run P w := by
  constructor
  simp [execOp, resolve, invoke, evs_spec hr ha]
  rfl
theorem Y_len {b : Option Addr} {ats : Array TypeId} {es : TypeId} (h0 : ats[0]? = some t) (ht : C.P.underlying t = some (.slice es)) (hx : ev E x = some (.slice b n cap)) :
    Yv C E L ⟨dst, .call ⟨.builtin .len, #[x], ats⟩, ty, pos, af, g⟩ (.int .i64 n) := by
  refine ⟨fun a w h _ => ?_⟩
  obtain ⟨cs, hc⟩ := run_builtin (dst := dst) (ty := ty) (pos := pos) (af := af) (g := g) h (P := C.P) (b := .len) (aS := [x]) (ats := ats) (w := w) (vs := [.slice b n cap]) (by simp [evs, hx])
  rw [hc]
  simp [builtin, Builtin.len_, h0, run_underlying ht, goInt]
theorem Y_min {ats : Array TypeId} {m n : Nat} (hx : ev E x = some (.int k p)) (hy : ev E y = some (.int k q)) (hp : IsNat p m) (hq : IsNat q n) :
    Yv C E L ⟨dst, .call ⟨.builtin .min, #[x, y], ats⟩, ty, pos, af, g⟩ (.int k ((min m n : Nat) : Int)) := by
  refine ⟨fun a w h _ => ?_⟩
  have := hp.eq
  have := hq.eq
  subst p q
  obtain ⟨cs, hc⟩ := run_builtin (dst := dst) (ty := ty) (pos := pos) (af := af) (g := g) h (P := C.P) (b := .min) (aS := [x, y]) (ats := ats) (w := w) (vs := [.int k m, .int k n]) (by simp [evs, hx, hy])
  rw [hc]
  have : (if n < m then (n : Int) else m) = ((min m n : Nat) : Int) := by split <;> omega
  simp [builtin, Builtin.min_, Builtin.min2, this]
theorem Y_max {ats : Array TypeId} {m n : Nat} (hx : ev E x = some (.int k p)) (hy : ev E y = some (.int k q)) (hp : IsNat p m) (hq : IsNat q n) :
    Yv C E L ⟨dst, .call ⟨.builtin .max, #[x, y], ats⟩, ty, pos, af, g⟩ (.int k ((max m n : Nat) : Int)) := by
  refine ⟨fun a w h _ => ?_⟩
  have := hp.eq
  have := hq.eq
  subst p q
  obtain ⟨cs, hc⟩ := run_builtin (dst := dst) (ty := ty) (pos := pos) (af := af) (g := g) h (P := C.P) (b := .max) (aS := [x, y]) (ats := ats) (w := w) (vs := [.int k m, .int k n]) (by simp [evs, hx, hy])
  rw [hc]
  have : (if m < n then (n : Int) else m) = ((max m n : Nat) : Int) := by split <;> omega
  simp [builtin, Builtin.max_, Builtin.max2, this]
theorem run_bound {P : Program} {w : World} {y : Nat} {code : BoundsCode} (hp : IsNat p i) (hi : i ≤ y) : (Instr.sliceBound (.int k p) y code).run P w = .ok i w := by
  have hp := hp.eq
  have h1 : 0 ≤ p ∧ p ≤ (y : Int) := by omega
  have h2 : p.toNat = i := by omega
  simp [Instr.sliceBound, asIntOf, h1, h2]
def addrAt (b : Option Addr) (c lo : Nat) : Option Addr := if c = lo then b else b.map (·.add lo)
/-- x[lo:], of a slice of elements of one cell. -/
theorem Y_sliceLo {b : Option Addr} {es : TypeId} (ht : C.P.underlying t = some (.slice es)) (he : szOf C.P es = some 1) (hx : ev E x = some (.slice b len cap)) (hy : ev E y = some (.int k p)) (hp : IsNat p i) (hi : i ≤ len) (_hc : len ≤ cap) :
    Yv C E L ⟨dst, .slice t x (some y) none none, ty, pos, af, g⟩ (.slice (addrAt b cap i) (len - i) (cap - i)) := by
  refine ⟨fun a w h _ => ?_⟩
  have h1 : (Instr.sliceBound (.int k p) len .sliceB).run C.P w = .ok i w := run_bound hp hi
  simp [execOp, h.eval hx, h.eval hy, Instr.sliceAt, Instr.slice, Instr.sliceBounds, run_underlying ht, run_sizeOf he, h1, addrAt]
/-- x[:hi] -/
theorem Y_sliceHi {b : Option Addr} {es : TypeId} (ht : C.P.underlying t = some (.slice es)) (he : szOf C.P es = some 1) (hx : ev E x = some (.slice b len cap)) (hy : ev E y = some (.int k p)) (hp : IsNat p i) (hi : i ≤ cap) :
    Yv C E L ⟨dst, .slice t x none (some y) none, ty, pos, af, g⟩ (.slice b i cap) := by
  refine ⟨fun a w h _ => ?_⟩
  have h1 : (Instr.sliceBound (.int k p) cap .sliceAcap).run C.P w = .ok i w := run_bound hp hi
  simp [execOp, h.eval hx, h.eval hy, Instr.sliceAt, Instr.slice, Instr.sliceBounds, run_underlying ht, run_sizeOf he, h1]
  intro _
  cases b <;> simp [Addr.add]
/-- arr[lo:], of an array of elements of one cell that begins its block. -/
theorem Y_sliceArrLo {b : Nat} {es : TypeId} (ht : C.P.underlying t = some (.array n es)) (he : szOf C.P es = some 1) (hx : ev E x = some (.pointer (some ⟨b, 0, none⟩))) (hy : ev E y = some (.int k p)) (hp : IsNat p i) (hi : i ≤ n) :
    Yv C E L ⟨dst, .slice t x (some y) none none, ty, pos, af, g⟩ (.slice (some ⟨b, if n = i then 0 else i, none⟩) (n - i) (n - i)) := by
  refine ⟨fun a w h _ => ?_⟩
  have h1 : (Instr.sliceBound (.int k p) n .sliceB).run C.P w = .ok i w := run_bound hp hi
  simp [execOp, h.eval hx, h.eval hy, Instr.sliceAt, Instr.sliceBounds, run_underlying ht, run_sizeOf he, h1, Instr.sureAddr, addr_add]
  split <;> rfl
theorem Y_sliceArr {b : Nat} {es : TypeId} (ht : C.P.underlying t = some (.array n es)) (he : szOf C.P es = some 1) (hx : ev E x = some (.pointer (some ⟨b, 0, none⟩))) :
    Yv C E L ⟨dst, .slice t x none none none, ty, pos, af, g⟩ (.slice (some ⟨b, 0, none⟩) n n) := by
  refine ⟨fun a w h _ => ?_⟩
  simp [execOp, h.eval hx, Instr.sliceAt, Instr.sliceBounds, run_underlying ht, run_sizeOf he, Instr.sureAddr, addr_add]
/-- arr[:hi] -/
theorem Y_sliceArrHi {b : Nat} {es : TypeId} (ht : C.P.underlying t = some (.array n es)) (he : szOf C.P es = some 1) (hx : ev E x = some (.pointer (some ⟨b, 0, none⟩))) (hy : ev E y = some (.int k p)) (hp : IsNat p i) (hi : i ≤ n) :
    Yv C E L ⟨dst, .slice t x none (some y) none, ty, pos, af, g⟩ (.slice (some ⟨b, 0, none⟩) i n) := by
  refine ⟨fun a w h _ => ?_⟩
  have h1 : (Instr.sliceBound (.int k p) n .sliceAlen).run C.P w = .ok i w := run_bound hp hi
  simp [execOp, h.eval hx, h.eval hy, Instr.sliceAt, Instr.sliceBounds, run_underlying ht, run_sizeOf he, h1, Instr.sureAddr, addr_add]
/-- A slice as an array of so many. -/
theorem Y_arrayAt {b off : Nat} {es : TypeId} (ht : C.P.underlying t = some (.array n es)) (hx : ev E x = some (.slice (some ⟨b, off, none⟩) len cap)) (hi : n ≤ len) :
    Yv C E L ⟨dst, .sliceToArrayPointer t x, ty, pos, af, g⟩ (.pointer (some ⟨b, off, none⟩)) := by
  refine ⟨fun a w h _ => ?_⟩
  simp [execOp, h.eval hx, Instr.arrayAt, run_underlying ht, Nat.not_lt.2 hi]
/-- Some of the integers of a block that is owned. -/
theorem Y_loadPI (q : Nat) {b off : Nat} {d : TypeDesc} {fz : Nat × Nat} (ht : C.P.underlying t = some d) (hd : isAggB d = true) (hx : ev E x = some (.pointer (some ⟨b, off, none⟩)))
    (hq : L[q]? = some (blk b (.cells (ints kd l) e fz))) (hz : szOf C.P t = some n) (hn : off + n ≤ l.length) : Yv C E L ⟨dst, .load t x, ty, pos, af, g⟩ (.agg (ints kd ((l.drop off).take n))) := by
  refine ⟨fun a w h hs => ?_⟩
  have hw := hs.known hq
  have hl : ((l.drop off).take n).length = n := by rw [List.length_take, List.length_drop]; omega
  have h1 : (loadCells ⟨b, off, none⟩ (((l.drop off).take n).map (Value.int kd)).length).run C.P w = .ok (((l.drop off).take n).map (Value.int kd)).toArray w :=
    run_loadCells_list w ⟨b, off, none⟩ _ fun j v hv => by
      rw [addr_add]
      simp only [World.cell?, hw]
      rw [List.getElem?_map, List.getElem?_take, List.getElem?_drop] at hv
      rw [ints_get]
      split at hv
      · simpa using hv
      · simp at hv
  rw [List.length_map, hl] at h1
  have h2 : (loadVar t ⟨b, off, none⟩).run C.P w = .ok (.agg (ints kd ((l.drop off).take n))) w := by
    unfold loadVar
    simp only [Sem.run_bind, run_isAgg ht, hd, Result.andThen_ok, if_true, run_sizeOf hz, h1]
    rfl
  simp [execOp, h.eval hx, Instr.loadAt, Instr.sureAddr, h2]
end
/-- A slice's value, and the integers that it reads. -/
structure Rd (w : World) (v : Value) (k : IntKind) (l : List Int) : Prop where
  out : ∃ a cap, v = .slice a l.length cap ∧ l.length ≤ cap ∧ (l = [] ∨ ∃ b off cs e fz, a = some ⟨b, off, none⟩ ∧ w.heap[b]? = some (.cells cs e fz) ∧ ∀ i p, l[i]? = some p → cs[off + i]? = some (.int k p))
theorem Rd.mono {w w' : World} {v : Value} {k : IntKind} {l : List Int} (h : Rd w v k l) (hb : ∀ b, b < w.heap.size → w'.heap[b]? = w.heap[b]?) : Rd w' v k l := by
  obtain ⟨a, cap, h1, h2, h3⟩ := h.out
  refine ⟨a, cap, h1, h2, h3.imp id ?_⟩
  rintro ⟨b, off, cs, e, fz, ha, hw, hc⟩
  exact ⟨b, off, cs, e, fz, ha, by rw [hb b (Array.getElem?_eq_some_iff.1 hw).1]; exact hw, hc⟩
theorem Rd.st {P : Program} {n : Nat} {w w' : World} {L : Hp} {v : Value} {k : IntKind} {l : List Int} (h : Rd w v k l) (hs : St (ctx P n w) L w') : Rd w' v k l := h.mono fun b hb => hs.fixed b hb
theorem Rd.own {C : Ctx} {L : Hp} {w : World} (hs : St C L w) {q b off cap : Nat} {k : IntKind} {l m : List Int} {e : TypeId} {fz : Nat × Nat} (hq : L[q]? = some (blk b (.cells (ints k l) e fz))) (hm : ∀ i p, m[i]? = some p → l[off + i]? = some p) (hc : m.length ≤ cap) :
    Rd w (.slice (some ⟨b, off, none⟩) m.length cap) k m :=
  ⟨_, _, rfl, hc, .inr ⟨b, off, _, e, fz, rfl, hs.known hq, fun i p hp => by rw [ints_get, hm i p hp]; rfl⟩⟩
theorem Rd.cell {w : World} {b off cap : Nat} {n : Nat} {k : IntKind} {l : List Int} (h : Rd w (.slice (some ⟨b, off, none⟩) n cap) k l) {i : Nat} {p : Int} (hp : l[i]? = some p) : w.cell? ⟨b, off + i, none⟩ = some (.int k p) := by
  obtain ⟨a, c, h1, h2, h3⟩ := h.out
  rcases h3 with rfl | ⟨b', off', cs, e, fz, ha, hw, hc⟩
  · simp at hp
  · rw [ha] at h1
    cases h1
    simp [World.cell?, hw, hc i p hp]
theorem Rd.drop {w : World} {b : Option Addr} {len cap : Nat} {k : IntKind} {l : List Int} (h : Rd w (.slice b len cap) k l) (j : Nat) (hj : j ≤ len) : Rd w (.slice (addrAt b cap j) (len - j) (cap - j)) k (l.drop j) := by
  obtain ⟨a, c, h1, h2, h3⟩ := h.out
  cases h1
  refine ⟨_, _, by rw [List.length_drop], by rw [List.length_drop]; omega, ?_⟩
  rcases h3 with rfl | ⟨b', off', cs, e, fz, ha, hw, hc⟩
  · left; simp
  · by_cases hjl : j < l.length
    · right
      subst ha
      refine ⟨b', off' + j, cs, e, fz, ?_, hw, fun i p hp => ?_⟩
      · unfold addrAt
        rw [if_neg (by omega)]
        simp [addr_add]
      · rw [List.getElem?_drop] at hp
        rw [Nat.add_assoc]
        exact hc _ _ hp
    · left
      exact List.drop_of_length_le (by omega)
theorem Rd.take {w : World} {b : Option Addr} {len cap : Nat} {k : IntKind} {l : List Int} (h : Rd w (.slice b len cap) k l) (j : Nat) (hj : j ≤ len) : Rd w (.slice b j cap) k (l.take j) := by
  obtain ⟨a, c, h1, h2, h3⟩ := h.out
  cases h1
  have hl : (l.take j).length = j := by rw [List.length_take]; omega
  refine ⟨b, cap, by rw [hl], by rw [hl]; omega, ?_⟩
  rcases h3 with rfl | ⟨b', off', cs, e, fz, ha, hw, hc⟩
  · left; simp
  · right
    refine ⟨b', off', cs, e, fz, ha, hw, fun i p hp => hc i p ?_⟩
    rw [List.getElem?_take] at hp
    split at hp
    · exact hp
    · cases hp
/-! ### copy -/
section
variable {C : Ctx} {k : K} {E : Env} {L : Hp} {ops : Array Oper} {rest : List Oper} {ty : TypeId} {pos : String} {af : Array Edge} {g : Option (Nat × Bool)}
variable {x y : Operand} {t t' e es es' : TypeId} {b off d : Nat} {kd : IntKind} {l m : List Int}
theorem run_load_ints {P : Program} {w : World} {b : Option Addr} {len cap : Nat} {k : IntKind} {l : List Int} (h : Rd w (.slice b len cap) k l) {n : Nat} (hn : n ≤ l.length) :
    (Builtin.firstCells 1 n (.slice b len cap)).run P w = .ok (ints k (l.take n)) w := by
  obtain ⟨a, c, h1, h2, h3⟩ := h.out
  cases h1
  cases b with
  | none =>
    rcases h3 with rfl | ⟨b', off', cs, e, fz, ha, hw, hc⟩
    · simp at hn; subst hn; rfl
    · cases ha
  | some a =>
    rcases h3 with rfl | ⟨b', off', cs, e, fz, ha, hw, hc⟩
    · simp at hn; subst hn; rfl
    · cases ha
      have := run_loadCells_list (P := P) w ⟨b', off', none⟩ ((l.take n).map (Value.int k)) fun j v hv => by
        rw [addr_add]
        simp only [World.cell?, hw]
        rw [List.getElem?_map, List.getElem?_take] at hv
        by_cases hj : j < n
        · simp only [hj, if_true] at hv
          cases hp : l[j]? with
          | none => simp [hp] at hv
          | some p => rw [hp] at hv; simp at hv; subst hv; simp [hc j p hp]
        · simp [hj] at hv
      simp only [List.length_map, List.length_take, Nat.min_eq_left hn] at this
      simp [Builtin.firstCells, this, ints]
/-- An operation that turns an owned block and yields a value. -/
theorem S_setV (q : Nat) {op : Op} {v : Value} {cs cs' : Array Value} {fz : Nat × Nat} (hg : wantedE ops E g = some true) (hd : Nat.blt d C.n = true)
    (hq : L[q]? = some (blk b (.cells cs e fz)))
    (hv : ∀ a w, Rel C.n E a → St C L w → w.heap[b]? = some (.cells cs e fz) → (execOp a.eval ⟨some d, op, ty, pos, af, g⟩).run C.P w = .ok (.value v) (w.setRow b cs'))
    (h : S C ops rest k ((d, v) :: E) (L.set q (blk b (.cells cs' e fz)))) : S C ops (⟨some d, op, ty, pos, af, g⟩ :: rest) k E L := by
  refine ⟨fun a w hr hs => ?_⟩
  unfold wpList
  rw [wantedE_spec hr (o := ⟨some d, op, ty, pos, af, g⟩) hg, if_pos rfl]
  refine .inl ?_
  unfold Oper.wp
  rw [hv a w hr hs (hs.known hq)]
  exact h.out _ _ (hr.put (by simpa using hd) v) (hs.setRow hq)
/-- copy(dst, src): dst lies in an owned block of integers. -/
theorem run_copy {n len cap dl_ dc : Nat} {sb : Option Addr} {ats : Array TypeId} (h0 : ats[0]? = some t) (ht : C.P.underlying t = some (.slice es)) (he : szOf C.P es = some 1)
    (hx : ev E x = some (.slice (some ⟨b, off, none⟩) dl_ dc)) (hy : ev E y = some (.slice sb len cap)) (hr : ∀ w, St C L w → Rd w (.slice sb len cap) kd m) (hn : min len dl_ = n) (ho : off + n ≤ l.length) :
    ∀ a w, Rel C.n E a → St C L w → w.heap[b]? = some (.cells (ints kd l) e (0, 0)) → (execOp a.eval ⟨some d, .call ⟨.builtin .copy, #[x, y], ats⟩, ty, pos, af, g⟩).run C.P w = .ok (.value (.int .i64 n)) (w.setRow b (ints kd (l.take off ++ m.take n ++ l.drop (off + n)))) := by
  intro a w hrel hs hb
  have hrd := hr w hs
  have hlen : len = m.length := by
    obtain ⟨_, _, h1, _⟩ := hrd.out
    cases h1; rfl
  obtain ⟨cs, hc⟩ := run_builtin (dst := some d) (ty := ty) (pos := pos) (af := af) (g := g) hrel (P := C.P) (b := .copy) (aS := [x, y]) (ats := ats) (w := w) (vs := [_, _]) (by simp [evs, hx, hy]; exact ⟨rfl, rfl⟩)
  rw [hc]
  have hml : (m.take n).length = n := by rw [List.length_take]; omega
  have h1 := run_load_ints (P := C.P) hrd (n := n) (by omega)
  have h2 := run_storeCells_at (P := C.P) b off e ((m.take n).map (Value.int kd)) 0 (ints kd l) w hb (by simp; omega) (fun v hv => by obtain ⟨p, _, rfl⟩ := List.mem_map.1 hv; rfl)
  have h3 : ((ints kd l).toList.take (off + 0) ++ (m.take n).map (Value.int kd) ++ (ints kd l).toList.drop (off + 0 + ((m.take n).map (Value.int kd)).length)).toArray = ints kd (l.take off ++ m.take n ++ l.drop (off + n)) := by
    have hnm : min n m.length = n := Nat.min_eq_left (by omega)
    simp [ints, List.map_take, List.map_drop, hnm]
  rw [h3] at h2
  have h4 : (ints kd (m.take n)).toList = (m.take n).map (Value.int kd) := by simp [ints]
  simp only [builtin, Builtin.copy_, List.getElem?_toArray, List.getElem?_cons_zero, List.getElem?_cons_succ, h0, Sem.run_bind, run_underlying ht, Result.andThen_ok, run_sizeOf he, Builtin.lenOf, Sem.run_pure]
  have h5 : Nat.min len dl_ = n := hn
  rw [h5, h1]
  simp only [Result.andThen_ok, h4, h2, goInt]
end
/-! ### equal arrays -/
theorem run_equal_int {P : Program} {e : TypeId} {k : IntKind} (he : P.underlying e = some (.int k)) (d : Nat) (p q : Int) (w : World) : (Op.equalIn (d + 1) e (.int k p) (.int k q)).run P w = .ok (decide (p = q)) w := by
  simp only [Op.equalIn, Sem.run_bind, run_underlying he, Result.andThen_ok, if_true, Sem.run_pure]
  rfl
theorem run_equal_bool {P : Program} {e : TypeId} (he : P.underlying e = some .bool) (d : Nat) (p q : Bool) (w : World) : (Op.equalIn (d + 1) e (.bool p) (.bool q)).run P w = .ok (p == q) w := by
  simp only [Op.equalIn, Sem.run_bind, run_underlying he, Result.andThen_ok]
  rfl
theorem run_part {P : Program} {e : TypeId} {k : IntKind} (he : P.underlying e = some (.int k)) (l : List Int) (i : Nat) (p : Int) (h : l[i]? = some p) (w : World) : (part e (ints k l) i).run P w = .ok (.int k p) w := by
  have : (ints k l)[i]? = some (.int k p) := by rw [ints_get, h]; rfl
  simp [part, run_isAgg he, isAggB, this]
theorem run_eqLoop {P : Program} {e : TypeId} {k : IntKind} (he : P.underlying e = some (.int k)) (d : Nat) (l m : List Int) (hlm : l.length = m.length) (w : World) : ∀ (j s : Nat), s + j = l.length → (∀ i, i < s → l[i]? = m[i]?) →
    (forIn (List.range' s j) ((none, ()) : Option Bool × Unit) fun i _ => do
        let a ← part e (ints k l) (i * 1)
        let b ← part e (ints k m) (i * 1)
        let c ← Op.equalIn (d + 1) e a b
        if (!c) = true then pure (ForInStep.done (some false, ())) else pure (ForInStep.yield (none, ())) : Sem (Option Bool × Unit)).run P w = .ok (if l = m then (none, ()) else (some false, ())) w
  | 0, s, hs, hp => by
    have : l = m := List.ext_getElem? fun i => by
      by_cases hi : i < s
      · exact hp i hi
      · rw [List.getElem?_eq_none (by omega), List.getElem?_eq_none (by omega)]
    simp [this]
  | j + 1, s, hs, hp => by
    have h1 : l[s]? = some l[s] := List.getElem?_eq_getElem (by omega)
    have h2 : m[s]? = some m[s] := List.getElem?_eq_getElem (by omega)
    rw [List.range'_succ, List.forIn_cons]
    simp only [Nat.mul_one]
    simp only [bind_assoc, Sem.run_bind, run_part he l s _ h1, run_part he m s _ h2, Result.andThen_ok, run_equal_int he]
    by_cases heq : l[s] = m[s]
    · have ih := run_eqLoop he d l m hlm w j (s + 1) (by omega) fun i hi => by
        by_cases his : i = s
        · subst his; rw [h1, h2, heq]
        · exact hp i (by omega)
      simp only [Nat.mul_one] at ih
      simp [heq]
      simpa using ih
    · have : l ≠ m := by
        rintro rfl
        exact heq rfl
      simp [heq, this]
theorem run_eqArr {P : Program} {t e n : Nat} {k : IntKind} (ht : P.underlying t = some (.array n e)) (he : P.underlying e = some (.int k)) (hz : szOf P e = some 1) (d : Nat) (l m : List Int) (hl : l.length = n) (hm : m.length = n) (w : World) :
    (Op.equalIn (d + 2) t (.agg (ints k l)) (.agg (ints k m))).run P w = .ok (decide (l = m)) w := by
  rw [Op.equalIn]
  simp only [Sem.run_bind, run_underlying ht, Result.andThen_ok, run_sizeOf hz]
  simp only [Std.Legacy.Range.forIn_eq_forIn_range']
  have : [:n].size = n := by simp [Std.Legacy.Range.size]
  rw [this]
  have := run_eqLoop (P := P) he d l m (by omega) w n 0 (by omega) (by omega)
  rw [this]
  by_cases h : l = m <;> simp [h]
section
variable {C : Ctx} {E : Env} {L : Hp} {dst : Option Tmp} {ty : TypeId} {pos : String} {af : Array Edge} {g : Option (Nat × Bool)}
variable {x y : Operand} {t e u : TypeId} {k : IntKind} {n : Nat} {l m : List Int}
theorem eqGuard_agg (op : BinOp) {P : Program} {t : TypeId} (hg : P.eqGuardType P.depth t = false) (x y : Operand) (a b : Array Value) (w : World) : (eqGuard op t x y (.agg a) (.agg b)).run P w = .ok () w := by
  unfold eqGuard
  cases op <;> simp [hg]
/-- Two arrays of integers. -/
theorem Y_eqlA (hg : C.P.eqGuardType C.P.depth t = false) (ht : C.P.underlying t = some (.array n e)) (he : C.P.underlying e = some (.int k)) (hz : szOf C.P e = some 1)
    (hx : ev E x = some (.agg (ints k l))) (hy : ev E y = some (.agg (ints k m))) (hl : l.length = n) (hm : m.length = n) : Yv C E L ⟨dst, .binOp .eql t x y u, ty, pos, af, g⟩ (.bool (decide (l = m))) := by
  refine ⟨fun a w h _ => ?_⟩
  have := run_eqArr ht he hz 9998 l m hl hm w
  simp only [execOp, h.eval hx, h.eval hy, Sem.run_bind, eqGuard_agg _ hg, Result.andThen_ok, binOp, Op.equal, Op.maxDepth]
  rw [this]
  rfl
theorem Y_neqA (hg : C.P.eqGuardType C.P.depth t = false) (ht : C.P.underlying t = some (.array n e)) (he : C.P.underlying e = some (.int k)) (hz : szOf C.P e = some 1)
    (hx : ev E x = some (.agg (ints k l))) (hy : ev E y = some (.agg (ints k m))) (hl : l.length = n) (hm : m.length = n) : Yv C E L ⟨dst, .binOp .neq t x y u, ty, pos, af, g⟩ (.bool (decide (l ≠ m))) := by
  refine ⟨fun a w h _ => ?_⟩
  have := run_eqArr ht he hz 9998 l m hl hm w
  simp only [execOp, h.eval hx, h.eval hy, Sem.run_bind, eqGuard_agg _ hg, Result.andThen_ok, binOp, Op.equal, Op.maxDepth]
  rw [this]
  by_cases e : l = m <;> simp [e]
theorem Y_eqlA_t (hg : C.P.eqGuardType C.P.depth t = false) (ht : C.P.underlying t = some (.array n e)) (he : C.P.underlying e = some (.int k)) (hz : szOf C.P e = some 1)
    (hx : ev E x = some (.agg (ints k l))) (hy : ev E y = some (.agg (ints k m))) (hl : l.length = n) (h : l = m) : Yv C E L ⟨dst, .binOp .eql t x y u, ty, pos, af, g⟩ (.bool true) := by
  have := Y_eqlA (L := L) (dst := dst) (ty := ty) (pos := pos) (af := af) (g := g) (u := u) hg ht he hz hx hy hl (h ▸ hl)
  rwa [decide_eq_true h] at this
theorem Y_eqlA_f (hg : C.P.eqGuardType C.P.depth t = false) (ht : C.P.underlying t = some (.array n e)) (he : C.P.underlying e = some (.int k)) (hz : szOf C.P e = some 1)
    (hx : ev E x = some (.agg (ints k l))) (hy : ev E y = some (.agg (ints k m))) (hl : l.length = n) (hm : m.length = n) (h : l ≠ m) : Yv C E L ⟨dst, .binOp .eql t x y u, ty, pos, af, g⟩ (.bool false) := by
  have := Y_eqlA (L := L) (dst := dst) (ty := ty) (pos := pos) (af := af) (g := g) (u := u) hg ht he hz hx hy hl hm
  rwa [decide_eq_false h] at this
theorem Y_neqA_f (hg : C.P.eqGuardType C.P.depth t = false) (ht : C.P.underlying t = some (.array n e)) (he : C.P.underlying e = some (.int k)) (hz : szOf C.P e = some 1)
    (hx : ev E x = some (.agg (ints k l))) (hy : ev E y = some (.agg (ints k m))) (hl : l.length = n) (h : l = m) : Yv C E L ⟨dst, .binOp .neq t x y u, ty, pos, af, g⟩ (.bool false) := by
  have := Y_neqA (L := L) (dst := dst) (ty := ty) (pos := pos) (af := af) (g := g) (u := u) hg ht he hz hx hy hl (h ▸ hl)
  rwa [decide_eq_false (fun h' => h' h)] at this
theorem eqGuard_bool (op : BinOp) (t : TypeId) (x y : Operand) (p q : Bool) (P : Program) (w : World) : (eqGuard op t x y (.bool p) (.bool q)).run P w = .ok () w := by
  unfold eqGuard
  cases op <;> simp
theorem Y_eqlB {p q : Bool} (ht : C.P.underlying t = some .bool) (hx : ev E x = some (.bool p)) (hy : ev E y = some (.bool q)) : Yv C E L ⟨dst, .binOp .eql t x y u, ty, pos, af, g⟩ (.bool (p == q)) := by
  refine ⟨fun a w h _ => ?_⟩
  have := run_equal_bool ht 9999 p q w
  simp only [execOp, h.eval hx, h.eval hy, Sem.run_bind, eqGuard_bool, Result.andThen_ok, binOp, Op.equal, Op.maxDepth]
  rw [this]
  rfl
theorem Y_eqlB_t {p : Bool} (ht : C.P.underlying t = some .bool) (hx : ev E x = some (.bool p)) (hy : ev E y = some (.bool p)) : Yv C E L ⟨dst, .binOp .eql t x y u, ty, pos, af, g⟩ (.bool true) := by
  have := Y_eqlB (L := L) (dst := dst) (ty := ty) (pos := pos) (af := af) (g := g) (u := u) ht hx hy
  rwa [beq_self_eq_true] at this
end
end Go.Proofs.YtjolmphkmfbpbaaDoor
/- Two steps in one, for a packed claim (pack.py). -/
namespace Go.Proofs.YtjolmphkmfbpbaaDoor
open Go.RowKit
section
variable {C : Ctx} {k : K} {E : Env} {L : Hp} {ops : Array Oper} {rest : List Oper} {d : Nat} {ty : TypeId} {pos : String} {af : Array Edge} {g : Option (Nat × Bool)}
theorem T_sr {id : Nat} {l : List Oper} {y : Code} (h : S C l.toArray l (.seq y k) E L) : T C (.seq (.region id l.toArray false) y) k E L := T_seq (T_region h)
theorem S_nx {y : Code} (h : T C y k E L) : S C ops [] (.seq y k) E L := S_nil (X_seq h)
theorem S_mv {x : Operand} {v : Value} (hg : wantedE ops E g = some true) (hd : Nat.blt d C.n = true) (hx : ev E x = some v) (h : S C ops rest k ((d, v) :: E) L) : S C ops (⟨some d, .move x, ty, pos, af, g⟩ :: rest) k E L := S_val hg hd (Y_move hx) h
theorem S_as {x : Operand} {v : Value} (hg : wantedE ops E g = some true) (hd : Nat.blt d C.n = true) (hx : ev E x = some v) (h : S C ops rest k ((d, v) :: E) L) : S C ops (⟨some d, .assign x, ty, pos, af, g⟩ :: rest) k E L := S_val hg hd (Y_assign hx) h
end
end Go.Proofs.YtjolmphkmfbpbaaDoor
/- A region that draws its order: one walk in the order of the text serves every order. -/
namespace Go.Proofs.YtjolmphkmfbpbaaDoor
open Go.RowKit
/-! ### which operation comes before which -/
def bstep (acc : Array Nat) (o : Oper) : Nat := o.after.foldl (fun s e => if Region.binds .any e then s ||| 2 ^ e.on ||| acc.getD e.on 0 else s) 0
def bfold (l : List Oper) : Array Nat := l.foldl (fun acc o => acc.push (bstep acc o)) #[]
theorem bfold_snoc (l : List Oper) (o : Oper) : bfold (l ++ [o]) = (bfold l).push (bstep (bfold l) o) := by simp [bfold]
theorem before_eq (l : List Oper) : Region.before l.toArray = bfold l := by
  simp [Region.before, bfold, bstep]
theorem bfold_size (l : List Oper) : (bfold l).size = l.length := by
  unfold bfold
  suffices h : ∀ (l : List Oper) (a : Array Nat), (l.foldl (fun acc o => acc.push (bstep acc o)) a).size = a.size + l.length by simpa using h l #[]
  intro l
  induction l with
  | nil => intro a; simp
  | cons o l ih => intro a; simp only [List.foldl_cons, ih, List.length_cons, Array.size_push]; omega
theorem bfold_append (b : List Oper) : ∀ (a : List Oper) (i : Nat), i < a.length → (bfold (a ++ b)).getD i 0 = (bfold a).getD i 0 := by
  induction b with
  | nil => intro a i _; simp
  | cons o b ih =>
    intro a i h
    rw [show a ++ o :: b = (a ++ [o]) ++ b by simp, ih (a ++ [o]) i (by simp; omega), bfold_snoc]
    have : i < (bfold a).size := by rw [bfold_size]; omega
    simp [Array.getElem?_push, Nat.ne_of_lt this]
theorem bfold_take (l : List Oper) (m i : Nat) (h : i < m) (hm : m ≤ l.length) : (bfold (l.take m)).getD i 0 = (bfold l).getD i 0 := by
  have := bfold_append (l.drop m) (l.take m) i (by rw [List.length_take]; omega)
  rw [List.take_append_drop] at this
  exact this.symm
/-- j comes before m, whatever order is drawn. -/
def dep (ops : Array Oper) (j m : Nat) : Bool := ((Region.before ops).getD m 0).testBit j
theorem bstep_spec {acc : Array Nat} {o : Oper} {j : Nat} (h : (bstep acc o).testBit j = true) : ∃ e ∈ o.after, Region.binds .any e = true ∧ (e.on = j ∨ (acc.getD e.on 0).testBit j = true) := by
  unfold bstep at h
  rw [← Array.foldl_toList] at h
  suffices key : ∀ (l : List Edge) (s : Nat), (l.foldl (fun s e => if Region.binds .any e then s ||| 2 ^ e.on ||| acc.getD e.on 0 else s) s).testBit j = true →
      s.testBit j = true ∨ ∃ e ∈ l, Region.binds .any e = true ∧ (e.on = j ∨ (acc.getD e.on 0).testBit j = true) by
    rcases key _ _ h with h | ⟨e, he, h⟩
    · simp at h
    · exact ⟨e, by simpa using he, h⟩
  intro l
  induction l with
  | nil => intro s h; exact .inl h
  | cons e l ih =>
    intro s h
    simp only [List.foldl_cons] at h
    rcases ih _ h with h | ⟨e', he', h⟩
    · by_cases hb : Region.binds .any e = true
      · simp only [hb, if_true, Nat.testBit_or, Bool.or_eq_true] at h
        rcases h with (h | h) | h
        · exact .inl h
        · refine .inr ⟨e, List.mem_cons_self, hb, .inl ?_⟩
          rw [Nat.testBit_two_pow] at h
          simpa using h
        · exact .inr ⟨e, List.mem_cons_self, hb, .inr h⟩
      · simp only [hb] at h
        exact .inl h
    · exact .inr ⟨e', List.mem_cons_of_mem _ he', h⟩
theorem dep_spec {l : List Oper} {j m : Nat} {o : Oper} (ho : l[m]? = some o) (hb : ∀ e ∈ o.after, Region.binds .any e = true → e.on < m) (h : dep l.toArray j m = true) :
    ∃ e ∈ o.after, Region.binds .any e = true ∧ (e.on = j ∨ dep l.toArray j e.on = true) := by
  have hm : m < l.length := (List.getElem?_eq_some_iff.1 ho).1
  have h1 : l.take (m + 1) = l.take m ++ [o] := by rw [List.take_add_one, ho]; rfl
  unfold dep at *
  rw [before_eq] at *
  rw [← bfold_take l (m + 1) m (by omega) (by omega), h1, bfold_snoc] at h
  have hsz : (bfold (l.take m)).size = m := by rw [bfold_size, List.length_take]; omega
  have h2 : ((bfold (l.take m)).push (bstep (bfold (l.take m)) o)).getD m 0 = bstep (bfold (l.take m)) o := by
    simp [Array.getElem_push, hsz]
  rw [h2] at h
  obtain ⟨e, he, hbe, h⟩ := bstep_spec h
  refine ⟨e, he, hbe, h.imp id fun h => ?_⟩
  rw [bfold_take l m e.on (hb e he hbe) (by omega)] at h
  exact h
/-! ### the check of a region -/
def tmpsOf (o : Oper) : List Nat := o.op.operands.toList.filterMap fun | .tmp t => some t | _ => none
/-- The slots that an operation looks at or writes. -/
def slotsOf (ops : Array Oper) (o : Oper) : List Nat :=
  tmpsOf o ++ (match o.guard with | some (g, _) => ((ops[g]?).bind (·.dst)).toList | none => []) ++ o.dst.toList
def isMem : Op → Bool
  | .move _ | .assign _ | .pick .. | .extract .. | .binOp .. | .unOp .. | .indexAddr .. | .fieldAddr .. | .index .. | .field .. | .nilCheck _ | .slice .. | .build .. => false
  | _ => true
def isSel : Op → Bool
  | .select .. => true
  | _ => false
/-- Each operation waits for earlier ones alone; whoever looks at a slot, or writes it, and whoever writes it, are ordered. -/
def okReg (l : List Oper) : Bool :=
  let b := Region.before l.toArray
  l.zipIdx.all fun (o, m) =>
    o.after.all (fun e => !Region.binds .any e || Nat.blt e.on m) && !isSel o.op &&
    l.zipIdx.all fun (p, j) =>
      match p.dst with
      | some d => Nat.beq j m || !(slotsOf l.toArray o).contains d || (b.getD (max j m) 0).testBit (min j m)
      | none => true
/-- m is ordered against all that look at memory. -/
def okStore (l : List Oper) (m : Nat) : Bool :=
  let b := Region.before l.toArray
  l.zipIdx.all fun (p, j) => Nat.beq j m || !isMem p.op || (b.getD (max j m) 0).testBit (min j m)
theorem okReg_after {l : List Oper} (h : okReg l = true) {m : Nat} {o : Oper} (ho : l[m]? = some o) : ∀ e ∈ o.after, Region.binds .any e = true → e.on < m := by
  intro e he hb
  unfold okReg at h
  rw [List.all_eq_true] at h
  have hm : (o, m) ∈ l.zipIdx := by
    rw [List.mem_zipIdx_iff_getElem?]; exact ho
  have := h _ hm
  simp only [Bool.and_eq_true, Array.all_eq_true_iff_forall_mem] at this
  have := this.1.1 e he
  simpa [hb] using this
theorem okReg_sel {l : List Oper} (h : okReg l = true) {m : Nat} {o : Oper} (ho : l[m]? = some o) : ∀ cs b, o.op ≠ .select cs b := by
  intro cs b hcb
  unfold okReg at h
  rw [List.all_eq_true] at h
  have hm : (o, m) ∈ l.zipIdx := by
    rw [List.mem_zipIdx_iff_getElem?]; exact ho
  have := h _ hm
  simp only [Bool.and_eq_true] at this
  have := this.1.2
  simp [hcb, isSel] at this
theorem okReg_slot {l : List Oper} (h : okReg l = true) {m j d : Nat} {o p : Oper} (ho : l[m]? = some o) (hp : l[j]? = some p) (hd : p.dst = some d) (hs : d ∈ slotsOf l.toArray o) (hjm : j ≠ m) : dep l.toArray (min j m) (max j m) = true := by
  unfold okReg at h
  rw [List.all_eq_true] at h
  have hm : (o, m) ∈ l.zipIdx := by
    rw [List.mem_zipIdx_iff_getElem?]; exact ho
  have hj : (p, j) ∈ l.zipIdx := by
    rw [List.mem_zipIdx_iff_getElem?]; exact hp
  have := h _ hm
  simp only [Bool.and_eq_true, List.all_eq_true] at this
  have := this.2 _ hj
  simp only [hd] at this
  simpa [hjm, hs, dep] using this
theorem okStore_spec {l : List Oper} {m j : Nat} (h : okStore l m = true) {p : Oper} (hp : l[j]? = some p) (hm : isMem p.op = true) (hjm : j ≠ m) : dep l.toArray (min j m) (max j m) = true := by
  unfold okStore at h
  rw [List.all_eq_true] at h
  have hj : (p, j) ∈ l.zipIdx := by
    rw [List.mem_zipIdx_iff_getElem?]; exact hp
  have := h _ hj
  simpa [hjm, hm, dep] using this
theorem dep_lt {l : List Oper} (h : okReg l = true) {j m : Nat} (hd : dep l.toArray j m = true) : j < m ∧ m < l.length := by
  have hm : m < l.length := by
    rcases Nat.lt_or_ge m l.length with h1 | h1
    · exact h1
    · unfold dep at hd
      rw [before_eq] at hd
      have : (bfold l).getD m 0 = 0 := by
        have : (bfold l).size ≤ m := by rw [bfold_size]; omega
        simp [Array.getElem?_eq_none this]
      rw [this] at hd
      simp at hd
  refine ⟨?_, hm⟩
  induction m using Nat.strongRecOn with
  | _ m ih =>
    have ho : l[m]? = some l[m] := List.getElem?_eq_getElem hm
    have ha := okReg_after h ho
    obtain ⟨e, he, hb, hj⟩ := dep_spec ho ha hd
    have := ha e he hb
    rcases hj with rfl | hj
    · exact this
    · have := ih e.on this hj (by omega)
      omega
/-! ### what an operation does -/
abbrev Hist := Nat → Value × Hp
def Outcome (P : Program) (ψ : Value → World → Prop) : Result Next → Prop
  | .ok (.value v) w => ψ v w
  | .ok .skip w => ψ undef w
  | .ok (.enter f args) w => Calls P f args w fun e w' => ∃ v, e = .returned v ∧ ψ v w'
  | _ => False
theorem Outcome.wp {P : Program} {ψ : Value → World → Prop} {o : Oper} {a : Act} {w : World} {K : Act → World → Prop} {Q : Exit → Act → World → Prop}
    (h : Outcome P ψ ((execOp a.eval o).run P w)) (hK : ∀ v w', ψ v w' → K (a.put o.dst v) w') : o.wp P a w K Q := by
  unfold Oper.wp
  generalize (execOp a.eval o).run P w = r at *
  cases r with
  | ok n w' =>
    cases n <;> simp only [Outcome] at h <;> simp only [Oper.upon]
    case value v => exact hK _ _ h
    case skip => exact hK _ _ h
    case enter f args =>
      refine h.mono ?_
      rintro e w'' ⟨v, rfl, hv⟩
      exact hK _ _ hv
  | halt x w' => simp only [Outcome] at h
/-- From L to L', with new blocks N, whatever else (M) is owned. -/
structure Does (C : Ctx) (E : Env) (L L' : Hp) (o : Oper) (φ : Value → Hp → Prop) : Prop where
  out : ∀ (a : Act) (w : World) (M : Hp), Rel C.n E a → St C (L ++ M) w → Outcome C.P (fun v w' => ∃ N, φ v N ∧ St C (L' ++ M ++ N) w') ((execOp a.eval o).run C.P w)
theorem Does.of_act {C : Ctx} {E : Env} {L L' : Hp} {l : List Oper} {o : Oper} {φ : Value → Hp → Prop} (h : Does C E L L' o φ) (hsel : ∀ cs b, o.op ≠ .select cs b) (hE : ∀ d v, E.get d = some v → d < C.n)
    {a : Act} {w : World} {M : Hp} (hsz : a.tmps.size = C.n) (hget : ∀ d ∈ slotsOf l.toArray o, ∀ v, E.get d = some v → a.tmps[d]? = some v) (hs : St C (L ++ M) w) :
    Outcome C.P (fun v w' => ∃ N, φ v N ∧ St C (L' ++ M ++ N) w') ((execOp a.eval o).run C.P w) := by
  let a' : Act := { tmps := Array.ofFn (n := C.n) fun i => (E.get i).getD (a.tmps.getD i undef), defers := [] }
  have hr : Rel C.n E a' := by
    refine ⟨by simp [a'], rfl, fun d v hd => ?_⟩
    have := hE d v hd
    simp [a', this, hd]
  have key := h.out a' w M hr hs
  have : execOp a'.eval o = execOp a.eval o := execOp_congr o hsel fun x hx => by
    cases x with
    | tmp t =>
      have ht : t ∈ slotsOf l.toArray o := by
        unfold slotsOf tmpsOf
        refine List.mem_append_left _ (List.mem_append_left _ ?_)
        exact List.mem_filterMap.2 ⟨.tmp t, by simpa using hx, rfl⟩
      simp only [Act.eval, a']
      by_cases hlt : t < C.n
      · cases hg : E.get t with
        | none => simp [Array.getD_eq_getD_getElem?, hlt, hg]
        | some v =>
          have := hget t ht v hg
          simp [Array.getD_eq_getD_getElem?, hlt, hg, this]
      · have h1 : a.tmps[t]? = none := Array.getElem?_eq_none (by rw [hsz]; exact Nat.le_of_not_lt hlt)
        simp [Array.getD_eq_getD_getElem?, hlt, h1]
    | _ => rfl
  rw [this] at key
  exact key
/-! ### the walk -/
structure DState where
  E : Hist → Env
  B : Hist → Hp
  Nw : Hist → Hp
  G : List (Nat × (Hist → Prop))
structure DRow where
  φ : Hist → Value → Hp → Prop
  t : Hist → Value
  M : Hist → Hp
  pf : Option (Hist → Prop)
  st : Bool
def newsDeps (l0 : List Oper) (m : Nat) (H : Hist) : Hp := ((List.range l0.length).filter (dep l0.toArray · m)).flatMap fun j => (H j).2
def Facts (l0 : List Oper) (m : Nat) (G : List (Nat × (Hist → Prop))) (H : Hist) : Prop := ∀ p ∈ G, dep l0.toArray p.1 m = true → p.2 H
/-- What stores turn that may come early: nobody else looks at it. It is there from the begin, or an operation of the region makes it. -/
structure Tk where
  tk : Nat → Hist → Hp
  cz : Nat → Option Nat
  q : Nat
  htk : ∀ m, m < q → ∀ H, tk m H = []
  hcz : ∀ m j, cz m = some j → q ≤ j
  hinj : ∀ m m' j, cz m = some j → cz m' = some j → m = m'
  hloc : ∀ m (H H' : Hist), (∀ j, cz m = some j → H j = H' j) → tk m H = tk m H'
def Tk.none (q : Nat) : Tk := ⟨fun _ _ => [], fun _ => .none, q, fun _ _ _ => rfl, fun _ _ h => (by cases h), fun _ _ _ h => (by cases h), fun _ _ _ _ => rfl⟩
/-- How far an order is drawn, and what is to hold there. -/
structure Zone where
  p : Nat
  F : Env → Hp → Prop
  old : Tk
  tl : List Oper
structure DCond (C : Ctx) (l0 : List Oper) (p : Nat) (old : Tk) (m : Nat) (o : Oper) (s : DState) (r : DRow) (s' : DState) : Prop where
  loc : ∀ H H' : Hist, (∀ j, dep l0.toArray j m = true → H j = H' j) → ∀ v N, r.φ H v N → r.φ H' v N
  val : ∀ H : Hist, r.φ H (H m).1 (H m).2 → r.t H = (H m).1 ∧ r.M H = (H m).2
  hE : ∀ H, s'.E H = putE o.dst (r.t H) (s.E H)
  hN : ∀ H, s'.Nw H = s.Nw H ++ r.M H
  hG : s'.G = s.G ++ (match r.pf with | none => [] | some p => [(m, p)])
  hpf : ∀ p, r.pf = some p → ∀ H : Hist, r.φ H (H m).1 (H m).2 → p H
  same : r.st = false → s'.B = s.B
  store : r.st = true → okStore l0 m = true ∧ isMem o.op = true ∧ ∃ (q : Nat) (ob : Hist → Asr), (∀ H, s'.B H = (s.B H).set q (ob H)) ∧ ∀ H H' : Hist, (∀ j, dep l0.toArray j m = true → H j = H' j) → ob H = ob H'
  fits : fitsN C.n o.dst = true
  step : m < p → ∀ H, Facts l0 m s.G H → ∃ b, wantedE l0.toArray (s.E H) o.guard = some b ∧ (b = false → r.st = false ∧ old.tk m H = [] ∧ (∀ m', old.cz m' ≠ some m) ∧ r.φ H undef []) ∧
    (b = true → ((∀ m', old.cz m' ≠ some m) ∧ ((old.tk m H = [] ∧ if isMem o.op = true then Does C (s.E H) (s.B H ++ newsDeps l0 m H) (s'.B H ++ newsDeps l0 m H) o (r.φ H) else Does C (s.E H) [] [] o (r.φ H)) ∨
      (r.st = false ∧ Does C (s.E H) (old.tk m H) [] o (r.φ H)))) ∨
      (r.st = false ∧ old.tk m H = [] ∧ ∃ m', old.cz m' = some m ∧ Does C (s.E H) [] [] o fun v N => r.φ H v [] ∧ ∀ H' : Hist, (H' m).1 = v → N = old.tk m' H'))
inductive DW (C : Ctx) (l0 : List Oper) (z : Zone) : List Oper → Nat → DState → Prop
  | nil {m : Nat} {s : DState} (h : ∀ H, (∀ p ∈ s.G, p.2 H) → z.F (s.E H) (s.B H ++ s.Nw H)) : DW C l0 z [] m s
  | cons {o : Oper} {l : List Oper} {m : Nat} {s : DState} (r : DRow) (s' : DState) (hc : DCond C l0 z.p z.old m o s r s') (h : DW C l0 z l (m + 1) s') : DW C l0 z (o :: l) m s
/-- Behind the drawn ones: whatever comes. -/
def behind (l0 : List Oper) (m : Nat) (s : DState) : Nat → DState
  | 0 => s
  | n + 1 => ⟨fun H => putE ((l0[m + n]?).bind (·.dst)) (H (m + n)).1 ((behind l0 m s n).E H), (behind l0 m s n).B, fun H => (behind l0 m s n).Nw H ++ (H (m + n)).2, (behind l0 m s n).G⟩
theorem DW.tab {C : Ctx} {l0 : List Oper} {z : Zone} {l : List Oper} {m : Nat} {s : DState} (h : DW C l0 z l m s) (hfit : ∀ i o, z.p ≤ i → l0[i]? = some o → fitsN C.n o.dst = true)
    (hl : ∀ j, j < l.length → l[j]? = l0[m + j]?) (hz : m + l.length = z.p) :
    ∃ (S : Nat → DState) (R : Nat → DRow), S m = s ∧ (∀ i o, m ≤ i → l0[i]? = some o → DCond C l0 z.p z.old i o (S i) (R i) (S (i + 1))) ∧
      ∀ H, (∀ p ∈ (S z.p).G, p.2 H) → z.F ((S z.p).E H) ((S z.p).B H ++ (S z.p).Nw H) := by
  induction h with
  | @nil m s h =>
    have hm : z.p = m := by simpa using hz.symm
    refine ⟨fun i => behind l0 m s (i - m), fun i => ⟨fun _ _ _ => True, fun H => (H i).1, fun H => (H i).2, none, false⟩, by simp [behind], fun i o hi ho => ?_, by simpa [hm, behind] using h⟩
    have e : i + 1 - m = (i - m) + 1 := by omega
    have e2 : m + (i - m) = i := by omega
    refine ⟨fun _ _ _ _ _ h => h, fun _ _ => ⟨rfl, rfl⟩, fun H => ?_, fun H => ?_, ?_, fun _ h => (by cases h), fun _ => ?_, fun h => (by cases h), hfit i o (by omega) ho, fun h => absurd h (by omega)⟩
    · simp only [e, behind, e2, ho, Option.bind_some]
    · simp only [e, behind, e2]
    · simp only [e, behind, List.append_nil]
    · simp only [e, behind]
  | @cons o l m s r s' hc h ih =>
    obtain ⟨S, R, hS, hC, hF⟩ := ih (fun j hj => by have := hl (j + 1) (by simpa using hj); simpa [Nat.add_assoc, Nat.add_comm 1 j] using this) (by rw [← hz]; simp; omega)
    have ho : l0[m]? = some o := by simpa using (hl 0 (by simp)).symm
    refine ⟨fun i => if i = m then s else S i, fun i => if i = m then r else R i, by simp, fun i o' hi ho' => ?_, ?_⟩
    · by_cases him : i = m
      · subst him
        rw [ho] at ho'
        cases ho'
        simp only [if_true, show ¬ i + 1 = i by omega, if_false, hS]
        exact hc
      · simp only [him, show ¬ i + 1 = m by omega, if_false]
        exact hC i o' (by omega) ho'
    · have e : ¬ z.p = m := by rw [← hz]; simp
      simp only [e, if_false]
      exact hF
/-! ### whatever order -/
def news (n : Nat) (listed : Array Bool) (H : Hist) : Hp := ((List.range n).filter fun j => listed.getD j false).flatMap fun j => (H j).2
/-- What stores that haven't come up will turn. -/
def pend (n : Nat) (old : Tk) (listed : Array Bool) (H : Hist) : Hp := (List.range n).flatMap fun m => if (!listed.getD m false && (match old.cz m with | none => true | some j => listed.getD j false)) = true then old.tk m H else []
/-- The last one ahead of m that writes the slot. -/
def lastW (l0 : List Oper) (d : Nat) : Nat → Option Nat
  | 0 => none
  | m + 1 => if (l0[m]?).bind (·.dst) = some d then some m else lastW l0 d m
theorem lastW_some {l0 : List Oper} {d : Nat} : ∀ {m j : Nat}, lastW l0 d m = some j → j < m ∧ (l0[j]?).bind (·.dst) = some d ∧ ∀ i, i < m → (l0[i]?).bind (·.dst) = some d → i ≤ j
  | 0, _, h => by cases h
  | m + 1, j, h => by
    simp only [lastW] at h
    split at h
    · rename_i hd
      cases h
      exact ⟨by omega, hd, fun i hi _ => by omega⟩
    · rename_i hd
      have := lastW_some h
      refine ⟨by omega, this.2.1, fun i hi hw => ?_⟩
      by_cases him : i = m
      · subst him; exact absurd hw hd
      · exact this.2.2 i (by omega) hw
theorem lastW_none {l0 : List Oper} {d : Nat} : ∀ {m : Nat}, lastW l0 d m = none → ∀ i, i < m → (l0[i]?).bind (·.dst) ≠ some d
  | 0, _, i, hi => by omega
  | m + 1, h, i, hi => by
    simp only [lastW] at h
    split at h
    · cases h
    · rename_i hd
      by_cases him : i = m
      · subst him; exact hd
      · exact lastW_none h i (by omega)
theorem putE_get (dst : Option Nat) (v : Value) (E : Env) (d : Nat) : (putE dst v E).get d = if dst = some d then some v else E.get d := by
  cases dst with
  | none => simp [putE]
  | some e =>
    simp only [putE, Env.get, Option.some.injEq]
    by_cases h : e = d
    · subst h; simp
    · have : Nat.beq e d = false := by
        cases hh : Nat.beq e d with
        | false => rfl
        | true => exact absurd (Nat.eq_of_beq_eq_true hh) h
      simp [this, h]
section
variable {C : Ctx} {l0 : List Oper} {S : Nat → DState} {R : Nat → DRow} {p : Nat} {old : Tk}
theorem tab_get (hC : ∀ i o, l0[i]? = some o → DCond C l0 p old i o (S i) (R i) (S (i + 1))) (H : Hist) (d : Nat) : ∀ m, m ≤ l0.length →
    ((S m).E H).get d = match lastW l0 d m with | some j => some ((R j).t H) | none => ((S 0).E H).get d
  | 0, _ => rfl
  | m + 1, hm => by
    have ho : l0[m]? = some l0[m] := List.getElem?_eq_getElem (by omega)
    rw [(hC m _ ho).hE H, putE_get, tab_get hC H d m (by omega)]
    simp only [lastW, ho, Option.bind_some]
    split <;> rfl
theorem tab_facts (hC : ∀ i o, l0[i]? = some o → DCond C l0 p old i o (S i) (R i) (S (i + 1))) (h0 : (S 0).G = []) : ∀ m, m ≤ l0.length → ∀ p ∈ (S m).G, p.1 < m ∧ (R p.1).pf = some p.2
  | 0, _, p, hp => by rw [h0] at hp; cases hp
  | m + 1, hm, p, hp => by
    have ho : l0[m]? = some l0[m] := List.getElem?_eq_getElem (by omega)
    rw [(hC m _ ho).hG] at hp
    rcases List.mem_append.1 hp with hp | hp
    · have := tab_facts hC h0 m (by omega) p hp
      exact ⟨by omega, this.2⟩
    · split at hp
      · cases hp
      · rename_i q hq
        simp at hp
        subst hp
        exact ⟨by simp, hq⟩
theorem tab_news (hC : ∀ i o, l0[i]? = some o → DCond C l0 p old i o (S i) (R i) (S (i + 1))) (h0 : ∀ H, (S 0).Nw H = []) (H : Hist) {q : Nat} (hq : q ≤ l0.length) (hv : ∀ m, m < q → (R m).φ H (H m).1 (H m).2) : ∀ m, m ≤ q →
    (S m).Nw H = (List.range m).flatMap fun j => (H j).2
  | 0, _ => by simp [h0]
  | m + 1, hm => by
    have ho : l0[m]? = some l0[m] := List.getElem?_eq_getElem (by omega)
    rw [(hC m _ ho).hN, tab_news hC h0 H hq hv m (by omega), ((hC m _ ho).val H (hv m (by omega))).2, List.range_succ]
    simp
theorem tab_B (hC : ∀ i o, l0[i]? = some o → DCond C l0 p old i o (S i) (R i) (S (i + 1))) : ∀ s s', s ≤ s' → s' ≤ l0.length → (∀ j, s ≤ j → j < s' → (R j).st = false) → (S s').B = (S s).B := by
  intro s s' h
  induction s' with
  | zero => intro _ _; rw [show s = 0 by omega]
  | succ m ih =>
    intro hm hst
    by_cases e : s = m + 1
    · rw [e]
    · have ho : l0[m]? = some l0[m] := List.getElem?_eq_getElem (by omega)
      rw [(hC m _ ho).same (hst m (by omega) (by omega))]
      exact ih (by omega) (by omega) fun j h1 h2 => hst j h1 (by omega)
theorem tab_B2 (hC : ∀ i o, l0[i]? = some o → DCond C l0 p old i o (S i) (R i) (S (i + 1))) {s s' : Nat} (hs : s ≤ l0.length) (hs' : s' ≤ l0.length) (h : ∀ j, j < l0.length → (R j).st = true → (j < s ↔ j < s')) : (S s').B = (S s).B := by
  rcases Nat.le_total s s' with hle | hle
  · refine tab_B hC s s' hle hs' fun j h1 h2 => ?_
    cases hj : (R j).st with
    | false => rfl
    | true => have := (h j (by omega) hj).2 h2; omega
  · refine (tab_B hC s' s hle hs fun j h1 h2 => ?_).symm
    cases hj : (R j).st with
    | false => rfl
    | true => have := (h j (by omega) hj).1 h2; omega
theorem tab_Bloc (hC : ∀ i o, l0[i]? = some o → DCond C l0 p old i o (S i) (R i) (S (i + 1))) (h0 : ∀ H H', (S 0).B H = (S 0).B H') (H H' : Hist) : ∀ s, s ≤ l0.length →
    (∀ j, j < s → (R j).st = true → ∀ i, dep l0.toArray i j = true → H i = H' i) → (S s).B H = (S s).B H'
  | 0, _, _ => h0 H H'
  | m + 1, hm, h => by
    have ho : l0[m]? = some l0[m] := List.getElem?_eq_getElem (by omega)
    have ih := tab_Bloc hC h0 H H' m (by omega) fun j hj => h j (by omega)
    cases hst : (R m).st with
    | false => rw [(hC m _ ho).same hst]; exact ih
    | true =>
      obtain ⟨_, _, q, ob, hob, hloc⟩ := (hC m _ ho).store hst
      rw [hob, hob, ih, hloc H H' (h m (by omega) hst)]
end
theorem filter_put {p : Nat → Bool} {i : Nat} (hp : p i = false) : ∀ {l : List Nat}, l.Nodup → i ∈ l → (l.filter fun j => p j || j == i).Perm (l.filter p ++ [i])
  | [], _, h => by cases h
  | x :: l, hn, h => by
    have hn' := List.nodup_cons.1 hn
    by_cases hx : x = i
    · subst hx
      have e : (l.filter fun j => p j || j == x) = l.filter p := List.filter_congr fun j hj => by
        have : j ≠ x := fun e => hn'.1 (e ▸ hj)
        simp [this]
      simp only [List.filter_cons, hp, Bool.false_or, beq_self_eq_true, if_true, e]
      exact (List.perm_append_comm (l₁ := [x]))
    · have hi : i ∈ l := by
        rcases List.mem_cons.1 h with h | h
        · exact absurd h.symm hx
        · exact h
      have ih := filter_put hp hn'.2 hi
      simp only [List.filter_cons]
      have e : (x == i) = false := by simp [hx]
      simp only [e, Bool.or_false]
      split
      · exact ih.cons x
      · exact ih
theorem flatMap_upd {f g : Nat → Hp} {i : Nat} (hg : g i = []) (h : ∀ j, j ≠ i → f j = g j) : ∀ n, i < n → ((List.range n).flatMap f).Perm ((List.range n).flatMap g ++ f i)
  | 0, hi => by omega
  | n + 1, hi => by
    rw [List.range_succ, List.flatMap_append, List.flatMap_append]
    simp only [List.flatMap_cons, List.flatMap_nil, List.append_nil]
    by_cases hin : i = n
    · subst hin
      rw [hg, List.append_nil]
      refine List.Perm.append_right _ (List.Perm.of_eq ?_)
      rw [List.flatMap_def, List.flatMap_def]
      congr 1
      exact List.map_congr_left fun j hj => h j (by have := List.mem_range.1 hj; omega)
    · rw [h n (fun e => hin e.symm)]
      refine (List.Perm.append_right _ (flatMap_upd hg h n (by omega))).trans ?_
      rw [List.append_assoc, List.append_assoc]
      exact List.Perm.append_left _ List.perm_append_comm
theorem getD_put {listed : Array Bool} {i j : Nat} (hi : i < listed.size) : (listed.setIfInBounds i true).getD j false = if j = i then true else listed.getD j false := by
  by_cases h : j = i
  · subst h; simp [hi]
  · rw [getD_set_ne false (fun e => h e.symm), if_neg h]
theorem pend_take {n : Nat} {old : Tk} {listed : Array Bool} {H : Hist} {i : Nat} {x : Value × Hp} (hl : listed.size = n) (hi : i < n) (hun : listed.getD i false = false) (hno : ∀ m', old.cz m' ≠ some i) (hav : ∀ j, old.cz i = some j → listed.getD j false = true) :
    (pend n old listed H).Perm (pend n old (listed.setIfInBounds i true) (fun j => if j = i then x else H j) ++ old.tk i H) := by
  have hls : i < listed.size := by rw [hl]; exact hi
  unfold pend
  have key := flatMap_upd (i := i) (f := fun m => if (!listed.getD m false && (match old.cz m with | none => true | some j => listed.getD j false)) = true then old.tk m H else [])
    (g := fun m => if (!(listed.setIfInBounds i true).getD m false && (match old.cz m with | none => true | some j => (listed.setIfInBounds i true).getD j false)) = true then old.tk m (fun j => if j = i then x else H j) else [])
    (by simp only [getD_put hls]; simp) (fun m hm => ?_) n hi
  · refine key.trans (List.Perm.append_left _ (List.Perm.of_eq ?_))
    simp only [hun, Bool.not_false, Bool.true_and]
    cases hc : old.cz i with
    | none => rfl
    | some j => simp only [hav j hc]; rfl
  · have e1 : old.tk m (fun j => if j = i then x else H j) = old.tk m H := old.hloc m _ _ fun j hj => by
      have : j ≠ i := fun e => hno m (e ▸ hj)
      simp [this]
    rw [e1]
    simp only [getD_put hls, if_neg hm]
    cases hc : old.cz m with
    | none => rfl
    | some j =>
      have : j ≠ i := fun e => hno m (e ▸ hc)
      simp only [if_neg this]
theorem pend_give {n : Nat} {old : Tk} {listed : Array Bool} {H : Hist} {i m0 : Nat} {x : Value × Hp} (hl : listed.size = n) (hi : i < n) (hm0 : m0 < n) (hne : m0 ≠ i) (hun : listed.getD i false = false) (hun0 : listed.getD m0 false = false) (hc : old.cz m0 = some i) (hno : old.tk i H = []) :
    (pend n old (listed.setIfInBounds i true) (fun j => if j = i then x else H j)).Perm (pend n old listed H ++ old.tk m0 (fun j => if j = i then x else H j)) := by
  have hls : i < listed.size := by rw [hl]; exact hi
  unfold pend
  have key := flatMap_upd (i := m0) (g := fun m => if (!listed.getD m false && (match old.cz m with | none => true | some j => listed.getD j false)) = true then old.tk m H else [])
    (f := fun m => if (!(listed.setIfInBounds i true).getD m false && (match old.cz m with | none => true | some j => (listed.setIfInBounds i true).getD j false)) = true then old.tk m (fun j => if j = i then x else H j) else [])
    (by simp only [hc, hun, Bool.and_false]; rfl) (fun m hm => ?_) n hm0
  · refine key.trans (List.Perm.append_left _ (List.Perm.of_eq ?_))
    simp only [getD_put hls, if_neg hne, hun0, hc]
    rfl
  · simp only [getD_put hls]
    by_cases hmi : m = i
    · subst hmi
      simp [hno]
    · have hcm : old.cz m ≠ some i := fun e => hm (old.hinj _ _ _ e hc)
      have e1 : old.tk m (fun j => if j = i then x else H j) = old.tk m H := old.hloc m _ _ fun j hj => by
        have : j ≠ i := fun e => hcm (e ▸ hj)
        simp [this]
      rw [e1, if_neg hmi]
      cases hc2 : old.cz m with
      | none => rfl
      | some j =>
        have : j ≠ i := fun e => hcm (e ▸ hc2)
        simp only [if_neg this]
theorem pend_any {n : Nat} {old : Tk} {listed : Array Bool} {H : Hist} {i : Nat} (hno : ∀ m', old.cz m' ≠ some i) (x y : Value × Hp) : pend n old listed (fun j => if j = i then x else H j) = pend n old listed (fun j => if j = i then y else H j) := by
  unfold pend
  rw [List.flatMap_def, List.flatMap_def]
  congr 1
  refine List.map_congr_left fun m _ => ?_
  have : old.tk m (fun j => if j = i then x else H j) = old.tk m (fun j => if j = i then y else H j) := old.hloc m _ _ fun j hj => by
    have : j ≠ i := fun e => hno m (e ▸ hj)
    simp [this]
  rw [this]
structure Inv (C : Ctx) (l0 : List Oper) (S : Nat → DState) (R : Nat → DRow) (old : Tk) (listed : Array Bool) (a : Act) (w : World) (H : Hist) : Prop where
  lsz : listed.size = l0.length
  closed : ∀ j m, dep l0.toArray j m = true → listed.getD m false = true → listed.getD j false = true
  valid : ∀ m, listed.getD m false = true → (R m).φ H (H m).1 (H m).2
  size : a.tmps.size = C.n
  defers : a.defers = []
  act : ∀ d m, m ≤ l0.length → (∀ j, (l0[j]?).bind (·.dst) = some d → (j < m ↔ listed.getD j false = true)) →
    match lastW l0 d m with
    | some j => a.tmps[d]? = some (H j).1
    | none => ∀ v, ((S 0).E H).get d = some v → a.tmps[d]? = some v
  mem : ∃ s, s ≤ l0.length ∧ (∀ j, j < l0.length → (R j).st = true → (j < s ↔ listed.getD j false = true)) ∧ St C (((S s).B H ++ news l0.length listed H) ++ pend l0.length old listed H) w
section
variable {C : Ctx} {l0 : List Oper} {S : Nat → DState} {R : Nat → DRow} {p : Nat} {old : Tk}
variable (hok : okReg l0 = true) (hC : ∀ i o, l0[i]? = some o → DCond C l0 p old i o (S i) (R i) (S (i + 1))) (hG0 : (S 0).G = []) (hN0 : ∀ H, (S 0).Nw H = []) (hE0 : ∀ H H', (S 0).E H = (S 0).E H') (hB0 : ∀ H H', (S 0).B H = (S 0).B H')

include hok in
theorem ready_deps {listed : Array Bool} (hcl : ∀ j m, dep l0.toArray j m = true → listed.getD m false = true → listed.getD j false = true) {i : Nat} (hr : i ∈ Region.ready .any l0.toArray listed) :
    ∀ j, dep l0.toArray j i = true → listed.getD j false = true := by
  intro j hj
  obtain ⟨_, o, ho, hall⟩ := mem_ready.1 hr
  have ho' : l0[i]? = some o := by simpa using ho
  obtain ⟨e, he, hb, h⟩ := dep_spec ho' (okReg_after hok ho') hj
  have := hall e he hb
  rcases h with rfl | h
  · exact this
  · exact hcl _ _ h this

include hok hC hG0 in
/-- What an operation that may come up now sees. -/
theorem Inv.sees {listed : Array Bool} {a : Act} {w : World} {H : Hist} (h : Inv C l0 S R old listed a w H) {i : Nat} (hr : i ∈ Region.ready .any l0.toArray listed) (hun : listed.getD i false = false) {o : Oper} (ho : l0[i]? = some o) :
    (∀ d ∈ slotsOf l0.toArray o, ∀ v, ((S i).E H).get d = some v → a.tmps[d]? = some v) ∧ Facts l0 i (S i).G H := by
  have hi : i < l0.length := (List.getElem?_eq_some_iff.1 ho).1
  have hdeps := ready_deps hok h.closed hr
  constructor
  · intro d hd v hv
    have hcond : ∀ j, (l0[j]?).bind (·.dst) = some d → (j < i ↔ listed.getD j false = true) := by
      intro j hj
      cases hp : l0[j]? with
      | none => simp [hp] at hj
      | some p =>
        have hpd : p.dst = some d := by simpa [hp] using hj
        constructor
        · intro hji
          have := okReg_slot hok ho hp hpd hd (by omega)
          rw [Nat.min_eq_left (by omega), Nat.max_eq_right (by omega)] at this
          exact hdeps j this
        · intro hl
          rcases Nat.lt_trichotomy j i with h1 | h1 | h1
          · exact h1
          · subst h1; rw [hun] at hl; cases hl
          · have := okReg_slot hok ho hp hpd hd (by omega)
            rw [Nat.min_eq_right (by omega), Nat.max_eq_left (by omega)] at this
            have := h.closed _ _ this hl
            rw [hun] at this; cases this
    have h1 := h.act d i (by omega) hcond
    have h2 := tab_get hC H d i (by omega)
    cases hlw : lastW l0 d i with
    | some j =>
      rw [hlw] at h1 h2
      simp only at h1 h2
      have hj := lastW_some hlw
      have hlj := (hcond j hj.2.1).1 hj.1
      have hoj : l0[j]? = some l0[j] := List.getElem?_eq_getElem (by omega)
      have := ((hC j _ hoj).val H (h.valid j hlj)).1
      rw [h1, ← this]
      rw [h2] at hv
      exact hv
    | none =>
      rw [hlw] at h1 h2
      simp only at h1 h2
      exact h1 v (by rw [← h2]; exact hv)
  · intro p hp hd
    have h1 := tab_facts hC hG0 i (by omega) p hp
    have hoj : l0[p.1]? = some l0[p.1] := List.getElem?_eq_getElem (by omega)
    exact (hC _ _ hoj).hpf _ h1.2 H (h.valid _ (hdeps _ hd))

include hok hC hE0 hB0 in
/-- A slot and its value: the frame behind an operation. -/
theorem Inv.put {listed : Array Bool} {a : Act} {w : World} {H : Hist} (h : Inv C l0 S R old listed a w H) {i : Nat} (hr : i ∈ Region.ready .any l0.toArray listed) (hun : listed.getD i false = false) {o : Oper} (ho : l0[i]? = some o)
    {v : Value} {N : Hp} (hφ : (R i).φ H v N) {w' : World}
    (hmem : ∃ s, s ≤ l0.length ∧ (∀ j, j < l0.length → (R j).st = true → (j < s ↔ (listed.setIfInBounds i true).getD j false = true)) ∧ St C (((S s).B H ++ (news l0.length listed H ++ N)) ++ pend l0.length old (listed.setIfInBounds i true) (fun j => if j = i then (v, N) else H j)) w') :
    Inv C l0 S R old (listed.setIfInBounds i true) (a.put o.dst v) w' (fun j => if j = i then (v, N) else H j) := by
  have hi : i < l0.length := (List.getElem?_eq_some_iff.1 ho).1
  have hil : i < listed.size := by rw [h.lsz]; exact hi
  have hdeps := ready_deps hok h.closed hr
  have hset : ∀ j, (listed.setIfInBounds i true).getD j false = (listed.getD j false || j == i) := by
    intro j
    by_cases hj : i = j
    · subst hj; simp [hil]
    · rw [getD_set_ne false hj]
      have : (j == i) = false := by simp; exact fun e => hj e.symm
      simp [this]
  have hagree : ∀ m, listed.getD m false = true ∨ m = i → ∀ j, dep l0.toArray j m = true → H j = (fun j => if j = i then (v, N) else H j) j := by
    intro m hm j hj
    have hlj : listed.getD j false = true := by
      rcases hm with hm | rfl
      · exact h.closed j m hj hm
      · exact hdeps j hj
    have : j ≠ i := by rintro rfl; rw [hun] at hlj; cases hlj
    simp [this]
  refine ⟨by simpa using h.lsz, ?_, ?_, ?_, ?_, ?_, ?_⟩
  · intro j m hd hm
    rw [hset] at hm ⊢
    rcases Bool.or_eq_true_iff.1 hm with hm | hm
    · simp [h.closed j m hd hm]
    · have : m = i := by simpa using hm
      subst this
      simp [hdeps j hd]
  · intro m hm
    rw [hset] at hm
    rcases Bool.or_eq_true_iff.1 hm with hm | hm
    · have hmi : m ≠ i := fun e => by rw [e, hun] at hm; exact absurd hm (by simp)
      have hml : m < l0.length := by
        rcases Nat.lt_or_ge m l0.length with h1 | h1
        · exact h1
        · rw [Array.getD_eq_getD_getElem?, Array.getElem?_eq_none (by rw [h.lsz]; exact h1)] at hm; cases hm
      have hom : l0[m]? = some l0[m] := List.getElem?_eq_getElem hml
      have := (hC m _ hom).loc H _ (hagree m (.inl hm)) _ _ (h.valid m hm)
      simpa [hmi] using this
    · have hmi : m = i := by simpa using hm
      subst hmi
      have := (hC m _ ho).loc H _ (hagree m (.inr rfl)) _ _ hφ
      simpa using this
  · cases hd : o.dst <;> simp [Act.put, h.size]
  · cases hd : o.dst <;> simp [Act.put, h.defers]
  · intro d m hm hcond
    have hdst : o.dst = some d → i < m := fun hd => (hcond i (by simp [ho, hd])).2 (by rw [hset]; simp)
    by_cases hod : o.dst = some d
    · have him := hdst hod
      have hdn : d < a.tmps.size := by
        have := (hC i _ ho).fits
        rw [hod] at this
        rw [h.size]
        simpa [fitsN] using this
      have hlast : lastW l0 d m = some i := by
        cases hlw : lastW l0 d m with
        | none => exact absurd (show (l0[i]?).bind (·.dst) = some d by simp [ho, hod]) (lastW_none hlw i him)
        | some j =>
          have hj := lastW_some hlw
          have hij := hj.2.2 i him (by simp [ho, hod])
          rcases Nat.eq_or_lt_of_le hij with h1 | h1
          · rw [h1]
          · exfalso
            have hlj := (hcond j hj.2.1).1 hj.1
            rw [hset] at hlj
            have hlj' : listed.getD j false = true := by
              rcases Bool.or_eq_true_iff.1 hlj with h2 | h2
              · exact h2
              · have : j = i := by simpa using h2
                omega
            cases hp : l0[j]? with
            | none => have := hj.2.1; simp [hp] at this
            | some p =>
              have hpd : p.dst = some d := by have := hj.2.1; simpa [hp] using this
              have hds : d ∈ slotsOf l0.toArray o := by unfold slotsOf; rw [hod]; simp
              have := okReg_slot hok ho hp hpd hds (by omega)
              rw [Nat.min_eq_right (by omega), Nat.max_eq_left (by omega)] at this
              have := h.closed _ _ this hlj'
              rw [hun] at this; cases this
      rw [hlast]
      simp [Act.put, hod, hdn]
    · have hcond' : ∀ j, (l0[j]?).bind (·.dst) = some d → (j < m ↔ listed.getD j false = true) := by
        intro j hj
        have hji : j ≠ i := by rintro rfl; simp [ho] at hj; exact hod hj
        have := hcond j hj
        rw [hset] at this
        simpa [hji] using this
      have h1 := h.act d m hm hcond'
      have hput : (a.put o.dst v).tmps[d]? = a.tmps[d]? := by
        cases hd : o.dst with
        | none => rfl
        | some e =>
          have : e ≠ d := fun e' => hod (by rw [hd, e'])
          simp [Act.put, Array.getElem?_setIfInBounds_ne this]
      cases hlw : lastW l0 d m with
      | none =>
        rw [hlw] at h1
        simp only at h1 ⊢
        rw [hput, hE0 _ H]
        exact h1
      | some j =>
        rw [hlw] at h1
        simp only at h1 ⊢
        have hj := lastW_some hlw
        have hji : j ≠ i := by
          rintro rfl
          have := hj.2.1
          simp [ho] at this
          exact hod this
        rw [hput]
        simpa [hji] using h1
  · obtain ⟨s, hs, hst, hS⟩ := hmem
    refine ⟨s, hs, hst, ?_⟩
    have hB : (S s).B (fun j => if j = i then (v, N) else H j) = (S s).B H := by
      refine (tab_Bloc hC hB0 H _ s hs fun j hj hjs x hx => ?_).symm
      have hlj := (hst j (by omega) hjs).1 hj
      rw [hset] at hlj
      refine hagree j ?_ x hx
      rcases Bool.or_eq_true_iff.1 hlj with h2 | h2
      · exact .inl h2
      · exact .inr (by simpa using h2)
    rw [hB]
    refine hS.perm (List.Perm.append_right _ (List.Perm.append_left _ ?_))
    unfold news
    have e1 : ((List.range l0.length).filter fun j => (listed.setIfInBounds i true).getD j false) = (List.range l0.length).filter fun j => listed.getD j false || j == i := List.filter_congr fun j _ => hset j
    have e2 := filter_put (p := fun j => listed.getD j false) hun List.nodup_range (List.mem_range.2 hi)
    rw [e1]
    refine List.Perm.trans ?_ ((e2.flatMap_right _).symm)
    rw [List.flatMap_append]
    have e3 : ((List.range l0.length).filter fun j => listed.getD j false).flatMap (fun j => ((fun j => if j = i then (v, N) else H j) j : Value × Hp).2) = ((List.range l0.length).filter fun j => listed.getD j false).flatMap fun j => (H j).2 := by
      rw [List.flatMap_def, List.flatMap_def]
      congr 1
      refine List.map_congr_left fun j hj => ?_
      have hl := (List.mem_filter.1 hj).2
      have : j ≠ i := fun e => by rw [e, hun] at hl; exact absurd hl (by simp)
      simp [this]
    rw [e3]
    have e4 : [i].flatMap (fun j => ((fun j => if j = i then (v, N) else H j) j : Value × Hp).2) = N := by simp
    rw [e4]
end
section
variable {C : Ctx} {l0 : List Oper} {S : Nat → DState} {R : Nat → DRow} {p : Nat} {old : Tk}
variable (hok : okReg l0 = true) (hC : ∀ i o, l0[i]? = some o → DCond C l0 p old i o (S i) (R i) (S (i + 1))) (hG0 : (S 0).G = []) (hE0 : ∀ H H', (S 0).E H = (S 0).E H') (hB0 : ∀ H H', (S 0).B H = (S 0).B H')

include hok hC hG0 hE0 hB0 in
/-- One operation comes up. -/
theorem Inv.go (hEn : ∀ i, i ≤ l0.length → ∀ H d v, ((S i).E H).get d = some v → d < C.n) {listed : Array Bool} {a : Act} {w : World} {H : Hist} (h : Inv C l0 S R old listed a w H) {i : Nat} (hr : i ∈ Region.ready .any l0.toArray listed) (hun : listed.getD i false = false) (hip : i < p)
    (hdz : ∀ m j, old.cz m = some j → dep l0.toArray j m = true) {Q : Exit → Act → World → Prop} {K : Act → World → Prop} (hK : ∀ a' w' H', Inv C l0 S R old (listed.setIfInBounds i true) a' w' H' → K a' w') : wpOp C.P l0.toArray Q i K a w := by
  obtain ⟨_, o, ho', _⟩ := mem_ready.1 hr
  have ho : l0[i]? = some o := by simpa using ho'
  have hi : i < l0.length := (List.getElem?_eq_some_iff.1 ho).1
  have hdeps := ready_deps hok h.closed hr
  obtain ⟨hsee, hfacts⟩ := h.sees hok hC hG0 hr hun ho
  obtain ⟨b, hb, hbf, hbt⟩ := (hC i o ho).step hip H hfacts
  have hwant : Region.wanted o (yielded l0.toArray a.tmps) = b := by
    have hg : ∀ d, (match o.guard with | some (g, _) => ((l0.toArray[g]?).bind (·.dst)).toList | none => []) = [d] → ∀ v, ((S i).E H).get d = some v → a.tmps[d]? = some v := fun d hd => hsee d (by unfold slotsOf; rw [hd]; simp)
    unfold wantedE at hb
    unfold Region.wanted
    split at hb
    · rename_i hgd; rw [hgd]; simpa using hb
    · rename_i j want hgd
      rw [hgd] at hg ⊢
      split at hb
      · rename_i d hd
        have key : ∀ v, ((S i).E H).get d = some v → ((l0.toArray[j]?).bind (·.dst)).bind (a.tmps[·]?) = some v := fun v hv => by
          rw [hd]; exact hg d (by simp only [hd]; rfl) v hv
        split at hb
        · rename_i c hc
          have := key _ hc
          simp only [yielded, this]
          simpa using hb
        · rename_i c hc
          have := key _ hc
          simp only [yielded, this]
          simpa using hb
        · cases hb
      · cases hb
  have hset : ∀ j, (listed.setIfInBounds i true).getD j false = (listed.getD j false || j == i) := by
    intro j
    have hil : i < listed.size := by rw [h.lsz]; exact hi
    by_cases hj : i = j
    · subst hj; simp [hil]
    · rw [getD_set_ne false hj]
      have : (j == i) = false := by simp; exact fun e => hj e.symm
      simp [this]
  obtain ⟨s, hs, hst, hS⟩ := h.mem
  have hO : (∀ m', old.cz m' ≠ some i) → ∀ x, (pend l0.length old listed H).Perm (pend l0.length old (listed.setIfInBounds i true) (fun j => if j = i then x else H j) ++ old.tk i H) := fun hno x =>
    pend_take h.lsz hi hun hno fun j hj => hdeps j (hdz i j hj)
  have hB1 : ∀ s', s' ≤ l0.length → (∀ j, j < l0.length → (R j).st = true → (j < s' ↔ listed.getD j false = true)) → (S s').B = (S s).B := fun s' hs' h' =>
    tab_B2 hC hs hs' fun j hj hjs => (hst j hj hjs).trans (h' j hj hjs).symm
  have hcurS : (R i).st = false → ∀ s, (∀ j, j < l0.length → (R j).st = true → (j < s ↔ listed.getD j false = true)) → ∀ j, j < l0.length → (R j).st = true → (j < s ↔ (listed.setIfInBounds i true).getD j false = true) := fun hri s hs' j hj hjs => by
    have : j ≠ i := fun e => by rw [e, hri] at hjs; cases hjs
    rw [hset, hs' j hj hjs]
    simp [this]
  have hmemi : isMem o.op = true → ∀ j, j < l0.length → (R j).st = true → (j < i ↔ listed.getD j false = true) := fun hm j hj hjs => by
    have hoj : l0[j]? = some l0[j] := List.getElem?_eq_getElem hj
    by_cases hji : j = i
    · subst hji; simp [hun]
    · have := okStore_spec ((hC j _ hoj).store hjs).1 ho hm (Ne.symm hji)
      constructor
      · intro hlt
        rw [Nat.min_eq_right (by omega), Nat.max_eq_left (by omega)] at this
        exact hdeps j this
      · intro hl
        rcases Nat.lt_or_ge j i with h1 | h1
        · exact h1
        · rw [Nat.min_eq_left (by omega), Nat.max_eq_right (by omega)] at this
          have := h.closed _ _ this hl
          rw [hun] at this; cases this
  unfold wpOp
  rw [ho']
  simp only
  rw [hwant]
  cases b with
  | false =>
    simp only [Bool.false_eq_true, if_false]
    obtain ⟨h1, h3, h4, h2⟩ := hbf rfl
    have hO := hO h4 (undef, [])
    rw [h3, List.append_nil] at hO
    exact hK _ _ _ (h.put hok hC hE0 hB0 hr hun ho h2 ⟨s, hs, hcurS h1 s hst, (hS.perm (List.Perm.append_left _ hO)).perm (by simp)⟩)
  | true =>
    simp only [if_true]
    refine .inl ?_
    rcases hbt rfl with ⟨hno, hd⟩ | ⟨hri, htk, m0, hc0, hd⟩
    rotate_left
    · have hdm := hdz m0 i hc0
      have hlt := dep_lt hok hdm
      have hun0 : listed.getD m0 false = false := by
        cases hx : listed.getD m0 false with
        | false => rfl
        | true => have := h.closed _ _ hdm hx; rw [hun] at this; cases this
      have := hd.of_act (okReg_sel hok ho) (hEn i (by omega) H) h.size hsee (M := (S s).B H ++ news l0.length listed H ++ pend l0.length old listed H) (by simpa using hS)
      refine this.wp ?_
      rintro v w' ⟨N, ⟨hφ, hN⟩, hSn⟩
      refine hK _ _ _ (h.put hok hC hE0 hB0 hr hun ho hφ ⟨s, hs, hcurS hri s hst, hSn.perm ?_⟩)
      have hg := pend_give (x := (v, [])) h.lsz hi hlt.2 (by omega) hun hun0 hc0 htk
      rw [← hN (fun j => if j = i then (v, []) else H j) (by simp)] at hg
      rw [List.nil_append, List.append_nil, List.append_assoc]
      exact List.Perm.append_left _ hg.symm
    rcases hd with ⟨hold, hd⟩ | ⟨hri, hd⟩
    rotate_left
    · have hS' : St C (old.tk i H ++ ((S s).B H ++ news l0.length listed H ++ pend l0.length old (listed.setIfInBounds i true) (fun j => if j = i then (undef, []) else H j))) w :=
        hS.perm ((List.Perm.append_left _ (hO hno (undef, []))).trans (by rw [← List.append_assoc]; exact List.perm_append_comm))
      have := hd.of_act (okReg_sel hok ho) (hEn i (by omega) H) h.size hsee hS'
      refine this.wp ?_
      rintro v w' ⟨N, hφ, hSn⟩
      refine hK _ _ _ (h.put hok hC hE0 hB0 hr hun ho hφ ⟨s, hs, hcurS hri s hst, hSn.perm ?_⟩)
      rw [pend_any hno (undef, []) (v, N), List.nil_append, List.append_assoc]
      exact (List.Perm.append_left _ List.perm_append_comm).trans (List.Perm.of_eq (by simp only [List.append_assoc]))
    have hO1 := hO hno (undef, [])
    rw [hold, List.append_nil] at hO1
    replace hS := hS.perm (List.Perm.append_left _ hO1)
    have hpa : ∀ x, pend l0.length old (listed.setIfInBounds i true) (fun j => if j = i then (undef, []) else H j) = pend l0.length old (listed.setIfInBounds i true) (fun j => if j = i then x else H j) := fun x => pend_any hno (undef, []) x
    clear hO hO1
    by_cases hm : isMem o.op = true
    · rw [if_pos hm] at hd
      have hmi := hmemi hm
      have hBi := hB1 i (by omega) hmi
      let rst := ((((List.range l0.length).filter fun j => listed.getD j false).filter fun j => !dep l0.toArray j i).flatMap fun j => (H j).2)
      have hp : (news l0.length listed H).Perm (newsDeps l0 i H ++ rst) := by
        unfold news newsDeps
        rw [← List.flatMap_append]
        refine List.Perm.flatMap_right _ ?_
        have e : ((List.range l0.length).filter (dep l0.toArray · i)) = ((List.range l0.length).filter fun j => listed.getD j false).filter (dep l0.toArray · i) := by
          rw [List.filter_filter]
          refine List.filter_congr fun j _ => ?_
          cases hd : dep l0.toArray j i with
          | false => simp
          | true => simp [hdeps j hd]
        rw [e]
        exact (List.filter_append_perm _ _).symm
      have hS' : St C (((S i).B H ++ newsDeps l0 i H) ++ (rst ++ pend l0.length old (listed.setIfInBounds i true) (fun j => if j = i then (undef, []) else H j))) w := by
        rw [hBi]
        refine hS.perm ?_
        rw [← List.append_assoc]
        refine List.Perm.append_right _ ?_
        rw [List.append_assoc]
        exact List.Perm.append_left _ hp
      have := hd.of_act (okReg_sel hok ho) (hEn i (by omega) H) h.size hsee hS'
      refine this.wp ?_
      rintro v w' ⟨N, hφ, hSn⟩
      refine hK _ _ _ (h.put hok hC hE0 hB0 hr hun ho hφ ?_)
      have hperm : ∀ B : Hp, ((B ++ newsDeps l0 i H) ++ (rst ++ pend l0.length old (listed.setIfInBounds i true) (fun j => if j = i then (undef, []) else H j)) ++ N).Perm ((B ++ (news l0.length listed H ++ N)) ++ pend l0.length old (listed.setIfInBounds i true) (fun j => if j = i then (undef, []) else H j)) := fun B => by
        generalize pend l0.length old (listed.setIfInBounds i true) (fun j => if j = i then (undef, []) else H j) = O
        have h1 : ((B ++ newsDeps l0 i H) ++ (rst ++ O) ++ N).Perm (((B ++ newsDeps l0 i H) ++ rst ++ N) ++ O) := by
          rw [← List.append_assoc, List.append_assoc _ O, List.append_assoc _ N]
          exact List.Perm.append_left _ List.perm_append_comm
        refine h1.trans (List.Perm.append_right _ ?_)
        rw [List.append_assoc, List.append_assoc, ← List.append_assoc (newsDeps l0 i H)]
        exact List.Perm.append_left _ (List.Perm.append_right _ hp.symm)
      cases hri : (R i).st with
      | false =>
        rw [(hC i o ho).same hri] at hSn
        exact ⟨i, by omega, hcurS hri i hmi, by have := hSn.perm (hperm _); rwa [hpa (v, N)] at this⟩
      | true =>
        refine ⟨i + 1, by omega, fun j hj hjs => ?_, by have := hSn.perm (hperm _); rwa [hpa (v, N)] at this⟩
        rw [hset]
        have := hmi j hj hjs
        by_cases hji : j = i
        · subst hji; simp
        · have e : (j == i) = false := by simp [hji]
          rw [e, Bool.or_false, ← this]
          omega
    · rw [if_neg hm] at hd
      have hri : (R i).st = false := by
        cases hri : (R i).st with
        | false => rfl
        | true => exact absurd ((hC i o ho).store hri).2.1 hm
      have := hd.of_act (okReg_sel hok ho) (hEn i (by omega) H) h.size hsee (M := (S s).B H ++ news l0.length listed H ++ pend l0.length old (listed.setIfInBounds i true) (fun j => if j = i then (undef, []) else H j)) (by simpa using hS)
      refine this.wp ?_
      rintro v w' ⟨N, hφ, hSn⟩
      refine hK _ _ _ (h.put hok hC hE0 hB0 hr hun ho hφ ⟨s, hs, hcurS hri s hst, hSn.perm ?_⟩)
      rw [← hpa (v, N), List.nil_append, List.append_assoc]
      exact (List.Perm.append_left _ List.perm_append_comm).trans (List.Perm.of_eq (by simp only [List.append_assoc]))
/-- Ordered behind all ahead of it, from p on. -/
def tailOk (l : List Oper) (p : Nat) : Bool :=
  let b := Region.before l.toArray
  l.zipIdx.all fun (_, m) => Nat.blt m p || (List.range m).all fun j => (b.getD m 0).testBit j
theorem tailOk_spec {l : List Oper} {p m j : Nat} (h : tailOk l p = true) (hm : p ≤ m) (hl : m < l.length) (hj : j < m) : dep l.toArray j m = true := by
  unfold tailOk at h
  simp only [List.all_eq_true, Bool.or_eq_true] at h
  have h1 := h (l[m], m) (by rw [List.mem_zipIdx_iff_getElem?]; simp [hl])
  rcases h1 with h1 | h1
  · simp only [Nat.blt_eq] at h1; omega
  · exact h1 j (List.mem_range.2 hj)
/-- All up to p are listed, and no other. -/
structure Upto (l0 : List Oper) (listed : Array Bool) (p : Nat) : Prop where
  size : listed.size = l0.length
  all : ∀ i, i < p → listed.getD i false = true
  none : ∀ i, p ≤ i → listed.getD i false = false
def left (l0 : List Oper) (listed : Array Bool) : Nat := ((List.range l0.length).filter fun j => !listed.getD j false).length
theorem left_put {l0 : List Oper} {listed : Array Bool} {i : Nat} (hl : listed.size = l0.length) (hi : i < l0.length) (hun : listed.getD i false = false) : left l0 (listed.setIfInBounds i true) + 1 = left l0 listed := by
  have hls : i < listed.size := by rw [hl]; exact hi
  have e : ((List.range l0.length).filter fun j => !listed.getD j false).Perm (((List.range l0.length).filter fun j => !(listed.setIfInBounds i true).getD j false) ++ [i]) := by
    have := filter_put (p := fun j => !(listed.setIfInBounds i true).getD j false) (i := i) (by simp [hls]) (l := List.range l0.length) List.nodup_range (List.mem_range.2 hi)
    refine List.Perm.trans (List.Perm.of_eq (List.filter_congr fun j _ => ?_)) this
    by_cases hj : i = j
    · subst hj; simp [hls, hun]
    · rw [getD_set_ne false hj]
      have : (j == i) = false := by simp; exact fun e => hj e.symm
      simp [this]
  have := e.length_eq
  rw [List.length_append, List.length_singleton] at this
  exact this.symm

include hok hC hG0 hE0 hB0 in
theorem Inv.all (hp : p ≤ l0.length) (htail : ∀ m j, p ≤ m → m < l0.length → j < m → dep l0.toArray j m = true) (hEn : ∀ i, i ≤ l0.length → ∀ H d v, ((S i).E H).get d = some v → d < C.n) (hdz : ∀ m j, old.cz m = some j → dep l0.toArray j m = true) {Q : Exit → Act → World → Prop}
    (hQ : ∀ fuel listed a w H, Inv C l0 S R old listed a w H → Upto l0 listed p → left l0 listed ≤ fuel → wpAny C.P .any l0.toArray Q fuel listed a w) :
    ∀ (fuel : Nat) (listed : Array Bool) (a : Act) (w : World) (H : Hist), Inv C l0 S R old listed a w H → (∀ i, p ≤ i → listed.getD i false = false) → left l0 listed ≤ fuel → wpAny C.P .any l0.toArray Q fuel listed a w := by
  have hdone : ∀ (listed : Array Bool) (a : Act) (w : World) (H : Hist), Inv C l0 S R old listed a w H → Region.ready .any l0.toArray listed = [] → ∀ i, i < l0.length → listed.getD i false = true := by
    intro listed a w H h hr i
    induction i using Nat.strongRecOn with
    | _ i ih =>
      intro hi
      cases hl : listed.getD i false with
      | true => rfl
      | false =>
        exfalso
        have ho : l0[i]? = some l0[i] := List.getElem?_eq_getElem hi
        have : i ∈ Region.ready .any l0.toArray listed := by
          rw [mem_ready]
          refine ⟨?_, l0[i], by simp, fun e he hb => ?_⟩
          · have : i < listed.size := by rw [h.lsz]; exact hi
            simpa [this] using hl
          · have := okReg_after hok ho e he hb
            exact ih e.on this (by omega)
        rw [hr] at this
        cases this
  intro fuel
  induction fuel with
  | zero =>
    intro listed a w H h hsuf hf
    refine hQ _ _ _ _ _ h ⟨h.lsz, fun i hi => ?_, hsuf⟩ hf
    cases hl : listed.getD i false with
    | true => rfl
    | false =>
      exfalso
      have : i ∈ (List.range l0.length).filter fun j => !listed.getD j false := List.mem_filter.2 ⟨List.mem_range.2 (by omega), by simp only [hl]; rfl⟩
      have := List.length_pos_of_mem this
      unfold left at hf
      omega
  | succ fuel ih =>
    intro listed a w H h hsuf hf
    by_cases hall : ∀ i, i < p → listed.getD i false = true
    · exact hQ _ _ _ _ _ h ⟨h.lsz, hall, hsuf⟩ hf
    refine ⟨fun hr => absurd (fun i hi => hdone _ _ _ _ h hr i (by omega)) hall, fun i hi => ?_⟩
    obtain ⟨h0, o, ho, _⟩ := mem_ready.1 hi
    have hil : i < l0.length := by
      have : l0[i]? = some o := by simpa using ho
      exact (List.getElem?_eq_some_iff.1 this).1
    have hls : i < listed.size := by rw [h.lsz]; exact hil
    have hun : listed.getD i false = false := by simpa [hls] using h0
    have hip : i < p := by
      refine Nat.lt_of_not_le fun hle => hall fun j hj => ?_
      exact ready_deps hok h.closed hi j (htail i j hle hil (by omega))
    refine h.go hok hC hG0 hE0 hB0 hEn hi hun hip hdz fun a' w' H' h' => ih _ _ _ _ h' (fun j hj => ?_) ?_
    · rw [getD_set_ne false (by omega)]
      exact hsuf j hj
    · have := left_put h.lsz hil hun
      omega
end
/-- All are listed. -/
theorem wpAny_done {P : Program} {l : List Oper} {Q : Exit → Act → World → Prop} {listed : Array Bool} {a : Act} {w : World} (hu : Upto l listed l.length) (h : Q .normal a w) (fuel : Nat) : wpAny P .any l.toArray Q fuel listed a w := by
  have hr : Region.ready .any l.toArray listed = [] := by
    apply List.eq_nil_iff_forall_not_mem.2
    intro i hi
    obtain ⟨h0, o, ho, _⟩ := mem_ready.1 hi
    have hil : i < l.length := by
      have : l[i]? = some o := by simpa using ho
      exact (List.getElem?_eq_some_iff.1 this).1
    have h1 := hu.all i hil
    have : i < listed.size := by rw [hu.size]; exact hil
    simp [this] at h0 h1
    rw [h0] at h1
    cases h1
  cases fuel with
  | zero => exact ⟨hr, h⟩
  | succ fuel => exact ⟨fun _ => h, fun i hi => by rw [hr] at hi; cases hi⟩
/-- From p on they come in order. -/
theorem wpAny_tail {P : Program} {l : List Oper} {Q : Exit → Act → World → Prop} (hok : okReg l = true) : ∀ (l2 : List Oper) (p : Nat), p + l2.length = l.length → (∀ j, l2[j]? = l[p + j]?) → (∀ m j, p ≤ m → m < l.length → j < m → dep l.toArray j m = true) →
    ∀ (listed : Array Bool) (a : Act) (w : World) (fuel : Nat), Upto l listed p → left l listed ≤ fuel → wpList P l.toArray Q l2 a w → wpAny P .any l.toArray Q fuel listed a w := by
  intro l2
  induction l2 with
  | nil =>
    intro p hp _ _ listed a w fuel hu _ h
    have : p = l.length := by simpa using hp
    subst this
    exact wpAny_done hu h fuel
  | cons o l2 ih =>
    intro p hp hl htail listed a w fuel hu hf h
    have hpl : p < l.length := by rw [← hp]; simp
    have ho : l[p]? = some o := by simpa using (hl 0).symm
    have hunp := hu.none p (Nat.le_refl _)
    have hlp := left_put hu.size hpl hunp
    cases fuel with
    | zero => omega
    | succ fuel =>
      have hready : ∀ i, i ∈ Region.ready .any l.toArray listed → i = p := by
        intro i hi
        obtain ⟨h0, o', ho', hall⟩ := mem_ready.1 hi
        have hil : i < l.length := by
          have : l[i]? = some o' := by simpa using ho'
          exact (List.getElem?_eq_some_iff.1 this).1
        have hls : i < listed.size := by rw [hu.size]; exact hil
        have hun : listed.getD i false = false := by simpa [hls] using h0
        rcases Nat.lt_trichotomy i p with h1 | h1 | h1
        · rw [hu.all i h1] at hun; cases hun
        · exact h1
        · exfalso
          have hd := htail i (i - 1) (by omega) hil (by omega)
          have ho'' : l[i]? = some o' := by simpa using ho'
          obtain ⟨e, he, hb, hcase⟩ := dep_spec ho'' (okReg_after hok ho'') hd
          have h3 := hall e he hb
          have h4 : e.on < p := by
            refine Nat.lt_of_not_le fun hle => ?_
            rw [hu.none _ hle] at h3; cases h3
          rcases hcase with hc | hc
          · omega
          · have := (dep_lt hok hc).1
            omega
      have hin : p ∈ Region.ready .any l.toArray listed := by
        rw [mem_ready]
        refine ⟨?_, o, by simpa using ho, fun e he hb => ?_⟩
        · have : p < listed.size := by rw [hu.size]; exact hpl
          simpa [this] using hunp
        · exact hu.all _ (okReg_after hok ho e he hb)
      refine ⟨fun hr => (by rw [hr] at hin; cases hin), fun i hi => ?_⟩
      obtain rfl := hready i hi
      have hu' : Upto l (listed.setIfInBounds i true) (i + 1) := by
        have hls : i < listed.size := by rw [hu.size]; exact hpl
        refine ⟨by simp [hu.size], fun j hj => ?_, fun j hj => ?_⟩
        · by_cases hji : i = j
          · subst hji; simp [hls]
          · rw [getD_set_ne false hji]; exact hu.all j (by omega)
        · rw [getD_set_ne false (by omega)]; exact hu.none j (by omega)
      have hnext : ∀ a' w', wpList P l.toArray Q l2 a' w' → wpAny P .any l.toArray Q fuel (listed.setIfInBounds i true) a' w' := fun a' w' h' =>
        ih (i + 1) (by rw [← hp]; simp; omega) (fun j => by have := hl (j + 1); simpa [Nat.add_assoc, Nat.add_comm 1 j] using this) (fun m j hm => htail m j (by omega)) _ _ _ _ hu' (by omega) h'
      unfold wpList at h
      unfold wpOp
      have ho2 : l.toArray[i]? = some o := by simpa using ho
      rw [ho2]
      simp only
      split
      · rename_i hw
        rw [if_pos hw] at h
        exact h.imp (Oper.wp_mono hnext) id
      · rename_i hw
        rw [if_neg hw] at h
        exact hnext _ _ h
/-- A region that draws its order, up to z.p. -/
theorem T_regionZ {C : Ctx} {k : K} {E : Env} {L : Hp} {id : Nat} {l l1 l2 : List Oper} {F : Env → Hp → Prop} {old : Tk} {L0 : Hp} (hold : ∀ j, l1.length ≤ j → ∀ H, old.tk j H = []) (hdz : ∀ m j, old.cz m = some j → dep l.toArray j m = true)
    (hL : Emb (L0 ++ (List.range l.length).flatMap fun m => match old.cz m with | none => old.tk m (fun _ => (undef, [])) | some _ => []) L) (hl : l = l1 ++ l2) (hm : C.P.follows .mixedOrders = true) (hok : okReg l = true)
    (htail : ∀ m j, l1.length ≤ m → m < l.length → j < m → dep l.toArray j m = true) (hfit : ∀ i o, l1.length ≤ i → l[i]? = some o → fitsN C.n o.dst = true)
    (hcont : ∀ E L, F E L → ∀ a w, Rel C.n E a → St C L w → ∀ fuel listed, Upto l listed l1.length → left l listed ≤ fuel → wpAny C.P .any l.toArray (lift C (k.sem C)) fuel listed a w)
    {zz : Zone} (hz1 : zz.p = l1.length) (hz2 : zz.F = F) (hz3 : zz.old = old) (h : DW C l zz l1 0 ⟨fun _ => E, fun _ => L0, fun _ => [], []⟩) : T C (.region id l.toArray true) k E L := by
  subst hz2 hz3
  obtain ⟨S, R, hS, hC, hF⟩ := h.tab (by rw [hz1]; exact hfit) (fun j hj => by rw [hl, Nat.zero_add, List.getElem?_append_left hj]) (by rw [hz1]; simp)
  rw [hz1] at hC hF
  have hpl : l1.length ≤ l.length := by rw [hl]; simp
  have hC' : ∀ i o, l[i]? = some o → DCond C l l1.length zz.old i o (S i) (R i) (S (i + 1)) := fun i o => hC i o (by omega)
  have hG0 : (S 0).G = [] := by rw [hS]
  have hN0 : ∀ H, (S 0).Nw H = [] := by rw [hS]; intro _; rfl
  have hE0 : ∀ H H', (S 0).E H = (S 0).E H' := by rw [hS]; intro _ _; rfl
  have hB0 : ∀ H H', (S 0).B H = (S 0).B H' := by rw [hS]; intro _ _; rfl
  refine ⟨⟨fun a w hr hs => wp_region_any hm ?_⟩⟩
  have hEn : ∀ i, i ≤ l.length → ∀ H d v, ((S i).E H).get d = some v → d < C.n := by
    intro i hi H d v hv
    rw [tab_get hC' H d i hi] at hv
    cases hlw : lastW l d i with
    | none =>
      rw [hlw, hS] at hv
      have := hr.get d v hv
      have := (Array.getElem?_eq_some_iff.1 this).1
      rw [hr.size] at this
      exact this
    | some j =>
      have hj := lastW_some hlw
      have hoj : l[j]? = some l[j] := List.getElem?_eq_getElem (by omega)
      have h1 := hj.2.1
      rw [hoj] at h1
      have := (hC' j _ hoj).fits
      simp only [Option.bind_some] at h1
      rw [h1] at this
      simpa [fitsN] using this
  have h0 : Inv C l S R zz.old (Array.replicate l.toArray.size false) a { w with drawn := w.drawn + 1 } (fun _ => (undef, [])) := by
    have hrep : ∀ j, (Array.replicate l.toArray.size false).getD j false = false := fun j => by
      by_cases hj : j < l.length <;> simp [hj]
    refine ⟨by simp, fun j m _ hm => (by rw [hrep] at hm; cases hm), fun m hm => (by rw [hrep] at hm; cases hm), hr.size, hr.defers, fun d m hm hcond => ?_, 0, by omega, fun j _ _ => (by rw [hrep]; simp), ?_⟩
    · have hlw : lastW l d m = none := by
        cases hlw : lastW l d m with
        | none => rfl
        | some j =>
          have hj := lastW_some hlw
          have := (hcond j hj.2.1).1 hj.1
          rw [hrep] at this
          cases this
      rw [hlw, hS]
      exact fun v hv => hr.get d v hv
    · have : news l.length (Array.replicate l.toArray.size false) (fun _ => (undef, [])) = [] := by
        unfold news
        rw [List.filter_eq_nil_iff.2 (fun j _ => by rw [hrep]; simp)]
        rfl
      have ho : pend l.length zz.old (Array.replicate l.toArray.size false) (fun _ => (undef, [])) = (List.range l.length).flatMap fun m => match zz.old.cz m with | none => zz.old.tk m (fun _ => (undef, [])) | some _ => [] := by
        unfold pend
        congr 1
        funext m
        rw [hrep]
        cases zz.old.cz m with
        | none => rfl
        | some j => simp only [hrep]; rfl
      rw [this, hS, ho]
      simp only [List.append_nil]
      replace hs := hs.emb hL
      exact ⟨hs.os, hs.tape, hs.output, hs.size, hs.fixed, hs.fb, let ⟨ow, ho⟩ := hs.own; ⟨ow, ho.free, ho.lt, ho.one, ho.sat⟩⟩
  have hlen : ((List.range l.length).filter fun j => !(Array.replicate l.toArray.size false).getD j false).length ≤ l.toArray.size := by
    refine Nat.le_trans (List.length_filter_le _ _) ?_
    simp
  refine Inv.all hok hC' hG0 hE0 hB0 hpl htail hEn hdz ?_ _ _ _ _ _ h0 (fun i _ => by by_cases hj : i < l.length <;> simp [hj]) hlen
  intro fuel listed a' w' H hI hu hfl
  have hval : ∀ m, m < l1.length → (R m).φ H (H m).1 (H m).2 := fun m hm => hI.valid m (hu.all m hm)
  have hfin := hF H fun p hp => by
    have h1 := tab_facts hC' hG0 l1.length hpl p hp
    have hoj : l[p.1]? = some l[p.1] := List.getElem?_eq_getElem (by omega)
    exact (hC' _ _ hoj).hpf _ h1.2 H (hval _ h1.1)
  refine hcont _ _ hfin _ _ ?_ ?_ _ _ hu hfl
  · refine ⟨hI.size, hI.defers, fun d v hd => ?_⟩
    have hcond : ∀ j, (l[j]?).bind (·.dst) = some d → (j < l1.length ↔ listed.getD j false = true) := fun j _ => by
      rcases Nat.lt_or_ge j l1.length with h1 | h1
      · simp [hu.all j h1, h1]
      · rw [hu.none j h1]; simp; omega
    have h1 := hI.act d l1.length hpl hcond
    have h2 := tab_get hC' H d l1.length hpl
    rw [h2] at hd
    cases hlw : lastW l d l1.length with
    | none =>
      rw [hlw] at h1 hd
      exact h1 v hd
    | some j =>
      rw [hlw] at h1 hd
      have hj := lastW_some hlw
      have hoj : l[j]? = some l[j] := List.getElem?_eq_getElem (by omega)
      have := ((hC' j _ hoj).val H (hval j hj.1)).1
      simp only at h1 hd
      rw [h1, ← this]
      exact hd
  · obtain ⟨s, hs, hst, hS'⟩ := hI.mem
    have e1 : (S l1.length).B = (S s).B := tab_B2 hC' hs hpl fun j hj hjs => by
      have := hst j hj hjs
      rw [this]
      rcases Nat.lt_or_ge j l1.length with h1 | h1
      · rw [hu.all j h1]; simp [h1]
      · rw [hu.none j h1]; simp; omega
    rw [e1, tab_news hC' hN0 H hpl hval l1.length (Nat.le_refl _)]
    have e2 : news l.length listed H = (List.range l1.length).flatMap fun j => (H j).2 := by
      unfold news
      congr 1
      rw [show l.length = l1.length + l2.length by rw [hl]; simp, List.range_add, List.filter_append, List.filter_eq_self.2 fun j hj => hu.all j (List.mem_range.1 hj), List.filter_eq_nil_iff.2 fun j hj => ?_, List.append_nil]
      obtain ⟨x, _, rfl⟩ := List.mem_map.1 hj
      rw [hu.none _ (by omega)]
      simp
    rw [← e2]
    have e3 : pend l.length zz.old listed H = [] := by
      unfold pend
      rw [List.flatMap_eq_nil_iff]
      intro j _
      rcases Nat.lt_or_ge j l1.length with h1 | h1
      · rw [hu.all j h1]; rfl
      · rw [hold j h1]; exact ite_self _
    rw [e3, List.append_nil] at hS'
    exact hS'
/-! ### the rules -/
theorem St.left {C : Ctx} {L M : Hp} {w : World} (h : St C (L ++ M) w) : St C L w := h.mono rfl
theorem Does.val {C : Ctx} {E : Env} {L X : Hp} {o : Oper} {v : Value} (h : Yv C E L o v) : Does C E (L ++ X) (L ++ X) o fun u N => u = v ∧ N = [] :=
  ⟨fun a w M hr hs => by
    rw [h.out a w hr (hs.left.left)]
    exact ⟨[], ⟨rfl, rfl⟩, by simpa using hs⟩⟩
theorem Does.val0 {C : Ctx} {E : Env} {o : Oper} {v : Value} (h : Yv C E [] o v) : Does C E [] [] o fun u N => u = v ∧ N = [] :=
  Does.val (X := []) h
theorem Does.call {C : Ctx} {E : Env} {L X : Hp} {dst : Option Tmp} {ty : TypeId} {pos : String} {af : Array Edge} {g : Option (Nat × Bool)} {fo : Operand} {f : FuncId} {aS : List Operand} {vs : List Value} {ats : Array TypeId}
    {R : Value → Hp → Prop} (hf : ev E fo = some (.func (.func f) #[] #[])) (ha : evs E aS = some vs) (hb : hasBody C.P f = true) (hc : ∀ w, St C (L ++ X) w → Fn C.P f vs.toArray w R) :
    Does C E (L ++ X) (L ++ X) ⟨dst, .call ⟨.value fo, aS.toArray, ats⟩, ty, pos, af, g⟩ R :=
  ⟨fun a w M hr hs => by
    rw [run_call hr hf ha hb]
    refine (hc w hs.left).mono ?_
    rintro e w' ⟨v, N, ow, rfl, hk, hN, hR⟩
    exact ⟨v, rfl, N, hR, hs.call hk hN⟩⟩
theorem Does.set {C : Ctx} {E : Env} {L X : Hp} {o : Oper} {q b : Nat} {cs cs' : Array Value} {e : TypeId} {fz : Nat × Nat} (hq : L[q]? = some (blk b (.cells cs e fz)))
    (hv : ∀ a w, Rel C.n E a → St C L w → w.heap[b]? = some (.cells cs e fz) → (execOp a.eval o).run C.P w = .ok .skip (w.setRow b cs')) :
    Does C E (L ++ X) (L.set q (blk b (.cells cs' e fz)) ++ X) o fun u N => u = undef ∧ N = [] :=
  ⟨fun a w M hr hs => by
    rw [hv a w hr (hs.left.left) (hs.left.left.known hq)]
    have hlt : q < L.length := (List.getElem?_eq_some_iff.1 hq).1
    refine ⟨[], ⟨rfl, rfl⟩, ?_⟩
    have hq' : (L ++ X ++ M)[q]? = some (blk b (.cells cs e fz)) := by
      rw [List.append_assoc, List.getElem?_append_left hlt]; exact hq
    have := hs.setRow (cs' := cs') hq'
    rw [List.append_assoc, List.set_append_left _ _ hlt, ← List.append_assoc] at this
    simpa using this⟩
/-- A walk in which no operation but the calls makes memory, and none hands back memory of its own. -/
structure D0 (C : Ctx) (l0 : List Oper) (z : Zone) (l : List Oper) (m : Nat) (E : Env) (L : Hp) : Prop where
  out : m + l.length = z.old.q → DW C l0 z (l ++ z.tl) m ⟨fun _ => E, fun _ => L, fun _ => [], []⟩
section
variable {C : Ctx} {l0 : List Oper} {z : Zone} {k : K} {E : Env} {L : Hp} {rest : List Oper} {m d : Nat} {op : Op} {ty : TypeId} {pos : String} {af : Array Edge} {g : Option (Nat × Bool)}
/-- All is drawn. -/
def zX (C : Ctx) (n : Nat) (k : K) : Zone := ⟨n, fun E L => X C .normal k E L, Tk.none n, []⟩
/-- The rest comes in order. -/
def zS (C : Ctx) (l : List Oper) (n : Nat) (l2 : List Oper) (k : K) : Zone := ⟨n, fun E L => S C l.toArray l2 k E L, Tk.none n, []⟩
/-- What an operation that may come early takes: nothing; what is there; what operation j makes. -/
inductive LT
  | no
  | fx (A : Asr)
  | nw (j : Nat) (ob : Obj)
def blockOf : Value → Nat
  | .pointer (some a) => a.block
  | _ => 0
def LT.tk (H : Hist) : Option LT → Hp
  | some (.fx A) => [A]
  | some (.nw j ob) => [blk (blockOf (H j).1) ob]
  | _ => []
def LT.cz : Option LT → Option Nat
  | some (.nw j _) => some j
  | _ => none
def LT.fixed : LT → Hp
  | .fx A => [A]
  | _ => []
/-- Each is made by one operation of the last ones, ahead of it; nobody else takes it. -/
def ltOk (l : List Oper) (q : Nat) (lt : List LT) : Bool :=
  let b := Region.before l.toArray
  (List.range lt.length).all fun t => match LT.cz lt[t]? with
    | some j => Nat.ble q j && (b.getD (q + t) 0).testBit j && (List.range lt.length).all fun t' => Nat.beq t t' || match LT.cz lt[t']? with | some j' => !Nat.beq j j' | none => true
    | none => true
theorem ltOk_spec {l : List Oper} {q : Nat} {lt : List LT} (h : ltOk l q lt = true) {t j : Nat} (ht : LT.cz lt[t]? = some j) : q ≤ j ∧ dep l.toArray j (q + t) = true ∧ ∀ t', LT.cz lt[t']? = some j → t = t' := by
  have hin : ∀ {t j : Nat}, LT.cz lt[t]? = some j → t < lt.length := fun {t j} ht => by
    rcases Nat.lt_or_ge t lt.length with h | h
    · exact h
    · rw [List.getElem?_eq_none h] at ht; cases ht
  unfold ltOk at h
  rw [List.all_eq_true] at h
  have h1 := h t (List.mem_range.2 (hin ht))
  rw [ht] at h1
  simp only [Bool.and_eq_true, List.all_eq_true, Nat.ble_eq] at h1
  refine ⟨h1.1.1, h1.1.2, fun t' ht' => ?_⟩
  have h2 := h1.2 t' (List.mem_range.2 (hin ht'))
  rw [ht'] at h2
  simpa using h2
def ltTk (l : List Oper) (q : Nat) (lt : List LT) (h : ltOk l q lt = true) : Tk where
  tk := fun m H => if m < q then [] else LT.tk H lt[m - q]?
  cz := fun m => if m < q then none else LT.cz lt[m - q]?
  q := q
  htk := fun m hm H => by simp [hm]
  hcz := fun m j hj => by
    split at hj
    · cases hj
    · exact (ltOk_spec h hj).1
  hinj := fun m m' j hj hj' => by
    split at hj
    · cases hj
    · split at hj'
      · cases hj'
      · have := (ltOk_spec h hj).2.2 _ hj'
        omega
  hloc := fun m H H' hh => by
    by_cases hm : m < q
    · simp [hm]
    · simp only [hm, if_false] at hh ⊢
      cases hl : lt[m - q]? with
      | none => rfl
      | some x =>
        rw [hl] at hh
        cases x with
        | no => rfl
        | fx A => rfl
        | nw j ob => simp only [LT.tk]; rw [hh j rfl]
/-- All is drawn; from q on stores stand that may come early. -/
def zL (C : Ctx) (l : List Oper) (q : Nat) (l2 : List Oper) (lt : List LT) (h : ltOk l q lt = true) (k : K) : Zone := ⟨l.length, fun E L => X C .normal k E L, ltTk l q lt h, l2⟩
def noNew (l : List Oper) : Bool := l.all fun o => match o.op with | .alloc _ => false | .box .. => false | _ => true
theorem emb_none (L : Hp) (n q : Nat) : Emb (L ++ (List.range n).flatMap fun m => match (Tk.none q).cz m with | none => (Tk.none q).tk m (fun _ => (undef, [])) | some _ => []) L := by
  have : ((List.range n).flatMap fun m => match (Tk.none q).cz m with | none => (Tk.none q).tk m (fun _ => (undef, [])) | some _ => []) = [] := List.flatMap_eq_nil_iff.2 fun _ _ => rfl
  rw [this, List.append_nil]
  exact Emb.refl L
theorem T_draw {id : Nat} {l : List Oper} (hm : C.P.follows .mixedOrders = true) (hok : okReg l = true) (_hn : noNew l = true) (h : D0 C l (zX C l.length k) l 0 E L) : T C (.region id l.toArray true) k E L := by
  refine T_regionZ (l1 := l) (l2 := []) (old := Tk.none l.length) (L0 := L) (fun _ _ _ => rfl) (fun _ _ h => by cases h) (emb_none L _ _) (by simp) hm hok (fun m j h1 h2 => absurd h2 (by omega)) (fun i o hi ho => ?_) (fun E L hX a w hr hs fuel listed hu _ => wpAny_done hu ⟨E, L, hr, hs, hX.out⟩ fuel) (zz := zX C l.length k) rfl rfl rfl (by have := h.out (by simp [zX, Tk.none]); simpa [zX] using this)
  rw [List.getElem?_eq_none hi] at ho
  cases ho
inductive Split : List Oper → List Oper → List Oper → Prop
  | zero {l : List Oper} : Split l [] l
  | succ {o : Oper} {l l1 l2 : List Oper} (h : Split l l1 l2) : Split (o :: l) (o :: l1) l2
theorem Split.eq {l l1 l2 : List Oper} (h : Split l l1 l2) : l = l1 ++ l2 := by
  induction h with
  | zero => rfl
  | succ _ ih => rw [ih]; rfl
theorem T_drawP {id : Nat} {l l1 l2 : List Oper} (hsp : Split l l1 l2) (hm : C.P.follows .mixedOrders = true) (hok : okReg l = true) (htail : tailOk l l1.length = true) (hfit : (l2.all fun o => fitsN C.n o.dst) = true)
    (h : D0 C l (zS C l l1.length l2 k) l1 0 E L) : T C (.region id l.toArray true) k E L := by
  have e := hsp.eq
  have ht : ∀ m j, l1.length ≤ m → m < l.length → j < m → dep l.toArray j m = true := fun m j => tailOk_spec htail
  refine T_regionZ (old := Tk.none l1.length) (L0 := L) (fun _ _ _ => rfl) (fun _ _ h => by cases h) (emb_none L _ _) e hm hok ht (fun i o hi ho => ?_) (fun E L hX a w hr hs fuel listed hu hf => wpAny_tail hok l2 l1.length (by rw [e]; simp) (fun j => ?_) ht listed a w fuel hu hf (hX.out a w hr hs)) (zz := zS C l l1.length l2 k) rfl rfl rfl (by have := h.out (by simp [zS, Tk.none]); simpa [zS] using this)
  · rw [e, List.getElem?_append_right hi] at ho
    exact List.all_eq_true.1 hfit o (List.mem_of_getElem? ho)
  · rw [e, List.getElem?_append_right (by omega)]
    congr 1
    omega
theorem D0_nil {n : Nat} (h : X C .normal k E L) : D0 C l0 (zX C n k) [] m E L := ⟨fun _ => .nil fun _ _ => by simpa [zX] using h⟩
theorem D0_nilS {l : List Oper} {n : Nat} {l2 : List Oper} (h : S C l.toArray l2 k E L) : D0 C l0 (zS C l n l2 k) [] m E L := ⟨fun _ => .nil fun _ _ => by simpa [zS] using h⟩
/-- A region in which stores stand last that may come early; lt: what they turn, L0: the rest of what is owned. -/
theorem T_drawL {id : Nat} {l l1 l2 : List Oper} (hsp : Split l l1 l2) (lt : List LT) (L0 : Hp) (hA : lt.length = l2.length) (hlt : ltOk l l1.length lt = true) (he : Emb (L0 ++ lt.flatMap LT.fixed) L) (hm : C.P.follows .mixedOrders = true) (hok : okReg l = true)
    (h : D0 C l (zL C l l1.length l2 lt hlt k) l1 0 E L0) : T C (.region id l.toArray true) k E L := by
  have e := hsp.eq
  have hAl : (List.range l.length).flatMap (fun m => match (ltTk l l1.length lt hlt).cz m with | none => (ltTk l l1.length lt hlt).tk m (fun _ => (undef, [])) | some _ => []) = lt.flatMap LT.fixed := by
    rw [show l.length = l1.length + l2.length by rw [e]; simp, List.range_add, List.flatMap_append]
    have h1 : (List.range l1.length).flatMap (fun m => match (ltTk l l1.length lt hlt).cz m with | none => (ltTk l l1.length lt hlt).tk m (fun _ => (undef, [])) | some _ => []) = [] := by
      rw [List.flatMap_eq_nil_iff]
      intro j hj
      simp only [ltTk, List.mem_range.1 hj, if_true]
    rw [h1, List.nil_append, List.flatMap_map, ← hA]
    have h2 : ∀ (B : List LT), (List.range B.length).flatMap (fun j => match LT.cz B[j]? with | none => LT.tk (fun _ => (undef, [])) B[j]? | some _ => []) = B.flatMap LT.fixed := by
      intro B
      induction B with
      | nil => rfl
      | cons a B ih =>
        rw [List.length_cons, List.range_succ_eq_map, List.flatMap_cons, List.flatMap_map, List.flatMap_cons, ← ih]
        congr 1
        cases a <;> rfl
    have h3 : (fun a => match (ltTk l l1.length lt hlt).cz (l1.length + a) with | none => (ltTk l l1.length lt hlt).tk (l1.length + a) (fun _ => (undef, [])) | some _ => []) = fun a => match LT.cz lt[a]? with | none => LT.tk (fun _ => (undef, [])) lt[a]? | some _ => [] := by
      funext a
      simp only [ltTk, show ¬ l1.length + a < l1.length by omega, if_false, Nat.add_sub_cancel_left]
    rw [h3]
    exact h2 lt
  refine T_regionZ (l1 := l) (l2 := []) (old := ltTk l l1.length lt hlt) (L0 := L0) (fun j hj H => ?_) (fun m j hj => ?_) (by rw [hAl]; exact he) (by simp) hm hok (fun m j h1 h2 => absurd h2 (by omega)) (fun i o hi ho => ?_) (fun E L hX a w hr hs fuel listed hu _ => wpAny_done hu ⟨E, L, hr, hs, hX.out⟩ fuel) (zz := zL C l l1.length l2 lt hlt k) rfl rfl rfl ?_
  · have hj' : l1.length + lt.length ≤ j := by rw [hA]; rw [e, List.length_append] at hj; exact hj
    simp only [ltTk, show ¬ j < l1.length by omega, if_false]
    rw [List.getElem?_eq_none (by omega)]
    rfl
  · simp only [ltTk] at hj
    split at hj
    · cases hj
    · have := (ltOk_spec hlt hj).2.1
      rwa [show l1.length + (m - l1.length) = m by omega] at this
  · rw [List.getElem?_eq_none hi] at ho
    cases ho
  · have := h.out (by simp [zL, ltTk])
    rwa [show (zL C l l1.length l2 lt hlt k).tl = l2 from rfl, ← e] at this
/-- The stores that may come early, and what makes what they turn. -/
structure DL (C : Ctx) (l0 : List Oper) (z : Zone) (l : List Oper) (m : Nat) (F : Hist → Env) (L : Hp) (N : Hist → Hp) : Prop where
  out : DW C l0 z l m ⟨F, fun _ => L, N, []⟩
section
variable {q : Nat} {l2 : List Oper} {lt : List LT} {hlt : ltOk l0 q lt = true} {F : Hist → Env} {N : Hist → Hp}
theorem D0_nilL (h : DL C l0 (zL C l0 q l2 lt hlt k) l2 m (fun _ => E) L (fun _ => [])) : D0 C l0 (zL C l0 q l2 lt hlt k) [] m E L := ⟨fun _ => h.out⟩
theorem DL_nil (h : ∀ H, X C .normal k (F H) (L ++ N H)) : DL C l0 (zL C l0 q l2 lt hlt k) [] m F L N := ⟨.nil fun H _ => h H⟩
theorem blk_inj {b b' : Nat} {o : Obj} (h : blk b o = blk b' o) : b = b' := by
  have h1 : blk b o (fun k => if k = b then some o else none) := by simp [blk]
  rw [h] at h1
  simp only [blk] at h1
  split at h1
  · rename_i e; exact e.symm
  · cases h1
theorem DL_set {B : Hist → Nat} {cs cs' : Array Value} {e : TypeId} {fz : Nat × Nat} (hq : Nat.ble q m = true) (htk : ∀ H, LT.tk H lt[m - q]? = [blk (B H) (.cells cs e fz)]) (hno : (lt.all fun x => match LT.cz (some x) with | some j => !Nat.beq j m | none => true) = true)
    (hv : ∀ H a w, Rel C.n (F H) a → w.heap[B H]? = some (.cells cs e fz) → (execOp a.eval ⟨none, op, ty, pos, af, none⟩).run C.P w = .ok .skip (w.setRow (B H) cs'))
    (h : DL C l0 (zL C l0 q l2 lt hlt k) rest (m + 1) F L (fun H => N H ++ [blk (B H) (.cells cs' e fz)])) : DL C l0 (zL C l0 q l2 lt hlt k) (⟨none, op, ty, pos, af, none⟩ :: rest) m F L N :=
  have hqm : ¬ m < q := by have := Nat.le_of_ble_eq_true hq; omega
  have htk' : ∀ H, (ltTk l0 q lt hlt).tk m H = [blk (B H) (.cells cs e fz)] := fun H => by simp only [ltTk, hqm, if_false]; exact htk H
  ⟨.cons ⟨fun H u M => u = undef ∧ M = [blk (B H) (.cells cs' e fz)], fun _ => undef, fun H => [blk (B H) (.cells cs' e fz)], none, false⟩ ⟨F, fun _ => L, fun H => N H ++ [blk (B H) (.cells cs' e fz)], []⟩
    { loc := fun H H' hd v M hM => by
        have h1 : (ltTk l0 q lt hlt).tk m H = (ltTk l0 q lt hlt).tk m H' := (ltTk l0 q lt hlt).hloc m H H' fun j hj => by
          simp only [ltTk, hqm, if_false] at hj
          have := (ltOk_spec hlt hj).2.1
          rw [show q + (m - q) = m by omega] at this
          exact hd j this
        rw [htk', htk'] at h1
        have h2 := blk_inj (List.cons.inj h1).1
        simp only at hM ⊢
        rw [← h2]; exact hM
      val := fun _ h => ⟨h.1.symm, h.2.symm⟩
      hE := fun _ => rfl
      hN := fun _ => rfl
      hG := rfl
      hpf := fun _ h => by cases h
      same := fun _ => rfl
      store := fun h => by cases h
      fits := rfl
      step := fun _ H _ => ⟨true, rfl, fun h => (by cases h), fun _ => .inl ⟨fun m' hm' => by
          simp only [zL, ltTk] at hm'
          split at hm'
          · cases hm'
          · cases hx : lt[m' - q]? with
            | none => rw [hx] at hm'; cases hm'
            | some x =>
              rw [hx] at hm'
              have := List.all_eq_true.1 hno x (List.mem_of_getElem? hx)
              rw [hm'] at this
              simp at this, .inr ⟨rfl, ⟨fun a w M hr hs => by
        rw [show (zL C l0 q l2 lt hlt k).old = ltTk l0 q lt hlt from rfl, htk' H] at hs
        rw [hv H a w hr (hs.left.known (q := 0) rfl)]
        refine ⟨_, ⟨rfl, rfl⟩, ?_⟩
        have := hs.setRow (q := 0) (cs' := cs') rfl
        refine this.perm ?_
        exact List.perm_append_comm (l₁ := [blk (B H) (.cells cs' e fz)])⟩⟩⟩⟩ } h.out⟩
/-- An operation that makes what a later one turns. -/
theorem DL_new {ob : Obj} (m' : Nat) (hq : Nat.ble q m = true) (hx : lt[m' - q]? = some (.nw m ob)) (hq' : Nat.ble q m' = true) (hno : LT.tk (fun _ => (undef, [])) lt[m - q]? = []) (hnc : LT.cz lt[m - q]? = none) (hd : Nat.blt d C.n = true)
    (hv : ∀ (a : Act) (w : World), (execOp a.eval ⟨some d, op, ty, pos, af, none⟩).run C.P w = .ok (.value (.pointer (some ⟨w.heap.size, 0, none⟩))) { w with heap := w.heap.push ob })
    (h : DL C l0 (zL C l0 q l2 lt hlt k) rest (m + 1) (fun H => (d, .pointer (some ⟨blockOf (H m).1, 0, none⟩)) :: F H) L N) : DL C l0 (zL C l0 q l2 lt hlt k) (⟨some d, op, ty, pos, af, none⟩ :: rest) m F L N :=
  have hqm : ¬ m < q := by have := Nat.le_of_ble_eq_true hq; omega
  have hqm' : ¬ m' < q := by have := Nat.le_of_ble_eq_true hq'; omega
  ⟨.cons ⟨fun _ v M => (∃ b, v = .pointer (some ⟨b, 0, none⟩)) ∧ M = [], fun H => .pointer (some ⟨blockOf (H m).1, 0, none⟩), fun _ => [], none, false⟩ ⟨fun H => (d, .pointer (some ⟨blockOf (H m).1, 0, none⟩)) :: F H, fun _ => L, N, []⟩
    { loc := fun _ _ _ _ _ h => h
      val := fun H h => by
        obtain ⟨⟨b, h1⟩, h2⟩ := h
        simp only
        rw [h1, h2]
        exact ⟨rfl, rfl⟩
      hE := fun _ => rfl
      hN := fun _ => by simp
      hG := rfl
      hpf := fun _ h => by cases h
      same := fun _ => rfl
      store := fun h => by cases h
      fits := hd
      step := fun _ H _ => ⟨true, rfl, fun h => (by cases h), fun _ => .inr ⟨rfl, (by
          simp only [zL, ltTk, hqm, if_false]
          cases hl : lt[m - q]? with
          | none => rfl
          | some x => rw [hl] at hno hnc; cases x with | no => rfl | fx A => cases hno | nw j ob => cases hnc), m', (by
          simp only [zL, ltTk, hqm', if_false, hx]; rfl), ⟨fun a w M _ hs => by
            rw [hv a w]
            refine ⟨[blk w.heap.size ob], ⟨⟨⟨_, rfl⟩, rfl⟩, fun H' hH' => ?_⟩, hs.push ob⟩
            simp only [zL, ltTk, hqm', if_false, hx, LT.tk, hH', blockOf]⟩⟩⟩ } h.out⟩
/-- An operation behind them that doesn't look at memory. -/
theorem DL_val {v : Value} (hi : isMem op = false) (hq : Nat.ble q m = true) (htk0 : LT.tk (fun _ => (undef, [])) lt[m - q]? = []) (hnc : LT.cz lt[m - q]? = none) (hno : (lt.all fun x => match LT.cz (some x) with | some j => !Nat.beq j m | none => true) = true) (hd : Nat.blt d C.n = true)
    (hv : ∀ H, Yv C (F H) [] ⟨some d, op, ty, pos, af, none⟩ v)
    (h : DL C l0 (zL C l0 q l2 lt hlt k) rest (m + 1) (fun H => (d, v) :: F H) L N) : DL C l0 (zL C l0 q l2 lt hlt k) (⟨some d, op, ty, pos, af, none⟩ :: rest) m F L N :=
  have hqm : ¬ m < q := by have := Nat.le_of_ble_eq_true hq; omega
  ⟨.cons ⟨fun _ u M => u = v ∧ M = [], fun _ => v, fun _ => [], none, false⟩ ⟨fun H => (d, v) :: F H, fun _ => L, N, []⟩
    { loc := fun _ _ _ _ _ h => h
      val := fun _ h => ⟨h.1.symm, h.2.symm⟩
      hE := fun _ => rfl
      hN := fun _ => by simp
      hG := rfl
      hpf := fun _ h => by cases h
      same := fun _ => rfl
      store := fun h => by cases h
      fits := hd
      step := fun _ H _ => ⟨true, rfl, fun h => (by cases h), fun _ => .inl ⟨fun m' hm' => by
          simp only [zL, ltTk] at hm'
          split at hm'
          · cases hm'
          · cases hx : lt[m' - q]? with
            | none => rw [hx] at hm'; cases hm'
            | some x =>
              rw [hx] at hm'
              have := List.all_eq_true.1 hno x (List.mem_of_getElem? hx)
              rw [hm'] at this
              simp at this, .inl ⟨(by
          simp only [zL, ltTk, hqm, if_false]
          cases hl : lt[m - q]? with
          | none => rfl
          | some x => rw [hl] at htk0 hnc; cases x with | no => rfl | fx A => cases htk0 | nw j ob => cases hnc), (by
          simp only [hi]
          exact Does.val0 (hv H))⟩⟩⟩ } h.out⟩
def LT.find : List LT → Nat → Nat → Option Nat
  | [], _, _ => none
  | .nw j _ :: l, m, t => bif Nat.beq j m then some t else LT.find l m (t + 1)
  | _ :: l, m, t => LT.find l m (t + 1)
theorem DL_allocA {t : TypeId} {t' : Nat} {cs : Array Value} (hz : zeroOf C.P t = some (.agg cs)) (hq : Nat.ble q m = true) (_hf : LT.find lt m 0 = some t') (hx : lt[t']? = some (.nw m (.cells cs t))) (hno : LT.tk (fun _ => (undef, [])) lt[m - q]? = []) (hnc : LT.cz lt[m - q]? = none) (hd : Nat.blt d C.n = true)
    (h : DL C l0 (zL C l0 q l2 lt hlt k) rest (m + 1) (fun H => (d, .pointer (some ⟨blockOf (H m).1, 0, none⟩)) :: F H) L N) : DL C l0 (zL C l0 q l2 lt hlt k) (⟨some d, .alloc t, ty, pos, af, none⟩ :: rest) m F L N :=
  DL_new (q + t') hq (by rw [Nat.add_sub_cancel_left]; exact hx) (by simp) hno hnc hd (fun a w => by simp [execOp, Instr.alloc, run_zeroValue hz, newVar, newRow, Value.cells]) h
end
theorem DCond.pure {dst : Option Nat} {o : Oper} (ho : o.dst = dst) {v : Value} (hf : fitsN C.n dst = true)
    (hz : m < z.old.q) (hs : ∃ b, wantedE l0.toArray E o.guard = some b ∧ (b = false → v = undef) ∧ (b = true → if isMem o.op = true then ∀ X, Does C E (L ++ X) (L ++ X) o (fun u N => u = v ∧ N = []) else Does C E [] [] o (fun u N => u = v ∧ N = []))) :
    DCond C l0 z.p z.old m o ⟨fun _ => E, fun _ => L, fun _ => [], []⟩ ⟨fun _ u N => u = v ∧ N = [], fun _ => v, fun _ => [], none, false⟩ ⟨fun _ => putE dst v E, fun _ => L, fun _ => [], []⟩ where
  loc := fun _ _ _ _ _ h => h
  val := fun _ h => ⟨h.1.symm, h.2.symm⟩
  hE := fun _ => by rw [ho]
  hN := fun _ => rfl
  hG := rfl
  hpf := fun _ h => by cases h
  same := fun _ => rfl
  store := fun h => by cases h
  fits := by rw [ho]; exact hf
  step := fun _ H _ => by
    obtain ⟨b, h1, h2, h3⟩ := hs
    have hno : ∀ m', z.old.cz m' ≠ some m := fun m' h => by have := z.old.hcz m' m h; omega
    refine ⟨b, h1, fun hb => ⟨rfl, z.old.htk m hz H, hno, (h2 hb).symm, rfl⟩, fun hb => .inl ⟨hno, .inl ⟨z.old.htk m hz H, ?_⟩⟩⟩
    have := h3 hb
    split
    · rename_i hm; rw [if_pos hm] at this; exact this _
    · rename_i hm; rw [if_neg hm] at this; exact this
/-- An operation that doesn't look at memory. -/
theorem D0_val {v : Value} (hi : isMem op = false) (hg : wantedE l0.toArray E g = some true) (hd : Nat.blt d C.n = true)
    (hv : Yv C E [] ⟨some d, op, ty, pos, af, g⟩ v) (h : D0 C l0 z rest (m + 1) ((d, v) :: E) L) : D0 C l0 z (⟨some d, op, ty, pos, af, g⟩ :: rest) m E L :=
  ⟨fun hq => .cons _ _ (DCond.pure rfl hd (by rw [← hq, List.length_cons]; omega) ⟨true, hg, fun h => (by cases h), fun _ => by simp only [hi]; exact Does.val0 hv⟩) (h.out (by rw [← hq, List.length_cons]; omega))⟩
/-- .. that looks at memory. -/
theorem D0_valM {v : Value} (hi : isMem op = true) (hg : wantedE l0.toArray E g = some true) (hd : Nat.blt d C.n = true)
    (hv : Yv C E L ⟨some d, op, ty, pos, af, g⟩ v) (h : D0 C l0 z rest (m + 1) ((d, v) :: E) L) : D0 C l0 z (⟨some d, op, ty, pos, af, g⟩ :: rest) m E L :=
  ⟨fun hq => .cons _ _ (DCond.pure rfl hd (by rw [← hq, List.length_cons]; omega) ⟨true, hg, fun h => (by cases h), fun _ => by simp only [hi, if_true]; exact fun X => Does.val hv⟩) (h.out (by rw [← hq, List.length_cons]; omega))⟩
/-- A call whose value alone is told. -/
theorem D0_callV {fo : Operand} {f : FuncId} {aS : List Operand} {vs : List Value} {ats : Array TypeId} {v : Value} (hf : ev E fo = some (.func (.func f) #[] #[])) (ha : evs E aS = some vs) (hb : hasBody C.P f = true)
    (hc : ∀ w, St C L w → Fn C.P f vs.toArray w fun u N => u = v ∧ N = []) (hg : wantedE l0.toArray E g = some true) (hd : Nat.blt d C.n = true)
    (h : D0 C l0 z rest (m + 1) ((d, v) :: E) L) : D0 C l0 z (⟨some d, .call ⟨.value fo, aS.toArray, ats⟩, ty, pos, af, g⟩ :: rest) m E L :=
  ⟨fun hq => .cons _ _ (DCond.pure rfl hd (by rw [← hq, List.length_cons]; omega) ⟨true, hg, fun h => (by cases h), fun _ => by
    simp only [isMem, if_true]; exact fun X => Does.call hf ha hb fun w hs => hc w hs.left⟩) (h.out (by rw [← hq, List.length_cons]; omega))⟩
/-- An operation that turns an owned block. -/
theorem D0_set (q : Nat) {b : Nat} {cs cs' : Array Value} {e : TypeId} {fz : Nat × Nat} (hi : isMem op = true) (hst : okStore l0 m = true) (hg : wantedE l0.toArray E g = some true)
    (hq : L[q]? = some (blk b (.cells cs e fz)))
    (hv : ∀ a w, Rel C.n E a → St C L w → w.heap[b]? = some (.cells cs e fz) → (execOp a.eval ⟨none, op, ty, pos, af, g⟩).run C.P w = .ok .skip (w.setRow b cs'))
    (h : D0 C l0 z rest (m + 1) E (L.set q (blk b (.cells cs' e fz)))) : D0 C l0 z (⟨none, op, ty, pos, af, g⟩ :: rest) m E L :=
  ⟨fun hqq => .cons ⟨fun _ u N => u = undef ∧ N = [], fun _ => undef, fun _ => [], none, true⟩ ⟨fun _ => E, fun _ => L.set q (blk b (.cells cs' e fz)), fun _ => [], []⟩
    { loc := fun _ _ _ _ _ h => h
      val := fun _ h => ⟨h.1.symm, h.2.symm⟩
      hE := fun _ => rfl
      hN := fun _ => rfl
      hG := rfl
      hpf := fun _ h => by cases h
      same := fun h => by cases h
      store := fun _ => ⟨hst, hi, q, fun _ => blk b (.cells cs' e fz), fun _ => rfl, fun _ _ _ => rfl⟩
      fits := rfl
      step := fun _ H _ => ⟨true, hg, fun h => (by cases h), fun _ => .inl ⟨fun m' h => by have := z.old.hcz m' m h; rw [← hqq, List.length_cons] at this; omega, .inl ⟨z.old.htk m (by rw [← hqq, List.length_cons]; omega) H, by simp only [hi, if_true]; exact Does.set hq hv⟩⟩⟩ } (h.out (by rw [← hqq, List.length_cons]; omega))⟩
end
section
variable {C : Ctx} {l0 : List Oper} {z : Zone} {k : K} {E : Env} {L : Hp} {rest : List Oper} {m : Nat} {ty : TypeId} {pos : String} {af : Array Edge} {g : Option (Nat × Bool)}
variable {x y : Operand} {t e : TypeId} {b off n : Nat} {kd : IntKind} {l l' : List Int} {p : Int}
/-- A store into a cell. -/
theorem D0_store1 (q : Nat) {v : Value} {cs cs' : Array Value} (hst : okStore l0 m = true) (ht : szOf C.P t = some 1) (hx : ev E x = some (.pointer (some ⟨b, off, none⟩))) (hy : ev E y = some v) (h1 : v.oneCell' = true)
    (hq : L[q]? = some (blk b (.cells cs e (0, 0)))) (ho : off < cs.size) (hcs : cs.setIfInBounds off v = cs') (hg : wantedE l0.toArray E g = some true)
    (h : D0 C l0 z rest (m + 1) E (L.set q (blk b (.cells cs' e (0, 0))))) : D0 C l0 z (⟨none, .store t x y, ty, pos, af, g⟩ :: rest) m E L :=
  D0_set q rfl hst hg hq (run_store1 ht hx hy h1 ho hcs) h
theorem D0_storeI (q : Nat) (hst : okStore l0 m = true) (ht : szOf C.P t = some 1) (hx : ev E x = some (.pointer (some ⟨b, off, none⟩))) (hy : ev E y = some (.int kd p))
    (hq : L[q]? = some (blk b (.cells (ints kd l) e (0, 0)))) (ho : off < l.length) (hl : l.set off p = l') (hg : wantedE l0.toArray E g = some true)
    (h : D0 C l0 z rest (m + 1) E (L.set q (blk b (.cells (ints kd l') e (0, 0))))) : D0 C l0 z (⟨none, .store t x y, ty, pos, af, g⟩ :: rest) m E L :=
  D0_store1 q hst ht hx hy rfl hq (by simpa using ho) (by rw [ints_set, hl]) hg h
theorem D0_storeAI (q : Nat) (hst : okStore l0 m = true) (ht : szOf C.P t = some n) (hx : ev E x = some (.pointer (some ⟨b, 0, none⟩))) (hy : ev E y = some (.agg (ints kd l')))
    (hq : L[q]? = some (blk b (.cells (ints kd l) e (0, 0)))) (hl : l.length = n) (hm : l'.length = n) (hg : wantedE l0.toArray E g = some true)
    (h : D0 C l0 z rest (m + 1) E (L.set q (blk b (.cells (ints kd l') e (0, 0))))) : D0 C l0 z (⟨none, .store t x y, ty, pos, af, g⟩ :: rest) m E L :=
  D0_set q rfl hst hg hq (run_storeA (by rw [ht, ints_size, hm]) hx hy (ints_one _ _) (by simp [hl, hm])) h
end
section
variable {C : Ctx} {l0 : List Oper} {k : K} {L : Hp} {rest : List Oper} {m : Nat} {ty : TypeId} {pos : String} {af : Array Edge}
variable {x y : Operand} {t e : TypeId} {n q : Nat} {kd : IntKind} {l l' : List Int} {l2 : List Oper}
theorem DL_storeAI {F : Hist → Env} {N : Hist → Hp} {B : Hist → Nat} {lt : List LT} {hlt : ltOk l0 q lt = true} (hq : Nat.ble q m = true) (htk : ∀ H, LT.tk H lt[m - q]? = [blk (B H) (.cells (ints kd l) e (0, 0))]) (hno : (lt.all fun x => match LT.cz (some x) with | some j => !Nat.beq j m | none => true) = true)
    (ht : szOf C.P t = some n) (hx : ∀ H, ev (F H) x = some (.pointer (some ⟨B H, 0, none⟩))) (hy : ∀ H, ev (F H) y = some (.agg (ints kd l')))
    (hl : l.length = n) (hm : l'.length = n) (h : DL C l0 (zL C l0 q l2 lt hlt k) rest (m + 1) F L (fun H => N H ++ [blk (B H) (.cells (ints kd l') e (0, 0))])) : DL C l0 (zL C l0 q l2 lt hlt k) (⟨none, .store t x y, ty, pos, af, none⟩ :: rest) m F L N :=
  DL_set hq htk hno (fun H a w hr hb => run_storeA' (by rw [ht, ints_size, hm]) (hx H) (hy H) (ints_one _ _) (by simp [hl, hm]) a w hr hb) h
end
/-- A walk that has made memory of its own: where it lies depends on the order. -/
structure D1 (C : Ctx) (l0 : List Oper) (z : Zone) (l : List Oper) (m : Nat) (E : Hist → Env) (L : Hp) (N : Hist → Hp) : Prop where
  out : m + l.length = z.old.q → DW C l0 z (l ++ z.tl) m ⟨E, fun _ => L, N, []⟩
section
variable {C : Ctx} {l0 : List Oper} {z : Zone} {k : K} {E : Env} {F : Hist → Env} {L : Hp} {N : Hist → Hp} {rest : List Oper} {m d : Nat} {op : Op} {ty : TypeId} {pos : String} {af : Array Edge}
end
end Go.Proofs.YtjolmphkmfbpbaaDoor
