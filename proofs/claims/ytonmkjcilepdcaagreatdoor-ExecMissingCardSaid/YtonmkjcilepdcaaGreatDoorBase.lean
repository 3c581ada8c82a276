import Derived.Orders
import Derived.Below
import Derived.KernelRfl
import Derived.Tactics
import Derived.Laws.Rows
import Derived.Laws.CopyOwn
import Derived.Laws.CopyRow
namespace Go.Proofs.YtonmkjcilepdcaaGreatDoor
open Go.RowKit

abbrev Env := List (Nat × Value)
/-- A part of memory. -/
abbrev PH := Nat → Option Obj
/-- What is said of a part of memory. -/
abbrev Asr := PH → Prop
abbrev Hp := List Asr
/-- A block that is known. -/
def blk (b : Nat) (o : Obj) : Asr := fun h => h b = some o
open Classical in
/-- The part of memory that a set of blocks is. -/
noncomputable def cut (S : Nat → Prop) (w : World) : PH := fun b => if S b then w.heap[b]? else none
theorem cut_in {S : Nat → Prop} {w : World} {b : Nat} {o : Obj} (h : cut S w b = some o) : S b ∧ w.heap[b]? = some o := by
  unfold cut at h
  split at h
  · exact ⟨by assumption, h⟩
  · cases h
theorem cut_of {S : Nat → Prop} {w : World} {b : Nat} {o : Obj} (h : S b) (hw : w.heap[b]? = some o) : cut S w b = some o := by
  unfold cut
  rw [if_pos h, hw]
theorem cut_congr {S : Nat → Prop} {w w' : World} (h : ∀ b, S b → w'.heap[b]? = w.heap[b]?) : cut S w' = cut S w := by
  funext b
  unfold cut
  split
  · rename_i hb; exact h b hb
  · rfl
/-- Whose blocks: each assertion has blocks of its own, and holds of them. -/
structure Own (FB : Nat → Prop) (L : Hp) (w : World) (ow : Nat → Nat → Prop) : Prop where
  free : ∀ i b, ow i b → ¬ FB b
  lt : ∀ i b, ow i b → b < w.heap.size
  one : ∀ i j b, ow i b → ow j b → i = j
  sat : ∀ (i : Nat) (A : Asr), L[i]? = some A → A (cut (ow i) w)
/-- N stands among L. -/
def Emb (N L : Hp) : Prop := ∃ f : Nat → Nat, (∀ i j, f i = f j → i = j) ∧ ∀ (i : Nat) (A : Asr), N[i]? = some A → L[f i]? = some A
theorem Own.emb {FB : Nat → Prop} {L N : Hp} {w : World} {ow : Nat → Nat → Prop} (h : Own FB L w ow) (he : Emb N L) : ∃ ow', Own FB N w ow' ∧ ∀ i b, ow' i b → ∃ j, ow j b := by
  obtain ⟨f, hf, hN⟩ := he
  exact ⟨fun i => ow (f i), ⟨fun i b => h.free _ b, fun i b => h.lt _ b, fun i j b h1 h2 => hf _ _ (h.one _ _ b h1 h2), fun i A hA => h.sat _ A (hN i A hA)⟩, fun i b hb => ⟨_, hb⟩⟩
theorem Emb.refl (L : Hp) : Emb L L := ⟨id, fun _ _ h => h, fun _ _ h => h⟩
theorem Emb.trans {A B D : Hp} (h : Emb A B) (g : Emb B D) : Emb A D := by
  obtain ⟨f, hf, h⟩ := h
  obtain ⟨k, hk, g⟩ := g
  exact ⟨fun i => k (f i), fun i j e => hf _ _ (hk _ _ e), fun i a ha => g _ _ (h _ _ ha)⟩
theorem Emb.left (L M : Hp) : Emb L (L ++ M) := ⟨id, fun _ _ h => h, fun i A h => by
  have := (List.getElem?_eq_some_iff.1 h).1
  rw [id, List.getElem?_append_left this]; exact h⟩
theorem Emb.cons {N L : Hp} (a : Asr) (h : Emb N L) : Emb (a :: N) (a :: L) := by
  obtain ⟨f, hf, h⟩ := h
  refine ⟨fun i => match i with | 0 => 0 | i + 1 => f i + 1, ?_, ?_⟩
  · intro i j e
    cases i <;> cases j <;> simp_all
    exact hf _ _ e
  · intro i A hA
    cases i with
    | zero => simpa using hA
    | succ i => simp at hA ⊢; exact h i A hA
theorem Emb.skip {N L : Hp} (a : Asr) (h : Emb N L) : Emb N (a :: L) := by
  obtain ⟨f, hf, h⟩ := h
  exact ⟨fun i => f i + 1, fun i j e => hf _ _ (by simpa using e), fun i A hA => by simpa using h i A hA⟩
theorem Emb.nil (L : Hp) : Emb [] L := ⟨id, fun _ _ h => h, fun i A h => by simp at h⟩
theorem Emb.one (q : Nat) {A : Asr} {L : Hp} (h : L[q]? = some A) : Emb [A] L :=
  ⟨fun i => q + i, fun i j e => by simpa using e, fun i B hB => by
    match i with
    | 0 => have : A = B := by simpa using hB
           subst this; exact h
    | i + 1 => simp at hB⟩
theorem Emb.two (q r : Nat) (hqr : Nat.beq q r = false) {A B : Asr} {L : Hp} (h : L[q]? = some A) (h2 : L[r]? = some B) : Emb [A, B] L := by
  have hne : q ≠ r := by rintro rfl; simp at hqr
  refine ⟨fun i => match i with | 0 => q | 1 => r | i + 2 => q + r + i + 1, ?_, ?_⟩
  · intro i j e
    match i, j with
    | 0, 0 => rfl
    | 1, 1 => rfl
    | 0, 1 => exact absurd e hne
    | 1, 0 => exact absurd e.symm hne
    | 0, j + 2 => have e : q = q + r + j + 1 := e; omega
    | 1, j + 2 => have e : r = q + r + j + 1 := e; omega
    | i + 2, 0 => have e : q + r + i + 1 = q := e; omega
    | i + 2, 1 => have e : q + r + i + 1 = r := e; omega
    | i + 2, j + 2 => have e : q + r + i + 1 = q + r + j + 1 := e; omega
  · intro i X hX
    match i with
    | 0 => have : A = X := by simpa using hX
           subst this; exact h
    | 1 => have : B = X := by simpa using hX
           subst this; exact h2
    | i + 2 => simp at hX
def nodupB : List Nat → Bool
  | [] => true
  | q :: qs => !qs.contains q && nodupB qs
theorem nodupB_spec : ∀ {qs : List Nat}, nodupB qs = true → qs.Nodup
  | [], _ => List.nodup_nil
  | q :: qs, h => by
    simp only [nodupB, Bool.and_eq_true, Bool.not_eq_true', List.contains_eq_mem, decide_eq_false_iff_not] at h
    exact List.nodup_cons.2 ⟨h.1, nodupB_spec h.2⟩
theorem mem_le_sum : ∀ {qs : List Nat} {q : Nat}, q ∈ qs → q ≤ qs.sum
  | a :: qs, q, h => by
    rw [List.sum_cons]
    rcases List.mem_cons.1 h with rfl | h
    · omega
    · have := mem_le_sum h; omega
/-- .. at these places. -/
theorem Emb.idx (qs : List Nat) {N L : Hp} (hn : nodupB qs = true) (h : qs.map (fun q => L[q]?) = N.map some) : Emb N L := by
  have hd := nodupB_spec hn
  have hl : qs.length = N.length := by have := congrArg List.length h; simpa using this
  refine ⟨fun i => if h : i < qs.length then qs[i] else qs.sum + 1 + i, ?_, ?_⟩
  · intro i j e
    by_cases hi : i < qs.length <;> by_cases hj : j < qs.length
    · simp only [hi, hj, dite_true] at e
      exact (List.getElem_inj hd).1 e
    · simp only [hi, hj, dite_true, dite_false] at e
      have := mem_le_sum (List.getElem_mem hi); omega
    · simp only [hi, hj, dite_true, dite_false] at e
      have := mem_le_sum (List.getElem_mem hj); omega
    · simp only [hi, hj, dite_false] at e
      omega
  · intro i A hA
    have hi : i < qs.length := by rw [hl]; exact (List.getElem?_eq_some_iff.1 hA).1
    simp only [hi, dite_true]
    have := congrArg (fun l => l[i]?) h
    simp only [List.getElem?_map, hA, List.getElem?_eq_getElem hi, Option.map_some] at this
    simpa using this
theorem Emb.of_sublist {N L : Hp} (h : N.Sublist L) : Emb N L := by
  induction h with
  | slnil => exact .refl _
  | cons a _ ih => exact ih.skip a
  | cons_cons a _ ih => exact ih.cons a
theorem Emb.of_perm {N L : Hp} (h : N.Perm L) : Emb N L := by
  induction h with
  | nil => exact .refl _
  | cons a _ ih => exact ih.cons a
  | swap a b l =>
    refine ⟨fun i => match i with | 0 => 1 | 1 => 0 | i + 2 => i + 2, ?_, ?_⟩
    · intro i j e
      match i, j with
      | 0, 0 => rfl
      | 1, 1 => rfl
      | i + 2, j + 2 => simpa using e
      | 0, 1 => simp at e
      | 1, 0 => simp at e
      | 0, j + 2 => simp at e
      | 1, j + 2 => simp at e
      | i + 2, 0 => simp at e
      | i + 2, 1 => simp at e
    · intro i A hA
      match i with
      | 0 => simpa using hA
      | 1 => simpa using hA
      | i + 2 => simpa using hA
  | trans _ _ ih1 ih2 => exact ih1.trans ih2

/-- What is known of a slot. -/
def Env.get : Env → Nat → Option Value
  | [], _ => none
  | (e, v) :: E, d => bif Nat.beq e d then some v else Env.get E d

structure Ctx where
  P : Program
  n : Nat
  FB : Nat → Prop
  w0 : World

structure Rel (n : Nat) (E : Env) (a : Act) : Prop where
  size : a.tmps.size = n
  defers : a.defers = []
  get : ∀ d v, E.get d = some v → a.tmps[d]? = some v

structure St (C : Ctx) (L : Hp) (w : World) : Prop where
  os : w.os = C.w0.os
  tape : w.tape = C.w0.tape
  output : w.output = C.w0.output
  size : C.w0.heap.size ≤ w.heap.size
  fixed : ∀ k, C.FB k → w.heap[k]? = C.w0.heap[k]?
  fb : ∀ k, C.FB k → k < C.w0.heap.size
  own : ∃ ow, Own C.FB L w ow

def ev (E : Env) : Operand → Option Value
  | .tmp d => E.get d
  | .const v => some v
  | .global g => some (.pointer (some ⟨g, 0, none⟩))
  | .func f => some (.func (.func f) #[] #[])

theorem Rel.eval {n : Nat} {E : Env} {a : Act} (h : Rel n E a) {x : Operand} {v : Value} (hx : ev E x = some v) : a.eval x = v := by
  cases x with
  | tmp d =>
    have := h.get d v hx
    simp [Act.eval, Array.getD_eq_getD_getElem?, this]
  | const u => simpa [ev, Act.eval] using hx
  | global g => simpa [ev, Act.eval] using hx
  | func f => simpa [ev, Act.eval] using hx

theorem Rel.put {n : Nat} {E : Env} {a : Act} (h : Rel n E a) {d : Nat} (hd : d < n) (v : Value) : Rel n ((d, v) :: E) (a.put (some d) v) := by
  refine ⟨by simp [Act.put, h.size], h.defers, fun e u he => ?_⟩
  simp only [Env.get] at he
  by_cases hde : d = e
  · subst hde
    simp at he
    subst he
    simp [Act.put, h.size, hd]
  · have hb : Nat.beq d e = false := by
      cases hh : Nat.beq d e with
      | false => rfl
      | true => exact absurd (Nat.eq_of_beq_eq_true hh) hde
    rw [hb] at he
    have := h.get e u he
    simp [Act.put, Array.getElem?_setIfInBounds_ne hde, this]

theorem Rel.put_none {n : Nat} {E : Env} {a : Act} (h : Rel n E a) (v : Value) : Rel n E (a.put none v) := h

theorem Rel.mono {n : Nat} {E F : Env} {a : Act} (h : Rel n E a) (hF : ∀ d v, F.get d = some v → E.get d = some v) : Rel n F a :=
  ⟨h.size, h.defers, fun d v hd => h.get d v (hF d v hd)⟩

/-- What comes behind. -/
inductive K where
  | seq (b : Code) (k : K)
  | blk (id : Nat) (k : K)
  | loop (I : Env → Hp → Prop) (k : K)
  | fin (Q : Env → Hp → Prop)

def lift (C : Ctx) (Q : Exit → Env → Hp → Prop) (ex : Exit) (a : Act) (w : World) : Prop :=
  ∃ E L, Rel C.n E a ∧ St C L w ∧ Q ex E L

structure T0 (C : Ctx) (c : Code) (Q : Exit → Env → Hp → Prop) (E : Env) (L : Hp) : Prop where
  out : ∀ a w, Rel C.n E a → St C L w → c.wp C.P (lift C Q) a w

def K.sem (C : Ctx) : K → Exit → Env → Hp → Prop
  | .seq b k, ex => match ex with
    | .normal => T0 C b (K.sem C k)
    | ex => K.sem C k ex
  | .blk id k, ex => match ex with
    | .exit id' => if id' = id then K.sem C k .normal else K.sem C k (.exit id')
    | ex => K.sem C k ex
  | .loop I k, ex => match ex with
    | .normal => I
    | ex => K.sem C k ex
  | .fin Q, ex => match ex with
    | .normal => Q
    | .ret => Q
    | _ => fun _ _ => False

/-- The code c, from what is known, and then k. -/
structure T (C : Ctx) (c : Code) (k : K) (E : Env) (L : Hp) : Prop where
  out : T0 C c (k.sem C) E L

/-- The way ex is taken, and then k. -/
structure X (C : Ctx) (ex : Exit) (k : K) (E : Env) (L : Hp) : Prop where
  out : k.sem C ex E L

section
variable {C : Ctx} {k : K} {E : Env} {L : Hp}

theorem T_seq {x y : Code} (h : T C x (.seq y k) E L) : T C (.seq x y) k E L := by
  refine ⟨⟨fun a w hr hs => wp_seq (wp_mono (h.out.out a w hr hs) ?_)⟩⟩
  rintro ex a w ⟨E', L', hr', hs', hq⟩
  cases ex with
  | normal => exact T0.out (by simpa [K.sem] using hq) a w hr' hs'
  | _ => exact ⟨E', L', hr', hs', by simpa [K.sem] using hq⟩

theorem X_seq {y : Code} (h : T C y k E L) : X C .normal (.seq y k) E L := ⟨by simpa [K.sem] using h.out⟩
theorem X_seq_exit {y : Code} {i : Nat} (h : X C (.exit i) k E L) : X C (.exit i) (.seq y k) E L := ⟨by simpa [K.sem] using h.out⟩
theorem X_seq_ret {y : Code} (h : X C .ret k E L) : X C .ret (.seq y k) E L := ⟨by simpa [K.sem] using h.out⟩
theorem X_blk {i : Nat} (h : X C .normal k E L) : X C .normal (.blk i k) E L := ⟨by simpa [K.sem] using h.out⟩
theorem X_blk_hit {i j : Nat} (hij : Nat.beq i j = true) (h : X C .normal k E L) : X C (.exit i) (.blk j k) E L :=
  ⟨by have := Nat.eq_of_beq_eq_true hij; simpa [K.sem, this] using h.out⟩
theorem X_blk_miss {i j : Nat} (hij : Nat.beq i j = false) (h : X C (.exit i) k E L) : X C (.exit i) (.blk j k) E L :=
  ⟨by have : i ≠ j := by rintro rfl; simp at hij
      simpa [K.sem, this] using h.out⟩
theorem X_blk_ret {i : Nat} (h : X C .ret k E L) : X C .ret (.blk i k) E L := ⟨by simpa [K.sem] using h.out⟩
theorem X_loop {I : Env → Hp → Prop} (h : I E L) : X C .normal (.loop I k) E L := ⟨by simpa [K.sem] using h⟩
theorem X_loop_exit {I : Env → Hp → Prop} {i : Nat} (h : X C (.exit i) k E L) : X C (.exit i) (.loop I k) E L := ⟨by simpa [K.sem] using h.out⟩
theorem X_loop_ret {I : Env → Hp → Prop} (h : X C .ret k E L) : X C .ret (.loop I k) E L := ⟨by simpa [K.sem] using h.out⟩
theorem X_fin {Q : Env → Hp → Prop} (h : Q E L) : X C .normal (.fin Q) E L := ⟨by simpa [K.sem] using h⟩
theorem X_fin_ret {Q : Env → Hp → Prop} (h : Q E L) : X C .ret (.fin Q) E L := ⟨by simpa [K.sem] using h⟩

theorem T_skip (h : X C .normal k E L) : T C .skip k E L := ⟨⟨fun _ _ hr hs => wp_skip ⟨E, L, hr, hs, h.out⟩⟩⟩
theorem T_label {l : Nat} (h : X C .normal k E L) : T C (.label l) k E L := ⟨⟨fun _ _ hr hs => wp_label ⟨E, L, hr, hs, h.out⟩⟩⟩
theorem T_exit {i : Nat} (h : X C (.exit i) k E L) : T C (.exit i) k E L := ⟨⟨fun _ _ hr hs => wp_exit ⟨E, L, hr, hs, h.out⟩⟩⟩
theorem T_ret (h : X C .ret k E L) : T C .ret k E L := ⟨⟨fun _ _ hr hs => wp_ret ⟨E, L, hr, hs, h.out⟩⟩⟩
theorem T_block {i : Nat} {c : Code} (h : T C c (.blk i k) E L) : T C (.block i c) k E L := by
  refine ⟨⟨fun a w hr hs => wp_block (wp_mono (h.out.out a w hr hs) ?_)⟩⟩
  rintro ex a w ⟨E', L', hr', hs', hq⟩
  cases ex with
  | exit j =>
    simp only [Exit.inBlock, K.sem] at hq ⊢
    split
    · rename_i e; rw [if_pos e] at hq; exact ⟨E', L', hr', hs', hq⟩
    · rename_i e; rw [if_neg e] at hq; exact ⟨E', L', hr', hs', hq⟩
  | _ => exact ⟨E', L', hr', hs', by simpa [K.sem] using hq⟩
theorem T_cond_true {c : Operand} {x y : Code} (hc : ev E c = some (.bool true)) (h : T C x k E L) : T C (.cond c x y) k E L :=
  ⟨⟨fun a w hr hs => wp_cond_true (hr.eval hc) (h.out.out a w hr hs)⟩⟩
theorem T_cond_false {c : Operand} {x y : Code} (hc : ev E c = some (.bool false)) (h : T C y k E L) : T C (.cond c x y) k E L :=
  ⟨⟨fun a w hr hs => wp_cond_false (hr.eval hc) (h.out.out a w hr hs)⟩⟩
theorem T_cond {c : Operand} {x y : Code} {b : Bool} (hc : ev E c = some (.bool b)) (ht : b = true → T C x k E L) (hf : b = false → T C y k E L) : T C (.cond c x y) k E L := by
  cases b
  · exact T_cond_false hc (hf rfl)
  · exact T_cond_true hc (ht rfl)
/-- A test on something that may hold or not. -/
theorem T_if {c : Operand} {x y : Code} {p : Prop} [Decidable p] (hc : ev E c = some (.bool (decide p))) (ht : p → T C x k E L) (hf : ¬ p → T C y k E L) : T C (.cond c x y) k E L :=
  T_cond hc (fun h => ht (of_decide_eq_true h)) (fun h => hf (of_decide_eq_false h))

theorem St.emb {C : Ctx} {L N : Hp} {w : World} (h : St C L w) (he : Emb N L) : St C N w := by
  obtain ⟨ow, ho⟩ := h.own
  obtain ⟨ow', ho', _⟩ := ho.emb he
  exact ⟨h.os, h.tape, h.output, h.size, h.fixed, h.fb, ow', ho'⟩
theorem St.mono {C : Ctx} {L M N : Hp} {w : World} (h : St C L w) (hL : L = M ++ N) : St C M w := h.emb (hL ▸ Emb.left M N)
theorem St.perm {C : Ctx} {L L' : Hp} {w : World} (h : St C L w) (hp : L.Perm L') : St C L' w := h.emb (Emb.of_perm hp.symm)
theorem St.known {C : Ctx} {L : Hp} {w : World} (h : St C L w) {q b : Nat} {o : Obj} (hq : L[q]? = some (blk b o)) : w.heap[b]? = some o := by
  obtain ⟨ow, ho⟩ := h.own
  exact (cut_in (ho.sat q _ hq)).2

/-- Less need be known. -/
theorem T.weak {c : Code} {F : Env} {M : Hp} (N : Hp) (h : T C c k F M) (hF : ∀ d v, F.get d = some v → E.get d = some v) (hL : L = M ++ N) : T C c k E L :=
  ⟨⟨fun a w hr hs => h.out.out a w (hr.mono hF) (hs.mono hL)⟩⟩

def Env.sub (F E : Env) : Prop := ∀ d v, F.get d = some v → E.get d = some v
theorem Env.sub_nil (E : Env) : Env.sub [] E := fun _ _ h => by cases h
theorem Env.sub_cons {F E : Env} {d : Nat} {v : Value} (h : E.get d = some v) (hF : Env.sub F E) : Env.sub ((d, v) :: F) E := by
  intro e u he
  simp only [Env.get] at he
  cases hb : Nat.beq d e with
  | true =>
    rw [hb] at he
    have := Nat.eq_of_beq_eq_true hb
    subst this
    simp at he
    subst he
    exact h
  | false => rw [hb] at he; exact hF e u he


theorem wp_loop_gen {P : Program} {Q : Exit → Act → World → Prop} {c : Code} {α : Type} (I : α → Act → World → Prop) (m : α → Nat)
    (round : ∀ x a w, I x a w → c.wp P (Exit.then (fun a' w' => ∃ y, I y a' w' ∧ m y < m x) Q) a w) (x₀ : α) {a : Act} {w : World} (h₀ : I x₀ a w) : (Code.loop c).wp P Q a w := by
  intro b k cs
  have key : ∀ n x a w, m x = n → I x a w →
      ∃ e a' w', Q e a' w' ∧ Arrives P (lone (b.at a (.code c :: .inLoop c :: k)) cs w) b k cs e a' w' := by
    intro n
    induction n using Nat.strongRecOn with
    | _ n ih =>
      intro x a w hn hI
      obtain ⟨e, a₁, w₁, hq, harr⟩ := round x a w hI b (.inLoop c :: k) cs
      cases e with
      | normal =>
        obtain ⟨y, hI₁, hlt⟩ := hq
        obtain ⟨e₂, a₂, w₂, hq₂, harr₂⟩ := ih (m y) (hn ▸ hlt) y a₁ w₁ rfl hI₁
        exact ⟨e₂, a₂, w₂, hq₂, .of_steps (Steps.trans harr (.one step_inLoop)) harr₂⟩
      | exit id => exact ⟨_, a₁, w₁, hq, .pass (x := .inLoop c) rfl (fun _ _ => .inl (by simp)) harr⟩
      | goto l => exact ⟨_, a₁, w₁, hq, .pass (x := .inLoop c) rfl (fun _ _ => .inl (by simp)) harr⟩
      | ret => exact ⟨_, a₁, w₁, hq, .pass (x := .inLoop c) rfl (fun _ _ => .inl (by simp)) harr⟩
      | panic ch => exact ⟨_, a₁, w₁, hq, .pass (x := .inLoop c) rfl (fun _ _ => .inl (by simp)) harr⟩
      | outgrown => exact ⟨_, a₁, w₁, hq, .pass (x := .inLoop c) rfl (fun _ _ => .inl (by simp)) harr⟩
  obtain ⟨e, a', w', hq, harr⟩ := key _ x₀ a w rfl h₀
  exact ⟨e, a', w', hq, .of_steps (.one step_loop) harr⟩

/-- A loop: at each of its heads there is an x with J x; each round lowers m. -/
theorem T_loop {c : Code} {α : Type} (J : α → Prop) (F : α → Env) (M : α → Hp) (m : α → Nat) (x₀ : α) (hJ : J x₀) (hF : Env.sub (F x₀) E) (N : Hp) (hL : L = M x₀ ++ N)
    (round : ∀ x, J x → T C c (.loop (fun E' L' => ∃ y, J y ∧ m y < m x ∧ Env.sub (F y) E' ∧ ∃ N', L' = M y ++ N') k) (F x) (M x)) : T C (.loop c) k E L := by
  refine ⟨⟨fun a w hr hs => wp_loop_gen (fun x a w => J x ∧ Rel C.n (F x) a ∧ St C (M x) w) m ?_ x₀ ⟨hJ, hr.mono hF, hs.mono hL⟩⟩⟩
  rintro x a w ⟨hx, hr, hs⟩
  refine wp_mono ((round x hx).out.out a w hr hs) ?_
  rintro ex a w ⟨E', L', hr', hs', hq⟩
  cases ex with
  | normal =>
    simp only [K.sem] at hq
    obtain ⟨y, hy, hm, hF', N', hL'⟩ := hq
    exact ⟨y, ⟨hy, hr'.mono hF', hs'.mono hL'⟩, hm⟩
  | _ => exact ⟨E', L', hr', hs', by simpa [K.sem] using hq⟩
/-- .. what is owned at its head may lie anywhere. -/
theorem T_loopE {c : Code} {α : Type} (J : α → Prop) (F : α → Env) (M : α → Hp) (m : α → Nat) (x₀ : α) (hJ : J x₀) (hF : Env.sub (F x₀) E) (hL : Emb (M x₀) L)
    (round : ∀ x, J x → T C c (.loop (fun E' L' => ∃ y, J y ∧ m y < m x ∧ Env.sub (F y) E' ∧ Emb (M y) L') k) (F x) (M x)) : T C (.loop c) k E L := by
  refine ⟨⟨fun a w hr hs => wp_loop_gen (fun x a w => J x ∧ Rel C.n (F x) a ∧ St C (M x) w) m ?_ x₀ ⟨hJ, hr.mono hF, hs.emb hL⟩⟩⟩
  rintro x a w ⟨hx, hr, hs⟩
  refine wp_mono ((round x hx).out.out a w hr hs) ?_
  rintro ex a w ⟨E', L', hr', hs', hq⟩
  cases ex with
  | normal =>
    simp only [K.sem] at hq
    obtain ⟨y, hy, hm, hF', hL'⟩ := hq
    exact ⟨y, ⟨hy, hr'.mono hF', hs'.emb hL'⟩, hm⟩
  | _ => exact ⟨E', L', hr', hs', by simpa [K.sem] using hq⟩
theorem T_emb {c : Code} {M : Hp} (he : Emb M L) (h : T C c k E M) : T C c k E L := ⟨⟨fun a w hr hs => h.out.out a w hr (hs.emb he)⟩⟩
end

/-- In whatever fits, the operation yields v and leaves the world. -/
structure Yv (C : Ctx) (E : Env) (L : Hp) (o : Oper) (v : Value) : Prop where
  out : ∀ a w, Rel C.n E a → St C L w → (execOp a.eval o).run C.P w = .ok (.value v) w

section
variable {C : Ctx} {k : K} {E : Env} {L : Hp}
/-! ### operations, in the order in which they stand -/

structure S (C : Ctx) (ops : Array Oper) (l : List Oper) (k : K) (E : Env) (L : Hp) : Prop where
  out : ∀ a w, Rel C.n E a → St C L w → wpList C.P ops (lift C (k.sem C)) l a w

theorem T_region {id : Nat} {l : List Oper} (h : S C l.toArray l k E L) : T C (.region id l.toArray false) k E L :=
  ⟨⟨fun a w hr hs => wp_region_lit (h.out a w hr hs)⟩⟩

theorem S_nil {ops : Array Oper} (h : X C .normal k E L) : S C ops [] k E L := ⟨fun _ _ hr hs => ⟨E, L, hr, hs, h.out⟩⟩

/-- Is the operation wanted? -/
def wantedE (ops : Array Oper) (E : Env) : Option (Nat × Bool) → Option Bool
  | none => some true
  | some (j, want) =>
    match (ops[j]?).bind (·.dst) with
    | some d => match E.get d with
      | some (.bool b) => some (b == want)
      | some (.tuple _) => some false
      | _ => none
    | none => none

theorem wantedE_spec {n : Nat} {ops : Array Oper} {a : Act} (hr : Rel n E a) {o : Oper} {b : Bool} (h : wantedE ops E o.guard = some b) : Region.wanted o (yielded ops a.tmps) = b := by
  unfold wantedE at h
  unfold Region.wanted
  split at h
  · rename_i hg; rw [hg]; simpa using h
  · rename_i j want hg
    rw [hg]
    split at h
    · rename_i d hd
      have key : ∀ v, E.get d = some v → ((ops[j]?).bind (·.dst)).bind (a.tmps[·]?) = some v := fun v hv => by rw [hd]; exact hr.get d v hv
      split at h
      · rename_i c hc
        have := key _ hc
        simp only [yielded, this]
        simpa using h
      · rename_i c hc
        have := key _ hc
        simp only [yielded, this]
        simpa using h
      · cases h
    · cases h

def putE (dst : Option Nat) (v : Value) (E : Env) : Env :=
  match dst with
  | some d => (d, v) :: E
  | none => E
def fitsN (n : Nat) : Option Nat → Bool
  | some d => Nat.blt d n
  | none => true

theorem Rel.putE {n : Nat} {a : Act} (h : Rel n E a) {dst : Option Nat} (hd : fitsN n dst = true) (v : Value) : Rel n (putE dst v E) (a.put dst v) := by
  cases dst with
  | none => exact h
  | some d => exact h.put (by simpa [fitsN] using hd) v

variable {ops : Array Oper} {rest : List Oper}

section
variable {op : Op} {ty : TypeId} {pos : String} {af : Array Edge} {g : Option (Nat × Bool)} {d : Nat}
/-- An operation that isn't wanted. -/
theorem S_skip (hg : wantedE ops E g = some false) (hd : Nat.blt d C.n = true) (h : S C ops rest k ((d, undef) :: E) L) : S C ops (⟨some d, op, ty, pos, af, g⟩ :: rest) k E L := by
  refine ⟨fun a w hr hs => ?_⟩
  unfold wpList
  rw [wantedE_spec hr (o := ⟨some d, op, ty, pos, af, g⟩) hg]
  simpa using h.out _ _ (hr.put (by simpa using hd) undef) hs
theorem S_skipN (hg : wantedE ops E g = some false) (h : S C ops rest k E L) : S C ops (⟨none, op, ty, pos, af, g⟩ :: rest) k E L := by
  refine ⟨fun a w hr hs => ?_⟩
  unfold wpList
  rw [wantedE_spec hr (o := ⟨none, op, ty, pos, af, g⟩) hg]
  simp only [Bool.false_eq_true, if_false]
  exact h.out a w hr hs

/-- An operation that yields a value and leaves what is known of memory. -/
theorem S_val {v : Value} (hg : wantedE ops E g = some true) (hd : Nat.blt d C.n = true)
    (hv : Yv C E L ⟨some d, op, ty, pos, af, g⟩ v) (h : S C ops rest k ((d, v) :: E) L) : S C ops (⟨some d, op, ty, pos, af, g⟩ :: rest) k E L := by
  refine ⟨fun a w hr hs => ?_⟩
  unfold wpList
  rw [wantedE_spec hr (o := ⟨some d, op, ty, pos, af, g⟩) hg, if_pos rfl]
  refine .inl ?_
  unfold Oper.wp
  rw [hv.out a w hr hs]
  exact h.out _ _ (hr.put (by simpa using hd) v) hs
theorem S_valN {v : Value} (hg : wantedE ops E g = some true)
    (hv : Yv C E L ⟨none, op, ty, pos, af, g⟩ v) (h : S C ops rest k E L) : S C ops (⟨none, op, ty, pos, af, g⟩ :: rest) k E L := by
  refine ⟨fun a w hr hs => ?_⟩
  unfold wpList
  rw [wantedE_spec hr (o := ⟨none, op, ty, pos, af, g⟩) hg, if_pos rfl]
  refine .inl ?_
  unfold Oper.wp
  rw [hv.out a w hr hs]
  exact h.out _ _ hr hs
end
end

/-! ### values -/

section
variable {C : Ctx} {E : Env} {L : Hp}

variable {dst : Option Tmp} {ty : TypeId} {pos : String} {af : Array Edge} {g : Option (Nat × Bool)}

theorem Y_move {x : Operand} {v : Value} (hx : ev E x = some v) : Yv C E L ⟨dst, .move x, ty, pos, af, g⟩ v :=
  .mk fun a w hr _ => by simp [execOp, hr.eval hx]
theorem Y_assign {x : Operand} {v : Value} (hx : ev E x = some v) : Yv C E L ⟨dst, .assign x, ty, pos, af, g⟩ v :=
  .mk fun a w hr _ => by simp [execOp, hr.eval hx]
theorem Y_pick_t {c x y : Operand} {v : Value} (hc : ev E c = some (.bool true)) (hx : ev E x = some v) : Yv C E L ⟨dst, .pick c x y, ty, pos, af, g⟩ v :=
  .mk fun a w hr _ => by simp [execOp, hr.eval hx, hr.eval hc, asBool]
theorem Y_pick_f {c x y : Operand} {v : Value} (hc : ev E c = some (.bool false)) (hx : ev E y = some v) : Yv C E L ⟨dst, .pick c x y, ty, pos, af, g⟩ v :=
  .mk fun a w hr _ => by simp [execOp, hr.eval hx, hr.eval hc, asBool]
theorem Y_extract {x : Operand} {i : Nat} {vs : List Value} {v : Value} (hx : ev E x = some (.tuple vs.toArray)) (hv : vs[i]? = some v) : Yv C E L ⟨dst, .extract x i, ty, pos, af, g⟩ v :=
  .mk fun a w hr _ => by simp [execOp, hr.eval hx, Instr.extract, hv]

theorem eqGuard_int (op : BinOp) (t : TypeId) (x y : Operand) (k k' : IntKind) (p q : Int) (P : Program) (w : World) : (eqGuard op t x y (.int k p) (.int k' q)).run P w = .ok () w := by
  unfold eqGuard
  cases op <;> simp

/-- The integer is this natural number. -/
structure IsNat (p : Int) (m : Nat) : Prop where
  eq : p = (m : Int)
theorem nat_cast (m : Nat) : IsNat (m : Int) m := ⟨rfl⟩
theorem nat_lit' (n : Nat) : IsNat (@OfNat.ofNat Int n (@instOfNat n)) (@OfNat.ofNat Nat n (instOfNatNat n)) := ⟨rfl⟩
theorem nat_add' {p q : Int} {m n : Nat} (h : IsNat p m) (g : IsNat q n) : IsNat (p + q) (m + n) := ⟨by rw [h.eq, g.eq]; simp⟩
theorem nat_mul' {p q : Int} {m n : Nat} (h : IsNat p m) (g : IsNat q n) : IsNat (p * q) (m * n) := ⟨by rw [h.eq, g.eq]; simp⟩
theorem nat_mod' {p q : Int} {m n : Nat} (h : IsNat p m) (g : IsNat q n) : IsNat (p % q) (m % n) := ⟨by rw [h.eq, g.eq]; simp⟩
theorem nat_div' {p q : Int} {m n : Nat} (h : IsNat p m) (g : IsNat q n) : IsNat (p / q) (m / n) := ⟨by rw [h.eq, g.eq]; simp⟩

section
variable {x y : Operand} {t u : TypeId} {k k' : IntKind} {p q r : Int} {m n : Nat}
theorem Y_addN (hx : ev E x = some (.int .i64 p)) (hy : ev E y = some (.int .i64 q)) (hp : IsNat p m) (hq : IsNat q n) (h : m + n < 9223372036854775808) : Yv C E L ⟨dst, .binOp .add t x y u, ty, pos, af, g⟩ (.int .i64 ((m + n : Nat) : Int)) := by
  refine ⟨fun a w hr _ => ?_⟩
  have := hp.eq
  have := hq.eq
  subst p q
  have e : IntKind.i64.wrap ((m : Int) + n) = ((m + n : Nat) : Int) := by simp [IntKind.wrap, IntKind.signed, IntKind.bits]; omega
  simp [execOp, hr.eval hx, hr.eval hy, eqGuard_int, binOp, Op.intArith, e]
theorem Y_subN (hx : ev E x = some (.int .i64 p)) (hy : ev E y = some (.int .i64 q)) (hp : IsNat p m) (hq : IsNat q n) (h : n ≤ m) (hm : m < 9223372036854775808) : Yv C E L ⟨dst, .binOp .sub t x y u, ty, pos, af, g⟩ (.int .i64 ((m - n : Nat) : Int)) := by
  refine ⟨fun a w hr _ => ?_⟩
  have := hp.eq
  have := hq.eq
  subst p q
  have e : IntKind.i64.wrap ((m : Int) - n) = ((m - n : Nat) : Int) := by simp [IntKind.wrap, IntKind.signed, IntKind.bits]; omega
  simp [execOp, hr.eval hx, hr.eval hy, eqGuard_int, binOp, Op.intArith, e]
theorem Y_mulN (hx : ev E x = some (.int .i64 p)) (hy : ev E y = some (.int .i64 q)) (hp : IsNat p m) (hq : IsNat q n) (h : m * n < 9223372036854775808) : Yv C E L ⟨dst, .binOp .mul t x y u, ty, pos, af, g⟩ (.int .i64 ((m * n : Nat) : Int)) := by
  refine ⟨fun a w hr _ => ?_⟩
  have := hp.eq
  have := hq.eq
  subst p q
  have e : IntKind.i64.wrap ((m : Int) * n) = ((m * n : Nat) : Int) := by rw [← Int.natCast_mul]; simp [IntKind.wrap, IntKind.signed, IntKind.bits]; omega
  simp [execOp, hr.eval hx, hr.eval hy, eqGuard_int, binOp, Op.intArith, e]
/-- .. of unsigned ones: what stays within. -/
theorem Y_addU (hx : ev E x = some (.int k p)) (hy : ev E y = some (.int k q)) (hp : IsNat p m) (hq : IsNat q n) (hk : k.signed = false) (h : m + n < 2 ^ k.bits) : Yv C E L ⟨dst, .binOp .add t x y u, ty, pos, af, g⟩ (.int k ((m + n : Nat) : Int)) := by
  refine ⟨fun a w hr _ => ?_⟩
  have := hp.eq
  have := hq.eq
  subst p q
  have e : k.wrap ((m : Int) + n) = ((m + n : Nat) : Int) := by
    simp only [IntKind.wrap, hk, Bool.false_and, Bool.false_eq_true, if_false]
    rw [← Int.natCast_add]
    exact Int.emod_eq_of_lt (by omega) (by exact_mod_cast h)
  simp [execOp, hr.eval hx, hr.eval hy, eqGuard_int, binOp, Op.intArith, e]
theorem Y_mulU (hx : ev E x = some (.int k p)) (hy : ev E y = some (.int k q)) (hp : IsNat p m) (hq : IsNat q n) (hk : k.signed = false) (h : m * n < 2 ^ k.bits) : Yv C E L ⟨dst, .binOp .mul t x y u, ty, pos, af, g⟩ (.int k ((m * n : Nat) : Int)) := by
  refine ⟨fun a w hr _ => ?_⟩
  have := hp.eq
  have := hq.eq
  subst p q
  have e : k.wrap ((m : Int) * n) = ((m * n : Nat) : Int) := by
    simp only [IntKind.wrap, hk, Bool.false_and, Bool.false_eq_true, if_false]
    rw [← Int.natCast_mul]
    exact Int.emod_eq_of_lt (by omega) (by exact_mod_cast h)
  simp [execOp, hr.eval hx, hr.eval hy, eqGuard_int, binOp, Op.intArith, e]
theorem Y_subU (hx : ev E x = some (.int k p)) (hy : ev E y = some (.int k q)) (hp : IsNat p m) (hq : IsNat q n) (hk : k.signed = false) (h : n ≤ m) (hm : m < 2 ^ k.bits) : Yv C E L ⟨dst, .binOp .sub t x y u, ty, pos, af, g⟩ (.int k ((m - n : Nat) : Int)) := by
  refine ⟨fun a w hr _ => ?_⟩
  have := hp.eq
  have := hq.eq
  subst p q
  have e : k.wrap ((m : Int) - n) = ((m - n : Nat) : Int) := by
    simp only [IntKind.wrap, hk, Bool.false_and, Bool.false_eq_true, if_false]
    rw [← Int.natCast_sub h]
    exact Int.emod_eq_of_lt (by omega) (by exact_mod_cast (by omega : m - n < 2 ^ k.bits))
  simp [execOp, hr.eval hx, hr.eval hy, eqGuard_int, binOp, Op.intArith, e]
/-- .. what goes round, at 64 bits. -/
theorem Y_add64 (hx : ev E x = some (.int .u64 p)) (hy : ev E y = some (.int .u64 q)) (hp : IsNat p m) (hq : IsNat q n) : Yv C E L ⟨dst, .binOp .add t x y u, ty, pos, af, g⟩ (.int .u64 (((m + n) % 18446744073709551616 : Nat) : Int)) := by
  refine ⟨fun a w hr _ => ?_⟩
  have := hp.eq
  have := hq.eq
  subst p q
  have e : IntKind.u64.wrap ((m : Int) + n) = (((m + n) % 18446744073709551616 : Nat) : Int) := by simp [IntKind.wrap, IntKind.signed, IntKind.bits]
  simp [execOp, hr.eval hx, hr.eval hy, eqGuard_int, binOp, Op.intArith, e]
theorem Y_mul64 (hx : ev E x = some (.int .u64 p)) (hy : ev E y = some (.int .u64 q)) (hp : IsNat p m) (hq : IsNat q n) : Yv C E L ⟨dst, .binOp .mul t x y u, ty, pos, af, g⟩ (.int .u64 ((m * n % 18446744073709551616 : Nat) : Int)) := by
  refine ⟨fun a w hr _ => ?_⟩
  have := hp.eq
  have := hq.eq
  subst p q
  have e : IntKind.u64.wrap ((m : Int) * n) = ((m * n % 18446744073709551616 : Nat) : Int) := by simp [IntKind.wrap, IntKind.signed, IntKind.bits]
  simp [execOp, hr.eval hx, hr.eval hy, eqGuard_int, binOp, Op.intArith, e]
theorem Y_sub64 (hx : ev E x = some (.int .u64 p)) (hy : ev E y = some (.int .u64 q)) (hp : IsNat p m) (hq : IsNat q n) (hn : n ≤ 18446744073709551616) : Yv C E L ⟨dst, .binOp .sub t x y u, ty, pos, af, g⟩ (.int .u64 (((m + (18446744073709551616 - n)) % 18446744073709551616 : Nat) : Int)) := by
  refine ⟨fun a w hr _ => ?_⟩
  have := hp.eq
  have := hq.eq
  subst p q
  have e : IntKind.u64.wrap ((m : Int) - n) = (((m + (18446744073709551616 - n)) % 18446744073709551616 : Nat) : Int) := by simp [IntKind.wrap, IntKind.signed, IntKind.bits]; omega
  simp [execOp, hr.eval hx, hr.eval hy, eqGuard_int, binOp, Op.intArith, e]
theorem Y_quoN (hx : ev E x = some (.int k p)) (hy : ev E y = some (.int k q)) (hp : IsNat p m) (hq : IsNat q n) (hn : n ≠ 0) (hk : (m : Int) ≤ k.max) : Yv C E L ⟨dst, .binOp .quo t x y u, ty, pos, af, g⟩ (.int k ((m / n : Nat) : Int)) := by
  refine ⟨fun a w hr _ => ?_⟩
  have := hp.eq
  have := hq.eq
  subst p q
  have h0 : m / n ≤ m := Nat.div_le_self _ _
  have e : k.wrap ((m : Int) / n) = (m : Int) / n := by
    rw [← Int.natCast_ediv]
    generalize m / n = j at *
    cases k <;> simp [IntKind.max, IntKind.wrap, IntKind.signed, IntKind.bits] at * <;> omega
  have hn' : (n : Int) ≠ 0 := by omega
  simp [execOp, hr.eval hx, hr.eval hy, eqGuard_int, binOp, Op.intDiv, hn, e]
theorem Y_remN (hx : ev E x = some (.int k p)) (hy : ev E y = some (.int k q)) (hp : IsNat p m) (hq : IsNat q n) (hn : n ≠ 0) : Yv C E L ⟨dst, .binOp .rem t x y u, ty, pos, af, g⟩ (.int k ((m % n : Nat) : Int)) := by
  refine ⟨fun a w hr _ => ?_⟩
  have := hp.eq
  have := hq.eq
  subst p q
  simp [execOp, hr.eval hx, hr.eval hy, eqGuard_int, binOp, Op.intDiv, hn]
  rfl
theorem pow_min (m s b : Nat) (hm : m < 2 ^ b) : m / 2 ^ min s b = m / 2 ^ s := by
  rcases Nat.le_total s b with h | h
  · rw [Nat.min_eq_left h]
  · rw [Nat.min_eq_right h, Nat.div_eq_of_lt hm, Nat.div_eq_of_lt (Nat.lt_of_lt_of_le hm (Nat.pow_le_pow_right (by omega) h))]
/-- Shifted down, without a sign. -/
theorem Y_shrN (hx : ev E x = some (.int k p)) (hy : ev E y = some (.int k' q)) (hp : IsNat p m) (hq : IsNat q n) (hm : m < 2 ^ k.bits) : Yv C E L ⟨dst, .binOp .shr t x y u, ty, pos, af, g⟩ (.int k ((m / 2 ^ n : Nat) : Int)) := by
  refine ⟨fun a w hr _ => ?_⟩
  have := hp.eq
  have := hq.eq
  subst p q
  have e : ((m : Nat) : Int).fdiv (2 ^ min n k.bits) = ((m / 2 ^ n : Nat) : Int) := by
    rw [← pow_min m n k.bits hm, show (2 : Int) ^ min n k.bits = ((2 ^ min n k.bits : Nat) : Int) by simp, Int.fdiv_eq_ediv_of_nonneg _ (Int.natCast_nonneg _), Int.natCast_ediv]
  simp [execOp, hr.eval hx, hr.eval hy, eqGuard_int, binOp, Op.shift, e]
  exact fun h => absurd h (by omega)
/-- Shifted up, without a sign. -/
theorem Y_shlN (hx : ev E x = some (.int k p)) (hy : ev E y = some (.int k' q)) (hp : IsNat p m) (hq : IsNat q n) (hk : k.signed = false) {B : Nat} (hB : 2 ^ k.bits = B) : Yv C E L ⟨dst, .binOp .shl t x y u, ty, pos, af, g⟩ (.int k ((m * 2 ^ n % B : Nat) : Int)) := by
  refine ⟨fun a w hr _ => ?_⟩
  have := hp.eq
  have := hq.eq
  subst p q B
  have e : k.wrap ((m : Int) * 2 ^ min n k.bits) = ((m * 2 ^ n % 2 ^ k.bits : Nat) : Int) := by
    simp only [IntKind.wrap, hk, Bool.false_and, Bool.false_eq_true, if_false]
    rw [show (2 : Int) ^ min n k.bits = ((2 ^ min n k.bits : Nat) : Int) by simp, show (2 : Int) ^ k.bits = ((2 ^ k.bits : Nat) : Int) by simp, ← Int.natCast_mul, ← Int.natCast_emod]
    congr 1
    rcases Nat.le_total n k.bits with h | h
    · rw [Nat.min_eq_left h]
    · rw [Nat.min_eq_right h, Nat.mul_mod_left]
      obtain ⟨j, rfl⟩ : ∃ j, n = k.bits + j := ⟨n - k.bits, by omega⟩
      rw [Nat.pow_add, ← Nat.mul_assoc, Nat.mul_right_comm, Nat.mul_mod_left]
  simp [execOp, hr.eval hx, hr.eval hy, eqGuard_int, binOp, Op.shift, e]
  exact fun h => absurd h (by omega)
theorem natmod {m b : Nat} (h : m < 2 ^ b) : ((m : Nat) : Int) % (2 : Int) ^ b = m := Int.emod_eq_of_lt (by omega) (by exact_mod_cast h)
theorem Y_add (hx : ev E x = some (.int k p)) (hy : ev E y = some (.int k q)) (hr : k.wrap (p + q) = r) : Yv C E L ⟨dst, .binOp .add t x y u, ty, pos, af, g⟩ (.int k r) :=
  .mk fun a w h _ => by simp [execOp, h.eval hx, h.eval hy, eqGuard_int, binOp, Op.intArith, hr]
theorem Y_sub (hx : ev E x = some (.int k p)) (hy : ev E y = some (.int k q)) (hr : k.wrap (p - q) = r) : Yv C E L ⟨dst, .binOp .sub t x y u, ty, pos, af, g⟩ (.int k r) :=
  .mk fun a w h _ => by simp [execOp, h.eval hx, h.eval hy, eqGuard_int, binOp, Op.intArith, hr]
theorem Y_mul (hx : ev E x = some (.int k p)) (hy : ev E y = some (.int k q)) (hr : k.wrap (p * q) = r) : Yv C E L ⟨dst, .binOp .mul t x y u, ty, pos, af, g⟩ (.int k r) :=
  .mk fun a w h _ => by simp [execOp, h.eval hx, h.eval hy, eqGuard_int, binOp, Op.intArith, hr]
theorem Y_quo (hx : ev E x = some (.int k p)) (hy : ev E y = some (.int k q)) (hq : q ≠ 0) (hr : k.wrap (p.tdiv q) = r) : Yv C E L ⟨dst, .binOp .quo t x y u, ty, pos, af, g⟩ (.int k r) :=
  .mk fun a w h _ => by simp [execOp, h.eval hx, h.eval hy, eqGuard_int, binOp, Op.intDiv, hr, hq]
theorem Y_rem (hx : ev E x = some (.int k p)) (hy : ev E y = some (.int k q)) (hq : q ≠ 0) (hr : p.tmod q = r) : Yv C E L ⟨dst, .binOp .rem t x y u, ty, pos, af, g⟩ (.int k r) :=
  .mk fun a w h _ => by simp [execOp, h.eval hx, h.eval hy, eqGuard_int, binOp, Op.intDiv, hr, hq]
theorem Y_and (hx : ev E x = some (.int k p)) (hy : ev E y = some (.int k q)) (hp : IsNat p m) (hq : IsNat q n) (hk : k.signed = false) (hm : m < 2 ^ k.bits) (hn : n < 2 ^ k.bits) :
    Yv C E L ⟨dst, .binOp .and t x y u, ty, pos, af, g⟩ (.int k ((m &&& n : Nat) : Int)) := by
  refine ⟨fun a w h _ => ?_⟩
  have := hp.eq
  have := hq.eq
  subst p q
  have h3 : m &&& n < 2 ^ k.bits := Nat.and_lt_two_pow m hn
  simp [execOp, h.eval hx, h.eval hy, eqGuard_int, binOp, Op.intBits, IntKind.wrap, hk, Nat.mod_eq_of_lt hm, Nat.mod_eq_of_lt hn, natmod h3]
theorem Y_mask32 (hx : ev E x = some (.int .u64 p)) (hy : ev E y = some (.int .u64 4294967295)) (hp : IsNat p m) (hm : m < 18446744073709551616) : Yv C E L ⟨dst, .binOp .and t x y u, ty, pos, af, g⟩ (.int .u64 ((m % 4294967296 : Nat) : Int)) := by
  have := Y_and (C := C) (L := L) (dst := dst) (ty := ty) (pos := pos) (af := af) (g := g) (t := t) (u := u) hx hy hp (n := 4294967295) ⟨rfl⟩ rfl (by simp only [IntKind.bits]; omega) (by simp only [IntKind.bits]; omega)
  rwa [show m &&& 4294967295 = m % 4294967296 from Nat.and_two_pow_sub_one_eq_mod m 32] at this
theorem Y_or (hx : ev E x = some (.int k p)) (hy : ev E y = some (.int k q)) (hp : IsNat p m) (hq : IsNat q n) (hk : k.signed = false) (hm : m < 2 ^ k.bits) (hn : n < 2 ^ k.bits) :
    Yv C E L ⟨dst, .binOp .or t x y u, ty, pos, af, g⟩ (.int k ((m ||| n : Nat) : Int)) := by
  refine ⟨fun a w h _ => ?_⟩
  have := hp.eq
  have := hq.eq
  subst p q
  have h3 : m ||| n < 2 ^ k.bits := Nat.or_lt_two_pow hm hn
  simp [execOp, h.eval hx, h.eval hy, eqGuard_int, binOp, Op.intBits, IntKind.wrap, hk, Nat.mod_eq_of_lt hm, Nat.mod_eq_of_lt hn, natmod h3]
theorem Y_xor (hx : ev E x = some (.int k p)) (hy : ev E y = some (.int k q)) (hp : IsNat p m) (hq : IsNat q n) (hk : k.signed = false) (hm : m < 2 ^ k.bits) (hn : n < 2 ^ k.bits) :
    Yv C E L ⟨dst, .binOp .xor t x y u, ty, pos, af, g⟩ (.int k ((m ^^^ n : Nat) : Int)) := by
  refine ⟨fun a w h _ => ?_⟩
  have := hp.eq
  have := hq.eq
  subst p q
  have h3 : m ^^^ n < 2 ^ k.bits := Nat.xor_lt_two_pow hm hn
  simp [execOp, h.eval hx, h.eval hy, eqGuard_int, binOp, Op.intBits, IntKind.wrap, hk, Nat.mod_eq_of_lt hm, Nat.mod_eq_of_lt hn, natmod h3]
theorem Y_andn (hx : ev E x = some (.int k p)) (hy : ev E y = some (.int k q)) (hp : IsNat p m) (hq : IsNat q n) (hk : k.signed = false) (hm : m < 2 ^ k.bits) (hn : n < 2 ^ k.bits) :
    Yv C E L ⟨dst, .binOp .andNot t x y u, ty, pos, af, g⟩ (.int k ((m &&& (2 ^ k.bits - 1 - n) : Nat) : Int)) := by
  refine ⟨fun a w h _ => ?_⟩
  have := hp.eq
  have := hq.eq
  subst p q
  have h3 : m &&& (2 ^ k.bits - 1 - n) < 2 ^ k.bits := Nat.and_lt_two_pow m (by omega)
  simp [execOp, h.eval hx, h.eval hy, eqGuard_int, binOp, Op.intBits, IntKind.wrap, hk, Nat.mod_eq_of_lt hm, Nat.mod_eq_of_lt hn, natmod h3]
/-- ^x of an unsigned number. -/
theorem Y_cpl (hx : ev E x = some (.int k p)) (hp : IsNat p m) (hk : k.signed = false) (hm : m < 2 ^ k.bits) :
    Yv C E L ⟨dst, .unOp .xor t x, ty, pos, af, g⟩ (.int k ((2 ^ k.bits - 1 - m : Nat) : Int)) := by
  refine ⟨fun a w h _ => ?_⟩
  have := hp.eq
  subst p
  have h0 := Nat.two_pow_pos k.bits
  have hmax : IntKind.max k = ((2 ^ k.bits - 1 : Nat) : Int) := by
    simp only [IntKind.max, hk]
    simp only [Bool.false_eq_true, if_false]
    rw [Int.natCast_sub (by omega)]
    simp
  have h2 : (((2 ^ k.bits - 1 : Nat) : Nat) : Int) % 2 ^ k.bits = (2 ^ k.bits - 1 : Nat) := natmod (by omega)
  have hx2 : (2 ^ k.bits - 1) ^^^ m = 2 ^ k.bits - 1 - m := by
    apply Nat.eq_of_testBit_eq
    intro i
    rw [Nat.testBit_xor, Nat.testBit_two_pow_sub_one, show 2 ^ k.bits - 1 - m = 2 ^ k.bits - (m + 1) by omega, Nat.testBit_two_pow_sub_succ hm]
    by_cases hi : i < k.bits
    · simp [hi]
    · have : m.testBit i = false := Nat.testBit_lt_two_pow (Nat.lt_of_lt_of_le hm (Nat.pow_le_pow_right (by omega) (by omega)))
      simp [hi, this]
  have h4 : ((2 ^ k.bits - 1 - m : Nat) : Int) % 2 ^ k.bits = ((2 ^ k.bits - 1 - m : Nat) : Int) := natmod (by omega)
  simp only [execOp, h.eval hx, Op.unary, hk, Bool.false_eq_true, if_false, hmax, Op.intBits]
  simp only [Sem.run_bind, Sem.run_pure, Result.andThen_ok, BitVec.toNat_xor, BitVec.toNat_ofInt]
  rw [show (((2 ^ k.bits : Nat) : Int)) = (2 : Int) ^ k.bits by simp, h2, natmod hm]
  simp only [Int.toNat_natCast, hx2, IntKind.wrap, hk, Bool.false_and, Bool.false_eq_true, if_false, h4]
theorem Y_shl (hx : ev E x = some (.int k p)) (hy : ev E y = some (.int k' q)) (hq : 0 ≤ q) (hr : k.wrap (p * 2 ^ min q.toNat k.bits) = r) : Yv C E L ⟨dst, .binOp .shl t x y u, ty, pos, af, g⟩ (.int k r) :=
  .mk fun a w h _ => by simp [execOp, h.eval hx, h.eval hy, eqGuard_int, binOp, Op.shift, hr, Int.not_lt.2 hq]
theorem Y_shr (hx : ev E x = some (.int k p)) (hy : ev E y = some (.int k' q)) (hq : 0 ≤ q) (hr : p.fdiv (2 ^ min q.toNat k.bits) = r) : Yv C E L ⟨dst, .binOp .shr t x y u, ty, pos, af, g⟩ (.int k r) :=
  .mk fun a w h _ => by simp [execOp, h.eval hx, h.eval hy, eqGuard_int, binOp, Op.shift, hr, Int.not_lt.2 hq]
theorem Y_eql (hx : ev E x = some (.int k p)) (hy : ev E y = some (.int k q)) : Yv C E L ⟨dst, .binOp .eql t x y u, ty, pos, af, g⟩ (.bool (decide (p = q))) :=
  .mk fun a w h _ => by simp [execOp, h.eval hx, h.eval hy, eqGuard_int, binOp, Op.intCmp]; rfl
theorem Y_neq (hx : ev E x = some (.int k p)) (hy : ev E y = some (.int k q)) : Yv C E L ⟨dst, .binOp .neq t x y u, ty, pos, af, g⟩ (.bool (decide (p ≠ q))) :=
  .mk fun a w h _ => by
    have : (p != q) = decide (p ≠ q) := by by_cases e : p = q <;> simp [e]
    simp [execOp, h.eval hx, h.eval hy, eqGuard_int, binOp, Op.intCmp, this]
theorem Y_lss (hx : ev E x = some (.int k p)) (hy : ev E y = some (.int k q)) : Yv C E L ⟨dst, .binOp .lss t x y u, ty, pos, af, g⟩ (.bool (decide (p < q))) :=
  .mk fun a w h _ => by simp [execOp, h.eval hx, h.eval hy, eqGuard_int, binOp, Op.intCmp]
theorem Y_leq (hx : ev E x = some (.int k p)) (hy : ev E y = some (.int k q)) : Yv C E L ⟨dst, .binOp .leq t x y u, ty, pos, af, g⟩ (.bool (decide (p ≤ q))) :=
  .mk fun a w h _ => by simp [execOp, h.eval hx, h.eval hy, eqGuard_int, binOp, Op.intCmp]
theorem Y_gtr (hx : ev E x = some (.int k p)) (hy : ev E y = some (.int k q)) : Yv C E L ⟨dst, .binOp .gtr t x y u, ty, pos, af, g⟩ (.bool (decide (q < p))) :=
  .mk fun a w h _ => by simp [execOp, h.eval hx, h.eval hy, eqGuard_int, binOp, Op.intCmp]
theorem Y_geq (hx : ev E x = some (.int k p)) (hy : ev E y = some (.int k q)) : Yv C E L ⟨dst, .binOp .geq t x y u, ty, pos, af, g⟩ (.bool (decide (q ≤ p))) :=
  .mk fun a w h _ => by simp [execOp, h.eval hx, h.eval hy, eqGuard_int, binOp, Op.intCmp]
theorem Y_lss_t (hx : ev E x = some (.int k p)) (hy : ev E y = some (.int k q)) (h : p < q) : Yv C E L ⟨dst, .binOp .lss t x y u, ty, pos, af, g⟩ (.bool true) := by
  have := Y_lss (C := C) (L := L) (dst := dst) (ty := ty) (pos := pos) (af := af) (g := g) (t := t) (u := u) hx hy
  rwa [decide_eq_true h] at this
theorem Y_lss_f (hx : ev E x = some (.int k p)) (hy : ev E y = some (.int k q)) (h : ¬ (p < q)) : Yv C E L ⟨dst, .binOp .lss t x y u, ty, pos, af, g⟩ (.bool false) := by
  have := Y_lss (C := C) (L := L) (dst := dst) (ty := ty) (pos := pos) (af := af) (g := g) (t := t) (u := u) hx hy
  rwa [decide_eq_false h] at this
theorem Y_leq_t (hx : ev E x = some (.int k p)) (hy : ev E y = some (.int k q)) (h : p ≤ q) : Yv C E L ⟨dst, .binOp .leq t x y u, ty, pos, af, g⟩ (.bool true) := by
  have := Y_leq (C := C) (L := L) (dst := dst) (ty := ty) (pos := pos) (af := af) (g := g) (t := t) (u := u) hx hy
  rwa [decide_eq_true h] at this
theorem Y_leq_f (hx : ev E x = some (.int k p)) (hy : ev E y = some (.int k q)) (h : ¬ (p ≤ q)) : Yv C E L ⟨dst, .binOp .leq t x y u, ty, pos, af, g⟩ (.bool false) := by
  have := Y_leq (C := C) (L := L) (dst := dst) (ty := ty) (pos := pos) (af := af) (g := g) (t := t) (u := u) hx hy
  rwa [decide_eq_false h] at this
theorem Y_gtr_t (hx : ev E x = some (.int k p)) (hy : ev E y = some (.int k q)) (h : q < p) : Yv C E L ⟨dst, .binOp .gtr t x y u, ty, pos, af, g⟩ (.bool true) := by
  have := Y_gtr (C := C) (L := L) (dst := dst) (ty := ty) (pos := pos) (af := af) (g := g) (t := t) (u := u) hx hy
  rwa [decide_eq_true h] at this
theorem Y_gtr_f (hx : ev E x = some (.int k p)) (hy : ev E y = some (.int k q)) (h : ¬ (q < p)) : Yv C E L ⟨dst, .binOp .gtr t x y u, ty, pos, af, g⟩ (.bool false) := by
  have := Y_gtr (C := C) (L := L) (dst := dst) (ty := ty) (pos := pos) (af := af) (g := g) (t := t) (u := u) hx hy
  rwa [decide_eq_false h] at this
theorem Y_geq_t (hx : ev E x = some (.int k p)) (hy : ev E y = some (.int k q)) (h : q ≤ p) : Yv C E L ⟨dst, .binOp .geq t x y u, ty, pos, af, g⟩ (.bool true) := by
  have := Y_geq (C := C) (L := L) (dst := dst) (ty := ty) (pos := pos) (af := af) (g := g) (t := t) (u := u) hx hy
  rwa [decide_eq_true h] at this
theorem Y_geq_f (hx : ev E x = some (.int k p)) (hy : ev E y = some (.int k q)) (h : ¬ (q ≤ p)) : Yv C E L ⟨dst, .binOp .geq t x y u, ty, pos, af, g⟩ (.bool false) := by
  have := Y_geq (C := C) (L := L) (dst := dst) (ty := ty) (pos := pos) (af := af) (g := g) (t := t) (u := u) hx hy
  rwa [decide_eq_false h] at this
theorem Y_eql_t (hx : ev E x = some (.int k p)) (hy : ev E y = some (.int k q)) (h : p = q) : Yv C E L ⟨dst, .binOp .eql t x y u, ty, pos, af, g⟩ (.bool true) := by
  have := Y_eql (C := C) (L := L) (dst := dst) (ty := ty) (pos := pos) (af := af) (g := g) (t := t) (u := u) hx hy
  rwa [decide_eq_true h] at this
theorem Y_eql_f (hx : ev E x = some (.int k p)) (hy : ev E y = some (.int k q)) (h : ¬ (p = q)) : Yv C E L ⟨dst, .binOp .eql t x y u, ty, pos, af, g⟩ (.bool false) := by
  have := Y_eql (C := C) (L := L) (dst := dst) (ty := ty) (pos := pos) (af := af) (g := g) (t := t) (u := u) hx hy
  rwa [decide_eq_false h] at this
theorem Y_neq_t (hx : ev E x = some (.int k p)) (hy : ev E y = some (.int k q)) (h : p ≠ q) : Yv C E L ⟨dst, .binOp .neq t x y u, ty, pos, af, g⟩ (.bool true) := by
  have := Y_neq (C := C) (L := L) (dst := dst) (ty := ty) (pos := pos) (af := af) (g := g) (t := t) (u := u) hx hy
  rwa [decide_eq_true h] at this
theorem Y_neq_f (hx : ev E x = some (.int k p)) (hy : ev E y = some (.int k q)) (h : ¬ (p ≠ q)) : Yv C E L ⟨dst, .binOp .neq t x y u, ty, pos, af, g⟩ (.bool false) := by
  have := Y_neq (C := C) (L := L) (dst := dst) (ty := ty) (pos := pos) (af := af) (g := g) (t := t) (u := u) hx hy
  rwa [decide_eq_false h] at this
theorem Y_conv {d : TypeDesc} (hu : C.P.underlying u = some (.int k)) (ht : C.P.underlying t = some d) (hx : ev E x = some (.int k' p)) (hr : k.wrap p = r) : Yv C E L ⟨dst, .convert t u x, ty, pos, af, g⟩ (.int k r) :=
  .mk fun a w h _ => by simp [execOp, h.eval hx, convert, run_underlying hu, run_underlying ht, Conv.intToInt, hr]
theorem Y_neg (hx : ev E x = some (.int k p)) (hr : k.wrap (0 - p) = r) : Yv C E L ⟨dst, .unOp .neg t x, ty, pos, af, g⟩ (.int k r) :=
  .mk fun a w h _ => by simp [execOp, h.eval hx, Op.unary, Op.intArith, ← hr]
end
theorem Y_not {x : Operand} {t : TypeId} {b c : Bool} (hx : ev E x = some (.bool b)) (hc : (!b) = c) : Yv C E L ⟨dst, .unOp .not t x, ty, pos, af, g⟩ (.bool c) :=
  .mk fun a w h _ => by simp [execOp, h.eval hx, Op.unary, hc]

theorem addr_add (b off n : Nat) : (⟨b, off, none⟩ : Addr).add n = ⟨b, off + n, none⟩ := by
  unfold Addr.add
  split <;> simp_all

def szOf (P : Program) (t : TypeId) : Option Nat := (P.info? t).map (·.size)
theorem run_sizeOf {P : Program} {t n : Nat} (h : szOf P t = some n) (w : World) : (sizeOf t).run P w = .ok n w := by
  unfold szOf at h
  cases hi : P.info? t with
  | none => simp [hi] at h
  | some i => simp [hi] at h; simp [sizeOf, typeInfo, hi, h]
def zeroOf (P : Program) (t : TypeId) : Option Value := (P.info? t).bind (·.zero)
theorem run_zeroValue {P : Program} {t : Nat} {v : Value} (h : zeroOf P t = some v) (w : World) : (zeroValue t).run P w = .ok v w := by
  unfold zeroOf at h
  cases hi : P.info? t with
  | none => simp [hi] at h
  | some i => simp [hi] at h; simp [zeroValue, typeInfo, hi, h]

section
variable {x y : Operand} {t e : TypeId} {k : IntKind} {p : Int} {n b off len cap i sz : Nat}
/-- An element's place in an array that begins its block, of elements of one cell. -/
theorem Y_ixa (ht : C.P.underlying t = some (.array n e)) (he : szOf C.P e = some 1) (hx : ev E x = some (.pointer (some ⟨b, 0, none⟩))) (hy : ev E y = some (.int k p))
    (hp : IsNat p i) (hi : i < n) : Yv C E L ⟨dst, .indexAddr t x y, ty, pos, af, g⟩ (.pointer (some ⟨b, i, none⟩)) := by
  refine ⟨fun a w h _ => ?_⟩
  have hp := hp.eq
  have h1 : 0 ≤ p ∧ p < (n : Int) := by omega
  have h2 : p.toNat = i := by omega
  simp [execOp, h.eval hx, h.eval hy, Instr.indexAt, asIntOf, run_underlying ht, Instr.sureAddr, run_sizeOf he, h1, addr_add, h2]
/-- An element's place in an array. -/
theorem Y_ixg (ht : C.P.underlying t = some (.array n e)) (he : szOf C.P e = some sz) (hx : ev E x = some (.pointer (some ⟨b, off, none⟩))) (hy : ev E y = some (.int k p))
    (hp : IsNat p i) (hi : i < n) : Yv C E L ⟨dst, .indexAddr t x y, ty, pos, af, g⟩ (.pointer (some ⟨b, off + i * sz, none⟩)) := by
  refine ⟨fun a w h _ => ?_⟩
  have hp := hp.eq
  have h1 : 0 ≤ p ∧ p < (n : Int) := by omega
  have h2 : p.toNat = i := by omega
  simp [execOp, h.eval hx, h.eval hy, Instr.indexAt, asIntOf, run_underlying ht, Instr.sureAddr, run_sizeOf he, h1, addr_add, h2]
/-- An element's place in a slice's array, of elements of one cell. -/
theorem Y_ixs (ht : C.P.underlying t = some (.slice e)) (he : szOf C.P e = some 1) (hx : ev E x = some (.slice (some ⟨b, off, none⟩) len cap)) (hy : ev E y = some (.int k p))
    (hp : IsNat p i) (hi : i < len) : Yv C E L ⟨dst, .indexAddr t x y, ty, pos, af, g⟩ (.pointer (some ⟨b, off + i, none⟩)) := by
  refine ⟨fun a w h _ => ?_⟩
  have hp := hp.eq
  have h1 : 0 ≤ p ∧ p < (len : Int) := by omega
  have h2 : p.toNat = i := by omega
  simp [execOp, h.eval hx, h.eval hy, Instr.indexAt, asIntOf, run_underlying ht, run_sizeOf he, h1, addr_add, h2]
theorem Y_ixs0 (ht : C.P.underlying t = some (.slice e)) (he : szOf C.P e = some 1) (hx : ev E x = some (.slice (some ⟨b, 0, none⟩) len cap)) (hy : ev E y = some (.int k p))
    (hp : IsNat p i) (hi : i < len) : Yv C E L ⟨dst, .indexAddr t x y, ty, pos, af, g⟩ (.pointer (some ⟨b, i, none⟩)) := by
  refine ⟨fun a w h hs => ?_⟩
  have := (Y_ixs (C := C) (E := E) (L := L) (dst := dst) (ty := ty) (pos := pos) (af := af) (g := g) ht he hx hy hp hi).out a w h hs
  simpa using this

def isAggB : TypeDesc → Bool
  | .struct _ | .array _ _ => true
  | _ => false
theorem run_isAgg {P : Program} {t : Nat} {d : TypeDesc} (h : P.underlying t = some d) (w : World) : (isAgg t).run P w = .ok (isAggB d) w := by
  unfold isAgg
  rw [Sem.run_bind, run_underlying h w]
  cases d <;> simp [isAggB]

theorem St.cell {C : Ctx} {L : Hp} {w : World} (h : St C L w) {q : Nat} {b off : Nat} {cs : Array Value} {e : TypeId} {fz : Nat × Nat} (hq : L[q]? = some (blk b (.cells cs e fz))) : w.cell? ⟨b, off, none⟩ = cs[off]? := by
  have := h.known hq
  simp [World.cell?, this]

/-- A cell that is known in whatever world fits. -/
theorem Y_load {d : TypeDesc} {v : Value} (ht : C.P.underlying t = some d) (hd : isAggB d = false) (hx : ev E x = some (.pointer (some ⟨b, off, none⟩)))
    (hc : ∀ w, St C L w → w.cell? ⟨b, off, none⟩ = some v) : Yv C E L ⟨dst, .load t x, ty, pos, af, g⟩ v := by
  refine ⟨fun a w h hs => ?_⟩
  simp [execOp, h.eval hx, Instr.loadAt, Instr.sureAddr, loadVar, run_isAgg ht, hd, hc w hs]
/-- A cell of what is owned. -/
theorem Y_load1 (q : Nat) {d : TypeDesc} {v : Value} {cs : Array Value} {e : TypeId} {fz : Nat × Nat} (ht : C.P.underlying t = some d) (hd : isAggB d = false) (hx : ev E x = some (.pointer (some ⟨b, off, none⟩)))
    (hq : L[q]? = some (blk b (.cells cs e fz))) (hv : cs[off]? = some v) : Yv C E L ⟨dst, .load t x, ty, pos, af, g⟩ v :=
  Y_load ht hd hx fun w hs => by rw [hs.cell hq, hv]
/-- The whole of a block that is owned. -/
theorem Y_loadA (q : Nat) {d : TypeDesc} {cs : Array Value} {e : TypeId} {fz : Nat × Nat} (ht : C.P.underlying t = some d) (hd : isAggB d = true) (hx : ev E x = some (.pointer (some ⟨b, 0, none⟩)))
    (hq : L[q]? = some (blk b (.cells cs e fz))) (hz : szOf C.P t = some cs.size) : Yv C E L ⟨dst, .load t x, ty, pos, af, g⟩ (.agg cs) := by
  refine ⟨fun a w h hs => ?_⟩
  have hw := hs.known hq
  have := run_loadVar_row (P := C.P) w b e t cs fz d hw ht (by cases d <;> simp_all [isAggB]) hz
  simp [execOp, h.eval hx, Instr.loadAt, Instr.sureAddr, this]
end
end

/-! ### new blocks, stores -/
section
variable {C : Ctx} {k : K} {E : Env} {L : Hp} {ops : Array Oper} {rest : List Oper} {dst : Option Tmp} {ty : TypeId} {pos : String} {af : Array Edge} {g : Option (Nat × Bool)}
variable {x y : Operand} {t e : TypeId} {b off : Nat}

/-- What an assertion's blocks become. -/
theorem St.upd {C : Ctx} {L : Hp} {w w' : World} (h : St C L w) {q : Nat} {A A' : Asr} (hq : L[q]? = some A) (h1 : w'.os = w.os) (h2 : w'.tape = w.tape) (h3 : w'.output = w.output) (h4 : w.heap.size ≤ w'.heap.size)
    (hu : ∀ D, A (cut D w) → (∀ b, D b → b < w.heap.size) → ∃ D', (∀ b, D' b → D b ∨ w.heap.size ≤ b) ∧ (∀ b, D' b → b < w'.heap.size) ∧ (∀ b, b < w.heap.size → ¬ D b → w'.heap[b]? = w.heap[b]?) ∧ A' (cut D' w')) : St C (L.set q A') w' := by
  obtain ⟨ow, ho⟩ := h.own
  have hql : q < L.length := (List.getElem?_eq_some_iff.1 hq).1
  obtain ⟨D', hd1, hd2, hd3, hd4⟩ := hu (ow q) (ho.sat q A hq) (ho.lt q)
  have hfb : ∀ b, C.FB b → b < w.heap.size := fun b hb => by have := h.fb b hb; have := h.size; omega
  refine ⟨h1.trans h.os, h2.trans h.tape, h3.trans h.output, Nat.le_trans h.size h4, fun k hk => ?_, h.fb, fun i b => if i = q then D' b else ow i b, ?_, ?_, ?_, ?_⟩
  · rw [hd3 k (hfb k hk) (fun hb => ho.free q k hb hk)]; exact h.fixed k hk
  · intro i b hb hF
    split at hb
    · rcases hd1 b hb with h5 | h5
      · exact ho.free q b h5 hF
      · have := hfb b hF; omega
    · exact ho.free i b hb hF
  · intro i b hb
    split at hb
    · exact hd2 b hb
    · exact Nat.lt_of_lt_of_le (ho.lt i b hb) h4
  · intro i j b hi hj
    split at hi <;> split at hj
    · omega
    · rename_i e1 e2
      rcases hd1 b hi with h5 | h5
      · exact absurd (ho.one j q b hj h5) e2
      · have := ho.lt j b hj; omega
    · rename_i e1 e2
      rcases hd1 b hj with h5 | h5
      · exact absurd (ho.one i q b hi h5) e1
      · have := ho.lt i b hi; omega
    · exact ho.one i j b hi hj
  · intro i B hB
    by_cases hi : i = q
    · subst hi
      rw [List.getElem?_set_self hql] at hB
      simp only [if_true]
      have : A' = B := by simpa using hB
      exact this ▸ hd4
    · rw [List.getElem?_set_ne (fun e => hi e.symm)] at hB
      simp only [if_neg hi]
      rw [cut_congr fun b hb => hd3 b (ho.lt i b hb) fun hb' => hi (ho.one i q b hb hb')]
      exact ho.sat i B hB

theorem St.push' {C : Ctx} {L : Hp} {w w' : World} (h : St C L w) {A : Asr} (h1 : w'.os = w.os) (h2 : w'.tape = w.tape) (h3 : w'.output = w.output) (h4 : w.heap.size ≤ w'.heap.size) (h5 : ∀ b, b < w.heap.size → w'.heap[b]? = w.heap[b]?)
    (hA : A (cut (fun b => w.heap.size ≤ b ∧ b < w'.heap.size) w')) : St C (L ++ [A]) w' := by
  obtain ⟨ow, ho⟩ := h.own
  have hfb : ∀ b, C.FB b → b < w.heap.size := fun b hb => by have := h.fb b hb; have := h.size; omega
  refine ⟨h1.trans h.os, h2.trans h.tape, h3.trans h.output, Nat.le_trans h.size h4, fun k hk => ?_, h.fb, fun i b => if i < L.length then ow i b else i = L.length ∧ w.heap.size ≤ b ∧ b < w'.heap.size, ?_, ?_, ?_, ?_⟩
  · rw [h5 k (hfb k hk)]; exact h.fixed k hk
  · intro i b hb hF
    split at hb
    · exact ho.free i b hb hF
    · have := hfb b hF; omega
  · intro i b hb
    split at hb
    · exact Nat.lt_of_lt_of_le (ho.lt i b hb) h4
    · exact hb.2.2
  · intro i j b hi hj
    split at hi <;> split at hj
    · exact ho.one i j b hi hj
    · have := ho.lt i b hi; omega
    · have := ho.lt j b hj; omega
    · omega
  · intro i B hB
    by_cases hi : i < L.length
    · rw [List.getElem?_append_left hi] at hB
      simp only [if_pos hi]
      rw [cut_congr fun b hb => h5 b (ho.lt i b hb)]
      exact ho.sat i B hB
    · rw [List.getElem?_append_right (by omega)] at hB
      have hi0 : i - L.length = 0 := by
        have := (List.getElem?_eq_some_iff.1 hB).1
        simp at this
        omega
      rw [hi0] at hB
      have hB' : A = B := by simpa using hB
      subst hB'
      have : (fun b => if i < L.length then ow i b else i = L.length ∧ w.heap.size ≤ b ∧ b < w'.heap.size) = fun b => w.heap.size ≤ b ∧ b < w'.heap.size := by
        funext b
        rw [if_neg hi]
        simp [show i = L.length by omega]
      rw [this]
      exact hA
theorem St.push {C : Ctx} {L : Hp} {w : World} (h : St C L w) (o : Obj) : St C (L ++ [blk w.heap.size o]) { w with heap := w.heap.push o } :=
  h.push' rfl rfl rfl (by simp) (fun b hb => by simp only [Array.getElem?_push]; rw [if_neg (by omega)]) (cut_of (by simp) (by simp))

/-- A new block. -/
theorem S_new {op : Op} {d : Nat} {ob : Obj} (hg : wantedE ops E g = some true) (hd : Nat.blt d C.n = true)
    (hv : ∀ a w, Rel C.n E a → St C L w → (execOp a.eval ⟨some d, op, ty, pos, af, g⟩).run C.P w = .ok (.value (.pointer (some ⟨w.heap.size, 0, none⟩))) { w with heap := w.heap.push ob })
    (h : ∀ b, S C ops rest k ((d, .pointer (some ⟨b, 0, none⟩)) :: E) (L ++ [blk b ob])) : S C ops (⟨some d, op, ty, pos, af, g⟩ :: rest) k E L := by
  refine ⟨fun a w hr hs => ?_⟩
  unfold wpList
  rw [wantedE_spec hr (o := ⟨some d, op, ty, pos, af, g⟩) hg, if_pos rfl]
  refine .inl ?_
  unfold Oper.wp
  rw [hv a w hr hs]
  exact (h w.heap.size).out _ _ (hr.put (by simpa using hd) _) (hs.push ob)

theorem S_alloc {v : Value} {d : Nat} (hz : zeroOf C.P t = some v) (hg : wantedE ops E g = some true) (hd : Nat.blt d C.n = true)
    (h : ∀ b, S C ops rest k ((d, .pointer (some ⟨b, 0, none⟩)) :: E) (L ++ [blk b (.cells v.cells t)])) : S C ops (⟨some d, .alloc t, ty, pos, af, g⟩ :: rest) k E L :=
  S_new hg hd (fun a w _ _ => by simp [execOp, Instr.alloc, run_zeroValue hz, newVar, newRow]) h
theorem S_box {v : Value} {d : Nat} (hx : ev E x = some v) (hg : wantedE ops E g = some true) (hd : Nat.blt d C.n = true)
    (h : ∀ b, S C ops rest k ((d, .pointer (some ⟨b, 0, none⟩)) :: E) (L ++ [blk b (.cells v.cells t)])) : S C ops (⟨some d, .box t x, ty, pos, af, g⟩ :: rest) k E L :=
  S_new hg hd (fun a w hr _ => by simp [execOp, hr.eval hx, Instr.box, newVar, newRow]) h
/-- .. of integers. -/
theorem S_allocA {cs : Array Value} {d : Nat} (hz : zeroOf C.P t = some (.agg cs)) (hg : wantedE ops E g = some true) (hd : Nat.blt d C.n = true)
    (h : ∀ b, S C ops rest k ((d, .pointer (some ⟨b, 0, none⟩)) :: E) (L ++ [blk b (.cells cs t)])) : S C ops (⟨some d, .alloc t, ty, pos, af, g⟩ :: rest) k E L :=
  S_alloc hz hg hd h
theorem S_boxA {cs : Array Value} {d : Nat} (hx : ev E x = some (.agg cs)) (hg : wantedE ops E g = some true) (hd : Nat.blt d C.n = true)
    (h : ∀ b, S C ops rest k ((d, .pointer (some ⟨b, 0, none⟩)) :: E) (L ++ [blk b (.cells cs t)])) : S C ops (⟨some d, .box t x, ty, pos, af, g⟩ :: rest) k E L :=
  S_box hx hg hd h

theorem St.setRow {C : Ctx} {L : Hp} {w : World} (h : St C L w) {q : Nat} {cs cs' : Array Value} {fz : Nat × Nat} (hq : L[q]? = some (blk b (.cells cs e fz))) : St C (L.set q (blk b (.cells cs' e fz))) (w.setRow b cs') :=
  h.upd hq rfl rfl rfl (by simp) fun D hD hl => by
    have hb := cut_in hD
    exact ⟨D, fun _ h => .inl h, fun b hb => by simpa using hl b hb, fun b' _ hn => setRow_other _ _ _ _ (fun e => hn (e ▸ hb.1)), cut_of hb.1 (setRow_heap w b cs cs' e fz hb.2)⟩

/-- An operation that turns an owned block and yields nothing. -/
theorem S_set (q : Nat) {o : Oper} {cs cs' : Array Value} {fz : Nat × Nat} (hg : wantedE ops E o.guard = some true) (hd : o.dst = none)
    (hq : L[q]? = some (blk b (.cells cs e fz)))
    (hv : ∀ a w, Rel C.n E a → St C L w → w.heap[b]? = some (.cells cs e fz) → (execOp a.eval o).run C.P w = .ok .skip (w.setRow b cs'))
    (h : S C ops rest k E (L.set q (blk b (.cells cs' e fz)))) : S C ops (o :: rest) k E L := by
  refine ⟨fun a w hr hs => ?_⟩
  unfold wpList
  rw [wantedE_spec hr hg, if_pos rfl]
  refine .inl ?_
  unfold Oper.wp
  rw [hv a w hr hs (hs.known hq)]
  simp only [Oper.upon, hd, Act.put]
  exact h.out _ _ hr (hs.setRow hq)

theorem run_store1' {v : Value} {cs cs' : Array Value} (ht : szOf C.P t = some 1) (hx : ev E x = some (.pointer (some ⟨b, off, none⟩))) (hy : ev E y = some v) (h1 : v.oneCell' = true)
    (ho : off < cs.size) (hcs : cs.setIfInBounds off v = cs') : ∀ a w, Rel C.n E a → w.heap[b]? = some (.cells cs e (0, 0)) → (execOp a.eval ⟨none, .store t x y, ty, pos, af, g⟩).run C.P w = .ok .skip (w.setRow b cs') := by
  intro a w hr hb
  have hc : v.cells = #[v] := by cases v <;> simp_all [Value.oneCell', Value.cells]
  have hcell : w.cell? ⟨b, off, none⟩ = some cs[off] := by simp [World.cell?, hb, ho]
  have hfro : w.frozen? ⟨b, off, none⟩ = false := by simp [World.frozen?, hb]
  have hst : (store ((⟨b, off, none⟩ : Addr).add 0) v).run C.P w = .ok () (w.setRow b cs') := by
    rw [addr_add, Nat.add_zero, run_store C.P w _ v _ h1, hcell]
    simp [hfro, setCell_eq_setRow w b off cs e (0, 0) v hb, hcs]
  simp [execOp, hr.eval hx, hr.eval hy, Instr.storeAt, Instr.sureAddr, storeVar, hc, run_sizeOf ht, storeCells, hst]
theorem run_storeA' {cs cs' : Array Value} (ht : szOf C.P t = some cs'.size) (hx : ev E x = some (.pointer (some ⟨b, 0, none⟩))) (hy : ev E y = some (.agg cs'))
    (h1 : cs'.all (·.oneCell') = true) (hz : cs.size = cs'.size) : ∀ a w, Rel C.n E a → w.heap[b]? = some (.cells cs e (0, 0)) → (execOp a.eval ⟨none, .store t x y, ty, pos, af, g⟩).run C.P w = .ok .skip (w.setRow b cs') := by
  intro a w hr hb
  have := run_storeVar_row (P := C.P) w b e t cs cs' hb ht hz h1
  simp [execOp, hr.eval hx, hr.eval hy, Instr.storeAt, Instr.sureAddr, this]

theorem run_store1 {v : Value} {cs cs' : Array Value} (ht : szOf C.P t = some 1) (hx : ev E x = some (.pointer (some ⟨b, off, none⟩))) (hy : ev E y = some v) (h1 : v.oneCell' = true)
    (ho : off < cs.size) (hcs : cs.setIfInBounds off v = cs') : ∀ a w, Rel C.n E a → St C L w → w.heap[b]? = some (.cells cs e (0, 0)) → (execOp a.eval ⟨none, .store t x y, ty, pos, af, g⟩).run C.P w = .ok .skip (w.setRow b cs') :=
  fun a w hr _ => run_store1' ht hx hy h1 ho hcs a w hr
theorem run_storeA {cs cs' : Array Value} (ht : szOf C.P t = some cs'.size) (hx : ev E x = some (.pointer (some ⟨b, 0, none⟩))) (hy : ev E y = some (.agg cs'))
    (h1 : cs'.all (·.oneCell') = true) (hz : cs.size = cs'.size) : ∀ a w, Rel C.n E a → St C L w → w.heap[b]? = some (.cells cs e (0, 0)) → (execOp a.eval ⟨none, .store t x y, ty, pos, af, g⟩).run C.P w = .ok .skip (w.setRow b cs') :=
  fun a w hr _ => run_storeA' ht hx hy h1 hz a w hr

/-- A store into a cell. -/
theorem S_store1 (q : Nat) {v : Value} {cs cs' : Array Value} (ht : szOf C.P t = some 1) (hx : ev E x = some (.pointer (some ⟨b, off, none⟩))) (hy : ev E y = some v) (h1 : v.oneCell' = true)
    (hq : L[q]? = some (blk b (.cells cs e (0, 0)))) (ho : off < cs.size) (hcs : cs.setIfInBounds off v = cs') (hg : wantedE ops E g = some true)
    (h : S C ops rest k E (L.set q (blk b (.cells cs' e (0, 0))))) : S C ops (⟨none, .store t x y, ty, pos, af, g⟩ :: rest) k E L :=
  S_set q hg rfl hq (run_store1 ht hx hy h1 ho hcs) h

/-- A store of a whole block. -/
theorem S_storeA (q : Nat) {cs cs' : Array Value} (ht : szOf C.P t = some cs'.size) (hx : ev E x = some (.pointer (some ⟨b, 0, none⟩))) (hy : ev E y = some (.agg cs'))
    (h1 : cs'.all (·.oneCell') = true) (hq : L[q]? = some (blk b (.cells cs e (0, 0)))) (hz : cs.size = cs'.size) (hg : wantedE ops E g = some true)
    (h : S C ops rest k E (L.set q (blk b (.cells cs' e (0, 0))))) : S C ops (⟨none, .store t x y, ty, pos, af, g⟩ :: rest) k E L :=
  S_set q hg rfl hq (run_storeA ht hx hy h1 hz) h
end

/-! ### calls -/

/-- Blocks of FB are as they were. -/
structure Kept (FB : Nat → Prop) (w w' : World) : Prop where
  os : w'.os = w.os
  tape : w'.tape = w.tape
  output : w'.output = w.output
  size : w.heap.size ≤ w'.heap.size
  block : ∀ k, FB k → w'.heap[k]? = w.heap[k]?
/-- The call returns; the blocks of FB are as they were; R of the value and of what is owned then. -/
def FnW (P : Program) (f : FuncId) (args : Array Value) (w : World) (FB : Nat → Prop) (R : Value → Hp → Prop) : Prop :=
  Calls P f args w fun e w' => ∃ v N ow, e = .returned v ∧ Kept FB w w' ∧ Own FB N w' ow ∧ R v N
/-- The call returns; what was there is as it was; R of the value and of the new blocks that one wants to know of. -/
def Fn (P : Program) (f : FuncId) (args : Array Value) (w : World) (R : Value → Hp → Prop) : Prop := FnW P f args w (· < w.heap.size) R
/-- A call that is handed what A says: it may turn that, and nothing else. -/
def FnS (P : Program) (f : FuncId) (args : Array Value) (w : World) (A : Hp) (R : Value → Hp → Prop) : Prop :=
  ∀ FB, (∀ b, FB b → b < w.heap.size) → (∃ ow, Own FB A w ow) → FnW P f args w FB R
theorem Fn.out {P : Program} {f : FuncId} {args : Array Value} {w : World} {R : Value → Hp → Prop} (h : Fn P f args w R) : Calls P f args w fun e w' => ∃ v N, e = .returned v ∧ Below w.heap.size w w' ∧ R v N :=
  Calls.mono h fun _ _ ⟨v, N, _, he, hk, _, hR⟩ => ⟨v, N, he, ⟨hk.os, hk.tape, hk.output, hk.size, hk.block⟩, hR⟩

/-- The function has a text of its own. -/
def hasBody (P : Program) (f : FuncId) : Bool :=
  match P.funcs[f]? with
  | some fn => fn.body.isSome && !(fn.name == "runtime.NumGoroutine")
  | none => false

theorem run_callFunc {P : Program} {f : FuncId} (h : hasBody P f = true) (args : Array Value) (w : World) : (callFunc f args).run P w = .ok (.enter f args) w := by
  unfold hasBody at h
  unfold callFunc
  cases hf : P.funcs[f]? with
  | none => simp [hf] at h
  | some fn =>
    simp [hf] at h
    have hb : fn.body ≠ none := by
      intro hh
      simp [hh] at h
    simp [hf, hb, h.2]

def evs (E : Env) : List Operand → Option (List Value)
  | [] => some []
  | x :: xs => match ev E x, evs E xs with
    | some v, some vs => some (v :: vs)
    | _, _ => none

theorem evs_spec {n : Nat} {E : Env} {a : Act} (hr : Rel n E a) : ∀ {xs : List Operand} {vs : List Value}, evs E xs = some vs → xs.map a.eval = vs
  | [], vs, h => by simp [evs] at h; simp [h]
  | x :: xs, vs, h => by
    simp only [evs] at h
    split at h
    · rename_i v us hv hus
      simp at h
      subst h
      simp [hr.eval hv, evs_spec hr hus]
    · cases h

theorem Own.mono {FB FB' : Nat → Prop} {L : Hp} {w : World} {ow : Nat → Nat → Prop} (h : Own FB L w ow) (hF : ∀ b, FB' b → FB b) : Own FB' L w ow :=
  ⟨fun i b hb hf => h.free i b hb (hF b hf), h.lt, h.one, h.sat⟩
/-- Behind a call that was handed A. -/
theorem St.callS {C : Ctx} {L A M : Hp} {w : World} (h : St C L w) (he : Emb (A ++ M) L) : ∃ FB, (∀ b, FB b → b < w.heap.size) ∧ (∃ ow, Own FB A w ow) ∧
    ∀ (N : Hp) (w' : World) (ow' : Nat → Nat → Prop), Kept FB w w' → Own FB N w' ow' → St C (M ++ N) w' := by
  obtain ⟨ow, ho⟩ := (h.emb he).own
  have hfb : ∀ b, C.FB b → b < w.heap.size := fun b hb => by have := h.fb b hb; have := h.size; omega
  refine ⟨fun b => b < w.heap.size ∧ ¬ ∃ i, i < A.length ∧ ow i b, fun b hb => hb.1, ⟨fun i b => i < A.length ∧ ow i b, ?_, ?_, ?_, ?_⟩, ?_⟩
  · exact fun i b hb hf => hf.2 ⟨i, hb⟩
  · exact fun i b hb => ho.lt i b hb.2
  · exact fun i j b hi hj => ho.one i j b hi.2 hj.2
  · intro i B hB
    have hi := (List.getElem?_eq_some_iff.1 hB).1
    have := ho.sat i B (by rw [List.getElem?_append_left hi]; exact hB)
    have e : (fun b => i < A.length ∧ ow i b) = ow i := by funext b; simp [hi]
    rw [e]; exact this
  · intro N w' ow' hk hn
    have hM : ∀ i b, ow (A.length + i) b → b < w.heap.size ∧ ¬ ∃ j, j < A.length ∧ ow j b := fun i b hb => ⟨ho.lt _ b hb, fun ⟨j, hj, hjb⟩ => by have := ho.one _ _ b hb hjb; omega⟩
    have hF : ∀ b, C.FB b → b < w.heap.size ∧ ¬ ∃ j, j < A.length ∧ ow j b := fun b hb => ⟨hfb b hb, fun ⟨j, hj, hjb⟩ => ho.free j b hjb hb⟩
    refine ⟨hk.os.trans h.os, hk.tape.trans h.tape, hk.output.trans h.output, Nat.le_trans h.size hk.size, fun k hkf => by rw [hk.block k (hF k hkf)]; exact h.fixed k hkf, h.fb,
      fun i b => if i < M.length then ow (A.length + i) b else ow' (i - M.length) b, ?_, ?_, ?_, ?_⟩
    · intro i b hb hf
      split at hb
      · exact ho.free _ b hb hf
      · exact hn.free _ b hb (hF b hf)
    · intro i b hb
      split at hb
      · exact Nat.lt_of_lt_of_le (ho.lt _ b hb) hk.size
      · exact hn.lt _ b hb
    · intro i j b hi hj
      split at hi <;> split at hj
      · have := ho.one _ _ b hi hj; omega
      · exact absurd (hM _ b hi) (hn.free _ b hj)
      · exact absurd (hM _ b hj) (hn.free _ b hi)
      · have := hn.one _ _ b hi hj; omega
    · intro i B hB
      by_cases hi : i < M.length
      · rw [List.getElem?_append_left hi] at hB
        simp only [if_pos hi]
        rw [cut_congr fun b hb => hk.block b (hM i b hb)]
        exact ho.sat _ B (by rw [List.getElem?_append_right (by omega), Nat.add_sub_cancel_left]; exact hB)
      · rw [List.getElem?_append_right (by omega)] at hB
        simp only [if_neg hi]
        exact hn.sat _ B hB
theorem St.call {C : Ctx} {L N : Hp} {w w' : World} {ow : Nat → Nat → Prop} (h : St C L w) (hb : Kept (· < w.heap.size) w w') (hN : Own (· < w.heap.size) N w' ow) : St C (L ++ N) w' := by
  obtain ⟨FB, h1, _, h3⟩ := h.callS (A := []) (M := L) (Emb.refl L)
  exact h3 N w' ow ⟨hb.os, hb.tape, hb.output, hb.size, fun k hk => hb.block k (h1 k hk)⟩ (hN.mono h1)

section
variable {C : Ctx} {k : K} {E : Env} {L : Hp} {ops : Array Oper} {rest : List Oper} {dst : Option Tmp} {ty : TypeId} {pos : String} {af : Array Edge} {g : Option (Nat × Bool)}

theorem run_call {n : Nat} {E : Env} {a : Act} (hr : Rel n E a) {P : Program} {fo : Operand} {f : FuncId} {aS : List Operand} {vs : List Value} {ats : Array TypeId} {w : World} (hf : ev E fo = some (.func (.func f) #[] #[])) (ha : evs E aS = some vs) (hb : hasBody P f = true) :
    (execOp a.eval ⟨dst, .call ⟨.value fo, aS.toArray, ats⟩, ty, pos, af, g⟩).run P w = .ok (.enter f vs.toArray) w := by
  have h1 : aS.toArray.map a.eval = vs.toArray := by rw [List.map_toArray, evs_spec hr ha]
  simp [execOp, resolve, hr.eval hf, Deferred.ofValue, invoke, evs_spec hr ha, run_callFunc hb]

/-- A call. -/
theorem S_call {d : Nat} {fo : Operand} {f : FuncId} {aS : List Operand} {vs : List Value} {ats : Array TypeId} (R : Value → Hp → Prop) (hf : ev E fo = some (.func (.func f) #[] #[])) (ha : evs E aS = some vs) (hb : hasBody C.P f = true)
    (hc : ∀ w, St C L w → Fn C.P f vs.toArray w R) (hg : wantedE ops E g = some true) (hd : Nat.blt d C.n = true)
    (h : ∀ v N, R v N → S C ops rest k ((d, v) :: E) (L ++ N)) : S C ops (⟨some d, .call ⟨.value fo, aS.toArray, ats⟩, ty, pos, af, g⟩ :: rest) k E L := by
  refine ⟨fun a w hr hs => ?_⟩
  unfold wpList
  rw [wantedE_spec hr (o := ⟨some d, .call ⟨.value fo, aS.toArray, ats⟩, ty, pos, af, g⟩) hg, if_pos rfl]
  refine .inl ?_
  unfold Oper.wp
  rw [run_call hr hf ha hb]
  refine (hc w hs).mono ?_
  rintro e w' ⟨v, N, ow, rfl, hk, hN, hR⟩
  exact (h v N hR).out _ _ (hr.put (by simpa using hd) v) (hs.call hk hN)

/-- A call that is handed A. -/
theorem S_callS {d : Nat} {fo : Operand} {f : FuncId} {aS : List Operand} {vs : List Value} {ats : Array TypeId} (A M : Hp) (R : Value → Hp → Prop) (he : Emb (A ++ M) L) (hf : ev E fo = some (.func (.func f) #[] #[])) (ha : evs E aS = some vs) (hb : hasBody C.P f = true)
    (hc : ∀ w, St C L w → FnS C.P f vs.toArray w A R) (hg : wantedE ops E g = some true) (hd : Nat.blt d C.n = true)
    (h : ∀ v N, R v N → S C ops rest k ((d, v) :: E) (M ++ N)) : S C ops (⟨some d, .call ⟨.value fo, aS.toArray, ats⟩, ty, pos, af, g⟩ :: rest) k E L := by
  refine ⟨fun a w hr hs => ?_⟩
  unfold wpList
  rw [wantedE_spec hr (o := ⟨some d, .call ⟨.value fo, aS.toArray, ats⟩, ty, pos, af, g⟩) hg, if_pos rfl]
  refine .inl ?_
  unfold Oper.wp
  rw [run_call hr hf ha hb]
  obtain ⟨FB, h1, h2, h3⟩ := hs.callS he
  refine Calls.mono (hc w hs FB h1 h2) ?_
  rintro e w' ⟨v, N, ow, rfl, hk, hN, hR⟩
  exact (h v N hR).out _ _ (hr.put (by simpa using hd) v) (h3 N w' ow hk hN)

/-- A call of which only the value is told. -/
theorem S_callV {d : Nat} {fo : Operand} {f : FuncId} {aS : List Operand} {vs : List Value} {ats : Array TypeId} {v : Value} (hf : ev E fo = some (.func (.func f) #[] #[])) (ha : evs E aS = some vs) (hb : hasBody C.P f = true)
    (hc : ∀ w, St C L w → Fn C.P f vs.toArray w fun u N => u = v ∧ N = []) (hg : wantedE ops E g = some true) (hd : Nat.blt d C.n = true)
    (h : S C ops rest k ((d, v) :: E) L) : S C ops (⟨some d, .call ⟨.value fo, aS.toArray, ats⟩, ty, pos, af, g⟩ :: rest) k E L :=
  S_call _ hf ha hb hc hg hd (by rintro v N ⟨rfl, rfl⟩; rw [List.append_nil]; exact h)

/-- A call that no text of the program answers: the model's own answer. -/
theorem Y_ext {fo : Operand} {f : FuncId} {aS : List Operand} {vs : List Value} {ats : Array TypeId} {v : Value} (hf : ev E fo = some (.func (.func f) #[] #[])) (ha : evs E aS = some vs)
    (hc : ∀ w, (callFunc f vs.toArray).run C.P w = .ok (.value v) w) : Yv C E L ⟨dst, .call ⟨.value fo, aS.toArray, ats⟩, ty, pos, af, g⟩ v := by
  refine ⟨fun a w hr _ => ?_⟩
  have h1 : aS.toArray.map a.eval = vs.toArray := by rw [List.map_toArray, evs_spec hr ha]
  simp [execOp, resolve, hr.eval hf, Deferred.ofValue, invoke, evs_spec hr ha, hc]
end

/-! ### a function -/

/-- A result. -/
inductive Res1 (P : Program) (E : Env) (L : Hp) : ResultVar → Value → Prop
  | tmp {t : Tmp} {v : Value} (h : E.get t = some v) : Res1 P E L (.tmp t) v
  | agg (q : Nat) {a : Tmp} {t : TypeId} {b : Nat} {d : TypeDesc} {cs : Array Value} {e : TypeId} {fz : Nat × Nat} (ha : E.get a = some (.pointer (some ⟨b, 0, none⟩))) (ht : P.underlying t = some d) (hd : (match d with | .struct _ | .array _ _ => true | _ => false) = true)
      (hq : L[q]? = some (blk b (.cells cs e fz))) (hz : szOf P t = some cs.size) : Res1 P E L (.cell a t) (.agg cs)
  | one (q : Nat) {a : Tmp} {t : TypeId} {b : Nat} {d : TypeDesc} {v : Value} {cs : Array Value} {e : TypeId} {fz : Nat × Nat} (ha : E.get a = some (.pointer (some ⟨b, 0, none⟩))) (ht : P.underlying t = some d) (hd : isAggB d = false)
      (hq : L[q]? = some (blk b (.cells cs e fz))) (hz : cs[0]? = some v) : Res1 P E L (.cell a t) v

inductive Ress (P : Program) (E : Env) (L : Hp) : List ResultVar → List Value → Prop
  | nil : Ress P E L [] []
  | cons {r : ResultVar} {rs : List ResultVar} {v : Value} {vs : List Value} (h : Res1 P E L r v) (hs : Ress P E L rs vs) : Ress P E L (r :: rs) (v :: vs)

def retOf : List Value → Value
  | [v] => v
  | vs => .tuple vs.toArray

def resSem (tmps : Array Value) : ResultVar → Sem Value
  | .tmp t => pure (tmps.getD t undef)
  | .cell a t => do loadVar t (← asAddr (tmps.getD a undef))

theorem Res1.run {C : Ctx} {E : Env} {L : Hp} {r : ResultVar} {v : Value} (h : Res1 C.P E L r v) {a : Act} {w : World} (hr : Rel C.n E a) (hs : St C L w) :
    (resSem a.tmps r).run C.P w = .ok v w := by
  cases h with
  | tmp h => simp [resSem, hr.get _ _ h]
  | agg q ha ht hd hq hz =>
    have hw := hs.known hq
    have := run_loadVar_row (P := C.P) w _ _ _ _ _ _ hw ht hd hz
    simp [resSem, hr.get _ _ ha, asAddr, this]
  | one q ha ht hd hq hz =>
    have := hs.cell (off := 0) hq
    rw [hz] at this
    simp [resSem, hr.get _ _ ha, asAddr, loadVar, run_isAgg ht, hd, this]

theorem Ress.run {C : Ctx} {E : Env} {L : Hp} {a : Act} {w : World} (hr : Rel C.n E a) (hs : St C L w) : ∀ {rs : List ResultVar} {vs : List Value}, Ress C.P E L rs vs →
    (rs.mapM (resSem a.tmps)).run C.P w = .ok vs w
  | _, _, .nil => by simp
  | _, _, .cons h hs' => by
    have h1 := h.run hr hs
    have h2 := Ress.run hr hs hs'
    rw [List.mapM_cons, Sem.run_bind, h1]
    simp only [Result.andThen_ok]
    rw [Sem.run_bind, h2]
    rfl

theorem results_run {C : Ctx} {E : Env} {L : Hp} {a : Act} {w : World} (hr : Rel C.n E a) (hs : St C L w) {fn : Func} {rs : List ResultVar} (hrs : fn.results = rs.toArray) {vs : List Value} (h : Ress C.P E L rs vs) :
    (results fn a.tmps).run C.P w = .ok (retOf vs) w := by
  have h0 : results fn a.tmps = (do let vs ← fn.results.mapM (resSem a.tmps); pure (if h : vs.size = 1 then vs[0] else .tuple vs)) := by
    have : (fun r : ResultVar => (match r with | .tmp t => pure (a.tmps.getD t undef) | .cell b t => do loadVar t (← asAddr (a.tmps.getD b undef)) : Sem Value)) = resSem a.tmps := by
      funext r
      cases r <;> rfl
    unfold results
    rw [← this]
    rfl
  rw [h0, hrs, Sem.run_bind]
  have := Ress.run hr hs h
  rw [show (rs.toArray.mapM (resSem a.tmps)) = List.toArray <$> (rs.mapM (resSem a.tmps)) by simp]
  rw [Sem.run_map, this]
  simp only [Result.andThen_ok, Sem.run_pure]
  congr 1
  match vs with
  | [] => rfl
  | [v] => rfl
  | v :: u :: vs => simp [retOf]

def argsEnv : Nat → List Value → Env
  | _, [] => []
  | i, v :: vs => (i, v) :: argsEnv (i + 1) vs

theorem argsEnv_get : ∀ (i : Nat) (vs : List Value) (d : Nat) (v : Value), (argsEnv i vs).get d = some v → i ≤ d ∧ vs[d - i]? = some v
  | _, [], _, _, h => by cases h
  | i, u :: vs, d, v, h => by
    simp only [argsEnv, Env.get] at h
    cases hb : Nat.beq i d with
    | true =>
      rw [hb] at h
      have := Nat.eq_of_beq_eq_true hb
      subst this
      simp at h
      simp [h]
    | false =>
      rw [hb] at h
      have hne : i ≠ d := by rintro rfl; simp at hb
      have := argsEnv_get (i + 1) vs d v h
      refine ⟨by omega, ?_⟩
      rw [show d - i = (d - (i + 1)) + 1 by omega]
      simpa using this.2

/-- The world in which a call begins. -/
def ctxW (P : Program) (n : Nat) (w : World) (FB : Nat → Prop) : Ctx := ⟨P, n, FB, w⟩
/-- .. that only makes new blocks. -/
def ctx (P : Program) (n : Nat) (w : World) : Ctx := ⟨P, n, (· < w.heap.size), w⟩

theorem St.startW (P : Program) (n : Nat) (w : World) {FB : Nat → Prop} {A : Hp} {ow : Nat → Nat → Prop} (hf : ∀ b, FB b → b < w.heap.size) (h : Own FB A w ow) : St (ctxW P n w FB) A w :=
  ⟨rfl, rfl, rfl, Nat.le_refl _, fun _ _ => rfl, hf, ow, h⟩
theorem St.keptW {P : Program} {n : Nat} {w w' : World} {FB : Nat → Prop} {L : Hp} (h : St (ctxW P n w FB) L w') : Kept FB w w' :=
  ⟨h.os, h.tape, h.output, h.size, fun k hk => h.fixed k hk⟩

/-- What is asked at a function's end. -/
def Done (P : Program) (rs : List ResultVar) (R : Value → Hp → Prop) (E : Env) (L : Hp) : Prop :=
  ∃ vs N, Ress P E L rs vs ∧ Emb N L ∧ R (retOf vs) N

theorem FnW_of {P : Program} {f : FuncId} {fn : Func} {c : Code} {rs : List ResultVar} {n : Nat} {args : List Value} {w : World} {R : Value → Hp → Prop} {FB : Nat → Prop} {A : Hp} {ow : Nat → Nat → Prop}
    (hf : P.funcs[f]? = some fn) (hb : fn.body = some c) (hn : fn.ntmps = n) (hrs : fn.results = rs.toArray) (hargs : args.length ≤ n) (hFB : ∀ b, FB b → b < w.heap.size) (hA : Own FB A w ow)
    (h : T (ctxW P n w FB) c (.fin (Done P rs R)) (argsEnv 0 args) A) : FnW P f args.toArray w FB R := by
  refine calls_of_wp hf hb ?_
  rw [hn]
  have hrel : Rel n (argsEnv 0 args) { tmps := args.toArray ++ Array.replicate (n - args.toArray.size) undef, defers := [] } := by
    refine ⟨by simp; omega, rfl, fun d v hd => ?_⟩
    have := (argsEnv_get 0 args d v hd).2
    simp only [Nat.sub_zero] at this
    have hlt : d < args.length := (List.getElem?_eq_some_iff.1 this).1
    rw [Array.getElem?_append_left (by simpa using hlt)]
    simpa using this
  refine wp_mono (h.out.out _ w hrel (St.startW P n w hFB hA)) ?_
  rintro ex a w' ⟨E, L, hr, hs, hq⟩
  have key : Done P rs R E L → a.defers = [] ∧ ∃ v, (results fn a.tmps).run P w' = .ok v w' ∧ ∃ v' N ow, Ending.returned v = .returned v' ∧ Kept FB w w' ∧ Own FB N w' ow ∧ R v' N := by
    rintro ⟨vs, N, h1, h2, h3⟩
    obtain ⟨ow', ho⟩ := (hs.emb h2).own
    exact ⟨hr.defers, _, results_run (C := ctxW P n w FB) hr hs hrs h1, _, N, ow', rfl, hs.keptW, ho, h3⟩
  cases ex with
  | normal => exact key hq
  | ret => exact key hq
  | _ => exact (hq : False).elim
theorem Fn_of {P : Program} {f : FuncId} {fn : Func} {c : Code} {rs : List ResultVar} {n : Nat} {args : List Value} {w : World} {R : Value → Hp → Prop}
    (hf : P.funcs[f]? = some fn) (hb : fn.body = some c) (hn : fn.ntmps = n) (hrs : fn.results = rs.toArray) (hargs : args.length ≤ n)
    (h : T (ctx P n w) c (.fin (Done P rs R)) (argsEnv 0 args) []) : Fn P f args.toArray w R :=
  FnW_of hf hb hn hrs hargs (fun _ h => h) (A := []) (ow := fun _ _ => False) ⟨fun _ _ h => h.elim, fun _ _ h => h.elim, fun _ _ _ h => h.elim, fun i A h => by simp at h⟩ h
theorem FnS_of {P : Program} {f : FuncId} {fn : Func} {c : Code} {rs : List ResultVar} {n : Nat} {args : List Value} {w : World} {R : Value → Hp → Prop} {A : Hp}
    (hf : P.funcs[f]? = some fn) (hb : fn.body = some c) (hn : fn.ntmps = n) (hrs : fn.results = rs.toArray) (hargs : args.length ≤ n)
    (h : ∀ FB, T (ctxW P n w FB) c (.fin (Done P rs R)) (argsEnv 0 args) A) : FnS P f args.toArray w A R :=
  fun FB hF ⟨_, ho⟩ => FnW_of hf hb hn hrs hargs hF ho (h FB)

/-! ### rows of integers -/

def ints (k : IntKind) (l : List Int) : Array Value := (l.map (Value.int k)).toArray

@[simp] theorem ints_size (k : IntKind) (l : List Int) : (ints k l).size = l.length := by simp [ints]
theorem ints_get (k : IntKind) (l : List Int) (i : Nat) : (ints k l)[i]? = (l[i]?).map (Value.int k) := by simp [ints]
theorem ints_set (k : IntKind) (l : List Int) (i : Nat) (v : Int) : (ints k l).setIfInBounds i (.int k v) = ints k (l.set i v) := by
  apply Array.ext_getElem?
  intro j
  simp only [ints, Array.getElem?_setIfInBounds, List.getElem?_toArray, List.size_toArray, List.length_map, List.getElem?_map, List.getElem?_set]
  by_cases h : i = j
  · subst h
    by_cases h2 : i < l.length <;> simp [h2]
  · simp [h]
theorem ints_one (k : IntKind) (l : List Int) : (ints k l).all (·.oneCell') = true := by
  rw [Array.all_eq_true_iff_forall_mem]
  intro v hv
  simp only [ints, List.mem_toArray, List.mem_map] at hv
  obtain ⟨p, _, rfl⟩ := hv
  rfl
theorem ints_inj {k : IntKind} {l m : List Int} (h : ints k l = ints k m) : l = m := by
  have : l.map (Value.int k) = m.map (Value.int k) := by simpa [ints] using h
  exact (List.map_inj_right (fun a b e => by simpa using e)).1 this

def fillI (l : List Int) : List (Nat × Int) → List Int
  | [] => l
  | (i, p) :: ps => fillI (l.set i p) ps

@[simp] theorem fillI_length : ∀ (ps : List (Nat × Int)) (l : List Int), (fillI l ps).length = l.length
  | [], _ => rfl
  | p :: ps, l => by rw [fillI, fillI_length ps]; simp
theorem fill_ints (k : IntKind) : ∀ (ps : List (Nat × Int)) (l : List Int), ps.all (fun p => Nat.blt p.1 l.length) = true →
    Instr.fill (fun i => some (i * 1, 1)) (ints k l) (ps.map fun p => (p.1, .int k p.2)) = some (ints k (fillI l ps))
  | [], l, _ => rfl
  | (i, p) :: ps, l, h => by
    simp only [List.all_cons, Bool.and_eq_true] at h
    have h1 : i < l.length := by simpa using h.1
    have ih := fill_ints k ps (l.set i p) (by simpa using h.2)
    have h2 : ¬ (l.length < i + 1) := by omega
    simp only [List.map_cons, Instr.fill, Value.cells]
    simp [ints_set, h2, fillI]
    simpa using ih

def partsI (k : IntKind) (E : Env) : List (Nat × Operand) → Option (List (Nat × Int))
  | [] => some []
  | (i, x) :: xs => match ev E x, partsI k E xs with
    | some (.int k' p), some ps => bif k' == k then some ((i, p) :: ps) else none
    | _, _ => none

instance : LawfulBEq IntKind := inferInstance

theorem partsI_spec {n : Nat} {k : IntKind} {E : Env} {a : Act} (hr : Rel n E a) : ∀ {xs : List (Nat × Operand)} {ps : List (Nat × Int)}, partsI k E xs = some ps →
    (xs.map fun (i, x) => (i, a.eval x)) = ps.map fun p => (p.1, .int k p.2)
  | [], ps, h => by simp [partsI] at h; simp [h]
  | (i, x) :: xs, ps, h => by
    simp only [partsI] at h
    split at h
    · rename_i k' p qs hv hqs
      cases hk : k' == k with
      | false => simp [hk] at h
      | true =>
        simp only [hk, cond_true, Option.some.injEq] at h
        have : k' = k := by simpa using hk
        subst this
        subst h
        simp [hr.eval hv, partsI_spec hr hqs]
    · cases h

section
variable {C : Ctx} {E : Env} {L : Hp} {dst : Option Tmp} {ty : TypeId} {pos : String} {af : Array Edge} {g : Option (Nat × Bool)}
variable {x y : Operand} {t e : TypeId} {b off n : Nat} {k : IntKind} {l : List Int} {p : Int} {fz : Nat × Nat}

/-- An array of integers, written out. -/
theorem Y_build {parts : List (Nat × Operand)} {ps : List (Nat × Int)} (ht : C.P.underlying t = some (.array n e)) (he : szOf C.P e = some 1) (hz : zeroOf C.P t = some (.agg (ints k l)))
    (hp : partsI k E parts = some ps) (ha : ps.all (fun p => Nat.blt p.1 l.length) = true) : Yv C E L ⟨dst, .build t parts.toArray, ty, pos, af, g⟩ (.agg (ints k (fillI l ps))) := by
  refine ⟨fun a w hr _ => ?_⟩
  have h1 : (parts.toArray.map fun (i, x) => (i, a.eval x)) = (ps.map fun p => (p.1, Value.int k p.2)).toArray := by
    rw [List.map_toArray, partsI_spec hr hp]
  have h2 := fill_ints k ps l ha
  simp only [execOp, h1, Instr.build, Sem.run_bind, run_zeroValue hz, Result.andThen_ok, run_underlying ht, run_sizeOf he, Value.cells, h2]
  rfl

/-- A cell of integers that are owned. -/
theorem Y_loadI (q : Nat) {d : TypeDesc} (ht : C.P.underlying t = some d) (hd : isAggB d = false) (hx : ev E x = some (.pointer (some ⟨b, off, none⟩)))
    (hq : L[q]? = some (blk b (.cells (ints k l) e fz))) (hv : l[off]? = some p) : Yv C E L ⟨dst, .load t x, ty, pos, af, g⟩ (.int k p) :=
  Y_load1 q ht hd hx hq (by rw [ints_get, hv]; rfl)
/-- All integers of a block that is owned. -/
theorem Y_loadAI (q : Nat) {d : TypeDesc} (ht : C.P.underlying t = some d) (hd : isAggB d = true) (hx : ev E x = some (.pointer (some ⟨b, 0, none⟩)))
    (hq : L[q]? = some (blk b (.cells (ints k l) e fz))) (hz : szOf C.P t = some n) (hl : l.length = n) : Yv C E L ⟨dst, .load t x, ty, pos, af, g⟩ (.agg (ints k l)) :=
  Y_loadA q ht hd hx hq (by rw [hz, ints_size, hl])
end

section
variable {C : Ctx} {k : K} {E : Env} {L : Hp} {ops : Array Oper} {rest : List Oper} {dst : Option Tmp} {ty : TypeId} {pos : String} {af : Array Edge} {g : Option (Nat × Bool)}
variable {x y : Operand} {t e : TypeId} {b off n : Nat} {kd : IntKind} {l m : List Int} {p : Int}

theorem S_storeI (q : Nat) (ht : szOf C.P t = some 1) (hx : ev E x = some (.pointer (some ⟨b, off, none⟩))) (hy : ev E y = some (.int kd p))
    (hq : L[q]? = some (blk b (.cells (ints kd l) e (0, 0)))) (ho : off < l.length) (hl : l.set off p = m) (hg : wantedE ops E g = some true)
    (h : S C ops rest k E (L.set q (blk b (.cells (ints kd m) e (0, 0))))) : S C ops (⟨none, .store t x y, ty, pos, af, g⟩ :: rest) k E L :=
  S_store1 q ht hx hy rfl hq (by simpa using ho) (by rw [ints_set, hl]) hg h
theorem S_storeAI (q : Nat) (ht : szOf C.P t = some n) (hx : ev E x = some (.pointer (some ⟨b, 0, none⟩))) (hy : ev E y = some (.agg (ints kd m)))
    (hq : L[q]? = some (blk b (.cells (ints kd l) e (0, 0)))) (hl : l.length = n) (hm : m.length = n) (hg : wantedE ops E g = some true)
    (h : S C ops rest k E (L.set q (blk b (.cells (ints kd m) e (0, 0))))) : S C ops (⟨none, .store t x y, ty, pos, af, g⟩ :: rest) k E L :=
  S_storeA q (by rw [ht, ints_size, hm]) hx hy (ints_one _ _) hq (by simp [hl, hm]) hg h
end

theorem win {k : IntKind} {z : Int} (h1 : k.min ≤ z) (h2 : z ≤ k.max) : k.wrap z = z := by
  cases k <;> simp [IntKind.min, IntKind.max, IntKind.wrap, IntKind.signed, IntKind.bits] at * <;> omega

theorem pw64 : 2 ^ IntKind.bits .u64 = 18446744073709551616 := rfl
theorem pw32 : 2 ^ IntKind.bits .u32 = 4294967296 := rfl
theorem pw8 : 2 ^ IntKind.bits .u8 = 256 := rfl
theorem o64 {m : Nat} (h : m < 18446744073709551616) : m < 2 ^ IntKind.bits .u64 := h
theorem o32 {m : Nat} (h : m < 4294967296) : m < 2 ^ IntKind.bits .u32 := h
theorem o8 {m : Nat} (h : m < 256) : m < 2 ^ IntKind.bits .u8 := h
theorem x64 {m : Nat} (h : m < 18446744073709551616) : (m : Int) ≤ IntKind.max .u64 := by
  show (m : Int) ≤ 18446744073709551615
  omega
theorem xi64 {m : Nat} (h : m < 9223372036854775808) : (m : Int) ≤ IntKind.max .i64 := by
  show (m : Int) ≤ 9223372036854775807
  omega
theorem x8 {m : Nat} (h : m < 256) : (m : Int) ≤ IntKind.max .u8 := by
  show (m : Int) ≤ 255
  omega
theorem x32 {m : Nat} (h : m < 4294967296) : (m : Int) ≤ IntKind.max .u32 := by
  show (m : Int) ≤ 4294967295
  omega
theorem int_congr {k : IntKind} {a b : Int} (h : a = b) : Value.int k a = .int k b := by rw [h]
theorem wi64 {z : Int} (h1 : -9223372036854775808 ≤ z) (h2 : z ≤ 9223372036854775807) : IntKind.i64.wrap z = z := win h1 h2
theorem wu64 {z : Int} (h1 : 0 ≤ z) (h2 : z ≤ 18446744073709551615) : IntKind.u64.wrap z = z := win h1 h2
theorem wu32 {z : Int} (h1 : 0 ≤ z) (h2 : z ≤ 4294967295) : IntKind.u32.wrap z = z := win h1 h2
theorem wu8 {z : Int} (h1 : 0 ≤ z) (h2 : z ≤ 255) : IntKind.u8.wrap z = z := win h1 h2
theorem wu8n {n : Nat} : IntKind.u8.wrap ((n : Nat) : Int) = ((n % 256 : Nat) : Int) := rfl
theorem wu32n {n : Nat} : IntKind.u32.wrap ((n : Nat) : Int) = ((n % 4294967296 : Nat) : Int) := rfl
theorem wu64m {z : Int} : IntKind.u64.wrap z = z % 18446744073709551616 := rfl

def tabGet {α : Type} (t : Nat) : List (Nat × α) → Option α
  | [] => none
  | (u, d) :: r => bif Nat.beq u t then some d else tabGet t r
theorem tabGet_mem {α : Type} {t : Nat} {d : α} : ∀ {r : List (Nat × α)}, tabGet t r = some d → (t, d) ∈ r
  | [], h => by cases h
  | (u, d') :: r, h => by
    simp only [tabGet] at h
    cases hb : Nat.beq u t with
    | true =>
      have := Nat.eq_of_beq_eq_true hb
      subst this
      simp at h
      subst h
      exact List.mem_cons_self
    | false => rw [hb] at h; exact List.mem_cons_of_mem _ (tabGet_mem h)

/-! ### arrays as values; slices -/
section
variable {C : Ctx} {E : Env} {L : Hp} {dst : Option Tmp} {ty : TypeId} {pos : String} {af : Array Edge} {g : Option (Nat × Bool)}
variable {x y : Operand} {t e : TypeId} {k kd : IntKind} {p q : Int} {n i len cap m : Nat} {l : List Int}

/-- An element of an array that is a value. -/
theorem Y_index {d : TypeDesc} (ht : C.P.underlying t = some (.array n e)) (he : szOf C.P e = some 1) (hu : C.P.underlying e = some d) (hd : isAggB d = false) (hx : ev E x = some (.agg (ints kd l))) (hy : ev E y = some (.int k p))
    (hp : IsNat p i) (hi : i < n) (hv : l[i]? = some q) : Yv C E L ⟨dst, .index t x y, ty, pos, af, g⟩ (.int kd q) := by
  refine ⟨fun a w h _ => ?_⟩
  have hp := hp.eq
  have h1 : 0 ≤ p ∧ p < (n : Int) := by omega
  have h2 : p.toNat = i := by omega
  have h3 : (ints kd l)[i]? = some (.int kd q) := by rw [ints_get, hv]; rfl
  simp [execOp, h.eval hx, h.eval hy, Instr.index, asIntOf, run_underlying ht, run_sizeOf he, h1, h2, part, run_isAgg hu, hd, h3]
/-- A byte of a string. -/
theorem Y_indexS {s : ByteArray} {c : UInt8} (ht : C.P.underlying t = some .string) (hx : ev E x = some (.string s)) (hy : ev E y = some (.int k p)) (hp : IsNat p i) (hv : s[i]? = some c) :
    Yv C E L ⟨dst, .index t x y, ty, pos, af, g⟩ (.int .u8 c.toNat) := by
  refine ⟨fun a w h _ => ?_⟩
  have hp := hp.eq
  have h1 : 0 ≤ p := by omega
  have h2 : p.toNat = i := by omega
  simp [execOp, h.eval hx, h.eval hy, Instr.index, asIntOf, run_underlying ht, h1, h2, hv]

theorem Y_indexS' {s : ByteArray} {c : UInt8} (ht : C.P.underlying t = some .string) (hx : ev E x = some (.string s)) (hy : ev E y = some (.int k p)) (hp : IsNat p i) (hv : s[i]? = some c) (hc : c.toNat = m) :
    Yv C E L ⟨dst, .index t x y, ty, pos, af, g⟩ (.int .u8 (m : Int)) := hc ▸ Y_indexS ht hx hy hp hv

theorem run_builtin {n : Nat} {E : Env} {a : Act} (hr : Rel n E a) {P : Program} {b : Builtin} {aS : List Operand} {vs : List Value} {ats : Array TypeId} {w : World} (ha : evs E aS = some vs) :
    ∃ cs, (execOp a.eval ⟨dst, .call ⟨.builtin b, aS.toArray, ats⟩, ty, pos, af, g⟩).run P w = (builtin b ats ty cs vs.toArray).run P w := by
  constructor
  simp [execOp, resolve, invoke, evs_spec hr ha]
  rfl

theorem Y_len {b : Option Addr} {ats : Array TypeId} {es : TypeId} (h0 : ats[0]? = some t) (ht : C.P.underlying t = some (.slice es)) (hx : ev E x = some (.slice b n cap)) :
    Yv C E L ⟨dst, .call ⟨.builtin .len, #[x], ats⟩, ty, pos, af, g⟩ (.int .i64 n) := by
  refine ⟨fun a w h _ => ?_⟩
  obtain ⟨cs, hc⟩ := run_builtin (dst := dst) (ty := ty) (pos := pos) (af := af) (g := g) h (P := C.P) (b := .len) (aS := [x]) (ats := ats) (w := w) (vs := [.slice b n cap]) (by simp [evs, hx])
  rw [hc]
  simp [builtin, Builtin.len_, h0, run_underlying ht, goInt]
theorem Y_lenA {v : Value} {ats : Array TypeId} {es : TypeId} (h0 : ats[0]? = some t) (ht : C.P.underlying t = some (.array n es)) (hx : ev E x = some v) :
    Yv C E L ⟨dst, .call ⟨.builtin .len, #[x], ats⟩, ty, pos, af, g⟩ (.int .i64 n) := by
  refine ⟨fun a w h _ => ?_⟩
  obtain ⟨cs, hc⟩ := run_builtin (dst := dst) (ty := ty) (pos := pos) (af := af) (g := g) h (P := C.P) (b := .len) (aS := [x]) (ats := ats) (w := w) (vs := [v]) (by simp [evs, hx])
  rw [hc]
  simp [builtin, Builtin.len_, h0, run_underlying ht, goInt]
theorem Y_min {ats : Array TypeId} {m n : Nat} (hx : ev E x = some (.int k p)) (hy : ev E y = some (.int k q)) (hp : IsNat p m) (hq : IsNat q n) :
    Yv C E L ⟨dst, .call ⟨.builtin .min, #[x, y], ats⟩, ty, pos, af, g⟩ (.int k ((min m n : Nat) : Int)) := by
  refine ⟨fun a w h _ => ?_⟩
  have := hp.eq
  have := hq.eq
  subst p q
  obtain ⟨cs, hc⟩ := run_builtin (dst := dst) (ty := ty) (pos := pos) (af := af) (g := g) h (P := C.P) (b := .min) (aS := [x, y]) (ats := ats) (w := w) (vs := [.int k m, .int k n]) (by simp [evs, hx, hy])
  rw [hc]
  have : (if n < m then (n : Int) else m) = ((min m n : Nat) : Int) := by split <;> omega
  simp [builtin, Builtin.min_, Builtin.min2, this]
theorem Y_max {ats : Array TypeId} {m n : Nat} (hx : ev E x = some (.int k p)) (hy : ev E y = some (.int k q)) (hp : IsNat p m) (hq : IsNat q n) :
    Yv C E L ⟨dst, .call ⟨.builtin .max, #[x, y], ats⟩, ty, pos, af, g⟩ (.int k ((max m n : Nat) : Int)) := by
  refine ⟨fun a w h _ => ?_⟩
  have := hp.eq
  have := hq.eq
  subst p q
  obtain ⟨cs, hc⟩ := run_builtin (dst := dst) (ty := ty) (pos := pos) (af := af) (g := g) h (P := C.P) (b := .max) (aS := [x, y]) (ats := ats) (w := w) (vs := [.int k m, .int k n]) (by simp [evs, hx, hy])
  rw [hc]
  have : (if m < n then (n : Int) else m) = ((max m n : Nat) : Int) := by split <;> omega
  simp [builtin, Builtin.max_, Builtin.max2, this]

theorem run_bound {P : Program} {w : World} {y : Nat} {code : BoundsCode} (hp : IsNat p i) (hi : i ≤ y) : (Instr.sliceBound (.int k p) y code).run P w = .ok i w := by
  have hp := hp.eq
  have h1 : 0 ≤ p ∧ p ≤ (y : Int) := by omega
  have h2 : p.toNat = i := by omega
  simp [Instr.sliceBound, asIntOf, h1, h2]

def addrAt (b : Option Addr) (c lo : Nat) : Option Addr := if c = lo then b else b.map (·.add lo)

/-- x[lo:], of a slice of elements of one cell. -/
theorem Y_sliceLo {b : Option Addr} {es : TypeId} (ht : C.P.underlying t = some (.slice es)) (he : szOf C.P es = some 1) (hx : ev E x = some (.slice b len cap)) (hy : ev E y = some (.int k p)) (hp : IsNat p i) (hi : i ≤ len) (_hc : len ≤ cap) :
    Yv C E L ⟨dst, .slice t x (some y) none none, ty, pos, af, g⟩ (.slice (addrAt b cap i) (len - i) (cap - i)) := by
  refine ⟨fun a w h _ => ?_⟩
  have h1 : (Instr.sliceBound (.int k p) len .sliceB).run C.P w = .ok i w := run_bound hp hi
  simp [execOp, h.eval hx, h.eval hy, Instr.sliceAt, Instr.slice, Instr.sliceBounds, run_underlying ht, run_sizeOf he, h1, addrAt]
/-- x[:hi] -/
theorem Y_sliceHi {b : Option Addr} {es : TypeId} (ht : C.P.underlying t = some (.slice es)) (he : szOf C.P es = some 1) (hx : ev E x = some (.slice b len cap)) (hy : ev E y = some (.int k p)) (hp : IsNat p i) (hi : i ≤ cap) :
    Yv C E L ⟨dst, .slice t x none (some y) none, ty, pos, af, g⟩ (.slice b i cap) := by
  refine ⟨fun a w h _ => ?_⟩
  have h1 : (Instr.sliceBound (.int k p) cap .sliceAcap).run C.P w = .ok i w := run_bound hp hi
  simp [execOp, h.eval hx, h.eval hy, Instr.sliceAt, Instr.slice, Instr.sliceBounds, run_underlying ht, run_sizeOf he, h1]
  intro _
  cases b <;> simp [Addr.add]
/-- arr[lo:], of an array of elements of one cell that begins its block. -/
theorem Y_sliceArrLo {b : Nat} {es : TypeId} (ht : C.P.underlying t = some (.array n es)) (he : szOf C.P es = some 1) (hx : ev E x = some (.pointer (some ⟨b, 0, none⟩))) (hy : ev E y = some (.int k p)) (hp : IsNat p i) (hi : i ≤ n) :
    Yv C E L ⟨dst, .slice t x (some y) none none, ty, pos, af, g⟩ (.slice (some ⟨b, if n = i then 0 else i, none⟩) (n - i) (n - i)) := by
  refine ⟨fun a w h _ => ?_⟩
  have h1 : (Instr.sliceBound (.int k p) n .sliceB).run C.P w = .ok i w := run_bound hp hi
  simp [execOp, h.eval hx, h.eval hy, Instr.sliceAt, Instr.sliceBounds, run_underlying ht, run_sizeOf he, h1, Instr.sureAddr, addr_add]
  split <;> rfl
theorem Y_sliceArr {b : Nat} {es : TypeId} (ht : C.P.underlying t = some (.array n es)) (he : szOf C.P es = some 1) (hx : ev E x = some (.pointer (some ⟨b, 0, none⟩))) :
    Yv C E L ⟨dst, .slice t x none none none, ty, pos, af, g⟩ (.slice (some ⟨b, 0, none⟩) n n) := by
  refine ⟨fun a w h _ => ?_⟩
  simp [execOp, h.eval hx, Instr.sliceAt, Instr.sliceBounds, run_underlying ht, run_sizeOf he, Instr.sureAddr, addr_add]
/-- arr[:hi] -/
theorem Y_sliceArrHi {b : Nat} {es : TypeId} (ht : C.P.underlying t = some (.array n es)) (he : szOf C.P es = some 1) (hx : ev E x = some (.pointer (some ⟨b, 0, none⟩))) (hy : ev E y = some (.int k p)) (hp : IsNat p i) (hi : i ≤ n) :
    Yv C E L ⟨dst, .slice t x none (some y) none, ty, pos, af, g⟩ (.slice (some ⟨b, 0, none⟩) i n) := by
  refine ⟨fun a w h _ => ?_⟩
  have h1 : (Instr.sliceBound (.int k p) n .sliceAlen).run C.P w = .ok i w := run_bound hp hi
  simp [execOp, h.eval hx, h.eval hy, Instr.sliceAt, Instr.sliceBounds, run_underlying ht, run_sizeOf he, h1, Instr.sureAddr, addr_add]
/-- A slice as an array of so many. -/
theorem Y_arrayAt {b off : Nat} {es : TypeId} (ht : C.P.underlying t = some (.array n es)) (hx : ev E x = some (.slice (some ⟨b, off, none⟩) len cap)) (hi : n ≤ len) :
    Yv C E L ⟨dst, .sliceToArrayPointer t x, ty, pos, af, g⟩ (.pointer (some ⟨b, off, none⟩)) := by
  refine ⟨fun a w h _ => ?_⟩
  simp [execOp, h.eval hx, Instr.arrayAt, run_underlying ht, Nat.not_lt.2 hi]
/-- Some of the integers of a block that is owned. -/
theorem Y_loadPI (q : Nat) {b off : Nat} {d : TypeDesc} {fz : Nat × Nat} (ht : C.P.underlying t = some d) (hd : isAggB d = true) (hx : ev E x = some (.pointer (some ⟨b, off, none⟩)))
    (hq : L[q]? = some (blk b (.cells (ints kd l) e fz))) (hz : szOf C.P t = some n) (hn : off + n ≤ l.length) : Yv C E L ⟨dst, .load t x, ty, pos, af, g⟩ (.agg (ints kd ((l.drop off).take n))) := by
  refine ⟨fun a w h hs => ?_⟩
  have hw := hs.known hq
  have hl : ((l.drop off).take n).length = n := by rw [List.length_take, List.length_drop]; omega
  have h1 : (loadCells ⟨b, off, none⟩ (((l.drop off).take n).map (Value.int kd)).length).run C.P w = .ok (((l.drop off).take n).map (Value.int kd)).toArray w :=
    run_loadCells_list w ⟨b, off, none⟩ _ fun j v hv => by
      rw [addr_add]
      simp only [World.cell?, hw]
      rw [List.getElem?_map, List.getElem?_take, List.getElem?_drop] at hv
      rw [ints_get]
      split at hv
      · simpa using hv
      · simp at hv
  rw [List.length_map, hl] at h1
  have h2 : (loadVar t ⟨b, off, none⟩).run C.P w = .ok (.agg (ints kd ((l.drop off).take n))) w := by
    unfold loadVar
    simp only [Sem.run_bind, run_isAgg ht, hd, Result.andThen_ok, if_true, run_sizeOf hz, h1]
    rfl
  simp [execOp, h.eval hx, Instr.loadAt, Instr.sureAddr, h2]
end

/-- A slice's value, and the integers that it reads. -/
structure Rd (w : World) (v : Value) (k : IntKind) (l : List Int) : Prop where
  out : ∃ a cap, v = .slice a l.length cap ∧ l.length ≤ cap ∧ (l = [] ∨ ∃ b off cs e fz, a = some ⟨b, off, none⟩ ∧ w.heap[b]? = some (.cells cs e fz) ∧ ∀ i p, l[i]? = some p → cs[off + i]? = some (.int k p))

theorem Rd.mono {w w' : World} {v : Value} {k : IntKind} {l : List Int} (h : Rd w v k l) (hb : ∀ b, b < w.heap.size → w'.heap[b]? = w.heap[b]?) : Rd w' v k l := by
  obtain ⟨a, cap, h1, h2, h3⟩ := h.out
  refine ⟨a, cap, h1, h2, h3.imp id ?_⟩
  rintro ⟨b, off, cs, e, fz, ha, hw, hc⟩
  exact ⟨b, off, cs, e, fz, ha, by rw [hb b (Array.getElem?_eq_some_iff.1 hw).1]; exact hw, hc⟩
theorem Rd.st {P : Program} {n : Nat} {w w' : World} {L : Hp} {v : Value} {k : IntKind} {l : List Int} (h : Rd w v k l) (hs : St (ctx P n w) L w') : Rd w' v k l := h.mono fun b hb => hs.fixed b hb
theorem Rd.own {C : Ctx} {L : Hp} {w : World} (hs : St C L w) {q b off cap : Nat} {k : IntKind} {l m : List Int} {e : TypeId} {fz : Nat × Nat} (hq : L[q]? = some (blk b (.cells (ints k l) e fz))) (hm : ∀ i p, m[i]? = some p → l[off + i]? = some p) (hc : m.length ≤ cap) :
    Rd w (.slice (some ⟨b, off, none⟩) m.length cap) k m :=
  ⟨_, _, rfl, hc, .inr ⟨b, off, _, e, fz, rfl, hs.known hq, fun i p hp => by rw [ints_get, hm i p hp]; rfl⟩⟩
theorem Rd.cell {w : World} {b off cap : Nat} {n : Nat} {k : IntKind} {l : List Int} (h : Rd w (.slice (some ⟨b, off, none⟩) n cap) k l) {i : Nat} {p : Int} (hp : l[i]? = some p) : w.cell? ⟨b, off + i, none⟩ = some (.int k p) := by
  obtain ⟨a, c, h1, h2, h3⟩ := h.out
  rcases h3 with rfl | ⟨b', off', cs, e, fz, ha, hw, hc⟩
  · simp at hp
  · rw [ha] at h1
    cases h1
    simp [World.cell?, hw, hc i p hp]
theorem Rd.drop {w : World} {b : Option Addr} {len cap : Nat} {k : IntKind} {l : List Int} (h : Rd w (.slice b len cap) k l) (j : Nat) (hj : j ≤ len) : Rd w (.slice (addrAt b cap j) (len - j) (cap - j)) k (l.drop j) := by
  obtain ⟨a, c, h1, h2, h3⟩ := h.out
  cases h1
  refine ⟨_, _, by rw [List.length_drop], by rw [List.length_drop]; omega, ?_⟩
  rcases h3 with rfl | ⟨b', off', cs, e, fz, ha, hw, hc⟩
  · left; simp
  · by_cases hjl : j < l.length
    · right
      subst ha
      refine ⟨b', off' + j, cs, e, fz, ?_, hw, fun i p hp => ?_⟩
      · unfold addrAt
        rw [if_neg (by omega)]
        simp [addr_add]
      · rw [List.getElem?_drop] at hp
        rw [Nat.add_assoc]
        exact hc _ _ hp
    · left
      exact List.drop_of_length_le (by omega)
theorem Rd.take {w : World} {b : Option Addr} {len cap : Nat} {k : IntKind} {l : List Int} (h : Rd w (.slice b len cap) k l) (j : Nat) (hj : j ≤ len) : Rd w (.slice b j cap) k (l.take j) := by
  obtain ⟨a, c, h1, h2, h3⟩ := h.out
  cases h1
  have hl : (l.take j).length = j := by rw [List.length_take]; omega
  refine ⟨b, cap, by rw [hl], by rw [hl]; omega, ?_⟩
  rcases h3 with rfl | ⟨b', off', cs, e, fz, ha, hw, hc⟩
  · left; simp
  · right
    refine ⟨b', off', cs, e, fz, ha, hw, fun i p hp => hc i p ?_⟩
    rw [List.getElem?_take] at hp
    split at hp
    · exact hp
    · cases hp

/-! ### copy -/
section
variable {C : Ctx} {k : K} {E : Env} {L : Hp} {ops : Array Oper} {rest : List Oper} {ty : TypeId} {pos : String} {af : Array Edge} {g : Option (Nat × Bool)}
variable {x y : Operand} {t t' e es es' : TypeId} {b off d : Nat} {kd : IntKind} {l m : List Int}

theorem run_load_ints {P : Program} {w : World} {b : Option Addr} {len cap : Nat} {k : IntKind} {l : List Int} (h : Rd w (.slice b len cap) k l) {n : Nat} (hn : n ≤ l.length) :
    (Builtin.firstCells 1 n (.slice b len cap)).run P w = .ok (ints k (l.take n)) w := by
  obtain ⟨a, c, h1, h2, h3⟩ := h.out
  cases h1
  cases b with
  | none =>
    rcases h3 with rfl | ⟨b', off', cs, e, fz, ha, hw, hc⟩
    · simp at hn; subst hn; rfl
    · cases ha
  | some a =>
    rcases h3 with rfl | ⟨b', off', cs, e, fz, ha, hw, hc⟩
    · simp at hn; subst hn; rfl
    · cases ha
      have := run_loadCells_list (P := P) w ⟨b', off', none⟩ ((l.take n).map (Value.int k)) fun j v hv => by
        rw [addr_add]
        simp only [World.cell?, hw]
        rw [List.getElem?_map, List.getElem?_take] at hv
        by_cases hj : j < n
        · simp only [hj, if_true] at hv
          cases hp : l[j]? with
          | none => simp [hp] at hv
          | some p => rw [hp] at hv; simp at hv; subst hv; simp [hc j p hp]
        · simp [hj] at hv
      simp only [List.length_map, List.length_take, Nat.min_eq_left hn] at this
      simp [Builtin.firstCells, this, ints]

/-- An operation that turns an owned block and yields a value. -/
theorem S_setV (q : Nat) {op : Op} {v : Value} {cs cs' : Array Value} {fz : Nat × Nat} (hg : wantedE ops E g = some true) (hd : Nat.blt d C.n = true)
    (hq : L[q]? = some (blk b (.cells cs e fz)))
    (hv : ∀ a w, Rel C.n E a → St C L w → w.heap[b]? = some (.cells cs e fz) → (execOp a.eval ⟨some d, op, ty, pos, af, g⟩).run C.P w = .ok (.value v) (w.setRow b cs'))
    (h : S C ops rest k ((d, v) :: E) (L.set q (blk b (.cells cs' e fz)))) : S C ops (⟨some d, op, ty, pos, af, g⟩ :: rest) k E L := by
  refine ⟨fun a w hr hs => ?_⟩
  unfold wpList
  rw [wantedE_spec hr (o := ⟨some d, op, ty, pos, af, g⟩) hg, if_pos rfl]
  refine .inl ?_
  unfold Oper.wp
  rw [hv a w hr hs (hs.known hq)]
  exact h.out _ _ (hr.put (by simpa using hd) v) (hs.setRow hq)

/-- copy(dst, src): dst lies in an owned block of integers. -/
theorem run_copy {n len cap dl_ dc : Nat} {sb : Option Addr} {ats : Array TypeId} (h0 : ats[0]? = some t) (ht : C.P.underlying t = some (.slice es)) (he : szOf C.P es = some 1)
    (hx : ev E x = some (.slice (some ⟨b, off, none⟩) dl_ dc)) (hy : ev E y = some (.slice sb len cap)) (hr : ∀ w, St C L w → Rd w (.slice sb len cap) kd m) (hn : min len dl_ = n) (ho : off + n ≤ l.length) :
    ∀ a w, Rel C.n E a → St C L w → w.heap[b]? = some (.cells (ints kd l) e (0, 0)) → (execOp a.eval ⟨some d, .call ⟨.builtin .copy, #[x, y], ats⟩, ty, pos, af, g⟩).run C.P w = .ok (.value (.int .i64 n)) (w.setRow b (ints kd (l.take off ++ m.take n ++ l.drop (off + n)))) := by
  intro a w hrel hs hb
  have hrd := hr w hs
  have hlen : len = m.length := by
    obtain ⟨_, _, h1, _⟩ := hrd.out
    cases h1; rfl
  obtain ⟨cs, hc⟩ := run_builtin (dst := some d) (ty := ty) (pos := pos) (af := af) (g := g) hrel (P := C.P) (b := .copy) (aS := [x, y]) (ats := ats) (w := w) (vs := [_, _]) (by simp [evs, hx, hy]; exact ⟨rfl, rfl⟩)
  rw [hc]
  have hml : (m.take n).length = n := by rw [List.length_take]; omega
  have h1 := run_load_ints (P := C.P) hrd (n := n) (by omega)
  have h2 := run_storeCells_at (P := C.P) b off e ((m.take n).map (Value.int kd)) 0 (ints kd l) w hb (by simp; omega) (fun v hv => by obtain ⟨p, _, rfl⟩ := List.mem_map.1 hv; rfl)
  have h3 : ((ints kd l).toList.take (off + 0) ++ (m.take n).map (Value.int kd) ++ (ints kd l).toList.drop (off + 0 + ((m.take n).map (Value.int kd)).length)).toArray = ints kd (l.take off ++ m.take n ++ l.drop (off + n)) := by
    have hnm : min n m.length = n := Nat.min_eq_left (by omega)
    simp [ints, List.map_take, List.map_drop, hnm]
  rw [h3] at h2
  have h4 : (ints kd (m.take n)).toList = (m.take n).map (Value.int kd) := by simp [ints]
  simp only [builtin, Builtin.copy_, List.getElem?_toArray, List.getElem?_cons_zero, List.getElem?_cons_succ, h0, Sem.run_bind, run_underlying ht, Result.andThen_ok, run_sizeOf he, Builtin.lenOf, Sem.run_pure]
  have h5 : Nat.min len dl_ = n := hn
  rw [h5, h1]
  simp only [Result.andThen_ok, h4, h2, goInt]
end

/-! ### equal arrays -/
theorem run_equal_int {P : Program} {e : TypeId} {k : IntKind} (he : P.underlying e = some (.int k)) (d : Nat) (p q : Int) (w : World) : (Op.equalIn (d + 1) e (.int k p) (.int k q)).run P w = .ok (decide (p = q)) w := by
  simp only [Op.equalIn, Sem.run_bind, run_underlying he, Result.andThen_ok, if_true, Sem.run_pure]
  rfl
theorem run_equal_bool {P : Program} {e : TypeId} (he : P.underlying e = some .bool) (d : Nat) (p q : Bool) (w : World) : (Op.equalIn (d + 1) e (.bool p) (.bool q)).run P w = .ok (p == q) w := by
  simp only [Op.equalIn, Sem.run_bind, run_underlying he, Result.andThen_ok]
  rfl
theorem run_part {P : Program} {e : TypeId} {k : IntKind} (he : P.underlying e = some (.int k)) (l : List Int) (i : Nat) (p : Int) (h : l[i]? = some p) (w : World) : (part e (ints k l) i).run P w = .ok (.int k p) w := by
  have : (ints k l)[i]? = some (.int k p) := by rw [ints_get, h]; rfl
  simp [part, run_isAgg he, isAggB, this]
theorem run_eqLoop {P : Program} {e : TypeId} {k : IntKind} (he : P.underlying e = some (.int k)) (d : Nat) (l m : List Int) (hlm : l.length = m.length) (w : World) : ∀ (j s : Nat), s + j = l.length → (∀ i, i < s → l[i]? = m[i]?) →
    (forIn (List.range' s j) ((none, ()) : Option Bool × Unit) fun i _ => do
        let a ← part e (ints k l) (i * 1)
        let b ← part e (ints k m) (i * 1)
        let c ← Op.equalIn (d + 1) e a b
        if (!c) = true then pure (ForInStep.done (some false, ())) else pure (ForInStep.yield (none, ())) : Sem (Option Bool × Unit)).run P w = .ok (if l = m then (none, ()) else (some false, ())) w
  | 0, s, hs, hp => by
    have : l = m := List.ext_getElem? fun i => by
      by_cases hi : i < s
      · exact hp i hi
      · rw [List.getElem?_eq_none (by omega), List.getElem?_eq_none (by omega)]
    simp [this]
  | j + 1, s, hs, hp => by
    have h1 : l[s]? = some l[s] := List.getElem?_eq_getElem (by omega)
    have h2 : m[s]? = some m[s] := List.getElem?_eq_getElem (by omega)
    rw [List.range'_succ, List.forIn_cons]
    simp only [Nat.mul_one]
    simp only [bind_assoc, Sem.run_bind, run_part he l s _ h1, run_part he m s _ h2, Result.andThen_ok, run_equal_int he]
    by_cases heq : l[s] = m[s]
    · have ih := run_eqLoop he d l m hlm w j (s + 1) (by omega) fun i hi => by
        by_cases his : i = s
        · subst his; rw [h1, h2, heq]
        · exact hp i (by omega)
      simp only [Nat.mul_one] at ih
      simp [heq]
      simpa using ih
    · have : l ≠ m := by
        rintro rfl
        exact heq rfl
      simp [heq, this]
theorem run_eqArr {P : Program} {t e n : Nat} {k : IntKind} (ht : P.underlying t = some (.array n e)) (he : P.underlying e = some (.int k)) (hz : szOf P e = some 1) (d : Nat) (l m : List Int) (hl : l.length = n) (hm : m.length = n) (w : World) :
    (Op.equalIn (d + 2) t (.agg (ints k l)) (.agg (ints k m))).run P w = .ok (decide (l = m)) w := by
  rw [Op.equalIn]
  simp only [Sem.run_bind, run_underlying ht, Result.andThen_ok, run_sizeOf hz]
  simp only [Std.Legacy.Range.forIn_eq_forIn_range']
  have : [:n].size = n := by simp [Std.Legacy.Range.size]
  rw [this]
  have := run_eqLoop (P := P) he d l m (by omega) w n 0 (by omega) (by omega)
  rw [this]
  by_cases h : l = m <;> simp [h]

section
variable {C : Ctx} {E : Env} {L : Hp} {dst : Option Tmp} {ty : TypeId} {pos : String} {af : Array Edge} {g : Option (Nat × Bool)}
variable {x y : Operand} {t e u : TypeId} {k : IntKind} {n : Nat} {l m : List Int}
theorem eqGuard_agg (op : BinOp) {P : Program} {t : TypeId} (hg : P.eqGuardType P.depth t = false) (x y : Operand) (a b : Array Value) (w : World) : (eqGuard op t x y (.agg a) (.agg b)).run P w = .ok () w := by
  unfold eqGuard
  cases op <;> simp [hg]
/-- Two arrays of integers. -/
theorem Y_eqlA (hg : C.P.eqGuardType C.P.depth t = false) (ht : C.P.underlying t = some (.array n e)) (he : C.P.underlying e = some (.int k)) (hz : szOf C.P e = some 1)
    (hx : ev E x = some (.agg (ints k l))) (hy : ev E y = some (.agg (ints k m))) (hl : l.length = n) (hm : m.length = n) : Yv C E L ⟨dst, .binOp .eql t x y u, ty, pos, af, g⟩ (.bool (decide (l = m))) := by
  refine ⟨fun a w h _ => ?_⟩
  have := run_eqArr ht he hz 9998 l m hl hm w
  simp only [execOp, h.eval hx, h.eval hy, Sem.run_bind, eqGuard_agg _ hg, Result.andThen_ok, binOp, Op.equal, Op.maxDepth]
  rw [this]
  rfl
theorem Y_neqA (hg : C.P.eqGuardType C.P.depth t = false) (ht : C.P.underlying t = some (.array n e)) (he : C.P.underlying e = some (.int k)) (hz : szOf C.P e = some 1)
    (hx : ev E x = some (.agg (ints k l))) (hy : ev E y = some (.agg (ints k m))) (hl : l.length = n) (hm : m.length = n) : Yv C E L ⟨dst, .binOp .neq t x y u, ty, pos, af, g⟩ (.bool (decide (l ≠ m))) := by
  refine ⟨fun a w h _ => ?_⟩
  have := run_eqArr ht he hz 9998 l m hl hm w
  simp only [execOp, h.eval hx, h.eval hy, Sem.run_bind, eqGuard_agg _ hg, Result.andThen_ok, binOp, Op.equal, Op.maxDepth]
  rw [this]
  by_cases e : l = m <;> simp [e]
theorem Y_eqlA_t (hg : C.P.eqGuardType C.P.depth t = false) (ht : C.P.underlying t = some (.array n e)) (he : C.P.underlying e = some (.int k)) (hz : szOf C.P e = some 1)
    (hx : ev E x = some (.agg (ints k l))) (hy : ev E y = some (.agg (ints k m))) (hl : l.length = n) (h : l = m) : Yv C E L ⟨dst, .binOp .eql t x y u, ty, pos, af, g⟩ (.bool true) := by
  have := Y_eqlA (L := L) (dst := dst) (ty := ty) (pos := pos) (af := af) (g := g) (u := u) hg ht he hz hx hy hl (h ▸ hl)
  rwa [decide_eq_true h] at this
theorem Y_eqlA_f (hg : C.P.eqGuardType C.P.depth t = false) (ht : C.P.underlying t = some (.array n e)) (he : C.P.underlying e = some (.int k)) (hz : szOf C.P e = some 1)
    (hx : ev E x = some (.agg (ints k l))) (hy : ev E y = some (.agg (ints k m))) (hl : l.length = n) (hm : m.length = n) (h : l ≠ m) : Yv C E L ⟨dst, .binOp .eql t x y u, ty, pos, af, g⟩ (.bool false) := by
  have := Y_eqlA (L := L) (dst := dst) (ty := ty) (pos := pos) (af := af) (g := g) (u := u) hg ht he hz hx hy hl hm
  rwa [decide_eq_false h] at this
theorem Y_neqA_f (hg : C.P.eqGuardType C.P.depth t = false) (ht : C.P.underlying t = some (.array n e)) (he : C.P.underlying e = some (.int k)) (hz : szOf C.P e = some 1)
    (hx : ev E x = some (.agg (ints k l))) (hy : ev E y = some (.agg (ints k m))) (hl : l.length = n) (h : l = m) : Yv C E L ⟨dst, .binOp .neq t x y u, ty, pos, af, g⟩ (.bool false) := by
  have := Y_neqA (L := L) (dst := dst) (ty := ty) (pos := pos) (af := af) (g := g) (u := u) hg ht he hz hx hy hl (h ▸ hl)
  rwa [decide_eq_false (fun h' => h' h)] at this
theorem Y_neqA_t (hg : C.P.eqGuardType C.P.depth t = false) (ht : C.P.underlying t = some (.array n e)) (he : C.P.underlying e = some (.int k)) (hz : szOf C.P e = some 1)
    (hx : ev E x = some (.agg (ints k l))) (hy : ev E y = some (.agg (ints k m))) (hl : l.length = n) (hm : m.length = n) (h : l ≠ m) : Yv C E L ⟨dst, .binOp .neq t x y u, ty, pos, af, g⟩ (.bool true) := by
  have := Y_neqA (L := L) (dst := dst) (ty := ty) (pos := pos) (af := af) (g := g) (u := u) hg ht he hz hx hy hl hm
  rwa [decide_eq_true h] at this
theorem eqGuard_bool (op : BinOp) (t : TypeId) (x y : Operand) (p q : Bool) (P : Program) (w : World) : (eqGuard op t x y (.bool p) (.bool q)).run P w = .ok () w := by
  unfold eqGuard
  cases op <;> simp
theorem Y_eqlB {p q : Bool} (ht : C.P.underlying t = some .bool) (hx : ev E x = some (.bool p)) (hy : ev E y = some (.bool q)) : Yv C E L ⟨dst, .binOp .eql t x y u, ty, pos, af, g⟩ (.bool (p == q)) := by
  refine ⟨fun a w h _ => ?_⟩
  have := run_equal_bool ht 9999 p q w
  simp only [execOp, h.eval hx, h.eval hy, Sem.run_bind, eqGuard_bool, Result.andThen_ok, binOp, Op.equal, Op.maxDepth]
  rw [this]
  rfl
theorem Y_neqB {p q : Bool} (ht : C.P.underlying t = some .bool) (hx : ev E x = some (.bool p)) (hy : ev E y = some (.bool q)) : Yv C E L ⟨dst, .binOp .neq t x y u, ty, pos, af, g⟩ (.bool (p != q)) := by
  refine ⟨fun a w h _ => ?_⟩
  have := run_equal_bool ht 9999 p q w
  simp only [execOp, h.eval hx, h.eval hy, Sem.run_bind, eqGuard_bool, Result.andThen_ok, binOp, Op.equal, Op.maxDepth]
  rw [this]
  rfl
theorem Y_eqlB_t {p : Bool} (ht : C.P.underlying t = some .bool) (hx : ev E x = some (.bool p)) (hy : ev E y = some (.bool p)) : Yv C E L ⟨dst, .binOp .eql t x y u, ty, pos, af, g⟩ (.bool true) := by
  have := Y_eqlB (L := L) (dst := dst) (ty := ty) (pos := pos) (af := af) (g := g) (u := u) ht hx hy
  rwa [beq_self_eq_true] at this
theorem Y_neqB_f {p : Bool} (ht : C.P.underlying t = some .bool) (hx : ev E x = some (.bool p)) (hy : ev E y = some (.bool p)) : Yv C E L ⟨dst, .binOp .neq t x y u, ty, pos, af, g⟩ (.bool false) := by
  have := Y_neqB (L := L) (dst := dst) (ty := ty) (pos := pos) (af := af) (g := g) (u := u) ht hx hy
  rwa [bne_self_eq_false] at this
end
end Go.Proofs.YtonmkjcilepdcaaGreatDoor
