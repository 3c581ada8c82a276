import Derived.Test.YtonmkjcilepdcaaGreatDoorAbs
/- A symbolic evaluator: values whose blocks are names; objects; what they mean. -/
noncomputable section
namespace Go.Proofs.YtonmkjcilepdcaaGreatDoor
open Go.RowKit
set_option maxRecDepth 20000

/-- A value: blocks are names. -/
inductive SV where
  | k (v : Value)
  | ptr (n off : Nat)
  | slice (n off len cap : Nat)
  | slc (n lo off len : Nat)
  | map (n : Nat)
  | func (f : FuncId) (cs : List SV)
  | iface (t : TypeId) (v : SV)
  | agg (cs : List SV)
  | tup (vs : List SV)
  deriving Inhabited
/-- The names' blocks; a row's capacity. -/
abbrev Nm := Nat → Nat × Nat
mutual
def den (σ : Nm) : SV → Value
  | .k v => v
  | .ptr n off => .pointer (some ⟨(σ n).1, off, none⟩)
  | .slice n off len cap => .slice (some ⟨(σ n).1, off, none⟩) len cap
  | .slc n lo off len => .slice (some ⟨(σ n).1, off, none⟩) len ((σ n).2 - lo)
  | .map n => .map (some (σ n).1)
  | .func f cs => .func (.func f) #[] (denL σ cs).toArray
  | .iface t v => .iface t (den σ v)
  | .agg cs => .agg (denL σ cs).toArray
  | .tup vs => .tuple (denL σ vs).toArray
def denL (σ : Nm) : List SV → List Value
  | [] => []
  | v :: vs => den σ v :: denL σ vs
end
theorem denL_map (σ : Nm) : ∀ l, denL σ l = l.map (den σ)
  | [] => by rw [denL]; rfl
  | v :: vs => by rw [denL, denL_map σ vs]; rfl
/-- All of a list. -/
def allR {α : Type} (f : α → Bool) (l : List α) : Bool := List.rec (motive := fun _ => Bool) true (fun a _ ih => Bool.rec (motive := fun _ => Bool) false ih (f a)) l
theorem allR_cons {α : Type} (f : α → Bool) (a : α) (l : List α) : allR f (a :: l) = (f a && allR f l) := by
  show Bool.rec (motive := fun _ => Bool) false (allR f l) (f a) = _
  cases f a <;> rfl
theorem allR_iff {α : Type} {f : α → Bool} : ∀ {l : List α}, allR f l = true ↔ ∀ a ∈ l, f a = true
  | [] => ⟨fun _ a h => by simp at h, fun _ => rfl⟩
  | a :: l => by rw [allR_cons, Bool.and_eq_true, allR_iff (l := l)]; simp
/-- All names are below n. -/
def bnd (n : Nat) (v : SV) : Bool := SV.rec (motive_1 := fun _ => Bool) (motive_2 := fun _ => Bool)
  (fun _ => true) (fun m _ => Nat.blt m n) (fun m _ _ _ => Nat.blt m n) (fun m _ _ _ => Nat.blt m n) (fun m => Nat.blt m n)
  (fun _ _ ih => ih) (fun _ _ ih => ih) (fun _ ih => ih) (fun _ ih => ih) true (fun _ _ a b => Bool.rec (motive := fun _ => Bool) false b a) v
def bndL (n : Nat) (l : List SV) : Bool := SV.rec_1 (motive_1 := fun _ => Bool) (motive_2 := fun _ => Bool)
  (fun _ => true) (fun m _ => Nat.blt m n) (fun m _ _ _ => Nat.blt m n) (fun m _ _ _ => Nat.blt m n) (fun m => Nat.blt m n)
  (fun _ _ ih => ih) (fun _ _ ih => ih) (fun _ ih => ih) (fun _ ih => ih) true (fun _ _ a b => Bool.rec (motive := fun _ => Bool) false b a) l
theorem bndL_cons (n : Nat) (v : SV) (l : List SV) : bndL n (v :: l) = (bnd n v && bndL n l) := by
  show Bool.rec (motive := fun _ => Bool) false (bndL n l) (bnd n v) = _
  cases bnd n v <;> rfl
/-- A length, reckoned out. -/
def lenL {α : Type} (l : List α) : Nat := List.rec (motive := fun _ => Nat) 0 (fun _ _ ih => Nat.add ih 1) l
theorem lenL_eq {α : Type} : ∀ (l : List α), lenL l = l.length
  | [] => rfl
  | a :: l => by show Nat.add (lenL l) 1 = _; rw [lenL_eq l]; rfl
def mxN (a b : Nat) : Nat := Bool.rec (motive := fun _ => Nat) a b (Nat.ble a b)
theorem mxN_le {a b n : Nat} (h : mxN a b ≤ n) : a ≤ n ∧ b ≤ n := by
  unfold mxN at h
  cases hb : Nat.ble a b with
  | true => rw [hb] at h; simp only [Nat.ble_eq] at hb; exact ⟨Nat.le_trans hb h, h⟩
  | false =>
    rw [hb] at h
    have hn : ¬ a ≤ b := by rw [← Nat.ble_eq, hb]; simp
    have h' : a ≤ n := h
    exact ⟨h', by omega⟩
/-- The names lie below this. -/
def mxV (v : SV) : Nat := SV.rec (motive_1 := fun _ => Nat) (motive_2 := fun _ => Nat)
  (fun _ => 0) (fun m _ => Nat.add m 1) (fun m _ _ _ => Nat.add m 1) (fun m _ _ _ => Nat.add m 1) (fun m => Nat.add m 1)
  (fun _ _ ih => ih) (fun _ _ ih => ih) (fun _ ih => ih) (fun _ ih => ih) 0 (fun _ _ a b => mxN a b) v
def mxL (l : List SV) : Nat := SV.rec_1 (motive_1 := fun _ => Nat) (motive_2 := fun _ => Nat)
  (fun _ => 0) (fun m _ => Nat.add m 1) (fun m _ _ _ => Nat.add m 1) (fun m _ _ _ => Nat.add m 1) (fun m => Nat.add m 1)
  (fun _ _ ih => ih) (fun _ _ ih => ih) (fun _ ih => ih) (fun _ ih => ih) 0 (fun _ _ a b => mxN a b) l
mutual
theorem mxV_bnd {n : Nat} : ∀ (v : SV), mxV v ≤ n → bnd n v = true
  | .k _, _ => rfl
  | .ptr m _, h => by show Nat.blt m n = true; rw [Nat.blt_eq]; exact h
  | .slice m _ _ _, h => by show Nat.blt m n = true; rw [Nat.blt_eq]; exact h
  | .slc m _ _ _, h => by show Nat.blt m n = true; rw [Nat.blt_eq]; exact h
  | .map m, h => by show Nat.blt m n = true; rw [Nat.blt_eq]; exact h
  | .func _ cs, h => mxL_bnd cs h
  | .iface _ v, h => mxV_bnd v h
  | .agg cs, h => mxL_bnd cs h
  | .tup vs, h => mxL_bnd vs h
theorem mxL_bnd {n : Nat} : ∀ (l : List SV), mxL l ≤ n → bndL n l = true
  | [], _ => rfl
  | v :: l, h => by
    have h' : mxN (mxV v) (mxL l) ≤ n := h
    rw [bndL_cons, Bool.and_eq_true]
    exact ⟨mxV_bnd v (mxN_le h').1, mxL_bnd l (mxN_le h').2⟩
end
mutual
theorem den_bnd {σ σ' : Nm} {n : Nat} (h : ∀ m, m < n → σ' m = σ m) : ∀ (v : SV), bnd n v = true → den σ' v = den σ v
  | .k _, _ => by simp only [den]
  | .ptr m _, hb => by change Nat.blt m n = true at hb; simp only [Nat.blt_eq] at hb; simp only [den, h m hb]
  | .slice m _ _ _, hb => by change Nat.blt m n = true at hb; simp only [Nat.blt_eq] at hb; simp only [den, h m hb]
  | .slc m _ _ _, hb => by change Nat.blt m n = true at hb; simp only [Nat.blt_eq] at hb; simp only [den, h m hb]
  | .map m, hb => by change Nat.blt m n = true at hb; simp only [Nat.blt_eq] at hb; simp only [den, h m hb]
  | .func _ cs, hb => by change bndL n cs = true at hb; simp only [den, denL_bnd h cs hb]
  | .iface _ v, hb => by change bnd n v = true at hb; simp only [den, den_bnd h v hb]
  | .agg cs, hb => by change bndL n cs = true at hb; simp only [den, denL_bnd h cs hb]
  | .tup vs, hb => by change bndL n vs = true at hb; simp only [den, denL_bnd h vs hb]
theorem denL_bnd {σ σ' : Nm} {n : Nat} (h : ∀ m, m < n → σ' m = σ m) : ∀ (l : List SV), bndL n l = true → denL σ' l = denL σ l
  | [], _ => by simp only [denL]
  | v :: vs, hb => by
    simp only [bndL_cons, Bool.and_eq_true] at hb
    simp only [denL, den_bnd h v hb.1, denL_bnd h vs hb.2]
end
/-! ### reckoned out (for the kernel): each of these is its last argument at its first -/
def forceN {β : Type} (n : Nat) (f : Nat → β) : β := Nat.rec (motive := fun _ => β) (f 0) (fun k _ => f (Nat.succ k)) n
theorem forceN_eq {β : Type} (n : Nat) (f : Nat → β) : forceN n f = f n := by cases n <;> rfl
def forceL {β : Type} : List Nat → (List Nat → β) → β
  | [], f => f []
  | a :: l, f => forceN a fun a' => forceL l fun l' => f (a' :: l')
theorem forceL_eq {β : Type} : ∀ (l : List Nat) (f : List Nat → β), forceL l f = f l
  | [], _ => rfl
  | a :: l, f => by rw [forceL, forceN_eq, forceL_eq l]
def forceK {β : Type} (k : IntKind) (f : IntKind → β) : β :=
  match k with
  | .i8 => f .i8 | .i16 => f .i16 | .i32 => f .i32 | .i64 => f .i64 | .u8 => f .u8 | .u16 => f .u16 | .u32 => f .u32 | .u64 => f .u64
theorem forceK_eq {β : Type} (k : IntKind) (f : IntKind → β) : forceK k f = f k := by cases k <;> rfl
def forceI {β : Type} (n : Int) (f : Int → β) : β :=
  match n with
  | .ofNat m => forceN m fun m' => f (.ofNat m')
  | .negSucc m => forceN m fun m' => f (.negSucc m')
theorem forceI_eq {β : Type} (n : Int) (f : Int → β) : forceI n f = f n := by cases n <;> simp only [forceI, forceN_eq]
/-- The list's own cells. -/
def spine {α β : Type} (l : List α) (f : List α → β) : β := List.rec (motive := fun _ => (List α → β) → β) (fun f => f []) (fun a _ ih f => ih fun l' => f (a :: l')) l f
theorem spine_eq {α β : Type} : ∀ (l : List α) (f : List α → β), spine l f = f l
  | [], _ => rfl
  | a :: l, f => spine_eq l fun l' => f (a :: l')
def forceLV {α β : Type} (fv : α → (α → β) → β) (l : List α) (f : List α → β) : β := List.rec (motive := fun _ => (List α → β) → β) (fun f => f []) (fun a _ ih f => fv a fun a' => ih fun l' => f (a' :: l')) l f
theorem forceLV_eq {α β : Type} {fv : α → (α → β) → β} (h : ∀ a f, fv a f = f a) : ∀ (l : List α) (f : List α → β), forceLV fv l f = f l
  | [], _ => rfl
  | a :: l, f => by
    show fv a (fun a' => forceLV fv l fun l' => f (a' :: l')) = _
    rw [h, forceLV_eq h l]
def forceV {β : Type} : Nat → Value → (Value → β) → β
  | 0, v, f => f v
  | n + 1, v, f => match v with
    | .int k i => forceK k fun k' => forceI i fun i' => f (.int k' i')
    | .bool true => f (.bool true)
    | .bool false => f (.bool false)
    | .agg ⟨cs⟩ => forceLV (forceV n) cs fun cs' => f (.agg ⟨cs'⟩)
    | .tuple ⟨cs⟩ => forceLV (forceV n) cs fun cs' => f (.tuple ⟨cs'⟩)
    | .slice a l c => forceN l fun l' => forceN c fun c' => f (.slice a l' c')
    | v => f v
theorem forceV_eq {β : Type} : ∀ (n : Nat) (v : Value) (f : Value → β), forceV n v f = f v
  | 0, _, _ => rfl
  | n + 1, v, f => by
    unfold forceV
    split
    · rw [forceK_eq, forceI_eq]
    · rfl
    · rfl
    · rw [forceLV_eq (forceV_eq n)]
    · rw [forceLV_eq (forceV_eq n)]
    · rw [forceN_eq, forceN_eq]
    · rfl
def forceS {β : Type} (v : SV) (f : SV → β) : β := SV.rec (motive_1 := fun _ => (SV → β) → β) (motive_2 := fun _ => (List SV → β) → β)
  (fun v f => forceV 5 v fun v' => f (.k v')) (fun a b f => forceN a fun a' => forceN b fun b' => f (.ptr a' b'))
  (fun a b c d f => forceN a fun a' => forceN b fun b' => forceN c fun c' => forceN d fun d' => f (.slice a' b' c' d'))
  (fun a b c d f => forceN a fun a' => forceN b fun b' => forceN c fun c' => forceN d fun d' => f (.slc a' b' c' d'))
  (fun a f => forceN a fun a' => f (.map a')) (fun g _ ih f => forceN g fun g' => ih fun cs' => f (.func g' cs'))
  (fun t _ ih f => forceN t fun t' => ih fun v' => f (.iface t' v')) (fun _ ih f => ih fun cs' => f (.agg cs')) (fun _ ih f => ih fun cs' => f (.tup cs'))
  (fun f => f []) (fun _ _ a b f => a fun v' => b fun l' => f (v' :: l')) v f
def forceSL {β : Type} (l : List SV) (f : List SV → β) : β := SV.rec_1 (motive_1 := fun _ => (SV → β) → β) (motive_2 := fun _ => (List SV → β) → β)
  (fun v f => forceV 5 v fun v' => f (.k v')) (fun a b f => forceN a fun a' => forceN b fun b' => f (.ptr a' b'))
  (fun a b c d f => forceN a fun a' => forceN b fun b' => forceN c fun c' => forceN d fun d' => f (.slice a' b' c' d'))
  (fun a b c d f => forceN a fun a' => forceN b fun b' => forceN c fun c' => forceN d fun d' => f (.slc a' b' c' d'))
  (fun a f => forceN a fun a' => f (.map a')) (fun g _ ih f => forceN g fun g' => ih fun cs' => f (.func g' cs'))
  (fun t _ ih f => forceN t fun t' => ih fun v' => f (.iface t' v')) (fun _ ih f => ih fun cs' => f (.agg cs')) (fun _ ih f => ih fun cs' => f (.tup cs'))
  (fun f => f []) (fun _ _ a b f => a fun v' => b fun l' => f (v' :: l')) l f
mutual
theorem forceS_eq {β : Type} : ∀ (s : SV) (f : SV → β), forceS s f = f s
  | .k v, f => forceV_eq 5 v fun v' => f (.k v')
  | .ptr a b, f => (forceN_eq a fun a' => forceN b fun b' => f (.ptr a' b')).trans (forceN_eq b _)
  | .slice a b c d, f => (forceN_eq a fun a' => forceN b fun b' => forceN c fun c' => forceN d fun d' => f (.slice a' b' c' d')).trans ((forceN_eq b _).trans ((forceN_eq c _).trans (forceN_eq d _)))
  | .slc a b c d, f => (forceN_eq a fun a' => forceN b fun b' => forceN c fun c' => forceN d fun d' => f (.slc a' b' c' d')).trans ((forceN_eq b _).trans ((forceN_eq c _).trans (forceN_eq d _)))
  | .map a, f => forceN_eq a fun a' => f (.map a')
  | .func g cs, f => (forceN_eq g fun g' => forceSL cs fun cs' => f (.func g' cs')).trans (forceSL_eq cs _)
  | .iface t v, f => (forceN_eq t fun t' => forceS v fun v' => f (.iface t' v')).trans (forceS_eq v _)
  | .agg cs, f => forceSL_eq cs fun cs' => f (.agg cs')
  | .tup cs, f => forceSL_eq cs fun cs' => f (.tup cs')
theorem forceSL_eq {β : Type} : ∀ (l : List SV) (f : List SV → β), forceSL l f = f l
  | [], f => rfl
  | v :: l, f => (forceS_eq v fun v' => forceSL l fun l' => f (v' :: l')).trans (forceSL_eq l _)
end
abbrev SE := List (Nat × SV)
def denE (σ : Nm) (E : SE) : Env := E.map fun p => (p.1, den σ p.2)
def SE.get (E : SE) (d : Nat) : Option SV := List.rec (motive := fun _ => Option SV) none (fun p _ ih => Bool.rec (motive := fun _ => Option SV) ih (some p.2) (Nat.beq p.1 d)) E
theorem SE.get_cons (e : Nat) (v : SV) (E : SE) (d : Nat) : SE.get ((e, v) :: E) d = bif Nat.beq e d then some v else SE.get E d := by
  show Bool.rec (motive := fun _ => Option SV) (SE.get E d) (some v) (Nat.beq e d) = _
  cases Nat.beq e d <;> rfl
theorem denE_get (σ : Nm) : ∀ (E : SE) (d : Nat), (denE σ E).get d = (E.get d).map (den σ)
  | [], _ => rfl
  | (e, v) :: E, d => by
    rw [SE.get_cons]
    show (bif Nat.beq e d then some (den σ v) else (denE σ E).get d) = (bif Nat.beq e d then some v else SE.get E d).map (den σ)
    cases Nat.beq e d
    · exact denE_get σ E d
    · rfl
def mxE (E : SE) : Nat := List.rec (motive := fun _ => Nat) 0 (fun p _ ih => mxN (mxV p.2) ih) E
theorem mxE_le {n : Nat} : ∀ {E : SE}, mxE E ≤ n → ∀ p ∈ E, mxV p.2 ≤ n
  | [], _, p, hp => by cases hp
  | q :: E, h, p, hp => by
    have h' : mxN (mxV q.2) (mxE E) ≤ n := h
    rcases List.mem_cons.1 hp with rfl | hp
    · exact (mxN_le h').1
    · exact mxE_le (mxN_le h').2 p hp
def bndE (n : Nat) (E : SE) : Bool := Nat.ble (mxE E) n
theorem denE_bnd {σ σ' : Nm} {n : Nat} (h : ∀ m, m < n → σ' m = σ m) {E : SE} (hb : bndE n E = true) : denE σ' E = denE σ E := by
  unfold denE
  refine List.map_congr_left fun p hp => ?_
  exact congrArg (Prod.mk p.1) (den_bnd h p.2 (mxV_bnd _ (mxE_le (Nat.le_of_ble_eq_true hb) p hp)))
/-- An object. -/
inductive SO where
  | dead
  | cells (cs : List SV) (e : TypeId)
  | pre (sz : Nat) (cs : List SV) (e : TypeId)
  | map (es : List (SV × SV × Nat)) (clock : Nat)
  | sym
  | abs (d : Ab)
  deriving Inhabited
def forceO {β : Type} : SO → (SO → β) → β
  | .dead, f => f .dead
  | .cells cs e, f => forceSL cs fun cs' => forceN e fun e' => f (.cells cs' e')
  | .pre sz cs e, f => forceN sz fun sz' => forceSL cs fun cs' => forceN e fun e' => f (.pre sz' cs' e')
  | .map es c, f => forceLV (fun (p : SV × SV × Nat) g => forceS p.1 fun a => forceS p.2.1 fun b => forceN p.2.2 fun c => g (a, b, c)) es fun es' => forceN c fun c' => f (.map es' c')
  | .sym, f => f .sym
  | .abs d, f => f (.abs d)
theorem forceO_eq {β : Type} (o : SO) (f : SO → β) : forceO o f = f o := by
  cases o with
  | dead => rfl
  | cells cs e => simp only [forceO, forceSL_eq, forceN_eq]
  | pre sz cs e => simp only [forceO, forceSL_eq, forceN_eq]
  | map es c => simp only [forceO]; rw [forceLV_eq (fun a f => by simp only [forceS_eq, forceN_eq])]; simp only [forceN_eq]
  | sym => rfl
  | abs d => rfl
def denM (σ : Nm) (es : List (SV × SV × Nat)) : List MapEntry := es.map fun p => ⟨den σ p.1, den σ p.2.1, p.2.2⟩
def denO (σ : Nm) (n : Nat) : SO → Asr
  | .dead => fun _ => True
  | .cells cs e => blk (σ n).1 (.cells (denL σ cs).toArray e (0, 0))
  | .pre sz cs e => fun h => ∃ post : List Value, h (σ n).1 = some (.cells (denL σ cs ++ post).toArray e (0, 0)) ∧ (σ n).2 * sz = cs.length + post.length
  | .map es c => blk (σ n).1 (.map (denM σ es).toArray c)
  | .sym => fun _ => True
  | .abs d => denAb d (σ n)
abbrev SH := List SO
def denH (σ : Nm) (H : SH) : Hp := H.mapIdx fun n o => denO σ n o
@[simp] theorem denH_length (σ : Nm) (H : SH) : (denH σ H).length = H.length := by unfold denH; simp
theorem denH_get (σ : Nm) (H : SH) (n : Nat) : (denH σ H)[n]? = (H[n]?).map (denO σ n) := by unfold denH; simp
theorem denH_append (σ : Nm) (H : SH) (o : SO) : denH σ (H ++ [o]) = denH σ H ++ [denO σ H.length o] := by
  refine List.ext_getElem? fun n => ?_
  rw [denH_get]
  by_cases h : n < H.length
  · rw [List.getElem?_append_left h, List.getElem?_append_left (by simpa using h), denH_get]
  · rw [List.getElem?_append_right (by omega), List.getElem?_append_right (by simpa using h), denH_length]
    by_cases h2 : n = H.length
    · subst h2; simp
    · rw [List.getElem?_eq_none (by simp; omega), List.getElem?_eq_none (by simp; omega)]; rfl
theorem denH_set (σ : Nm) (H : SH) (n : Nat) (o : SO) : denH σ (H.set n o) = (denH σ H).set n (denO σ n o) := by
  refine List.ext_getElem? fun m => ?_
  rw [denH_get, List.getElem?_set, List.getElem?_set, denH_get, denH_length]
  by_cases h : n = m
  · subst h
    by_cases h2 : n < H.length
    · simp [h2]
    · simp [h2]
  · simp [h]
/-- A list's part, reckoned out. -/
def getL {α : Type} (l : List α) (n : Nat) : Option α := List.rec (motive := fun _ => Nat → Option α) (fun _ => none) (fun a _ ih n => Nat.rec (motive := fun _ => Option α) (some a) (fun m _ => ih m) n) l n
theorem getL_eq {α : Type} : ∀ (l : List α) (n : Nat), getL l n = l[n]?
  | [], _ => rfl
  | _ :: _, 0 => rfl
  | a :: l, n + 1 => by show getL l n = _; rw [getL_eq l n]; rfl
/-- The objects with one set, with one more: reckoned out. -/
def setC {β : Type} (H : SH) (n : Nat) (o : SO) (f : SH → β) : β :=
  List.rec (motive := fun _ => Nat → (SH → β) → β) (fun _ f => f []) (fun a t ih n f => Nat.rec (motive := fun _ => β) (f (o :: t)) (fun m _ => ih m fun t' => f (a :: t')) n) H n f
theorem setC_eq {β : Type} (o : SO) : ∀ (H : SH) (n : Nat) (f : SH → β), setC H n o f = f (H.set n o)
  | [], _, _ => rfl
  | _ :: _, 0, _ => rfl
  | a :: H, n + 1, f => setC_eq o H n fun t' => f (a :: t')
def pushC {β : Type} (H : SH) (o : SO) (f : SH → β) : β :=
  List.rec (motive := fun _ => (SH → β) → β) (fun f => f [o]) (fun a _ ih f => ih fun t' => f (a :: t')) H f
theorem pushC_eq {β : Type} (o : SO) : ∀ (H : SH) (f : SH → β), pushC H o f = f (H ++ [o])
  | [], _ => rfl
  | a :: H, f => pushC_eq o H fun t' => f (a :: t')
def takeL (n : Nat) (H : SH) : SH := List.rec (motive := fun _ => Nat → SH) (fun _ => []) (fun a _ ih n => Nat.rec (motive := fun _ => SH) [] (fun m _ => a :: ih m) n) H n
theorem takeL_eq : ∀ (n : Nat) (H : SH), takeL n H = H.take n
  | 0, [] => rfl
  | n + 1, [] => rfl
  | 0, a :: H => rfl
  | n + 1, a :: H => by show a :: takeL n H = _; rw [takeL_eq n H]; rfl
/-- Are leaves unknown? (the first object says it) -/
def isSym : SH → Bool
  | .sym :: _ => true
  | _ => false
/-- The cells' list alone, reckoned out. -/
def thinSL {β : Type} (l : List SV) (f : List SV → β) : β := spine l f
def thinO {β : Type} : SO → (SO → β) → β
  | .cells cs e, f => spine cs fun cs' => f (.cells cs' e)
  | .pre sz cs e, f => spine cs fun cs' => f (.pre sz cs' e)
  | o, f => f o
theorem thinO_eq {β : Type} (o : SO) (f : SO → β) : thinO o f = f o := by cases o <;> simp only [thinO, spine_eq]
def forceOH {β : Type} (H : SH) (o : SO) (f : SO → β) : β := match isSym H with | true => thinO o f | false => forceO o f
theorem forceOH_eq {β : Type} (H : SH) (o : SO) (f : SO → β) : forceOH H o f = f o := by unfold forceOH; split <;> simp only [thinO_eq, forceO_eq]
def thinS {β : Type} : SV → (SV → β) → β
  | .ptr a b, f => forceN a fun a' => f (.ptr a' b)
  | .slice a b c d, f => forceN a fun a' => f (.slice a' b c d)
  | .slc a b c d, f => forceN a fun a' => f (.slc a' b c d)
  | .map a, f => forceN a fun a' => f (.map a')
  | s, f => f s
theorem thinS_eq {β : Type} (s : SV) (f : SV → β) : thinS s f = f s := by cases s <;> simp only [thinS, forceN_eq]
def forceSH {β : Type} (H : SH) (s : SV) (f : SV → β) : β := match isSym H with | true => thinS s f | false => forceS s f
theorem forceSH_eq {β : Type} (H : SH) (s : SV) (f : SV → β) : forceSH H s f = f s := by unfold forceSH; split <;> simp only [thinS_eq, forceS_eq]
def setK {β : Type} (H : SH) (n : Nat) (o : SO) (f : SH → β) : β := forceOH H o fun o' => setC H n o' f
theorem setK_eq {β : Type} (H : SH) (n : Nat) (o : SO) (f : SH → β) : setK H n o f = f (H.set n o) := by rw [setK, forceOH_eq, setC_eq]
def pushK {β : Type} (H : SH) (o : SO) (f : SH → β) : β := forceOH H o fun o' => pushC H o' f
theorem pushK_eq {β : Type} (H : SH) (o : SO) (f : SH → β) : pushK H o f = f (H ++ [o]) := by rw [pushK, forceOH_eq, pushC_eq]
def bndO (n : Nat) : SO → Bool
  | .dead => true
  | .cells cs _ => bndL n cs
  | .pre _ cs _ => bndL n cs
  | .map es _ => es.all fun p => bnd n p.1 && bnd n p.2.1
  | .sym => true
  | .abs _ => true
theorem denO_bnd {σ σ' : Nm} {n m : Nat} (h : ∀ m, m < n → σ' m = σ m) (hm : m < n) : ∀ (o : SO), bndO n o = true → denO σ' m o = denO σ m o
  | .dead, _ => rfl
  | .cells cs e, hb => by simp only [bndO] at hb; simp only [denO, denL_bnd h cs hb, h m hm]
  | .pre sz cs e, hb => by simp only [bndO] at hb; simp only [denO, denL_bnd h cs hb, h m hm]
  | .map es c, hb => by
    simp only [bndO, List.all_eq_true, Bool.and_eq_true] at hb
    have : denM σ' es = denM σ es := by
      unfold denM
      refine List.map_congr_left fun p hp => ?_
      rw [den_bnd h _ (hb p hp).1, den_bnd h _ (hb p hp).2]
    simp only [denO, this, h m hm]
  | .sym, _ => rfl
  | .abs d, _ => by simp only [denO, h m hm]
def mxO : SO → Nat
  | .cells cs _ => mxL cs
  | .pre _ cs _ => mxL cs
  | .map es _ => List.rec (motive := fun _ => Nat) 0 (fun p _ ih => mxN (mxN (mxV p.1) (mxV p.2.1)) ih) es
  | _ => 0
theorem mxO_bnd {n : Nat} : ∀ (o : SO), mxO o ≤ n → bndO n o = true
  | .dead, _ => rfl
  | .cells cs _, h => mxL_bnd cs h
  | .pre _ cs _, h => mxL_bnd cs h
  | .sym, _ => rfl
  | .abs _, _ => rfl
  | .map es c, h => by
    simp only [bndO, List.all_eq_true, Bool.and_eq_true]
    have key : ∀ es : List (SV × SV × Nat), mxO (.map es c) ≤ n → ∀ p ∈ es, bnd n p.1 = true ∧ bnd n p.2.1 = true := by
      intro es
      induction es with
      | nil => intro _ p hp; cases hp
      | cons q es ih =>
        intro h p hp
        have h' : mxN (mxN (mxV q.1) (mxV q.2.1)) (mxO (.map es c)) ≤ n := h
        obtain ⟨h1, h2⟩ := mxN_le h'
        rcases List.mem_cons.1 hp with rfl | hp
        · exact ⟨mxV_bnd _ (mxN_le h1).1, mxV_bnd _ (mxN_le h1).2⟩
        · exact ih h2 p hp
    exact key es h
def bndH (n : Nat) (H : SH) : Bool := Nat.ble (lenL H) n && allR (fun o => Nat.ble (mxO o) n) H
theorem denH_bnd {σ σ' : Nm} {n : Nat} (h : ∀ m, m < n → σ' m = σ m) {H : SH} (hb : bndH n H = true) : denH σ' H = denH σ H := by
  simp only [bndH, lenL_eq, Bool.and_eq_true, Nat.ble_eq, allR_iff] at hb
  refine List.ext_getElem? fun m => ?_
  rw [denH_get, denH_get]
  cases ho : H[m]? with
  | none => rfl
  | some o =>
    have hm := (List.getElem?_eq_some_iff.1 ho).1
    rw [Option.map_some, Option.map_some, denO_bnd h (by omega) o (mxO_bnd o (hb.2 o (List.mem_of_getElem? ho)))]
/-- Names of what is there, and of what comes later, keep their blocks. -/
def agree (h h2 : Nat) (σ σ' : Nm) : Prop := ∀ n, (n < h ∨ h2 ≤ n) → σ' n = σ n
theorem agree.refl (h : Nat) (σ : Nm) : agree h h σ σ := fun _ _ => rfl
theorem agree.trans {a b c : Nat} {σ σ' σ'' : Nm} (h : agree a b σ σ') (g : agree b c σ' σ'') (hab : a ≤ b) (hbc : b ≤ c) : agree a c σ σ'' := fun n hn => by
  rw [g n (by omega), h n (by omega)]
theorem agree.lt {a b : Nat} {σ σ' : Nm} (h : agree a b σ σ') : ∀ m, m < a → σ' m = σ m := fun m hm => h m (.inl hm)
def upd (σ : Nm) (n : Nat) (p : Nat × Nat) : Nm := fun m => if m = n then p else σ m
theorem agree_upd (σ : Nm) (n : Nat) (p : Nat × Nat) : agree n (n + 1) σ (upd σ n p) := fun m hm => by unfold upd; rw [if_neg (by omega)]
@[simp] theorem upd_self (σ : Nm) (n : Nat) (p : Nat × Nat) : upd σ n p n = p := if_pos rfl
end Go.Proofs.YtonmkjcilepdcaaGreatDoor
end
