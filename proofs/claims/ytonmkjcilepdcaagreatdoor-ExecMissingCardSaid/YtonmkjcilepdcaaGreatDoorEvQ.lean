import Derived.Test.YtonmkjcilepdcaaGreatDoorEvH
/- The evaluator: the same value. -/
noncomputable section
namespace Go.Proofs.YtonmkjcilepdcaaGreatDoor
open Go.RowKit
set_option maxRecDepth 20000
set_option maxHeartbeats 4000000

/-! ### the same value -/
def listEq {α : Type} (f : α → α → Bool) : List α → List α → Bool
  | [], [] => true
  | a :: l, b :: m => f a b && listEq f l m
  | _, _ => false
theorem listEq_eq {α : Type} {f : α → α → Bool} : ∀ {l m : List α}, (∀ a b, f a b = true → a = b) → listEq f l m = true → l = m
  | [], [], _, _ => rfl
  | a :: l, b :: m, h, e => by
    simp only [listEq, Bool.and_eq_true] at e
    rw [h a b e.1, listEq_eq h e.2]
  | [], _ :: _, _, e => by simp [listEq] at e
  | _ :: _, [], _, e => by simp [listEq] at e
def eqV : Nat → Value → Value → Bool
  | n + 1, x, y => match x, y with
    | .bool a, .bool b => a == b
    | .int k a, .int k' b => decide (k = k') && decide (a = b)
    | .string a, .string b => listEq (fun (x y : UInt8) => decide (x = y)) a.data.toList b.data.toList
    | .pointer none, .pointer none => true
    | .slice none a b, .slice none c d => Nat.beq a c && Nat.beq b d
    | .map none, .map none => true
    | .chan none, .chan none => true
    | .nilFunc, .nilFunc => true
    | .nilIface, .nilIface => true
    | .func (.func f) a b, .func (.func g) c d => Nat.beq f g && listEq (eqV n) a.toList c.toList && listEq (eqV n) b.toList d.toList
    | .iface t v, .iface u w => Nat.beq t u && eqV n v w
    | .agg a, .agg b => listEq (eqV n) a.toList b.toList
    | .tuple a, .tuple b => listEq (eqV n) a.toList b.toList
    | _, _ => false
  | 0, _, _ => false
theorem eqV_eq : ∀ (n : Nat) (x y : Value), eqV n x y = true → x = y
  | 0, _, _, h => by simp [eqV] at h
  | n + 1, x, y, h => by
    have ih := eqV_eq n
    unfold eqV at h
    split at h
    · rw [eq_of_beq h]
    · simp only [Bool.and_eq_true, decide_eq_true_eq] at h
      rw [h.1, h.2]
    · rename_i a b
      have := listEq_eq (fun a b h => of_decide_eq_true h) h
      have h2 : a.data = b.data := Array.toList_inj.1 this
      cases a; cases b
      simp only at h2
      rw [h2]
    · rfl
    · simp only [Bool.and_eq_true, Nat.beq_eq] at h
      rw [h.1, h.2]
    · rfl
    · rfl
    · rfl
    · rfl
    · simp only [Bool.and_eq_true, Nat.beq_eq] at h
      rw [h.1.1, Array.toList_inj.1 (listEq_eq ih h.1.2), Array.toList_inj.1 (listEq_eq ih h.2)]
    · simp only [Bool.and_eq_true, Nat.beq_eq] at h
      rw [h.1, ih _ _ h.2]
    · rw [Array.toList_inj.1 (listEq_eq ih h)]
    · rw [Array.toList_inj.1 (listEq_eq ih h)]
    · cases h
mutual
def eqS : SV → SV → Bool
  | .k a, .k b => eqV 100 a b
  | .ptr a b, .ptr c d => Nat.beq a c && Nat.beq b d
  | .slice a b c d, .slice a' b' c' d' => Nat.beq a a' && Nat.beq b b' && Nat.beq c c' && Nat.beq d d'
  | .slc a b c d, .slc a' b' c' d' => Nat.beq a a' && Nat.beq b b' && Nat.beq c c' && Nat.beq d d'
  | .map a, .map b => Nat.beq a b
  | .func f a, .func g b => Nat.beq f g && eqSL a b
  | .iface t a, .iface u b => Nat.beq t u && eqS a b
  | .agg a, .agg b => eqSL a b
  | .tup a, .tup b => eqSL a b
  | _, _ => false
def eqSL : List SV → List SV → Bool
  | [], [] => true
  | a :: l, b :: m => eqS a b && eqSL l m
  | _, _ => false
end
mutual
theorem eqS_eq : ∀ (a b : SV), eqS a b = true → a = b
  | .k a, .k b, h => by simp only [eqS] at h; rw [eqV_eq _ _ _ h]
  | .ptr .., .ptr .., h => by simp only [eqS, Bool.and_eq_true, Nat.beq_eq] at h; rw [h.1, h.2]
  | .slice .., .slice .., h => by simp only [eqS, Bool.and_eq_true, Nat.beq_eq] at h; rw [h.1.1.1, h.1.1.2, h.1.2, h.2]
  | .slc .., .slc .., h => by simp only [eqS, Bool.and_eq_true, Nat.beq_eq] at h; rw [h.1.1.1, h.1.1.2, h.1.2, h.2]
  | .map .., .map .., h => by simp only [eqS, Nat.beq_eq] at h; rw [h]
  | .func f a, .func g b, h => by simp only [eqS, Bool.and_eq_true, Nat.beq_eq] at h; rw [h.1, eqSL_eq a b h.2]
  | .iface t a, .iface u b, h => by simp only [eqS, Bool.and_eq_true, Nat.beq_eq] at h; rw [h.1, eqS_eq a b h.2]
  | .agg a, .agg b, h => by simp only [eqS] at h; rw [eqSL_eq a b h]
  | .tup a, .tup b, h => by simp only [eqS] at h; rw [eqSL_eq a b h]
  | .k .., .ptr .., h | .k .., .slice .., h | .k .., .slc .., h | .k .., .map .., h | .k .., .func .., h | .k .., .iface .., h | .k .., .agg .., h | .k .., .tup .., h => by simp [eqS] at h
  | .ptr .., .k .., h | .ptr .., .slice .., h | .ptr .., .slc .., h | .ptr .., .map .., h | .ptr .., .func .., h | .ptr .., .iface .., h | .ptr .., .agg .., h | .ptr .., .tup .., h => by simp [eqS] at h
  | .slice .., .k .., h | .slice .., .ptr .., h | .slice .., .slc .., h | .slice .., .map .., h | .slice .., .func .., h | .slice .., .iface .., h | .slice .., .agg .., h | .slice .., .tup .., h => by simp [eqS] at h
  | .slc .., .k .., h | .slc .., .ptr .., h | .slc .., .slice .., h | .slc .., .map .., h | .slc .., .func .., h | .slc .., .iface .., h | .slc .., .agg .., h | .slc .., .tup .., h => by simp [eqS] at h
  | .map .., .k .., h | .map .., .ptr .., h | .map .., .slice .., h | .map .., .slc .., h | .map .., .func .., h | .map .., .iface .., h | .map .., .agg .., h | .map .., .tup .., h => by simp [eqS] at h
  | .func .., .k .., h | .func .., .ptr .., h | .func .., .slice .., h | .func .., .slc .., h | .func .., .map .., h | .func .., .iface .., h | .func .., .agg .., h | .func .., .tup .., h => by simp [eqS] at h
  | .iface .., .k .., h | .iface .., .ptr .., h | .iface .., .slice .., h | .iface .., .slc .., h | .iface .., .map .., h | .iface .., .func .., h | .iface .., .agg .., h | .iface .., .tup .., h => by simp [eqS] at h
  | .agg .., .k .., h | .agg .., .ptr .., h | .agg .., .slice .., h | .agg .., .slc .., h | .agg .., .map .., h | .agg .., .func .., h | .agg .., .iface .., h | .agg .., .tup .., h => by simp [eqS] at h
  | .tup .., .k .., h | .tup .., .ptr .., h | .tup .., .slice .., h | .tup .., .slc .., h | .tup .., .map .., h | .tup .., .func .., h | .tup .., .iface .., h | .tup .., .agg .., h => by simp [eqS] at h
theorem eqSL_eq : ∀ (a b : List SV), eqSL a b = true → a = b
  | [], [], _ => rfl
  | a :: l, b :: m, h => by simp only [eqSL, Bool.and_eq_true] at h; rw [eqS_eq a b h.1, eqSL_eq l m h.2]
  | [], _ :: _, h => by simp [eqSL] at h
  | _ :: _, [], h => by simp [eqSL] at h
end
end Go.Proofs.YtonmkjcilepdcaaGreatDoor
end
