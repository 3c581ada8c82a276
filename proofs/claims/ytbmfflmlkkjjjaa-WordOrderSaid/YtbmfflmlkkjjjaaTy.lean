import Derived.Test.YtbmfflmlkkjjjaaNums
import Derived.Test.YtbmfflmlkkjjjaaProg
/- What the translation says of its types, and which of its functions have a text. -/
namespace Go.Proofs.Ytbmfflmlkkjjjaa
set_option maxRecDepth 100000
def tyTab : List (Nat × TypeDesc) := [(2, .int .i64), (3, .int .i64), (4, .bool), (5, .int .u8), (6, .int .u8), (9, .string), (10, .string), (11, .string), (12, .int .u64), (15, .pointer 67), (16, .pointer 70), (17, .pointer 79), (21, .int .i32), (22, .int .u64), (23, .array 4 22), (24, .array 4 22), (27, .array 32 3), (28, .array 32 3), (33, .int .u64), (40, .slice 5), (41, .array 32 5), (61, .array 256 3), (68, .array 0 16), (71, .int .u32), (72, .int .u8), (73, .int .u8), (75, .pointer 5), (76, .int .i32), (77, .int .i32)]
theorem tyTab_all : ∀ p ∈ tyTab, Try.prog.underlying p.1 = some p.2 := by
  unfold tyTab
  intro p hp
  simp only [List.mem_cons, List.not_mem_nil, or_false] at hp
  rcases hp with rfl | rfl | rfl | rfl | rfl | rfl | rfl | rfl | rfl | rfl | rfl | rfl | rfl | rfl | rfl | rfl | rfl | rfl | rfl | rfl | rfl | rfl | rfl | rfl | rfl | rfl | rfl | rfl | rfl
  all_goals kernel_rfl
theorem und {t : Nat} {d : TypeDesc} (h : tabGet t tyTab = some d) : Try.prog.underlying t = some d := tyTab_all (t, d) (tabGet_mem h)
def szTab : List (Nat × Nat) := [(2, 1), (3, 1), (4, 1), (5, 1), (6, 1), (9, 1), (10, 1), (11, 1), (12, 1), (15, 1), (16, 1), (17, 1), (21, 1), (22, 1), (23, 4), (24, 4), (27, 32), (28, 32), (33, 1), (40, 1), (41, 32), (61, 256), (68, 0), (71, 1), (72, 1), (73, 1), (75, 1), (76, 1), (77, 1)]
theorem szTab_all : ∀ p ∈ szTab, szOf Try.prog p.1 = some p.2 := by
  unfold szTab
  intro p hp
  simp only [List.mem_cons, List.not_mem_nil, or_false] at hp
  rcases hp with rfl | rfl | rfl | rfl | rfl | rfl | rfl | rfl | rfl | rfl | rfl | rfl | rfl | rfl | rfl | rfl | rfl | rfl | rfl | rfl | rfl | rfl | rfl | rfl | rfl | rfl | rfl | rfl | rfl
  all_goals kernel_rfl
theorem siz {t : Nat} {d : Nat} (h : tabGet t szTab = some d) : szOf Try.prog t = some d := szTab_all (t, d) (tabGet_mem h)
def zeTab : List (Nat × Value) := [(2, .int .i64 0), (3, .int .i64 0), (4, .bool false), (5, .int .u8 0), (6, .int .u8 0), (9, .string ⟨#[]⟩), (10, .string ⟨#[]⟩), (11, .string ⟨#[]⟩), (12, .int .u64 0), (21, .int .i32 0), (22, .int .u64 0), (23, .agg (ints .u64 (List.replicate 4 0))), (24, .agg (ints .u64 (List.replicate 4 0))), (27, .agg (ints .i64 (List.replicate 32 0))), (28, .agg (ints .i64 (List.replicate 32 0))), (33, .int .u64 0), (40, .slice none 0 0), (41, .agg (ints .u8 (List.replicate 32 0))), (61, .agg (ints .i64 (List.replicate 256 0))), (71, .int .u32 0), (72, .int .u8 0), (73, .int .u8 0), (76, .int .i32 0), (77, .int .i32 0)]
theorem zeTab_all : ∀ p ∈ zeTab, zeroOf Try.prog p.1 = some p.2 := by
  unfold zeTab
  intro p hp
  simp only [List.mem_cons, List.not_mem_nil, or_false] at hp
  rcases hp with rfl | rfl | rfl | rfl | rfl | rfl | rfl | rfl | rfl | rfl | rfl | rfl | rfl | rfl | rfl | rfl | rfl | rfl | rfl | rfl | rfl | rfl | rfl | rfl
  all_goals kernel_rfl
theorem zer {t : Nat} {d : Value} (h : tabGet t zeTab = some d) : zeroOf Try.prog t = some d := zeTab_all (t, d) (tabGet_mem h)
def eqTys : List Nat := [23, 24, 27, 28, 41, 61]
theorem eqTys_all : ∀ t ∈ eqTys, Try.prog.eqGuardType Try.prog.depth t = false := by
  unfold eqTys
  intro t ht
  simp only [List.mem_cons, List.not_mem_nil, or_false] at ht
  rcases ht with rfl | rfl | rfl | rfl | rfl | rfl
  all_goals kernel_rfl
theorem eqg {t : Nat} (h : eqTys.contains t = true) : Try.prog.eqGuardType Try.prog.depth t = false := eqTys_all t (by simpa using h)
def bodies : List Nat := [2, 3, 4, 5, 6, 7, 8, 9, 10, 11, 12, 13, 14, 15, 16, 17, 18, 19, 20, 21, 22, 23, 24, 25, 26, 27, 28, 29, 30, 31, 32, 33, 34, 35, 36, 37, 38, 39, 40, 41, 42, 44, 45, 47, 48]
theorem bodies_all : bodies.all (hasBody Try.prog) = true := by kernel_rfl
theorem bod {f : Nat} (h : bodies.contains f = true) : hasBody Try.prog f = true := List.all_eq_true.1 bodies_all f (by simpa using h)

end Go.Proofs.Ytbmfflmlkkjjjaa
