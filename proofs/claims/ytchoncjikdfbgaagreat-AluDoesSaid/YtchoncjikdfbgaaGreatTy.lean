import Derived.Test.YtchoncjikdfbgaaGreatNums
import Derived.Test.YtchoncjikdfbgaaGreatProg
/- What the translation says of its types, and which of its functions have a text. -/
namespace Go.Proofs.YtchoncjikdfbgaaGreat
set_option maxRecDepth 100000
def tyTab : List (Nat × TypeDesc) := [(2, .int .i64), (3, .int .i64), (4, .bool), (5, .int .u8), (6, .int .u8), (9, .string), (10, .string), (11, .string), (12, .int .u64), (15, .pointer 91), (16, .pointer 94), (17, .pointer 104), (21, .int .i32), (22, .int .u64), (23, .array 4 22), (24, .array 4 22), (33, .array 4 22), (35, .array 32 3), (36, .array 32 3), (52, .slice 3), (53, .slice 3), (59, .array 256 3), (66, .int .u64), (67, .array 8 22), (69, .slice 22), (83, .array 32 5), (92, .array 0 16), (96, .int .u32), (97, .int .u8), (98, .int .u8), (100, .pointer 5), (101, .int .i32), (102, .int .i32)]
theorem tyTab_all : ∀ p ∈ tyTab, Tryz.prog.underlying p.1 = some p.2 := by
  unfold tyTab
  intro p hp
  simp only [List.mem_cons, List.not_mem_nil, or_false] at hp
  rcases hp with rfl | rfl | rfl | rfl | rfl | rfl | rfl | rfl | rfl | rfl | rfl | rfl | rfl | rfl | rfl | rfl | rfl | rfl | rfl | rfl | rfl | rfl | rfl | rfl | rfl | rfl | rfl | rfl | rfl | rfl | rfl | rfl | rfl
  all_goals kernel_rfl
theorem und {t : Nat} {d : TypeDesc} (h : tabGet t tyTab = some d) : Tryz.prog.underlying t = some d := tyTab_all (t, d) (tabGet_mem h)
def szTab : List (Nat × Nat) := [(2, 1), (3, 1), (4, 1), (5, 1), (6, 1), (9, 1), (10, 1), (11, 1), (12, 1), (15, 1), (16, 1), (17, 1), (21, 1), (22, 1), (23, 4), (24, 4), (33, 4), (35, 32), (36, 32), (52, 1), (53, 1), (59, 256), (66, 1), (67, 8), (69, 1), (83, 32), (92, 0), (96, 1), (97, 1), (98, 1), (100, 1), (101, 1), (102, 1)]
theorem szTab_all : ∀ p ∈ szTab, szOf Tryz.prog p.1 = some p.2 := by
  unfold szTab
  intro p hp
  simp only [List.mem_cons, List.not_mem_nil, or_false] at hp
  rcases hp with rfl | rfl | rfl | rfl | rfl | rfl | rfl | rfl | rfl | rfl | rfl | rfl | rfl | rfl | rfl | rfl | rfl | rfl | rfl | rfl | rfl | rfl | rfl | rfl | rfl | rfl | rfl | rfl | rfl | rfl | rfl | rfl | rfl
  all_goals kernel_rfl
theorem siz {t : Nat} {d : Nat} (h : tabGet t szTab = some d) : szOf Tryz.prog t = some d := szTab_all (t, d) (tabGet_mem h)
def byTab : List (Nat × Nat) := [(2, 8), (3, 8), (4, 1), (5, 1), (6, 1), (9, 16), (10, 16), (11, 16), (12, 8), (15, 8), (16, 8), (17, 8), (21, 4), (22, 8), (23, 32), (24, 32), (33, 32), (35, 256), (36, 256), (52, 24), (53, 24), (59, 2048), (66, 8), (67, 64), (69, 24), (83, 32), (92, 0), (96, 4), (97, 1), (98, 1), (100, 8), (101, 4), (102, 4)]
theorem byTab_all : ∀ p ∈ byTab, bytesOf Tryz.prog p.1 = some p.2 := by
  unfold byTab
  intro p hp
  simp only [List.mem_cons, List.not_mem_nil, or_false] at hp
  rcases hp with rfl | rfl | rfl | rfl | rfl | rfl | rfl | rfl | rfl | rfl | rfl | rfl | rfl | rfl | rfl | rfl | rfl | rfl | rfl | rfl | rfl | rfl | rfl | rfl | rfl | rfl | rfl | rfl | rfl | rfl | rfl | rfl | rfl
  all_goals kernel_rfl
theorem byt {t : Nat} {d : Nat} (h : tabGet t byTab = some d) : bytesOf Tryz.prog t = some d := byTab_all (t, d) (tabGet_mem h)
def zeTab : List (Nat × Value) := [(2, .int .i64 0), (3, .int .i64 0), (4, .bool false), (5, .int .u8 0), (6, .int .u8 0), (9, .string ⟨#[]⟩), (10, .string ⟨#[]⟩), (11, .string ⟨#[]⟩), (12, .int .u64 0), (21, .int .i32 0), (22, .int .u64 0), (23, .agg (ints .u64 (List.replicate 4 0))), (24, .agg (ints .u64 (List.replicate 4 0))), (33, .agg (ints .u64 (List.replicate 4 0))), (35, .agg (ints .i64 (List.replicate 32 0))), (36, .agg (ints .i64 (List.replicate 32 0))), (52, .slice none 0 0), (53, .slice none 0 0), (59, .agg (ints .i64 (List.replicate 256 0))), (66, .int .u64 0), (67, .agg (ints .u64 (List.replicate 8 0))), (69, .slice none 0 0), (83, .agg (ints .u8 (List.replicate 32 0))), (96, .int .u32 0), (97, .int .u8 0), (98, .int .u8 0), (101, .int .i32 0), (102, .int .i32 0)]
theorem zeTab_all : ∀ p ∈ zeTab, zeroOf Tryz.prog p.1 = some p.2 := by
  unfold zeTab
  intro p hp
  simp only [List.mem_cons, List.not_mem_nil, or_false] at hp
  rcases hp with rfl | rfl | rfl | rfl | rfl | rfl | rfl | rfl | rfl | rfl | rfl | rfl | rfl | rfl | rfl | rfl | rfl | rfl | rfl | rfl | rfl | rfl | rfl | rfl | rfl | rfl | rfl | rfl
  all_goals kernel_rfl
theorem zer {t : Nat} {d : Value} (h : tabGet t zeTab = some d) : zeroOf Tryz.prog t = some d := zeTab_all (t, d) (tabGet_mem h)
def eqTys : List Nat := [23, 24, 33, 35, 36, 59, 67, 83]
theorem eqTys_all : ∀ t ∈ eqTys, Tryz.prog.eqGuardType Tryz.prog.depth t = false := by
  unfold eqTys
  intro t ht
  simp only [List.mem_cons, List.not_mem_nil, or_false] at ht
  rcases ht with rfl | rfl | rfl | rfl | rfl | rfl | rfl | rfl
  all_goals kernel_rfl
theorem eqg {t : Nat} (h : eqTys.contains t = true) : Tryz.prog.eqGuardType Tryz.prog.depth t = false := eqTys_all t (by simpa using h)
def bodies : List Nat := [2, 3, 4, 5, 6, 7, 8, 9, 10, 11, 12, 13, 14, 15, 16, 17, 18, 19, 20, 21, 22, 23, 24, 25, 26, 27, 28, 29, 30, 31, 32, 33, 34, 35, 36, 37, 38, 39, 40, 41, 42, 43, 44, 45, 46, 47, 48, 49, 50, 51, 52, 53, 54, 55, 56, 57, 58, 59, 60, 61, 62, 63, 64, 66, 67, 68, 69, 70, 71, 72, 73, 74, 75, 76, 77, 78, 79, 80, 81, 82, 83, 84, 85, 86, 87, 88, 89, 90, 91, 92, 93, 94, 95, 96, 98, 99, 100, 101, 102, 103, 104, 105]
theorem bodies_all : bodies.all (hasBody Tryz.prog) = true := by kernel_rfl
theorem bod {f : Nat} (h : bodies.contains f = true) : hasBody Tryz.prog f = true := List.all_eq_true.1 bodies_all f (by simpa using h)

end Go.Proofs.YtchoncjikdfbgaaGreat
