import Derived.Test.YtchoncjikdfbgaaDoorNums
import Derived.Test.YtchoncjikdfbgaaDoorProg
/- What the translation says of its types, and which of its functions have a text. -/
namespace Go.Proofs.YtchoncjikdfbgaaDoor
set_option maxRecDepth 100000
def tyTab : List (Nat × TypeDesc) := [(2, .int .i64), (3, .int .i64), (4, .bool), (5, .int .u8), (6, .int .u8), (9, .string), (10, .string), (11, .string), (12, .int .u64), (15, .pointer 123), (16, .pointer 126), (17, .pointer 134), (21, .int .i32), (22, .slice 5), (25, .int .u64), (36, .array 32 5), (37, .array 32 5), (40, .int .i64), (46, .array 4 25), (47, .array 4 25), (48, .array 3 47), (58, .slice 3), (59, .slice 3), (66, .int .u32), (67, .array 8 66), (69, .array 128 5), (70, .array 3 25), (72, .array 64 66), (81, .array 8 25), (82, .slice 25), (87, .int .u64), (88, .array 32 3), (89, .array 32 3), (95, .slice 66), (96, .slice 66), (124, .array 0 16), (127, .int .u8), (128, .int .u8), (130, .pointer 5), (131, .int .i32), (132, .int .i32)]
theorem tyTab_all : ∀ p ∈ tyTab, Tryd.prog.underlying p.1 = some p.2 := by
  unfold tyTab
  intro p hp
  simp only [List.mem_cons, List.not_mem_nil, or_false] at hp
  rcases hp with rfl | rfl | rfl | rfl | rfl | rfl | rfl | rfl | rfl | rfl | rfl | rfl | rfl | rfl | rfl | rfl | rfl | rfl | rfl | rfl | rfl | rfl | rfl | rfl | rfl | rfl | rfl | rfl | rfl | rfl | rfl | rfl | rfl | rfl | rfl | rfl | rfl | rfl | rfl | rfl | rfl
  all_goals kernel_rfl
theorem und {t : Nat} {d : TypeDesc} (h : tabGet t tyTab = some d) : Tryd.prog.underlying t = some d := tyTab_all (t, d) (tabGet_mem h)
def szTab : List (Nat × Nat) := [(2, 1), (3, 1), (4, 1), (5, 1), (6, 1), (9, 1), (10, 1), (11, 1), (12, 1), (15, 1), (16, 1), (17, 1), (21, 1), (22, 1), (25, 1), (36, 32), (37, 32), (40, 1), (46, 4), (47, 4), (48, 12), (58, 1), (59, 1), (66, 1), (67, 8), (69, 128), (70, 3), (72, 64), (81, 8), (82, 1), (87, 1), (88, 32), (89, 32), (95, 1), (96, 1), (124, 0), (127, 1), (128, 1), (130, 1), (131, 1), (132, 1)]
theorem szTab_all : ∀ p ∈ szTab, szOf Tryd.prog p.1 = some p.2 := by
  unfold szTab
  intro p hp
  simp only [List.mem_cons, List.not_mem_nil, or_false] at hp
  rcases hp with rfl | rfl | rfl | rfl | rfl | rfl | rfl | rfl | rfl | rfl | rfl | rfl | rfl | rfl | rfl | rfl | rfl | rfl | rfl | rfl | rfl | rfl | rfl | rfl | rfl | rfl | rfl | rfl | rfl | rfl | rfl | rfl | rfl | rfl | rfl | rfl | rfl | rfl | rfl | rfl | rfl
  all_goals kernel_rfl
theorem siz {t : Nat} {d : Nat} (h : tabGet t szTab = some d) : szOf Tryd.prog t = some d := szTab_all (t, d) (tabGet_mem h)
def byTab : List (Nat × Nat) := [(2, 8), (3, 8), (4, 1), (5, 1), (6, 1), (9, 16), (10, 16), (11, 16), (12, 8), (15, 8), (16, 8), (17, 8), (21, 4), (22, 24), (25, 8), (36, 32), (37, 32), (40, 8), (46, 32), (47, 32), (48, 96), (58, 24), (59, 24), (66, 4), (67, 32), (69, 128), (70, 24), (72, 256), (81, 64), (82, 24), (87, 8), (88, 256), (89, 256), (95, 24), (96, 24), (124, 0), (127, 1), (128, 1), (130, 8), (131, 4), (132, 4)]
theorem byTab_all : ∀ p ∈ byTab, bytesOf Tryd.prog p.1 = some p.2 := by
  unfold byTab
  intro p hp
  simp only [List.mem_cons, List.not_mem_nil, or_false] at hp
  rcases hp with rfl | rfl | rfl | rfl | rfl | rfl | rfl | rfl | rfl | rfl | rfl | rfl | rfl | rfl | rfl | rfl | rfl | rfl | rfl | rfl | rfl | rfl | rfl | rfl | rfl | rfl | rfl | rfl | rfl | rfl | rfl | rfl | rfl | rfl | rfl | rfl | rfl | rfl | rfl | rfl | rfl
  all_goals kernel_rfl
theorem byt {t : Nat} {d : Nat} (h : tabGet t byTab = some d) : bytesOf Tryd.prog t = some d := byTab_all (t, d) (tabGet_mem h)
def zeTab : List (Nat × Value) := [(2, .int .i64 0), (3, .int .i64 0), (4, .bool false), (5, .int .u8 0), (6, .int .u8 0), (9, .string ⟨#[]⟩), (10, .string ⟨#[]⟩), (11, .string ⟨#[]⟩), (12, .int .u64 0), (21, .int .i32 0), (22, .slice none 0 0), (25, .int .u64 0), (36, .agg (ints .u8 (List.replicate 32 0))), (37, .agg (ints .u8 (List.replicate 32 0))), (40, .int .i64 0), (46, .agg (ints .u64 (List.replicate 4 0))), (47, .agg (ints .u64 (List.replicate 4 0))), (48, .agg (ints .u64 (List.replicate 12 0))), (58, .slice none 0 0), (59, .slice none 0 0), (66, .int .u32 0), (67, .agg (ints .u32 (List.replicate 8 0))), (69, .agg (ints .u8 (List.replicate 128 0))), (70, .agg (ints .u64 (List.replicate 3 0))), (72, .agg (ints .u32 (List.replicate 64 0))), (81, .agg (ints .u64 (List.replicate 8 0))), (82, .slice none 0 0), (87, .int .u64 0), (88, .agg (ints .i64 (List.replicate 32 0))), (89, .agg (ints .i64 (List.replicate 32 0))), (95, .slice none 0 0), (96, .slice none 0 0), (127, .int .u8 0), (128, .int .u8 0), (131, .int .i32 0), (132, .int .i32 0)]
theorem zeTab_all : ∀ p ∈ zeTab, zeroOf Tryd.prog p.1 = some p.2 := by
  unfold zeTab
  intro p hp
  simp only [List.mem_cons, List.not_mem_nil, or_false] at hp
  rcases hp with rfl | rfl | rfl | rfl | rfl | rfl | rfl | rfl | rfl | rfl | rfl | rfl | rfl | rfl | rfl | rfl | rfl | rfl | rfl | rfl | rfl | rfl | rfl | rfl | rfl | rfl | rfl | rfl | rfl | rfl | rfl | rfl | rfl | rfl | rfl | rfl
  all_goals kernel_rfl
theorem zer {t : Nat} {d : Value} (h : tabGet t zeTab = some d) : zeroOf Tryd.prog t = some d := zeTab_all (t, d) (tabGet_mem h)
def eqTys : List Nat := [36, 37, 46, 47, 67, 69, 70, 72, 81, 88, 89]
theorem eqTys_all : ∀ t ∈ eqTys, Tryd.prog.eqGuardType Tryd.prog.depth t = false := by
  unfold eqTys
  intro t ht
  simp only [List.mem_cons, List.not_mem_nil, or_false] at ht
  rcases ht with rfl | rfl | rfl | rfl | rfl | rfl | rfl | rfl | rfl | rfl | rfl
  all_goals kernel_rfl
theorem eqg {t : Nat} (h : eqTys.contains t = true) : Tryd.prog.eqGuardType Tryd.prog.depth t = false := eqTys_all t (by simpa using h)
def bodies : List Nat := [2, 3, 4, 5, 6, 7, 8, 9, 10, 11, 12, 13, 14, 15, 16, 17, 18, 19, 20, 21, 22, 23, 24, 25, 26, 27, 28, 29, 30, 31, 32, 33, 34, 35, 36, 37, 38, 39, 40, 41, 42, 43, 44, 45, 47, 48, 49, 50, 51, 52, 53, 54, 55, 56, 57, 58, 59, 60, 61, 62, 63, 64, 65, 66, 67, 68, 69, 70, 71, 72, 73, 74, 75, 76, 77, 78, 79, 80, 82, 83, 84, 85, 107]
theorem bodies_all : bodies.all (hasBody Tryd.prog) = true := by kernel_rfl
theorem bod {f : Nat} (h : bodies.contains f = true) : hasBody Tryd.prog f = true := List.all_eq_true.1 bodies_all f (by simpa using h)

end Go.Proofs.YtchoncjikdfbgaaDoor
