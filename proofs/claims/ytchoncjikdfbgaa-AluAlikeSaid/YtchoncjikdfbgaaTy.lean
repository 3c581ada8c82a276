import Derived.Test.YtchoncjikdfbgaaNums
import Derived.Test.YtchoncjikdfbgaaProg
/- What the translation says of its types, and which of its functions have a text. -/
namespace Go.Proofs.Ytchoncjikdfbgaa
set_option maxRecDepth 100000
def tyTab : List (Nat × TypeDesc) := [(2, .int .i64), (3, .int .i64), (4, .bool), (5, .int .u8), (6, .int .u8), (9, .string), (10, .string), (11, .string), (12, .int .u64), (15, .pointer 127), (16, .pointer 130), (17, .pointer 138), (21, .int .i32), (22, .int .u64), (23, .array 4 22), (24, .array 4 22), (25, .slice 5), (27, .array 32 5), (29, .array 32 3), (30, .array 32 3), (39, .int .u64), (46, .int .i64), (52, .slice 3), (53, .slice 3), (79, .array 256 3), (83, .slice 87), (84, .slice 87), (87, .int .u32), (89, .slice 25), (94, .array 3 24), (98, .array 3 22), (102, .array 4 22), (112, .array 8 22), (113, .slice 22), (128, .array 0 16), (131, .int .u8), (132, .int .u8), (134, .pointer 5), (135, .int .i32), (136, .int .i32)]
theorem tyTab_all : ∀ p ∈ tyTab, Try.prog.underlying p.1 = some p.2 := by
  unfold tyTab
  intro p hp
  simp only [List.mem_cons, List.not_mem_nil, or_false] at hp
  rcases hp with rfl | rfl | rfl | rfl | rfl | rfl | rfl | rfl | rfl | rfl | rfl | rfl | rfl | rfl | rfl | rfl | rfl | rfl | rfl | rfl | rfl | rfl | rfl | rfl | rfl | rfl | rfl | rfl | rfl | rfl | rfl | rfl | rfl | rfl | rfl | rfl | rfl | rfl | rfl | rfl
  all_goals kernel_rfl
theorem und {t : Nat} {d : TypeDesc} (h : tabGet t tyTab = some d) : Try.prog.underlying t = some d := tyTab_all (t, d) (tabGet_mem h)
def szTab : List (Nat × Nat) := [(2, 1), (3, 1), (4, 1), (5, 1), (6, 1), (9, 1), (10, 1), (11, 1), (12, 1), (15, 1), (16, 1), (17, 1), (21, 1), (22, 1), (23, 4), (24, 4), (25, 1), (27, 32), (29, 32), (30, 32), (39, 1), (46, 1), (52, 1), (53, 1), (79, 256), (83, 1), (84, 1), (87, 1), (89, 1), (94, 12), (98, 3), (102, 4), (112, 8), (113, 1), (128, 0), (131, 1), (132, 1), (134, 1), (135, 1), (136, 1)]
theorem szTab_all : ∀ p ∈ szTab, szOf Try.prog p.1 = some p.2 := by
  unfold szTab
  intro p hp
  simp only [List.mem_cons, List.not_mem_nil, or_false] at hp
  rcases hp with rfl | rfl | rfl | rfl | rfl | rfl | rfl | rfl | rfl | rfl | rfl | rfl | rfl | rfl | rfl | rfl | rfl | rfl | rfl | rfl | rfl | rfl | rfl | rfl | rfl | rfl | rfl | rfl | rfl | rfl | rfl | rfl | rfl | rfl | rfl | rfl | rfl | rfl | rfl | rfl
  all_goals kernel_rfl
theorem siz {t : Nat} {d : Nat} (h : tabGet t szTab = some d) : szOf Try.prog t = some d := szTab_all (t, d) (tabGet_mem h)
def byTab : List (Nat × Nat) := [(2, 8), (3, 8), (4, 1), (5, 1), (6, 1), (9, 16), (10, 16), (11, 16), (12, 8), (15, 8), (16, 8), (17, 8), (21, 4), (22, 8), (23, 32), (24, 32), (25, 24), (27, 32), (29, 256), (30, 256), (39, 8), (46, 8), (52, 24), (53, 24), (79, 2048), (83, 24), (84, 24), (87, 4), (89, 24), (94, 96), (98, 24), (102, 32), (112, 64), (113, 24), (128, 0), (131, 1), (132, 1), (134, 8), (135, 4), (136, 4)]
theorem byTab_all : ∀ p ∈ byTab, bytesOf Try.prog p.1 = some p.2 := by
  unfold byTab
  intro p hp
  simp only [List.mem_cons, List.not_mem_nil, or_false] at hp
  rcases hp with rfl | rfl | rfl | rfl | rfl | rfl | rfl | rfl | rfl | rfl | rfl | rfl | rfl | rfl | rfl | rfl | rfl | rfl | rfl | rfl | rfl | rfl | rfl | rfl | rfl | rfl | rfl | rfl | rfl | rfl | rfl | rfl | rfl | rfl | rfl | rfl | rfl | rfl | rfl | rfl
  all_goals kernel_rfl
theorem byt {t : Nat} {d : Nat} (h : tabGet t byTab = some d) : bytesOf Try.prog t = some d := byTab_all (t, d) (tabGet_mem h)
def zeTab : List (Nat × Value) := [(2, .int .i64 0), (3, .int .i64 0), (4, .bool false), (5, .int .u8 0), (6, .int .u8 0), (9, .string ⟨#[]⟩), (10, .string ⟨#[]⟩), (11, .string ⟨#[]⟩), (12, .int .u64 0), (21, .int .i32 0), (22, .int .u64 0), (23, .agg (ints .u64 (List.replicate 4 0))), (24, .agg (ints .u64 (List.replicate 4 0))), (25, .slice none 0 0), (27, .agg (ints .u8 (List.replicate 32 0))), (29, .agg (ints .i64 (List.replicate 32 0))), (30, .agg (ints .i64 (List.replicate 32 0))), (39, .int .u64 0), (46, .int .i64 0), (52, .slice none 0 0), (53, .slice none 0 0), (79, .agg (ints .i64 (List.replicate 256 0))), (83, .slice none 0 0), (84, .slice none 0 0), (87, .int .u32 0), (89, .slice none 0 0), (94, .agg (ints .u64 (List.replicate 12 0))), (98, .agg (ints .u64 (List.replicate 3 0))), (102, .agg (ints .u64 (List.replicate 4 0))), (112, .agg (ints .u64 (List.replicate 8 0))), (113, .slice none 0 0), (131, .int .u8 0), (132, .int .u8 0), (135, .int .i32 0), (136, .int .i32 0)]
theorem zeTab_all : ∀ p ∈ zeTab, zeroOf Try.prog p.1 = some p.2 := by
  unfold zeTab
  intro p hp
  simp only [List.mem_cons, List.not_mem_nil, or_false] at hp
  rcases hp with rfl | rfl | rfl | rfl | rfl | rfl | rfl | rfl | rfl | rfl | rfl | rfl | rfl | rfl | rfl | rfl | rfl | rfl | rfl | rfl | rfl | rfl | rfl | rfl | rfl | rfl | rfl | rfl | rfl | rfl | rfl | rfl | rfl | rfl | rfl
  all_goals kernel_rfl
theorem zer {t : Nat} {d : Value} (h : tabGet t zeTab = some d) : zeroOf Try.prog t = some d := zeTab_all (t, d) (tabGet_mem h)
def eqTys : List Nat := [23, 24, 27, 29, 30, 79, 98, 102, 112]
theorem eqTys_all : ∀ t ∈ eqTys, Try.prog.eqGuardType Try.prog.depth t = false := by
  unfold eqTys
  intro t ht
  simp only [List.mem_cons, List.not_mem_nil, or_false] at ht
  rcases ht with rfl | rfl | rfl | rfl | rfl | rfl | rfl | rfl | rfl
  all_goals kernel_rfl
theorem eqg {t : Nat} (h : eqTys.contains t = true) : Try.prog.eqGuardType Try.prog.depth t = false := eqTys_all t (by simpa using h)
def bodies : List Nat := [2, 3, 4, 5, 6, 7, 8, 9, 10, 11, 12, 13, 14, 15, 16, 17, 18, 19, 20, 21, 22, 23, 24, 25, 26, 27, 28, 29, 30, 31, 32, 33, 34, 35, 36, 37, 38, 39, 40, 41, 42, 43, 44, 45, 46, 47, 48, 49, 50, 51, 52, 53, 54, 55, 56, 57, 58, 59, 60, 61, 62, 63, 64, 65, 66, 67, 68, 69, 70, 71, 72, 73, 74, 75, 76, 77, 78, 79, 80, 81, 82, 83, 84, 85, 87, 89, 90, 91, 92, 93, 94, 95, 96, 97, 98, 99, 100, 101, 102, 103, 104, 105, 106, 107, 108, 109, 110, 111, 112, 113, 114, 115, 116, 117, 118, 119, 120, 121, 122, 123, 124, 125, 126, 127, 128, 129, 130, 131, 132, 133]
theorem bodies_all : bodies.all (hasBody Try.prog) = true := by kernel_rfl
theorem bod {f : Nat} (h : bodies.contains f = true) : hasBody Try.prog f = true := List.all_eq_true.1 bodies_all f (by simpa using h)

end Go.Proofs.Ytchoncjikdfbgaa
