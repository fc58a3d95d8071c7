/- The table of types, and the bodies. Printed by a program of mine (gen.py). -/
import Derived.Test.YtkboikcppljkeaaGreatGDERTy
import Derived.Test.YtkboikcppljkeaaGreatChecked
set_option linter.unusedVariables false
set_option linter.unusedSimpArgs false
set_option maxRecDepth 100000
namespace Go.Am
open Go Go.Proofs
def tis : List (Nat × Q1o) := [(25, ⟨.struct [(0, 3), (1, 22), (2, 22), (3, 23)], 4, 80, .agg [.int .i64 0, .nils, .nils, .nils]⟩),
  (37, ⟨.slice 22, 1, 24, .nils⟩),
  (40, ⟨.struct [(0, 3), (1, 3), (2, 22), (3, 38)], 4, 64, .agg [.int .i64 0, .int .i64 0, .nils, .nils]⟩),
  (4, ⟨.bool, 1, 1, .bool false⟩),
  (3, ⟨.int .i64, 1, 8, .int .i64 0⟩),
  (22, ⟨.slice 3, 1, 24, .nils⟩),
  (23, ⟨.slice 4, 1, 24, .nils⟩),
  (38, ⟨.slice 40, 1, 24, .nils⟩),
  (30, ⟨.struct [(0, 3), (1, 22), (2, 22), (3, 23)], 4, 80, .agg [.int .i64 0, .nils, .nils, .nils]⟩),
  (48, ⟨.struct [(0, 3), (1, 3), (2, 22), (3, 46)], 4, 64, .agg [.int .i64 0, .int .i64 0, .nils, .nils]⟩),
  (46, ⟨.slice 48, 1, 24, .nils⟩),
  (32, ⟨.slice 68, 1, 24, .nils⟩),
  (89, ⟨.struct [(0, 22), (1, 22), (2, 3), (3, 22)], 4, 80, .agg [.nils, .nils, .int .i64 0, .nils]⟩),
  (68, ⟨.struct [(0, 37), (1, 22), (2, 48), (6, 22), (7, 22)], 8, 160, .agg [.nils, .nils, .int .i64 0, .int .i64 0, .nils, .nils, .nils, .nils]⟩),
  (78, ⟨.pointer 82, 1, 8, .nilp⟩),
  (146, ⟨.struct [(0, 9), (1, 3), (2, 4), (3, 4)], 4, 32, .agg [.str ByteArray.empty, .int .i64 0, .bool false, .bool false]⟩),
  (9, ⟨.string, 1, 16, .str ByteArray.empty⟩),
  (152, ⟨.slice 146, 1, 24, .nils⟩),
  (103, ⟨.struct [(0, 30)], 4, 80, .agg [.int .i64 0, .nils, .nils, .nils]⟩),
  (82, ⟨.struct [(0, 22), (1, 22), (2, 80), (3, 3), (4, 22)], 5, 104, .agg [.nils, .nils, .nils, .int .i64 0, .nils]⟩),
  (80, ⟨.slice 78, 1, 24, .nils⟩),
  (134, ⟨.slice 37, 1, 24, .nils⟩)]
def TIx : Nat → Option Q1o := lk none (tis.map fun p => (p.1, some p.2))
theorem K2s : Q1u Tryz.prog 25 ⟨.struct [(0, 3), (1, 22), (2, 22), (3, 23)], 4, 80, .agg [.int .i64 0, .nils, .nils, .nils]⟩ := ⟨by kernel_rfl, by kernel_rfl, by kernel_rfl, by kernel_rfl⟩
theorem K2t : Q1u Tryz.prog 37 ⟨.slice 22, 1, 24, .nils⟩ := ⟨by kernel_rfl, by kernel_rfl, by kernel_rfl, by kernel_rfl⟩
theorem K2u : Q1u Tryz.prog 40 ⟨.struct [(0, 3), (1, 3), (2, 22), (3, 38)], 4, 64, .agg [.int .i64 0, .int .i64 0, .nils, .nils]⟩ := ⟨by kernel_rfl, by kernel_rfl, by kernel_rfl, by kernel_rfl⟩
theorem K2v : Q1u Tryz.prog 4 ⟨.bool, 1, 1, .bool false⟩ := ⟨by kernel_rfl, by kernel_rfl, by kernel_rfl, by kernel_rfl⟩
theorem K2w : Q1u Tryz.prog 3 ⟨.int .i64, 1, 8, .int .i64 0⟩ := ⟨by kernel_rfl, by kernel_rfl, by kernel_rfl, by kernel_rfl⟩
theorem K2x : Q1u Tryz.prog 22 ⟨.slice 3, 1, 24, .nils⟩ := ⟨by kernel_rfl, by kernel_rfl, by kernel_rfl, by kernel_rfl⟩
theorem K2y : Q1u Tryz.prog 23 ⟨.slice 4, 1, 24, .nils⟩ := ⟨by kernel_rfl, by kernel_rfl, by kernel_rfl, by kernel_rfl⟩
theorem K2z : Q1u Tryz.prog 38 ⟨.slice 40, 1, 24, .nils⟩ := ⟨by kernel_rfl, by kernel_rfl, by kernel_rfl, by kernel_rfl⟩
theorem K30 : Q1u Tryz.prog 30 ⟨.struct [(0, 3), (1, 22), (2, 22), (3, 23)], 4, 80, .agg [.int .i64 0, .nils, .nils, .nils]⟩ := ⟨by kernel_rfl, by kernel_rfl, by kernel_rfl, by kernel_rfl⟩
theorem K31 : Q1u Tryz.prog 48 ⟨.struct [(0, 3), (1, 3), (2, 22), (3, 46)], 4, 64, .agg [.int .i64 0, .int .i64 0, .nils, .nils]⟩ := ⟨by kernel_rfl, by kernel_rfl, by kernel_rfl, by kernel_rfl⟩
theorem K32 : Q1u Tryz.prog 46 ⟨.slice 48, 1, 24, .nils⟩ := ⟨by kernel_rfl, by kernel_rfl, by kernel_rfl, by kernel_rfl⟩
theorem K33 : Q1u Tryz.prog 32 ⟨.slice 68, 1, 24, .nils⟩ := ⟨by kernel_rfl, by kernel_rfl, by kernel_rfl, by kernel_rfl⟩
theorem K34 : Q1u Tryz.prog 89 ⟨.struct [(0, 22), (1, 22), (2, 3), (3, 22)], 4, 80, .agg [.nils, .nils, .int .i64 0, .nils]⟩ := ⟨by kernel_rfl, by kernel_rfl, by kernel_rfl, by kernel_rfl⟩
theorem K35 : Q1u Tryz.prog 68 ⟨.struct [(0, 37), (1, 22), (2, 48), (6, 22), (7, 22)], 8, 160, .agg [.nils, .nils, .int .i64 0, .int .i64 0, .nils, .nils, .nils, .nils]⟩ := ⟨by kernel_rfl, by kernel_rfl, by kernel_rfl, by kernel_rfl⟩
theorem K36 : Q1u Tryz.prog 78 ⟨.pointer 82, 1, 8, .nilp⟩ := ⟨by kernel_rfl, by kernel_rfl, by kernel_rfl, by kernel_rfl⟩
theorem K37 : Q1u Tryz.prog 146 ⟨.struct [(0, 9), (1, 3), (2, 4), (3, 4)], 4, 32, .agg [.str ByteArray.empty, .int .i64 0, .bool false, .bool false]⟩ := ⟨by kernel_rfl, by kernel_rfl, by kernel_rfl, by kernel_rfl⟩
theorem K38 : Q1u Tryz.prog 9 ⟨.string, 1, 16, .str ByteArray.empty⟩ := ⟨by kernel_rfl, by kernel_rfl, by kernel_rfl, by kernel_rfl⟩
theorem K39 : Q1u Tryz.prog 152 ⟨.slice 146, 1, 24, .nils⟩ := ⟨by kernel_rfl, by kernel_rfl, by kernel_rfl, by kernel_rfl⟩
theorem K3a : Q1u Tryz.prog 103 ⟨.struct [(0, 30)], 4, 80, .agg [.int .i64 0, .nils, .nils, .nils]⟩ := ⟨by kernel_rfl, by kernel_rfl, by kernel_rfl, by kernel_rfl⟩
theorem K3b : Q1u Tryz.prog 82 ⟨.struct [(0, 22), (1, 22), (2, 80), (3, 3), (4, 22)], 5, 104, .agg [.nils, .nils, .nils, .int .i64 0, .nils]⟩ := ⟨by kernel_rfl, by kernel_rfl, by kernel_rfl, by kernel_rfl⟩
theorem K3c : Q1u Tryz.prog 80 ⟨.slice 78, 1, 24, .nils⟩ := ⟨by kernel_rfl, by kernel_rfl, by kernel_rfl, by kernel_rfl⟩
theorem K3d : Q1u Tryz.prog 134 ⟨.slice 37, 1, 24, .nils⟩ := ⟨by kernel_rfl, by kernel_rfl, by kernel_rfl, by kernel_rfl⟩
theorem K3e : Q1v Tryz.prog TIx := Q1v.of_list tis (by
  intro p hp
  simp only [tis, List.mem_cons, List.not_mem_nil, or_false] at hp
  rcases hp with rfl | rfl | rfl | rfl | rfl | rfl | rfl | rfl | rfl | rfl | rfl | rfl | rfl | rfl | rfl | rfl | rfl | rfl | rfl | rfl | rfl | rfl
  · exact K2s
  · exact K2t
  · exact K2u
  · exact K2v
  · exact K2w
  · exact K2x
  · exact K2y
  · exact K2z
  · exact K30
  · exact K31
  · exact K32
  · exact K33
  · exact K34
  · exact K35
  · exact K36
  · exact K37
  · exact K38
  · exact K39
  · exact K3a
  · exact K3b
  · exact K3c
  · exact K3d)
theorem mix : Tryz.prog.follows .mixedOrders = true := Tryz.checked.mixed
noncomputable def B32 : Code := Tryz.f32.body.getD .skip
theorem K3f : Q7r Tryz.prog 32 := Qdc (fn := Tryz.f32) (by kernel_rfl) (by kernel_rfl) (by kernel_rfl)
noncomputable def B33 : Code := Tryz.f33.body.getD .skip
theorem K3g : Q7r Tryz.prog 33 := Qdc (fn := Tryz.f33) (by kernel_rfl) (by kernel_rfl) (by kernel_rfl)
noncomputable def B6 : Code := Tryz.f6.body.getD .skip
theorem K3h : Q7r Tryz.prog 6 := Qdc (fn := Tryz.f6) (by kernel_rfl) (by kernel_rfl) (by kernel_rfl)
noncomputable def B14 : Code := Tryz.f14.body.getD .skip
theorem K3i : Q7r Tryz.prog 14 := Qdc (fn := Tryz.f14) (by kernel_rfl) (by kernel_rfl) (by kernel_rfl)
noncomputable def B43 : Code := Tryz.f43.body.getD .skip
theorem K3j : Q7r Tryz.prog 43 := Qdc (fn := Tryz.f43) (by kernel_rfl) (by kernel_rfl) (by kernel_rfl)
noncomputable def B15 : Code := Tryz.f15.body.getD .skip
theorem K3k : Q7r Tryz.prog 15 := Qdc (fn := Tryz.f15) (by kernel_rfl) (by kernel_rfl) (by kernel_rfl)
noncomputable def B36 : Code := Tryz.f36.body.getD .skip
theorem K3l : Q7r Tryz.prog 36 := Qdc (fn := Tryz.f36) (by kernel_rfl) (by kernel_rfl) (by kernel_rfl)
noncomputable def B37 : Code := Tryz.f37.body.getD .skip
theorem K3m : Q7r Tryz.prog 37 := Qdc (fn := Tryz.f37) (by kernel_rfl) (by kernel_rfl) (by kernel_rfl)
noncomputable def B9 : Code := Tryz.f9.body.getD .skip
theorem K3n : Q7r Tryz.prog 9 := Qdc (fn := Tryz.f9) (by kernel_rfl) (by kernel_rfl) (by kernel_rfl)
noncomputable def B17 : Code := Tryz.f17.body.getD .skip
theorem K3o : Q7r Tryz.prog 17 := Qdc (fn := Tryz.f17) (by kernel_rfl) (by kernel_rfl) (by kernel_rfl)
noncomputable def B46 : Code := Tryz.f46.body.getD .skip
theorem K3p : Q7r Tryz.prog 46 := Qdc (fn := Tryz.f46) (by kernel_rfl) (by kernel_rfl) (by kernel_rfl)
noncomputable def B18 : Code := Tryz.f18.body.getD .skip
theorem K3q : Q7r Tryz.prog 18 := Qdc (fn := Tryz.f18) (by kernel_rfl) (by kernel_rfl) (by kernel_rfl)
noncomputable def B56 : Code := Tryz.f56.body.getD .skip
theorem K3r : Q7r Tryz.prog 56 := Qdc (fn := Tryz.f56) (by kernel_rfl) (by kernel_rfl) (by kernel_rfl)
noncomputable def K3s : Code := Tryz.f133.body.getD .skip
theorem K3t : Q7r Tryz.prog 133 := Qdc (fn := Tryz.f133) (by kernel_rfl) (by kernel_rfl) (by kernel_rfl)
noncomputable def K3u : Code := Tryz.f137.body.getD .skip
theorem K3v : Q7r Tryz.prog 137 := Qdc (fn := Tryz.f137) (by kernel_rfl) (by kernel_rfl) (by kernel_rfl)
noncomputable def K3w : Code := Tryz.f112.body.getD .skip
theorem K3x : Q7r Tryz.prog 112 := Qdc (fn := Tryz.f112) (by kernel_rfl) (by kernel_rfl) (by kernel_rfl)
noncomputable def B99 : Code := Tryz.f99.body.getD .skip
theorem K3y : Q7r Tryz.prog 99 := Qdc (fn := Tryz.f99) (by kernel_rfl) (by kernel_rfl) (by kernel_rfl)
noncomputable def K3z : Code := Tryz.f134.body.getD .skip
theorem K40 : Q7r Tryz.prog 134 := Qdc (fn := Tryz.f134) (by kernel_rfl) (by kernel_rfl) (by kernel_rfl)
noncomputable def K41 : Code := Tryz.f141.body.getD .skip
theorem K42 : Q7r Tryz.prog 141 := Qdc (fn := Tryz.f141) (by kernel_rfl) (by kernel_rfl) (by kernel_rfl)
noncomputable def K43 : Code := Tryz.f135.body.getD .skip
theorem K44 : Q7r Tryz.prog 135 := Qdc (fn := Tryz.f135) (by kernel_rfl) (by kernel_rfl) (by kernel_rfl)
noncomputable def K45 : Code := Tryz.f136.body.getD .skip
theorem K46 : Q7r Tryz.prog 136 := Qdc (fn := Tryz.f136) (by kernel_rfl) (by kernel_rfl) (by kernel_rfl)
noncomputable def B89 : Code := Tryz.f89.body.getD .skip
theorem K47 : Q7r Tryz.prog 89 := Qdc (fn := Tryz.f89) (by kernel_rfl) (by kernel_rfl) (by kernel_rfl)
noncomputable def K48 : Code := Tryz.f100.body.getD .skip
theorem K49 : Q7r Tryz.prog 100 := Qdc (fn := Tryz.f100) (by kernel_rfl) (by kernel_rfl) (by kernel_rfl)
noncomputable def K4a : Code := Tryz.f110.body.getD .skip
theorem K4b : Q7r Tryz.prog 110 := Qdc (fn := Tryz.f110) (by kernel_rfl) (by kernel_rfl) (by kernel_rfl)
noncomputable def K4c : Code := Tryz.f140.body.getD .skip
theorem K4d : Q7r Tryz.prog 140 := Qdc (fn := Tryz.f140) (by kernel_rfl) (by kernel_rfl) (by kernel_rfl)
noncomputable def K4e : Code := Tryz.f138.body.getD .skip
theorem K4f : Q7r Tryz.prog 138 := Qdc (fn := Tryz.f138) (by kernel_rfl) (by kernel_rfl) (by kernel_rfl)
noncomputable def K4g : Code := Tryz.f107.body.getD .skip
theorem K4h : Q7r Tryz.prog 107 := Qdc (fn := Tryz.f107) (by kernel_rfl) (by kernel_rfl) (by kernel_rfl)
noncomputable def K4i : Code := Tryz.f102.body.getD .skip
theorem K4j : Q7r Tryz.prog 102 := Qdc (fn := Tryz.f102) (by kernel_rfl) (by kernel_rfl) (by kernel_rfl)
noncomputable def K4k : Code := Tryz.f108.body.getD .skip
theorem K4l : Q7r Tryz.prog 108 := Qdc (fn := Tryz.f108) (by kernel_rfl) (by kernel_rfl) (by kernel_rfl)
noncomputable def B90 : Code := Tryz.f90.body.getD .skip
theorem K4m : Q7r Tryz.prog 90 := Qdc (fn := Tryz.f90) (by kernel_rfl) (by kernel_rfl) (by kernel_rfl)
noncomputable def K4n : Code := Tryz.f105.body.getD .skip
theorem K4o : Q7r Tryz.prog 105 := Qdc (fn := Tryz.f105) (by kernel_rfl) (by kernel_rfl) (by kernel_rfl)
noncomputable def K4p : Code := Tryz.f149.body.getD .skip
theorem K4q : Q7r Tryz.prog 149 := Qdc (fn := Tryz.f149) (by kernel_rfl) (by kernel_rfl) (by kernel_rfl)
noncomputable def K4r : Code := Tryz.f150.body.getD .skip
theorem K4s : Q7r Tryz.prog 150 := Qdc (fn := Tryz.f150) (by kernel_rfl) (by kernel_rfl) (by kernel_rfl)
noncomputable def K4t : Code := Tryz.f151.body.getD .skip
theorem K4u : Q7r Tryz.prog 151 := Qdc (fn := Tryz.f151) (by kernel_rfl) (by kernel_rfl) (by kernel_rfl)
noncomputable def K4v : Code := Tryz.f139.body.getD .skip
theorem K4w : Q7r Tryz.prog 139 := Qdc (fn := Tryz.f139) (by kernel_rfl) (by kernel_rfl) (by kernel_rfl)
noncomputable def K4x : Code := Tryz.f109.body.getD .skip
theorem K4y : Q7r Tryz.prog 109 := Qdc (fn := Tryz.f109) (by kernel_rfl) (by kernel_rfl) (by kernel_rfl)
noncomputable def K4z : Code := Tryz.f106.body.getD .skip
theorem K50 : Q7r Tryz.prog 106 := Qdc (fn := Tryz.f106) (by kernel_rfl) (by kernel_rfl) (by kernel_rfl)
noncomputable def B91 : Code := Tryz.f91.body.getD .skip
theorem K51 : Q7r Tryz.prog 91 := Qdc (fn := Tryz.f91) (by kernel_rfl) (by kernel_rfl) (by kernel_rfl)
noncomputable def B54 : Code := Tryz.f54.body.getD .skip
theorem K52 : Q7r Tryz.prog 54 := Qdc (fn := Tryz.f54) (by kernel_rfl) (by kernel_rfl) (by kernel_rfl)
noncomputable def B92 : Code := Tryz.f92.body.getD .skip
theorem K53 : Q7r Tryz.prog 92 := Qdc (fn := Tryz.f92) (by kernel_rfl) (by kernel_rfl) (by kernel_rfl)
noncomputable def B82 : Code := Tryz.f82.body.getD .skip
theorem K54 : Q7r Tryz.prog 82 := Qdc (fn := Tryz.f82) (by kernel_rfl) (by kernel_rfl) (by kernel_rfl)
noncomputable def B61 : Code := Tryz.f61.body.getD .skip
theorem K55 : Q7r Tryz.prog 61 := Qdc (fn := Tryz.f61) (by kernel_rfl) (by kernel_rfl) (by kernel_rfl)
noncomputable def B93 : Code := Tryz.f93.body.getD .skip
theorem K56 : Q7r Tryz.prog 93 := Qdc (fn := Tryz.f93) (by kernel_rfl) (by kernel_rfl) (by kernel_rfl)
noncomputable def B94 : Code := Tryz.f94.body.getD .skip
theorem K57 : Q7r Tryz.prog 94 := Qdc (fn := Tryz.f94) (by kernel_rfl) (by kernel_rfl) (by kernel_rfl)
noncomputable def B95 : Code := Tryz.f95.body.getD .skip
theorem K58 : Q7r Tryz.prog 95 := Qdc (fn := Tryz.f95) (by kernel_rfl) (by kernel_rfl) (by kernel_rfl)
noncomputable def B97 : Code := Tryz.f97.body.getD .skip
theorem K59 : Q7r Tryz.prog 97 := Qdc (fn := Tryz.f97) (by kernel_rfl) (by kernel_rfl) (by kernel_rfl)
noncomputable def B98 : Code := Tryz.f98.body.getD .skip
theorem K5a : Q7r Tryz.prog 98 := Qdc (fn := Tryz.f98) (by kernel_rfl) (by kernel_rfl) (by kernel_rfl)
noncomputable def B96 : Code := Tryz.f96.body.getD .skip
theorem K5b : Q7r Tryz.prog 96 := Qdc (fn := Tryz.f96) (by kernel_rfl) (by kernel_rfl) (by kernel_rfl)
noncomputable def K5c : Code := Tryz.f101.body.getD .skip
theorem K5d : Q7r Tryz.prog 101 := Qdc (fn := Tryz.f101) (by kernel_rfl) (by kernel_rfl) (by kernel_rfl)
noncomputable def B63 : Code := Tryz.f63.body.getD .skip
theorem K5e : Q7r Tryz.prog 63 := Qdc (fn := Tryz.f63) (by kernel_rfl) (by kernel_rfl) (by kernel_rfl)
noncomputable def K5f : Code := Tryz.f103.body.getD .skip
theorem K5g : Q7r Tryz.prog 103 := Qdc (fn := Tryz.f103) (by kernel_rfl) (by kernel_rfl) (by kernel_rfl)
noncomputable def B55 : Code := Tryz.f55.body.getD .skip
theorem K5h : Q7r Tryz.prog 55 := Qdc (fn := Tryz.f55) (by kernel_rfl) (by kernel_rfl) (by kernel_rfl)
noncomputable def K5i : Code := Tryz.f111.body.getD .skip
theorem K5j : Q7r Tryz.prog 111 := Qdc (fn := Tryz.f111) (by kernel_rfl) (by kernel_rfl) (by kernel_rfl)
noncomputable def B44 : Code := Tryz.f44.body.getD .skip
theorem K5k : Q7r Tryz.prog 44 := Qdc (fn := Tryz.f44) (by kernel_rfl) (by kernel_rfl) (by kernel_rfl)
noncomputable def B81 : Code := Tryz.f81.body.getD .skip
theorem K5l : Q7r Tryz.prog 81 := Qdc (fn := Tryz.f81) (by kernel_rfl) (by kernel_rfl) (by kernel_rfl)
noncomputable def B45 : Code := Tryz.f45.body.getD .skip
theorem K5m : Q7r Tryz.prog 45 := Qdc (fn := Tryz.f45) (by kernel_rfl) (by kernel_rfl) (by kernel_rfl)
noncomputable def B83 : Code := Tryz.f83.body.getD .skip
theorem K5n : Q7r Tryz.prog 83 := Qdc (fn := Tryz.f83) (by kernel_rfl) (by kernel_rfl) (by kernel_rfl)
noncomputable def B16 : Code := Tryz.f16.body.getD .skip
theorem K5o : Q7r Tryz.prog 16 := Qdc (fn := Tryz.f16) (by kernel_rfl) (by kernel_rfl) (by kernel_rfl)
noncomputable def B65 : Code := Tryz.f65.body.getD .skip
theorem K5p : Q7r Tryz.prog 65 := Qdc (fn := Tryz.f65) (by kernel_rfl) (by kernel_rfl) (by kernel_rfl)
noncomputable def B66 : Code := Tryz.f66.body.getD .skip
theorem K5q : Q7r Tryz.prog 66 := Qdc (fn := Tryz.f66) (by kernel_rfl) (by kernel_rfl) (by kernel_rfl)
noncomputable def B67 : Code := Tryz.f67.body.getD .skip
theorem K5r : Q7r Tryz.prog 67 := Qdc (fn := Tryz.f67) (by kernel_rfl) (by kernel_rfl) (by kernel_rfl)
noncomputable def B68 : Code := Tryz.f68.body.getD .skip
theorem K5s : Q7r Tryz.prog 68 := Qdc (fn := Tryz.f68) (by kernel_rfl) (by kernel_rfl) (by kernel_rfl)
noncomputable def B69 : Code := Tryz.f69.body.getD .skip
theorem K5t : Q7r Tryz.prog 69 := Qdc (fn := Tryz.f69) (by kernel_rfl) (by kernel_rfl) (by kernel_rfl)
noncomputable def B70 : Code := Tryz.f70.body.getD .skip
theorem K5u : Q7r Tryz.prog 70 := Qdc (fn := Tryz.f70) (by kernel_rfl) (by kernel_rfl) (by kernel_rfl)
noncomputable def B71 : Code := Tryz.f71.body.getD .skip
theorem K5v : Q7r Tryz.prog 71 := Qdc (fn := Tryz.f71) (by kernel_rfl) (by kernel_rfl) (by kernel_rfl)
noncomputable def B39 : Code := Tryz.f39.body.getD .skip
theorem K5w : Q7r Tryz.prog 39 := Qdc (fn := Tryz.f39) (by kernel_rfl) (by kernel_rfl) (by kernel_rfl)
noncomputable def K5x : Code := Tryz.f121.body.getD .skip
theorem K5y : Q7r Tryz.prog 121 := Qdc (fn := Tryz.f121) (by kernel_rfl) (by kernel_rfl) (by kernel_rfl)
noncomputable def K5z : Code := Tryz.f122.body.getD .skip
theorem K60 : Q7r Tryz.prog 122 := Qdc (fn := Tryz.f122) (by kernel_rfl) (by kernel_rfl) (by kernel_rfl)
noncomputable def K61 : Code := Tryz.f142.body.getD .skip
theorem K62 : Q7r Tryz.prog 142 := Qdc (fn := Tryz.f142) (by kernel_rfl) (by kernel_rfl) (by kernel_rfl)
noncomputable def K63 : Code := Tryz.f113.body.getD .skip
theorem K64 : Q7r Tryz.prog 113 := Qdc (fn := Tryz.f113) (by kernel_rfl) (by kernel_rfl) (by kernel_rfl)
noncomputable def K65 : Code := Tryz.f131.body.getD .skip
theorem K66 : Q7r Tryz.prog 131 := Qdc (fn := Tryz.f131) (by kernel_rfl) (by kernel_rfl) (by kernel_rfl)
noncomputable def K67 : Code := Tryz.f148.body.getD .skip
theorem K68 : Q7r Tryz.prog 148 := Qdc (fn := Tryz.f148) (by kernel_rfl) (by kernel_rfl) (by kernel_rfl)
noncomputable def K69 : Code := Tryz.f130.body.getD .skip
theorem K6a : Q7r Tryz.prog 130 := Qdc (fn := Tryz.f130) (by kernel_rfl) (by kernel_rfl) (by kernel_rfl)
noncomputable def B84 : Code := Tryz.f84.body.getD .skip
theorem K6b : Q7r Tryz.prog 84 := Qdc (fn := Tryz.f84) (by kernel_rfl) (by kernel_rfl) (by kernel_rfl)
noncomputable def K6c : Code := Tryz.f143.body.getD .skip
theorem K6d : Q7r Tryz.prog 143 := Qdc (fn := Tryz.f143) (by kernel_rfl) (by kernel_rfl) (by kernel_rfl)
noncomputable def K6e : Code := Tryz.f132.body.getD .skip
theorem K6f : Q7r Tryz.prog 132 := Qdc (fn := Tryz.f132) (by kernel_rfl) (by kernel_rfl) (by kernel_rfl)
noncomputable def K6g : Code := Tryz.f117.body.getD .skip
theorem K6h : Q7r Tryz.prog 117 := Qdc (fn := Tryz.f117) (by kernel_rfl) (by kernel_rfl) (by kernel_rfl)
noncomputable def K6i : Code := Tryz.f114.body.getD .skip
theorem K6j : Q7r Tryz.prog 114 := Qdc (fn := Tryz.f114) (by kernel_rfl) (by kernel_rfl) (by kernel_rfl)
noncomputable def B85 : Code := Tryz.f85.body.getD .skip
theorem K6k : Q7r Tryz.prog 85 := Qdc (fn := Tryz.f85) (by kernel_rfl) (by kernel_rfl) (by kernel_rfl)
noncomputable def B79 : Code := Tryz.f79.body.getD .skip
theorem K6l : Q7r Tryz.prog 79 := Qdc (fn := Tryz.f79) (by kernel_rfl) (by kernel_rfl) (by kernel_rfl)
noncomputable def B74 : Code := Tryz.f74.body.getD .skip
theorem K6m : Q7r Tryz.prog 74 := Qdc (fn := Tryz.f74) (by kernel_rfl) (by kernel_rfl) (by kernel_rfl)
noncomputable def K6n : Code := Tryz.f120.body.getD .skip
theorem K6o : Q7r Tryz.prog 120 := Qdc (fn := Tryz.f120) (by kernel_rfl) (by kernel_rfl) (by kernel_rfl)
noncomputable def B76 : Code := Tryz.f76.body.getD .skip
theorem K6p : Q7r Tryz.prog 76 := Qdc (fn := Tryz.f76) (by kernel_rfl) (by kernel_rfl) (by kernel_rfl)
noncomputable def B86 : Code := Tryz.f86.body.getD .skip
theorem K6q : Q7r Tryz.prog 86 := Qdc (fn := Tryz.f86) (by kernel_rfl) (by kernel_rfl) (by kernel_rfl)
noncomputable def B77 : Code := Tryz.f77.body.getD .skip
theorem K6r : Q7r Tryz.prog 77 := Qdc (fn := Tryz.f77) (by kernel_rfl) (by kernel_rfl) (by kernel_rfl)
noncomputable def B78 : Code := Tryz.f78.body.getD .skip
theorem K6s : Q7r Tryz.prog 78 := Qdc (fn := Tryz.f78) (by kernel_rfl) (by kernel_rfl) (by kernel_rfl)
noncomputable def B87 : Code := Tryz.f87.body.getD .skip
theorem K6t : Q7r Tryz.prog 87 := Qdc (fn := Tryz.f87) (by kernel_rfl) (by kernel_rfl) (by kernel_rfl)
noncomputable def K6u : Code := Tryz.f144.body.getD .skip
theorem K6v : Q7r Tryz.prog 144 := Qdc (fn := Tryz.f144) (by kernel_rfl) (by kernel_rfl) (by kernel_rfl)
noncomputable def K6w : Code := Tryz.f124.body.getD .skip
theorem K6x : Q7r Tryz.prog 124 := Qdc (fn := Tryz.f124) (by kernel_rfl) (by kernel_rfl) (by kernel_rfl)
noncomputable def K6y : Code := Tryz.f123.body.getD .skip
theorem K6z : Q7r Tryz.prog 123 := Qdc (fn := Tryz.f123) (by kernel_rfl) (by kernel_rfl) (by kernel_rfl)
noncomputable def K70 : Code := Tryz.f125.body.getD .skip
theorem K71 : Q7r Tryz.prog 125 := Qdc (fn := Tryz.f125) (by kernel_rfl) (by kernel_rfl) (by kernel_rfl)
noncomputable def K72 : Code := Tryz.f145.body.getD .skip
theorem K73 : Q7r Tryz.prog 145 := Qdc (fn := Tryz.f145) (by kernel_rfl) (by kernel_rfl) (by kernel_rfl)
noncomputable def K74 : Code := Tryz.f126.body.getD .skip
theorem K75 : Q7r Tryz.prog 126 := Qdc (fn := Tryz.f126) (by kernel_rfl) (by kernel_rfl) (by kernel_rfl)
noncomputable def K76 : Code := Tryz.f147.body.getD .skip
theorem K77 : Q7r Tryz.prog 147 := Qdc (fn := Tryz.f147) (by kernel_rfl) (by kernel_rfl) (by kernel_rfl)
noncomputable def K78 : Code := Tryz.f152.body.getD .skip
theorem K79 : Q7r Tryz.prog 152 := Qdc (fn := Tryz.f152) (by kernel_rfl) (by kernel_rfl) (by kernel_rfl)
noncomputable def K7a : Code := Tryz.f146.body.getD .skip
theorem K7b : Q7r Tryz.prog 146 := Qdc (fn := Tryz.f146) (by kernel_rfl) (by kernel_rfl) (by kernel_rfl)
noncomputable def K7c : Code := Tryz.f127.body.getD .skip
theorem K7d : Q7r Tryz.prog 127 := Qdc (fn := Tryz.f127) (by kernel_rfl) (by kernel_rfl) (by kernel_rfl)
noncomputable def K7e : Code := Tryz.f128.body.getD .skip
theorem K7f : Q7r Tryz.prog 128 := Qdc (fn := Tryz.f128) (by kernel_rfl) (by kernel_rfl) (by kernel_rfl)
noncomputable def K7g : Code := Tryz.f129.body.getD .skip
theorem K7h : Q7r Tryz.prog 129 := Qdc (fn := Tryz.f129) (by kernel_rfl) (by kernel_rfl) (by kernel_rfl)
noncomputable def B80 : Code := Tryz.f80.body.getD .skip
theorem K7i : Q7r Tryz.prog 80 := Qdc (fn := Tryz.f80) (by kernel_rfl) (by kernel_rfl) (by kernel_rfl)
noncomputable def B47 : Code := Tryz.f47.body.getD .skip
theorem K7j : Q7r Tryz.prog 47 := Qdc (fn := Tryz.f47) (by kernel_rfl) (by kernel_rfl) (by kernel_rfl)
noncomputable def B48 : Code := Tryz.f48.body.getD .skip
theorem K7k : Q7r Tryz.prog 48 := Qdc (fn := Tryz.f48) (by kernel_rfl) (by kernel_rfl) (by kernel_rfl)
noncomputable def B88 : Code := Tryz.f88.body.getD .skip
theorem K7l : Q7r Tryz.prog 88 := Qdc (fn := Tryz.f88) (by kernel_rfl) (by kernel_rfl) (by kernel_rfl)
noncomputable def B19 : Code := Tryz.f19.body.getD .skip
theorem K7m : Q7r Tryz.prog 19 := Qdc (fn := Tryz.f19) (by kernel_rfl) (by kernel_rfl) (by kernel_rfl)
noncomputable def B29 : Code := Tryz.f29.body.getD .skip
theorem K7n : Q7r Tryz.prog 29 := Qdc (fn := Tryz.f29) (by kernel_rfl) (by kernel_rfl) (by kernel_rfl)
noncomputable def B20 : Code := Tryz.f20.body.getD .skip
theorem K7o : Q7r Tryz.prog 20 := Qdc (fn := Tryz.f20) (by kernel_rfl) (by kernel_rfl) (by kernel_rfl)
noncomputable def B49 : Code := Tryz.f49.body.getD .skip
theorem K7p : Q7r Tryz.prog 49 := Qdc (fn := Tryz.f49) (by kernel_rfl) (by kernel_rfl) (by kernel_rfl)
noncomputable def B21 : Code := Tryz.f21.body.getD .skip
theorem K7q : Q7r Tryz.prog 21 := Qdc (fn := Tryz.f21) (by kernel_rfl) (by kernel_rfl) (by kernel_rfl)
noncomputable def B42 : Code := Tryz.f42.body.getD .skip
theorem K7r : Q7r Tryz.prog 42 := Qdc (fn := Tryz.f42) (by kernel_rfl) (by kernel_rfl) (by kernel_rfl)
noncomputable def B13 : Code := Tryz.f13.body.getD .skip
theorem K7s : Q7r Tryz.prog 13 := Qdc (fn := Tryz.f13) (by kernel_rfl) (by kernel_rfl) (by kernel_rfl)
noncomputable def B41 : Code := Tryz.f41.body.getD .skip
theorem K7t : Q7r Tryz.prog 41 := Qdc (fn := Tryz.f41) (by kernel_rfl) (by kernel_rfl) (by kernel_rfl)
noncomputable def B12 : Code := Tryz.f12.body.getD .skip
theorem K7u : Q7r Tryz.prog 12 := Qdc (fn := Tryz.f12) (by kernel_rfl) (by kernel_rfl) (by kernel_rfl)
noncomputable def B30 : Code := Tryz.f30.body.getD .skip
theorem K7v : Q7r Tryz.prog 30 := Qdc (fn := Tryz.f30) (by kernel_rfl) (by kernel_rfl) (by kernel_rfl)
noncomputable def B50 : Code := Tryz.f50.body.getD .skip
theorem K7w : Q7r Tryz.prog 50 := Qdc (fn := Tryz.f50) (by kernel_rfl) (by kernel_rfl) (by kernel_rfl)
noncomputable def B22 : Code := Tryz.f22.body.getD .skip
theorem K7x : Q7r Tryz.prog 22 := Qdc (fn := Tryz.f22) (by kernel_rfl) (by kernel_rfl) (by kernel_rfl)
noncomputable def B23 : Code := Tryz.f23.body.getD .skip
theorem K7y : Q7r Tryz.prog 23 := Qdc (fn := Tryz.f23) (by kernel_rfl) (by kernel_rfl) (by kernel_rfl)
noncomputable def B51 : Code := Tryz.f51.body.getD .skip
theorem K7z : Q7r Tryz.prog 51 := Qdc (fn := Tryz.f51) (by kernel_rfl) (by kernel_rfl) (by kernel_rfl)
noncomputable def B24 : Code := Tryz.f24.body.getD .skip
theorem K80 : Q7r Tryz.prog 24 := Qdc (fn := Tryz.f24) (by kernel_rfl) (by kernel_rfl) (by kernel_rfl)
noncomputable def B25 : Code := Tryz.f25.body.getD .skip
theorem K81 : Q7r Tryz.prog 25 := Qdc (fn := Tryz.f25) (by kernel_rfl) (by kernel_rfl) (by kernel_rfl)
noncomputable def B31 : Code := Tryz.f31.body.getD .skip
theorem K82 : Q7r Tryz.prog 31 := Qdc (fn := Tryz.f31) (by kernel_rfl) (by kernel_rfl) (by kernel_rfl)
noncomputable def B52 : Code := Tryz.f52.body.getD .skip
theorem K83 : Q7r Tryz.prog 52 := Qdc (fn := Tryz.f52) (by kernel_rfl) (by kernel_rfl) (by kernel_rfl)
noncomputable def B53 : Code := Tryz.f53.body.getD .skip
theorem K84 : Q7r Tryz.prog 53 := Qdc (fn := Tryz.f53) (by kernel_rfl) (by kernel_rfl) (by kernel_rfl)
noncomputable def B26 : Code := Tryz.f26.body.getD .skip
theorem K85 : Q7r Tryz.prog 26 := Qdc (fn := Tryz.f26) (by kernel_rfl) (by kernel_rfl) (by kernel_rfl)
noncomputable def B4 : Code := Tryz.f4.body.getD .skip
theorem K86 : Q7r Tryz.prog 4 := Qdc (fn := Tryz.f4) (by kernel_rfl) (by kernel_rfl) (by kernel_rfl)

theorem rg {c : Ctx} {code : Code} {Q : Exit → Q0a → Prop} {nt : Nat} (hnt : c.nt = nt) (ah : Option (List (List Nat))) (rs : List (Option Orc)) {T : List (Nat × AV)} {O : List (Nat × Q09)} (T' : List (Nat × AV)) (O' : List (Nat × Q09)) {A : Prop} (h : A)
    (hQ : Q .normal (mkS T' O')) (hk : Nat.beq (Qcc code) 0 = true := by kernel_rfl) (e1 : (Qb8 TIx Tryz.prog nt (Qc8 code) ah rs T O (T'.map (·.1)) (O'.map (·.1))).map (fun r => (r.T, Qba r.O)) = some (T', O') := by kernel_rfl)
    (e2 : A = Qcy (Qb8 TIx Tryz.prog nt (Qc8 code) ah rs T O (T'.map (·.1)) (O'.map (·.1))) := by kernel_rfl) (hdraw : ((!Qc9 code && ah.isNone) || ah.isSome) = true := by kernel_rfl) : Wp Tryz.prog c code Q (mkS T O) := Wp.reg K3e mix hnt hk e1 h e2 hdraw hQ
theorem rg0 {c : Ctx} {code : Code} {Q : Exit → Q0a → Prop} {nt : Nat} (hnt : c.nt = nt) (n : Nat) {T : List (Nat × AV)} {O : List (Nat × Q09)} (T' : List (Nat × AV)) (O' : List (Nat × Q09))
    (hQ : Q .normal (mkS T' O')) (hk : Nat.beq (Qcc code) 0 = true := by kernel_rfl) (e1 : (Qb8 TIx Tryz.prog nt (Qc8 code) none (List.replicate n (some .no)) T O (T'.map (·.1)) (O'.map (·.1))).map (fun r => (r.T, Qba r.O)) = some (T', O') := by kernel_rfl)
    (e2 : True = Qcy (Qb8 TIx Tryz.prog nt (Qc8 code) none (List.replicate n (some .no)) T O (T'.map (·.1)) (O'.map (·.1))) := by kernel_rfl) (hdraw : ((!Qc9 code && true) || false) = true := by kernel_rfl) : Wp Tryz.prog c code Q (mkS T O) := Wp.reg K3e mix hnt hk e1 trivial e2 hdraw hQ
theorem rgs {c : Ctx} {code : Code} {Q : Exit → Q0a → Prop} {nt : Nat} (hnt : c.nt = nt) (ah : Option (List (List Nat))) (rs : List (Option Orc)) {T : List (Nat × AV)} {O : List (Nat × Q09)} (T' : List (Nat × AV)) {A : Prop} (h : A)
    (hQ : Q .normal (mkS T' O)) (hk : Nat.beq (Qcc code) 0 = true := by kernel_rfl) (e1 : (Qb8 TIx Tryz.prog nt (Qc8 code) ah rs T O (T'.map (·.1)) (O.map (·.1))).map (fun r => (r.T, Qba r.O)) = some (T', O) := by kernel_rfl)
    (e2 : A = Qcy (Qb8 TIx Tryz.prog nt (Qc8 code) ah rs T O (T'.map (·.1)) (O.map (·.1))) := by kernel_rfl) (hdraw : ((!Qc9 code && ah.isNone) || ah.isSome) = true := by kernel_rfl) : Wp Tryz.prog c code Q (mkS T O) := rg hnt ah rs T' O h hQ hk e1 e2 hdraw
theorem K87 {c : Ctx} {code : Code} {Q : Exit → Q0a → Prop} {nt : Nat} (hnt : c.nt = nt) (n : Nat) {T : List (Nat × AV)} {O : List (Nat × Q09)} (T' : List (Nat × AV))
    (hQ : Q .normal (mkS T' O)) (hk : Nat.beq (Qcc code) 0 = true := by kernel_rfl) (e1 : (Qb8 TIx Tryz.prog nt (Qc8 code) none (List.replicate n (some .no)) T O (T'.map (·.1)) (O.map (·.1))).map (fun r => (r.T, Qba r.O)) = some (T', O) := by kernel_rfl)
    (e2 : True = Qcy (Qb8 TIx Tryz.prog nt (Qc8 code) none (List.replicate n (some .no)) T O (T'.map (·.1)) (O.map (·.1))) := by kernel_rfl) (hdraw : ((!Qc9 code && true) || false) = true := by kernel_rfl) : Wp Tryz.prog c code Q (mkS T O) := rg0 hnt n T' O hQ hk e1 e2 hdraw
theorem ix {e : List Int} {i : Int} {x : Int} (h : idx e i = some x) : 0 ≤ i ∧ (e.map I)[i.toNat]? = some (.int .i64 x) := Qdh (enc := I) (x := .int .i64 x) h (Qds x)
def rep : Nat → Prop → Prop → Prop
  | 0, _, b => b
  | n + 1, a, b => a ∧ rep n a b
theorem ar {a b : Prop} : ∀ (n : Nat) (x : a) (y : b), rep n a b
  | 0, _, y => y
  | n + 1, x, y => ⟨x, ar n x y⟩
theorem rs {c : Ctx} {code : Code} {Q : Exit → Q0a → Prop} {nt : Nat} (hnt : c.nt = nt) (ah : Option (List (List Nat))) (rs : List (Option Orc)) {T : List (Nat × AV)} {O : List (Nat × Q09)} (T' : List (Nat × AV)) (O' : List (Nat × Q09)) {A : Prop} (h : A)
    (hQ : Wp Tryz.prog c (cr code) Q (mkS T' O')) (h1 : Nat.beq (Qcc code) 1 = true := by kernel_rfl) (hk : Nat.beq (Qcc (cl code)) 0 = true := by kernel_rfl) (e1 : (Qb8 TIx Tryz.prog nt (Qc8 (cl code)) ah rs T O (T'.map (·.1)) (O'.map (·.1))).map (fun r => (r.T, Qba r.O)) = some (T', O') := by kernel_rfl)
    (e2 : A = Qcy (Qb8 TIx Tryz.prog nt (Qc8 (cl code)) ah rs T O (T'.map (·.1)) (O'.map (·.1))) := by kernel_rfl) (hdraw : ((!Qc9 (cl code) && ah.isNone) || ah.isSome) = true := by kernel_rfl) : Wp Tryz.prog c code Q (mkS T O) := Wp.seqN h1 (Wp.reg K3e mix hnt hk e1 h e2 hdraw (Qco hQ))
theorem rs0 {c : Ctx} {code : Code} {Q : Exit → Q0a → Prop} {nt : Nat} (hnt : c.nt = nt) (n : Nat) {T : List (Nat × AV)} {O : List (Nat × Q09)} (T' : List (Nat × AV)) (O' : List (Nat × Q09))
    (hQ : Wp Tryz.prog c (cr code) Q (mkS T' O')) (h1 : Nat.beq (Qcc code) 1 = true := by kernel_rfl) (hk : Nat.beq (Qcc (cl code)) 0 = true := by kernel_rfl) (e1 : (Qb8 TIx Tryz.prog nt (Qc8 (cl code)) none (List.replicate n (some .no)) T O (T'.map (·.1)) (O'.map (·.1))).map (fun r => (r.T, Qba r.O)) = some (T', O') := by kernel_rfl)
    (e2 : True = Qcy (Qb8 TIx Tryz.prog nt (Qc8 (cl code)) none (List.replicate n (some .no)) T O (T'.map (·.1)) (O'.map (·.1))) := by kernel_rfl) (hdraw : ((!Qc9 (cl code) && true) || false) = true := by kernel_rfl) : Wp Tryz.prog c code Q (mkS T O) := Wp.seqN h1 (Wp.reg K3e mix hnt hk e1 trivial e2 hdraw (Qco hQ))
theorem rss {c : Ctx} {code : Code} {Q : Exit → Q0a → Prop} {nt : Nat} (hnt : c.nt = nt) (ah : Option (List (List Nat))) (rs' : List (Option Orc)) {T : List (Nat × AV)} {O : List (Nat × Q09)} (T' : List (Nat × AV)) {A : Prop} (h : A)
    (hQ : Wp Tryz.prog c (cr code) Q (mkS T' O)) (h1 : Nat.beq (Qcc code) 1 = true := by kernel_rfl) (hk : Nat.beq (Qcc (cl code)) 0 = true := by kernel_rfl) (e1 : (Qb8 TIx Tryz.prog nt (Qc8 (cl code)) ah rs' T O (T'.map (·.1)) (O.map (·.1))).map (fun r => (r.T, Qba r.O)) = some (T', O) := by kernel_rfl)
    (e2 : A = Qcy (Qb8 TIx Tryz.prog nt (Qc8 (cl code)) ah rs' T O (T'.map (·.1)) (O.map (·.1))) := by kernel_rfl) (hdraw : ((!Qc9 (cl code) && ah.isNone) || ah.isSome) = true := by kernel_rfl) : Wp Tryz.prog c code Q (mkS T O) := rs hnt ah rs' T' O h hQ h1 hk e1 e2 hdraw
theorem K88 {c : Ctx} {code : Code} {Q : Exit → Q0a → Prop} {nt : Nat} (hnt : c.nt = nt) (n : Nat) {T : List (Nat × AV)} {O : List (Nat × Q09)} (T' : List (Nat × AV))
    (hQ : Wp Tryz.prog c (cr code) Q (mkS T' O)) (h1 : Nat.beq (Qcc code) 1 = true := by kernel_rfl) (hk : Nat.beq (Qcc (cl code)) 0 = true := by kernel_rfl) (e1 : (Qb8 TIx Tryz.prog nt (Qc8 (cl code)) none (List.replicate n (some .no)) T O (T'.map (·.1)) (O.map (·.1))).map (fun r => (r.T, Qba r.O)) = some (T', O) := by kernel_rfl)
    (e2 : True = Qcy (Qb8 TIx Tryz.prog nt (Qc8 (cl code)) none (List.replicate n (some .no)) T O (T'.map (·.1)) (O.map (·.1))) := by kernel_rfl) (hdraw : ((!Qc9 (cl code) && true) || false) = true := by kernel_rfl) : Wp Tryz.prog c code Q (mkS T O) := rs0 hnt n T' O hQ h1 hk e1 e2 hdraw
theorem vz {c : Ctx} {code : Code} {Q : Exit → Q0a → Prop} {T : List (Nat × AV)} {O : List (Nat × Q09)} (k : Nat) {xs xs' : List AV} (hs : Q02 xs = xs') (T' : List (Nat × AV)) (O' : List (Nat × Q09)) (h : Wp Tryz.prog c code Q (mkS T' O')) (hO : lkO O k = some (.arr xs) := by kernel_rfl)
    (hT : T.map (fun p => (p.1, frz k (.sl xs') p.2)) = T' := by kernel_rfl) (hO' : ((O.filter fun p => !Nat.beq p.1 k).map fun p => (p.1, Qa2 k (.sl xs') p.2)) = O' := by kernel_rfl) : Wp Tryz.prog c code Q (mkS T O) := Wp.view (fun _ _ hv => SRx.frzL k hv hO hs hT hO') h
theorem vb {c : Ctx} {code : Code} {Q : Exit → Q0a → Prop} {T : List (Nat × AV)} {O : List (Nat × Q09)} (k : Nat) (cs : List AV) (T' : List (Nat × AV)) (O' : List (Nat × Q09)) (h : Wp Tryz.prog c code Q (mkS T' O')) (hO : lkO O k = some (.box cs) := by kernel_rfl) (hp : cs.all plain = true := by kernel_rfl)
    (hT : T.map (fun p => (p.1, frb k (cs.map nzC) p.2)) = T' := by kernel_rfl) (hO' : ((O.filter fun p => !Nat.beq p.1 k).map fun p => (p.1, Qeu k (cs.map nzC) p.2)) = O' := by kernel_rfl) : Wp Tryz.prog c code Q (mkS T O) := Wp.view (fun _ _ hv => SRx.frbL k (cs := cs) hv hO hp hT hO') h
theorem b0 {f : FuncId} (fn : Func) (code : Code) {args : List AV} {res : AV} (nt : Nat) (T : List (Nat × AV)) (h : ∀ c : Ctx, c.nt = nt → Wp Tryz.prog c code (Qd5 TIx fn [] res) (mkS T [])) (hf : Tryz.prog.funcs[f]? = some fn := by kernel_rfl) (hb : fn.body = some code := by kernel_rfl) (hok : Qbi args = true := by kernel_rfl) (ha : args.all (fun x => !Qd6 x) = true := by kernel_rfl)
    (hnt : Nat.beq fn.ntmps nt = true := by kernel_rfl) (hle : Nat.ble args.length nt = true := by kernel_rfl) (hT : Qbg args = T := by kernel_rfl) (hO : Qbh args = [] := by kernel_rfl) : Q71 Tryz.prog f args res [] := Q71.body0 K3e hf hb hok ha hnt hle hT hO h
theorem iv {c : Ctx} {x : Exit} (ρ : List (Nat × Nat)) {T T' : List (Nat × AV)} {O O' : List (Nat × Q09)} (hT : (T'.map fun p => rn (rnk ρ) p.2) = T'.map fun p => lk .undef T p.1 := by kernel_rfl)
    (hO : (O'.map fun p => some (rnO (rnk ρ) p.2)) = O'.map fun p => lkO O (rnk ρ p.1) := by kernel_rfl) (hB : Qd1 ρ O' = true := by kernel_rfl) : Qcz c x (mkS T' O') x (mkS T O) := Qcz.view (fun _ _ hv => SRx.renL ρ hv hT hO hB)
theorem bk {c : Ctx} {code : Code} {Q : Exit → Q0a → Prop} {σ : Q0a} (i : Nat) (h : Wp Tryz.prog c (cl code) (Qcm i Q) σ) (hk : (Nat.beq (Qcc code) 3 && Nat.beq (Qca code) i) = true := by kernel_rfl) : Wp Tryz.prog c code Q σ := Wp.blockN hk h
theorem xt {c : Ctx} {code : Code} {Q : Exit → Q0a → Prop} {σ : Q0a} (i : Nat) (h : Q (.exit i) σ) (hk : (Nat.beq (Qcc code) 5 && Nat.beq (Qca code) i) = true := by kernel_rfl) : Wp Tryz.prog c code Q σ := Wp.exitN hk h
theorem lp {c : Ctx} {code : Code} {Q : Exit → Q0a → Prop} {σ : Q0a} (h : WpL Tryz.prog c (cl code) Q σ) (hk : Nat.beq (Qcc code) 4 = true := by kernel_rfl) : Wp Tryz.prog c code Q σ := Wp.loopN hk h
theorem re {fn : Func} {args : List AV} (fl : List Bool) {T : List (Nat × AV)} {O : List (Nat × Q09)} {res : AV} (h : Qd4 TIx fn args fl T O = some res := by kernel_rfl) : Qd8 TIx fn args res .ret (mkS T O) := Qd8.ret h
abbrev sL (l : List (List Int)) : AV := .sl (List.map K07 l)
abbrev rI (l : List Int) : Q09 := .arr (List.map I l)
abbrev oI (l : List Int) : AV := .osl (List.map I l)
theorem rt {c : Ctx} {code : Code} {Q : Exit → Q0a → Prop} {σ : Q0a} (h : Q .ret σ) (hk : Nat.beq (Qcc code) 6 = true := by kernel_rfl) : Wp Tryz.prog c code Q σ := Wp.retN hk h
theorem sk {c : Ctx} {code : Code} {Q : Exit → Q0a → Prop} {σ : Q0a} (h : Q .normal σ) (hk : Nat.beq (Qcc code) 7 = true := by kernel_rfl) : Wp Tryz.prog c code Q σ := Wp.skipN hk h
theorem rq {fn : Func} {args : List AV} (fl : List Bool) {T : List (Nat × AV)} {O : List (Nat × Q09)} {res : AV} (h : Qd4 TIx fn args fl T O = some res := by kernel_rfl) : Qd5 TIx fn args res .ret (mkS T O) := Qd5.ret h
theorem is {α : Type} {b : Bool} {x y : Option α} {r : α} (h : (if b = true then x else y) = some r) : (b = true ∧ x = some r) ∨ (b = false ∧ y = some r) := Qde h
theorem os {α : Type} {a b : α} (h : some a = some b) : a = b := Option.some.inj h
abbrev sI (l : List Int) : AV := .sl (List.map I l)
abbrev sB (l : List Bool) : AV := .sl (List.map AV.bool l)
def rx (l : List (List Nat)) : Option (List (List Nat)) := some (l.map fun r => match r with | n :: e => List.range n ++ e | [] => [])
def rh (l : List Nat) : Option (List (List Nat)) := some (l.map List.range)
theorem ai {a b : Prop} (x : a) (y : b) : a ∧ b := ⟨x, y⟩
theorem oi (v : AV) : ([] : List Nat) = [] ∨ noSh v = true := Or.inl rfl
theorem ab {a b r : Prop} (x : a) (y : b) (t : r) : a ∧ b ∧ r := ⟨x, y, t⟩
theorem ac {a b c r : Prop} (x : a) (y : b) (z : c) (t : r) : a ∧ b ∧ c ∧ r := ⟨x, y, z, t⟩
theorem ad {a b c d r : Prop} (x : a) (y : b) (z : c) (w : d) (t : r) : a ∧ b ∧ c ∧ d ∧ r := ⟨x, y, z, w, t⟩
theorem cq {P : Program} {f : FuncId} {xs : List AV} {os : List AV} {v : AV} {b r : Prop} (x : Q71 P f xs v os) (y : b) (t : r) : Q71 P f xs v os ∧ b ∧ (([] : List Nat) = [] ∨ noSh v = true) ∧ r := ⟨x, y, Or.inl rfl, t⟩
abbrev tv : True := trivial
abbrev LL := List (List Int)
theorem xL {e : List (List Int)} {i : Int} {x : List Int} (h : idx e i = some x) : 0 ≤ i ∧ (e.map K07)[i.toNat]? = some (.sl (List.map I x)) := Qdh (enc := K07) (x := .sl (List.map I x)) h (K08 x)
theorem ic {c : Ctx} {code : Code} {Q : Exit → Q0a → Prop} {σ : Q0a} {α : Type} {b : Bool} {x y : Option α} {r : α} (h : (if b = true then x else y) = some r) (hT : b = true → x = some r → Wp Tryz.prog c (cl code) Q σ) (hF : b = false → y = some r → Wp Tryz.prog c (cr code) Q σ)
    (hk : Nat.beq (Qcc code) 2 = true := by kernel_rfl) (hx : opv σ (Qcb code) = .bool b := by kernel_rfl) : Wp Tryz.prog c code Q σ := (Qde h).elim (fun q => Wp.condT hk hx q.1 (hT q.1 q.2)) (fun q => Wp.condF hk hx q.1 (hF q.1 q.2))
theorem bq2 {α β γ : Type} {x : Option α} {f : α → Option β} {g : α → β → Option γ} {r : γ} (h : (x >>= fun a => f a >>= fun b => g a b) = some r) : ∃ a, x = some a ∧ ∃ b, f a = some b ∧ g a b = some r := let ⟨a, ha, h⟩ := Qdd h; let ⟨b, hb, h⟩ := Qdd h; ⟨a, ha, b, hb, h⟩
theorem bq3 {α β γ δ : Type} {x : Option α} {f : α → Option β} {g : α → β → Option γ} {k : α → β → γ → Option δ} {r : δ} (h : (x >>= fun a => f a >>= fun b => g a b >>= fun c => k a b c) = some r) : ∃ a, x = some a ∧ ∃ b, f a = some b ∧ ∃ c, g a b = some c ∧ k a b c = some r := let ⟨a, ha, b, hb, h⟩ := bq2 h; let ⟨c, hc, h⟩ := Qdd h; ⟨a, ha, b, hb, c, hc, h⟩
theorem bq4 {α β γ δ ε : Type} {x : Option α} {f : α → Option β} {g : α → β → Option γ} {k : α → β → γ → Option δ} {l : α → β → γ → δ → Option ε} {r : ε} (h : (x >>= fun a => f a >>= fun b => g a b >>= fun c => k a b c >>= fun d => l a b c d) = some r) : ∃ a, x = some a ∧ ∃ b, f a = some b ∧ ∃ c, g a b = some c ∧ ∃ d, k a b c = some d ∧ l a b c d = some r := let ⟨a, ha, b, hb, c, hc, h⟩ := bq3 h; let ⟨d, hd, h⟩ := Qdd h; ⟨a, ha, b, hb, c, hc, d, hd, h⟩
theorem tt : true = true := rfl
theorem nf : true ≠ false := fun h => nomatch h
abbrev oN : Option Orc := some .no
abbrev oF : Option Orc := some (.cond false)
abbrev oT : Option Orc := some (.cond true)
abbrev o_ : Option Orc := none
abbrev oc (v : AV) : Option Orc := some (.call v [] 1)
theorem sN {c : Ctx} {code : Code} {Q : Exit → Q0a → Prop} {σ : Q0a} (h : Wp Tryz.prog c (cl code) (Qcl Tryz.prog c (cr code) Q) σ) (hk : Nat.beq (Qcc code) 1 = true := by kernel_rfl) : Wp Tryz.prog c code Q σ := Wp.seqN hk h
theorem cT {c : Ctx} {code : Code} {Q : Exit → Q0a → Prop} {σ : Q0a} (b : Bool) (hb : b = true) (h1 : Wp Tryz.prog c (cl code) Q σ) (hk : Nat.beq (Qcc code) 2 = true := by kernel_rfl) (hx : opv σ (Qcb code) = .bool b := by kernel_rfl) : Wp Tryz.prog c code Q σ := Wp.condT hk hx hb h1
theorem cF {c : Ctx} {code : Code} {Q : Exit → Q0a → Prop} {σ : Q0a} (b : Bool) (hb : b = false) (h1 : Wp Tryz.prog c (cr code) Q σ) (hk : Nat.beq (Qcc code) 2 = true := by kernel_rfl) (hx : opv σ (Qcb code) = .bool b := by kernel_rfl) : Wp Tryz.prog c code Q σ := Wp.condF hk hx hb h1
end Go.Am
