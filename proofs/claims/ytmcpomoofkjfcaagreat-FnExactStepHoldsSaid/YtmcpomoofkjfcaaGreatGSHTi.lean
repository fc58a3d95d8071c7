/- The table of types, and the bodies. Printed by a program of mine (gen.py). -/
import Derived.Test.YtmcpomoofkjfcaaGreatGSHTy
import Derived.Test.YtmcpomoofkjfcaaGreatChecked
set_option linter.unusedVariables false
set_option linter.unusedSimpArgs false
set_option maxRecDepth 100000
namespace Go.Am
open Go Go.Proofs
def tis : List (Nat × Q1o) := [(25, ⟨.struct [(0, 3), (1, 22), (2, 22), (3, 23)], 4, 80, .agg [.int .i64 0, .nils, .nils, .nils]⟩),
  (61, ⟨.slice 112, 1, 24, .nils⟩),
  (3, ⟨.int .i64, 1, 8, .int .i64 0⟩),
  (4, ⟨.bool, 1, 1, .bool false⟩),
  (22, ⟨.slice 3, 1, 24, .nils⟩),
  (23, ⟨.slice 4, 1, 24, .nils⟩),
  (112, ⟨.struct [(0, 26), (1, 22), (2, 29), (6, 22), (7, 22)], 8, 160, .agg [.nils, .nils, .int .i64 0, .int .i64 0, .nils, .nils, .nils, .nils]⟩),
  (26, ⟨.slice 22, 1, 24, .nils⟩),
  (29, ⟨.struct [(0, 3), (1, 3), (2, 22), (3, 27)], 4, 64, .agg [.int .i64 0, .int .i64 0, .nils, .nils]⟩),
  (27, ⟨.slice 29, 1, 24, .nils⟩),
  (35, ⟨.struct [(0, 3), (1, 22), (2, 22), (3, 23)], 4, 80, .agg [.int .i64 0, .nils, .nils, .nils]⟩),
  (64, ⟨.slice 116, 1, 24, .nils⟩),
  (116, ⟨.struct [(0, 26), (1, 22), (2, 40), (6, 22), (7, 22)], 8, 160, .agg [.nils, .nils, .int .i64 0, .int .i64 0, .nils, .nils, .nils, .nils]⟩),
  (40, ⟨.struct [(0, 3), (1, 3), (2, 22), (3, 38)], 4, 64, .agg [.int .i64 0, .int .i64 0, .nils, .nils]⟩),
  (38, ⟨.slice 40, 1, 24, .nils⟩),
  (117, ⟨.slice 89, 1, 24, .nils⟩),
  (89, ⟨.struct [(0, 22), (1, 22), (2, 3), (3, 22)], 4, 80, .agg [.nils, .nils, .int .i64 0, .nils]⟩),
  (179, ⟨.struct [(0, 9), (1, 3), (2, 4), (3, 4)], 4, 32, .agg [.str ByteArray.empty, .int .i64 0, .bool false, .bool false]⟩),
  (9, ⟨.string, 1, 16, .str ByteArray.empty⟩),
  (204, ⟨.slice 179, 1, 24, .nils⟩),
  (160, ⟨.struct [(0, 35)], 4, 80, .agg [.int .i64 0, .nils, .nils, .nils]⟩),
  (97, ⟨.struct [(0, 22), (1, 22), (2, 95), (3, 3), (4, 22)], 5, 104, .agg [.nils, .nils, .nils, .int .i64 0, .nils]⟩),
  (95, ⟨.slice 93, 1, 24, .nils⟩),
  (93, ⟨.pointer 97, 1, 8, .nilp⟩),
  (199, ⟨.slice 26, 1, 24, .nils⟩)]
def TIx : Nat → Option Q1o := lk none (tis.map fun p => (p.1, some p.2))
theorem K31 : Q1u Tryz.prog 25 ⟨.struct [(0, 3), (1, 22), (2, 22), (3, 23)], 4, 80, .agg [.int .i64 0, .nils, .nils, .nils]⟩ := ⟨by kernel_rfl, by kernel_rfl, by kernel_rfl, by kernel_rfl⟩
theorem K32 : Q1u Tryz.prog 61 ⟨.slice 112, 1, 24, .nils⟩ := ⟨by kernel_rfl, by kernel_rfl, by kernel_rfl, by kernel_rfl⟩
theorem K33 : Q1u Tryz.prog 3 ⟨.int .i64, 1, 8, .int .i64 0⟩ := ⟨by kernel_rfl, by kernel_rfl, by kernel_rfl, by kernel_rfl⟩
theorem K34 : Q1u Tryz.prog 4 ⟨.bool, 1, 1, .bool false⟩ := ⟨by kernel_rfl, by kernel_rfl, by kernel_rfl, by kernel_rfl⟩
theorem K35 : Q1u Tryz.prog 22 ⟨.slice 3, 1, 24, .nils⟩ := ⟨by kernel_rfl, by kernel_rfl, by kernel_rfl, by kernel_rfl⟩
theorem K36 : Q1u Tryz.prog 23 ⟨.slice 4, 1, 24, .nils⟩ := ⟨by kernel_rfl, by kernel_rfl, by kernel_rfl, by kernel_rfl⟩
theorem K37 : Q1u Tryz.prog 112 ⟨.struct [(0, 26), (1, 22), (2, 29), (6, 22), (7, 22)], 8, 160, .agg [.nils, .nils, .int .i64 0, .int .i64 0, .nils, .nils, .nils, .nils]⟩ := ⟨by kernel_rfl, by kernel_rfl, by kernel_rfl, by kernel_rfl⟩
theorem K38 : Q1u Tryz.prog 26 ⟨.slice 22, 1, 24, .nils⟩ := ⟨by kernel_rfl, by kernel_rfl, by kernel_rfl, by kernel_rfl⟩
theorem K39 : Q1u Tryz.prog 29 ⟨.struct [(0, 3), (1, 3), (2, 22), (3, 27)], 4, 64, .agg [.int .i64 0, .int .i64 0, .nils, .nils]⟩ := ⟨by kernel_rfl, by kernel_rfl, by kernel_rfl, by kernel_rfl⟩
theorem K3a : Q1u Tryz.prog 27 ⟨.slice 29, 1, 24, .nils⟩ := ⟨by kernel_rfl, by kernel_rfl, by kernel_rfl, by kernel_rfl⟩
theorem K3b : Q1u Tryz.prog 35 ⟨.struct [(0, 3), (1, 22), (2, 22), (3, 23)], 4, 80, .agg [.int .i64 0, .nils, .nils, .nils]⟩ := ⟨by kernel_rfl, by kernel_rfl, by kernel_rfl, by kernel_rfl⟩
theorem K3c : Q1u Tryz.prog 64 ⟨.slice 116, 1, 24, .nils⟩ := ⟨by kernel_rfl, by kernel_rfl, by kernel_rfl, by kernel_rfl⟩
theorem K3d : Q1u Tryz.prog 116 ⟨.struct [(0, 26), (1, 22), (2, 40), (6, 22), (7, 22)], 8, 160, .agg [.nils, .nils, .int .i64 0, .int .i64 0, .nils, .nils, .nils, .nils]⟩ := ⟨by kernel_rfl, by kernel_rfl, by kernel_rfl, by kernel_rfl⟩
theorem K3e : Q1u Tryz.prog 40 ⟨.struct [(0, 3), (1, 3), (2, 22), (3, 38)], 4, 64, .agg [.int .i64 0, .int .i64 0, .nils, .nils]⟩ := ⟨by kernel_rfl, by kernel_rfl, by kernel_rfl, by kernel_rfl⟩
theorem K3f : Q1u Tryz.prog 38 ⟨.slice 40, 1, 24, .nils⟩ := ⟨by kernel_rfl, by kernel_rfl, by kernel_rfl, by kernel_rfl⟩
theorem K3g : Q1u Tryz.prog 117 ⟨.slice 89, 1, 24, .nils⟩ := ⟨by kernel_rfl, by kernel_rfl, by kernel_rfl, by kernel_rfl⟩
theorem K3h : Q1u Tryz.prog 89 ⟨.struct [(0, 22), (1, 22), (2, 3), (3, 22)], 4, 80, .agg [.nils, .nils, .int .i64 0, .nils]⟩ := ⟨by kernel_rfl, by kernel_rfl, by kernel_rfl, by kernel_rfl⟩
theorem K3i : Q1u Tryz.prog 179 ⟨.struct [(0, 9), (1, 3), (2, 4), (3, 4)], 4, 32, .agg [.str ByteArray.empty, .int .i64 0, .bool false, .bool false]⟩ := ⟨by kernel_rfl, by kernel_rfl, by kernel_rfl, by kernel_rfl⟩
theorem K3j : Q1u Tryz.prog 9 ⟨.string, 1, 16, .str ByteArray.empty⟩ := ⟨by kernel_rfl, by kernel_rfl, by kernel_rfl, by kernel_rfl⟩
theorem K3k : Q1u Tryz.prog 204 ⟨.slice 179, 1, 24, .nils⟩ := ⟨by kernel_rfl, by kernel_rfl, by kernel_rfl, by kernel_rfl⟩
theorem K3l : Q1u Tryz.prog 160 ⟨.struct [(0, 35)], 4, 80, .agg [.int .i64 0, .nils, .nils, .nils]⟩ := ⟨by kernel_rfl, by kernel_rfl, by kernel_rfl, by kernel_rfl⟩
theorem K3m : Q1u Tryz.prog 97 ⟨.struct [(0, 22), (1, 22), (2, 95), (3, 3), (4, 22)], 5, 104, .agg [.nils, .nils, .nils, .int .i64 0, .nils]⟩ := ⟨by kernel_rfl, by kernel_rfl, by kernel_rfl, by kernel_rfl⟩
theorem K3n : Q1u Tryz.prog 95 ⟨.slice 93, 1, 24, .nils⟩ := ⟨by kernel_rfl, by kernel_rfl, by kernel_rfl, by kernel_rfl⟩
theorem K3o : Q1u Tryz.prog 93 ⟨.pointer 97, 1, 8, .nilp⟩ := ⟨by kernel_rfl, by kernel_rfl, by kernel_rfl, by kernel_rfl⟩
theorem K3p : Q1u Tryz.prog 199 ⟨.slice 26, 1, 24, .nils⟩ := ⟨by kernel_rfl, by kernel_rfl, by kernel_rfl, by kernel_rfl⟩
theorem K3q : Q1v Tryz.prog TIx := Q1v.of_list tis (by
  intro p hp
  simp only [tis, List.mem_cons, List.not_mem_nil, or_false] at hp
  rcases hp with rfl | rfl | rfl | rfl | rfl | rfl | rfl | rfl | rfl | rfl | rfl | rfl | rfl | rfl | rfl | rfl | rfl | rfl | rfl | rfl | rfl | rfl | rfl | rfl | rfl
  · exact K31
  · exact K32
  · exact K33
  · exact K34
  · exact K35
  · exact K36
  · exact K37
  · exact K38
  · exact K39
  · exact K3a
  · exact K3b
  · exact K3c
  · exact K3d
  · exact K3e
  · exact K3f
  · exact K3g
  · exact K3h
  · exact K3i
  · exact K3j
  · exact K3k
  · exact K3l
  · exact K3m
  · exact K3n
  · exact K3o
  · exact K3p)
theorem mix : Tryz.prog.follows .mixedOrders = true := Tryz.checked.mixed
noncomputable def B69 : Code := Tryz.f69.body.getD .skip
theorem K3r : Q7r Tryz.prog 69 := Qcs (fn := Tryz.f69) (by kernel_rfl) (by kernel_rfl) (by kernel_rfl)
noncomputable def B70 : Code := Tryz.f70.body.getD .skip
theorem K3s : Q7r Tryz.prog 70 := Qcs (fn := Tryz.f70) (by kernel_rfl) (by kernel_rfl) (by kernel_rfl)
noncomputable def B15 : Code := Tryz.f15.body.getD .skip
theorem K3t : Q7r Tryz.prog 15 := Qcs (fn := Tryz.f15) (by kernel_rfl) (by kernel_rfl) (by kernel_rfl)
noncomputable def B16 : Code := Tryz.f16.body.getD .skip
theorem K3u : Q7r Tryz.prog 16 := Qcs (fn := Tryz.f16) (by kernel_rfl) (by kernel_rfl) (by kernel_rfl)
noncomputable def B71 : Code := Tryz.f71.body.getD .skip
theorem K3v : Q7r Tryz.prog 71 := Qcs (fn := Tryz.f71) (by kernel_rfl) (by kernel_rfl) (by kernel_rfl)
noncomputable def B17 : Code := Tryz.f17.body.getD .skip
theorem K3w : Q7r Tryz.prog 17 := Qcs (fn := Tryz.f17) (by kernel_rfl) (by kernel_rfl) (by kernel_rfl)
noncomputable def B99 : Code := Tryz.f99.body.getD .skip
theorem K3x : Q7r Tryz.prog 99 := Qcs (fn := Tryz.f99) (by kernel_rfl) (by kernel_rfl) (by kernel_rfl)
noncomputable def B45 : Code := Tryz.f45.body.getD .skip
theorem K3y : Q7r Tryz.prog 45 := Qcs (fn := Tryz.f45) (by kernel_rfl) (by kernel_rfl) (by kernel_rfl)
noncomputable def B35 : Code := Tryz.f35.body.getD .skip
theorem K3z : Q7r Tryz.prog 35 := Qcs (fn := Tryz.f35) (by kernel_rfl) (by kernel_rfl) (by kernel_rfl)
noncomputable def B74 : Code := Tryz.f74.body.getD .skip
theorem K40 : Q7r Tryz.prog 74 := Qcs (fn := Tryz.f74) (by kernel_rfl) (by kernel_rfl) (by kernel_rfl)
noncomputable def B19 : Code := Tryz.f19.body.getD .skip
theorem K41 : Q7r Tryz.prog 19 := Qcs (fn := Tryz.f19) (by kernel_rfl) (by kernel_rfl) (by kernel_rfl)
noncomputable def B20 : Code := Tryz.f20.body.getD .skip
theorem K42 : Q7r Tryz.prog 20 := Qcs (fn := Tryz.f20) (by kernel_rfl) (by kernel_rfl) (by kernel_rfl)
noncomputable def B75 : Code := Tryz.f75.body.getD .skip
theorem K43 : Q7r Tryz.prog 75 := Qcs (fn := Tryz.f75) (by kernel_rfl) (by kernel_rfl) (by kernel_rfl)
noncomputable def B21 : Code := Tryz.f21.body.getD .skip
theorem K44 : Q7r Tryz.prog 21 := Qcs (fn := Tryz.f21) (by kernel_rfl) (by kernel_rfl) (by kernel_rfl)
noncomputable def K45 : Code := Tryz.f107.body.getD .skip
theorem K46 : Q7r Tryz.prog 107 := Qcs (fn := Tryz.f107) (by kernel_rfl) (by kernel_rfl) (by kernel_rfl)
noncomputable def B47 : Code := Tryz.f47.body.getD .skip
theorem K47 : Q7r Tryz.prog 47 := Qcs (fn := Tryz.f47) (by kernel_rfl) (by kernel_rfl) (by kernel_rfl)
noncomputable def K48 : Code := Tryz.f100.body.getD .skip
theorem K49 : Q7r Tryz.prog 100 := Qcs (fn := Tryz.f100) (by kernel_rfl) (by kernel_rfl) (by kernel_rfl)
noncomputable def K4a : Code := Tryz.f202.body.getD .skip
theorem K4b : Q7r Tryz.prog 202 := Qcs (fn := Tryz.f202) (by kernel_rfl) (by kernel_rfl) (by kernel_rfl)
noncomputable def K4c : Code := Tryz.f206.body.getD .skip
theorem K4d : Q7r Tryz.prog 206 := Qcs (fn := Tryz.f206) (by kernel_rfl) (by kernel_rfl) (by kernel_rfl)
noncomputable def K4e : Code := Tryz.f168.body.getD .skip
theorem K4f : Q7r Tryz.prog 168 := Qcs (fn := Tryz.f168) (by kernel_rfl) (by kernel_rfl) (by kernel_rfl)
noncomputable def K4g : Code := Tryz.f149.body.getD .skip
theorem K4h : Q7r Tryz.prog 149 := Qcs (fn := Tryz.f149) (by kernel_rfl) (by kernel_rfl) (by kernel_rfl)
noncomputable def K4i : Code := Tryz.f203.body.getD .skip
theorem K4j : Q7r Tryz.prog 203 := Qcs (fn := Tryz.f203) (by kernel_rfl) (by kernel_rfl) (by kernel_rfl)
noncomputable def K4k : Code := Tryz.f215.body.getD .skip
theorem K4l : Q7r Tryz.prog 215 := Qcs (fn := Tryz.f215) (by kernel_rfl) (by kernel_rfl) (by kernel_rfl)
noncomputable def K4m : Code := Tryz.f204.body.getD .skip
theorem K4n : Q7r Tryz.prog 204 := Qcs (fn := Tryz.f204) (by kernel_rfl) (by kernel_rfl) (by kernel_rfl)
noncomputable def K4o : Code := Tryz.f205.body.getD .skip
theorem K4p : Q7r Tryz.prog 205 := Qcs (fn := Tryz.f205) (by kernel_rfl) (by kernel_rfl) (by kernel_rfl)
noncomputable def K4q : Code := Tryz.f139.body.getD .skip
theorem K4r : Q7r Tryz.prog 139 := Qcs (fn := Tryz.f139) (by kernel_rfl) (by kernel_rfl) (by kernel_rfl)
noncomputable def K4s : Code := Tryz.f150.body.getD .skip
theorem K4t : Q7r Tryz.prog 150 := Qcs (fn := Tryz.f150) (by kernel_rfl) (by kernel_rfl) (by kernel_rfl)
noncomputable def K4u : Code := Tryz.f166.body.getD .skip
theorem K4v : Q7r Tryz.prog 166 := Qcs (fn := Tryz.f166) (by kernel_rfl) (by kernel_rfl) (by kernel_rfl)
noncomputable def K4w : Code := Tryz.f214.body.getD .skip
theorem K4x : Q7r Tryz.prog 214 := Qcs (fn := Tryz.f214) (by kernel_rfl) (by kernel_rfl) (by kernel_rfl)
noncomputable def K4y : Code := Tryz.f207.body.getD .skip
theorem K4z : Q7r Tryz.prog 207 := Qcs (fn := Tryz.f207) (by kernel_rfl) (by kernel_rfl) (by kernel_rfl)
noncomputable def K50 : Code := Tryz.f164.body.getD .skip
theorem K51 : Q7r Tryz.prog 164 := Qcs (fn := Tryz.f164) (by kernel_rfl) (by kernel_rfl) (by kernel_rfl)
noncomputable def K52 : Code := Tryz.f152.body.getD .skip
theorem K53 : Q7r Tryz.prog 152 := Qcs (fn := Tryz.f152) (by kernel_rfl) (by kernel_rfl) (by kernel_rfl)
noncomputable def K54 : Code := Tryz.f165.body.getD .skip
theorem K55 : Q7r Tryz.prog 165 := Qcs (fn := Tryz.f165) (by kernel_rfl) (by kernel_rfl) (by kernel_rfl)
noncomputable def K56 : Code := Tryz.f163.body.getD .skip
theorem K57 : Q7r Tryz.prog 163 := Qcs (fn := Tryz.f163) (by kernel_rfl) (by kernel_rfl) (by kernel_rfl)
noncomputable def K58 : Code := Tryz.f115.body.getD .skip
theorem K59 : Q7r Tryz.prog 115 := Qcs (fn := Tryz.f115) (by kernel_rfl) (by kernel_rfl) (by kernel_rfl)
noncomputable def K5a : Code := Tryz.f241.body.getD .skip
theorem K5b : Q7r Tryz.prog 241 := Qcs (fn := Tryz.f241) (by kernel_rfl) (by kernel_rfl) (by kernel_rfl)
noncomputable def K5c : Code := Tryz.f242.body.getD .skip
theorem K5d : Q7r Tryz.prog 242 := Qcs (fn := Tryz.f242) (by kernel_rfl) (by kernel_rfl) (by kernel_rfl)
noncomputable def K5e : Code := Tryz.f243.body.getD .skip
theorem K5f : Q7r Tryz.prog 243 := Qcs (fn := Tryz.f243) (by kernel_rfl) (by kernel_rfl) (by kernel_rfl)
noncomputable def K5g : Code := Tryz.f212.body.getD .skip
theorem K5h : Q7r Tryz.prog 212 := Qcs (fn := Tryz.f212) (by kernel_rfl) (by kernel_rfl) (by kernel_rfl)
noncomputable def K5i : Code := Tryz.f157.body.getD .skip
theorem K5j : Q7r Tryz.prog 157 := Qcs (fn := Tryz.f157) (by kernel_rfl) (by kernel_rfl) (by kernel_rfl)
noncomputable def K5k : Code := Tryz.f161.body.getD .skip
theorem K5l : Q7r Tryz.prog 161 := Qcs (fn := Tryz.f161) (by kernel_rfl) (by kernel_rfl) (by kernel_rfl)
noncomputable def K5m : Code := Tryz.f101.body.getD .skip
theorem K5n : Q7r Tryz.prog 101 := Qcs (fn := Tryz.f101) (by kernel_rfl) (by kernel_rfl) (by kernel_rfl)
noncomputable def B82 : Code := Tryz.f82.body.getD .skip
theorem K5o : Q7r Tryz.prog 82 := Qcs (fn := Tryz.f82) (by kernel_rfl) (by kernel_rfl) (by kernel_rfl)
noncomputable def K5p : Code := Tryz.f102.body.getD .skip
theorem K5q : Q7r Tryz.prog 102 := Qcs (fn := Tryz.f102) (by kernel_rfl) (by kernel_rfl) (by kernel_rfl)
noncomputable def B93 : Code := Tryz.f93.body.getD .skip
theorem K5r : Q7r Tryz.prog 93 := Qcs (fn := Tryz.f93) (by kernel_rfl) (by kernel_rfl) (by kernel_rfl)
noncomputable def K5s : Code := Tryz.f151.body.getD .skip
theorem K5t : Q7r Tryz.prog 151 := Qcs (fn := Tryz.f151) (by kernel_rfl) (by kernel_rfl) (by kernel_rfl)
noncomputable def K5u : Code := Tryz.f103.body.getD .skip
theorem K5v : Q7r Tryz.prog 103 := Qcs (fn := Tryz.f103) (by kernel_rfl) (by kernel_rfl) (by kernel_rfl)
noncomputable def K5w : Code := Tryz.f105.body.getD .skip
theorem K5x : Q7r Tryz.prog 105 := Qcs (fn := Tryz.f105) (by kernel_rfl) (by kernel_rfl) (by kernel_rfl)
noncomputable def K5y : Code := Tryz.f104.body.getD .skip
theorem K5z : Q7r Tryz.prog 104 := Qcs (fn := Tryz.f104) (by kernel_rfl) (by kernel_rfl) (by kernel_rfl)
noncomputable def K60 : Code := Tryz.f142.body.getD .skip
theorem K61 : Q7r Tryz.prog 142 := Qcs (fn := Tryz.f142) (by kernel_rfl) (by kernel_rfl) (by kernel_rfl)
noncomputable def K62 : Code := Tryz.f143.body.getD .skip
theorem K63 : Q7r Tryz.prog 143 := Qcs (fn := Tryz.f143) (by kernel_rfl) (by kernel_rfl) (by kernel_rfl)
noncomputable def K64 : Code := Tryz.f144.body.getD .skip
theorem K65 : Q7r Tryz.prog 144 := Qcs (fn := Tryz.f144) (by kernel_rfl) (by kernel_rfl) (by kernel_rfl)
noncomputable def K66 : Code := Tryz.f145.body.getD .skip
theorem K67 : Q7r Tryz.prog 145 := Qcs (fn := Tryz.f145) (by kernel_rfl) (by kernel_rfl) (by kernel_rfl)
noncomputable def K68 : Code := Tryz.f147.body.getD .skip
theorem K69 : Q7r Tryz.prog 147 := Qcs (fn := Tryz.f147) (by kernel_rfl) (by kernel_rfl) (by kernel_rfl)
noncomputable def K6a : Code := Tryz.f148.body.getD .skip
theorem K6b : Q7r Tryz.prog 148 := Qcs (fn := Tryz.f148) (by kernel_rfl) (by kernel_rfl) (by kernel_rfl)
noncomputable def K6c : Code := Tryz.f146.body.getD .skip
theorem K6d : Q7r Tryz.prog 146 := Qcs (fn := Tryz.f146) (by kernel_rfl) (by kernel_rfl) (by kernel_rfl)
noncomputable def K6e : Code := Tryz.f153.body.getD .skip
theorem K6f : Q7r Tryz.prog 153 := Qcs (fn := Tryz.f153) (by kernel_rfl) (by kernel_rfl) (by kernel_rfl)
noncomputable def B73 : Code := Tryz.f73.body.getD .skip
theorem K6g : Q7r Tryz.prog 73 := Qcs (fn := Tryz.f73) (by kernel_rfl) (by kernel_rfl) (by kernel_rfl)
noncomputable def K6h : Code := Tryz.f167.body.getD .skip
theorem K6i : Q7r Tryz.prog 167 := Qcs (fn := Tryz.f167) (by kernel_rfl) (by kernel_rfl) (by kernel_rfl)
noncomputable def K6j : Code := Tryz.f106.body.getD .skip
theorem K6k : Q7r Tryz.prog 106 := Qcs (fn := Tryz.f106) (by kernel_rfl) (by kernel_rfl) (by kernel_rfl)
noncomputable def B83 : Code := Tryz.f83.body.getD .skip
theorem K6l : Q7r Tryz.prog 83 := Qcs (fn := Tryz.f83) (by kernel_rfl) (by kernel_rfl) (by kernel_rfl)
noncomputable def B46 : Code := Tryz.f46.body.getD .skip
theorem K6m : Q7r Tryz.prog 46 := Qcs (fn := Tryz.f46) (by kernel_rfl) (by kernel_rfl) (by kernel_rfl)
noncomputable def K6n : Code := Tryz.f108.body.getD .skip
theorem K6o : Q7r Tryz.prog 108 := Qcs (fn := Tryz.f108) (by kernel_rfl) (by kernel_rfl) (by kernel_rfl)
noncomputable def B85 : Code := Tryz.f85.body.getD .skip
theorem K6p : Q7r Tryz.prog 85 := Qcs (fn := Tryz.f85) (by kernel_rfl) (by kernel_rfl) (by kernel_rfl)
noncomputable def K6q : Code := Tryz.f169.body.getD .skip
theorem K6r : Q7r Tryz.prog 169 := Qcs (fn := Tryz.f169) (by kernel_rfl) (by kernel_rfl) (by kernel_rfl)
noncomputable def K6s : Code := Tryz.f170.body.getD .skip
theorem K6t : Q7r Tryz.prog 170 := Qcs (fn := Tryz.f170) (by kernel_rfl) (by kernel_rfl) (by kernel_rfl)
noncomputable def B86 : Code := Tryz.f86.body.getD .skip
theorem K6u : Q7r Tryz.prog 86 := Qcs (fn := Tryz.f86) (by kernel_rfl) (by kernel_rfl) (by kernel_rfl)
noncomputable def K6v : Code := Tryz.f171.body.getD .skip
theorem K6w : Q7r Tryz.prog 171 := Qcs (fn := Tryz.f171) (by kernel_rfl) (by kernel_rfl) (by kernel_rfl)
noncomputable def K6x : Code := Tryz.f172.body.getD .skip
theorem K6y : Q7r Tryz.prog 172 := Qcs (fn := Tryz.f172) (by kernel_rfl) (by kernel_rfl) (by kernel_rfl)
noncomputable def K6z : Code := Tryz.f109.body.getD .skip
theorem K70 : Q7r Tryz.prog 109 := Qcs (fn := Tryz.f109) (by kernel_rfl) (by kernel_rfl) (by kernel_rfl)
noncomputable def K71 : Code := Tryz.f182.body.getD .skip
theorem K72 : Q7r Tryz.prog 182 := Qcs (fn := Tryz.f182) (by kernel_rfl) (by kernel_rfl) (by kernel_rfl)
noncomputable def K73 : Code := Tryz.f186.body.getD .skip
theorem K74 : Q7r Tryz.prog 186 := Qcs (fn := Tryz.f186) (by kernel_rfl) (by kernel_rfl) (by kernel_rfl)
noncomputable def K75 : Code := Tryz.f118.body.getD .skip
theorem K76 : Q7r Tryz.prog 118 := Qcs (fn := Tryz.f118) (by kernel_rfl) (by kernel_rfl) (by kernel_rfl)
noncomputable def K77 : Code := Tryz.f210.body.getD .skip
theorem K78 : Q7r Tryz.prog 210 := Qcs (fn := Tryz.f210) (by kernel_rfl) (by kernel_rfl) (by kernel_rfl)
noncomputable def K79 : Code := Tryz.f184.body.getD .skip
theorem K7a : Q7r Tryz.prog 184 := Qcs (fn := Tryz.f184) (by kernel_rfl) (by kernel_rfl) (by kernel_rfl)
noncomputable def K7b : Code := Tryz.f216.body.getD .skip
theorem K7c : Q7r Tryz.prog 216 := Qcs (fn := Tryz.f216) (by kernel_rfl) (by kernel_rfl) (by kernel_rfl)
noncomputable def K7d : Code := Tryz.f185.body.getD .skip
theorem K7e : Q7r Tryz.prog 185 := Qcs (fn := Tryz.f185) (by kernel_rfl) (by kernel_rfl) (by kernel_rfl)
noncomputable def K7f : Code := Tryz.f117.body.getD .skip
theorem K7g : Q7r Tryz.prog 117 := Qcs (fn := Tryz.f117) (by kernel_rfl) (by kernel_rfl) (by kernel_rfl)
noncomputable def K7h : Code := Tryz.f173.body.getD .skip
theorem K7i : Q7r Tryz.prog 173 := Qcs (fn := Tryz.f173) (by kernel_rfl) (by kernel_rfl) (by kernel_rfl)
noncomputable def B84 : Code := Tryz.f84.body.getD .skip
theorem K7j : Q7r Tryz.prog 84 := Qcs (fn := Tryz.f84) (by kernel_rfl) (by kernel_rfl) (by kernel_rfl)
noncomputable def K7k : Code := Tryz.f198.body.getD .skip
theorem K7l : Q7r Tryz.prog 198 := Qcs (fn := Tryz.f198) (by kernel_rfl) (by kernel_rfl) (by kernel_rfl)
noncomputable def K7m : Code := Tryz.f132.body.getD .skip
theorem K7n : Q7r Tryz.prog 132 := Qcs (fn := Tryz.f132) (by kernel_rfl) (by kernel_rfl) (by kernel_rfl)
noncomputable def K7o : Code := Tryz.f178.body.getD .skip
theorem K7p : Q7r Tryz.prog 178 := Qcs (fn := Tryz.f178) (by kernel_rfl) (by kernel_rfl) (by kernel_rfl)
noncomputable def K7q : Code := Tryz.f174.body.getD .skip
theorem K7r : Q7r Tryz.prog 174 := Qcs (fn := Tryz.f174) (by kernel_rfl) (by kernel_rfl) (by kernel_rfl)
noncomputable def K7s : Code := Tryz.f219.body.getD .skip
theorem K7t : Q7r Tryz.prog 219 := Qcs (fn := Tryz.f219) (by kernel_rfl) (by kernel_rfl) (by kernel_rfl)
noncomputable def K7u : Code := Tryz.f176.body.getD .skip
theorem K7v : Q7r Tryz.prog 176 := Qcs (fn := Tryz.f176) (by kernel_rfl) (by kernel_rfl) (by kernel_rfl)
noncomputable def K7w : Code := Tryz.f218.body.getD .skip
theorem K7x : Q7r Tryz.prog 218 := Qcs (fn := Tryz.f218) (by kernel_rfl) (by kernel_rfl) (by kernel_rfl)
noncomputable def K7y : Code := Tryz.f217.body.getD .skip
theorem K7z : Q7r Tryz.prog 217 := Qcs (fn := Tryz.f217) (by kernel_rfl) (by kernel_rfl) (by kernel_rfl)
noncomputable def K80 : Code := Tryz.f175.body.getD .skip
theorem K81 : Q7r Tryz.prog 175 := Qcs (fn := Tryz.f175) (by kernel_rfl) (by kernel_rfl) (by kernel_rfl)
noncomputable def K82 : Code := Tryz.f177.body.getD .skip
theorem K83 : Q7r Tryz.prog 177 := Qcs (fn := Tryz.f177) (by kernel_rfl) (by kernel_rfl) (by kernel_rfl)
noncomputable def B77 : Code := Tryz.f77.body.getD .skip
theorem K84 : Q7r Tryz.prog 77 := Qcs (fn := Tryz.f77) (by kernel_rfl) (by kernel_rfl) (by kernel_rfl)
noncomputable def K85 : Code := Tryz.f244.body.getD .skip
theorem K86 : Q7r Tryz.prog 244 := Qcs (fn := Tryz.f244) (by kernel_rfl) (by kernel_rfl) (by kernel_rfl)
noncomputable def K87 : Code := Tryz.f221.body.getD .skip
theorem K88 : Q7r Tryz.prog 221 := Qcs (fn := Tryz.f221) (by kernel_rfl) (by kernel_rfl) (by kernel_rfl)
noncomputable def K89 : Code := Tryz.f220.body.getD .skip
theorem K8a : Q7r Tryz.prog 220 := Qcs (fn := Tryz.f220) (by kernel_rfl) (by kernel_rfl) (by kernel_rfl)
noncomputable def K8b : Code := Tryz.f222.body.getD .skip
theorem K8c : Q7r Tryz.prog 222 := Qcs (fn := Tryz.f222) (by kernel_rfl) (by kernel_rfl) (by kernel_rfl)
noncomputable def K8d : Code := Tryz.f245.body.getD .skip
theorem K8e : Q7r Tryz.prog 245 := Qcs (fn := Tryz.f245) (by kernel_rfl) (by kernel_rfl) (by kernel_rfl)
noncomputable def K8f : Code := Tryz.f223.body.getD .skip
theorem K8g : Q7r Tryz.prog 223 := Qcs (fn := Tryz.f223) (by kernel_rfl) (by kernel_rfl) (by kernel_rfl)
noncomputable def K8h : Code := Tryz.f246.body.getD .skip
theorem K8i : Q7r Tryz.prog 246 := Qcs (fn := Tryz.f246) (by kernel_rfl) (by kernel_rfl) (by kernel_rfl)
noncomputable def K8j : Code := Tryz.f248.body.getD .skip
theorem K8k : Q7r Tryz.prog 248 := Qcs (fn := Tryz.f248) (by kernel_rfl) (by kernel_rfl) (by kernel_rfl)
noncomputable def K8l : Code := Tryz.f238.body.getD .skip
theorem K8m : Q7r Tryz.prog 238 := Qcs (fn := Tryz.f238) (by kernel_rfl) (by kernel_rfl) (by kernel_rfl)
noncomputable def K8n : Code := Tryz.f224.body.getD .skip
theorem K8o : Q7r Tryz.prog 224 := Qcs (fn := Tryz.f224) (by kernel_rfl) (by kernel_rfl) (by kernel_rfl)
noncomputable def K8p : Code := Tryz.f225.body.getD .skip
theorem K8q : Q7r Tryz.prog 225 := Qcs (fn := Tryz.f225) (by kernel_rfl) (by kernel_rfl) (by kernel_rfl)
noncomputable def K8r : Code := Tryz.f226.body.getD .skip
theorem K8s : Q7r Tryz.prog 226 := Qcs (fn := Tryz.f226) (by kernel_rfl) (by kernel_rfl) (by kernel_rfl)
noncomputable def K8t : Code := Tryz.f179.body.getD .skip
theorem K8u : Q7r Tryz.prog 179 := Qcs (fn := Tryz.f179) (by kernel_rfl) (by kernel_rfl) (by kernel_rfl)
noncomputable def K8v : Code := Tryz.f110.body.getD .skip
theorem K8w : Q7r Tryz.prog 110 := Qcs (fn := Tryz.f110) (by kernel_rfl) (by kernel_rfl) (by kernel_rfl)
noncomputable def B48 : Code := Tryz.f48.body.getD .skip
theorem K8x : Q7r Tryz.prog 48 := Qcs (fn := Tryz.f48) (by kernel_rfl) (by kernel_rfl) (by kernel_rfl)
noncomputable def B23 : Code := Tryz.f23.body.getD .skip
theorem K8y : Q7r Tryz.prog 23 := Qcs (fn := Tryz.f23) (by kernel_rfl) (by kernel_rfl) (by kernel_rfl)
noncomputable def B78 : Code := Tryz.f78.body.getD .skip
theorem K8z : Q7r Tryz.prog 78 := Qcs (fn := Tryz.f78) (by kernel_rfl) (by kernel_rfl) (by kernel_rfl)
noncomputable def B24 : Code := Tryz.f24.body.getD .skip
theorem K90 : Q7r Tryz.prog 24 := Qcs (fn := Tryz.f24) (by kernel_rfl) (by kernel_rfl) (by kernel_rfl)
noncomputable def B25 : Code := Tryz.f25.body.getD .skip
theorem K91 : Q7r Tryz.prog 25 := Qcs (fn := Tryz.f25) (by kernel_rfl) (by kernel_rfl) (by kernel_rfl)
noncomputable def B79 : Code := Tryz.f79.body.getD .skip
theorem K92 : Q7r Tryz.prog 79 := Qcs (fn := Tryz.f79) (by kernel_rfl) (by kernel_rfl) (by kernel_rfl)
noncomputable def B26 : Code := Tryz.f26.body.getD .skip
theorem K93 : Q7r Tryz.prog 26 := Qcs (fn := Tryz.f26) (by kernel_rfl) (by kernel_rfl) (by kernel_rfl)
noncomputable def K94 : Code := Tryz.f111.body.getD .skip
theorem K95 : Q7r Tryz.prog 111 := Qcs (fn := Tryz.f111) (by kernel_rfl) (by kernel_rfl) (by kernel_rfl)
noncomputable def B49 : Code := Tryz.f49.body.getD .skip
theorem K96 : Q7r Tryz.prog 49 := Qcs (fn := Tryz.f49) (by kernel_rfl) (by kernel_rfl) (by kernel_rfl)
noncomputable def B9 : Code := Tryz.f9.body.getD .skip
theorem K97 : Q7r Tryz.prog 9 := Qcs (fn := Tryz.f9) (by kernel_rfl) (by kernel_rfl) (by kernel_rfl)

theorem rg {c : Ctx} {code : Code} {Q : Exit → Q0a → Prop} {nt : Nat} (hnt : c.nt = nt) (ah : Option (List (List Nat))) (rs : List (Option Orc)) {T : List (Nat × AV)} {O : List (Nat × Q09)} (T' : List (Nat × AV)) (O' : List (Nat × Q09)) {A : Prop} (h : A)
    (hQ : Q .normal (mkS T' O')) (hk : Nat.beq (Qbs code) 0 = true := by kernel_rfl) (e1 : (Qan TIx Tryz.prog nt (Qbo code) ah rs T O (T'.map (·.1)) (O'.map (·.1))).map (fun r => (r.T, Qap r.O)) = some (T', O') := by kernel_rfl)
    (e2 : A = Qce (Qan TIx Tryz.prog nt (Qbo code) ah rs T O (T'.map (·.1)) (O'.map (·.1))) := by kernel_rfl) (hdraw : ((!Qbp code && ah.isNone) || ah.isSome) = true := by kernel_rfl) : Wp Tryz.prog c code Q (mkS T O) := Wp.reg K3q mix hnt hk e1 h e2 hdraw hQ
theorem rg0 {c : Ctx} {code : Code} {Q : Exit → Q0a → Prop} {nt : Nat} (hnt : c.nt = nt) (n : Nat) {T : List (Nat × AV)} {O : List (Nat × Q09)} (T' : List (Nat × AV)) (O' : List (Nat × Q09))
    (hQ : Q .normal (mkS T' O')) (hk : Nat.beq (Qbs code) 0 = true := by kernel_rfl) (e1 : (Qan TIx Tryz.prog nt (Qbo code) none (List.replicate n (some .no)) T O (T'.map (·.1)) (O'.map (·.1))).map (fun r => (r.T, Qap r.O)) = some (T', O') := by kernel_rfl)
    (e2 : True = Qce (Qan TIx Tryz.prog nt (Qbo code) none (List.replicate n (some .no)) T O (T'.map (·.1)) (O'.map (·.1))) := by kernel_rfl) (hdraw : ((!Qbp code && true) || false) = true := by kernel_rfl) : Wp Tryz.prog c code Q (mkS T O) := Wp.reg K3q mix hnt hk e1 trivial e2 hdraw hQ
theorem rgs {c : Ctx} {code : Code} {Q : Exit → Q0a → Prop} {nt : Nat} (hnt : c.nt = nt) (ah : Option (List (List Nat))) (rs : List (Option Orc)) {T : List (Nat × AV)} {O : List (Nat × Q09)} (T' : List (Nat × AV)) {A : Prop} (h : A)
    (hQ : Q .normal (mkS T' O)) (hk : Nat.beq (Qbs code) 0 = true := by kernel_rfl) (e1 : (Qan TIx Tryz.prog nt (Qbo code) ah rs T O (T'.map (·.1)) (O.map (·.1))).map (fun r => (r.T, Qap r.O)) = some (T', O) := by kernel_rfl)
    (e2 : A = Qce (Qan TIx Tryz.prog nt (Qbo code) ah rs T O (T'.map (·.1)) (O.map (·.1))) := by kernel_rfl) (hdraw : ((!Qbp code && ah.isNone) || ah.isSome) = true := by kernel_rfl) : Wp Tryz.prog c code Q (mkS T O) := rg hnt ah rs T' O h hQ hk e1 e2 hdraw
theorem K98 {c : Ctx} {code : Code} {Q : Exit → Q0a → Prop} {nt : Nat} (hnt : c.nt = nt) (n : Nat) {T : List (Nat × AV)} {O : List (Nat × Q09)} (T' : List (Nat × AV))
    (hQ : Q .normal (mkS T' O)) (hk : Nat.beq (Qbs code) 0 = true := by kernel_rfl) (e1 : (Qan TIx Tryz.prog nt (Qbo code) none (List.replicate n (some .no)) T O (T'.map (·.1)) (O.map (·.1))).map (fun r => (r.T, Qap r.O)) = some (T', O) := by kernel_rfl)
    (e2 : True = Qce (Qan TIx Tryz.prog nt (Qbo code) none (List.replicate n (some .no)) T O (T'.map (·.1)) (O.map (·.1))) := by kernel_rfl) (hdraw : ((!Qbp code && true) || false) = true := by kernel_rfl) : Wp Tryz.prog c code Q (mkS T O) := rg0 hnt n T' O hQ hk e1 e2 hdraw
theorem ix {e : List Int} {i : Int} {x : Int} (h : idx e i = some x) : 0 ≤ i ∧ (e.map I)[i.toNat]? = some (.int .i64 x) := Qcx (enc := I) (x := .int .i64 x) h (Qd8 x)
def rep : Nat → Prop → Prop → Prop
  | 0, _, b => b
  | n + 1, a, b => a ∧ rep n a b
theorem ar {a b : Prop} : ∀ (n : Nat) (x : a) (y : b), rep n a b
  | 0, _, y => y
  | n + 1, x, y => ⟨x, ar n x y⟩
theorem rs {c : Ctx} {code : Code} {Q : Exit → Q0a → Prop} {nt : Nat} (hnt : c.nt = nt) (ah : Option (List (List Nat))) (rs : List (Option Orc)) {T : List (Nat × AV)} {O : List (Nat × Q09)} (T' : List (Nat × AV)) (O' : List (Nat × Q09)) {A : Prop} (h : A)
    (hQ : Wp Tryz.prog c (cr code) Q (mkS T' O')) (h1 : Nat.beq (Qbs code) 1 = true := by kernel_rfl) (hk : Nat.beq (Qbs (cl code)) 0 = true := by kernel_rfl) (e1 : (Qan TIx Tryz.prog nt (Qbo (cl code)) ah rs T O (T'.map (·.1)) (O'.map (·.1))).map (fun r => (r.T, Qap r.O)) = some (T', O') := by kernel_rfl)
    (e2 : A = Qce (Qan TIx Tryz.prog nt (Qbo (cl code)) ah rs T O (T'.map (·.1)) (O'.map (·.1))) := by kernel_rfl) (hdraw : ((!Qbp (cl code) && ah.isNone) || ah.isSome) = true := by kernel_rfl) : Wp Tryz.prog c code Q (mkS T O) := Wp.seqN h1 (Wp.reg K3q mix hnt hk e1 h e2 hdraw (Qc4 hQ))
theorem rs0 {c : Ctx} {code : Code} {Q : Exit → Q0a → Prop} {nt : Nat} (hnt : c.nt = nt) (n : Nat) {T : List (Nat × AV)} {O : List (Nat × Q09)} (T' : List (Nat × AV)) (O' : List (Nat × Q09))
    (hQ : Wp Tryz.prog c (cr code) Q (mkS T' O')) (h1 : Nat.beq (Qbs code) 1 = true := by kernel_rfl) (hk : Nat.beq (Qbs (cl code)) 0 = true := by kernel_rfl) (e1 : (Qan TIx Tryz.prog nt (Qbo (cl code)) none (List.replicate n (some .no)) T O (T'.map (·.1)) (O'.map (·.1))).map (fun r => (r.T, Qap r.O)) = some (T', O') := by kernel_rfl)
    (e2 : True = Qce (Qan TIx Tryz.prog nt (Qbo (cl code)) none (List.replicate n (some .no)) T O (T'.map (·.1)) (O'.map (·.1))) := by kernel_rfl) (hdraw : ((!Qbp (cl code) && true) || false) = true := by kernel_rfl) : Wp Tryz.prog c code Q (mkS T O) := Wp.seqN h1 (Wp.reg K3q mix hnt hk e1 trivial e2 hdraw (Qc4 hQ))
theorem rss {c : Ctx} {code : Code} {Q : Exit → Q0a → Prop} {nt : Nat} (hnt : c.nt = nt) (ah : Option (List (List Nat))) (rs' : List (Option Orc)) {T : List (Nat × AV)} {O : List (Nat × Q09)} (T' : List (Nat × AV)) {A : Prop} (h : A)
    (hQ : Wp Tryz.prog c (cr code) Q (mkS T' O)) (h1 : Nat.beq (Qbs code) 1 = true := by kernel_rfl) (hk : Nat.beq (Qbs (cl code)) 0 = true := by kernel_rfl) (e1 : (Qan TIx Tryz.prog nt (Qbo (cl code)) ah rs' T O (T'.map (·.1)) (O.map (·.1))).map (fun r => (r.T, Qap r.O)) = some (T', O) := by kernel_rfl)
    (e2 : A = Qce (Qan TIx Tryz.prog nt (Qbo (cl code)) ah rs' T O (T'.map (·.1)) (O.map (·.1))) := by kernel_rfl) (hdraw : ((!Qbp (cl code) && ah.isNone) || ah.isSome) = true := by kernel_rfl) : Wp Tryz.prog c code Q (mkS T O) := rs hnt ah rs' T' O h hQ h1 hk e1 e2 hdraw
theorem K99 {c : Ctx} {code : Code} {Q : Exit → Q0a → Prop} {nt : Nat} (hnt : c.nt = nt) (n : Nat) {T : List (Nat × AV)} {O : List (Nat × Q09)} (T' : List (Nat × AV))
    (hQ : Wp Tryz.prog c (cr code) Q (mkS T' O)) (h1 : Nat.beq (Qbs code) 1 = true := by kernel_rfl) (hk : Nat.beq (Qbs (cl code)) 0 = true := by kernel_rfl) (e1 : (Qan TIx Tryz.prog nt (Qbo (cl code)) none (List.replicate n (some .no)) T O (T'.map (·.1)) (O.map (·.1))).map (fun r => (r.T, Qap r.O)) = some (T', O) := by kernel_rfl)
    (e2 : True = Qce (Qan TIx Tryz.prog nt (Qbo (cl code)) none (List.replicate n (some .no)) T O (T'.map (·.1)) (O.map (·.1))) := by kernel_rfl) (hdraw : ((!Qbp (cl code) && true) || false) = true := by kernel_rfl) : Wp Tryz.prog c code Q (mkS T O) := rs0 hnt n T' O hQ h1 hk e1 e2 hdraw
theorem vz {c : Ctx} {code : Code} {Q : Exit → Q0a → Prop} {T : List (Nat × AV)} {O : List (Nat × Q09)} (k : Nat) {xs xs' : List AV} (hs : Q02 xs = xs') (T' : List (Nat × AV)) (O' : List (Nat × Q09)) (h : Wp Tryz.prog c code Q (mkS T' O')) (hO : lkO O k = some (.arr xs) := by kernel_rfl)
    (hT : T.map (fun p => (p.1, frz k (.sl xs') p.2)) = T' := by kernel_rfl) (hO' : ((O.filter fun p => !Nat.beq p.1 k).map fun p => (p.1, Qe8 k (.sl xs') p.2)) = O' := by kernel_rfl) : Wp Tryz.prog c code Q (mkS T O) := Wp.view (fun _ _ hv => SRx.frzL k hv hO hs hT hO') h
theorem vb {c : Ctx} {code : Code} {Q : Exit → Q0a → Prop} {T : List (Nat × AV)} {O : List (Nat × Q09)} (k : Nat) (cs : List AV) (T' : List (Nat × AV)) (O' : List (Nat × Q09)) (h : Wp Tryz.prog c code Q (mkS T' O')) (hO : lkO O k = some (.box cs) := by kernel_rfl) (hp : cs.all plain = true := by kernel_rfl)
    (hT : T.map (fun p => (p.1, frb k (cs.map nzC) p.2)) = T' := by kernel_rfl) (hO' : ((O.filter fun p => !Nat.beq p.1 k).map fun p => (p.1, Qef k (cs.map nzC) p.2)) = O' := by kernel_rfl) : Wp Tryz.prog c code Q (mkS T O) := Wp.view (fun _ _ hv => SRx.frbL k (cs := cs) hv hO hp hT hO') h
theorem b0 {f : FuncId} (fn : Func) (code : Code) {args : List AV} {res : AV} (nt : Nat) (T : List (Nat × AV)) (h : ∀ c : Ctx, c.nt = nt → Wp Tryz.prog c code (Qcl TIx fn [] res) (mkS T [])) (hf : Tryz.prog.funcs[f]? = some fn := by kernel_rfl) (hb : fn.body = some code := by kernel_rfl) (hok : Qay args = true := by kernel_rfl) (ha : args.all (fun x => !Qcm x) = true := by kernel_rfl)
    (hnt : Nat.beq fn.ntmps nt = true := by kernel_rfl) (hle : Nat.ble args.length nt = true := by kernel_rfl) (hT : Qaw args = T := by kernel_rfl) (hO : Qax args = [] := by kernel_rfl) : Q71 Tryz.prog f args res [] := Q71.body0 K3q hf hb hok ha hnt hle hT hO h
theorem iv {c : Ctx} {x : Exit} (ρ : List (Nat × Nat)) {T T' : List (Nat × AV)} {O O' : List (Nat × Q09)} (hT : (T'.map fun p => rn (rnk ρ) p.2) = T'.map fun p => lk .undef T p.1 := by kernel_rfl)
    (hO : (O'.map fun p => some (rnO (rnk ρ) p.2)) = O'.map fun p => lkO O (rnk ρ p.1) := by kernel_rfl) (hB : Qch ρ O' = true := by kernel_rfl) : Qcf c x (mkS T' O') x (mkS T O) := Qcf.view (fun _ _ hv => SRx.renL ρ hv hT hO hB)
theorem bk {c : Ctx} {code : Code} {Q : Exit → Q0a → Prop} {σ : Q0a} (i : Nat) (h : Wp Tryz.prog c (cl code) (Qc2 i Q) σ) (hk : (Nat.beq (Qbs code) 3 && Nat.beq (Qbq code) i) = true := by kernel_rfl) : Wp Tryz.prog c code Q σ := Wp.blockN hk h
theorem xt {c : Ctx} {code : Code} {Q : Exit → Q0a → Prop} {σ : Q0a} (i : Nat) (h : Q (.exit i) σ) (hk : (Nat.beq (Qbs code) 5 && Nat.beq (Qbq code) i) = true := by kernel_rfl) : Wp Tryz.prog c code Q σ := Wp.exitN hk h
theorem lp {c : Ctx} {code : Code} {Q : Exit → Q0a → Prop} {σ : Q0a} (h : WpL Tryz.prog c (cl code) Q σ) (hk : Nat.beq (Qbs code) 4 = true := by kernel_rfl) : Wp Tryz.prog c code Q σ := Wp.loopN hk h
theorem re {fn : Func} {args : List AV} (fl : List Bool) {T : List (Nat × AV)} {O : List (Nat × Q09)} {res : AV} (h : Qck TIx fn args fl T O = some res := by kernel_rfl) : Qco TIx fn args res .ret (mkS T O) := Qco.ret h
abbrev sL (l : List (List Int)) : AV := .sl (List.map K07 l)
abbrev rI (l : List Int) : Q09 := .arr (List.map I l)
abbrev oI (l : List Int) : AV := .osl (List.map I l)
theorem rt {c : Ctx} {code : Code} {Q : Exit → Q0a → Prop} {σ : Q0a} (h : Q .ret σ) (hk : Nat.beq (Qbs code) 6 = true := by kernel_rfl) : Wp Tryz.prog c code Q σ := Wp.retN hk h
theorem sk {c : Ctx} {code : Code} {Q : Exit → Q0a → Prop} {σ : Q0a} (h : Q .normal σ) (hk : Nat.beq (Qbs code) 7 = true := by kernel_rfl) : Wp Tryz.prog c code Q σ := Wp.skipN hk h
theorem rq {fn : Func} {args : List AV} (fl : List Bool) {T : List (Nat × AV)} {O : List (Nat × Q09)} {res : AV} (h : Qck TIx fn args fl T O = some res := by kernel_rfl) : Qcl TIx fn args res .ret (mkS T O) := Qcl.ret h
theorem is {α : Type} {b : Bool} {x y : Option α} {r : α} (h : (if b = true then x else y) = some r) : (b = true ∧ x = some r) ∨ (b = false ∧ y = some r) := Qcu h
theorem os {α : Type} {a b : α} (h : some a = some b) : a = b := Option.some.inj h
abbrev sI (l : List Int) : AV := .sl (List.map I l)
abbrev sB (l : List Bool) : AV := .sl (List.map AV.bool l)
def rx (l : List (List Nat)) : Option (List (List Nat)) := some (l.map fun r => match r with | n :: e => List.range n ++ e | [] => [])
def rh (l : List Nat) : Option (List (List Nat)) := some (l.map List.range)
theorem ai {a b : Prop} (x : a) (y : b) : a ∧ b := ⟨x, y⟩
theorem oi (v : AV) : ([] : List Nat) = [] ∨ noSh v = true := Or.inl rfl
theorem ab {a b r : Prop} (x : a) (y : b) (t : r) : a ∧ b ∧ r := ⟨x, y, t⟩
theorem ac {a b c r : Prop} (x : a) (y : b) (z : c) (t : r) : a ∧ b ∧ c ∧ r := ⟨x, y, z, t⟩
theorem ad {a b c d r : Prop} (x : a) (y : b) (z : c) (w : d) (t : r) : a ∧ b ∧ c ∧ d ∧ r := ⟨x, y, z, w, t⟩
theorem cq {P : Program} {f : FuncId} {xs : List AV} {os : List AV} {v : AV} {b r : Prop} (x : Q71 P f xs v os) (y : b) (t : r) : Q71 P f xs v os ∧ b ∧ (([] : List Nat) = [] ∨ noSh v = true) ∧ r := ⟨x, y, Or.inl rfl, t⟩
abbrev tv : True := trivial
abbrev LL := List (List Int)
theorem xL {e : List (List Int)} {i : Int} {x : List Int} (h : idx e i = some x) : 0 ≤ i ∧ (e.map K07)[i.toNat]? = some (.sl (List.map I x)) := Qcx (enc := K07) (x := .sl (List.map I x)) h (K08 x)
theorem ic {c : Ctx} {code : Code} {Q : Exit → Q0a → Prop} {σ : Q0a} {α : Type} {b : Bool} {x y : Option α} {r : α} (h : (if b = true then x else y) = some r) (hT : b = true → x = some r → Wp Tryz.prog c (cl code) Q σ) (hF : b = false → y = some r → Wp Tryz.prog c (cr code) Q σ)
    (hk : Nat.beq (Qbs code) 2 = true := by kernel_rfl) (hx : opv σ (Qbr code) = .bool b := by kernel_rfl) : Wp Tryz.prog c code Q σ := (Qcu h).elim (fun q => Wp.condT hk hx q.1 (hT q.1 q.2)) (fun q => Wp.condF hk hx q.1 (hF q.1 q.2))
theorem bq2 {α β γ : Type} {x : Option α} {f : α → Option β} {g : α → β → Option γ} {r : γ} (h : (x >>= fun a => f a >>= fun b => g a b) = some r) : ∃ a, x = some a ∧ ∃ b, f a = some b ∧ g a b = some r := let ⟨a, ha, h⟩ := Qct h; let ⟨b, hb, h⟩ := Qct h; ⟨a, ha, b, hb, h⟩
theorem bq3 {α β γ δ : Type} {x : Option α} {f : α → Option β} {g : α → β → Option γ} {k : α → β → γ → Option δ} {r : δ} (h : (x >>= fun a => f a >>= fun b => g a b >>= fun c => k a b c) = some r) : ∃ a, x = some a ∧ ∃ b, f a = some b ∧ ∃ c, g a b = some c ∧ k a b c = some r := let ⟨a, ha, b, hb, h⟩ := bq2 h; let ⟨c, hc, h⟩ := Qct h; ⟨a, ha, b, hb, c, hc, h⟩
theorem bq4 {α β γ δ ε : Type} {x : Option α} {f : α → Option β} {g : α → β → Option γ} {k : α → β → γ → Option δ} {l : α → β → γ → δ → Option ε} {r : ε} (h : (x >>= fun a => f a >>= fun b => g a b >>= fun c => k a b c >>= fun d => l a b c d) = some r) : ∃ a, x = some a ∧ ∃ b, f a = some b ∧ ∃ c, g a b = some c ∧ ∃ d, k a b c = some d ∧ l a b c d = some r := let ⟨a, ha, b, hb, c, hc, h⟩ := bq3 h; let ⟨d, hd, h⟩ := Qct h; ⟨a, ha, b, hb, c, hc, d, hd, h⟩
theorem tt : true = true := rfl
theorem nf : true ≠ false := fun h => nomatch h
abbrev oN : Option Orc := some .no
abbrev oF : Option Orc := some (.cond false)
abbrev oT : Option Orc := some (.cond true)
abbrev o_ : Option Orc := none
abbrev oc (v : AV) : Option Orc := some (.call v [] 1)
theorem sN {c : Ctx} {code : Code} {Q : Exit → Q0a → Prop} {σ : Q0a} (h : Wp Tryz.prog c (cl code) (Qc1 Tryz.prog c (cr code) Q) σ) (hk : Nat.beq (Qbs code) 1 = true := by kernel_rfl) : Wp Tryz.prog c code Q σ := Wp.seqN hk h
theorem cT {c : Ctx} {code : Code} {Q : Exit → Q0a → Prop} {σ : Q0a} (b : Bool) (hb : b = true) (h1 : Wp Tryz.prog c (cl code) Q σ) (hk : Nat.beq (Qbs code) 2 = true := by kernel_rfl) (hx : opv σ (Qbr code) = .bool b := by kernel_rfl) : Wp Tryz.prog c code Q σ := Wp.condT hk hx hb h1
theorem cF {c : Ctx} {code : Code} {Q : Exit → Q0a → Prop} {σ : Q0a} (b : Bool) (hb : b = false) (h1 : Wp Tryz.prog c (cr code) Q σ) (hk : Nat.beq (Qbs code) 2 = true := by kernel_rfl) (hx : opv σ (Qbr code) = .bool b := by kernel_rfl) : Wp Tryz.prog c code Q σ := Wp.condF hk hx hb h1
end Go.Am
