/- The table of types, and the bodies. Printed by a program of mine (gen.py). -/
import Derived.Test.YtmcpomoofkjfcaaGreatGETTy
import Derived.Test.YtmcpomoofkjfcaaGreatChecked
set_option linter.unusedVariables false
set_option linter.unusedSimpArgs false
set_option maxRecDepth 100000
namespace Go.Am
open Go Go.Proofs
def tis : List (Nat × Q1o) := [(25, ⟨.struct [(0, 3), (1, 22), (2, 22), (3, 23)], 4, 80, .agg [.int .i64 0, .nils, .nils, .nils]⟩),
  (22, ⟨.slice 3, 1, 24, .nils⟩),
  (26, ⟨.slice 22, 1, 24, .nils⟩),
  (29, ⟨.struct [(0, 3), (1, 3), (2, 22), (3, 27)], 4, 64, .agg [.int .i64 0, .int .i64 0, .nils, .nils]⟩),
  (4, ⟨.bool, 1, 1, .bool false⟩),
  (3, ⟨.int .i64, 1, 8, .int .i64 0⟩),
  (23, ⟨.slice 4, 1, 24, .nils⟩),
  (27, ⟨.slice 29, 1, 24, .nils⟩),
  (35, ⟨.struct [(0, 3), (1, 22), (2, 22), (3, 23)], 4, 80, .agg [.int .i64 0, .nils, .nils, .nils]⟩),
  (40, ⟨.struct [(0, 3), (1, 3), (2, 22), (3, 38)], 4, 64, .agg [.int .i64 0, .int .i64 0, .nils, .nils]⟩),
  (38, ⟨.slice 40, 1, 24, .nils⟩),
  (89, ⟨.struct [(0, 22), (1, 22), (2, 3), (3, 22)], 4, 80, .agg [.nils, .nils, .int .i64 0, .nils]⟩),
  (93, ⟨.pointer 97, 1, 8, .nilp⟩),
  (179, ⟨.struct [(0, 9), (1, 3), (2, 4), (3, 4)], 4, 32, .agg [.str ByteArray.empty, .int .i64 0, .bool false, .bool false]⟩),
  (9, ⟨.string, 1, 16, .str ByteArray.empty⟩),
  (204, ⟨.slice 179, 1, 24, .nils⟩),
  (160, ⟨.struct [(0, 35)], 4, 80, .agg [.int .i64 0, .nils, .nils, .nils]⟩),
  (97, ⟨.struct [(0, 22), (1, 22), (2, 95), (3, 3), (4, 22)], 5, 104, .agg [.nils, .nils, .nils, .int .i64 0, .nils]⟩),
  (95, ⟨.slice 93, 1, 24, .nils⟩),
  (199, ⟨.slice 26, 1, 24, .nils⟩)]
def TIx : Nat → Option Q1o := lk none (tis.map fun p => (p.1, some p.2))
theorem K2c : Q1u Tryz.prog 25 ⟨.struct [(0, 3), (1, 22), (2, 22), (3, 23)], 4, 80, .agg [.int .i64 0, .nils, .nils, .nils]⟩ := ⟨by kernel_rfl, by kernel_rfl, by kernel_rfl, by kernel_rfl⟩
theorem K2d : Q1u Tryz.prog 22 ⟨.slice 3, 1, 24, .nils⟩ := ⟨by kernel_rfl, by kernel_rfl, by kernel_rfl, by kernel_rfl⟩
theorem K2e : Q1u Tryz.prog 26 ⟨.slice 22, 1, 24, .nils⟩ := ⟨by kernel_rfl, by kernel_rfl, by kernel_rfl, by kernel_rfl⟩
theorem K2f : Q1u Tryz.prog 29 ⟨.struct [(0, 3), (1, 3), (2, 22), (3, 27)], 4, 64, .agg [.int .i64 0, .int .i64 0, .nils, .nils]⟩ := ⟨by kernel_rfl, by kernel_rfl, by kernel_rfl, by kernel_rfl⟩
theorem K2g : Q1u Tryz.prog 4 ⟨.bool, 1, 1, .bool false⟩ := ⟨by kernel_rfl, by kernel_rfl, by kernel_rfl, by kernel_rfl⟩
theorem K2h : Q1u Tryz.prog 3 ⟨.int .i64, 1, 8, .int .i64 0⟩ := ⟨by kernel_rfl, by kernel_rfl, by kernel_rfl, by kernel_rfl⟩
theorem K2i : Q1u Tryz.prog 23 ⟨.slice 4, 1, 24, .nils⟩ := ⟨by kernel_rfl, by kernel_rfl, by kernel_rfl, by kernel_rfl⟩
theorem K2j : Q1u Tryz.prog 27 ⟨.slice 29, 1, 24, .nils⟩ := ⟨by kernel_rfl, by kernel_rfl, by kernel_rfl, by kernel_rfl⟩
theorem K2k : Q1u Tryz.prog 35 ⟨.struct [(0, 3), (1, 22), (2, 22), (3, 23)], 4, 80, .agg [.int .i64 0, .nils, .nils, .nils]⟩ := ⟨by kernel_rfl, by kernel_rfl, by kernel_rfl, by kernel_rfl⟩
theorem K2l : Q1u Tryz.prog 40 ⟨.struct [(0, 3), (1, 3), (2, 22), (3, 38)], 4, 64, .agg [.int .i64 0, .int .i64 0, .nils, .nils]⟩ := ⟨by kernel_rfl, by kernel_rfl, by kernel_rfl, by kernel_rfl⟩
theorem K2m : Q1u Tryz.prog 38 ⟨.slice 40, 1, 24, .nils⟩ := ⟨by kernel_rfl, by kernel_rfl, by kernel_rfl, by kernel_rfl⟩
theorem K2n : Q1u Tryz.prog 89 ⟨.struct [(0, 22), (1, 22), (2, 3), (3, 22)], 4, 80, .agg [.nils, .nils, .int .i64 0, .nils]⟩ := ⟨by kernel_rfl, by kernel_rfl, by kernel_rfl, by kernel_rfl⟩
theorem K2o : Q1u Tryz.prog 93 ⟨.pointer 97, 1, 8, .nilp⟩ := ⟨by kernel_rfl, by kernel_rfl, by kernel_rfl, by kernel_rfl⟩
theorem K2p : Q1u Tryz.prog 179 ⟨.struct [(0, 9), (1, 3), (2, 4), (3, 4)], 4, 32, .agg [.str ByteArray.empty, .int .i64 0, .bool false, .bool false]⟩ := ⟨by kernel_rfl, by kernel_rfl, by kernel_rfl, by kernel_rfl⟩
theorem K2q : Q1u Tryz.prog 9 ⟨.string, 1, 16, .str ByteArray.empty⟩ := ⟨by kernel_rfl, by kernel_rfl, by kernel_rfl, by kernel_rfl⟩
theorem K2r : Q1u Tryz.prog 204 ⟨.slice 179, 1, 24, .nils⟩ := ⟨by kernel_rfl, by kernel_rfl, by kernel_rfl, by kernel_rfl⟩
theorem K2s : Q1u Tryz.prog 160 ⟨.struct [(0, 35)], 4, 80, .agg [.int .i64 0, .nils, .nils, .nils]⟩ := ⟨by kernel_rfl, by kernel_rfl, by kernel_rfl, by kernel_rfl⟩
theorem K2t : Q1u Tryz.prog 97 ⟨.struct [(0, 22), (1, 22), (2, 95), (3, 3), (4, 22)], 5, 104, .agg [.nils, .nils, .nils, .int .i64 0, .nils]⟩ := ⟨by kernel_rfl, by kernel_rfl, by kernel_rfl, by kernel_rfl⟩
theorem K2u : Q1u Tryz.prog 95 ⟨.slice 93, 1, 24, .nils⟩ := ⟨by kernel_rfl, by kernel_rfl, by kernel_rfl, by kernel_rfl⟩
theorem K2v : Q1u Tryz.prog 199 ⟨.slice 26, 1, 24, .nils⟩ := ⟨by kernel_rfl, by kernel_rfl, by kernel_rfl, by kernel_rfl⟩
theorem K2w : Q1v Tryz.prog TIx := Q1v.of_list tis (by
  intro p hp
  simp only [tis, List.mem_cons, List.not_mem_nil, or_false] at hp
  rcases hp with rfl | rfl | rfl | rfl | rfl | rfl | rfl | rfl | rfl | rfl | rfl | rfl | rfl | rfl | rfl | rfl | rfl | rfl | rfl | rfl
  · exact K2c
  · exact K2d
  · exact K2e
  · exact K2f
  · exact K2g
  · exact K2h
  · exact K2i
  · exact K2j
  · exact K2k
  · exact K2l
  · exact K2m
  · exact K2n
  · exact K2o
  · exact K2p
  · exact K2q
  · exact K2r
  · exact K2s
  · exact K2t
  · exact K2u
  · exact K2v)
theorem mix : Tryz.prog.follows .mixedOrders = true := Tryz.checked.mixed
noncomputable def B69 : Code := Tryz.f69.body.getD .skip
theorem K2x : Q7r Tryz.prog 69 := Qcs (fn := Tryz.f69) (by kernel_rfl) (by kernel_rfl) (by kernel_rfl)
noncomputable def B70 : Code := Tryz.f70.body.getD .skip
theorem K2y : Q7r Tryz.prog 70 := Qcs (fn := Tryz.f70) (by kernel_rfl) (by kernel_rfl) (by kernel_rfl)
noncomputable def B15 : Code := Tryz.f15.body.getD .skip
theorem K2z : Q7r Tryz.prog 15 := Qcs (fn := Tryz.f15) (by kernel_rfl) (by kernel_rfl) (by kernel_rfl)
noncomputable def B16 : Code := Tryz.f16.body.getD .skip
theorem K30 : Q7r Tryz.prog 16 := Qcs (fn := Tryz.f16) (by kernel_rfl) (by kernel_rfl) (by kernel_rfl)
noncomputable def B71 : Code := Tryz.f71.body.getD .skip
theorem K31 : Q7r Tryz.prog 71 := Qcs (fn := Tryz.f71) (by kernel_rfl) (by kernel_rfl) (by kernel_rfl)
noncomputable def B17 : Code := Tryz.f17.body.getD .skip
theorem K32 : Q7r Tryz.prog 17 := Qcs (fn := Tryz.f17) (by kernel_rfl) (by kernel_rfl) (by kernel_rfl)
noncomputable def B35 : Code := Tryz.f35.body.getD .skip
theorem K33 : Q7r Tryz.prog 35 := Qcs (fn := Tryz.f35) (by kernel_rfl) (by kernel_rfl) (by kernel_rfl)
noncomputable def B74 : Code := Tryz.f74.body.getD .skip
theorem K34 : Q7r Tryz.prog 74 := Qcs (fn := Tryz.f74) (by kernel_rfl) (by kernel_rfl) (by kernel_rfl)
noncomputable def B19 : Code := Tryz.f19.body.getD .skip
theorem K35 : Q7r Tryz.prog 19 := Qcs (fn := Tryz.f19) (by kernel_rfl) (by kernel_rfl) (by kernel_rfl)
noncomputable def B20 : Code := Tryz.f20.body.getD .skip
theorem K36 : Q7r Tryz.prog 20 := Qcs (fn := Tryz.f20) (by kernel_rfl) (by kernel_rfl) (by kernel_rfl)
noncomputable def B75 : Code := Tryz.f75.body.getD .skip
theorem K37 : Q7r Tryz.prog 75 := Qcs (fn := Tryz.f75) (by kernel_rfl) (by kernel_rfl) (by kernel_rfl)
noncomputable def B21 : Code := Tryz.f21.body.getD .skip
theorem K38 : Q7r Tryz.prog 21 := Qcs (fn := Tryz.f21) (by kernel_rfl) (by kernel_rfl) (by kernel_rfl)
noncomputable def K39 : Code := Tryz.f100.body.getD .skip
theorem K3a : Q7r Tryz.prog 100 := Qcs (fn := Tryz.f100) (by kernel_rfl) (by kernel_rfl) (by kernel_rfl)
noncomputable def K3b : Code := Tryz.f202.body.getD .skip
theorem K3c : Q7r Tryz.prog 202 := Qcs (fn := Tryz.f202) (by kernel_rfl) (by kernel_rfl) (by kernel_rfl)
noncomputable def K3d : Code := Tryz.f206.body.getD .skip
theorem K3e : Q7r Tryz.prog 206 := Qcs (fn := Tryz.f206) (by kernel_rfl) (by kernel_rfl) (by kernel_rfl)
noncomputable def K3f : Code := Tryz.f168.body.getD .skip
theorem K3g : Q7r Tryz.prog 168 := Qcs (fn := Tryz.f168) (by kernel_rfl) (by kernel_rfl) (by kernel_rfl)
noncomputable def K3h : Code := Tryz.f149.body.getD .skip
theorem K3i : Q7r Tryz.prog 149 := Qcs (fn := Tryz.f149) (by kernel_rfl) (by kernel_rfl) (by kernel_rfl)
noncomputable def K3j : Code := Tryz.f203.body.getD .skip
theorem K3k : Q7r Tryz.prog 203 := Qcs (fn := Tryz.f203) (by kernel_rfl) (by kernel_rfl) (by kernel_rfl)
noncomputable def K3l : Code := Tryz.f215.body.getD .skip
theorem K3m : Q7r Tryz.prog 215 := Qcs (fn := Tryz.f215) (by kernel_rfl) (by kernel_rfl) (by kernel_rfl)
noncomputable def K3n : Code := Tryz.f204.body.getD .skip
theorem K3o : Q7r Tryz.prog 204 := Qcs (fn := Tryz.f204) (by kernel_rfl) (by kernel_rfl) (by kernel_rfl)
noncomputable def K3p : Code := Tryz.f205.body.getD .skip
theorem K3q : Q7r Tryz.prog 205 := Qcs (fn := Tryz.f205) (by kernel_rfl) (by kernel_rfl) (by kernel_rfl)
noncomputable def K3r : Code := Tryz.f139.body.getD .skip
theorem K3s : Q7r Tryz.prog 139 := Qcs (fn := Tryz.f139) (by kernel_rfl) (by kernel_rfl) (by kernel_rfl)
noncomputable def K3t : Code := Tryz.f150.body.getD .skip
theorem K3u : Q7r Tryz.prog 150 := Qcs (fn := Tryz.f150) (by kernel_rfl) (by kernel_rfl) (by kernel_rfl)
noncomputable def K3v : Code := Tryz.f166.body.getD .skip
theorem K3w : Q7r Tryz.prog 166 := Qcs (fn := Tryz.f166) (by kernel_rfl) (by kernel_rfl) (by kernel_rfl)
noncomputable def K3x : Code := Tryz.f214.body.getD .skip
theorem K3y : Q7r Tryz.prog 214 := Qcs (fn := Tryz.f214) (by kernel_rfl) (by kernel_rfl) (by kernel_rfl)
noncomputable def K3z : Code := Tryz.f207.body.getD .skip
theorem K40 : Q7r Tryz.prog 207 := Qcs (fn := Tryz.f207) (by kernel_rfl) (by kernel_rfl) (by kernel_rfl)
noncomputable def K41 : Code := Tryz.f164.body.getD .skip
theorem K42 : Q7r Tryz.prog 164 := Qcs (fn := Tryz.f164) (by kernel_rfl) (by kernel_rfl) (by kernel_rfl)
noncomputable def K43 : Code := Tryz.f152.body.getD .skip
theorem K44 : Q7r Tryz.prog 152 := Qcs (fn := Tryz.f152) (by kernel_rfl) (by kernel_rfl) (by kernel_rfl)
noncomputable def K45 : Code := Tryz.f165.body.getD .skip
theorem K46 : Q7r Tryz.prog 165 := Qcs (fn := Tryz.f165) (by kernel_rfl) (by kernel_rfl) (by kernel_rfl)
noncomputable def K47 : Code := Tryz.f140.body.getD .skip
theorem K48 : Q7r Tryz.prog 140 := Qcs (fn := Tryz.f140) (by kernel_rfl) (by kernel_rfl) (by kernel_rfl)
noncomputable def K49 : Code := Tryz.f115.body.getD .skip
theorem K4a : Q7r Tryz.prog 115 := Qcs (fn := Tryz.f115) (by kernel_rfl) (by kernel_rfl) (by kernel_rfl)
noncomputable def K4b : Code := Tryz.f241.body.getD .skip
theorem K4c : Q7r Tryz.prog 241 := Qcs (fn := Tryz.f241) (by kernel_rfl) (by kernel_rfl) (by kernel_rfl)
noncomputable def K4d : Code := Tryz.f242.body.getD .skip
theorem K4e : Q7r Tryz.prog 242 := Qcs (fn := Tryz.f242) (by kernel_rfl) (by kernel_rfl) (by kernel_rfl)
noncomputable def K4f : Code := Tryz.f243.body.getD .skip
theorem K4g : Q7r Tryz.prog 243 := Qcs (fn := Tryz.f243) (by kernel_rfl) (by kernel_rfl) (by kernel_rfl)
noncomputable def K4h : Code := Tryz.f212.body.getD .skip
theorem K4i : Q7r Tryz.prog 212 := Qcs (fn := Tryz.f212) (by kernel_rfl) (by kernel_rfl) (by kernel_rfl)
noncomputable def K4j : Code := Tryz.f157.body.getD .skip
theorem K4k : Q7r Tryz.prog 157 := Qcs (fn := Tryz.f157) (by kernel_rfl) (by kernel_rfl) (by kernel_rfl)
noncomputable def K4l : Code := Tryz.f161.body.getD .skip
theorem K4m : Q7r Tryz.prog 161 := Qcs (fn := Tryz.f161) (by kernel_rfl) (by kernel_rfl) (by kernel_rfl)
noncomputable def K4n : Code := Tryz.f141.body.getD .skip
theorem K4o : Q7r Tryz.prog 141 := Qcs (fn := Tryz.f141) (by kernel_rfl) (by kernel_rfl) (by kernel_rfl)
noncomputable def B72 : Code := Tryz.f72.body.getD .skip
theorem K4p : Q7r Tryz.prog 72 := Qcs (fn := Tryz.f72) (by kernel_rfl) (by kernel_rfl) (by kernel_rfl)
noncomputable def K4q : Code := Tryz.f142.body.getD .skip
theorem K4r : Q7r Tryz.prog 142 := Qcs (fn := Tryz.f142) (by kernel_rfl) (by kernel_rfl) (by kernel_rfl)
noncomputable def B93 : Code := Tryz.f93.body.getD .skip
theorem K4s : Q7r Tryz.prog 93 := Qcs (fn := Tryz.f93) (by kernel_rfl) (by kernel_rfl) (by kernel_rfl)
noncomputable def K4t : Code := Tryz.f105.body.getD .skip
theorem K4u : Q7r Tryz.prog 105 := Qcs (fn := Tryz.f105) (by kernel_rfl) (by kernel_rfl) (by kernel_rfl)
noncomputable def K4v : Code := Tryz.f143.body.getD .skip
theorem K4w : Q7r Tryz.prog 143 := Qcs (fn := Tryz.f143) (by kernel_rfl) (by kernel_rfl) (by kernel_rfl)
noncomputable def K4x : Code := Tryz.f144.body.getD .skip
theorem K4y : Q7r Tryz.prog 144 := Qcs (fn := Tryz.f144) (by kernel_rfl) (by kernel_rfl) (by kernel_rfl)
noncomputable def K4z : Code := Tryz.f145.body.getD .skip
theorem K50 : Q7r Tryz.prog 145 := Qcs (fn := Tryz.f145) (by kernel_rfl) (by kernel_rfl) (by kernel_rfl)
noncomputable def K51 : Code := Tryz.f147.body.getD .skip
theorem K52 : Q7r Tryz.prog 147 := Qcs (fn := Tryz.f147) (by kernel_rfl) (by kernel_rfl) (by kernel_rfl)
noncomputable def K53 : Code := Tryz.f148.body.getD .skip
theorem K54 : Q7r Tryz.prog 148 := Qcs (fn := Tryz.f148) (by kernel_rfl) (by kernel_rfl) (by kernel_rfl)
noncomputable def K55 : Code := Tryz.f146.body.getD .skip
theorem K56 : Q7r Tryz.prog 146 := Qcs (fn := Tryz.f146) (by kernel_rfl) (by kernel_rfl) (by kernel_rfl)
noncomputable def K57 : Code := Tryz.f151.body.getD .skip
theorem K58 : Q7r Tryz.prog 151 := Qcs (fn := Tryz.f151) (by kernel_rfl) (by kernel_rfl) (by kernel_rfl)
noncomputable def B82 : Code := Tryz.f82.body.getD .skip
theorem K59 : Q7r Tryz.prog 82 := Qcs (fn := Tryz.f82) (by kernel_rfl) (by kernel_rfl) (by kernel_rfl)
noncomputable def K5a : Code := Tryz.f153.body.getD .skip
theorem K5b : Q7r Tryz.prog 153 := Qcs (fn := Tryz.f153) (by kernel_rfl) (by kernel_rfl) (by kernel_rfl)
noncomputable def B73 : Code := Tryz.f73.body.getD .skip
theorem K5c : Q7r Tryz.prog 73 := Qcs (fn := Tryz.f73) (by kernel_rfl) (by kernel_rfl) (by kernel_rfl)
noncomputable def K5d : Code := Tryz.f167.body.getD .skip
theorem K5e : Q7r Tryz.prog 167 := Qcs (fn := Tryz.f167) (by kernel_rfl) (by kernel_rfl) (by kernel_rfl)
noncomputable def B18 : Code := Tryz.f18.body.getD .skip
theorem K5f : Q7r Tryz.prog 18 := Qcs (fn := Tryz.f18) (by kernel_rfl) (by kernel_rfl) (by kernel_rfl)
noncomputable def K5g : Code := Tryz.f158.body.getD .skip
theorem K5h : Q7r Tryz.prog 158 := Qcs (fn := Tryz.f158) (by kernel_rfl) (by kernel_rfl) (by kernel_rfl)
noncomputable def B89 : Code := Tryz.f89.body.getD .skip
theorem K5i : Q7r Tryz.prog 89 := Qcs (fn := Tryz.f89) (by kernel_rfl) (by kernel_rfl) (by kernel_rfl)
noncomputable def B90 : Code := Tryz.f90.body.getD .skip
theorem K5j : Q7r Tryz.prog 90 := Qcs (fn := Tryz.f90) (by kernel_rfl) (by kernel_rfl) (by kernel_rfl)
noncomputable def K5k : Code := Tryz.f180.body.getD .skip
theorem K5l : Q7r Tryz.prog 180 := Qcs (fn := Tryz.f180) (by kernel_rfl) (by kernel_rfl) (by kernel_rfl)
noncomputable def K5m : Code := Tryz.f181.body.getD .skip
theorem K5n : Q7r Tryz.prog 181 := Qcs (fn := Tryz.f181) (by kernel_rfl) (by kernel_rfl) (by kernel_rfl)
noncomputable def K5o : Code := Tryz.f114.body.getD .skip
theorem K5p : Q7r Tryz.prog 114 := Qcs (fn := Tryz.f114) (by kernel_rfl) (by kernel_rfl) (by kernel_rfl)
noncomputable def B56 : Code := Tryz.f56.body.getD .skip
theorem K5q : Q7r Tryz.prog 56 := Qcs (fn := Tryz.f56) (by kernel_rfl) (by kernel_rfl) (by kernel_rfl)
noncomputable def K5r : Code := Tryz.f108.body.getD .skip
theorem K5s : Q7r Tryz.prog 108 := Qcs (fn := Tryz.f108) (by kernel_rfl) (by kernel_rfl) (by kernel_rfl)
noncomputable def B85 : Code := Tryz.f85.body.getD .skip
theorem K5t : Q7r Tryz.prog 85 := Qcs (fn := Tryz.f85) (by kernel_rfl) (by kernel_rfl) (by kernel_rfl)
noncomputable def K5u : Code := Tryz.f169.body.getD .skip
theorem K5v : Q7r Tryz.prog 169 := Qcs (fn := Tryz.f169) (by kernel_rfl) (by kernel_rfl) (by kernel_rfl)
noncomputable def K5w : Code := Tryz.f170.body.getD .skip
theorem K5x : Q7r Tryz.prog 170 := Qcs (fn := Tryz.f170) (by kernel_rfl) (by kernel_rfl) (by kernel_rfl)
noncomputable def B86 : Code := Tryz.f86.body.getD .skip
theorem K5y : Q7r Tryz.prog 86 := Qcs (fn := Tryz.f86) (by kernel_rfl) (by kernel_rfl) (by kernel_rfl)
noncomputable def K5z : Code := Tryz.f171.body.getD .skip
theorem K60 : Q7r Tryz.prog 171 := Qcs (fn := Tryz.f171) (by kernel_rfl) (by kernel_rfl) (by kernel_rfl)
noncomputable def K61 : Code := Tryz.f172.body.getD .skip
theorem K62 : Q7r Tryz.prog 172 := Qcs (fn := Tryz.f172) (by kernel_rfl) (by kernel_rfl) (by kernel_rfl)
noncomputable def K63 : Code := Tryz.f109.body.getD .skip
theorem K64 : Q7r Tryz.prog 109 := Qcs (fn := Tryz.f109) (by kernel_rfl) (by kernel_rfl) (by kernel_rfl)
noncomputable def K65 : Code := Tryz.f182.body.getD .skip
theorem K66 : Q7r Tryz.prog 182 := Qcs (fn := Tryz.f182) (by kernel_rfl) (by kernel_rfl) (by kernel_rfl)
noncomputable def K67 : Code := Tryz.f186.body.getD .skip
theorem K68 : Q7r Tryz.prog 186 := Qcs (fn := Tryz.f186) (by kernel_rfl) (by kernel_rfl) (by kernel_rfl)
noncomputable def K69 : Code := Tryz.f118.body.getD .skip
theorem K6a : Q7r Tryz.prog 118 := Qcs (fn := Tryz.f118) (by kernel_rfl) (by kernel_rfl) (by kernel_rfl)
noncomputable def K6b : Code := Tryz.f210.body.getD .skip
theorem K6c : Q7r Tryz.prog 210 := Qcs (fn := Tryz.f210) (by kernel_rfl) (by kernel_rfl) (by kernel_rfl)
noncomputable def K6d : Code := Tryz.f209.body.getD .skip
theorem K6e : Q7r Tryz.prog 209 := Qcs (fn := Tryz.f209) (by kernel_rfl) (by kernel_rfl) (by kernel_rfl)
noncomputable def K6f : Code := Tryz.f240.body.getD .skip
theorem K6g : Q7r Tryz.prog 240 := Qcs (fn := Tryz.f240) (by kernel_rfl) (by kernel_rfl) (by kernel_rfl)
noncomputable def K6h : Code := Tryz.f208.body.getD .skip
theorem K6i : Q7r Tryz.prog 208 := Qcs (fn := Tryz.f208) (by kernel_rfl) (by kernel_rfl) (by kernel_rfl)
noncomputable def K6j : Code := Tryz.f154.body.getD .skip
theorem K6k : Q7r Tryz.prog 154 := Qcs (fn := Tryz.f154) (by kernel_rfl) (by kernel_rfl) (by kernel_rfl)
noncomputable def K6l : Code := Tryz.f184.body.getD .skip
theorem K6m : Q7r Tryz.prog 184 := Qcs (fn := Tryz.f184) (by kernel_rfl) (by kernel_rfl) (by kernel_rfl)
noncomputable def K6n : Code := Tryz.f211.body.getD .skip
theorem K6o : Q7r Tryz.prog 211 := Qcs (fn := Tryz.f211) (by kernel_rfl) (by kernel_rfl) (by kernel_rfl)
noncomputable def K6p : Code := Tryz.f185.body.getD .skip
theorem K6q : Q7r Tryz.prog 185 := Qcs (fn := Tryz.f185) (by kernel_rfl) (by kernel_rfl) (by kernel_rfl)
noncomputable def K6r : Code := Tryz.f117.body.getD .skip
theorem K6s : Q7r Tryz.prog 117 := Qcs (fn := Tryz.f117) (by kernel_rfl) (by kernel_rfl) (by kernel_rfl)
noncomputable def K6t : Code := Tryz.f155.body.getD .skip
theorem K6u : Q7r Tryz.prog 155 := Qcs (fn := Tryz.f155) (by kernel_rfl) (by kernel_rfl) (by kernel_rfl)
noncomputable def K6v : Code := Tryz.f178.body.getD .skip
theorem K6w : Q7r Tryz.prog 178 := Qcs (fn := Tryz.f178) (by kernel_rfl) (by kernel_rfl) (by kernel_rfl)
noncomputable def K6x : Code := Tryz.f174.body.getD .skip
theorem K6y : Q7r Tryz.prog 174 := Qcs (fn := Tryz.f174) (by kernel_rfl) (by kernel_rfl) (by kernel_rfl)
noncomputable def K6z : Code := Tryz.f219.body.getD .skip
theorem K70 : Q7r Tryz.prog 219 := Qcs (fn := Tryz.f219) (by kernel_rfl) (by kernel_rfl) (by kernel_rfl)
noncomputable def K71 : Code := Tryz.f176.body.getD .skip
theorem K72 : Q7r Tryz.prog 176 := Qcs (fn := Tryz.f176) (by kernel_rfl) (by kernel_rfl) (by kernel_rfl)
noncomputable def K73 : Code := Tryz.f156.body.getD .skip
theorem K74 : Q7r Tryz.prog 156 := Qcs (fn := Tryz.f156) (by kernel_rfl) (by kernel_rfl) (by kernel_rfl)
noncomputable def K75 : Code := Tryz.f177.body.getD .skip
theorem K76 : Q7r Tryz.prog 177 := Qcs (fn := Tryz.f177) (by kernel_rfl) (by kernel_rfl) (by kernel_rfl)
noncomputable def B84 : Code := Tryz.f84.body.getD .skip
theorem K77 : Q7r Tryz.prog 84 := Qcs (fn := Tryz.f84) (by kernel_rfl) (by kernel_rfl) (by kernel_rfl)
noncomputable def B77 : Code := Tryz.f77.body.getD .skip
theorem K78 : Q7r Tryz.prog 77 := Qcs (fn := Tryz.f77) (by kernel_rfl) (by kernel_rfl) (by kernel_rfl)
noncomputable def K79 : Code := Tryz.f244.body.getD .skip
theorem K7a : Q7r Tryz.prog 244 := Qcs (fn := Tryz.f244) (by kernel_rfl) (by kernel_rfl) (by kernel_rfl)
noncomputable def K7b : Code := Tryz.f221.body.getD .skip
theorem K7c : Q7r Tryz.prog 221 := Qcs (fn := Tryz.f221) (by kernel_rfl) (by kernel_rfl) (by kernel_rfl)
noncomputable def K7d : Code := Tryz.f220.body.getD .skip
theorem K7e : Q7r Tryz.prog 220 := Qcs (fn := Tryz.f220) (by kernel_rfl) (by kernel_rfl) (by kernel_rfl)
noncomputable def K7f : Code := Tryz.f222.body.getD .skip
theorem K7g : Q7r Tryz.prog 222 := Qcs (fn := Tryz.f222) (by kernel_rfl) (by kernel_rfl) (by kernel_rfl)
noncomputable def K7h : Code := Tryz.f245.body.getD .skip
theorem K7i : Q7r Tryz.prog 245 := Qcs (fn := Tryz.f245) (by kernel_rfl) (by kernel_rfl) (by kernel_rfl)
noncomputable def K7j : Code := Tryz.f223.body.getD .skip
theorem K7k : Q7r Tryz.prog 223 := Qcs (fn := Tryz.f223) (by kernel_rfl) (by kernel_rfl) (by kernel_rfl)
noncomputable def K7l : Code := Tryz.f246.body.getD .skip
theorem K7m : Q7r Tryz.prog 246 := Qcs (fn := Tryz.f246) (by kernel_rfl) (by kernel_rfl) (by kernel_rfl)
noncomputable def K7n : Code := Tryz.f248.body.getD .skip
theorem K7o : Q7r Tryz.prog 248 := Qcs (fn := Tryz.f248) (by kernel_rfl) (by kernel_rfl) (by kernel_rfl)
noncomputable def K7p : Code := Tryz.f238.body.getD .skip
theorem K7q : Q7r Tryz.prog 238 := Qcs (fn := Tryz.f238) (by kernel_rfl) (by kernel_rfl) (by kernel_rfl)
noncomputable def K7r : Code := Tryz.f224.body.getD .skip
theorem K7s : Q7r Tryz.prog 224 := Qcs (fn := Tryz.f224) (by kernel_rfl) (by kernel_rfl) (by kernel_rfl)
noncomputable def K7t : Code := Tryz.f225.body.getD .skip
theorem K7u : Q7r Tryz.prog 225 := Qcs (fn := Tryz.f225) (by kernel_rfl) (by kernel_rfl) (by kernel_rfl)
noncomputable def K7v : Code := Tryz.f226.body.getD .skip
theorem K7w : Q7r Tryz.prog 226 := Qcs (fn := Tryz.f226) (by kernel_rfl) (by kernel_rfl) (by kernel_rfl)
noncomputable def K7x : Code := Tryz.f179.body.getD .skip
theorem K7y : Q7r Tryz.prog 179 := Qcs (fn := Tryz.f179) (by kernel_rfl) (by kernel_rfl) (by kernel_rfl)
noncomputable def B76 : Code := Tryz.f76.body.getD .skip
theorem K7z : Q7r Tryz.prog 76 := Qcs (fn := Tryz.f76) (by kernel_rfl) (by kernel_rfl) (by kernel_rfl)
noncomputable def K80 : Code := Tryz.f159.body.getD .skip
theorem K81 : Q7r Tryz.prog 159 := Qcs (fn := Tryz.f159) (by kernel_rfl) (by kernel_rfl) (by kernel_rfl)
noncomputable def B91 : Code := Tryz.f91.body.getD .skip
theorem K82 : Q7r Tryz.prog 91 := Qcs (fn := Tryz.f91) (by kernel_rfl) (by kernel_rfl) (by kernel_rfl)
noncomputable def K83 : Code := Tryz.f160.body.getD .skip
theorem K84 : Q7r Tryz.prog 160 := Qcs (fn := Tryz.f160) (by kernel_rfl) (by kernel_rfl) (by kernel_rfl)
noncomputable def B92 : Code := Tryz.f92.body.getD .skip
theorem K85 : Q7r Tryz.prog 92 := Qcs (fn := Tryz.f92) (by kernel_rfl) (by kernel_rfl) (by kernel_rfl)
noncomputable def K86 : Code := Tryz.f183.body.getD .skip
theorem K87 : Q7r Tryz.prog 183 := Qcs (fn := Tryz.f183) (by kernel_rfl) (by kernel_rfl) (by kernel_rfl)
noncomputable def K88 : Code := Tryz.f116.body.getD .skip
theorem K89 : Q7r Tryz.prog 116 := Qcs (fn := Tryz.f116) (by kernel_rfl) (by kernel_rfl) (by kernel_rfl)
noncomputable def B57 : Code := Tryz.f57.body.getD .skip
theorem K8a : Q7r Tryz.prog 57 := Qcs (fn := Tryz.f57) (by kernel_rfl) (by kernel_rfl) (by kernel_rfl)
noncomputable def B23 : Code := Tryz.f23.body.getD .skip
theorem K8b : Q7r Tryz.prog 23 := Qcs (fn := Tryz.f23) (by kernel_rfl) (by kernel_rfl) (by kernel_rfl)
noncomputable def B79 : Code := Tryz.f79.body.getD .skip
theorem K8c : Q7r Tryz.prog 79 := Qcs (fn := Tryz.f79) (by kernel_rfl) (by kernel_rfl) (by kernel_rfl)
noncomputable def B26 : Code := Tryz.f26.body.getD .skip
theorem K8d : Q7r Tryz.prog 26 := Qcs (fn := Tryz.f26) (by kernel_rfl) (by kernel_rfl) (by kernel_rfl)
noncomputable def B78 : Code := Tryz.f78.body.getD .skip
theorem K8e : Q7r Tryz.prog 78 := Qcs (fn := Tryz.f78) (by kernel_rfl) (by kernel_rfl) (by kernel_rfl)
noncomputable def B24 : Code := Tryz.f24.body.getD .skip
theorem K8f : Q7r Tryz.prog 24 := Qcs (fn := Tryz.f24) (by kernel_rfl) (by kernel_rfl) (by kernel_rfl)
noncomputable def B25 : Code := Tryz.f25.body.getD .skip
theorem K8g : Q7r Tryz.prog 25 := Qcs (fn := Tryz.f25) (by kernel_rfl) (by kernel_rfl) (by kernel_rfl)
noncomputable def B30 : Code := Tryz.f30.body.getD .skip
theorem K8h : Q7r Tryz.prog 30 := Qcs (fn := Tryz.f30) (by kernel_rfl) (by kernel_rfl) (by kernel_rfl)
noncomputable def B80 : Code := Tryz.f80.body.getD .skip
theorem K8i : Q7r Tryz.prog 80 := Qcs (fn := Tryz.f80) (by kernel_rfl) (by kernel_rfl) (by kernel_rfl)
noncomputable def B27 : Code := Tryz.f27.body.getD .skip
theorem K8j : Q7r Tryz.prog 27 := Qcs (fn := Tryz.f27) (by kernel_rfl) (by kernel_rfl) (by kernel_rfl)
noncomputable def B28 : Code := Tryz.f28.body.getD .skip
theorem K8k : Q7r Tryz.prog 28 := Qcs (fn := Tryz.f28) (by kernel_rfl) (by kernel_rfl) (by kernel_rfl)
noncomputable def B81 : Code := Tryz.f81.body.getD .skip
theorem K8l : Q7r Tryz.prog 81 := Qcs (fn := Tryz.f81) (by kernel_rfl) (by kernel_rfl) (by kernel_rfl)
noncomputable def B29 : Code := Tryz.f29.body.getD .skip
theorem K8m : Q7r Tryz.prog 29 := Qcs (fn := Tryz.f29) (by kernel_rfl) (by kernel_rfl) (by kernel_rfl)
noncomputable def B31 : Code := Tryz.f31.body.getD .skip
theorem K8n : Q7r Tryz.prog 31 := Qcs (fn := Tryz.f31) (by kernel_rfl) (by kernel_rfl) (by kernel_rfl)
noncomputable def B98 : Code := Tryz.f98.body.getD .skip
theorem K8o : Q7r Tryz.prog 98 := Qcs (fn := Tryz.f98) (by kernel_rfl) (by kernel_rfl) (by kernel_rfl)
noncomputable def B44 : Code := Tryz.f44.body.getD .skip
theorem K8p : Q7r Tryz.prog 44 := Qcs (fn := Tryz.f44) (by kernel_rfl) (by kernel_rfl) (by kernel_rfl)
noncomputable def B12 : Code := Tryz.f12.body.getD .skip
theorem K8q : Q7r Tryz.prog 12 := Qcs (fn := Tryz.f12) (by kernel_rfl) (by kernel_rfl) (by kernel_rfl)

theorem rg {c : Ctx} {code : Code} {Q : Exit → Q0a → Prop} {nt : Nat} (hnt : c.nt = nt) (ah : Option (List (List Nat))) (rs : List (Option Orc)) {T : List (Nat × AV)} {O : List (Nat × Q09)} (T' : List (Nat × AV)) (O' : List (Nat × Q09)) {A : Prop} (h : A)
    (hQ : Q .normal (mkS T' O')) (hk : Nat.beq (Qbs code) 0 = true := by kernel_rfl) (e1 : (Qan TIx Tryz.prog nt (Qbo code) ah rs T O (T'.map (·.1)) (O'.map (·.1))).map (fun r => (r.T, Qap r.O)) = some (T', O') := by kernel_rfl)
    (e2 : A = Qce (Qan TIx Tryz.prog nt (Qbo code) ah rs T O (T'.map (·.1)) (O'.map (·.1))) := by kernel_rfl) (hdraw : ((!Qbp code && ah.isNone) || ah.isSome) = true := by kernel_rfl) : Wp Tryz.prog c code Q (mkS T O) := Wp.reg K2w mix hnt hk e1 h e2 hdraw hQ
theorem rg0 {c : Ctx} {code : Code} {Q : Exit → Q0a → Prop} {nt : Nat} (hnt : c.nt = nt) (n : Nat) {T : List (Nat × AV)} {O : List (Nat × Q09)} (T' : List (Nat × AV)) (O' : List (Nat × Q09))
    (hQ : Q .normal (mkS T' O')) (hk : Nat.beq (Qbs code) 0 = true := by kernel_rfl) (e1 : (Qan TIx Tryz.prog nt (Qbo code) none (List.replicate n (some .no)) T O (T'.map (·.1)) (O'.map (·.1))).map (fun r => (r.T, Qap r.O)) = some (T', O') := by kernel_rfl)
    (e2 : True = Qce (Qan TIx Tryz.prog nt (Qbo code) none (List.replicate n (some .no)) T O (T'.map (·.1)) (O'.map (·.1))) := by kernel_rfl) (hdraw : ((!Qbp code && true) || false) = true := by kernel_rfl) : Wp Tryz.prog c code Q (mkS T O) := Wp.reg K2w mix hnt hk e1 trivial e2 hdraw hQ
theorem rgs {c : Ctx} {code : Code} {Q : Exit → Q0a → Prop} {nt : Nat} (hnt : c.nt = nt) (ah : Option (List (List Nat))) (rs : List (Option Orc)) {T : List (Nat × AV)} {O : List (Nat × Q09)} (T' : List (Nat × AV)) {A : Prop} (h : A)
    (hQ : Q .normal (mkS T' O)) (hk : Nat.beq (Qbs code) 0 = true := by kernel_rfl) (e1 : (Qan TIx Tryz.prog nt (Qbo code) ah rs T O (T'.map (·.1)) (O.map (·.1))).map (fun r => (r.T, Qap r.O)) = some (T', O) := by kernel_rfl)
    (e2 : A = Qce (Qan TIx Tryz.prog nt (Qbo code) ah rs T O (T'.map (·.1)) (O.map (·.1))) := by kernel_rfl) (hdraw : ((!Qbp code && ah.isNone) || ah.isSome) = true := by kernel_rfl) : Wp Tryz.prog c code Q (mkS T O) := rg hnt ah rs T' O h hQ hk e1 e2 hdraw
theorem K8r {c : Ctx} {code : Code} {Q : Exit → Q0a → Prop} {nt : Nat} (hnt : c.nt = nt) (n : Nat) {T : List (Nat × AV)} {O : List (Nat × Q09)} (T' : List (Nat × AV))
    (hQ : Q .normal (mkS T' O)) (hk : Nat.beq (Qbs code) 0 = true := by kernel_rfl) (e1 : (Qan TIx Tryz.prog nt (Qbo code) none (List.replicate n (some .no)) T O (T'.map (·.1)) (O.map (·.1))).map (fun r => (r.T, Qap r.O)) = some (T', O) := by kernel_rfl)
    (e2 : True = Qce (Qan TIx Tryz.prog nt (Qbo code) none (List.replicate n (some .no)) T O (T'.map (·.1)) (O.map (·.1))) := by kernel_rfl) (hdraw : ((!Qbp code && true) || false) = true := by kernel_rfl) : Wp Tryz.prog c code Q (mkS T O) := rg0 hnt n T' O hQ hk e1 e2 hdraw
theorem ix {e : List Int} {i : Int} {x : Int} (h : idx e i = some x) : 0 ≤ i ∧ (e.map I)[i.toNat]? = some (.int .i64 x) := Qcx (enc := I) (x := .int .i64 x) h (Qd8 x)
def rep : Nat → Prop → Prop → Prop
  | 0, _, b => b
  | n + 1, a, b => a ∧ rep n a b
theorem ar {a b : Prop} : ∀ (n : Nat) (x : a) (y : b), rep n a b
  | 0, _, y => y
  | n + 1, x, y => ⟨x, ar n x y⟩
theorem rs {c : Ctx} {code : Code} {Q : Exit → Q0a → Prop} {nt : Nat} (hnt : c.nt = nt) (ah : Option (List (List Nat))) (rs : List (Option Orc)) {T : List (Nat × AV)} {O : List (Nat × Q09)} (T' : List (Nat × AV)) (O' : List (Nat × Q09)) {A : Prop} (h : A)
    (hQ : Wp Tryz.prog c (cr code) Q (mkS T' O')) (h1 : Nat.beq (Qbs code) 1 = true := by kernel_rfl) (hk : Nat.beq (Qbs (cl code)) 0 = true := by kernel_rfl) (e1 : (Qan TIx Tryz.prog nt (Qbo (cl code)) ah rs T O (T'.map (·.1)) (O'.map (·.1))).map (fun r => (r.T, Qap r.O)) = some (T', O') := by kernel_rfl)
    (e2 : A = Qce (Qan TIx Tryz.prog nt (Qbo (cl code)) ah rs T O (T'.map (·.1)) (O'.map (·.1))) := by kernel_rfl) (hdraw : ((!Qbp (cl code) && ah.isNone) || ah.isSome) = true := by kernel_rfl) : Wp Tryz.prog c code Q (mkS T O) := Wp.seqN h1 (Wp.reg K2w mix hnt hk e1 h e2 hdraw (Qc4 hQ))
theorem rs0 {c : Ctx} {code : Code} {Q : Exit → Q0a → Prop} {nt : Nat} (hnt : c.nt = nt) (n : Nat) {T : List (Nat × AV)} {O : List (Nat × Q09)} (T' : List (Nat × AV)) (O' : List (Nat × Q09))
    (hQ : Wp Tryz.prog c (cr code) Q (mkS T' O')) (h1 : Nat.beq (Qbs code) 1 = true := by kernel_rfl) (hk : Nat.beq (Qbs (cl code)) 0 = true := by kernel_rfl) (e1 : (Qan TIx Tryz.prog nt (Qbo (cl code)) none (List.replicate n (some .no)) T O (T'.map (·.1)) (O'.map (·.1))).map (fun r => (r.T, Qap r.O)) = some (T', O') := by kernel_rfl)
    (e2 : True = Qce (Qan TIx Tryz.prog nt (Qbo (cl code)) none (List.replicate n (some .no)) T O (T'.map (·.1)) (O'.map (·.1))) := by kernel_rfl) (hdraw : ((!Qbp (cl code) && true) || false) = true := by kernel_rfl) : Wp Tryz.prog c code Q (mkS T O) := Wp.seqN h1 (Wp.reg K2w mix hnt hk e1 trivial e2 hdraw (Qc4 hQ))
theorem rss {c : Ctx} {code : Code} {Q : Exit → Q0a → Prop} {nt : Nat} (hnt : c.nt = nt) (ah : Option (List (List Nat))) (rs' : List (Option Orc)) {T : List (Nat × AV)} {O : List (Nat × Q09)} (T' : List (Nat × AV)) {A : Prop} (h : A)
    (hQ : Wp Tryz.prog c (cr code) Q (mkS T' O)) (h1 : Nat.beq (Qbs code) 1 = true := by kernel_rfl) (hk : Nat.beq (Qbs (cl code)) 0 = true := by kernel_rfl) (e1 : (Qan TIx Tryz.prog nt (Qbo (cl code)) ah rs' T O (T'.map (·.1)) (O.map (·.1))).map (fun r => (r.T, Qap r.O)) = some (T', O) := by kernel_rfl)
    (e2 : A = Qce (Qan TIx Tryz.prog nt (Qbo (cl code)) ah rs' T O (T'.map (·.1)) (O.map (·.1))) := by kernel_rfl) (hdraw : ((!Qbp (cl code) && ah.isNone) || ah.isSome) = true := by kernel_rfl) : Wp Tryz.prog c code Q (mkS T O) := rs hnt ah rs' T' O h hQ h1 hk e1 e2 hdraw
theorem K8s {c : Ctx} {code : Code} {Q : Exit → Q0a → Prop} {nt : Nat} (hnt : c.nt = nt) (n : Nat) {T : List (Nat × AV)} {O : List (Nat × Q09)} (T' : List (Nat × AV))
    (hQ : Wp Tryz.prog c (cr code) Q (mkS T' O)) (h1 : Nat.beq (Qbs code) 1 = true := by kernel_rfl) (hk : Nat.beq (Qbs (cl code)) 0 = true := by kernel_rfl) (e1 : (Qan TIx Tryz.prog nt (Qbo (cl code)) none (List.replicate n (some .no)) T O (T'.map (·.1)) (O.map (·.1))).map (fun r => (r.T, Qap r.O)) = some (T', O) := by kernel_rfl)
    (e2 : True = Qce (Qan TIx Tryz.prog nt (Qbo (cl code)) none (List.replicate n (some .no)) T O (T'.map (·.1)) (O.map (·.1))) := by kernel_rfl) (hdraw : ((!Qbp (cl code) && true) || false) = true := by kernel_rfl) : Wp Tryz.prog c code Q (mkS T O) := rs0 hnt n T' O hQ h1 hk e1 e2 hdraw
theorem vz {c : Ctx} {code : Code} {Q : Exit → Q0a → Prop} {T : List (Nat × AV)} {O : List (Nat × Q09)} (k : Nat) {xs xs' : List AV} (hs : Q02 xs = xs') (T' : List (Nat × AV)) (O' : List (Nat × Q09)) (h : Wp Tryz.prog c code Q (mkS T' O')) (hO : lkO O k = some (.arr xs) := by kernel_rfl)
    (hT : T.map (fun p => (p.1, frz k (.sl xs') p.2)) = T' := by kernel_rfl) (hO' : ((O.filter fun p => !Nat.beq p.1 k).map fun p => (p.1, Qe8 k (.sl xs') p.2)) = O' := by kernel_rfl) : Wp Tryz.prog c code Q (mkS T O) := Wp.view (fun _ _ hv => SRx.frzL k hv hO hs hT hO') h
theorem vb {c : Ctx} {code : Code} {Q : Exit → Q0a → Prop} {T : List (Nat × AV)} {O : List (Nat × Q09)} (k : Nat) (cs : List AV) (T' : List (Nat × AV)) (O' : List (Nat × Q09)) (h : Wp Tryz.prog c code Q (mkS T' O')) (hO : lkO O k = some (.box cs) := by kernel_rfl) (hp : cs.all plain = true := by kernel_rfl)
    (hT : T.map (fun p => (p.1, frb k (cs.map nzC) p.2)) = T' := by kernel_rfl) (hO' : ((O.filter fun p => !Nat.beq p.1 k).map fun p => (p.1, Qef k (cs.map nzC) p.2)) = O' := by kernel_rfl) : Wp Tryz.prog c code Q (mkS T O) := Wp.view (fun _ _ hv => SRx.frbL k (cs := cs) hv hO hp hT hO') h
theorem b0 {f : FuncId} (fn : Func) (code : Code) {args : List AV} {res : AV} (nt : Nat) (T : List (Nat × AV)) (h : ∀ c : Ctx, c.nt = nt → Wp Tryz.prog c code (Qcl TIx fn [] res) (mkS T [])) (hf : Tryz.prog.funcs[f]? = some fn := by kernel_rfl) (hb : fn.body = some code := by kernel_rfl) (hok : Qay args = true := by kernel_rfl) (ha : args.all (fun x => !Qcm x) = true := by kernel_rfl)
    (hnt : Nat.beq fn.ntmps nt = true := by kernel_rfl) (hle : Nat.ble args.length nt = true := by kernel_rfl) (hT : Qaw args = T := by kernel_rfl) (hO : Qax args = [] := by kernel_rfl) : Q71 Tryz.prog f args res [] := Q71.body0 K2w hf hb hok ha hnt hle hT hO h
theorem iv {c : Ctx} {x : Exit} (ρ : List (Nat × Nat)) {T T' : List (Nat × AV)} {O O' : List (Nat × Q09)} (hT : (T'.map fun p => rn (rnk ρ) p.2) = T'.map fun p => lk .undef T p.1 := by kernel_rfl)
    (hO : (O'.map fun p => some (rnO (rnk ρ) p.2)) = O'.map fun p => lkO O (rnk ρ p.1) := by kernel_rfl) (hB : Qch ρ O' = true := by kernel_rfl) : Qcf c x (mkS T' O') x (mkS T O) := Qcf.view (fun _ _ hv => SRx.renL ρ hv hT hO hB)
theorem bk {c : Ctx} {code : Code} {Q : Exit → Q0a → Prop} {σ : Q0a} (i : Nat) (h : Wp Tryz.prog c (cl code) (Qc2 i Q) σ) (hk : (Nat.beq (Qbs code) 3 && Nat.beq (Qbq code) i) = true := by kernel_rfl) : Wp Tryz.prog c code Q σ := Wp.blockN hk h
theorem xt {c : Ctx} {code : Code} {Q : Exit → Q0a → Prop} {σ : Q0a} (i : Nat) (h : Q (.exit i) σ) (hk : (Nat.beq (Qbs code) 5 && Nat.beq (Qbq code) i) = true := by kernel_rfl) : Wp Tryz.prog c code Q σ := Wp.exitN hk h
theorem lp {c : Ctx} {code : Code} {Q : Exit → Q0a → Prop} {σ : Q0a} (h : WpL Tryz.prog c (cl code) Q σ) (hk : Nat.beq (Qbs code) 4 = true := by kernel_rfl) : Wp Tryz.prog c code Q σ := Wp.loopN hk h
theorem re {fn : Func} {args : List AV} (fl : List Bool) {T : List (Nat × AV)} {O : List (Nat × Q09)} {res : AV} (h : Qck TIx fn args fl T O = some res := by kernel_rfl) : Qco TIx fn args res .ret (mkS T O) := Qco.ret h
abbrev sL (l : List (List Int)) : AV := .sl (List.map K10 l)
abbrev rI (l : List Int) : Q09 := .arr (List.map I l)
abbrev oI (l : List Int) : AV := .osl (List.map I l)
theorem rt {c : Ctx} {code : Code} {Q : Exit → Q0a → Prop} {σ : Q0a} (h : Q .ret σ) (hk : Nat.beq (Qbs code) 6 = true := by kernel_rfl) : Wp Tryz.prog c code Q σ := Wp.retN hk h
theorem sk {c : Ctx} {code : Code} {Q : Exit → Q0a → Prop} {σ : Q0a} (h : Q .normal σ) (hk : Nat.beq (Qbs code) 7 = true := by kernel_rfl) : Wp Tryz.prog c code Q σ := Wp.skipN hk h
theorem rq {fn : Func} {args : List AV} (fl : List Bool) {T : List (Nat × AV)} {O : List (Nat × Q09)} {res : AV} (h : Qck TIx fn args fl T O = some res := by kernel_rfl) : Qcl TIx fn args res .ret (mkS T O) := Qcl.ret h
theorem is {α : Type} {b : Bool} {x y : Option α} {r : α} (h : (if b = true then x else y) = some r) : (b = true ∧ x = some r) ∨ (b = false ∧ y = some r) := Qcu h
theorem os {α : Type} {a b : α} (h : some a = some b) : a = b := Option.some.inj h
abbrev sI (l : List Int) : AV := .sl (List.map I l)
abbrev sB (l : List Bool) : AV := .sl (List.map AV.bool l)
def rx (l : List (List Nat)) : Option (List (List Nat)) := some (l.map fun r => match r with | n :: e => List.range n ++ e | [] => [])
def rh (l : List Nat) : Option (List (List Nat)) := some (l.map List.range)
theorem ai {a b : Prop} (x : a) (y : b) : a ∧ b := ⟨x, y⟩
theorem oi (v : AV) : ([] : List Nat) = [] ∨ noSh v = true := Or.inl rfl
theorem ab {a b r : Prop} (x : a) (y : b) (t : r) : a ∧ b ∧ r := ⟨x, y, t⟩
theorem ac {a b c r : Prop} (x : a) (y : b) (z : c) (t : r) : a ∧ b ∧ c ∧ r := ⟨x, y, z, t⟩
theorem ad {a b c d r : Prop} (x : a) (y : b) (z : c) (w : d) (t : r) : a ∧ b ∧ c ∧ d ∧ r := ⟨x, y, z, w, t⟩
theorem cq {P : Program} {f : FuncId} {xs : List AV} {os : List AV} {v : AV} {b r : Prop} (x : Q71 P f xs v os) (y : b) (t : r) : Q71 P f xs v os ∧ b ∧ (([] : List Nat) = [] ∨ noSh v = true) ∧ r := ⟨x, y, Or.inl rfl, t⟩
abbrev tv : True := trivial
abbrev LL := List (List Int)
theorem xL {e : List (List Int)} {i : Int} {x : List Int} (h : idx e i = some x) : 0 ≤ i ∧ (e.map K10)[i.toNat]? = some (.sl (List.map I x)) := Qcx (enc := K10) (x := .sl (List.map I x)) h (K11 x)
theorem ic {c : Ctx} {code : Code} {Q : Exit → Q0a → Prop} {σ : Q0a} {α : Type} {b : Bool} {x y : Option α} {r : α} (h : (if b = true then x else y) = some r) (hT : b = true → x = some r → Wp Tryz.prog c (cl code) Q σ) (hF : b = false → y = some r → Wp Tryz.prog c (cr code) Q σ)
    (hk : Nat.beq (Qbs code) 2 = true := by kernel_rfl) (hx : opv σ (Qbr code) = .bool b := by kernel_rfl) : Wp Tryz.prog c code Q σ := (Qcu h).elim (fun q => Wp.condT hk hx q.1 (hT q.1 q.2)) (fun q => Wp.condF hk hx q.1 (hF q.1 q.2))
theorem bq2 {α β γ : Type} {x : Option α} {f : α → Option β} {g : α → β → Option γ} {r : γ} (h : (x >>= fun a => f a >>= fun b => g a b) = some r) : ∃ a, x = some a ∧ ∃ b, f a = some b ∧ g a b = some r := let ⟨a, ha, h⟩ := Qct h; let ⟨b, hb, h⟩ := Qct h; ⟨a, ha, b, hb, h⟩
theorem bq3 {α β γ δ : Type} {x : Option α} {f : α → Option β} {g : α → β → Option γ} {k : α → β → γ → Option δ} {r : δ} (h : (x >>= fun a => f a >>= fun b => g a b >>= fun c => k a b c) = some r) : ∃ a, x = some a ∧ ∃ b, f a = some b ∧ ∃ c, g a b = some c ∧ k a b c = some r := let ⟨a, ha, b, hb, h⟩ := bq2 h; let ⟨c, hc, h⟩ := Qct h; ⟨a, ha, b, hb, c, hc, h⟩
theorem bq4 {α β γ δ ε : Type} {x : Option α} {f : α → Option β} {g : α → β → Option γ} {k : α → β → γ → Option δ} {l : α → β → γ → δ → Option ε} {r : ε} (h : (x >>= fun a => f a >>= fun b => g a b >>= fun c => k a b c >>= fun d => l a b c d) = some r) : ∃ a, x = some a ∧ ∃ b, f a = some b ∧ ∃ c, g a b = some c ∧ ∃ d, k a b c = some d ∧ l a b c d = some r := let ⟨a, ha, b, hb, c, hc, h⟩ := bq3 h; let ⟨d, hd, h⟩ := Qct h; ⟨a, ha, b, hb, c, hc, d, hd, h⟩
theorem tt : true = true := rfl
theorem nf : true ≠ false := fun h => nomatch h
abbrev oN : Option Orc := some .no
abbrev oF : Option Orc := some (.cond false)
abbrev oT : Option Orc := some (.cond true)
abbrev o_ : Option Orc := none
abbrev oc (v : AV) : Option Orc := some (.call v [] 1)
theorem sN {c : Ctx} {code : Code} {Q : Exit → Q0a → Prop} {σ : Q0a} (h : Wp Tryz.prog c (cl code) (Qc1 Tryz.prog c (cr code) Q) σ) (hk : Nat.beq (Qbs code) 1 = true := by kernel_rfl) : Wp Tryz.prog c code Q σ := Wp.seqN hk h
theorem cT {c : Ctx} {code : Code} {Q : Exit → Q0a → Prop} {σ : Q0a} (b : Bool) (hb : b = true) (h1 : Wp Tryz.prog c (cl code) Q σ) (hk : Nat.beq (Qbs code) 2 = true := by kernel_rfl) (hx : opv σ (Qbr code) = .bool b := by kernel_rfl) : Wp Tryz.prog c code Q σ := Wp.condT hk hx hb h1
theorem cF {c : Ctx} {code : Code} {Q : Exit → Q0a → Prop} {σ : Q0a} (b : Bool) (hb : b = false) (h1 : Wp Tryz.prog c (cr code) Q σ) (hk : Nat.beq (Qbs code) 2 = true := by kernel_rfl) (hx : opv σ (Qbr code) = .bool b := by kernel_rfl) : Wp Tryz.prog c code Q σ := Wp.condF hk hx hb h1
end Go.Am
