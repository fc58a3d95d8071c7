/- The table of types, and the bodies. Printed by a program of mine (gen.py). -/
import Derived.Test.YtckgdfakjjdodaaGreatGERATy
import Derived.Test.YtckgdfakjjdodaaGreatChecked
set_option linter.unusedVariables false
set_option linter.unusedSimpArgs false
set_option maxRecDepth 100000
namespace Go.Am
open Go Go.Proofs
def tis : List (Nat × Q1o) := [(22, ⟨.slice 5, 1, 24, .nils⟩),
  (4, ⟨.bool, 1, 1, .bool false⟩),
  (27, ⟨.struct [(0, 3), (1, 24), (2, 24), (3, 25)], 4, 80, .agg [.int .i64 0, .nils, .nils, .nils]⟩),
  (24, ⟨.slice 3, 1, 24, .nils⟩),
  (32, ⟨.struct [(0, 3), (1, 3), (2, 24), (3, 30)], 4, 64, .agg [.int .i64 0, .int .i64 0, .nils, .nils]⟩),
  (83, ⟨.pointer 139, 1, 8, .nilp⟩),
  (5, ⟨.int .u8, 1, 1, .int .u8 0⟩),
  (3, ⟨.int .i64, 1, 8, .int .i64 0⟩),
  (139, ⟨.struct [(0, 22), (1, 3), (2, 3)], 3, 40, .agg [.nils, .int .i64 0, .int .i64 0]⟩),
  (25, ⟨.slice 4, 1, 24, .nils⟩),
  (67, ⟨.slice 24, 1, 24, .nils⟩),
  (30, ⟨.slice 32, 1, 24, .nils⟩),
  (162, ⟨.struct [(0, 9), (1, 3), (2, 4), (3, 4)], 4, 32, .agg [.str ByteArray.empty, .int .i64 0, .bool false, .bool false]⟩),
  (9, ⟨.string, 1, 16, .str ByteArray.empty⟩),
  (186, ⟨.slice 162, 1, 24, .nils⟩)]
def TIx : Nat → Option Q1o := lk none (tis.map fun p => (p.1, some p.2))
theorem K1l : Q1u Tryz.prog 22 ⟨.slice 5, 1, 24, .nils⟩ := ⟨by kernel_rfl, by kernel_rfl, by kernel_rfl, by kernel_rfl⟩
theorem K1m : Q1u Tryz.prog 4 ⟨.bool, 1, 1, .bool false⟩ := ⟨by kernel_rfl, by kernel_rfl, by kernel_rfl, by kernel_rfl⟩
theorem K1n : Q1u Tryz.prog 27 ⟨.struct [(0, 3), (1, 24), (2, 24), (3, 25)], 4, 80, .agg [.int .i64 0, .nils, .nils, .nils]⟩ := ⟨by kernel_rfl, by kernel_rfl, by kernel_rfl, by kernel_rfl⟩
theorem K1o : Q1u Tryz.prog 24 ⟨.slice 3, 1, 24, .nils⟩ := ⟨by kernel_rfl, by kernel_rfl, by kernel_rfl, by kernel_rfl⟩
theorem K1p : Q1u Tryz.prog 32 ⟨.struct [(0, 3), (1, 3), (2, 24), (3, 30)], 4, 64, .agg [.int .i64 0, .int .i64 0, .nils, .nils]⟩ := ⟨by kernel_rfl, by kernel_rfl, by kernel_rfl, by kernel_rfl⟩
theorem K1q : Q1u Tryz.prog 83 ⟨.pointer 139, 1, 8, .nilp⟩ := ⟨by kernel_rfl, by kernel_rfl, by kernel_rfl, by kernel_rfl⟩
theorem K1r : Q1u Tryz.prog 5 ⟨.int .u8, 1, 1, .int .u8 0⟩ := ⟨by kernel_rfl, by kernel_rfl, by kernel_rfl, by kernel_rfl⟩
theorem K1s : Q1u Tryz.prog 3 ⟨.int .i64, 1, 8, .int .i64 0⟩ := ⟨by kernel_rfl, by kernel_rfl, by kernel_rfl, by kernel_rfl⟩
theorem K1t : Q1u Tryz.prog 139 ⟨.struct [(0, 22), (1, 3), (2, 3)], 3, 40, .agg [.nils, .int .i64 0, .int .i64 0]⟩ := ⟨by kernel_rfl, by kernel_rfl, by kernel_rfl, by kernel_rfl⟩
theorem K1u : Q1u Tryz.prog 25 ⟨.slice 4, 1, 24, .nils⟩ := ⟨by kernel_rfl, by kernel_rfl, by kernel_rfl, by kernel_rfl⟩
theorem K1v : Q1u Tryz.prog 67 ⟨.slice 24, 1, 24, .nils⟩ := ⟨by kernel_rfl, by kernel_rfl, by kernel_rfl, by kernel_rfl⟩
theorem K1w : Q1u Tryz.prog 30 ⟨.slice 32, 1, 24, .nils⟩ := ⟨by kernel_rfl, by kernel_rfl, by kernel_rfl, by kernel_rfl⟩
theorem K1x : Q1u Tryz.prog 162 ⟨.struct [(0, 9), (1, 3), (2, 4), (3, 4)], 4, 32, .agg [.str ByteArray.empty, .int .i64 0, .bool false, .bool false]⟩ := ⟨by kernel_rfl, by kernel_rfl, by kernel_rfl, by kernel_rfl⟩
theorem K1y : Q1u Tryz.prog 9 ⟨.string, 1, 16, .str ByteArray.empty⟩ := ⟨by kernel_rfl, by kernel_rfl, by kernel_rfl, by kernel_rfl⟩
theorem K1z : Q1u Tryz.prog 186 ⟨.slice 162, 1, 24, .nils⟩ := ⟨by kernel_rfl, by kernel_rfl, by kernel_rfl, by kernel_rfl⟩
theorem K20 : Q1v Tryz.prog TIx := Q1v.of_list tis (by
  intro p hp
  simp only [tis, List.mem_cons, List.not_mem_nil, or_false] at hp
  rcases hp with rfl | rfl | rfl | rfl | rfl | rfl | rfl | rfl | rfl | rfl | rfl | rfl | rfl | rfl | rfl
  · exact K1l
  · exact K1m
  · exact K1n
  · exact K1o
  · exact K1p
  · exact K1q
  · exact K1r
  · exact K1s
  · exact K1t
  · exact K1u
  · exact K1v
  · exact K1w
  · exact K1x
  · exact K1y
  · exact K1z)
theorem mix : Tryz.prog.follows .mixedOrders = true := Tryz.checked.mixed
noncomputable def B14 : Code := Tryz.f14.body.getD .skip
theorem K21 : Q7v Tryz.prog 14 := Qdr (fn := Tryz.f14) (by kernel_rfl) (by kernel_rfl) (by kernel_rfl)
noncomputable def B71 : Code := Tryz.f71.body.getD .skip
theorem K22 : Q7v Tryz.prog 71 := Qdr (fn := Tryz.f71) (by kernel_rfl) (by kernel_rfl) (by kernel_rfl)
noncomputable def K23 : Code := Tryz.f174.body.getD .skip
theorem K24 : Q7v Tryz.prog 174 := Qdr (fn := Tryz.f174) (by kernel_rfl) (by kernel_rfl) (by kernel_rfl)
noncomputable def B90 : Code := Tryz.f90.body.getD .skip
theorem K25 : Q7v Tryz.prog 90 := Qdr (fn := Tryz.f90) (by kernel_rfl) (by kernel_rfl) (by kernel_rfl)
noncomputable def K26 : Code := Tryz.f119.body.getD .skip
theorem K27 : Q7v Tryz.prog 119 := Qdr (fn := Tryz.f119) (by kernel_rfl) (by kernel_rfl) (by kernel_rfl)
noncomputable def K28 : Code := Tryz.f123.body.getD .skip
theorem K29 : Q7v Tryz.prog 123 := Qdr (fn := Tryz.f123) (by kernel_rfl) (by kernel_rfl) (by kernel_rfl)
noncomputable def K2a : Code := Tryz.f121.body.getD .skip
theorem K2b : Q7v Tryz.prog 121 := Qdr (fn := Tryz.f121) (by kernel_rfl) (by kernel_rfl) (by kernel_rfl)
noncomputable def K2c : Code := Tryz.f152.body.getD .skip
theorem K2d : Q7v Tryz.prog 152 := Qdr (fn := Tryz.f152) (by kernel_rfl) (by kernel_rfl) (by kernel_rfl)
noncomputable def B47 : Code := Tryz.f47.body.getD .skip
theorem K2e : Q7v Tryz.prog 47 := Qdr (fn := Tryz.f47) (by kernel_rfl) (by kernel_rfl) (by kernel_rfl)
noncomputable def K2f : Code := Tryz.f100.body.getD .skip
theorem K2g : Q7v Tryz.prog 100 := Qdr (fn := Tryz.f100) (by kernel_rfl) (by kernel_rfl) (by kernel_rfl)
noncomputable def K2h : Code := Tryz.f153.body.getD .skip
theorem K2i : Q7v Tryz.prog 153 := Qdr (fn := Tryz.f153) (by kernel_rfl) (by kernel_rfl) (by kernel_rfl)
noncomputable def K2j : Code := Tryz.f163.body.getD .skip
theorem K2k : Q7v Tryz.prog 163 := Qdr (fn := Tryz.f163) (by kernel_rfl) (by kernel_rfl) (by kernel_rfl)
noncomputable def K2l : Code := Tryz.f211.body.getD .skip
theorem K2m : Q7v Tryz.prog 211 := Qdr (fn := Tryz.f211) (by kernel_rfl) (by kernel_rfl) (by kernel_rfl)
noncomputable def K2n : Code := Tryz.f212.body.getD .skip
theorem K2o : Q7v Tryz.prog 212 := Qdr (fn := Tryz.f212) (by kernel_rfl) (by kernel_rfl) (by kernel_rfl)
noncomputable def K2p : Code := Tryz.f202.body.getD .skip
theorem K2q : Q7v Tryz.prog 202 := Qdr (fn := Tryz.f202) (by kernel_rfl) (by kernel_rfl) (by kernel_rfl)
noncomputable def K2r : Code := Tryz.f164.body.getD .skip
theorem K2s : Q7v Tryz.prog 164 := Qdr (fn := Tryz.f164) (by kernel_rfl) (by kernel_rfl) (by kernel_rfl)
noncomputable def K2t : Code := Tryz.f214.body.getD .skip
theorem K2u : Q7v Tryz.prog 214 := Qdr (fn := Tryz.f214) (by kernel_rfl) (by kernel_rfl) (by kernel_rfl)
noncomputable def K2v : Code := Tryz.f165.body.getD .skip
theorem K2w : Q7v Tryz.prog 165 := Qdr (fn := Tryz.f165) (by kernel_rfl) (by kernel_rfl) (by kernel_rfl)
noncomputable def K2x : Code := Tryz.f166.body.getD .skip
theorem K2y : Q7v Tryz.prog 166 := Qdr (fn := Tryz.f166) (by kernel_rfl) (by kernel_rfl) (by kernel_rfl)
noncomputable def B80 : Code := Tryz.f80.body.getD .skip
theorem K2z : Q7v Tryz.prog 80 := Qdr (fn := Tryz.f80) (by kernel_rfl) (by kernel_rfl) (by kernel_rfl)
noncomputable def K30 : Code := Tryz.f207.body.getD .skip
theorem K31 : Q7v Tryz.prog 207 := Qdr (fn := Tryz.f207) (by kernel_rfl) (by kernel_rfl) (by kernel_rfl)
noncomputable def K32 : Code := Tryz.f208.body.getD .skip
theorem K33 : Q7v Tryz.prog 208 := Qdr (fn := Tryz.f208) (by kernel_rfl) (by kernel_rfl) (by kernel_rfl)
noncomputable def K34 : Code := Tryz.f209.body.getD .skip
theorem K35 : Q7v Tryz.prog 209 := Qdr (fn := Tryz.f209) (by kernel_rfl) (by kernel_rfl) (by kernel_rfl)
noncomputable def K36 : Code := Tryz.f210.body.getD .skip
theorem K37 : Q7v Tryz.prog 210 := Qdr (fn := Tryz.f210) (by kernel_rfl) (by kernel_rfl) (by kernel_rfl)
noncomputable def K38 : Code := Tryz.f154.body.getD .skip
theorem K39 : Q7v Tryz.prog 154 := Qdr (fn := Tryz.f154) (by kernel_rfl) (by kernel_rfl) (by kernel_rfl)
noncomputable def B72 : Code := Tryz.f72.body.getD .skip
theorem K3a : Q7v Tryz.prog 72 := Qdr (fn := Tryz.f72) (by kernel_rfl) (by kernel_rfl) (by kernel_rfl)
noncomputable def B75 : Code := Tryz.f75.body.getD .skip
theorem K3b : Q7v Tryz.prog 75 := Qdr (fn := Tryz.f75) (by kernel_rfl) (by kernel_rfl) (by kernel_rfl)
noncomputable def K3c : Code := Tryz.f155.body.getD .skip
theorem K3d : Q7v Tryz.prog 155 := Qdr (fn := Tryz.f155) (by kernel_rfl) (by kernel_rfl) (by kernel_rfl)
noncomputable def K3e : Code := Tryz.f182.body.getD .skip
theorem K3f : Q7v Tryz.prog 182 := Qdr (fn := Tryz.f182) (by kernel_rfl) (by kernel_rfl) (by kernel_rfl)
noncomputable def K3g : Code := Tryz.f215.body.getD .skip
theorem K3h : Q7v Tryz.prog 215 := Qdr (fn := Tryz.f215) (by kernel_rfl) (by kernel_rfl) (by kernel_rfl)
noncomputable def K3i : Code := Tryz.f185.body.getD .skip
theorem K3j : Q7v Tryz.prog 185 := Qdr (fn := Tryz.f185) (by kernel_rfl) (by kernel_rfl) (by kernel_rfl)
noncomputable def K3k : Code := Tryz.f168.body.getD .skip
theorem K3l : Q7v Tryz.prog 168 := Qdr (fn := Tryz.f168) (by kernel_rfl) (by kernel_rfl) (by kernel_rfl)
noncomputable def K3m : Code := Tryz.f167.body.getD .skip
theorem K3n : Q7v Tryz.prog 167 := Qdr (fn := Tryz.f167) (by kernel_rfl) (by kernel_rfl) (by kernel_rfl)
noncomputable def K3o : Code := Tryz.f176.body.getD .skip
theorem K3p : Q7v Tryz.prog 176 := Qdr (fn := Tryz.f176) (by kernel_rfl) (by kernel_rfl) (by kernel_rfl)
noncomputable def K3q : Code := Tryz.f178.body.getD .skip
theorem K3r : Q7v Tryz.prog 178 := Qdr (fn := Tryz.f178) (by kernel_rfl) (by kernel_rfl) (by kernel_rfl)
noncomputable def K3s : Code := Tryz.f104.body.getD .skip
theorem K3t : Q7v Tryz.prog 104 := Qdr (fn := Tryz.f104) (by kernel_rfl) (by kernel_rfl) (by kernel_rfl)
noncomputable def B73 : Code := Tryz.f73.body.getD .skip
theorem K3u : Q7v Tryz.prog 73 := Qdr (fn := Tryz.f73) (by kernel_rfl) (by kernel_rfl) (by kernel_rfl)
noncomputable def K3v : Code := Tryz.f169.body.getD .skip
theorem K3w : Q7v Tryz.prog 169 := Qdr (fn := Tryz.f169) (by kernel_rfl) (by kernel_rfl) (by kernel_rfl)
noncomputable def K3x : Code := Tryz.f191.body.getD .skip
theorem K3y : Q7v Tryz.prog 191 := Qdr (fn := Tryz.f191) (by kernel_rfl) (by kernel_rfl) (by kernel_rfl)
noncomputable def K3z : Code := Tryz.f132.body.getD .skip
theorem K40 : Q7v Tryz.prog 132 := Qdr (fn := Tryz.f132) (by kernel_rfl) (by kernel_rfl) (by kernel_rfl)
noncomputable def K41 : Code := Tryz.f156.body.getD .skip
theorem K42 : Q7v Tryz.prog 156 := Qdr (fn := Tryz.f156) (by kernel_rfl) (by kernel_rfl) (by kernel_rfl)
noncomputable def K43 : Code := Tryz.f105.body.getD .skip
theorem K44 : Q7v Tryz.prog 105 := Qdr (fn := Tryz.f105) (by kernel_rfl) (by kernel_rfl) (by kernel_rfl)
noncomputable def K45 : Code := Tryz.f177.body.getD .skip
theorem K46 : Q7v Tryz.prog 177 := Qdr (fn := Tryz.f177) (by kernel_rfl) (by kernel_rfl) (by kernel_rfl)
noncomputable def K47 : Code := Tryz.f223.body.getD .skip
theorem K48 : Q7v Tryz.prog 223 := Qdr (fn := Tryz.f223) (by kernel_rfl) (by kernel_rfl) (by kernel_rfl)
noncomputable def K49 : Code := Tryz.f224.body.getD .skip
theorem K4a : Q7v Tryz.prog 224 := Qdr (fn := Tryz.f224) (by kernel_rfl) (by kernel_rfl) (by kernel_rfl)
noncomputable def K4b : Code := Tryz.f175.body.getD .skip
theorem K4c : Q7v Tryz.prog 175 := Qdr (fn := Tryz.f175) (by kernel_rfl) (by kernel_rfl) (by kernel_rfl)
noncomputable def B99 : Code := Tryz.f99.body.getD .skip
theorem K4d : Q7v Tryz.prog 99 := Qdr (fn := Tryz.f99) (by kernel_rfl) (by kernel_rfl) (by kernel_rfl)
noncomputable def K4e : Code := Tryz.f204.body.getD .skip
theorem K4f : Q7v Tryz.prog 204 := Qdr (fn := Tryz.f204) (by kernel_rfl) (by kernel_rfl) (by kernel_rfl)
noncomputable def K4g : Code := Tryz.f143.body.getD .skip
theorem K4h : Q7v Tryz.prog 143 := Qdr (fn := Tryz.f143) (by kernel_rfl) (by kernel_rfl) (by kernel_rfl)
noncomputable def B91 : Code := Tryz.f91.body.getD .skip
theorem K4i : Q7v Tryz.prog 91 := Qdr (fn := Tryz.f91) (by kernel_rfl) (by kernel_rfl) (by kernel_rfl)
noncomputable def B35 : Code := Tryz.f35.body.getD .skip
theorem K4j : Q7v Tryz.prog 35 := Qdr (fn := Tryz.f35) (by kernel_rfl) (by kernel_rfl) (by kernel_rfl)
noncomputable def B95 : Code := Tryz.f95.body.getD .skip
theorem K4k : Q7v Tryz.prog 95 := Qdr (fn := Tryz.f95) (by kernel_rfl) (by kernel_rfl) (by kernel_rfl)
noncomputable def K4l : Code := Tryz.f145.body.getD .skip
theorem K4m : Q7v Tryz.prog 145 := Qdr (fn := Tryz.f145) (by kernel_rfl) (by kernel_rfl) (by kernel_rfl)
noncomputable def K4n : Code := Tryz.f160.body.getD .skip
theorem K4o : Q7v Tryz.prog 160 := Qdr (fn := Tryz.f160) (by kernel_rfl) (by kernel_rfl) (by kernel_rfl)
noncomputable def K4p : Code := Tryz.f161.body.getD .skip
theorem K4q : Q7v Tryz.prog 161 := Qdr (fn := Tryz.f161) (by kernel_rfl) (by kernel_rfl) (by kernel_rfl)
noncomputable def B89 : Code := Tryz.f89.body.getD .skip
theorem K4r : Q7v Tryz.prog 89 := Qdr (fn := Tryz.f89) (by kernel_rfl) (by kernel_rfl) (by kernel_rfl)
noncomputable def K4s : Code := Tryz.f149.body.getD .skip
theorem K4t : Q7v Tryz.prog 149 := Qdr (fn := Tryz.f149) (by kernel_rfl) (by kernel_rfl) (by kernel_rfl)
noncomputable def K4u : Code := Tryz.f162.body.getD .skip
theorem K4v : Q7v Tryz.prog 162 := Qdr (fn := Tryz.f162) (by kernel_rfl) (by kernel_rfl) (by kernel_rfl)
noncomputable def B79 : Code := Tryz.f79.body.getD .skip
theorem K4w : Q7v Tryz.prog 79 := Qdr (fn := Tryz.f79) (by kernel_rfl) (by kernel_rfl) (by kernel_rfl)
noncomputable def K4x : Code := Tryz.f151.body.getD .skip
theorem K4y : Q7v Tryz.prog 151 := Qdr (fn := Tryz.f151) (by kernel_rfl) (by kernel_rfl) (by kernel_rfl)
noncomputable def B69 : Code := Tryz.f69.body.getD .skip
theorem K4z : Q7v Tryz.prog 69 := Qdr (fn := Tryz.f69) (by kernel_rfl) (by kernel_rfl) (by kernel_rfl)
noncomputable def K50 : Code := Tryz.f157.body.getD .skip
theorem K51 : Q7v Tryz.prog 157 := Qdr (fn := Tryz.f157) (by kernel_rfl) (by kernel_rfl) (by kernel_rfl)
noncomputable def K52 : Code := Tryz.f213.body.getD .skip
theorem K53 : Q7v Tryz.prog 213 := Qdr (fn := Tryz.f213) (by kernel_rfl) (by kernel_rfl) (by kernel_rfl)
noncomputable def K54 : Code := Tryz.f159.body.getD .skip
theorem K55 : Q7v Tryz.prog 159 := Qdr (fn := Tryz.f159) (by kernel_rfl) (by kernel_rfl) (by kernel_rfl)
noncomputable def B78 : Code := Tryz.f78.body.getD .skip
theorem K56 : Q7v Tryz.prog 78 := Qdr (fn := Tryz.f78) (by kernel_rfl) (by kernel_rfl) (by kernel_rfl)
noncomputable def K57 : Code := Tryz.f170.body.getD .skip
theorem K58 : Q7v Tryz.prog 170 := Qdr (fn := Tryz.f170) (by kernel_rfl) (by kernel_rfl) (by kernel_rfl)
noncomputable def K59 : Code := Tryz.f193.body.getD .skip
theorem K5a : Q7v Tryz.prog 193 := Qdr (fn := Tryz.f193) (by kernel_rfl) (by kernel_rfl) (by kernel_rfl)
noncomputable def K5b : Code := Tryz.f116.body.getD .skip
theorem K5c : Q7v Tryz.prog 116 := Qdr (fn := Tryz.f116) (by kernel_rfl) (by kernel_rfl) (by kernel_rfl)
noncomputable def B83 : Code := Tryz.f83.body.getD .skip
theorem K5d : Q7v Tryz.prog 83 := Qdr (fn := Tryz.f83) (by kernel_rfl) (by kernel_rfl) (by kernel_rfl)
noncomputable def B19 : Code := Tryz.f19.body.getD .skip
theorem K5e : Q7v Tryz.prog 19 := Qdr (fn := Tryz.f19) (by kernel_rfl) (by kernel_rfl) (by kernel_rfl)
noncomputable def K5f : Code := Tryz.f158.body.getD .skip
theorem K5g : Q7v Tryz.prog 158 := Qdr (fn := Tryz.f158) (by kernel_rfl) (by kernel_rfl) (by kernel_rfl)
noncomputable def B84 : Code := Tryz.f84.body.getD .skip
theorem K5h : Q7v Tryz.prog 84 := Qdr (fn := Tryz.f84) (by kernel_rfl) (by kernel_rfl) (by kernel_rfl)
noncomputable def K5i : Code := Tryz.f144.body.getD .skip
theorem K5j : Q7v Tryz.prog 144 := Qdr (fn := Tryz.f144) (by kernel_rfl) (by kernel_rfl) (by kernel_rfl)
noncomputable def B20 : Code := Tryz.f20.body.getD .skip
theorem K5k : Q7v Tryz.prog 20 := Qdr (fn := Tryz.f20) (by kernel_rfl) (by kernel_rfl) (by kernel_rfl)
noncomputable def B88 : Code := Tryz.f88.body.getD .skip
theorem K5l : Q7v Tryz.prog 88 := Qdr (fn := Tryz.f88) (by kernel_rfl) (by kernel_rfl) (by kernel_rfl)
noncomputable def K5m : Code := Tryz.f131.body.getD .skip
theorem K5n : Q7v Tryz.prog 131 := Qdr (fn := Tryz.f131) (by kernel_rfl) (by kernel_rfl) (by kernel_rfl)
noncomputable def B97 : Code := Tryz.f97.body.getD .skip
theorem K5o : Q7v Tryz.prog 97 := Qdr (fn := Tryz.f97) (by kernel_rfl) (by kernel_rfl) (by kernel_rfl)
noncomputable def K5p : Code := Tryz.f206.body.getD .skip
theorem K5q : Q7v Tryz.prog 206 := Qdr (fn := Tryz.f206) (by kernel_rfl) (by kernel_rfl) (by kernel_rfl)
noncomputable def K5r : Code := Tryz.f150.body.getD .skip
theorem K5s : Q7v Tryz.prog 150 := Qdr (fn := Tryz.f150) (by kernel_rfl) (by kernel_rfl) (by kernel_rfl)
noncomputable def B77 : Code := Tryz.f77.body.getD .skip
theorem K5t : Q7v Tryz.prog 77 := Qdr (fn := Tryz.f77) (by kernel_rfl) (by kernel_rfl) (by kernel_rfl)
noncomputable def B30 : Code := Tryz.f30.body.getD .skip
theorem K5u : Q7v Tryz.prog 30 := Qdr (fn := Tryz.f30) (by kernel_rfl) (by kernel_rfl) (by kernel_rfl)
noncomputable def B93 : Code := Tryz.f93.body.getD .skip
theorem K5v : Q7v Tryz.prog 93 := Qdr (fn := Tryz.f93) (by kernel_rfl) (by kernel_rfl) (by kernel_rfl)
noncomputable def B81 : Code := Tryz.f81.body.getD .skip
theorem K5w : Q7v Tryz.prog 81 := Qdr (fn := Tryz.f81) (by kernel_rfl) (by kernel_rfl) (by kernel_rfl)
noncomputable def B82 : Code := Tryz.f82.body.getD .skip
theorem K5x : Q7v Tryz.prog 82 := Qdr (fn := Tryz.f82) (by kernel_rfl) (by kernel_rfl) (by kernel_rfl)
noncomputable def B18 : Code := Tryz.f18.body.getD .skip
theorem K5y : Q7v Tryz.prog 18 := Qdr (fn := Tryz.f18) (by kernel_rfl) (by kernel_rfl) (by kernel_rfl)
noncomputable def K5z : Code := Tryz.f181.body.getD .skip
theorem K60 : Q7v Tryz.prog 181 := Qdr (fn := Tryz.f181) (by kernel_rfl) (by kernel_rfl) (by kernel_rfl)
noncomputable def K61 : Code := Tryz.f101.body.getD .skip
theorem K62 : Q7v Tryz.prog 101 := Qdr (fn := Tryz.f101) (by kernel_rfl) (by kernel_rfl) (by kernel_rfl)
noncomputable def K63 : Code := Tryz.f113.body.getD .skip
theorem K64 : Q7v Tryz.prog 113 := Qdr (fn := Tryz.f113) (by kernel_rfl) (by kernel_rfl) (by kernel_rfl)
noncomputable def K65 : Code := Tryz.f227.body.getD .skip
theorem K66 : Q7v Tryz.prog 227 := Qdr (fn := Tryz.f227) (by kernel_rfl) (by kernel_rfl) (by kernel_rfl)
noncomputable def K67 : Code := Tryz.f225.body.getD .skip
theorem K68 : Q7v Tryz.prog 225 := Qdr (fn := Tryz.f225) (by kernel_rfl) (by kernel_rfl) (by kernel_rfl)
noncomputable def K69 : Code := Tryz.f228.body.getD .skip
theorem K6a : Q7v Tryz.prog 228 := Qdr (fn := Tryz.f228) (by kernel_rfl) (by kernel_rfl) (by kernel_rfl)
noncomputable def K6b : Code := Tryz.f190.body.getD .skip
theorem K6c : Q7v Tryz.prog 190 := Qdr (fn := Tryz.f190) (by kernel_rfl) (by kernel_rfl) (by kernel_rfl)
noncomputable def K6d : Code := Tryz.f114.body.getD .skip
theorem K6e : Q7v Tryz.prog 114 := Qdr (fn := Tryz.f114) (by kernel_rfl) (by kernel_rfl) (by kernel_rfl)
noncomputable def K6f : Code := Tryz.f183.body.getD .skip
theorem K6g : Q7v Tryz.prog 183 := Qdr (fn := Tryz.f183) (by kernel_rfl) (by kernel_rfl) (by kernel_rfl)
noncomputable def K6h : Code := Tryz.f184.body.getD .skip
theorem K6i : Q7v Tryz.prog 184 := Qdr (fn := Tryz.f184) (by kernel_rfl) (by kernel_rfl) (by kernel_rfl)
noncomputable def K6j : Code := Tryz.f147.body.getD .skip
theorem K6k : Q7v Tryz.prog 147 := Qdr (fn := Tryz.f147) (by kernel_rfl) (by kernel_rfl) (by kernel_rfl)
noncomputable def K6l : Code := Tryz.f106.body.getD .skip
theorem K6m : Q7v Tryz.prog 106 := Qdr (fn := Tryz.f106) (by kernel_rfl) (by kernel_rfl) (by kernel_rfl)
noncomputable def K6n : Code := Tryz.f179.body.getD .skip
theorem K6o : Q7v Tryz.prog 179 := Qdr (fn := Tryz.f179) (by kernel_rfl) (by kernel_rfl) (by kernel_rfl)
noncomputable def K6p : Code := Tryz.f186.body.getD .skip
theorem K6q : Q7v Tryz.prog 186 := Qdr (fn := Tryz.f186) (by kernel_rfl) (by kernel_rfl) (by kernel_rfl)
noncomputable def K6r : Code := Tryz.f107.body.getD .skip
theorem K6s : Q7v Tryz.prog 107 := Qdr (fn := Tryz.f107) (by kernel_rfl) (by kernel_rfl) (by kernel_rfl)
noncomputable def B36 : Code := Tryz.f36.body.getD .skip
theorem K6t : Q7v Tryz.prog 36 := Qdr (fn := Tryz.f36) (by kernel_rfl) (by kernel_rfl) (by kernel_rfl)
noncomputable def K6u : Code := Tryz.f108.body.getD .skip
theorem K6v : Q7v Tryz.prog 108 := Qdr (fn := Tryz.f108) (by kernel_rfl) (by kernel_rfl) (by kernel_rfl)
noncomputable def B37 : Code := Tryz.f37.body.getD .skip
theorem K6w : Q7v Tryz.prog 37 := Qdr (fn := Tryz.f37) (by kernel_rfl) (by kernel_rfl) (by kernel_rfl)
noncomputable def K6x : Code := Tryz.f188.body.getD .skip
theorem K6y : Q7v Tryz.prog 188 := Qdr (fn := Tryz.f188) (by kernel_rfl) (by kernel_rfl) (by kernel_rfl)
noncomputable def K6z : Code := Tryz.f189.body.getD .skip
theorem K70 : Q7v Tryz.prog 189 := Qdr (fn := Tryz.f189) (by kernel_rfl) (by kernel_rfl) (by kernel_rfl)
noncomputable def K71 : Code := Tryz.f199.body.getD .skip
theorem K72 : Q7v Tryz.prog 199 := Qdr (fn := Tryz.f199) (by kernel_rfl) (by kernel_rfl) (by kernel_rfl)
noncomputable def K73 : Code := Tryz.f134.body.getD .skip
theorem K74 : Q7v Tryz.prog 134 := Qdr (fn := Tryz.f134) (by kernel_rfl) (by kernel_rfl) (by kernel_rfl)
noncomputable def K75 : Code := Tryz.f112.body.getD .skip
theorem K76 : Q7v Tryz.prog 112 := Qdr (fn := Tryz.f112) (by kernel_rfl) (by kernel_rfl) (by kernel_rfl)
noncomputable def B40 : Code := Tryz.f40.body.getD .skip
theorem K77 : Q7v Tryz.prog 40 := Qdr (fn := Tryz.f40) (by kernel_rfl) (by kernel_rfl) (by kernel_rfl)
noncomputable def K78 : Code := Tryz.f180.body.getD .skip
theorem K79 : Q7v Tryz.prog 180 := Qdr (fn := Tryz.f180) (by kernel_rfl) (by kernel_rfl) (by kernel_rfl)
noncomputable def B98 : Code := Tryz.f98.body.getD .skip
theorem K7a : Q7v Tryz.prog 98 := Qdr (fn := Tryz.f98) (by kernel_rfl) (by kernel_rfl) (by kernel_rfl)
noncomputable def B31 : Code := Tryz.f31.body.getD .skip
theorem K7b : Q7v Tryz.prog 31 := Qdr (fn := Tryz.f31) (by kernel_rfl) (by kernel_rfl) (by kernel_rfl)
noncomputable def B6 : Code := Tryz.f6.body.getD .skip
theorem rg {c : Ctx} {code : Code} {Q : Exit → Q0a → Prop} {nt : Nat} (hnt : c.nt = nt) (ah : Option (List (List Nat))) (rs : List (Option Orc)) {T : List (Nat × AV)} {O : List (Nat × Q09)} (T' : List (Nat × AV)) (O' : List (Nat × Q09)) {A : Prop} (h : A)
    (hQ : Q .normal (mkS T' O')) (hk : Nat.beq (Qcr code) 0 = true := by kernel_rfl) (e1 : (Qbn TIx Tryz.prog nt (Qcn code) ah rs T O (T'.map (·.1)) (O'.map (·.1))).map (fun r => (r.T, Qbp r.O)) = some (T', O') := by kernel_rfl)
    (e2 : A = Qdd (Qbn TIx Tryz.prog nt (Qcn code) ah rs T O (T'.map (·.1)) (O'.map (·.1))) := by kernel_rfl) (hdraw : ((!Qco code && ah.isNone) || ah.isSome) = true := by kernel_rfl) : Wp Tryz.prog c code Q (mkS T O) := Wp.reg K20 mix hnt hk e1 h e2 hdraw hQ
theorem rg0 {c : Ctx} {code : Code} {Q : Exit → Q0a → Prop} {nt : Nat} (hnt : c.nt = nt) (n : Nat) {T : List (Nat × AV)} {O : List (Nat × Q09)} (T' : List (Nat × AV)) (O' : List (Nat × Q09))
    (hQ : Q .normal (mkS T' O')) (hk : Nat.beq (Qcr code) 0 = true := by kernel_rfl) (e1 : (Qbn TIx Tryz.prog nt (Qcn code) none (List.replicate n (some .no)) T O (T'.map (·.1)) (O'.map (·.1))).map (fun r => (r.T, Qbp r.O)) = some (T', O') := by kernel_rfl)
    (e2 : True = Qdd (Qbn TIx Tryz.prog nt (Qcn code) none (List.replicate n (some .no)) T O (T'.map (·.1)) (O'.map (·.1))) := by kernel_rfl) (hdraw : ((!Qco code && true) || false) = true := by kernel_rfl) : Wp Tryz.prog c code Q (mkS T O) := Wp.reg K20 mix hnt hk e1 trivial e2 hdraw hQ
theorem rgs {c : Ctx} {code : Code} {Q : Exit → Q0a → Prop} {nt : Nat} (hnt : c.nt = nt) (ah : Option (List (List Nat))) (rs : List (Option Orc)) {T : List (Nat × AV)} {O : List (Nat × Q09)} (T' : List (Nat × AV)) {A : Prop} (h : A)
    (hQ : Q .normal (mkS T' O)) (hk : Nat.beq (Qcr code) 0 = true := by kernel_rfl) (e1 : (Qbn TIx Tryz.prog nt (Qcn code) ah rs T O (T'.map (·.1)) (O.map (·.1))).map (fun r => (r.T, Qbp r.O)) = some (T', O) := by kernel_rfl)
    (e2 : A = Qdd (Qbn TIx Tryz.prog nt (Qcn code) ah rs T O (T'.map (·.1)) (O.map (·.1))) := by kernel_rfl) (hdraw : ((!Qco code && ah.isNone) || ah.isSome) = true := by kernel_rfl) : Wp Tryz.prog c code Q (mkS T O) := rg hnt ah rs T' O h hQ hk e1 e2 hdraw
theorem K7d {c : Ctx} {code : Code} {Q : Exit → Q0a → Prop} {nt : Nat} (hnt : c.nt = nt) (n : Nat) {T : List (Nat × AV)} {O : List (Nat × Q09)} (T' : List (Nat × AV))
    (hQ : Q .normal (mkS T' O)) (hk : Nat.beq (Qcr code) 0 = true := by kernel_rfl) (e1 : (Qbn TIx Tryz.prog nt (Qcn code) none (List.replicate n (some .no)) T O (T'.map (·.1)) (O.map (·.1))).map (fun r => (r.T, Qbp r.O)) = some (T', O) := by kernel_rfl)
    (e2 : True = Qdd (Qbn TIx Tryz.prog nt (Qcn code) none (List.replicate n (some .no)) T O (T'.map (·.1)) (O.map (·.1))) := by kernel_rfl) (hdraw : ((!Qco code && true) || false) = true := by kernel_rfl) : Wp Tryz.prog c code Q (mkS T O) := rg0 hnt n T' O hQ hk e1 e2 hdraw
theorem ix {e : List Int} {i : Int} {x : Int} (h : idx e i = some x) : 0 ≤ i ∧ (e.map I)[i.toNat]? = some (.int .i64 x) := Qdw (enc := I) (x := .int .i64 x) h (Qe7 x)
def rep : Nat → Prop → Prop → Prop
  | 0, _, b => b
  | n + 1, a, b => a ∧ rep n a b
theorem ar {a b : Prop} : ∀ (n : Nat) (x : a) (y : b), rep n a b
  | 0, _, y => y
  | n + 1, x, y => ⟨x, ar n x y⟩
theorem rs {c : Ctx} {code : Code} {Q : Exit → Q0a → Prop} {nt : Nat} (hnt : c.nt = nt) (ah : Option (List (List Nat))) (rs : List (Option Orc)) {T : List (Nat × AV)} {O : List (Nat × Q09)} (T' : List (Nat × AV)) (O' : List (Nat × Q09)) {A : Prop} (h : A)
    (hQ : Wp Tryz.prog c (cr code) Q (mkS T' O')) (h1 : Nat.beq (Qcr code) 1 = true := by kernel_rfl) (hk : Nat.beq (Qcr (cl code)) 0 = true := by kernel_rfl) (e1 : (Qbn TIx Tryz.prog nt (Qcn (cl code)) ah rs T O (T'.map (·.1)) (O'.map (·.1))).map (fun r => (r.T, Qbp r.O)) = some (T', O') := by kernel_rfl)
    (e2 : A = Qdd (Qbn TIx Tryz.prog nt (Qcn (cl code)) ah rs T O (T'.map (·.1)) (O'.map (·.1))) := by kernel_rfl) (hdraw : ((!Qco (cl code) && ah.isNone) || ah.isSome) = true := by kernel_rfl) : Wp Tryz.prog c code Q (mkS T O) := Wp.seqN h1 (Wp.reg K20 mix hnt hk e1 h e2 hdraw (Qd3 hQ))
theorem rs0 {c : Ctx} {code : Code} {Q : Exit → Q0a → Prop} {nt : Nat} (hnt : c.nt = nt) (n : Nat) {T : List (Nat × AV)} {O : List (Nat × Q09)} (T' : List (Nat × AV)) (O' : List (Nat × Q09))
    (hQ : Wp Tryz.prog c (cr code) Q (mkS T' O')) (h1 : Nat.beq (Qcr code) 1 = true := by kernel_rfl) (hk : Nat.beq (Qcr (cl code)) 0 = true := by kernel_rfl) (e1 : (Qbn TIx Tryz.prog nt (Qcn (cl code)) none (List.replicate n (some .no)) T O (T'.map (·.1)) (O'.map (·.1))).map (fun r => (r.T, Qbp r.O)) = some (T', O') := by kernel_rfl)
    (e2 : True = Qdd (Qbn TIx Tryz.prog nt (Qcn (cl code)) none (List.replicate n (some .no)) T O (T'.map (·.1)) (O'.map (·.1))) := by kernel_rfl) (hdraw : ((!Qco (cl code) && true) || false) = true := by kernel_rfl) : Wp Tryz.prog c code Q (mkS T O) := Wp.seqN h1 (Wp.reg K20 mix hnt hk e1 trivial e2 hdraw (Qd3 hQ))
theorem rss {c : Ctx} {code : Code} {Q : Exit → Q0a → Prop} {nt : Nat} (hnt : c.nt = nt) (ah : Option (List (List Nat))) (rs' : List (Option Orc)) {T : List (Nat × AV)} {O : List (Nat × Q09)} (T' : List (Nat × AV)) {A : Prop} (h : A)
    (hQ : Wp Tryz.prog c (cr code) Q (mkS T' O)) (h1 : Nat.beq (Qcr code) 1 = true := by kernel_rfl) (hk : Nat.beq (Qcr (cl code)) 0 = true := by kernel_rfl) (e1 : (Qbn TIx Tryz.prog nt (Qcn (cl code)) ah rs' T O (T'.map (·.1)) (O.map (·.1))).map (fun r => (r.T, Qbp r.O)) = some (T', O) := by kernel_rfl)
    (e2 : A = Qdd (Qbn TIx Tryz.prog nt (Qcn (cl code)) ah rs' T O (T'.map (·.1)) (O.map (·.1))) := by kernel_rfl) (hdraw : ((!Qco (cl code) && ah.isNone) || ah.isSome) = true := by kernel_rfl) : Wp Tryz.prog c code Q (mkS T O) := rs hnt ah rs' T' O h hQ h1 hk e1 e2 hdraw
theorem K7e {c : Ctx} {code : Code} {Q : Exit → Q0a → Prop} {nt : Nat} (hnt : c.nt = nt) (n : Nat) {T : List (Nat × AV)} {O : List (Nat × Q09)} (T' : List (Nat × AV))
    (hQ : Wp Tryz.prog c (cr code) Q (mkS T' O)) (h1 : Nat.beq (Qcr code) 1 = true := by kernel_rfl) (hk : Nat.beq (Qcr (cl code)) 0 = true := by kernel_rfl) (e1 : (Qbn TIx Tryz.prog nt (Qcn (cl code)) none (List.replicate n (some .no)) T O (T'.map (·.1)) (O.map (·.1))).map (fun r => (r.T, Qbp r.O)) = some (T', O) := by kernel_rfl)
    (e2 : True = Qdd (Qbn TIx Tryz.prog nt (Qcn (cl code)) none (List.replicate n (some .no)) T O (T'.map (·.1)) (O.map (·.1))) := by kernel_rfl) (hdraw : ((!Qco (cl code) && true) || false) = true := by kernel_rfl) : Wp Tryz.prog c code Q (mkS T O) := rs0 hnt n T' O hQ h1 hk e1 e2 hdraw
theorem vz {c : Ctx} {code : Code} {Q : Exit → Q0a → Prop} {T : List (Nat × AV)} {O : List (Nat × Q09)} (k : Nat) {xs xs' : List AV} (hs : Q02 xs = xs') (T' : List (Nat × AV)) (O' : List (Nat × Q09)) (h : Wp Tryz.prog c code Q (mkS T' O')) (hO : lkO O k = some (.arr xs) := by kernel_rfl)
    (hT : T.map (fun p => (p.1, frz k (.sl xs') p.2)) = T' := by kernel_rfl) (hO' : ((O.filter fun p => !Nat.beq p.1 k).map fun p => (p.1, Qa8 k (.sl xs') p.2)) = O' := by kernel_rfl) : Wp Tryz.prog c code Q (mkS T O) := Wp.view (fun _ _ hv => SRx.frzL k hv hO hs hT hO') h
theorem b0 {f : FuncId} (fn : Func) (code : Code) {args : List AV} {res : AV} (nt : Nat) (T : List (Nat × AV)) (h : ∀ c : Ctx, c.nt = nt → Wp Tryz.prog c code (Qdk TIx fn [] res) (mkS T [])) (hf : Tryz.prog.funcs[f]? = some fn := by kernel_rfl) (hb : fn.body = some code := by kernel_rfl) (hok : Qbx args = true := by kernel_rfl) (ha : args.all (fun x => !Qdl x) = true := by kernel_rfl)
    (hnt : Nat.beq fn.ntmps nt = true := by kernel_rfl) (hle : Nat.ble args.length nt = true := by kernel_rfl) (hT : Qbv args = T := by kernel_rfl) (hO : Qbw args = [] := by kernel_rfl) : Q75 Tryz.prog f args res [] := Q75.body0 K20 hf hb hok ha hnt hle hT hO h
theorem iv {c : Ctx} {x : Exit} (ρ : List (Nat × Nat)) {T T' : List (Nat × AV)} {O O' : List (Nat × Q09)} (hT : (T'.map fun p => rn (rnk ρ) p.2) = T'.map fun p => lk .undef T p.1 := by kernel_rfl)
    (hO : (O'.map fun p => some (rnO (rnk ρ) p.2)) = O'.map fun p => lkO O (rnk ρ p.1) := by kernel_rfl) (hB : Qdg ρ O' = true := by kernel_rfl) : Qde c x (mkS T' O') x (mkS T O) := Qde.view (fun _ _ hv => SRx.renL ρ hv hT hO hB)
theorem bk {c : Ctx} {code : Code} {Q : Exit → Q0a → Prop} {σ : Q0a} (i : Nat) (h : Wp Tryz.prog c (cl code) (Qd1 i Q) σ) (hk : (Nat.beq (Qcr code) 3 && Nat.beq (Qcp code) i) = true := by kernel_rfl) : Wp Tryz.prog c code Q σ := Wp.blockN hk h
theorem xt {c : Ctx} {code : Code} {Q : Exit → Q0a → Prop} {σ : Q0a} (i : Nat) (h : Q (.exit i) σ) (hk : (Nat.beq (Qcr code) 5 && Nat.beq (Qcp code) i) = true := by kernel_rfl) : Wp Tryz.prog c code Q σ := Wp.exitN hk h
theorem lp {c : Ctx} {code : Code} {Q : Exit → Q0a → Prop} {σ : Q0a} (h : WpL Tryz.prog c (cl code) Q σ) (hk : Nat.beq (Qcr code) 4 = true := by kernel_rfl) : Wp Tryz.prog c code Q σ := Wp.loopN hk h
theorem re {fn : Func} {args : List AV} (fl : List Bool) {T : List (Nat × AV)} {O : List (Nat × Q09)} {res : AV} (h : Qdj TIx fn args fl T O = some res := by kernel_rfl) : Qdn TIx fn args res .ret (mkS T O) := Qdn.ret h
abbrev sL (l : List (List Int)) : AV := .sl (List.map K0n l)
abbrev rI (l : List Int) : Q09 := .arr (List.map I l)
abbrev oI (l : List Int) : AV := .osl (List.map I l)
theorem rt {c : Ctx} {code : Code} {Q : Exit → Q0a → Prop} {σ : Q0a} (h : Q .ret σ) (hk : Nat.beq (Qcr code) 6 = true := by kernel_rfl) : Wp Tryz.prog c code Q σ := Wp.retN hk h
theorem sk {c : Ctx} {code : Code} {Q : Exit → Q0a → Prop} {σ : Q0a} (h : Q .normal σ) (hk : Nat.beq (Qcr code) 7 = true := by kernel_rfl) : Wp Tryz.prog c code Q σ := Wp.skipN hk h
theorem rq {fn : Func} {args : List AV} (fl : List Bool) {T : List (Nat × AV)} {O : List (Nat × Q09)} {res : AV} (h : Qdj TIx fn args fl T O = some res := by kernel_rfl) : Qdk TIx fn args res .ret (mkS T O) := Qdk.ret h
theorem is {α : Type} {b : Bool} {x y : Option α} {r : α} (h : (if b = true then x else y) = some r) : (b = true ∧ x = some r) ∨ (b = false ∧ y = some r) := Qdt h
theorem os {α : Type} {a b : α} (h : some a = some b) : a = b := Option.some.inj h
abbrev sI (l : List Int) : AV := .sl (List.map I l)
abbrev sB (l : List Bool) : AV := .sl (List.map AV.bool l)
def rx (l : List (List Nat)) : Option (List (List Nat)) := some (l.map fun r => match r with | n :: e => List.range n ++ e | [] => [])
def rh (l : List Nat) : Option (List (List Nat)) := some (l.map List.range)
theorem ai {a b : Prop} (x : a) (y : b) : a ∧ b := ⟨x, y⟩
theorem ab {a b r : Prop} (x : a) (y : b) (t : r) : a ∧ b ∧ r := ⟨x, y, t⟩
theorem ac {a b c r : Prop} (x : a) (y : b) (z : c) (t : r) : a ∧ b ∧ c ∧ r := ⟨x, y, z, t⟩
theorem ad {a b c d r : Prop} (x : a) (y : b) (z : c) (w : d) (t : r) : a ∧ b ∧ c ∧ d ∧ r := ⟨x, y, z, w, t⟩
theorem cq {P : Program} {f : FuncId} {xs : List AV} {os : List AV} {v : AV} {b r : Prop} (x : Q75 P f xs v os) (y : b) (t : r) : Q75 P f xs v os ∧ b ∧ (([] : List Nat) = [] ∨ noSh v = true) ∧ r := ⟨x, y, Or.inl rfl, t⟩
abbrev tv : True := trivial
abbrev LL := List (List Int)
theorem xL {e : List (List Int)} {i : Int} {x : List Int} (h : idx e i = some x) : 0 ≤ i ∧ (e.map K0n)[i.toNat]? = some (.sl (List.map I x)) := Qdw (enc := K0n) (x := .sl (List.map I x)) h (K0o x)
theorem ic {c : Ctx} {code : Code} {Q : Exit → Q0a → Prop} {σ : Q0a} {α : Type} {b : Bool} {x y : Option α} {r : α} (h : (if b = true then x else y) = some r) (hT : b = true → x = some r → Wp Tryz.prog c (cl code) Q σ) (hF : b = false → y = some r → Wp Tryz.prog c (cr code) Q σ)
    (hk : Nat.beq (Qcr code) 2 = true := by kernel_rfl) (hx : opv σ (Qcq code) = .bool b := by kernel_rfl) : Wp Tryz.prog c code Q σ := (Qdt h).elim (fun q => Wp.condT hk hx q.1 (hT q.1 q.2)) (fun q => Wp.condF hk hx q.1 (hF q.1 q.2))
theorem bq2 {α β γ : Type} {x : Option α} {f : α → Option β} {g : α → β → Option γ} {r : γ} (h : (x >>= fun a => f a >>= fun b => g a b) = some r) : ∃ a, x = some a ∧ ∃ b, f a = some b ∧ g a b = some r := let ⟨a, ha, h⟩ := Qds h; let ⟨b, hb, h⟩ := Qds h; ⟨a, ha, b, hb, h⟩
theorem bq3 {α β γ δ : Type} {x : Option α} {f : α → Option β} {g : α → β → Option γ} {k : α → β → γ → Option δ} {r : δ} (h : (x >>= fun a => f a >>= fun b => g a b >>= fun c => k a b c) = some r) : ∃ a, x = some a ∧ ∃ b, f a = some b ∧ ∃ c, g a b = some c ∧ k a b c = some r := let ⟨a, ha, b, hb, h⟩ := bq2 h; let ⟨c, hc, h⟩ := Qds h; ⟨a, ha, b, hb, c, hc, h⟩
theorem bq4 {α β γ δ ε : Type} {x : Option α} {f : α → Option β} {g : α → β → Option γ} {k : α → β → γ → Option δ} {l : α → β → γ → δ → Option ε} {r : ε} (h : (x >>= fun a => f a >>= fun b => g a b >>= fun c => k a b c >>= fun d => l a b c d) = some r) : ∃ a, x = some a ∧ ∃ b, f a = some b ∧ ∃ c, g a b = some c ∧ ∃ d, k a b c = some d ∧ l a b c d = some r := let ⟨a, ha, b, hb, c, hc, h⟩ := bq3 h; let ⟨d, hd, h⟩ := Qds h; ⟨a, ha, b, hb, c, hc, d, hd, h⟩
theorem tt : true = true := rfl
theorem nf : true ≠ false := fun h => nomatch h
abbrev oN : Option Orc := some .no
abbrev oF : Option Orc := some (.cond false)
abbrev oT : Option Orc := some (.cond true)
abbrev o_ : Option Orc := none
abbrev oc (v : AV) : Option Orc := some (.call v [] 1)
theorem sN {c : Ctx} {code : Code} {Q : Exit → Q0a → Prop} {σ : Q0a} (h : Wp Tryz.prog c (cl code) (Qd0 Tryz.prog c (cr code) Q) σ) (hk : Nat.beq (Qcr code) 1 = true := by kernel_rfl) : Wp Tryz.prog c code Q σ := Wp.seqN hk h
theorem cT {c : Ctx} {code : Code} {Q : Exit → Q0a → Prop} {σ : Q0a} (b : Bool) (hb : b = true) (h1 : Wp Tryz.prog c (cl code) Q σ) (hk : Nat.beq (Qcr code) 2 = true := by kernel_rfl) (hx : opv σ (Qcq code) = .bool b := by kernel_rfl) : Wp Tryz.prog c code Q σ := Wp.condT hk hx hb h1
theorem cF {c : Ctx} {code : Code} {Q : Exit → Q0a → Prop} {σ : Q0a} (b : Bool) (hb : b = false) (h1 : Wp Tryz.prog c (cr code) Q σ) (hk : Nat.beq (Qcr code) 2 = true := by kernel_rfl) (hx : opv σ (Qcq code) = .bool b := by kernel_rfl) : Wp Tryz.prog c code Q σ := Wp.condF hk hx hb h1
end Go.Am
