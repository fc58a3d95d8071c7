/- The table of types, and the bodies. Printed by a program of mine (gen.py). -/
import Derived.Test.YtckgdfakjjdodaaGreatGPUTTy
import Derived.Test.YtckgdfakjjdodaaGreatChecked
set_option linter.unusedVariables false
set_option linter.unusedSimpArgs false
set_option maxRecDepth 100000
namespace Go.Am
open Go Go.Proofs
def tis : List (Nat × Q1o) := [(22, ⟨.slice 5, 1, 24, .nils⟩),
  (4, ⟨.bool, 1, 1, .bool false⟩),
  (32, ⟨.struct [(0, 3), (1, 3), (2, 24), (3, 30)], 4, 64, .agg [.int .i64 0, .int .i64 0, .nils, .nils]⟩),
  (3, ⟨.int .i64, 1, 8, .int .i64 0⟩),
  (83, ⟨.pointer 139, 1, 8, .nilp⟩),
  (5, ⟨.int .u8, 1, 1, .int .u8 0⟩),
  (139, ⟨.struct [(0, 22), (1, 3), (2, 3)], 3, 40, .agg [.nils, .int .i64 0, .int .i64 0]⟩),
  (27, ⟨.struct [(0, 3), (1, 24), (2, 24), (3, 25)], 4, 80, .agg [.int .i64 0, .nils, .nils, .nils]⟩),
  (67, ⟨.slice 24, 1, 24, .nils⟩),
  (24, ⟨.slice 3, 1, 24, .nils⟩),
  (25, ⟨.slice 4, 1, 24, .nils⟩),
  (30, ⟨.slice 32, 1, 24, .nils⟩),
  (172, ⟨.struct [(0, 24), (1, 24), (2, 3), (3, 24)], 4, 80, .agg [.nils, .nils, .int .i64 0, .nils]⟩),
  (162, ⟨.struct [(0, 9), (1, 3), (2, 4), (3, 4)], 4, 32, .agg [.str ByteArray.empty, .int .i64 0, .bool false, .bool false]⟩),
  (9, ⟨.string, 1, 16, .str ByteArray.empty⟩),
  (186, ⟨.slice 162, 1, 24, .nils⟩)]
def TIx : Nat → Option Q1o := lk none (tis.map fun p => (p.1, some p.2))
theorem K1s : Q1u Tryz.prog 22 ⟨.slice 5, 1, 24, .nils⟩ := ⟨by kernel_rfl, by kernel_rfl, by kernel_rfl, by kernel_rfl⟩
theorem K1t : Q1u Tryz.prog 4 ⟨.bool, 1, 1, .bool false⟩ := ⟨by kernel_rfl, by kernel_rfl, by kernel_rfl, by kernel_rfl⟩
theorem K1u : Q1u Tryz.prog 32 ⟨.struct [(0, 3), (1, 3), (2, 24), (3, 30)], 4, 64, .agg [.int .i64 0, .int .i64 0, .nils, .nils]⟩ := ⟨by kernel_rfl, by kernel_rfl, by kernel_rfl, by kernel_rfl⟩
theorem K1v : Q1u Tryz.prog 3 ⟨.int .i64, 1, 8, .int .i64 0⟩ := ⟨by kernel_rfl, by kernel_rfl, by kernel_rfl, by kernel_rfl⟩
theorem K1w : Q1u Tryz.prog 83 ⟨.pointer 139, 1, 8, .nilp⟩ := ⟨by kernel_rfl, by kernel_rfl, by kernel_rfl, by kernel_rfl⟩
theorem K1x : Q1u Tryz.prog 5 ⟨.int .u8, 1, 1, .int .u8 0⟩ := ⟨by kernel_rfl, by kernel_rfl, by kernel_rfl, by kernel_rfl⟩
theorem K1y : Q1u Tryz.prog 139 ⟨.struct [(0, 22), (1, 3), (2, 3)], 3, 40, .agg [.nils, .int .i64 0, .int .i64 0]⟩ := ⟨by kernel_rfl, by kernel_rfl, by kernel_rfl, by kernel_rfl⟩
theorem K1z : Q1u Tryz.prog 27 ⟨.struct [(0, 3), (1, 24), (2, 24), (3, 25)], 4, 80, .agg [.int .i64 0, .nils, .nils, .nils]⟩ := ⟨by kernel_rfl, by kernel_rfl, by kernel_rfl, by kernel_rfl⟩
theorem K20 : Q1u Tryz.prog 67 ⟨.slice 24, 1, 24, .nils⟩ := ⟨by kernel_rfl, by kernel_rfl, by kernel_rfl, by kernel_rfl⟩
theorem K21 : Q1u Tryz.prog 24 ⟨.slice 3, 1, 24, .nils⟩ := ⟨by kernel_rfl, by kernel_rfl, by kernel_rfl, by kernel_rfl⟩
theorem K22 : Q1u Tryz.prog 25 ⟨.slice 4, 1, 24, .nils⟩ := ⟨by kernel_rfl, by kernel_rfl, by kernel_rfl, by kernel_rfl⟩
theorem K23 : Q1u Tryz.prog 30 ⟨.slice 32, 1, 24, .nils⟩ := ⟨by kernel_rfl, by kernel_rfl, by kernel_rfl, by kernel_rfl⟩
theorem K24 : Q1u Tryz.prog 172 ⟨.struct [(0, 24), (1, 24), (2, 3), (3, 24)], 4, 80, .agg [.nils, .nils, .int .i64 0, .nils]⟩ := ⟨by kernel_rfl, by kernel_rfl, by kernel_rfl, by kernel_rfl⟩
theorem K25 : Q1u Tryz.prog 162 ⟨.struct [(0, 9), (1, 3), (2, 4), (3, 4)], 4, 32, .agg [.str ByteArray.empty, .int .i64 0, .bool false, .bool false]⟩ := ⟨by kernel_rfl, by kernel_rfl, by kernel_rfl, by kernel_rfl⟩
theorem K26 : Q1u Tryz.prog 9 ⟨.string, 1, 16, .str ByteArray.empty⟩ := ⟨by kernel_rfl, by kernel_rfl, by kernel_rfl, by kernel_rfl⟩
theorem K27 : Q1u Tryz.prog 186 ⟨.slice 162, 1, 24, .nils⟩ := ⟨by kernel_rfl, by kernel_rfl, by kernel_rfl, by kernel_rfl⟩
theorem K28 : Q1v Tryz.prog TIx := Q1v.of_list tis (by
  intro p hp
  simp only [tis, List.mem_cons, List.not_mem_nil, or_false] at hp
  rcases hp with rfl | rfl | rfl | rfl | rfl | rfl | rfl | rfl | rfl | rfl | rfl | rfl | rfl | rfl | rfl | rfl
  · exact K1s
  · exact K1t
  · exact K1u
  · exact K1v
  · exact K1w
  · exact K1x
  · exact K1y
  · exact K1z
  · exact K20
  · exact K21
  · exact K22
  · exact K23
  · exact K24
  · exact K25
  · exact K26
  · exact K27)
theorem mix : Tryz.prog.follows .mixedOrders = true := Tryz.checked.mixed
noncomputable def B14 : Code := Tryz.f14.body.getD .skip
theorem K29 : Q7v Tryz.prog 14 := Qdi (fn := Tryz.f14) (by kernel_rfl) (by kernel_rfl) (by kernel_rfl)
noncomputable def B71 : Code := Tryz.f71.body.getD .skip
theorem K2a : Q7v Tryz.prog 71 := Qdi (fn := Tryz.f71) (by kernel_rfl) (by kernel_rfl) (by kernel_rfl)
noncomputable def K2b : Code := Tryz.f123.body.getD .skip
theorem K2c : Q7v Tryz.prog 123 := Qdi (fn := Tryz.f123) (by kernel_rfl) (by kernel_rfl) (by kernel_rfl)
noncomputable def K2d : Code := Tryz.f110.body.getD .skip
theorem K2e : Q7v Tryz.prog 110 := Qdi (fn := Tryz.f110) (by kernel_rfl) (by kernel_rfl) (by kernel_rfl)
noncomputable def K2f : Code := Tryz.f174.body.getD .skip
theorem K2g : Q7v Tryz.prog 174 := Qdi (fn := Tryz.f174) (by kernel_rfl) (by kernel_rfl) (by kernel_rfl)
noncomputable def B90 : Code := Tryz.f90.body.getD .skip
theorem K2h : Q7v Tryz.prog 90 := Qdi (fn := Tryz.f90) (by kernel_rfl) (by kernel_rfl) (by kernel_rfl)
noncomputable def B73 : Code := Tryz.f73.body.getD .skip
theorem K2i : Q7v Tryz.prog 73 := Qdi (fn := Tryz.f73) (by kernel_rfl) (by kernel_rfl) (by kernel_rfl)
noncomputable def K2j : Code := Tryz.f119.body.getD .skip
theorem K2k : Q7v Tryz.prog 119 := Qdi (fn := Tryz.f119) (by kernel_rfl) (by kernel_rfl) (by kernel_rfl)
noncomputable def K2l : Code := Tryz.f121.body.getD .skip
theorem K2m : Q7v Tryz.prog 121 := Qdi (fn := Tryz.f121) (by kernel_rfl) (by kernel_rfl) (by kernel_rfl)
noncomputable def K2n : Code := Tryz.f152.body.getD .skip
theorem K2o : Q7v Tryz.prog 152 := Qdi (fn := Tryz.f152) (by kernel_rfl) (by kernel_rfl) (by kernel_rfl)
noncomputable def B47 : Code := Tryz.f47.body.getD .skip
theorem K2p : Q7v Tryz.prog 47 := Qdi (fn := Tryz.f47) (by kernel_rfl) (by kernel_rfl) (by kernel_rfl)
noncomputable def K2q : Code := Tryz.f100.body.getD .skip
theorem K2r : Q7v Tryz.prog 100 := Qdi (fn := Tryz.f100) (by kernel_rfl) (by kernel_rfl) (by kernel_rfl)
noncomputable def K2s : Code := Tryz.f153.body.getD .skip
theorem K2t : Q7v Tryz.prog 153 := Qdi (fn := Tryz.f153) (by kernel_rfl) (by kernel_rfl) (by kernel_rfl)
noncomputable def K2u : Code := Tryz.f163.body.getD .skip
theorem K2v : Q7v Tryz.prog 163 := Qdi (fn := Tryz.f163) (by kernel_rfl) (by kernel_rfl) (by kernel_rfl)
noncomputable def K2w : Code := Tryz.f211.body.getD .skip
theorem K2x : Q7v Tryz.prog 211 := Qdi (fn := Tryz.f211) (by kernel_rfl) (by kernel_rfl) (by kernel_rfl)
noncomputable def K2y : Code := Tryz.f212.body.getD .skip
theorem K2z : Q7v Tryz.prog 212 := Qdi (fn := Tryz.f212) (by kernel_rfl) (by kernel_rfl) (by kernel_rfl)
noncomputable def K30 : Code := Tryz.f202.body.getD .skip
theorem K31 : Q7v Tryz.prog 202 := Qdi (fn := Tryz.f202) (by kernel_rfl) (by kernel_rfl) (by kernel_rfl)
noncomputable def K32 : Code := Tryz.f164.body.getD .skip
theorem K33 : Q7v Tryz.prog 164 := Qdi (fn := Tryz.f164) (by kernel_rfl) (by kernel_rfl) (by kernel_rfl)
noncomputable def K34 : Code := Tryz.f214.body.getD .skip
theorem K35 : Q7v Tryz.prog 214 := Qdi (fn := Tryz.f214) (by kernel_rfl) (by kernel_rfl) (by kernel_rfl)
noncomputable def K36 : Code := Tryz.f165.body.getD .skip
theorem K37 : Q7v Tryz.prog 165 := Qdi (fn := Tryz.f165) (by kernel_rfl) (by kernel_rfl) (by kernel_rfl)
noncomputable def K38 : Code := Tryz.f166.body.getD .skip
theorem K39 : Q7v Tryz.prog 166 := Qdi (fn := Tryz.f166) (by kernel_rfl) (by kernel_rfl) (by kernel_rfl)
noncomputable def B80 : Code := Tryz.f80.body.getD .skip
theorem K3a : Q7v Tryz.prog 80 := Qdi (fn := Tryz.f80) (by kernel_rfl) (by kernel_rfl) (by kernel_rfl)
noncomputable def K3b : Code := Tryz.f207.body.getD .skip
theorem K3c : Q7v Tryz.prog 207 := Qdi (fn := Tryz.f207) (by kernel_rfl) (by kernel_rfl) (by kernel_rfl)
noncomputable def K3d : Code := Tryz.f208.body.getD .skip
theorem K3e : Q7v Tryz.prog 208 := Qdi (fn := Tryz.f208) (by kernel_rfl) (by kernel_rfl) (by kernel_rfl)
noncomputable def K3f : Code := Tryz.f209.body.getD .skip
theorem K3g : Q7v Tryz.prog 209 := Qdi (fn := Tryz.f209) (by kernel_rfl) (by kernel_rfl) (by kernel_rfl)
noncomputable def K3h : Code := Tryz.f210.body.getD .skip
theorem K3i : Q7v Tryz.prog 210 := Qdi (fn := Tryz.f210) (by kernel_rfl) (by kernel_rfl) (by kernel_rfl)
noncomputable def K3j : Code := Tryz.f154.body.getD .skip
theorem K3k : Q7v Tryz.prog 154 := Qdi (fn := Tryz.f154) (by kernel_rfl) (by kernel_rfl) (by kernel_rfl)
noncomputable def B72 : Code := Tryz.f72.body.getD .skip
theorem K3l : Q7v Tryz.prog 72 := Qdi (fn := Tryz.f72) (by kernel_rfl) (by kernel_rfl) (by kernel_rfl)
noncomputable def B75 : Code := Tryz.f75.body.getD .skip
theorem K3m : Q7v Tryz.prog 75 := Qdi (fn := Tryz.f75) (by kernel_rfl) (by kernel_rfl) (by kernel_rfl)
noncomputable def K3n : Code := Tryz.f155.body.getD .skip
theorem K3o : Q7v Tryz.prog 155 := Qdi (fn := Tryz.f155) (by kernel_rfl) (by kernel_rfl) (by kernel_rfl)
noncomputable def K3p : Code := Tryz.f200.body.getD .skip
theorem K3q : Q7v Tryz.prog 200 := Qdi (fn := Tryz.f200) (by kernel_rfl) (by kernel_rfl) (by kernel_rfl)
noncomputable def K3r : Code := Tryz.f147.body.getD .skip
theorem K3s : Q7v Tryz.prog 147 := Qdi (fn := Tryz.f147) (by kernel_rfl) (by kernel_rfl) (by kernel_rfl)
noncomputable def K3t : Code := Tryz.f182.body.getD .skip
theorem K3u : Q7v Tryz.prog 182 := Qdi (fn := Tryz.f182) (by kernel_rfl) (by kernel_rfl) (by kernel_rfl)
noncomputable def K3v : Code := Tryz.f251.body.getD .skip
theorem K3w : Q7v Tryz.prog 251 := Qdi (fn := Tryz.f251) (by kernel_rfl) (by kernel_rfl) (by kernel_rfl)
noncomputable def K3x : Code := Tryz.f231.body.getD .skip
theorem K3y : Q7v Tryz.prog 231 := Qdi (fn := Tryz.f231) (by kernel_rfl) (by kernel_rfl) (by kernel_rfl)
noncomputable def K3z : Code := Tryz.f215.body.getD .skip
theorem K40 : Q7v Tryz.prog 215 := Qdi (fn := Tryz.f215) (by kernel_rfl) (by kernel_rfl) (by kernel_rfl)
noncomputable def K41 : Code := Tryz.f185.body.getD .skip
theorem K42 : Q7v Tryz.prog 185 := Qdi (fn := Tryz.f185) (by kernel_rfl) (by kernel_rfl) (by kernel_rfl)
noncomputable def K43 : Code := Tryz.f168.body.getD .skip
theorem K44 : Q7v Tryz.prog 168 := Qdi (fn := Tryz.f168) (by kernel_rfl) (by kernel_rfl) (by kernel_rfl)
noncomputable def K45 : Code := Tryz.f167.body.getD .skip
theorem K46 : Q7v Tryz.prog 167 := Qdi (fn := Tryz.f167) (by kernel_rfl) (by kernel_rfl) (by kernel_rfl)
noncomputable def K47 : Code := Tryz.f176.body.getD .skip
theorem K48 : Q7v Tryz.prog 176 := Qdi (fn := Tryz.f176) (by kernel_rfl) (by kernel_rfl) (by kernel_rfl)
noncomputable def K49 : Code := Tryz.f178.body.getD .skip
theorem K4a : Q7v Tryz.prog 178 := Qdi (fn := Tryz.f178) (by kernel_rfl) (by kernel_rfl) (by kernel_rfl)
noncomputable def K4b : Code := Tryz.f169.body.getD .skip
theorem K4c : Q7v Tryz.prog 169 := Qdi (fn := Tryz.f169) (by kernel_rfl) (by kernel_rfl) (by kernel_rfl)
noncomputable def K4d : Code := Tryz.f252.body.getD .skip
theorem K4e : Q7v Tryz.prog 252 := Qdi (fn := Tryz.f252) (by kernel_rfl) (by kernel_rfl) (by kernel_rfl)
noncomputable def K4f : Code := Tryz.f233.body.getD .skip
theorem K4g : Q7v Tryz.prog 233 := Qdi (fn := Tryz.f233) (by kernel_rfl) (by kernel_rfl) (by kernel_rfl)
noncomputable def K4h : Code := Tryz.f232.body.getD .skip
theorem K4i : Q7v Tryz.prog 232 := Qdi (fn := Tryz.f232) (by kernel_rfl) (by kernel_rfl) (by kernel_rfl)
noncomputable def K4j : Code := Tryz.f234.body.getD .skip
theorem K4k : Q7v Tryz.prog 234 := Qdi (fn := Tryz.f234) (by kernel_rfl) (by kernel_rfl) (by kernel_rfl)
noncomputable def K4l : Code := Tryz.f235.body.getD .skip
theorem K4m : Q7v Tryz.prog 235 := Qdi (fn := Tryz.f235) (by kernel_rfl) (by kernel_rfl) (by kernel_rfl)
noncomputable def K4n : Code := Tryz.f236.body.getD .skip
theorem K4o : Q7v Tryz.prog 236 := Qdi (fn := Tryz.f236) (by kernel_rfl) (by kernel_rfl) (by kernel_rfl)
noncomputable def K4p : Code := Tryz.f238.body.getD .skip
theorem K4q : Q7v Tryz.prog 238 := Qdi (fn := Tryz.f238) (by kernel_rfl) (by kernel_rfl) (by kernel_rfl)
noncomputable def K4r : Code := Tryz.f237.body.getD .skip
theorem K4s : Q7v Tryz.prog 237 := Qdi (fn := Tryz.f237) (by kernel_rfl) (by kernel_rfl) (by kernel_rfl)
noncomputable def K4t : Code := Tryz.f239.body.getD .skip
theorem K4u : Q7v Tryz.prog 239 := Qdi (fn := Tryz.f239) (by kernel_rfl) (by kernel_rfl) (by kernel_rfl)
noncomputable def K4v : Code := Tryz.f203.body.getD .skip
theorem K4w : Q7v Tryz.prog 203 := Qdi (fn := Tryz.f203) (by kernel_rfl) (by kernel_rfl) (by kernel_rfl)
noncomputable def K4x : Code := Tryz.f253.body.getD .skip
theorem K4y : Q7v Tryz.prog 253 := Qdi (fn := Tryz.f253) (by kernel_rfl) (by kernel_rfl) (by kernel_rfl)
noncomputable def K4z : Code := Tryz.f141.body.getD .skip
theorem K50 : Q7v Tryz.prog 141 := Qdi (fn := Tryz.f141) (by kernel_rfl) (by kernel_rfl) (by kernel_rfl)
noncomputable def K51 : Code := Tryz.f140.body.getD .skip
theorem K52 : Q7v Tryz.prog 140 := Qdi (fn := Tryz.f140) (by kernel_rfl) (by kernel_rfl) (by kernel_rfl)
noncomputable def K53 : Code := Tryz.f191.body.getD .skip
theorem K54 : Q7v Tryz.prog 191 := Qdi (fn := Tryz.f191) (by kernel_rfl) (by kernel_rfl) (by kernel_rfl)
noncomputable def K55 : Code := Tryz.f132.body.getD .skip
theorem K56 : Q7v Tryz.prog 132 := Qdi (fn := Tryz.f132) (by kernel_rfl) (by kernel_rfl) (by kernel_rfl)
noncomputable def K57 : Code := Tryz.f113.body.getD .skip
theorem K58 : Q7v Tryz.prog 113 := Qdi (fn := Tryz.f113) (by kernel_rfl) (by kernel_rfl) (by kernel_rfl)
noncomputable def K59 : Code := Tryz.f201.body.getD .skip
theorem K5a : Q7v Tryz.prog 201 := Qdi (fn := Tryz.f201) (by kernel_rfl) (by kernel_rfl) (by kernel_rfl)
noncomputable def K5b : Code := Tryz.f137.body.getD .skip
theorem K5c : Q7v Tryz.prog 137 := Qdi (fn := Tryz.f137) (by kernel_rfl) (by kernel_rfl) (by kernel_rfl)
noncomputable def K5d : Code := Tryz.f225.body.getD .skip
theorem K5e : Q7v Tryz.prog 225 := Qdi (fn := Tryz.f225) (by kernel_rfl) (by kernel_rfl) (by kernel_rfl)
noncomputable def K5f : Code := Tryz.f226.body.getD .skip
theorem K5g : Q7v Tryz.prog 226 := Qdi (fn := Tryz.f226) (by kernel_rfl) (by kernel_rfl) (by kernel_rfl)
noncomputable def K5h : Code := Tryz.f187.body.getD .skip
theorem K5i : Q7v Tryz.prog 187 := Qdi (fn := Tryz.f187) (by kernel_rfl) (by kernel_rfl) (by kernel_rfl)
noncomputable def K5j : Code := Tryz.f156.body.getD .skip
theorem K5k : Q7v Tryz.prog 156 := Qdi (fn := Tryz.f156) (by kernel_rfl) (by kernel_rfl) (by kernel_rfl)
noncomputable def K5l : Code := Tryz.f105.body.getD .skip
theorem K5m : Q7v Tryz.prog 105 := Qdi (fn := Tryz.f105) (by kernel_rfl) (by kernel_rfl) (by kernel_rfl)
noncomputable def K5n : Code := Tryz.f109.body.getD .skip
theorem K5o : Q7v Tryz.prog 109 := Qdi (fn := Tryz.f109) (by kernel_rfl) (by kernel_rfl) (by kernel_rfl)
noncomputable def B99 : Code := Tryz.f99.body.getD .skip
theorem K5p : Q7v Tryz.prog 99 := Qdi (fn := Tryz.f99) (by kernel_rfl) (by kernel_rfl) (by kernel_rfl)
noncomputable def B45 : Code := Tryz.f45.body.getD .skip
theorem K5q : Q7v Tryz.prog 45 := Qdi (fn := Tryz.f45) (by kernel_rfl) (by kernel_rfl) (by kernel_rfl)
noncomputable def B48 : Code := Tryz.f48.body.getD .skip
theorem K5r : Q7v Tryz.prog 48 := Qdi (fn := Tryz.f48) (by kernel_rfl) (by kernel_rfl) (by kernel_rfl)
noncomputable def B81 : Code := Tryz.f81.body.getD .skip
theorem K5s : Q7v Tryz.prog 81 := Qdi (fn := Tryz.f81) (by kernel_rfl) (by kernel_rfl) (by kernel_rfl)
noncomputable def B82 : Code := Tryz.f82.body.getD .skip
theorem K5t : Q7v Tryz.prog 82 := Qdi (fn := Tryz.f82) (by kernel_rfl) (by kernel_rfl) (by kernel_rfl)
noncomputable def B18 : Code := Tryz.f18.body.getD .skip
theorem K5u : Q7v Tryz.prog 18 := Qdi (fn := Tryz.f18) (by kernel_rfl) (by kernel_rfl) (by kernel_rfl)
noncomputable def K5v : Code := Tryz.f181.body.getD .skip
theorem K5w : Q7v Tryz.prog 181 := Qdi (fn := Tryz.f181) (by kernel_rfl) (by kernel_rfl) (by kernel_rfl)
noncomputable def K5x : Code := Tryz.f101.body.getD .skip
theorem K5y : Q7v Tryz.prog 101 := Qdi (fn := Tryz.f101) (by kernel_rfl) (by kernel_rfl) (by kernel_rfl)
noncomputable def K5z : Code := Tryz.f102.body.getD .skip
theorem K60 : Q7v Tryz.prog 102 := Qdi (fn := Tryz.f102) (by kernel_rfl) (by kernel_rfl) (by kernel_rfl)
noncomputable def B33 : Code := Tryz.f33.body.getD .skip
theorem K61 : Q7v Tryz.prog 33 := Qdi (fn := Tryz.f33) (by kernel_rfl) (by kernel_rfl) (by kernel_rfl)
noncomputable def K62 : Code := Tryz.f120.body.getD .skip
theorem K63 : Q7v Tryz.prog 120 := Qdi (fn := Tryz.f120) (by kernel_rfl) (by kernel_rfl) (by kernel_rfl)
noncomputable def B46 : Code := Tryz.f46.body.getD .skip
theorem K64 : Q7v Tryz.prog 46 := Qdi (fn := Tryz.f46) (by kernel_rfl) (by kernel_rfl) (by kernel_rfl)
noncomputable def B95 : Code := Tryz.f95.body.getD .skip
theorem K65 : Q7v Tryz.prog 95 := Qdi (fn := Tryz.f95) (by kernel_rfl) (by kernel_rfl) (by kernel_rfl)
noncomputable def K66 : Code := Tryz.f188.body.getD .skip
theorem K67 : Q7v Tryz.prog 188 := Qdi (fn := Tryz.f188) (by kernel_rfl) (by kernel_rfl) (by kernel_rfl)
noncomputable def K68 : Code := Tryz.f189.body.getD .skip
theorem K69 : Q7v Tryz.prog 189 := Qdi (fn := Tryz.f189) (by kernel_rfl) (by kernel_rfl) (by kernel_rfl)
noncomputable def K6a : Code := Tryz.f157.body.getD .skip
theorem K6b : Q7v Tryz.prog 157 := Qdi (fn := Tryz.f157) (by kernel_rfl) (by kernel_rfl) (by kernel_rfl)
noncomputable def K6c : Code := Tryz.f213.body.getD .skip
theorem K6d : Q7v Tryz.prog 213 := Qdi (fn := Tryz.f213) (by kernel_rfl) (by kernel_rfl) (by kernel_rfl)
noncomputable def K6e : Code := Tryz.f159.body.getD .skip
theorem K6f : Q7v Tryz.prog 159 := Qdi (fn := Tryz.f159) (by kernel_rfl) (by kernel_rfl) (by kernel_rfl)
noncomputable def K6g : Code := Tryz.f199.body.getD .skip
theorem K6h : Q7v Tryz.prog 199 := Qdi (fn := Tryz.f199) (by kernel_rfl) (by kernel_rfl) (by kernel_rfl)
noncomputable def K6i : Code := Tryz.f134.body.getD .skip
theorem K6j : Q7v Tryz.prog 134 := Qdi (fn := Tryz.f134) (by kernel_rfl) (by kernel_rfl) (by kernel_rfl)
noncomputable def K6k : Code := Tryz.f112.body.getD .skip
theorem K6l : Q7v Tryz.prog 112 := Qdi (fn := Tryz.f112) (by kernel_rfl) (by kernel_rfl) (by kernel_rfl)
noncomputable def B40 : Code := Tryz.f40.body.getD .skip
theorem K6m : Q7v Tryz.prog 40 := Qdi (fn := Tryz.f40) (by kernel_rfl) (by kernel_rfl) (by kernel_rfl)
noncomputable def B88 : Code := Tryz.f88.body.getD .skip
theorem K6n : Q7v Tryz.prog 88 := Qdi (fn := Tryz.f88) (by kernel_rfl) (by kernel_rfl) (by kernel_rfl)
noncomputable def K6o : Code := Tryz.f131.body.getD .skip
theorem K6p : Q7v Tryz.prog 131 := Qdi (fn := Tryz.f131) (by kernel_rfl) (by kernel_rfl) (by kernel_rfl)
noncomputable def K6q : Code := Tryz.f229.body.getD .skip
theorem K6r : Q7v Tryz.prog 229 := Qdi (fn := Tryz.f229) (by kernel_rfl) (by kernel_rfl) (by kernel_rfl)
noncomputable def K6s : Code := Tryz.f194.body.getD .skip
theorem K6t : Q7v Tryz.prog 194 := Qdi (fn := Tryz.f194) (by kernel_rfl) (by kernel_rfl) (by kernel_rfl)
noncomputable def K6u : Code := Tryz.f196.body.getD .skip
theorem K6v : Q7v Tryz.prog 196 := Qdi (fn := Tryz.f196) (by kernel_rfl) (by kernel_rfl) (by kernel_rfl)
noncomputable def K6w : Code := Tryz.f195.body.getD .skip
theorem K6x : Q7v Tryz.prog 195 := Qdi (fn := Tryz.f195) (by kernel_rfl) (by kernel_rfl) (by kernel_rfl)
noncomputable def K6y : Code := Tryz.f122.body.getD .skip
theorem K6z : Q7v Tryz.prog 122 := Qdi (fn := Tryz.f122) (by kernel_rfl) (by kernel_rfl) (by kernel_rfl)
noncomputable def B49 : Code := Tryz.f49.body.getD .skip
theorem K70 : Q7v Tryz.prog 49 := Qdi (fn := Tryz.f49) (by kernel_rfl) (by kernel_rfl) (by kernel_rfl)
noncomputable def K71 : Code := Tryz.f227.body.getD .skip
theorem K72 : Q7v Tryz.prog 227 := Qdi (fn := Tryz.f227) (by kernel_rfl) (by kernel_rfl) (by kernel_rfl)
noncomputable def K73 : Code := Tryz.f228.body.getD .skip
theorem K74 : Q7v Tryz.prog 228 := Qdi (fn := Tryz.f228) (by kernel_rfl) (by kernel_rfl) (by kernel_rfl)
noncomputable def K75 : Code := Tryz.f190.body.getD .skip
theorem K76 : Q7v Tryz.prog 190 := Qdi (fn := Tryz.f190) (by kernel_rfl) (by kernel_rfl) (by kernel_rfl)
noncomputable def K77 : Code := Tryz.f114.body.getD .skip
theorem K78 : Q7v Tryz.prog 114 := Qdi (fn := Tryz.f114) (by kernel_rfl) (by kernel_rfl) (by kernel_rfl)
noncomputable def B41 : Code := Tryz.f41.body.getD .skip
theorem K79 : Q7v Tryz.prog 41 := Qdi (fn := Tryz.f41) (by kernel_rfl) (by kernel_rfl) (by kernel_rfl)
noncomputable def K7a : Code := Tryz.f197.body.getD .skip
theorem K7b : Q7v Tryz.prog 197 := Qdi (fn := Tryz.f197) (by kernel_rfl) (by kernel_rfl) (by kernel_rfl)
noncomputable def K7c : Code := Tryz.f124.body.getD .skip
theorem K7d : Q7v Tryz.prog 124 := Qdi (fn := Tryz.f124) (by kernel_rfl) (by kernel_rfl) (by kernel_rfl)
noncomputable def K7e : Code := Tryz.f125.body.getD .skip
theorem K7f : Q7v Tryz.prog 125 := Qdi (fn := Tryz.f125) (by kernel_rfl) (by kernel_rfl) (by kernel_rfl)
noncomputable def B50 : Code := Tryz.f50.body.getD .skip
theorem K7g : Q7v Tryz.prog 50 := Qdi (fn := Tryz.f50) (by kernel_rfl) (by kernel_rfl) (by kernel_rfl)
noncomputable def K7h : Code := Tryz.f144.body.getD .skip
theorem K7i : Q7v Tryz.prog 144 := Qdi (fn := Tryz.f144) (by kernel_rfl) (by kernel_rfl) (by kernel_rfl)
noncomputable def K7j : Code := Tryz.f180.body.getD .skip
theorem K7k : Q7v Tryz.prog 180 := Qdi (fn := Tryz.f180) (by kernel_rfl) (by kernel_rfl) (by kernel_rfl)
noncomputable def B98 : Code := Tryz.f98.body.getD .skip
theorem K7l : Q7v Tryz.prog 98 := Qdi (fn := Tryz.f98) (by kernel_rfl) (by kernel_rfl) (by kernel_rfl)
noncomputable def B31 : Code := Tryz.f31.body.getD .skip
theorem K7m : Q7v Tryz.prog 31 := Qdi (fn := Tryz.f31) (by kernel_rfl) (by kernel_rfl) (by kernel_rfl)
noncomputable def B8 : Code := Tryz.f8.body.getD .skip
theorem K7n : Q7v Tryz.prog 8 := Qdi (fn := Tryz.f8) (by kernel_rfl) (by kernel_rfl) (by kernel_rfl)

theorem rg {c : Ctx} {code : Code} {Q : Exit → Q0a → Prop} {nt : Nat} (hnt : c.nt = nt) (ah : Option (List (List Nat))) (rs : List (Option Orc)) {T : List (Nat × AV)} {O : List (Nat × Q09)} (T' : List (Nat × AV)) (O' : List (Nat × Q09)) {A : Prop} (h : A)
    (hQ : Q .normal (mkS T' O')) (hk : Nat.beq (Qci code) 0 = true := by kernel_rfl) (e1 : (Qbe TIx Tryz.prog nt (Qce code) ah rs T O (T'.map (·.1)) (O'.map (·.1))).map (fun r => (r.T, Qbg r.O)) = some (T', O') := by kernel_rfl)
    (e2 : A = Qd4 (Qbe TIx Tryz.prog nt (Qce code) ah rs T O (T'.map (·.1)) (O'.map (·.1))) := by kernel_rfl) (hdraw : ((!Qcf code && ah.isNone) || ah.isSome) = true := by kernel_rfl) : Wp Tryz.prog c code Q (mkS T O) := Wp.reg K28 mix hnt hk e1 h e2 hdraw hQ
theorem rg0 {c : Ctx} {code : Code} {Q : Exit → Q0a → Prop} {nt : Nat} (hnt : c.nt = nt) (n : Nat) {T : List (Nat × AV)} {O : List (Nat × Q09)} (T' : List (Nat × AV)) (O' : List (Nat × Q09))
    (hQ : Q .normal (mkS T' O')) (hk : Nat.beq (Qci code) 0 = true := by kernel_rfl) (e1 : (Qbe TIx Tryz.prog nt (Qce code) none (List.replicate n (some .no)) T O (T'.map (·.1)) (O'.map (·.1))).map (fun r => (r.T, Qbg r.O)) = some (T', O') := by kernel_rfl)
    (e2 : True = Qd4 (Qbe TIx Tryz.prog nt (Qce code) none (List.replicate n (some .no)) T O (T'.map (·.1)) (O'.map (·.1))) := by kernel_rfl) (hdraw : ((!Qcf code && true) || false) = true := by kernel_rfl) : Wp Tryz.prog c code Q (mkS T O) := Wp.reg K28 mix hnt hk e1 trivial e2 hdraw hQ
theorem rgs {c : Ctx} {code : Code} {Q : Exit → Q0a → Prop} {nt : Nat} (hnt : c.nt = nt) (ah : Option (List (List Nat))) (rs : List (Option Orc)) {T : List (Nat × AV)} {O : List (Nat × Q09)} (T' : List (Nat × AV)) {A : Prop} (h : A)
    (hQ : Q .normal (mkS T' O)) (hk : Nat.beq (Qci code) 0 = true := by kernel_rfl) (e1 : (Qbe TIx Tryz.prog nt (Qce code) ah rs T O (T'.map (·.1)) (O.map (·.1))).map (fun r => (r.T, Qbg r.O)) = some (T', O) := by kernel_rfl)
    (e2 : A = Qd4 (Qbe TIx Tryz.prog nt (Qce code) ah rs T O (T'.map (·.1)) (O.map (·.1))) := by kernel_rfl) (hdraw : ((!Qcf code && ah.isNone) || ah.isSome) = true := by kernel_rfl) : Wp Tryz.prog c code Q (mkS T O) := rg hnt ah rs T' O h hQ hk e1 e2 hdraw
theorem K7o {c : Ctx} {code : Code} {Q : Exit → Q0a → Prop} {nt : Nat} (hnt : c.nt = nt) (n : Nat) {T : List (Nat × AV)} {O : List (Nat × Q09)} (T' : List (Nat × AV))
    (hQ : Q .normal (mkS T' O)) (hk : Nat.beq (Qci code) 0 = true := by kernel_rfl) (e1 : (Qbe TIx Tryz.prog nt (Qce code) none (List.replicate n (some .no)) T O (T'.map (·.1)) (O.map (·.1))).map (fun r => (r.T, Qbg r.O)) = some (T', O) := by kernel_rfl)
    (e2 : True = Qd4 (Qbe TIx Tryz.prog nt (Qce code) none (List.replicate n (some .no)) T O (T'.map (·.1)) (O.map (·.1))) := by kernel_rfl) (hdraw : ((!Qcf code && true) || false) = true := by kernel_rfl) : Wp Tryz.prog c code Q (mkS T O) := rg0 hnt n T' O hQ hk e1 e2 hdraw
theorem ix {e : List Int} {i : Int} {x : Int} (h : idx e i = some x) : 0 ≤ i ∧ (e.map I)[i.toNat]? = some (.int .i64 x) := Qdn (enc := I) (x := .int .i64 x) h (Qdy x)
def rep : Nat → Prop → Prop → Prop
  | 0, _, b => b
  | n + 1, a, b => a ∧ rep n a b
theorem ar {a b : Prop} : ∀ (n : Nat) (x : a) (y : b), rep n a b
  | 0, _, y => y
  | n + 1, x, y => ⟨x, ar n x y⟩
theorem rs {c : Ctx} {code : Code} {Q : Exit → Q0a → Prop} {nt : Nat} (hnt : c.nt = nt) (ah : Option (List (List Nat))) (rs : List (Option Orc)) {T : List (Nat × AV)} {O : List (Nat × Q09)} (T' : List (Nat × AV)) (O' : List (Nat × Q09)) {A : Prop} (h : A)
    (hQ : Wp Tryz.prog c (cr code) Q (mkS T' O')) (h1 : Nat.beq (Qci code) 1 = true := by kernel_rfl) (hk : Nat.beq (Qci (cl code)) 0 = true := by kernel_rfl) (e1 : (Qbe TIx Tryz.prog nt (Qce (cl code)) ah rs T O (T'.map (·.1)) (O'.map (·.1))).map (fun r => (r.T, Qbg r.O)) = some (T', O') := by kernel_rfl)
    (e2 : A = Qd4 (Qbe TIx Tryz.prog nt (Qce (cl code)) ah rs T O (T'.map (·.1)) (O'.map (·.1))) := by kernel_rfl) (hdraw : ((!Qcf (cl code) && ah.isNone) || ah.isSome) = true := by kernel_rfl) : Wp Tryz.prog c code Q (mkS T O) := Wp.seqN h1 (Wp.reg K28 mix hnt hk e1 h e2 hdraw (Qcu hQ))
theorem rs0 {c : Ctx} {code : Code} {Q : Exit → Q0a → Prop} {nt : Nat} (hnt : c.nt = nt) (n : Nat) {T : List (Nat × AV)} {O : List (Nat × Q09)} (T' : List (Nat × AV)) (O' : List (Nat × Q09))
    (hQ : Wp Tryz.prog c (cr code) Q (mkS T' O')) (h1 : Nat.beq (Qci code) 1 = true := by kernel_rfl) (hk : Nat.beq (Qci (cl code)) 0 = true := by kernel_rfl) (e1 : (Qbe TIx Tryz.prog nt (Qce (cl code)) none (List.replicate n (some .no)) T O (T'.map (·.1)) (O'.map (·.1))).map (fun r => (r.T, Qbg r.O)) = some (T', O') := by kernel_rfl)
    (e2 : True = Qd4 (Qbe TIx Tryz.prog nt (Qce (cl code)) none (List.replicate n (some .no)) T O (T'.map (·.1)) (O'.map (·.1))) := by kernel_rfl) (hdraw : ((!Qcf (cl code) && true) || false) = true := by kernel_rfl) : Wp Tryz.prog c code Q (mkS T O) := Wp.seqN h1 (Wp.reg K28 mix hnt hk e1 trivial e2 hdraw (Qcu hQ))
theorem rss {c : Ctx} {code : Code} {Q : Exit → Q0a → Prop} {nt : Nat} (hnt : c.nt = nt) (ah : Option (List (List Nat))) (rs' : List (Option Orc)) {T : List (Nat × AV)} {O : List (Nat × Q09)} (T' : List (Nat × AV)) {A : Prop} (h : A)
    (hQ : Wp Tryz.prog c (cr code) Q (mkS T' O)) (h1 : Nat.beq (Qci code) 1 = true := by kernel_rfl) (hk : Nat.beq (Qci (cl code)) 0 = true := by kernel_rfl) (e1 : (Qbe TIx Tryz.prog nt (Qce (cl code)) ah rs' T O (T'.map (·.1)) (O.map (·.1))).map (fun r => (r.T, Qbg r.O)) = some (T', O) := by kernel_rfl)
    (e2 : A = Qd4 (Qbe TIx Tryz.prog nt (Qce (cl code)) ah rs' T O (T'.map (·.1)) (O.map (·.1))) := by kernel_rfl) (hdraw : ((!Qcf (cl code) && ah.isNone) || ah.isSome) = true := by kernel_rfl) : Wp Tryz.prog c code Q (mkS T O) := rs hnt ah rs' T' O h hQ h1 hk e1 e2 hdraw
theorem K7p {c : Ctx} {code : Code} {Q : Exit → Q0a → Prop} {nt : Nat} (hnt : c.nt = nt) (n : Nat) {T : List (Nat × AV)} {O : List (Nat × Q09)} (T' : List (Nat × AV))
    (hQ : Wp Tryz.prog c (cr code) Q (mkS T' O)) (h1 : Nat.beq (Qci code) 1 = true := by kernel_rfl) (hk : Nat.beq (Qci (cl code)) 0 = true := by kernel_rfl) (e1 : (Qbe TIx Tryz.prog nt (Qce (cl code)) none (List.replicate n (some .no)) T O (T'.map (·.1)) (O.map (·.1))).map (fun r => (r.T, Qbg r.O)) = some (T', O) := by kernel_rfl)
    (e2 : True = Qd4 (Qbe TIx Tryz.prog nt (Qce (cl code)) none (List.replicate n (some .no)) T O (T'.map (·.1)) (O.map (·.1))) := by kernel_rfl) (hdraw : ((!Qcf (cl code) && true) || false) = true := by kernel_rfl) : Wp Tryz.prog c code Q (mkS T O) := rs0 hnt n T' O hQ h1 hk e1 e2 hdraw
theorem vz {c : Ctx} {code : Code} {Q : Exit → Q0a → Prop} {T : List (Nat × AV)} {O : List (Nat × Q09)} (k : Nat) {xs xs' : List AV} (hs : Q02 xs = xs') (T' : List (Nat × AV)) (O' : List (Nat × Q09)) (h : Wp Tryz.prog c code Q (mkS T' O')) (hO : lkO O k = some (.arr xs) := by kernel_rfl)
    (hT : T.map (fun p => (p.1, frz k (.sl xs') p.2)) = T' := by kernel_rfl) (hO' : ((O.filter fun p => !Nat.beq p.1 k).map fun p => (p.1, Qa8 k (.sl xs') p.2)) = O' := by kernel_rfl) : Wp Tryz.prog c code Q (mkS T O) := Wp.view (fun _ _ hv => SRx.frzL k hv hO hs hT hO') h
theorem vb {c : Ctx} {code : Code} {Q : Exit → Q0a → Prop} {T : List (Nat × AV)} {O : List (Nat × Q09)} (k : Nat) (cs : List AV) (T' : List (Nat × AV)) (O' : List (Nat × Q09)) (h : Wp Tryz.prog c code Q (mkS T' O')) (hO : lkO O k = some (.box cs) := by kernel_rfl) (hp : cs.all plain = true := by kernel_rfl)
    (hT : T.map (fun p => (p.1, frb k (cs.map nzC) p.2)) = T' := by kernel_rfl) (hO' : ((O.filter fun p => !Nat.beq p.1 k).map fun p => (p.1, Qf0 k (cs.map nzC) p.2)) = O' := by kernel_rfl) : Wp Tryz.prog c code Q (mkS T O) := Wp.view (fun _ _ hv => SRx.frbL k (cs := cs) hv hO hp hT hO') h
theorem b0 {f : FuncId} (fn : Func) (code : Code) {args : List AV} {res : AV} (nt : Nat) (T : List (Nat × AV)) (h : ∀ c : Ctx, c.nt = nt → Wp Tryz.prog c code (Qdb TIx fn [] res) (mkS T [])) (hf : Tryz.prog.funcs[f]? = some fn := by kernel_rfl) (hb : fn.body = some code := by kernel_rfl) (hok : Qbo args = true := by kernel_rfl) (ha : args.all (fun x => !Qdc x) = true := by kernel_rfl)
    (hnt : Nat.beq fn.ntmps nt = true := by kernel_rfl) (hle : Nat.ble args.length nt = true := by kernel_rfl) (hT : Qbm args = T := by kernel_rfl) (hO : Qbn args = [] := by kernel_rfl) : Q75 Tryz.prog f args res [] := Q75.body0 K28 hf hb hok ha hnt hle hT hO h
theorem iv {c : Ctx} {x : Exit} (ρ : List (Nat × Nat)) {T T' : List (Nat × AV)} {O O' : List (Nat × Q09)} (hT : (T'.map fun p => rn (rnk ρ) p.2) = T'.map fun p => lk .undef T p.1 := by kernel_rfl)
    (hO : (O'.map fun p => some (rnO (rnk ρ) p.2)) = O'.map fun p => lkO O (rnk ρ p.1) := by kernel_rfl) (hB : Qd7 ρ O' = true := by kernel_rfl) : Qd5 c x (mkS T' O') x (mkS T O) := Qd5.view (fun _ _ hv => SRx.renL ρ hv hT hO hB)
theorem bk {c : Ctx} {code : Code} {Q : Exit → Q0a → Prop} {σ : Q0a} (i : Nat) (h : Wp Tryz.prog c (cl code) (Qcs i Q) σ) (hk : (Nat.beq (Qci code) 3 && Nat.beq (Qcg code) i) = true := by kernel_rfl) : Wp Tryz.prog c code Q σ := Wp.blockN hk h
theorem xt {c : Ctx} {code : Code} {Q : Exit → Q0a → Prop} {σ : Q0a} (i : Nat) (h : Q (.exit i) σ) (hk : (Nat.beq (Qci code) 5 && Nat.beq (Qcg code) i) = true := by kernel_rfl) : Wp Tryz.prog c code Q σ := Wp.exitN hk h
theorem lp {c : Ctx} {code : Code} {Q : Exit → Q0a → Prop} {σ : Q0a} (h : WpL Tryz.prog c (cl code) Q σ) (hk : Nat.beq (Qci code) 4 = true := by kernel_rfl) : Wp Tryz.prog c code Q σ := Wp.loopN hk h
theorem re {fn : Func} {args : List AV} (fl : List Bool) {T : List (Nat × AV)} {O : List (Nat × Q09)} {res : AV} (h : Qda TIx fn args fl T O = some res := by kernel_rfl) : Qde TIx fn args res .ret (mkS T O) := Qde.ret h
abbrev sL (l : List (List Int)) : AV := .sl (List.map K0q l)
abbrev rI (l : List Int) : Q09 := .arr (List.map I l)
abbrev oI (l : List Int) : AV := .osl (List.map I l)
theorem rt {c : Ctx} {code : Code} {Q : Exit → Q0a → Prop} {σ : Q0a} (h : Q .ret σ) (hk : Nat.beq (Qci code) 6 = true := by kernel_rfl) : Wp Tryz.prog c code Q σ := Wp.retN hk h
theorem sk {c : Ctx} {code : Code} {Q : Exit → Q0a → Prop} {σ : Q0a} (h : Q .normal σ) (hk : Nat.beq (Qci code) 7 = true := by kernel_rfl) : Wp Tryz.prog c code Q σ := Wp.skipN hk h
theorem rq {fn : Func} {args : List AV} (fl : List Bool) {T : List (Nat × AV)} {O : List (Nat × Q09)} {res : AV} (h : Qda TIx fn args fl T O = some res := by kernel_rfl) : Qdb TIx fn args res .ret (mkS T O) := Qdb.ret h
theorem is {α : Type} {b : Bool} {x y : Option α} {r : α} (h : (if b = true then x else y) = some r) : (b = true ∧ x = some r) ∨ (b = false ∧ y = some r) := Qdk h
theorem os {α : Type} {a b : α} (h : some a = some b) : a = b := Option.some.inj h
abbrev sI (l : List Int) : AV := .sl (List.map I l)
abbrev sB (l : List Bool) : AV := .sl (List.map AV.bool l)
def rx (l : List (List Nat)) : Option (List (List Nat)) := some (l.map fun r => match r with | n :: e => List.range n ++ e | [] => [])
def rh (l : List Nat) : Option (List (List Nat)) := some (l.map List.range)
theorem ai {a b : Prop} (x : a) (y : b) : a ∧ b := ⟨x, y⟩
theorem oi (v : AV) : ([] : List Nat) = [] ∨ noSh v = true := Or.inl rfl
theorem ab {a b r : Prop} (x : a) (y : b) (t : r) : a ∧ b ∧ r := ⟨x, y, t⟩
theorem ac {a b c r : Prop} (x : a) (y : b) (z : c) (t : r) : a ∧ b ∧ c ∧ r := ⟨x, y, z, t⟩
theorem ad {a b c d r : Prop} (x : a) (y : b) (z : c) (w : d) (t : r) : a ∧ b ∧ c ∧ d ∧ r := ⟨x, y, z, w, t⟩
theorem cq {P : Program} {f : FuncId} {xs : List AV} {os : List AV} {v : AV} {b r : Prop} (x : Q75 P f xs v os) (y : b) (t : r) : Q75 P f xs v os ∧ b ∧ (([] : List Nat) = [] ∨ noSh v = true) ∧ r := ⟨x, y, Or.inl rfl, t⟩
abbrev tv : True := trivial
abbrev LL := List (List Int)
theorem xL {e : List (List Int)} {i : Int} {x : List Int} (h : idx e i = some x) : 0 ≤ i ∧ (e.map K0q)[i.toNat]? = some (.sl (List.map I x)) := Qdn (enc := K0q) (x := .sl (List.map I x)) h (K0r x)
theorem ic {c : Ctx} {code : Code} {Q : Exit → Q0a → Prop} {σ : Q0a} {α : Type} {b : Bool} {x y : Option α} {r : α} (h : (if b = true then x else y) = some r) (hT : b = true → x = some r → Wp Tryz.prog c (cl code) Q σ) (hF : b = false → y = some r → Wp Tryz.prog c (cr code) Q σ)
    (hk : Nat.beq (Qci code) 2 = true := by kernel_rfl) (hx : opv σ (Qch code) = .bool b := by kernel_rfl) : Wp Tryz.prog c code Q σ := (Qdk h).elim (fun q => Wp.condT hk hx q.1 (hT q.1 q.2)) (fun q => Wp.condF hk hx q.1 (hF q.1 q.2))
theorem bq2 {α β γ : Type} {x : Option α} {f : α → Option β} {g : α → β → Option γ} {r : γ} (h : (x >>= fun a => f a >>= fun b => g a b) = some r) : ∃ a, x = some a ∧ ∃ b, f a = some b ∧ g a b = some r := let ⟨a, ha, h⟩ := Qdj h; let ⟨b, hb, h⟩ := Qdj h; ⟨a, ha, b, hb, h⟩
theorem bq3 {α β γ δ : Type} {x : Option α} {f : α → Option β} {g : α → β → Option γ} {k : α → β → γ → Option δ} {r : δ} (h : (x >>= fun a => f a >>= fun b => g a b >>= fun c => k a b c) = some r) : ∃ a, x = some a ∧ ∃ b, f a = some b ∧ ∃ c, g a b = some c ∧ k a b c = some r := let ⟨a, ha, b, hb, h⟩ := bq2 h; let ⟨c, hc, h⟩ := Qdj h; ⟨a, ha, b, hb, c, hc, h⟩
theorem bq4 {α β γ δ ε : Type} {x : Option α} {f : α → Option β} {g : α → β → Option γ} {k : α → β → γ → Option δ} {l : α → β → γ → δ → Option ε} {r : ε} (h : (x >>= fun a => f a >>= fun b => g a b >>= fun c => k a b c >>= fun d => l a b c d) = some r) : ∃ a, x = some a ∧ ∃ b, f a = some b ∧ ∃ c, g a b = some c ∧ ∃ d, k a b c = some d ∧ l a b c d = some r := let ⟨a, ha, b, hb, c, hc, h⟩ := bq3 h; let ⟨d, hd, h⟩ := Qdj h; ⟨a, ha, b, hb, c, hc, d, hd, h⟩
theorem tt : true = true := rfl
theorem nf : true ≠ false := fun h => nomatch h
abbrev oN : Option Orc := some .no
abbrev oF : Option Orc := some (.cond false)
abbrev oT : Option Orc := some (.cond true)
abbrev o_ : Option Orc := none
abbrev oc (v : AV) : Option Orc := some (.call v [] 1)
theorem sN {c : Ctx} {code : Code} {Q : Exit → Q0a → Prop} {σ : Q0a} (h : Wp Tryz.prog c (cl code) (Qcr Tryz.prog c (cr code) Q) σ) (hk : Nat.beq (Qci code) 1 = true := by kernel_rfl) : Wp Tryz.prog c code Q σ := Wp.seqN hk h
theorem cT {c : Ctx} {code : Code} {Q : Exit → Q0a → Prop} {σ : Q0a} (b : Bool) (hb : b = true) (h1 : Wp Tryz.prog c (cl code) Q σ) (hk : Nat.beq (Qci code) 2 = true := by kernel_rfl) (hx : opv σ (Qch code) = .bool b := by kernel_rfl) : Wp Tryz.prog c code Q σ := Wp.condT hk hx hb h1
theorem cF {c : Ctx} {code : Code} {Q : Exit → Q0a → Prop} {σ : Q0a} (b : Bool) (hb : b = false) (h1 : Wp Tryz.prog c (cr code) Q σ) (hk : Nat.beq (Qci code) 2 = true := by kernel_rfl) (hx : opv σ (Qch code) = .bool b := by kernel_rfl) : Wp Tryz.prog c code Q σ := Wp.condF hk hx hb h1
end Go.Am
