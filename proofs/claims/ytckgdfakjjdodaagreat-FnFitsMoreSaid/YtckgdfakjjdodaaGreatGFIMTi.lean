/- The table of types, and the bodies. Printed by a program of mine (gen.py). -/
import Derived.Test.YtckgdfakjjdodaaGreatGFIMTy
import Derived.Test.YtckgdfakjjdodaaGreatChecked
set_option linter.unusedVariables false
set_option linter.unusedSimpArgs false
set_option maxRecDepth 100000
namespace Go.Am
open Go Go.Proofs
def tis : List (Nat × Q1o) := [(22, ⟨.slice 5, 1, 24, .nils⟩),
  (4, ⟨.bool, 1, 1, .bool false⟩),
  (27, ⟨.struct [(0, 3), (1, 24), (2, 24), (3, 25)], 4, 80, .agg [.int .i64 0, .nils, .nils, .nils]⟩),
  (67, ⟨.slice 24, 1, 24, .nils⟩),
  (24, ⟨.slice 3, 1, 24, .nils⟩),
  (32, ⟨.struct [(0, 3), (1, 3), (2, 24), (3, 30)], 4, 64, .agg [.int .i64 0, .int .i64 0, .nils, .nils]⟩),
  (83, ⟨.pointer 139, 1, 8, .nilp⟩),
  (5, ⟨.int .u8, 1, 1, .int .u8 0⟩),
  (3, ⟨.int .i64, 1, 8, .int .i64 0⟩),
  (139, ⟨.struct [(0, 22), (1, 3), (2, 3)], 3, 40, .agg [.nils, .int .i64 0, .int .i64 0]⟩),
  (25, ⟨.slice 4, 1, 24, .nils⟩),
  (30, ⟨.slice 32, 1, 24, .nils⟩),
  (172, ⟨.struct [(0, 24), (1, 24), (2, 3), (3, 24)], 4, 80, .agg [.nils, .nils, .int .i64 0, .nils]⟩),
  (96, ⟨.pointer 100, 1, 8, .nilp⟩),
  (162, ⟨.struct [(0, 9), (1, 3), (2, 4), (3, 4)], 4, 32, .agg [.str ByteArray.empty, .int .i64 0, .bool false, .bool false]⟩),
  (9, ⟨.string, 1, 16, .str ByteArray.empty⟩),
  (186, ⟨.slice 162, 1, 24, .nils⟩),
  (154, ⟨.struct [(0, 27)], 4, 80, .agg [.int .i64 0, .nils, .nils, .nils]⟩),
  (100, ⟨.struct [(0, 24), (1, 24), (2, 98), (3, 3), (4, 24)], 5, 104, .agg [.nils, .nils, .nils, .int .i64 0, .nils]⟩),
  (98, ⟨.slice 96, 1, 24, .nils⟩),
  (196, ⟨.slice 67, 1, 24, .nils⟩)]
def TIx : Nat → Option Q1o := lk none (tis.map fun p => (p.1, some p.2))
theorem K2j : Q1u Tryz.prog 22 ⟨.slice 5, 1, 24, .nils⟩ := ⟨by kernel_rfl, by kernel_rfl, by kernel_rfl, by kernel_rfl⟩
theorem K2k : Q1u Tryz.prog 4 ⟨.bool, 1, 1, .bool false⟩ := ⟨by kernel_rfl, by kernel_rfl, by kernel_rfl, by kernel_rfl⟩
theorem K2l : Q1u Tryz.prog 27 ⟨.struct [(0, 3), (1, 24), (2, 24), (3, 25)], 4, 80, .agg [.int .i64 0, .nils, .nils, .nils]⟩ := ⟨by kernel_rfl, by kernel_rfl, by kernel_rfl, by kernel_rfl⟩
theorem K2m : Q1u Tryz.prog 67 ⟨.slice 24, 1, 24, .nils⟩ := ⟨by kernel_rfl, by kernel_rfl, by kernel_rfl, by kernel_rfl⟩
theorem K2n : Q1u Tryz.prog 24 ⟨.slice 3, 1, 24, .nils⟩ := ⟨by kernel_rfl, by kernel_rfl, by kernel_rfl, by kernel_rfl⟩
theorem K2o : Q1u Tryz.prog 32 ⟨.struct [(0, 3), (1, 3), (2, 24), (3, 30)], 4, 64, .agg [.int .i64 0, .int .i64 0, .nils, .nils]⟩ := ⟨by kernel_rfl, by kernel_rfl, by kernel_rfl, by kernel_rfl⟩
theorem K2p : Q1u Tryz.prog 83 ⟨.pointer 139, 1, 8, .nilp⟩ := ⟨by kernel_rfl, by kernel_rfl, by kernel_rfl, by kernel_rfl⟩
theorem K2q : Q1u Tryz.prog 5 ⟨.int .u8, 1, 1, .int .u8 0⟩ := ⟨by kernel_rfl, by kernel_rfl, by kernel_rfl, by kernel_rfl⟩
theorem K2r : Q1u Tryz.prog 3 ⟨.int .i64, 1, 8, .int .i64 0⟩ := ⟨by kernel_rfl, by kernel_rfl, by kernel_rfl, by kernel_rfl⟩
theorem K2s : Q1u Tryz.prog 139 ⟨.struct [(0, 22), (1, 3), (2, 3)], 3, 40, .agg [.nils, .int .i64 0, .int .i64 0]⟩ := ⟨by kernel_rfl, by kernel_rfl, by kernel_rfl, by kernel_rfl⟩
theorem K2t : Q1u Tryz.prog 25 ⟨.slice 4, 1, 24, .nils⟩ := ⟨by kernel_rfl, by kernel_rfl, by kernel_rfl, by kernel_rfl⟩
theorem K2u : Q1u Tryz.prog 30 ⟨.slice 32, 1, 24, .nils⟩ := ⟨by kernel_rfl, by kernel_rfl, by kernel_rfl, by kernel_rfl⟩
theorem K2v : Q1u Tryz.prog 172 ⟨.struct [(0, 24), (1, 24), (2, 3), (3, 24)], 4, 80, .agg [.nils, .nils, .int .i64 0, .nils]⟩ := ⟨by kernel_rfl, by kernel_rfl, by kernel_rfl, by kernel_rfl⟩
theorem K2w : Q1u Tryz.prog 96 ⟨.pointer 100, 1, 8, .nilp⟩ := ⟨by kernel_rfl, by kernel_rfl, by kernel_rfl, by kernel_rfl⟩
theorem K2x : Q1u Tryz.prog 162 ⟨.struct [(0, 9), (1, 3), (2, 4), (3, 4)], 4, 32, .agg [.str ByteArray.empty, .int .i64 0, .bool false, .bool false]⟩ := ⟨by kernel_rfl, by kernel_rfl, by kernel_rfl, by kernel_rfl⟩
theorem K2y : Q1u Tryz.prog 9 ⟨.string, 1, 16, .str ByteArray.empty⟩ := ⟨by kernel_rfl, by kernel_rfl, by kernel_rfl, by kernel_rfl⟩
theorem K2z : Q1u Tryz.prog 186 ⟨.slice 162, 1, 24, .nils⟩ := ⟨by kernel_rfl, by kernel_rfl, by kernel_rfl, by kernel_rfl⟩
theorem K30 : Q1u Tryz.prog 154 ⟨.struct [(0, 27)], 4, 80, .agg [.int .i64 0, .nils, .nils, .nils]⟩ := ⟨by kernel_rfl, by kernel_rfl, by kernel_rfl, by kernel_rfl⟩
theorem K31 : Q1u Tryz.prog 100 ⟨.struct [(0, 24), (1, 24), (2, 98), (3, 3), (4, 24)], 5, 104, .agg [.nils, .nils, .nils, .int .i64 0, .nils]⟩ := ⟨by kernel_rfl, by kernel_rfl, by kernel_rfl, by kernel_rfl⟩
theorem K32 : Q1u Tryz.prog 98 ⟨.slice 96, 1, 24, .nils⟩ := ⟨by kernel_rfl, by kernel_rfl, by kernel_rfl, by kernel_rfl⟩
theorem K33 : Q1u Tryz.prog 196 ⟨.slice 67, 1, 24, .nils⟩ := ⟨by kernel_rfl, by kernel_rfl, by kernel_rfl, by kernel_rfl⟩
theorem K34 : Q1v Tryz.prog TIx := Q1v.of_list tis (by
  intro p hp
  simp only [tis, List.mem_cons, List.not_mem_nil, or_false] at hp
  rcases hp with rfl | rfl | rfl | rfl | rfl | rfl | rfl | rfl | rfl | rfl | rfl | rfl | rfl | rfl | rfl | rfl | rfl | rfl | rfl | rfl | rfl
  · exact K2j
  · exact K2k
  · exact K2l
  · exact K2m
  · exact K2n
  · exact K2o
  · exact K2p
  · exact K2q
  · exact K2r
  · exact K2s
  · exact K2t
  · exact K2u
  · exact K2v
  · exact K2w
  · exact K2x
  · exact K2y
  · exact K2z
  · exact K30
  · exact K31
  · exact K32
  · exact K33)
theorem mix : Tryz.prog.follows .mixedOrders = true := Tryz.checked.mixed
noncomputable def B14 : Code := Tryz.f14.body.getD .skip
theorem K35 : Q7r Tryz.prog 14 := Qdc (fn := Tryz.f14) (by kernel_rfl) (by kernel_rfl) (by kernel_rfl)
noncomputable def B71 : Code := Tryz.f71.body.getD .skip
theorem K36 : Q7r Tryz.prog 71 := Qdc (fn := Tryz.f71) (by kernel_rfl) (by kernel_rfl) (by kernel_rfl)
noncomputable def K37 : Code := Tryz.f123.body.getD .skip
theorem K38 : Q7r Tryz.prog 123 := Qdc (fn := Tryz.f123) (by kernel_rfl) (by kernel_rfl) (by kernel_rfl)
noncomputable def K39 : Code := Tryz.f110.body.getD .skip
theorem K3a : Q7r Tryz.prog 110 := Qdc (fn := Tryz.f110) (by kernel_rfl) (by kernel_rfl) (by kernel_rfl)
noncomputable def K3b : Code := Tryz.f174.body.getD .skip
theorem K3c : Q7r Tryz.prog 174 := Qdc (fn := Tryz.f174) (by kernel_rfl) (by kernel_rfl) (by kernel_rfl)
noncomputable def B90 : Code := Tryz.f90.body.getD .skip
theorem K3d : Q7r Tryz.prog 90 := Qdc (fn := Tryz.f90) (by kernel_rfl) (by kernel_rfl) (by kernel_rfl)
noncomputable def B73 : Code := Tryz.f73.body.getD .skip
theorem K3e : Q7r Tryz.prog 73 := Qdc (fn := Tryz.f73) (by kernel_rfl) (by kernel_rfl) (by kernel_rfl)
noncomputable def K3f : Code := Tryz.f119.body.getD .skip
theorem K3g : Q7r Tryz.prog 119 := Qdc (fn := Tryz.f119) (by kernel_rfl) (by kernel_rfl) (by kernel_rfl)
noncomputable def K3h : Code := Tryz.f121.body.getD .skip
theorem K3i : Q7r Tryz.prog 121 := Qdc (fn := Tryz.f121) (by kernel_rfl) (by kernel_rfl) (by kernel_rfl)
noncomputable def K3j : Code := Tryz.f152.body.getD .skip
theorem K3k : Q7r Tryz.prog 152 := Qdc (fn := Tryz.f152) (by kernel_rfl) (by kernel_rfl) (by kernel_rfl)
noncomputable def B47 : Code := Tryz.f47.body.getD .skip
theorem K3l : Q7r Tryz.prog 47 := Qdc (fn := Tryz.f47) (by kernel_rfl) (by kernel_rfl) (by kernel_rfl)
noncomputable def K3m : Code := Tryz.f100.body.getD .skip
theorem K3n : Q7r Tryz.prog 100 := Qdc (fn := Tryz.f100) (by kernel_rfl) (by kernel_rfl) (by kernel_rfl)
noncomputable def K3o : Code := Tryz.f153.body.getD .skip
theorem K3p : Q7r Tryz.prog 153 := Qdc (fn := Tryz.f153) (by kernel_rfl) (by kernel_rfl) (by kernel_rfl)
noncomputable def K3q : Code := Tryz.f163.body.getD .skip
theorem K3r : Q7r Tryz.prog 163 := Qdc (fn := Tryz.f163) (by kernel_rfl) (by kernel_rfl) (by kernel_rfl)
noncomputable def K3s : Code := Tryz.f211.body.getD .skip
theorem K3t : Q7r Tryz.prog 211 := Qdc (fn := Tryz.f211) (by kernel_rfl) (by kernel_rfl) (by kernel_rfl)
noncomputable def K3u : Code := Tryz.f212.body.getD .skip
theorem K3v : Q7r Tryz.prog 212 := Qdc (fn := Tryz.f212) (by kernel_rfl) (by kernel_rfl) (by kernel_rfl)
noncomputable def K3w : Code := Tryz.f202.body.getD .skip
theorem K3x : Q7r Tryz.prog 202 := Qdc (fn := Tryz.f202) (by kernel_rfl) (by kernel_rfl) (by kernel_rfl)
noncomputable def K3y : Code := Tryz.f164.body.getD .skip
theorem K3z : Q7r Tryz.prog 164 := Qdc (fn := Tryz.f164) (by kernel_rfl) (by kernel_rfl) (by kernel_rfl)
noncomputable def K40 : Code := Tryz.f214.body.getD .skip
theorem K41 : Q7r Tryz.prog 214 := Qdc (fn := Tryz.f214) (by kernel_rfl) (by kernel_rfl) (by kernel_rfl)
noncomputable def K42 : Code := Tryz.f165.body.getD .skip
theorem K43 : Q7r Tryz.prog 165 := Qdc (fn := Tryz.f165) (by kernel_rfl) (by kernel_rfl) (by kernel_rfl)
noncomputable def K44 : Code := Tryz.f166.body.getD .skip
theorem K45 : Q7r Tryz.prog 166 := Qdc (fn := Tryz.f166) (by kernel_rfl) (by kernel_rfl) (by kernel_rfl)
noncomputable def B80 : Code := Tryz.f80.body.getD .skip
theorem K46 : Q7r Tryz.prog 80 := Qdc (fn := Tryz.f80) (by kernel_rfl) (by kernel_rfl) (by kernel_rfl)
noncomputable def K47 : Code := Tryz.f207.body.getD .skip
theorem K48 : Q7r Tryz.prog 207 := Qdc (fn := Tryz.f207) (by kernel_rfl) (by kernel_rfl) (by kernel_rfl)
noncomputable def K49 : Code := Tryz.f208.body.getD .skip
theorem K4a : Q7r Tryz.prog 208 := Qdc (fn := Tryz.f208) (by kernel_rfl) (by kernel_rfl) (by kernel_rfl)
noncomputable def K4b : Code := Tryz.f209.body.getD .skip
theorem K4c : Q7r Tryz.prog 209 := Qdc (fn := Tryz.f209) (by kernel_rfl) (by kernel_rfl) (by kernel_rfl)
noncomputable def K4d : Code := Tryz.f210.body.getD .skip
theorem K4e : Q7r Tryz.prog 210 := Qdc (fn := Tryz.f210) (by kernel_rfl) (by kernel_rfl) (by kernel_rfl)
noncomputable def K4f : Code := Tryz.f154.body.getD .skip
theorem K4g : Q7r Tryz.prog 154 := Qdc (fn := Tryz.f154) (by kernel_rfl) (by kernel_rfl) (by kernel_rfl)
noncomputable def B72 : Code := Tryz.f72.body.getD .skip
theorem K4h : Q7r Tryz.prog 72 := Qdc (fn := Tryz.f72) (by kernel_rfl) (by kernel_rfl) (by kernel_rfl)
noncomputable def B75 : Code := Tryz.f75.body.getD .skip
theorem K4i : Q7r Tryz.prog 75 := Qdc (fn := Tryz.f75) (by kernel_rfl) (by kernel_rfl) (by kernel_rfl)
noncomputable def K4j : Code := Tryz.f155.body.getD .skip
theorem K4k : Q7r Tryz.prog 155 := Qdc (fn := Tryz.f155) (by kernel_rfl) (by kernel_rfl) (by kernel_rfl)
noncomputable def K4l : Code := Tryz.f200.body.getD .skip
theorem K4m : Q7r Tryz.prog 200 := Qdc (fn := Tryz.f200) (by kernel_rfl) (by kernel_rfl) (by kernel_rfl)
noncomputable def K4n : Code := Tryz.f147.body.getD .skip
theorem K4o : Q7r Tryz.prog 147 := Qdc (fn := Tryz.f147) (by kernel_rfl) (by kernel_rfl) (by kernel_rfl)
noncomputable def K4p : Code := Tryz.f182.body.getD .skip
theorem K4q : Q7r Tryz.prog 182 := Qdc (fn := Tryz.f182) (by kernel_rfl) (by kernel_rfl) (by kernel_rfl)
noncomputable def K4r : Code := Tryz.f251.body.getD .skip
theorem K4s : Q7r Tryz.prog 251 := Qdc (fn := Tryz.f251) (by kernel_rfl) (by kernel_rfl) (by kernel_rfl)
noncomputable def K4t : Code := Tryz.f231.body.getD .skip
theorem K4u : Q7r Tryz.prog 231 := Qdc (fn := Tryz.f231) (by kernel_rfl) (by kernel_rfl) (by kernel_rfl)
noncomputable def K4v : Code := Tryz.f215.body.getD .skip
theorem K4w : Q7r Tryz.prog 215 := Qdc (fn := Tryz.f215) (by kernel_rfl) (by kernel_rfl) (by kernel_rfl)
noncomputable def K4x : Code := Tryz.f185.body.getD .skip
theorem K4y : Q7r Tryz.prog 185 := Qdc (fn := Tryz.f185) (by kernel_rfl) (by kernel_rfl) (by kernel_rfl)
noncomputable def K4z : Code := Tryz.f168.body.getD .skip
theorem K50 : Q7r Tryz.prog 168 := Qdc (fn := Tryz.f168) (by kernel_rfl) (by kernel_rfl) (by kernel_rfl)
noncomputable def K51 : Code := Tryz.f167.body.getD .skip
theorem K52 : Q7r Tryz.prog 167 := Qdc (fn := Tryz.f167) (by kernel_rfl) (by kernel_rfl) (by kernel_rfl)
noncomputable def K53 : Code := Tryz.f176.body.getD .skip
theorem K54 : Q7r Tryz.prog 176 := Qdc (fn := Tryz.f176) (by kernel_rfl) (by kernel_rfl) (by kernel_rfl)
noncomputable def K55 : Code := Tryz.f178.body.getD .skip
theorem K56 : Q7r Tryz.prog 178 := Qdc (fn := Tryz.f178) (by kernel_rfl) (by kernel_rfl) (by kernel_rfl)
noncomputable def K57 : Code := Tryz.f169.body.getD .skip
theorem K58 : Q7r Tryz.prog 169 := Qdc (fn := Tryz.f169) (by kernel_rfl) (by kernel_rfl) (by kernel_rfl)
noncomputable def K59 : Code := Tryz.f252.body.getD .skip
theorem K5a : Q7r Tryz.prog 252 := Qdc (fn := Tryz.f252) (by kernel_rfl) (by kernel_rfl) (by kernel_rfl)
noncomputable def K5b : Code := Tryz.f233.body.getD .skip
theorem K5c : Q7r Tryz.prog 233 := Qdc (fn := Tryz.f233) (by kernel_rfl) (by kernel_rfl) (by kernel_rfl)
noncomputable def K5d : Code := Tryz.f232.body.getD .skip
theorem K5e : Q7r Tryz.prog 232 := Qdc (fn := Tryz.f232) (by kernel_rfl) (by kernel_rfl) (by kernel_rfl)
noncomputable def K5f : Code := Tryz.f234.body.getD .skip
theorem K5g : Q7r Tryz.prog 234 := Qdc (fn := Tryz.f234) (by kernel_rfl) (by kernel_rfl) (by kernel_rfl)
noncomputable def K5h : Code := Tryz.f235.body.getD .skip
theorem K5i : Q7r Tryz.prog 235 := Qdc (fn := Tryz.f235) (by kernel_rfl) (by kernel_rfl) (by kernel_rfl)
noncomputable def K5j : Code := Tryz.f236.body.getD .skip
theorem K5k : Q7r Tryz.prog 236 := Qdc (fn := Tryz.f236) (by kernel_rfl) (by kernel_rfl) (by kernel_rfl)
noncomputable def K5l : Code := Tryz.f238.body.getD .skip
theorem K5m : Q7r Tryz.prog 238 := Qdc (fn := Tryz.f238) (by kernel_rfl) (by kernel_rfl) (by kernel_rfl)
noncomputable def K5n : Code := Tryz.f237.body.getD .skip
theorem K5o : Q7r Tryz.prog 237 := Qdc (fn := Tryz.f237) (by kernel_rfl) (by kernel_rfl) (by kernel_rfl)
noncomputable def K5p : Code := Tryz.f239.body.getD .skip
theorem K5q : Q7r Tryz.prog 239 := Qdc (fn := Tryz.f239) (by kernel_rfl) (by kernel_rfl) (by kernel_rfl)
noncomputable def K5r : Code := Tryz.f203.body.getD .skip
theorem K5s : Q7r Tryz.prog 203 := Qdc (fn := Tryz.f203) (by kernel_rfl) (by kernel_rfl) (by kernel_rfl)
noncomputable def K5t : Code := Tryz.f253.body.getD .skip
theorem K5u : Q7r Tryz.prog 253 := Qdc (fn := Tryz.f253) (by kernel_rfl) (by kernel_rfl) (by kernel_rfl)
noncomputable def K5v : Code := Tryz.f141.body.getD .skip
theorem K5w : Q7r Tryz.prog 141 := Qdc (fn := Tryz.f141) (by kernel_rfl) (by kernel_rfl) (by kernel_rfl)
noncomputable def K5x : Code := Tryz.f140.body.getD .skip
theorem K5y : Q7r Tryz.prog 140 := Qdc (fn := Tryz.f140) (by kernel_rfl) (by kernel_rfl) (by kernel_rfl)
noncomputable def K5z : Code := Tryz.f191.body.getD .skip
theorem K60 : Q7r Tryz.prog 191 := Qdc (fn := Tryz.f191) (by kernel_rfl) (by kernel_rfl) (by kernel_rfl)
noncomputable def K61 : Code := Tryz.f132.body.getD .skip
theorem K62 : Q7r Tryz.prog 132 := Qdc (fn := Tryz.f132) (by kernel_rfl) (by kernel_rfl) (by kernel_rfl)
noncomputable def K63 : Code := Tryz.f113.body.getD .skip
theorem K64 : Q7r Tryz.prog 113 := Qdc (fn := Tryz.f113) (by kernel_rfl) (by kernel_rfl) (by kernel_rfl)
noncomputable def K65 : Code := Tryz.f201.body.getD .skip
theorem K66 : Q7r Tryz.prog 201 := Qdc (fn := Tryz.f201) (by kernel_rfl) (by kernel_rfl) (by kernel_rfl)
noncomputable def K67 : Code := Tryz.f137.body.getD .skip
theorem K68 : Q7r Tryz.prog 137 := Qdc (fn := Tryz.f137) (by kernel_rfl) (by kernel_rfl) (by kernel_rfl)
noncomputable def K69 : Code := Tryz.f142.body.getD .skip
theorem K6a : Q7r Tryz.prog 142 := Qdc (fn := Tryz.f142) (by kernel_rfl) (by kernel_rfl) (by kernel_rfl)
noncomputable def K6b : Code := Tryz.f156.body.getD .skip
theorem K6c : Q7r Tryz.prog 156 := Qdc (fn := Tryz.f156) (by kernel_rfl) (by kernel_rfl) (by kernel_rfl)
noncomputable def B99 : Code := Tryz.f99.body.getD .skip
theorem K6d : Q7r Tryz.prog 99 := Qdc (fn := Tryz.f99) (by kernel_rfl) (by kernel_rfl) (by kernel_rfl)
noncomputable def K6e : Code := Tryz.f204.body.getD .skip
theorem K6f : Q7r Tryz.prog 204 := Qdc (fn := Tryz.f204) (by kernel_rfl) (by kernel_rfl) (by kernel_rfl)
noncomputable def K6g : Code := Tryz.f143.body.getD .skip
theorem K6h : Q7r Tryz.prog 143 := Qdc (fn := Tryz.f143) (by kernel_rfl) (by kernel_rfl) (by kernel_rfl)
noncomputable def B63 : Code := Tryz.f63.body.getD .skip
theorem K6i : Q7r Tryz.prog 63 := Qdc (fn := Tryz.f63) (by kernel_rfl) (by kernel_rfl) (by kernel_rfl)
noncomputable def B95 : Code := Tryz.f95.body.getD .skip
theorem K6j : Q7r Tryz.prog 95 := Qdc (fn := Tryz.f95) (by kernel_rfl) (by kernel_rfl) (by kernel_rfl)
noncomputable def K6k : Code := Tryz.f145.body.getD .skip
theorem K6l : Q7r Tryz.prog 145 := Qdc (fn := Tryz.f145) (by kernel_rfl) (by kernel_rfl) (by kernel_rfl)
noncomputable def K6m : Code := Tryz.f160.body.getD .skip
theorem K6n : Q7r Tryz.prog 160 := Qdc (fn := Tryz.f160) (by kernel_rfl) (by kernel_rfl) (by kernel_rfl)
noncomputable def K6o : Code := Tryz.f161.body.getD .skip
theorem K6p : Q7r Tryz.prog 161 := Qdc (fn := Tryz.f161) (by kernel_rfl) (by kernel_rfl) (by kernel_rfl)
noncomputable def B89 : Code := Tryz.f89.body.getD .skip
theorem K6q : Q7r Tryz.prog 89 := Qdc (fn := Tryz.f89) (by kernel_rfl) (by kernel_rfl) (by kernel_rfl)
noncomputable def K6r : Code := Tryz.f149.body.getD .skip
theorem K6s : Q7r Tryz.prog 149 := Qdc (fn := Tryz.f149) (by kernel_rfl) (by kernel_rfl) (by kernel_rfl)
noncomputable def K6t : Code := Tryz.f162.body.getD .skip
theorem K6u : Q7r Tryz.prog 162 := Qdc (fn := Tryz.f162) (by kernel_rfl) (by kernel_rfl) (by kernel_rfl)
noncomputable def B79 : Code := Tryz.f79.body.getD .skip
theorem K6v : Q7r Tryz.prog 79 := Qdc (fn := Tryz.f79) (by kernel_rfl) (by kernel_rfl) (by kernel_rfl)
noncomputable def K6w : Code := Tryz.f157.body.getD .skip
theorem K6x : Q7r Tryz.prog 157 := Qdc (fn := Tryz.f157) (by kernel_rfl) (by kernel_rfl) (by kernel_rfl)
noncomputable def K6y : Code := Tryz.f213.body.getD .skip
theorem K6z : Q7r Tryz.prog 213 := Qdc (fn := Tryz.f213) (by kernel_rfl) (by kernel_rfl) (by kernel_rfl)
noncomputable def K70 : Code := Tryz.f159.body.getD .skip
theorem K71 : Q7r Tryz.prog 159 := Qdc (fn := Tryz.f159) (by kernel_rfl) (by kernel_rfl) (by kernel_rfl)
noncomputable def B78 : Code := Tryz.f78.body.getD .skip
theorem K72 : Q7r Tryz.prog 78 := Qdc (fn := Tryz.f78) (by kernel_rfl) (by kernel_rfl) (by kernel_rfl)
noncomputable def K73 : Code := Tryz.f217.body.getD .skip
theorem K74 : Q7r Tryz.prog 217 := Qdc (fn := Tryz.f217) (by kernel_rfl) (by kernel_rfl) (by kernel_rfl)
noncomputable def K75 : Code := Tryz.f241.body.getD .skip
theorem K76 : Q7r Tryz.prog 241 := Qdc (fn := Tryz.f241) (by kernel_rfl) (by kernel_rfl) (by kernel_rfl)
noncomputable def K77 : Code := Tryz.f216.body.getD .skip
theorem K78 : Q7r Tryz.prog 216 := Qdc (fn := Tryz.f216) (by kernel_rfl) (by kernel_rfl) (by kernel_rfl)
noncomputable def K79 : Code := Tryz.f171.body.getD .skip
theorem K7a : Q7r Tryz.prog 171 := Qdc (fn := Tryz.f171) (by kernel_rfl) (by kernel_rfl) (by kernel_rfl)
noncomputable def K7b : Code := Tryz.f188.body.getD .skip
theorem K7c : Q7r Tryz.prog 188 := Qdc (fn := Tryz.f188) (by kernel_rfl) (by kernel_rfl) (by kernel_rfl)
noncomputable def K7d : Code := Tryz.f218.body.getD .skip
theorem K7e : Q7r Tryz.prog 218 := Qdc (fn := Tryz.f218) (by kernel_rfl) (by kernel_rfl) (by kernel_rfl)
noncomputable def K7f : Code := Tryz.f199.body.getD .skip
theorem K7g : Q7r Tryz.prog 199 := Qdc (fn := Tryz.f199) (by kernel_rfl) (by kernel_rfl) (by kernel_rfl)
noncomputable def K7h : Code := Tryz.f134.body.getD .skip
theorem K7i : Q7r Tryz.prog 134 := Qdc (fn := Tryz.f134) (by kernel_rfl) (by kernel_rfl) (by kernel_rfl)
noncomputable def K7j : Code := Tryz.f172.body.getD .skip
theorem K7k : Q7r Tryz.prog 172 := Qdc (fn := Tryz.f172) (by kernel_rfl) (by kernel_rfl) (by kernel_rfl)
noncomputable def K7l : Code := Tryz.f158.body.getD .skip
theorem K7m : Q7r Tryz.prog 158 := Qdc (fn := Tryz.f158) (by kernel_rfl) (by kernel_rfl) (by kernel_rfl)
noncomputable def K7n : Code := Tryz.f219.body.getD .skip
theorem K7o : Q7r Tryz.prog 219 := Qdc (fn := Tryz.f219) (by kernel_rfl) (by kernel_rfl) (by kernel_rfl)
noncomputable def K7p : Code := Tryz.f242.body.getD .skip
theorem K7q : Q7r Tryz.prog 242 := Qdc (fn := Tryz.f242) (by kernel_rfl) (by kernel_rfl) (by kernel_rfl)
noncomputable def K7r : Code := Tryz.f220.body.getD .skip
theorem K7s : Q7r Tryz.prog 220 := Qdc (fn := Tryz.f220) (by kernel_rfl) (by kernel_rfl) (by kernel_rfl)
noncomputable def K7t : Code := Tryz.f173.body.getD .skip
theorem K7u : Q7r Tryz.prog 173 := Qdc (fn := Tryz.f173) (by kernel_rfl) (by kernel_rfl) (by kernel_rfl)
noncomputable def K7v : Code := Tryz.f221.body.getD .skip
theorem K7w : Q7r Tryz.prog 221 := Qdc (fn := Tryz.f221) (by kernel_rfl) (by kernel_rfl) (by kernel_rfl)
noncomputable def K7x : Code := Tryz.f144.body.getD .skip
theorem K7y : Q7r Tryz.prog 144 := Qdc (fn := Tryz.f144) (by kernel_rfl) (by kernel_rfl) (by kernel_rfl)
noncomputable def B88 : Code := Tryz.f88.body.getD .skip
theorem K7z : Q7r Tryz.prog 88 := Qdc (fn := Tryz.f88) (by kernel_rfl) (by kernel_rfl) (by kernel_rfl)
noncomputable def K80 : Code := Tryz.f254.body.getD .skip
theorem K81 : Q7r Tryz.prog 254 := Qdc (fn := Tryz.f254) (by kernel_rfl) (by kernel_rfl) (by kernel_rfl)
noncomputable def K82 : Code := Tryz.f244.body.getD .skip
theorem K83 : Q7r Tryz.prog 244 := Qdc (fn := Tryz.f244) (by kernel_rfl) (by kernel_rfl) (by kernel_rfl)
noncomputable def K84 : Code := Tryz.f243.body.getD .skip
theorem K85 : Q7r Tryz.prog 243 := Qdc (fn := Tryz.f243) (by kernel_rfl) (by kernel_rfl) (by kernel_rfl)
noncomputable def K86 : Code := Tryz.f245.body.getD .skip
theorem K87 : Q7r Tryz.prog 245 := Qdc (fn := Tryz.f245) (by kernel_rfl) (by kernel_rfl) (by kernel_rfl)
noncomputable def K88 : Code := Tryz.f255.body.getD .skip
theorem K89 : Q7r Tryz.prog 255 := Qdc (fn := Tryz.f255) (by kernel_rfl) (by kernel_rfl) (by kernel_rfl)
noncomputable def K8a : Code := Tryz.f246.body.getD .skip
theorem K8b : Q7r Tryz.prog 246 := Qdc (fn := Tryz.f246) (by kernel_rfl) (by kernel_rfl) (by kernel_rfl)
noncomputable def K8c : Code := Tryz.f256.body.getD .skip
theorem K8d : Q7r Tryz.prog 256 := Qdc (fn := Tryz.f256) (by kernel_rfl) (by kernel_rfl) (by kernel_rfl)
noncomputable def K8e : Code := Tryz.f193.body.getD .skip
theorem K8f : Q7r Tryz.prog 193 := Qdc (fn := Tryz.f193) (by kernel_rfl) (by kernel_rfl) (by kernel_rfl)
noncomputable def K8g : Code := Tryz.f116.body.getD .skip
theorem K8h : Q7r Tryz.prog 116 := Qdc (fn := Tryz.f116) (by kernel_rfl) (by kernel_rfl) (by kernel_rfl)
noncomputable def K8i : Code := Tryz.f247.body.getD .skip
theorem K8j : Q7r Tryz.prog 247 := Qdc (fn := Tryz.f247) (by kernel_rfl) (by kernel_rfl) (by kernel_rfl)
noncomputable def K8k : Code := Tryz.f248.body.getD .skip
theorem K8l : Q7r Tryz.prog 248 := Qdc (fn := Tryz.f248) (by kernel_rfl) (by kernel_rfl) (by kernel_rfl)
noncomputable def K8m : Code := Tryz.f249.body.getD .skip
theorem K8n : Q7r Tryz.prog 249 := Qdc (fn := Tryz.f249) (by kernel_rfl) (by kernel_rfl) (by kernel_rfl)
noncomputable def K8o : Code := Tryz.f222.body.getD .skip
theorem K8p : Q7r Tryz.prog 222 := Qdc (fn := Tryz.f222) (by kernel_rfl) (by kernel_rfl) (by kernel_rfl)
noncomputable def B87 : Code := Tryz.f87.body.getD .skip
theorem K8q : Q7r Tryz.prog 87 := Qdc (fn := Tryz.f87) (by kernel_rfl) (by kernel_rfl) (by kernel_rfl)
noncomputable def B23 : Code := Tryz.f23.body.getD .skip
theorem K8r : Q7r Tryz.prog 23 := Qdc (fn := Tryz.f23) (by kernel_rfl) (by kernel_rfl) (by kernel_rfl)
noncomputable def B64 : Code := Tryz.f64.body.getD .skip
theorem K8s : Q7r Tryz.prog 64 := Qdc (fn := Tryz.f64) (by kernel_rfl) (by kernel_rfl) (by kernel_rfl)
noncomputable def B48 : Code := Tryz.f48.body.getD .skip
theorem K8t : Q7r Tryz.prog 48 := Qdc (fn := Tryz.f48) (by kernel_rfl) (by kernel_rfl) (by kernel_rfl)
noncomputable def K8u : Code := Tryz.f138.body.getD .skip
theorem K8v : Q7r Tryz.prog 138 := Qdc (fn := Tryz.f138) (by kernel_rfl) (by kernel_rfl) (by kernel_rfl)
noncomputable def B66 : Code := Tryz.f66.body.getD .skip
theorem K8w : Q7r Tryz.prog 66 := Qdc (fn := Tryz.f66) (by kernel_rfl) (by kernel_rfl) (by kernel_rfl)
noncomputable def B81 : Code := Tryz.f81.body.getD .skip
theorem K8x : Q7r Tryz.prog 81 := Qdc (fn := Tryz.f81) (by kernel_rfl) (by kernel_rfl) (by kernel_rfl)
noncomputable def B82 : Code := Tryz.f82.body.getD .skip
theorem K8y : Q7r Tryz.prog 82 := Qdc (fn := Tryz.f82) (by kernel_rfl) (by kernel_rfl) (by kernel_rfl)
noncomputable def K8z : Code := Tryz.f240.body.getD .skip
theorem K90 : Q7r Tryz.prog 240 := Qdc (fn := Tryz.f240) (by kernel_rfl) (by kernel_rfl) (by kernel_rfl)
noncomputable def K91 : Code := Tryz.f227.body.getD .skip
theorem K92 : Q7r Tryz.prog 227 := Qdc (fn := Tryz.f227) (by kernel_rfl) (by kernel_rfl) (by kernel_rfl)
noncomputable def K93 : Code := Tryz.f225.body.getD .skip
theorem K94 : Q7r Tryz.prog 225 := Qdc (fn := Tryz.f225) (by kernel_rfl) (by kernel_rfl) (by kernel_rfl)
noncomputable def K95 : Code := Tryz.f228.body.getD .skip
theorem K96 : Q7r Tryz.prog 228 := Qdc (fn := Tryz.f228) (by kernel_rfl) (by kernel_rfl) (by kernel_rfl)
noncomputable def K97 : Code := Tryz.f190.body.getD .skip
theorem K98 : Q7r Tryz.prog 190 := Qdc (fn := Tryz.f190) (by kernel_rfl) (by kernel_rfl) (by kernel_rfl)
noncomputable def K99 : Code := Tryz.f114.body.getD .skip
theorem K9a : Q7r Tryz.prog 114 := Qdc (fn := Tryz.f114) (by kernel_rfl) (by kernel_rfl) (by kernel_rfl)
noncomputable def K9b : Code := Tryz.f183.body.getD .skip
theorem K9c : Q7r Tryz.prog 183 := Qdc (fn := Tryz.f183) (by kernel_rfl) (by kernel_rfl) (by kernel_rfl)
noncomputable def K9d : Code := Tryz.f205.body.getD .skip
theorem K9e : Q7r Tryz.prog 205 := Qdc (fn := Tryz.f205) (by kernel_rfl) (by kernel_rfl) (by kernel_rfl)
noncomputable def K9f : Code := Tryz.f146.body.getD .skip
theorem K9g : Q7r Tryz.prog 146 := Qdc (fn := Tryz.f146) (by kernel_rfl) (by kernel_rfl) (by kernel_rfl)
noncomputable def K9h : Code := Tryz.f148.body.getD .skip
theorem K9i : Q7r Tryz.prog 148 := Qdc (fn := Tryz.f148) (by kernel_rfl) (by kernel_rfl) (by kernel_rfl)
noncomputable def B65 : Code := Tryz.f65.body.getD .skip
theorem K9j : Q7r Tryz.prog 65 := Qdc (fn := Tryz.f65) (by kernel_rfl) (by kernel_rfl) (by kernel_rfl)
noncomputable def B12 : Code := Tryz.f12.body.getD .skip
theorem K9k : Q7r Tryz.prog 12 := Qdc (fn := Tryz.f12) (by kernel_rfl) (by kernel_rfl) (by kernel_rfl)

theorem rg {c : Ctx} {code : Code} {Q : Exit → Q0a → Prop} {nt : Nat} (hnt : c.nt = nt) (ah : Option (List (List Nat))) (rs : List (Option Orc)) {T : List (Nat × AV)} {O : List (Nat × Q09)} (T' : List (Nat × AV)) (O' : List (Nat × Q09)) {A : Prop} (h : A)
    (hQ : Q .normal (mkS T' O')) (hk : Nat.beq (Qcc code) 0 = true := by kernel_rfl) (e1 : (Qb8 TIx Tryz.prog nt (Qc8 code) ah rs T O (T'.map (·.1)) (O'.map (·.1))).map (fun r => (r.T, Qba r.O)) = some (T', O') := by kernel_rfl)
    (e2 : A = Qcy (Qb8 TIx Tryz.prog nt (Qc8 code) ah rs T O (T'.map (·.1)) (O'.map (·.1))) := by kernel_rfl) (hdraw : ((!Qc9 code && ah.isNone) || ah.isSome) = true := by kernel_rfl) : Wp Tryz.prog c code Q (mkS T O) := Wp.reg K34 mix hnt hk e1 h e2 hdraw hQ
theorem rg0 {c : Ctx} {code : Code} {Q : Exit → Q0a → Prop} {nt : Nat} (hnt : c.nt = nt) (n : Nat) {T : List (Nat × AV)} {O : List (Nat × Q09)} (T' : List (Nat × AV)) (O' : List (Nat × Q09))
    (hQ : Q .normal (mkS T' O')) (hk : Nat.beq (Qcc code) 0 = true := by kernel_rfl) (e1 : (Qb8 TIx Tryz.prog nt (Qc8 code) none (List.replicate n (some .no)) T O (T'.map (·.1)) (O'.map (·.1))).map (fun r => (r.T, Qba r.O)) = some (T', O') := by kernel_rfl)
    (e2 : True = Qcy (Qb8 TIx Tryz.prog nt (Qc8 code) none (List.replicate n (some .no)) T O (T'.map (·.1)) (O'.map (·.1))) := by kernel_rfl) (hdraw : ((!Qc9 code && true) || false) = true := by kernel_rfl) : Wp Tryz.prog c code Q (mkS T O) := Wp.reg K34 mix hnt hk e1 trivial e2 hdraw hQ
theorem rgs {c : Ctx} {code : Code} {Q : Exit → Q0a → Prop} {nt : Nat} (hnt : c.nt = nt) (ah : Option (List (List Nat))) (rs : List (Option Orc)) {T : List (Nat × AV)} {O : List (Nat × Q09)} (T' : List (Nat × AV)) {A : Prop} (h : A)
    (hQ : Q .normal (mkS T' O)) (hk : Nat.beq (Qcc code) 0 = true := by kernel_rfl) (e1 : (Qb8 TIx Tryz.prog nt (Qc8 code) ah rs T O (T'.map (·.1)) (O.map (·.1))).map (fun r => (r.T, Qba r.O)) = some (T', O) := by kernel_rfl)
    (e2 : A = Qcy (Qb8 TIx Tryz.prog nt (Qc8 code) ah rs T O (T'.map (·.1)) (O.map (·.1))) := by kernel_rfl) (hdraw : ((!Qc9 code && ah.isNone) || ah.isSome) = true := by kernel_rfl) : Wp Tryz.prog c code Q (mkS T O) := rg hnt ah rs T' O h hQ hk e1 e2 hdraw
theorem K9l {c : Ctx} {code : Code} {Q : Exit → Q0a → Prop} {nt : Nat} (hnt : c.nt = nt) (n : Nat) {T : List (Nat × AV)} {O : List (Nat × Q09)} (T' : List (Nat × AV))
    (hQ : Q .normal (mkS T' O)) (hk : Nat.beq (Qcc code) 0 = true := by kernel_rfl) (e1 : (Qb8 TIx Tryz.prog nt (Qc8 code) none (List.replicate n (some .no)) T O (T'.map (·.1)) (O.map (·.1))).map (fun r => (r.T, Qba r.O)) = some (T', O) := by kernel_rfl)
    (e2 : True = Qcy (Qb8 TIx Tryz.prog nt (Qc8 code) none (List.replicate n (some .no)) T O (T'.map (·.1)) (O.map (·.1))) := by kernel_rfl) (hdraw : ((!Qc9 code && true) || false) = true := by kernel_rfl) : Wp Tryz.prog c code Q (mkS T O) := rg0 hnt n T' O hQ hk e1 e2 hdraw
theorem ix {e : List Int} {i : Int} {x : Int} (h : idx e i = some x) : 0 ≤ i ∧ (e.map I)[i.toNat]? = some (.int .i64 x) := Qdh (enc := I) (x := .int .i64 x) h (Qds x)
def rep : Nat → Prop → Prop → Prop
  | 0, _, b => b
  | n + 1, a, b => a ∧ rep n a b
theorem ar {a b : Prop} : ∀ (n : Nat) (x : a) (y : b), rep n a b
  | 0, _, y => y
  | n + 1, x, y => ⟨x, ar n x y⟩
theorem rs {c : Ctx} {code : Code} {Q : Exit → Q0a → Prop} {nt : Nat} (hnt : c.nt = nt) (ah : Option (List (List Nat))) (rs : List (Option Orc)) {T : List (Nat × AV)} {O : List (Nat × Q09)} (T' : List (Nat × AV)) (O' : List (Nat × Q09)) {A : Prop} (h : A)
    (hQ : Wp Tryz.prog c (cr code) Q (mkS T' O')) (h1 : Nat.beq (Qcc code) 1 = true := by kernel_rfl) (hk : Nat.beq (Qcc (cl code)) 0 = true := by kernel_rfl) (e1 : (Qb8 TIx Tryz.prog nt (Qc8 (cl code)) ah rs T O (T'.map (·.1)) (O'.map (·.1))).map (fun r => (r.T, Qba r.O)) = some (T', O') := by kernel_rfl)
    (e2 : A = Qcy (Qb8 TIx Tryz.prog nt (Qc8 (cl code)) ah rs T O (T'.map (·.1)) (O'.map (·.1))) := by kernel_rfl) (hdraw : ((!Qc9 (cl code) && ah.isNone) || ah.isSome) = true := by kernel_rfl) : Wp Tryz.prog c code Q (mkS T O) := Wp.seqN h1 (Wp.reg K34 mix hnt hk e1 h e2 hdraw (Qco hQ))
theorem rs0 {c : Ctx} {code : Code} {Q : Exit → Q0a → Prop} {nt : Nat} (hnt : c.nt = nt) (n : Nat) {T : List (Nat × AV)} {O : List (Nat × Q09)} (T' : List (Nat × AV)) (O' : List (Nat × Q09))
    (hQ : Wp Tryz.prog c (cr code) Q (mkS T' O')) (h1 : Nat.beq (Qcc code) 1 = true := by kernel_rfl) (hk : Nat.beq (Qcc (cl code)) 0 = true := by kernel_rfl) (e1 : (Qb8 TIx Tryz.prog nt (Qc8 (cl code)) none (List.replicate n (some .no)) T O (T'.map (·.1)) (O'.map (·.1))).map (fun r => (r.T, Qba r.O)) = some (T', O') := by kernel_rfl)
    (e2 : True = Qcy (Qb8 TIx Tryz.prog nt (Qc8 (cl code)) none (List.replicate n (some .no)) T O (T'.map (·.1)) (O'.map (·.1))) := by kernel_rfl) (hdraw : ((!Qc9 (cl code) && true) || false) = true := by kernel_rfl) : Wp Tryz.prog c code Q (mkS T O) := Wp.seqN h1 (Wp.reg K34 mix hnt hk e1 trivial e2 hdraw (Qco hQ))
theorem rss {c : Ctx} {code : Code} {Q : Exit → Q0a → Prop} {nt : Nat} (hnt : c.nt = nt) (ah : Option (List (List Nat))) (rs' : List (Option Orc)) {T : List (Nat × AV)} {O : List (Nat × Q09)} (T' : List (Nat × AV)) {A : Prop} (h : A)
    (hQ : Wp Tryz.prog c (cr code) Q (mkS T' O)) (h1 : Nat.beq (Qcc code) 1 = true := by kernel_rfl) (hk : Nat.beq (Qcc (cl code)) 0 = true := by kernel_rfl) (e1 : (Qb8 TIx Tryz.prog nt (Qc8 (cl code)) ah rs' T O (T'.map (·.1)) (O.map (·.1))).map (fun r => (r.T, Qba r.O)) = some (T', O) := by kernel_rfl)
    (e2 : A = Qcy (Qb8 TIx Tryz.prog nt (Qc8 (cl code)) ah rs' T O (T'.map (·.1)) (O.map (·.1))) := by kernel_rfl) (hdraw : ((!Qc9 (cl code) && ah.isNone) || ah.isSome) = true := by kernel_rfl) : Wp Tryz.prog c code Q (mkS T O) := rs hnt ah rs' T' O h hQ h1 hk e1 e2 hdraw
theorem K9m {c : Ctx} {code : Code} {Q : Exit → Q0a → Prop} {nt : Nat} (hnt : c.nt = nt) (n : Nat) {T : List (Nat × AV)} {O : List (Nat × Q09)} (T' : List (Nat × AV))
    (hQ : Wp Tryz.prog c (cr code) Q (mkS T' O)) (h1 : Nat.beq (Qcc code) 1 = true := by kernel_rfl) (hk : Nat.beq (Qcc (cl code)) 0 = true := by kernel_rfl) (e1 : (Qb8 TIx Tryz.prog nt (Qc8 (cl code)) none (List.replicate n (some .no)) T O (T'.map (·.1)) (O.map (·.1))).map (fun r => (r.T, Qba r.O)) = some (T', O) := by kernel_rfl)
    (e2 : True = Qcy (Qb8 TIx Tryz.prog nt (Qc8 (cl code)) none (List.replicate n (some .no)) T O (T'.map (·.1)) (O.map (·.1))) := by kernel_rfl) (hdraw : ((!Qc9 (cl code) && true) || false) = true := by kernel_rfl) : Wp Tryz.prog c code Q (mkS T O) := rs0 hnt n T' O hQ h1 hk e1 e2 hdraw
theorem vz {c : Ctx} {code : Code} {Q : Exit → Q0a → Prop} {T : List (Nat × AV)} {O : List (Nat × Q09)} (k : Nat) {xs xs' : List AV} (hs : Q02 xs = xs') (T' : List (Nat × AV)) (O' : List (Nat × Q09)) (h : Wp Tryz.prog c code Q (mkS T' O')) (hO : lkO O k = some (.arr xs) := by kernel_rfl)
    (hT : T.map (fun p => (p.1, frz k (.sl xs') p.2)) = T' := by kernel_rfl) (hO' : ((O.filter fun p => !Nat.beq p.1 k).map fun p => (p.1, Qa2 k (.sl xs') p.2)) = O' := by kernel_rfl) : Wp Tryz.prog c code Q (mkS T O) := Wp.view (fun _ _ hv => SRx.frzL k hv hO hs hT hO') h
theorem vb {c : Ctx} {code : Code} {Q : Exit → Q0a → Prop} {T : List (Nat × AV)} {O : List (Nat × Q09)} (k : Nat) (cs : List AV) (T' : List (Nat × AV)) (O' : List (Nat × Q09)) (h : Wp Tryz.prog c code Q (mkS T' O')) (hO : lkO O k = some (.box cs) := by kernel_rfl) (hp : cs.all plain = true := by kernel_rfl)
    (hT : T.map (fun p => (p.1, frb k (cs.map nzC) p.2)) = T' := by kernel_rfl) (hO' : ((O.filter fun p => !Nat.beq p.1 k).map fun p => (p.1, Qeu k (cs.map nzC) p.2)) = O' := by kernel_rfl) : Wp Tryz.prog c code Q (mkS T O) := Wp.view (fun _ _ hv => SRx.frbL k (cs := cs) hv hO hp hT hO') h
theorem b0 {f : FuncId} (fn : Func) (code : Code) {args : List AV} {res : AV} (nt : Nat) (T : List (Nat × AV)) (h : ∀ c : Ctx, c.nt = nt → Wp Tryz.prog c code (Qd5 TIx fn [] res) (mkS T [])) (hf : Tryz.prog.funcs[f]? = some fn := by kernel_rfl) (hb : fn.body = some code := by kernel_rfl) (hok : Qbi args = true := by kernel_rfl) (ha : args.all (fun x => !Qd6 x) = true := by kernel_rfl)
    (hnt : Nat.beq fn.ntmps nt = true := by kernel_rfl) (hle : Nat.ble args.length nt = true := by kernel_rfl) (hT : Qbg args = T := by kernel_rfl) (hO : Qbh args = [] := by kernel_rfl) : Q71 Tryz.prog f args res [] := Q71.body0 K34 hf hb hok ha hnt hle hT hO h
theorem iv {c : Ctx} {x : Exit} (ρ : List (Nat × Nat)) {T T' : List (Nat × AV)} {O O' : List (Nat × Q09)} (hT : (T'.map fun p => rn (rnk ρ) p.2) = T'.map fun p => lk .undef T p.1 := by kernel_rfl)
    (hO : (O'.map fun p => some (rnO (rnk ρ) p.2)) = O'.map fun p => lkO O (rnk ρ p.1) := by kernel_rfl) (hB : Qd1 ρ O' = true := by kernel_rfl) : Qcz c x (mkS T' O') x (mkS T O) := Qcz.view (fun _ _ hv => SRx.renL ρ hv hT hO hB)
theorem bk {c : Ctx} {code : Code} {Q : Exit → Q0a → Prop} {σ : Q0a} (i : Nat) (h : Wp Tryz.prog c (cl code) (Qcm i Q) σ) (hk : (Nat.beq (Qcc code) 3 && Nat.beq (Qca code) i) = true := by kernel_rfl) : Wp Tryz.prog c code Q σ := Wp.blockN hk h
theorem xt {c : Ctx} {code : Code} {Q : Exit → Q0a → Prop} {σ : Q0a} (i : Nat) (h : Q (.exit i) σ) (hk : (Nat.beq (Qcc code) 5 && Nat.beq (Qca code) i) = true := by kernel_rfl) : Wp Tryz.prog c code Q σ := Wp.exitN hk h
theorem lp {c : Ctx} {code : Code} {Q : Exit → Q0a → Prop} {σ : Q0a} (h : WpL Tryz.prog c (cl code) Q σ) (hk : Nat.beq (Qcc code) 4 = true := by kernel_rfl) : Wp Tryz.prog c code Q σ := Wp.loopN hk h
theorem re {fn : Func} {args : List AV} (fl : List Bool) {T : List (Nat × AV)} {O : List (Nat × Q09)} {res : AV} (h : Qd4 TIx fn args fl T O = some res := by kernel_rfl) : Qd8 TIx fn args res .ret (mkS T O) := Qd8.ret h
abbrev sL (l : List (List Int)) : AV := .sl (List.map K14 l)
abbrev rI (l : List Int) : Q09 := .arr (List.map I l)
abbrev oI (l : List Int) : AV := .osl (List.map I l)
theorem rt {c : Ctx} {code : Code} {Q : Exit → Q0a → Prop} {σ : Q0a} (h : Q .ret σ) (hk : Nat.beq (Qcc code) 6 = true := by kernel_rfl) : Wp Tryz.prog c code Q σ := Wp.retN hk h
theorem sk {c : Ctx} {code : Code} {Q : Exit → Q0a → Prop} {σ : Q0a} (h : Q .normal σ) (hk : Nat.beq (Qcc code) 7 = true := by kernel_rfl) : Wp Tryz.prog c code Q σ := Wp.skipN hk h
theorem rq {fn : Func} {args : List AV} (fl : List Bool) {T : List (Nat × AV)} {O : List (Nat × Q09)} {res : AV} (h : Qd4 TIx fn args fl T O = some res := by kernel_rfl) : Qd5 TIx fn args res .ret (mkS T O) := Qd5.ret h
theorem is {α : Type} {b : Bool} {x y : Option α} {r : α} (h : (if b = true then x else y) = some r) : (b = true ∧ x = some r) ∨ (b = false ∧ y = some r) := Qde h
theorem os {α : Type} {a b : α} (h : some a = some b) : a = b := Option.some.inj h
abbrev sI (l : List Int) : AV := .sl (List.map I l)
abbrev sB (l : List Bool) : AV := .sl (List.map AV.bool l)
def rx (l : List (List Nat)) : Option (List (List Nat)) := some (l.map fun r => match r with | n :: e => List.range n ++ e | [] => [])
def rh (l : List Nat) : Option (List (List Nat)) := some (l.map List.range)
theorem ai {a b : Prop} (x : a) (y : b) : a ∧ b := ⟨x, y⟩
theorem oi (v : AV) : ([] : List Nat) = [] ∨ noSh v = true := Or.inl rfl
theorem ab {a b r : Prop} (x : a) (y : b) (t : r) : a ∧ b ∧ r := ⟨x, y, t⟩
theorem ac {a b c r : Prop} (x : a) (y : b) (z : c) (t : r) : a ∧ b ∧ c ∧ r := ⟨x, y, z, t⟩
theorem ad {a b c d r : Prop} (x : a) (y : b) (z : c) (w : d) (t : r) : a ∧ b ∧ c ∧ d ∧ r := ⟨x, y, z, w, t⟩
theorem cq {P : Program} {f : FuncId} {xs : List AV} {os : List AV} {v : AV} {b r : Prop} (x : Q71 P f xs v os) (y : b) (t : r) : Q71 P f xs v os ∧ b ∧ (([] : List Nat) = [] ∨ noSh v = true) ∧ r := ⟨x, y, Or.inl rfl, t⟩
abbrev tv : True := trivial
abbrev LL := List (List Int)
theorem xL {e : List (List Int)} {i : Int} {x : List Int} (h : idx e i = some x) : 0 ≤ i ∧ (e.map K14)[i.toNat]? = some (.sl (List.map I x)) := Qdh (enc := K14) (x := .sl (List.map I x)) h (K15 x)
theorem ic {c : Ctx} {code : Code} {Q : Exit → Q0a → Prop} {σ : Q0a} {α : Type} {b : Bool} {x y : Option α} {r : α} (h : (if b = true then x else y) = some r) (hT : b = true → x = some r → Wp Tryz.prog c (cl code) Q σ) (hF : b = false → y = some r → Wp Tryz.prog c (cr code) Q σ)
    (hk : Nat.beq (Qcc code) 2 = true := by kernel_rfl) (hx : opv σ (Qcb code) = .bool b := by kernel_rfl) : Wp Tryz.prog c code Q σ := (Qde h).elim (fun q => Wp.condT hk hx q.1 (hT q.1 q.2)) (fun q => Wp.condF hk hx q.1 (hF q.1 q.2))
theorem bq2 {α β γ : Type} {x : Option α} {f : α → Option β} {g : α → β → Option γ} {r : γ} (h : (x >>= fun a => f a >>= fun b => g a b) = some r) : ∃ a, x = some a ∧ ∃ b, f a = some b ∧ g a b = some r := let ⟨a, ha, h⟩ := Qdd h; let ⟨b, hb, h⟩ := Qdd h; ⟨a, ha, b, hb, h⟩
theorem bq3 {α β γ δ : Type} {x : Option α} {f : α → Option β} {g : α → β → Option γ} {k : α → β → γ → Option δ} {r : δ} (h : (x >>= fun a => f a >>= fun b => g a b >>= fun c => k a b c) = some r) : ∃ a, x = some a ∧ ∃ b, f a = some b ∧ ∃ c, g a b = some c ∧ k a b c = some r := let ⟨a, ha, b, hb, h⟩ := bq2 h; let ⟨c, hc, h⟩ := Qdd h; ⟨a, ha, b, hb, c, hc, h⟩
theorem bq4 {α β γ δ ε : Type} {x : Option α} {f : α → Option β} {g : α → β → Option γ} {k : α → β → γ → Option δ} {l : α → β → γ → δ → Option ε} {r : ε} (h : (x >>= fun a => f a >>= fun b => g a b >>= fun c => k a b c >>= fun d => l a b c d) = some r) : ∃ a, x = some a ∧ ∃ b, f a = some b ∧ ∃ c, g a b = some c ∧ ∃ d, k a b c = some d ∧ l a b c d = some r := let ⟨a, ha, b, hb, c, hc, h⟩ := bq3 h; let ⟨d, hd, h⟩ := Qdd h; ⟨a, ha, b, hb, c, hc, d, hd, h⟩
theorem tt : true = true := rfl
theorem nf : true ≠ false := fun h => nomatch h
abbrev oN : Option Orc := some .no
abbrev oF : Option Orc := some (.cond false)
abbrev oT : Option Orc := some (.cond true)
abbrev o_ : Option Orc := none
abbrev oc (v : AV) : Option Orc := some (.call v [] 1)
theorem sN {c : Ctx} {code : Code} {Q : Exit → Q0a → Prop} {σ : Q0a} (h : Wp Tryz.prog c (cl code) (Qcl Tryz.prog c (cr code) Q) σ) (hk : Nat.beq (Qcc code) 1 = true := by kernel_rfl) : Wp Tryz.prog c code Q σ := Wp.seqN hk h
theorem cT {c : Ctx} {code : Code} {Q : Exit → Q0a → Prop} {σ : Q0a} (b : Bool) (hb : b = true) (h1 : Wp Tryz.prog c (cl code) Q σ) (hk : Nat.beq (Qcc code) 2 = true := by kernel_rfl) (hx : opv σ (Qcb code) = .bool b := by kernel_rfl) : Wp Tryz.prog c code Q σ := Wp.condT hk hx hb h1
theorem cF {c : Ctx} {code : Code} {Q : Exit → Q0a → Prop} {σ : Q0a} (b : Bool) (hb : b = false) (h1 : Wp Tryz.prog c (cr code) Q σ) (hk : Nat.beq (Qcc code) 2 = true := by kernel_rfl) (hx : opv σ (Qcb code) = .bool b := by kernel_rfl) : Wp Tryz.prog c code Q σ := Wp.condF hk hx hb h1
end Go.Am
