/- The table of types, and the bodies. Printed by a program of mine (gen.py). -/
import Derived.Test.YtckgdfakjjdodaaGreatGFATy
import Derived.Test.YtckgdfakjjdodaaGreatChecked
set_option linter.unusedVariables false
set_option linter.unusedSimpArgs false
set_option maxRecDepth 100000
namespace Go.Am
open Go Go.Proofs
def tis : List (Nat × Q1o) := [(22, ⟨.slice 5, 1, 24, .nils⟩),
  (4, ⟨.bool, 1, 1, .bool false⟩),
  (27, ⟨.struct [(0, 3), (1, 24), (2, 24), (3, 25)], 4, 80, .agg [.int .i64 0, .nils, .nils, .nils]⟩),
  (67, ⟨.slice 24, 1, 24, .nils⟩),
  (32, ⟨.struct [(0, 3), (1, 3), (2, 24), (3, 30)], 4, 64, .agg [.int .i64 0, .int .i64 0, .nils, .nils]⟩),
  (83, ⟨.pointer 139, 1, 8, .nilp⟩),
  (5, ⟨.int .u8, 1, 1, .int .u8 0⟩),
  (3, ⟨.int .i64, 1, 8, .int .i64 0⟩),
  (139, ⟨.struct [(0, 22), (1, 3), (2, 3)], 3, 40, .agg [.nils, .int .i64 0, .int .i64 0]⟩),
  (24, ⟨.slice 3, 1, 24, .nils⟩),
  (25, ⟨.slice 4, 1, 24, .nils⟩),
  (30, ⟨.slice 32, 1, 24, .nils⟩),
  (172, ⟨.struct [(0, 24), (1, 24), (2, 3), (3, 24)], 4, 80, .agg [.nils, .nils, .int .i64 0, .nils]⟩),
  (96, ⟨.pointer 100, 1, 8, .nilp⟩),
  (162, ⟨.struct [(0, 9), (1, 3), (2, 4), (3, 4)], 4, 32, .agg [.str ByteArray.empty, .int .i64 0, .bool false, .bool false]⟩),
  (9, ⟨.string, 1, 16, .str ByteArray.empty⟩),
  (186, ⟨.slice 162, 1, 24, .nils⟩),
  (154, ⟨.struct [(0, 27)], 4, 80, .agg [.int .i64 0, .nils, .nils, .nils]⟩),
  (100, ⟨.struct [(0, 24), (1, 24), (2, 98), (3, 3), (4, 24)], 5, 104, .agg [.nils, .nils, .nils, .int .i64 0, .nils]⟩),
  (98, ⟨.slice 96, 1, 24, .nils⟩),
  (196, ⟨.slice 67, 1, 24, .nils⟩)]
def TIx : Nat → Option Q1o := lk none (tis.map fun p => (p.1, some p.2))
theorem K2p : Q1u Tryz.prog 22 ⟨.slice 5, 1, 24, .nils⟩ := ⟨by kernel_rfl, by kernel_rfl, by kernel_rfl, by kernel_rfl⟩
theorem K2q : Q1u Tryz.prog 4 ⟨.bool, 1, 1, .bool false⟩ := ⟨by kernel_rfl, by kernel_rfl, by kernel_rfl, by kernel_rfl⟩
theorem K2r : Q1u Tryz.prog 27 ⟨.struct [(0, 3), (1, 24), (2, 24), (3, 25)], 4, 80, .agg [.int .i64 0, .nils, .nils, .nils]⟩ := ⟨by kernel_rfl, by kernel_rfl, by kernel_rfl, by kernel_rfl⟩
theorem K2s : Q1u Tryz.prog 67 ⟨.slice 24, 1, 24, .nils⟩ := ⟨by kernel_rfl, by kernel_rfl, by kernel_rfl, by kernel_rfl⟩
theorem K2t : Q1u Tryz.prog 32 ⟨.struct [(0, 3), (1, 3), (2, 24), (3, 30)], 4, 64, .agg [.int .i64 0, .int .i64 0, .nils, .nils]⟩ := ⟨by kernel_rfl, by kernel_rfl, by kernel_rfl, by kernel_rfl⟩
theorem K2u : Q1u Tryz.prog 83 ⟨.pointer 139, 1, 8, .nilp⟩ := ⟨by kernel_rfl, by kernel_rfl, by kernel_rfl, by kernel_rfl⟩
theorem K2v : Q1u Tryz.prog 5 ⟨.int .u8, 1, 1, .int .u8 0⟩ := ⟨by kernel_rfl, by kernel_rfl, by kernel_rfl, by kernel_rfl⟩
theorem K2w : Q1u Tryz.prog 3 ⟨.int .i64, 1, 8, .int .i64 0⟩ := ⟨by kernel_rfl, by kernel_rfl, by kernel_rfl, by kernel_rfl⟩
theorem K2x : Q1u Tryz.prog 139 ⟨.struct [(0, 22), (1, 3), (2, 3)], 3, 40, .agg [.nils, .int .i64 0, .int .i64 0]⟩ := ⟨by kernel_rfl, by kernel_rfl, by kernel_rfl, by kernel_rfl⟩
theorem K2y : Q1u Tryz.prog 24 ⟨.slice 3, 1, 24, .nils⟩ := ⟨by kernel_rfl, by kernel_rfl, by kernel_rfl, by kernel_rfl⟩
theorem K2z : Q1u Tryz.prog 25 ⟨.slice 4, 1, 24, .nils⟩ := ⟨by kernel_rfl, by kernel_rfl, by kernel_rfl, by kernel_rfl⟩
theorem K30 : Q1u Tryz.prog 30 ⟨.slice 32, 1, 24, .nils⟩ := ⟨by kernel_rfl, by kernel_rfl, by kernel_rfl, by kernel_rfl⟩
theorem K31 : Q1u Tryz.prog 172 ⟨.struct [(0, 24), (1, 24), (2, 3), (3, 24)], 4, 80, .agg [.nils, .nils, .int .i64 0, .nils]⟩ := ⟨by kernel_rfl, by kernel_rfl, by kernel_rfl, by kernel_rfl⟩
theorem K32 : Q1u Tryz.prog 96 ⟨.pointer 100, 1, 8, .nilp⟩ := ⟨by kernel_rfl, by kernel_rfl, by kernel_rfl, by kernel_rfl⟩
theorem K33 : Q1u Tryz.prog 162 ⟨.struct [(0, 9), (1, 3), (2, 4), (3, 4)], 4, 32, .agg [.str ByteArray.empty, .int .i64 0, .bool false, .bool false]⟩ := ⟨by kernel_rfl, by kernel_rfl, by kernel_rfl, by kernel_rfl⟩
theorem K34 : Q1u Tryz.prog 9 ⟨.string, 1, 16, .str ByteArray.empty⟩ := ⟨by kernel_rfl, by kernel_rfl, by kernel_rfl, by kernel_rfl⟩
theorem K35 : Q1u Tryz.prog 186 ⟨.slice 162, 1, 24, .nils⟩ := ⟨by kernel_rfl, by kernel_rfl, by kernel_rfl, by kernel_rfl⟩
theorem K36 : Q1u Tryz.prog 154 ⟨.struct [(0, 27)], 4, 80, .agg [.int .i64 0, .nils, .nils, .nils]⟩ := ⟨by kernel_rfl, by kernel_rfl, by kernel_rfl, by kernel_rfl⟩
theorem K37 : Q1u Tryz.prog 100 ⟨.struct [(0, 24), (1, 24), (2, 98), (3, 3), (4, 24)], 5, 104, .agg [.nils, .nils, .nils, .int .i64 0, .nils]⟩ := ⟨by kernel_rfl, by kernel_rfl, by kernel_rfl, by kernel_rfl⟩
theorem K38 : Q1u Tryz.prog 98 ⟨.slice 96, 1, 24, .nils⟩ := ⟨by kernel_rfl, by kernel_rfl, by kernel_rfl, by kernel_rfl⟩
theorem K39 : Q1u Tryz.prog 196 ⟨.slice 67, 1, 24, .nils⟩ := ⟨by kernel_rfl, by kernel_rfl, by kernel_rfl, by kernel_rfl⟩
theorem K3a : Q1v Tryz.prog TIx := Q1v.of_list tis (by
  intro p hp
  simp only [tis, List.mem_cons, List.not_mem_nil, or_false] at hp
  rcases hp with rfl | rfl | rfl | rfl | rfl | rfl | rfl | rfl | rfl | rfl | rfl | rfl | rfl | rfl | rfl | rfl | rfl | rfl | rfl | rfl | rfl
  · exact K2p
  · exact K2q
  · exact K2r
  · exact K2s
  · exact K2t
  · exact K2u
  · exact K2v
  · exact K2w
  · exact K2x
  · exact K2y
  · exact K2z
  · exact K30
  · exact K31
  · exact K32
  · exact K33
  · exact K34
  · exact K35
  · exact K36
  · exact K37
  · exact K38
  · exact K39)
theorem mix : Tryz.prog.follows .mixedOrders = true := Tryz.checked.mixed
noncomputable def B14 : Code := Tryz.f14.body.getD .skip
theorem K3b : Q7v Tryz.prog 14 := Qds (fn := Tryz.f14) (by kernel_rfl) (by kernel_rfl) (by kernel_rfl)
noncomputable def B71 : Code := Tryz.f71.body.getD .skip
theorem K3c : Q7v Tryz.prog 71 := Qds (fn := Tryz.f71) (by kernel_rfl) (by kernel_rfl) (by kernel_rfl)
noncomputable def K3d : Code := Tryz.f123.body.getD .skip
theorem K3e : Q7v Tryz.prog 123 := Qds (fn := Tryz.f123) (by kernel_rfl) (by kernel_rfl) (by kernel_rfl)
noncomputable def K3f : Code := Tryz.f110.body.getD .skip
theorem K3g : Q7v Tryz.prog 110 := Qds (fn := Tryz.f110) (by kernel_rfl) (by kernel_rfl) (by kernel_rfl)
noncomputable def K3h : Code := Tryz.f174.body.getD .skip
theorem K3i : Q7v Tryz.prog 174 := Qds (fn := Tryz.f174) (by kernel_rfl) (by kernel_rfl) (by kernel_rfl)
noncomputable def B90 : Code := Tryz.f90.body.getD .skip
theorem K3j : Q7v Tryz.prog 90 := Qds (fn := Tryz.f90) (by kernel_rfl) (by kernel_rfl) (by kernel_rfl)
noncomputable def B73 : Code := Tryz.f73.body.getD .skip
theorem K3k : Q7v Tryz.prog 73 := Qds (fn := Tryz.f73) (by kernel_rfl) (by kernel_rfl) (by kernel_rfl)
noncomputable def K3l : Code := Tryz.f119.body.getD .skip
theorem K3m : Q7v Tryz.prog 119 := Qds (fn := Tryz.f119) (by kernel_rfl) (by kernel_rfl) (by kernel_rfl)
noncomputable def K3n : Code := Tryz.f121.body.getD .skip
theorem K3o : Q7v Tryz.prog 121 := Qds (fn := Tryz.f121) (by kernel_rfl) (by kernel_rfl) (by kernel_rfl)
noncomputable def K3p : Code := Tryz.f152.body.getD .skip
theorem K3q : Q7v Tryz.prog 152 := Qds (fn := Tryz.f152) (by kernel_rfl) (by kernel_rfl) (by kernel_rfl)
noncomputable def B47 : Code := Tryz.f47.body.getD .skip
theorem K3r : Q7v Tryz.prog 47 := Qds (fn := Tryz.f47) (by kernel_rfl) (by kernel_rfl) (by kernel_rfl)
noncomputable def K3s : Code := Tryz.f100.body.getD .skip
theorem K3t : Q7v Tryz.prog 100 := Qds (fn := Tryz.f100) (by kernel_rfl) (by kernel_rfl) (by kernel_rfl)
noncomputable def K3u : Code := Tryz.f153.body.getD .skip
theorem K3v : Q7v Tryz.prog 153 := Qds (fn := Tryz.f153) (by kernel_rfl) (by kernel_rfl) (by kernel_rfl)
noncomputable def K3w : Code := Tryz.f163.body.getD .skip
theorem K3x : Q7v Tryz.prog 163 := Qds (fn := Tryz.f163) (by kernel_rfl) (by kernel_rfl) (by kernel_rfl)
noncomputable def K3y : Code := Tryz.f211.body.getD .skip
theorem K3z : Q7v Tryz.prog 211 := Qds (fn := Tryz.f211) (by kernel_rfl) (by kernel_rfl) (by kernel_rfl)
noncomputable def K40 : Code := Tryz.f212.body.getD .skip
theorem K41 : Q7v Tryz.prog 212 := Qds (fn := Tryz.f212) (by kernel_rfl) (by kernel_rfl) (by kernel_rfl)
noncomputable def K42 : Code := Tryz.f202.body.getD .skip
theorem K43 : Q7v Tryz.prog 202 := Qds (fn := Tryz.f202) (by kernel_rfl) (by kernel_rfl) (by kernel_rfl)
noncomputable def K44 : Code := Tryz.f164.body.getD .skip
theorem K45 : Q7v Tryz.prog 164 := Qds (fn := Tryz.f164) (by kernel_rfl) (by kernel_rfl) (by kernel_rfl)
noncomputable def K46 : Code := Tryz.f214.body.getD .skip
theorem K47 : Q7v Tryz.prog 214 := Qds (fn := Tryz.f214) (by kernel_rfl) (by kernel_rfl) (by kernel_rfl)
noncomputable def K48 : Code := Tryz.f165.body.getD .skip
theorem K49 : Q7v Tryz.prog 165 := Qds (fn := Tryz.f165) (by kernel_rfl) (by kernel_rfl) (by kernel_rfl)
noncomputable def K4a : Code := Tryz.f166.body.getD .skip
theorem K4b : Q7v Tryz.prog 166 := Qds (fn := Tryz.f166) (by kernel_rfl) (by kernel_rfl) (by kernel_rfl)
noncomputable def B80 : Code := Tryz.f80.body.getD .skip
theorem K4c : Q7v Tryz.prog 80 := Qds (fn := Tryz.f80) (by kernel_rfl) (by kernel_rfl) (by kernel_rfl)
noncomputable def K4d : Code := Tryz.f207.body.getD .skip
theorem K4e : Q7v Tryz.prog 207 := Qds (fn := Tryz.f207) (by kernel_rfl) (by kernel_rfl) (by kernel_rfl)
noncomputable def K4f : Code := Tryz.f208.body.getD .skip
theorem K4g : Q7v Tryz.prog 208 := Qds (fn := Tryz.f208) (by kernel_rfl) (by kernel_rfl) (by kernel_rfl)
noncomputable def K4h : Code := Tryz.f209.body.getD .skip
theorem K4i : Q7v Tryz.prog 209 := Qds (fn := Tryz.f209) (by kernel_rfl) (by kernel_rfl) (by kernel_rfl)
noncomputable def K4j : Code := Tryz.f210.body.getD .skip
theorem K4k : Q7v Tryz.prog 210 := Qds (fn := Tryz.f210) (by kernel_rfl) (by kernel_rfl) (by kernel_rfl)
noncomputable def K4l : Code := Tryz.f154.body.getD .skip
theorem K4m : Q7v Tryz.prog 154 := Qds (fn := Tryz.f154) (by kernel_rfl) (by kernel_rfl) (by kernel_rfl)
noncomputable def B72 : Code := Tryz.f72.body.getD .skip
theorem K4n : Q7v Tryz.prog 72 := Qds (fn := Tryz.f72) (by kernel_rfl) (by kernel_rfl) (by kernel_rfl)
noncomputable def B75 : Code := Tryz.f75.body.getD .skip
theorem K4o : Q7v Tryz.prog 75 := Qds (fn := Tryz.f75) (by kernel_rfl) (by kernel_rfl) (by kernel_rfl)
noncomputable def K4p : Code := Tryz.f155.body.getD .skip
theorem K4q : Q7v Tryz.prog 155 := Qds (fn := Tryz.f155) (by kernel_rfl) (by kernel_rfl) (by kernel_rfl)
noncomputable def K4r : Code := Tryz.f200.body.getD .skip
theorem K4s : Q7v Tryz.prog 200 := Qds (fn := Tryz.f200) (by kernel_rfl) (by kernel_rfl) (by kernel_rfl)
noncomputable def K4t : Code := Tryz.f147.body.getD .skip
theorem K4u : Q7v Tryz.prog 147 := Qds (fn := Tryz.f147) (by kernel_rfl) (by kernel_rfl) (by kernel_rfl)
noncomputable def K4v : Code := Tryz.f182.body.getD .skip
theorem K4w : Q7v Tryz.prog 182 := Qds (fn := Tryz.f182) (by kernel_rfl) (by kernel_rfl) (by kernel_rfl)
noncomputable def K4x : Code := Tryz.f251.body.getD .skip
theorem K4y : Q7v Tryz.prog 251 := Qds (fn := Tryz.f251) (by kernel_rfl) (by kernel_rfl) (by kernel_rfl)
noncomputable def K4z : Code := Tryz.f231.body.getD .skip
theorem K50 : Q7v Tryz.prog 231 := Qds (fn := Tryz.f231) (by kernel_rfl) (by kernel_rfl) (by kernel_rfl)
noncomputable def K51 : Code := Tryz.f215.body.getD .skip
theorem K52 : Q7v Tryz.prog 215 := Qds (fn := Tryz.f215) (by kernel_rfl) (by kernel_rfl) (by kernel_rfl)
noncomputable def K53 : Code := Tryz.f185.body.getD .skip
theorem K54 : Q7v Tryz.prog 185 := Qds (fn := Tryz.f185) (by kernel_rfl) (by kernel_rfl) (by kernel_rfl)
noncomputable def K55 : Code := Tryz.f168.body.getD .skip
theorem K56 : Q7v Tryz.prog 168 := Qds (fn := Tryz.f168) (by kernel_rfl) (by kernel_rfl) (by kernel_rfl)
noncomputable def K57 : Code := Tryz.f167.body.getD .skip
theorem K58 : Q7v Tryz.prog 167 := Qds (fn := Tryz.f167) (by kernel_rfl) (by kernel_rfl) (by kernel_rfl)
noncomputable def K59 : Code := Tryz.f176.body.getD .skip
theorem K5a : Q7v Tryz.prog 176 := Qds (fn := Tryz.f176) (by kernel_rfl) (by kernel_rfl) (by kernel_rfl)
noncomputable def K5b : Code := Tryz.f178.body.getD .skip
theorem K5c : Q7v Tryz.prog 178 := Qds (fn := Tryz.f178) (by kernel_rfl) (by kernel_rfl) (by kernel_rfl)
noncomputable def K5d : Code := Tryz.f169.body.getD .skip
theorem K5e : Q7v Tryz.prog 169 := Qds (fn := Tryz.f169) (by kernel_rfl) (by kernel_rfl) (by kernel_rfl)
noncomputable def K5f : Code := Tryz.f252.body.getD .skip
theorem K5g : Q7v Tryz.prog 252 := Qds (fn := Tryz.f252) (by kernel_rfl) (by kernel_rfl) (by kernel_rfl)
noncomputable def K5h : Code := Tryz.f233.body.getD .skip
theorem K5i : Q7v Tryz.prog 233 := Qds (fn := Tryz.f233) (by kernel_rfl) (by kernel_rfl) (by kernel_rfl)
noncomputable def K5j : Code := Tryz.f232.body.getD .skip
theorem K5k : Q7v Tryz.prog 232 := Qds (fn := Tryz.f232) (by kernel_rfl) (by kernel_rfl) (by kernel_rfl)
noncomputable def K5l : Code := Tryz.f234.body.getD .skip
theorem K5m : Q7v Tryz.prog 234 := Qds (fn := Tryz.f234) (by kernel_rfl) (by kernel_rfl) (by kernel_rfl)
noncomputable def K5n : Code := Tryz.f235.body.getD .skip
theorem K5o : Q7v Tryz.prog 235 := Qds (fn := Tryz.f235) (by kernel_rfl) (by kernel_rfl) (by kernel_rfl)
noncomputable def K5p : Code := Tryz.f236.body.getD .skip
theorem K5q : Q7v Tryz.prog 236 := Qds (fn := Tryz.f236) (by kernel_rfl) (by kernel_rfl) (by kernel_rfl)
noncomputable def K5r : Code := Tryz.f238.body.getD .skip
theorem K5s : Q7v Tryz.prog 238 := Qds (fn := Tryz.f238) (by kernel_rfl) (by kernel_rfl) (by kernel_rfl)
noncomputable def K5t : Code := Tryz.f237.body.getD .skip
theorem K5u : Q7v Tryz.prog 237 := Qds (fn := Tryz.f237) (by kernel_rfl) (by kernel_rfl) (by kernel_rfl)
noncomputable def K5v : Code := Tryz.f239.body.getD .skip
theorem K5w : Q7v Tryz.prog 239 := Qds (fn := Tryz.f239) (by kernel_rfl) (by kernel_rfl) (by kernel_rfl)
noncomputable def K5x : Code := Tryz.f203.body.getD .skip
theorem K5y : Q7v Tryz.prog 203 := Qds (fn := Tryz.f203) (by kernel_rfl) (by kernel_rfl) (by kernel_rfl)
noncomputable def K5z : Code := Tryz.f253.body.getD .skip
theorem K60 : Q7v Tryz.prog 253 := Qds (fn := Tryz.f253) (by kernel_rfl) (by kernel_rfl) (by kernel_rfl)
noncomputable def K61 : Code := Tryz.f141.body.getD .skip
theorem K62 : Q7v Tryz.prog 141 := Qds (fn := Tryz.f141) (by kernel_rfl) (by kernel_rfl) (by kernel_rfl)
noncomputable def K63 : Code := Tryz.f140.body.getD .skip
theorem K64 : Q7v Tryz.prog 140 := Qds (fn := Tryz.f140) (by kernel_rfl) (by kernel_rfl) (by kernel_rfl)
noncomputable def K65 : Code := Tryz.f191.body.getD .skip
theorem K66 : Q7v Tryz.prog 191 := Qds (fn := Tryz.f191) (by kernel_rfl) (by kernel_rfl) (by kernel_rfl)
noncomputable def K67 : Code := Tryz.f132.body.getD .skip
theorem K68 : Q7v Tryz.prog 132 := Qds (fn := Tryz.f132) (by kernel_rfl) (by kernel_rfl) (by kernel_rfl)
noncomputable def K69 : Code := Tryz.f113.body.getD .skip
theorem K6a : Q7v Tryz.prog 113 := Qds (fn := Tryz.f113) (by kernel_rfl) (by kernel_rfl) (by kernel_rfl)
noncomputable def K6b : Code := Tryz.f201.body.getD .skip
theorem K6c : Q7v Tryz.prog 201 := Qds (fn := Tryz.f201) (by kernel_rfl) (by kernel_rfl) (by kernel_rfl)
noncomputable def K6d : Code := Tryz.f137.body.getD .skip
theorem K6e : Q7v Tryz.prog 137 := Qds (fn := Tryz.f137) (by kernel_rfl) (by kernel_rfl) (by kernel_rfl)
noncomputable def K6f : Code := Tryz.f156.body.getD .skip
theorem K6g : Q7v Tryz.prog 156 := Qds (fn := Tryz.f156) (by kernel_rfl) (by kernel_rfl) (by kernel_rfl)
noncomputable def B99 : Code := Tryz.f99.body.getD .skip
theorem K6h : Q7v Tryz.prog 99 := Qds (fn := Tryz.f99) (by kernel_rfl) (by kernel_rfl) (by kernel_rfl)
noncomputable def B74 : Code := Tryz.f74.body.getD .skip
theorem K6i : Q7v Tryz.prog 74 := Qds (fn := Tryz.f74) (by kernel_rfl) (by kernel_rfl) (by kernel_rfl)
noncomputable def B76 : Code := Tryz.f76.body.getD .skip
theorem K6j : Q7v Tryz.prog 76 := Qds (fn := Tryz.f76) (by kernel_rfl) (by kernel_rfl) (by kernel_rfl)
noncomputable def K6k : Code := Tryz.f105.body.getD .skip
theorem K6l : Q7v Tryz.prog 105 := Qds (fn := Tryz.f105) (by kernel_rfl) (by kernel_rfl) (by kernel_rfl)
noncomputable def B57 : Code := Tryz.f57.body.getD .skip
theorem K6m : Q7v Tryz.prog 57 := Qds (fn := Tryz.f57) (by kernel_rfl) (by kernel_rfl) (by kernel_rfl)
noncomputable def B95 : Code := Tryz.f95.body.getD .skip
theorem K6n : Q7v Tryz.prog 95 := Qds (fn := Tryz.f95) (by kernel_rfl) (by kernel_rfl) (by kernel_rfl)
noncomputable def K6o : Code := Tryz.f145.body.getD .skip
theorem K6p : Q7v Tryz.prog 145 := Qds (fn := Tryz.f145) (by kernel_rfl) (by kernel_rfl) (by kernel_rfl)
noncomputable def K6q : Code := Tryz.f160.body.getD .skip
theorem K6r : Q7v Tryz.prog 160 := Qds (fn := Tryz.f160) (by kernel_rfl) (by kernel_rfl) (by kernel_rfl)
noncomputable def K6s : Code := Tryz.f161.body.getD .skip
theorem K6t : Q7v Tryz.prog 161 := Qds (fn := Tryz.f161) (by kernel_rfl) (by kernel_rfl) (by kernel_rfl)
noncomputable def B89 : Code := Tryz.f89.body.getD .skip
theorem K6u : Q7v Tryz.prog 89 := Qds (fn := Tryz.f89) (by kernel_rfl) (by kernel_rfl) (by kernel_rfl)
noncomputable def K6v : Code := Tryz.f149.body.getD .skip
theorem K6w : Q7v Tryz.prog 149 := Qds (fn := Tryz.f149) (by kernel_rfl) (by kernel_rfl) (by kernel_rfl)
noncomputable def K6x : Code := Tryz.f162.body.getD .skip
theorem K6y : Q7v Tryz.prog 162 := Qds (fn := Tryz.f162) (by kernel_rfl) (by kernel_rfl) (by kernel_rfl)
noncomputable def B79 : Code := Tryz.f79.body.getD .skip
theorem K6z : Q7v Tryz.prog 79 := Qds (fn := Tryz.f79) (by kernel_rfl) (by kernel_rfl) (by kernel_rfl)
noncomputable def K70 : Code := Tryz.f157.body.getD .skip
theorem K71 : Q7v Tryz.prog 157 := Qds (fn := Tryz.f157) (by kernel_rfl) (by kernel_rfl) (by kernel_rfl)
noncomputable def K72 : Code := Tryz.f213.body.getD .skip
theorem K73 : Q7v Tryz.prog 213 := Qds (fn := Tryz.f213) (by kernel_rfl) (by kernel_rfl) (by kernel_rfl)
noncomputable def K74 : Code := Tryz.f159.body.getD .skip
theorem K75 : Q7v Tryz.prog 159 := Qds (fn := Tryz.f159) (by kernel_rfl) (by kernel_rfl) (by kernel_rfl)
noncomputable def B78 : Code := Tryz.f78.body.getD .skip
theorem K76 : Q7v Tryz.prog 78 := Qds (fn := Tryz.f78) (by kernel_rfl) (by kernel_rfl) (by kernel_rfl)
noncomputable def K77 : Code := Tryz.f217.body.getD .skip
theorem K78 : Q7v Tryz.prog 217 := Qds (fn := Tryz.f217) (by kernel_rfl) (by kernel_rfl) (by kernel_rfl)
noncomputable def K79 : Code := Tryz.f241.body.getD .skip
theorem K7a : Q7v Tryz.prog 241 := Qds (fn := Tryz.f241) (by kernel_rfl) (by kernel_rfl) (by kernel_rfl)
noncomputable def K7b : Code := Tryz.f216.body.getD .skip
theorem K7c : Q7v Tryz.prog 216 := Qds (fn := Tryz.f216) (by kernel_rfl) (by kernel_rfl) (by kernel_rfl)
noncomputable def K7d : Code := Tryz.f171.body.getD .skip
theorem K7e : Q7v Tryz.prog 171 := Qds (fn := Tryz.f171) (by kernel_rfl) (by kernel_rfl) (by kernel_rfl)
noncomputable def K7f : Code := Tryz.f188.body.getD .skip
theorem K7g : Q7v Tryz.prog 188 := Qds (fn := Tryz.f188) (by kernel_rfl) (by kernel_rfl) (by kernel_rfl)
noncomputable def K7h : Code := Tryz.f218.body.getD .skip
theorem K7i : Q7v Tryz.prog 218 := Qds (fn := Tryz.f218) (by kernel_rfl) (by kernel_rfl) (by kernel_rfl)
noncomputable def K7j : Code := Tryz.f199.body.getD .skip
theorem K7k : Q7v Tryz.prog 199 := Qds (fn := Tryz.f199) (by kernel_rfl) (by kernel_rfl) (by kernel_rfl)
noncomputable def K7l : Code := Tryz.f134.body.getD .skip
theorem K7m : Q7v Tryz.prog 134 := Qds (fn := Tryz.f134) (by kernel_rfl) (by kernel_rfl) (by kernel_rfl)
noncomputable def K7n : Code := Tryz.f172.body.getD .skip
theorem K7o : Q7v Tryz.prog 172 := Qds (fn := Tryz.f172) (by kernel_rfl) (by kernel_rfl) (by kernel_rfl)
noncomputable def K7p : Code := Tryz.f158.body.getD .skip
theorem K7q : Q7v Tryz.prog 158 := Qds (fn := Tryz.f158) (by kernel_rfl) (by kernel_rfl) (by kernel_rfl)
noncomputable def K7r : Code := Tryz.f219.body.getD .skip
theorem K7s : Q7v Tryz.prog 219 := Qds (fn := Tryz.f219) (by kernel_rfl) (by kernel_rfl) (by kernel_rfl)
noncomputable def K7t : Code := Tryz.f242.body.getD .skip
theorem K7u : Q7v Tryz.prog 242 := Qds (fn := Tryz.f242) (by kernel_rfl) (by kernel_rfl) (by kernel_rfl)
noncomputable def K7v : Code := Tryz.f220.body.getD .skip
theorem K7w : Q7v Tryz.prog 220 := Qds (fn := Tryz.f220) (by kernel_rfl) (by kernel_rfl) (by kernel_rfl)
noncomputable def K7x : Code := Tryz.f173.body.getD .skip
theorem K7y : Q7v Tryz.prog 173 := Qds (fn := Tryz.f173) (by kernel_rfl) (by kernel_rfl) (by kernel_rfl)
noncomputable def K7z : Code := Tryz.f221.body.getD .skip
theorem K80 : Q7v Tryz.prog 221 := Qds (fn := Tryz.f221) (by kernel_rfl) (by kernel_rfl) (by kernel_rfl)
noncomputable def K81 : Code := Tryz.f144.body.getD .skip
theorem K82 : Q7v Tryz.prog 144 := Qds (fn := Tryz.f144) (by kernel_rfl) (by kernel_rfl) (by kernel_rfl)
noncomputable def B88 : Code := Tryz.f88.body.getD .skip
theorem K83 : Q7v Tryz.prog 88 := Qds (fn := Tryz.f88) (by kernel_rfl) (by kernel_rfl) (by kernel_rfl)
noncomputable def K84 : Code := Tryz.f254.body.getD .skip
theorem K85 : Q7v Tryz.prog 254 := Qds (fn := Tryz.f254) (by kernel_rfl) (by kernel_rfl) (by kernel_rfl)
noncomputable def K86 : Code := Tryz.f244.body.getD .skip
theorem K87 : Q7v Tryz.prog 244 := Qds (fn := Tryz.f244) (by kernel_rfl) (by kernel_rfl) (by kernel_rfl)
noncomputable def K88 : Code := Tryz.f243.body.getD .skip
theorem K89 : Q7v Tryz.prog 243 := Qds (fn := Tryz.f243) (by kernel_rfl) (by kernel_rfl) (by kernel_rfl)
noncomputable def K8a : Code := Tryz.f245.body.getD .skip
theorem K8b : Q7v Tryz.prog 245 := Qds (fn := Tryz.f245) (by kernel_rfl) (by kernel_rfl) (by kernel_rfl)
noncomputable def K8c : Code := Tryz.f255.body.getD .skip
theorem K8d : Q7v Tryz.prog 255 := Qds (fn := Tryz.f255) (by kernel_rfl) (by kernel_rfl) (by kernel_rfl)
noncomputable def K8e : Code := Tryz.f246.body.getD .skip
theorem K8f : Q7v Tryz.prog 246 := Qds (fn := Tryz.f246) (by kernel_rfl) (by kernel_rfl) (by kernel_rfl)
noncomputable def K8g : Code := Tryz.f256.body.getD .skip
theorem K8h : Q7v Tryz.prog 256 := Qds (fn := Tryz.f256) (by kernel_rfl) (by kernel_rfl) (by kernel_rfl)
noncomputable def K8i : Code := Tryz.f193.body.getD .skip
theorem K8j : Q7v Tryz.prog 193 := Qds (fn := Tryz.f193) (by kernel_rfl) (by kernel_rfl) (by kernel_rfl)
noncomputable def K8k : Code := Tryz.f116.body.getD .skip
theorem K8l : Q7v Tryz.prog 116 := Qds (fn := Tryz.f116) (by kernel_rfl) (by kernel_rfl) (by kernel_rfl)
noncomputable def K8m : Code := Tryz.f247.body.getD .skip
theorem K8n : Q7v Tryz.prog 247 := Qds (fn := Tryz.f247) (by kernel_rfl) (by kernel_rfl) (by kernel_rfl)
noncomputable def K8o : Code := Tryz.f248.body.getD .skip
theorem K8p : Q7v Tryz.prog 248 := Qds (fn := Tryz.f248) (by kernel_rfl) (by kernel_rfl) (by kernel_rfl)
noncomputable def K8q : Code := Tryz.f249.body.getD .skip
theorem K8r : Q7v Tryz.prog 249 := Qds (fn := Tryz.f249) (by kernel_rfl) (by kernel_rfl) (by kernel_rfl)
noncomputable def K8s : Code := Tryz.f222.body.getD .skip
theorem K8t : Q7v Tryz.prog 222 := Qds (fn := Tryz.f222) (by kernel_rfl) (by kernel_rfl) (by kernel_rfl)
noncomputable def B87 : Code := Tryz.f87.body.getD .skip
theorem K8u : Q7v Tryz.prog 87 := Qds (fn := Tryz.f87) (by kernel_rfl) (by kernel_rfl) (by kernel_rfl)
noncomputable def B58 : Code := Tryz.f58.body.getD .skip
theorem K8v : Q7v Tryz.prog 58 := Qds (fn := Tryz.f58) (by kernel_rfl) (by kernel_rfl) (by kernel_rfl)
noncomputable def B23 : Code := Tryz.f23.body.getD .skip
theorem K8w : Q7v Tryz.prog 23 := Qds (fn := Tryz.f23) (by kernel_rfl) (by kernel_rfl) (by kernel_rfl)
noncomputable def K8x : Code := Tryz.f189.body.getD .skip
theorem K8y : Q7v Tryz.prog 189 := Qds (fn := Tryz.f189) (by kernel_rfl) (by kernel_rfl) (by kernel_rfl)
noncomputable def K8z : Code := Tryz.f112.body.getD .skip
theorem K90 : Q7v Tryz.prog 112 := Qds (fn := Tryz.f112) (by kernel_rfl) (by kernel_rfl) (by kernel_rfl)
noncomputable def B40 : Code := Tryz.f40.body.getD .skip
theorem K91 : Q7v Tryz.prog 40 := Qds (fn := Tryz.f40) (by kernel_rfl) (by kernel_rfl) (by kernel_rfl)
noncomputable def K92 : Code := Tryz.f127.body.getD .skip
theorem K93 : Q7v Tryz.prog 127 := Qds (fn := Tryz.f127) (by kernel_rfl) (by kernel_rfl) (by kernel_rfl)
noncomputable def K94 : Code := Tryz.f131.body.getD .skip
theorem K95 : Q7v Tryz.prog 131 := Qds (fn := Tryz.f131) (by kernel_rfl) (by kernel_rfl) (by kernel_rfl)
noncomputable def B53 : Code := Tryz.f53.body.getD .skip
theorem K96 : Q7v Tryz.prog 53 := Qds (fn := Tryz.f53) (by kernel_rfl) (by kernel_rfl) (by kernel_rfl)
noncomputable def K97 : Code := Tryz.f138.body.getD .skip
theorem K98 : Q7v Tryz.prog 138 := Qds (fn := Tryz.f138) (by kernel_rfl) (by kernel_rfl) (by kernel_rfl)
noncomputable def B59 : Code := Tryz.f59.body.getD .skip
theorem K99 : Q7v Tryz.prog 59 := Qds (fn := Tryz.f59) (by kernel_rfl) (by kernel_rfl) (by kernel_rfl)
noncomputable def B10 : Code := Tryz.f10.body.getD .skip
theorem K9a : Q7v Tryz.prog 10 := Qds (fn := Tryz.f10) (by kernel_rfl) (by kernel_rfl) (by kernel_rfl)

abbrev TL := List (Nat × AV)
abbrev OL := List (Nat × Q09)
abbrev PLN := Option (List (List Nat))
abbrev RL := List (Option Orc)
abbrev LL := List (List Int)
section
variable {c : Ctx} {code : Code} {Q : Exit → Q0a → Prop} {σ S : Q0a} {nt : Nat} {T : TL} {O : OL}
def evq (code : Code) (nt : Nat) (ah : PLN) (r : RL) (T : TL) (O : OL) (T' : TL) (O' : OL) : Nat × Option (TL × OL) × Prop × Bool := (Qcs code, (Qbo TIx Tryz.prog nt (Qco code) ah r T O (T'.map (·.1)) (O'.map (·.1))).map (fun r => (r.T, Qbq r.O)), Qde (Qbo TIx Tryz.prog nt (Qco code) ah r T O (T'.map (·.1)) (O'.map (·.1))), (!Qcp code && ah.isNone) || ah.isSome)
def evs (code : Code) (nt : Nat) (ah : PLN) (r : RL) (T : TL) (O : OL) (T' : TL) (O' : OL) : Nat × Nat × Option (TL × OL) × Prop × Bool := (Qcs code, evq (cl code) nt ah r T O T' O')
theorem rg {A : Prop} (hnt : c.nt = nt) (ah : PLN) (r : RL) (T' : TL) (O' : OL) (h : A) (hQ : Q .normal (mkS T' O')) (e : evq code nt ah r T O T' O' = (0, some (T', O'), A, true) := by kernel_rfl) : Wp Tryz.prog c code Q (mkS T O) :=
  Wp.reg K3a mix hnt (congrArg (fun p => Nat.beq p.1 0) e) (congrArg (·.2.1) e) h (congrArg (·.2.2.1) e).symm (congrArg (·.2.2.2) e) hQ
theorem rs {A : Prop} (hnt : c.nt = nt) (ah : PLN) (r : RL) (T' : TL) (O' : OL) (h : A) (hQ : Wp Tryz.prog c (cr code) Q (mkS T' O')) (e : evs code nt ah r T O T' O' = (1, 0, some (T', O'), A, true) := by kernel_rfl) : Wp Tryz.prog c code Q (mkS T O) :=
  Wp.seqN (congrArg (fun p => Nat.beq p.1 1) e) (rg hnt ah r T' O' h (Qd4 hQ) (congrArg (·.2) e))
def mb (t : Nat) : List Nat → Bool
  | [] => false
  | k :: r => bif Nat.beq t k then true else mb t r
def dk (D : List Nat) : TL → TL
  | [] => []
  | p :: r => bif mb p.1 D then dk D r else p :: dk D r
def dp (D : List Nat) : TL → TL → TL
  | [], T => dk D T
  | p :: N, T => p :: dp D N T
theorem rg0 (hnt : c.nt = nt) (n : Nat) (T' : TL) (O' : OL) (hQ : Q .normal (mkS T' O')) (e : evq code nt none (List.replicate n (some .no)) T O T' O' = (0, some (T', O'), True, true) := by kernel_rfl) : Wp Tryz.prog c code Q (mkS T O) := rg hnt none (List.replicate n (some .no)) T' O' trivial hQ e
theorem rgs {A : Prop} (hnt : c.nt = nt) (ah : PLN) (r : RL) (T' : TL) (h : A) (hQ : Q .normal (mkS T' O)) (e : evq code nt ah r T O T' O = (0, some (T', O), A, true) := by kernel_rfl) : Wp Tryz.prog c code Q (mkS T O) := rg hnt ah r T' O h hQ e
theorem K9b (hnt : c.nt = nt) (n : Nat) (T' : TL) (hQ : Q .normal (mkS T' O)) (e : evq code nt none (List.replicate n (some .no)) T O T' O = (0, some (T', O), True, true) := by kernel_rfl) : Wp Tryz.prog c code Q (mkS T O) := rg hnt none (List.replicate n (some .no)) T' O trivial hQ e
theorem rgd {A : Prop} (hnt : c.nt = nt) (ah : PLN) (r : RL) (D : List Nat) (N : TL) (O' : OL) (h : A) (hQ : Q .normal (mkS (dp D N T) O')) (e : evq code nt ah r T O (dp D N T) O' = (0, some ((dp D N T), O'), A, true) := by kernel_rfl) : Wp Tryz.prog c code Q (mkS T O) := rg hnt ah r (dp D N T) O' h hQ e
theorem K9c (hnt : c.nt = nt) (n : Nat) (D : List Nat) (N : TL) (O' : OL) (hQ : Q .normal (mkS (dp D N T) O')) (e : evq code nt none (List.replicate n (some .no)) T O (dp D N T) O' = (0, some ((dp D N T), O'), True, true) := by kernel_rfl) : Wp Tryz.prog c code Q (mkS T O) := rg hnt none (List.replicate n (some .no)) (dp D N T) O' trivial hQ e
theorem K9d {A : Prop} (hnt : c.nt = nt) (ah : PLN) (r : RL) (D : List Nat) (N : TL) (h : A) (hQ : Q .normal (mkS (dp D N T) O)) (e : evq code nt ah r T O (dp D N T) O = (0, some ((dp D N T), O), A, true) := by kernel_rfl) : Wp Tryz.prog c code Q (mkS T O) := rg hnt ah r (dp D N T) O h hQ e
theorem K9e (hnt : c.nt = nt) (n : Nat) (D : List Nat) (N : TL) (hQ : Q .normal (mkS (dp D N T) O)) (e : evq code nt none (List.replicate n (some .no)) T O (dp D N T) O = (0, some ((dp D N T), O), True, true) := by kernel_rfl) : Wp Tryz.prog c code Q (mkS T O) := rg hnt none (List.replicate n (some .no)) (dp D N T) O trivial hQ e
theorem rs0 (hnt : c.nt = nt) (n : Nat) (T' : TL) (O' : OL) (hQ : Wp Tryz.prog c (cr code) Q (mkS T' O')) (e : evs code nt none (List.replicate n (some .no)) T O T' O' = (1, 0, some (T', O'), True, true) := by kernel_rfl) : Wp Tryz.prog c code Q (mkS T O) := rs hnt none (List.replicate n (some .no)) T' O' trivial hQ e
theorem rss {A : Prop} (hnt : c.nt = nt) (ah : PLN) (r : RL) (T' : TL) (h : A) (hQ : Wp Tryz.prog c (cr code) Q (mkS T' O)) (e : evs code nt ah r T O T' O = (1, 0, some (T', O), A, true) := by kernel_rfl) : Wp Tryz.prog c code Q (mkS T O) := rs hnt ah r T' O h hQ e
theorem K9f (hnt : c.nt = nt) (n : Nat) (T' : TL) (hQ : Wp Tryz.prog c (cr code) Q (mkS T' O)) (e : evs code nt none (List.replicate n (some .no)) T O T' O = (1, 0, some (T', O), True, true) := by kernel_rfl) : Wp Tryz.prog c code Q (mkS T O) := rs hnt none (List.replicate n (some .no)) T' O trivial hQ e
theorem rsd {A : Prop} (hnt : c.nt = nt) (ah : PLN) (r : RL) (D : List Nat) (N : TL) (O' : OL) (h : A) (hQ : Wp Tryz.prog c (cr code) Q (mkS (dp D N T) O')) (e : evs code nt ah r T O (dp D N T) O' = (1, 0, some ((dp D N T), O'), A, true) := by kernel_rfl) : Wp Tryz.prog c code Q (mkS T O) := rs hnt ah r (dp D N T) O' h hQ e
theorem K9g (hnt : c.nt = nt) (n : Nat) (D : List Nat) (N : TL) (O' : OL) (hQ : Wp Tryz.prog c (cr code) Q (mkS (dp D N T) O')) (e : evs code nt none (List.replicate n (some .no)) T O (dp D N T) O' = (1, 0, some ((dp D N T), O'), True, true) := by kernel_rfl) : Wp Tryz.prog c code Q (mkS T O) := rs hnt none (List.replicate n (some .no)) (dp D N T) O' trivial hQ e
theorem K9h {A : Prop} (hnt : c.nt = nt) (ah : PLN) (r : RL) (D : List Nat) (N : TL) (h : A) (hQ : Wp Tryz.prog c (cr code) Q (mkS (dp D N T) O)) (e : evs code nt ah r T O (dp D N T) O = (1, 0, some ((dp D N T), O), A, true) := by kernel_rfl) : Wp Tryz.prog c code Q (mkS T O) := rs hnt ah r (dp D N T) O h hQ e
theorem K9i (hnt : c.nt = nt) (n : Nat) (D : List Nat) (N : TL) (hQ : Wp Tryz.prog c (cr code) Q (mkS (dp D N T) O)) (e : evs code nt none (List.replicate n (some .no)) T O (dp D N T) O = (1, 0, some ((dp D N T), O), True, true) := by kernel_rfl) : Wp Tryz.prog c code Q (mkS T O) := rs hnt none (List.replicate n (some .no)) (dp D N T) O trivial hQ e
theorem ri {T' : TL} {O' : OL} {A : Prop} (hnt : c.nt = nt) (ah : PLN) (r : RL) (h : A) (hQ : Q .normal (mkS T' O')) (e : evq code nt ah r T O T' O' = (0, some (T', O'), A, true) := by kernel_rfl) : Wp Tryz.prog c code Q (mkS T O) := rg hnt ah r T' O' h hQ e
theorem ri0 {T' : TL} {O' : OL} (hnt : c.nt = nt) (n : Nat) (hQ : Q .normal (mkS T' O')) (e : evq code nt none (List.replicate n (some .no)) T O T' O' = (0, some (T', O'), True, true) := by kernel_rfl) : Wp Tryz.prog c code Q (mkS T O) := rg hnt none (List.replicate n (some .no)) T' O' trivial hQ e
theorem rj {T' : TL} {O' : OL} {A : Prop} (hnt : c.nt = nt) (ah : PLN) (r : RL) (h : A) (hQ : Q .normal (mkS T' O') := by exact Qdf.mk) (e : evq code nt ah r T O T' O' = (0, some (T', O'), A, true) := by kernel_rfl) : Wp Tryz.prog c code Q (mkS T O) := rg hnt ah r T' O' h hQ e
theorem rj0 {T' : TL} {O' : OL} (hnt : c.nt = nt) (n : Nat) (hQ : Q .normal (mkS T' O') := by exact Qdf.mk) (e : evq code nt none (List.replicate n (some .no)) T O T' O' = (0, some (T', O'), True, true) := by kernel_rfl) : Wp Tryz.prog c code Q (mkS T O) := rg hnt none (List.replicate n (some .no)) T' O' trivial hQ e
theorem wi (D : List Nat) (N : TL) (h1 : Wp Tryz.prog c code (Qdf c .normal (mkS (dp D N T) O)) (mkS T O)) (h2 : Q .normal (mkS (dp D N T) O)) : Wp Tryz.prog c code Q (mkS T O) := Wp.into _ h1 h2
theorem wf {x : Exit} (h1 : Wp Tryz.prog c code (Qdf c x S) σ) (h2 : Q x S) : Wp Tryz.prog c code Q σ := Wp.into S h1 h2
theorem wl {x : Exit} (h1 : WpL Tryz.prog c code (Qdf c x S) σ) (h2 : Q x S) : WpL Tryz.prog c code Q σ := WpL.into S h1 h2
theorem vz (k : Nat) {xs xs' : List AV} (hs : Q02 xs = xs') (T' : TL) (O' : OL) (h : Wp Tryz.prog c code Q (mkS T' O')) (hO : lkO O k = some (.arr xs) := by kernel_rfl)
    (hT : T.map (fun p => (p.1, frz k (.sl xs') p.2)) = T' := by kernel_rfl) (hO' : ((O.filter fun p => !Nat.beq p.1 k).map fun p => (p.1, Qa9 k (.sl xs') p.2)) = O' := by kernel_rfl) : Wp Tryz.prog c code Q (mkS T O) := Wp.view (fun _ _ hv => SRx.frzL k hv hO hs hT hO') h
theorem vb (k : Nat) (cs : List AV) (T' : TL) (O' : OL) (h : Wp Tryz.prog c code Q (mkS T' O')) (hO : lkO O k = some (.box cs) := by kernel_rfl) (hp : cs.all plain = true := by kernel_rfl)
    (hT : T.map (fun p => (p.1, frb k (cs.map nzC) p.2)) = T' := by kernel_rfl) (hO' : ((O.filter fun p => !Nat.beq p.1 k).map fun p => (p.1, Qfa k (cs.map nzC) p.2)) = O' := by kernel_rfl) : Wp Tryz.prog c code Q (mkS T O) := Wp.view (fun _ _ hv => SRx.frbL k (cs := cs) hv hO hp hT hO') h
theorem bk (i : Nat) (h : Wp Tryz.prog c (cl code) (Qd2 i Q) σ) (hk : (Nat.beq (Qcs code) 3 && Nat.beq (Qcq code) i) = true := by kernel_rfl) : Wp Tryz.prog c code Q σ := Wp.blockN hk h
theorem xt (i : Nat) (h : Q (.exit i) σ) (hk : (Nat.beq (Qcs code) 5 && Nat.beq (Qcq code) i) = true := by kernel_rfl) : Wp Tryz.prog c code Q σ := Wp.exitN hk h
theorem lp (h : WpL Tryz.prog c (cl code) Q σ) (hk : Nat.beq (Qcs code) 4 = true := by kernel_rfl) : Wp Tryz.prog c code Q σ := Wp.loopN hk h
theorem rt (h : Q .ret σ) (hk : Nat.beq (Qcs code) 6 = true := by kernel_rfl) : Wp Tryz.prog c code Q σ := Wp.retN hk h
theorem sk (h : Q .normal σ) (hk : Nat.beq (Qcs code) 7 = true := by kernel_rfl) : Wp Tryz.prog c code Q σ := Wp.skipN hk h
theorem sN (h : Wp Tryz.prog c (cl code) (Qd1 Tryz.prog c (cr code) Q) σ) (hk : Nat.beq (Qcs code) 1 = true := by kernel_rfl) : Wp Tryz.prog c code Q σ := Wp.seqN hk h
theorem ic {α : Type} {b : Bool} {x y : Option α} {r : α} (h : (if b = true then x else y) = some r) (hT : b = true → x = some r → Wp Tryz.prog c (cl code) Q σ) (hF : b = false → y = some r → Wp Tryz.prog c (cr code) Q σ)
    (hk : Nat.beq (Qcs code) 2 = true := by kernel_rfl) (hx : opv σ (Qcr code) = .bool b := by kernel_rfl) : Wp Tryz.prog c code Q σ := (Qdu h).elim (fun q => Wp.condT hk hx q.1 (hT q.1 q.2)) (fun q => Wp.condF hk hx q.1 (hF q.1 q.2))
theorem cT (b : Bool) (hb : b = true) (h1 : Wp Tryz.prog c (cl code) Q σ) (hk : Nat.beq (Qcs code) 2 = true := by kernel_rfl) (hx : opv σ (Qcr code) = .bool b := by kernel_rfl) : Wp Tryz.prog c code Q σ := Wp.condT hk hx hb h1
theorem cF (b : Bool) (hb : b = false) (h1 : Wp Tryz.prog c (cr code) Q σ) (hk : Nat.beq (Qcs code) 2 = true := by kernel_rfl) (hx : opv σ (Qcr code) = .bool b := by kernel_rfl) : Wp Tryz.prog c code Q σ := Wp.condF hk hx hb h1
end
theorem b0 {f : FuncId} (fn : Func) (code : Code) {args : List AV} {res : AV} (nt : Nat) (T : TL) (h : ∀ c : Ctx, c.nt = nt → Wp Tryz.prog c code (Qdl TIx fn [] res) (mkS T [])) (hf : Tryz.prog.funcs[f]? = some fn := by kernel_rfl) (hb : fn.body = some code := by kernel_rfl) (hok : Qby args = true := by kernel_rfl) (ha : args.all (fun x => !Qdm x) = true := by kernel_rfl)
    (hnt : Nat.beq fn.ntmps nt = true := by kernel_rfl) (hle : Nat.ble args.length nt = true := by kernel_rfl) (hT : Qbw args = T := by kernel_rfl) (hO : Qbx args = [] := by kernel_rfl) : Q75 Tryz.prog f args res [] := Q75.body0 K3a hf hb hok ha hnt hle hT hO h
theorem iv {c : Ctx} {x : Exit} (ρ : List (Nat × Nat)) {T T' : TL} {O O' : OL} (hT : (T'.map fun p => rn (rnk ρ) p.2) = T'.map fun p => lk .undef T p.1 := by kernel_rfl)
    (hO : (O'.map fun p => some (rnO (rnk ρ) p.2)) = O'.map fun p => lkO O (rnk ρ p.1) := by kernel_rfl) (hB : Qdh ρ O' = true := by kernel_rfl) : Qdf c x (mkS T' O') x (mkS T O) := Qdf.view (fun _ _ hv => SRx.renL ρ hv hT hO hB)
theorem im {c : Ctx} {x : Exit} {T T' : TL} {O : OL} (hT : (T'.map fun p => lk .undef T p.1) = T'.map (·.2) := by kernel_rfl) : Qdf c x (mkS T' O) x (mkS T O) :=
  ⟨rfl, fun _ _ h => h.le (fun t => (Qbe AV.undef T' t).imp (fun e => e) (fun ⟨p, hp, h1, h2⟩ => h2.trans (h1 ▸ (List.map_inj_left.1 hT p hp).symm))) (fun _ => .inr rfl)⟩
theorem re {fn : Func} {args : List AV} (fl : List Bool) {T : TL} {O : OL} {res : AV} (h : Qdk TIx fn args fl T O = some res := by kernel_rfl) : Qdo TIx fn args res .ret (mkS T O) := Qdo.ret h
theorem rq {fn : Func} {args : List AV} (fl : List Bool) {T : TL} {O : OL} {res : AV} (h : Qdk TIx fn args fl T O = some res := by kernel_rfl) : Qdl TIx fn args res .ret (mkS T O) := Qdl.ret h
theorem rp {fn : Func} {args : List AV} (fl : List Bool) {T : TL} {O : OL} {r : AV × List AV} (h : Qdp TIx fn args fl T O = some r := by kernel_rfl) : Qdr TIx fn args r .ret (mkS T O) := Qdr.ret h
theorem rr {fn : Func} {args : List AV} (fl : List Bool) {T : TL} {O : OL} {r : AV × List AV} (h : Qdp TIx fn args fl T O = some r := by kernel_rfl) : Qdq TIx fn args r .ret (mkS T O) := Qdq.ret h
abbrev sL (l : List (List Int)) : AV := .sl (List.map K14 l)
abbrev rI (l : List Int) : Q09 := .arr (List.map I l)
abbrev oI (l : List Int) : AV := .osl (List.map I l)
abbrev sI (l : List Int) : AV := .sl (List.map I l)
abbrev sB (l : List Bool) : AV := .sl (List.map AV.bool l)
abbrev sM {α : Type} (e : α → AV) (l : List α) : AV := .sl (List.map e l)
abbrev rM {α : Type} (e : α → AV) (l : List α) : Q09 := .arr (List.map e l)
abbrev oM {α : Type} (e : α → AV) (l : List α) : AV := .osl (List.map e l)
abbrev zT : Q09 := .box [I 0, I 0, .nils, .nils]
abbrev zS : Q09 := .box [I 0, .nils, .nils, .nils]
theorem fF : false = false := rfl
theorem tt : true = true := rfl
theorem nf : true ≠ false := fun h => nomatch h
theorem ix {e : List Int} {i : Int} {x : Int} (h : idx e i = some x) : 0 ≤ i ∧ (e.map I)[i.toNat]? = some (.int .i64 x) := Qdx (enc := I) (x := .int .i64 x) h (Qe8 x)
theorem xL {e : List (List Int)} {i : Int} {x : List Int} (h : idx e i = some x) : 0 ≤ i ∧ (e.map K14)[i.toNat]? = some (.sl (List.map I x)) := Qdx (enc := K14) (x := .sl (List.map I x)) h (K15 x)
theorem xB {e : List Bool} {i : Int} {x : Bool} (h : idx e i = some x) : 0 ≤ i ∧ (e.map AV.bool)[i.toNat]? = some (.bool x) := Qdx (enc := AV.bool) (x := .bool x) h (Qea x)
def rep : Nat → Prop → Prop → Prop
  | 0, _, b => b
  | n + 1, a, b => a ∧ rep n a b
theorem ar {a b : Prop} : ∀ (n : Nat) (x : a) (y : b), rep n a b
  | 0, _, y => y
  | n + 1, x, y => ⟨x, ar n x y⟩
theorem is {α : Type} {b : Bool} {x y : Option α} {r : α} (h : (if b = true then x else y) = some r) : (b = true ∧ x = some r) ∨ (b = false ∧ y = some r) := Qdu h
theorem os {α : Type} {a b : α} (h : some a = some b) : a = b := Option.some.inj h
def rx (l : List (List Nat)) : PLN := some (l.map fun r => match r with | n :: e => List.range n ++ e | [] => [])
def rh (l : List Nat) : PLN := some (l.map List.range)
theorem ai {a b : Prop} (x : a) (y : b) : a ∧ b := ⟨x, y⟩
theorem oi (v : AV) : ([] : List Nat) = [] ∨ noSh v = true := Or.inl rfl
theorem ab {a b r : Prop} (x : a) (y : b) (t : r) : a ∧ b ∧ r := ⟨x, y, t⟩
theorem ac {a b c r : Prop} (x : a) (y : b) (z : c) (t : r) : a ∧ b ∧ c ∧ r := ⟨x, y, z, t⟩
theorem ad {a b c d r : Prop} (x : a) (y : b) (z : c) (w : d) (t : r) : a ∧ b ∧ c ∧ d ∧ r := ⟨x, y, z, w, t⟩
theorem cq {P : Program} {f : FuncId} {xs : List AV} {os : List AV} {v : AV} {b r : Prop} (x : Q75 P f xs v os) (y : b) (t : r) : Q75 P f xs v os ∧ b ∧ (([] : List Nat) = [] ∨ noSh v = true) ∧ r := ⟨x, y, Or.inl rfl, t⟩
abbrev tv : True := trivial
theorem bq2 {α β γ : Type} {x : Option α} {f : α → Option β} {g : α → β → Option γ} {r : γ} (h : (x >>= fun a => f a >>= fun b => g a b) = some r) : ∃ a, x = some a ∧ ∃ b, f a = some b ∧ g a b = some r := let ⟨a, ha, h⟩ := Qdt h; let ⟨b, hb, h⟩ := Qdt h; ⟨a, ha, b, hb, h⟩
theorem bq3 {α β γ δ : Type} {x : Option α} {f : α → Option β} {g : α → β → Option γ} {k : α → β → γ → Option δ} {r : δ} (h : (x >>= fun a => f a >>= fun b => g a b >>= fun c => k a b c) = some r) : ∃ a, x = some a ∧ ∃ b, f a = some b ∧ ∃ c, g a b = some c ∧ k a b c = some r := let ⟨a, ha, b, hb, h⟩ := bq2 h; let ⟨c, hc, h⟩ := Qdt h; ⟨a, ha, b, hb, c, hc, h⟩
theorem bq4 {α β γ δ ε : Type} {x : Option α} {f : α → Option β} {g : α → β → Option γ} {k : α → β → γ → Option δ} {l : α → β → γ → δ → Option ε} {r : ε} (h : (x >>= fun a => f a >>= fun b => g a b >>= fun c => k a b c >>= fun d => l a b c d) = some r) : ∃ a, x = some a ∧ ∃ b, f a = some b ∧ ∃ c, g a b = some c ∧ ∃ d, k a b c = some d ∧ l a b c d = some r := let ⟨a, ha, b, hb, c, hc, h⟩ := bq3 h; let ⟨d, hd, h⟩ := Qdt h; ⟨a, ha, b, hb, c, hc, d, hd, h⟩
abbrev oN : Option Orc := some .no
abbrev oF : Option Orc := some (.cond false)
abbrev oT : Option Orc := some (.cond true)
abbrev o_ : Option Orc := none
abbrev nN (k : Nat) (l : RL) : RL := List.replicate k oN ++ l
abbrev n_ (k : Nat) (l : RL) : RL := List.replicate k o_ ++ l
abbrev oc (v : AV) : Option Orc := some (.call v [] 1)
abbrev eL (v : AV) : Option Orc := some (.el v)
abbrev eB (b : Bool) : Option Orc := some (.el (.bool b))
abbrev nW (k : Nat) : Option Orc := some (.new k)
abbrev mK (k : Nat) : Option Orc := some (.mk k true)
abbrev nQ (w : Wr) : Option Orc := some (.eqv .no w)
end Go.Am
