/- The table of types, and the bodies. Printed by a program of mine (gen.py). -/
import Derived.Test.YtckgdfakjjdodaaGreatGWITy
import Derived.Test.YtckgdfakjjdodaaGreatChecked
set_option linter.unusedVariables false
set_option linter.unusedSimpArgs false
set_option maxRecDepth 100000
namespace Go.Am
open Go Go.Proofs
def tis : List (Nat × Q1o) := [(22, ⟨.slice 5, 1, 24, .nils⟩),
  (4, ⟨.bool, 1, 1, .bool false⟩),
  (27, ⟨.struct [(0, 3), (1, 24), (2, 24), (3, 25)], 4, 80, .agg [.int .i64 0, .nils, .nils, .nils]⟩),
  (67, ⟨.slice 24, 1, 24, .nils⟩),
  (32, ⟨.struct [(0, 3), (1, 3), (2, 24), (3, 30)], 4, 64, .agg [.int .i64 0, .int .i64 0, .nils, .nils]⟩),
  (83, ⟨.pointer 139, 1, 8, .nilp⟩),
  (5, ⟨.int .u8, 1, 1, .int .u8 0⟩),
  (3, ⟨.int .i64, 1, 8, .int .i64 0⟩),
  (139, ⟨.struct [(0, 22), (1, 3), (2, 3)], 3, 40, .agg [.nils, .int .i64 0, .int .i64 0]⟩),
  (24, ⟨.slice 3, 1, 24, .nils⟩),
  (25, ⟨.slice 4, 1, 24, .nils⟩),
  (30, ⟨.slice 32, 1, 24, .nils⟩),
  (172, ⟨.struct [(0, 24), (1, 24), (2, 3), (3, 24)], 4, 80, .agg [.nils, .nils, .int .i64 0, .nils]⟩),
  (96, ⟨.pointer 100, 1, 8, .nilp⟩),
  (91, ⟨.other, 1, 8, .raw .nilFunc⟩),
  (120, ⟨.other, 1, 8, .raw .nilFunc⟩),
  (162, ⟨.struct [(0, 9), (1, 3), (2, 4), (3, 4)], 4, 32, .agg [.str ByteArray.empty, .int .i64 0, .bool false, .bool false]⟩),
  (9, ⟨.string, 1, 16, .str ByteArray.empty⟩),
  (186, ⟨.slice 162, 1, 24, .nils⟩),
  (154, ⟨.struct [(0, 27)], 4, 80, .agg [.int .i64 0, .nils, .nils, .nils]⟩),
  (100, ⟨.struct [(0, 24), (1, 24), (2, 98), (3, 3), (4, 24)], 5, 104, .agg [.nils, .nils, .nils, .int .i64 0, .nils]⟩),
  (98, ⟨.slice 96, 1, 24, .nils⟩),
  (196, ⟨.slice 67, 1, 24, .nils⟩),
  (109, ⟨.other, 1, 8, .raw .nilFunc⟩)]
def TIx : Nat → Option Q1o := lk none (tis.map fun p => (p.1, some p.2))
theorem K2p : Q1w Tryz.prog 22 ⟨.slice 5, 1, 24, .nils⟩ := ⟨by kernel_rfl, by kernel_rfl, by kernel_rfl, by kernel_rfl⟩
theorem K2q : Q1w Tryz.prog 4 ⟨.bool, 1, 1, .bool false⟩ := ⟨by kernel_rfl, by kernel_rfl, by kernel_rfl, by kernel_rfl⟩
theorem K2r : Q1w Tryz.prog 27 ⟨.struct [(0, 3), (1, 24), (2, 24), (3, 25)], 4, 80, .agg [.int .i64 0, .nils, .nils, .nils]⟩ := ⟨by kernel_rfl, by kernel_rfl, by kernel_rfl, by kernel_rfl⟩
theorem K2s : Q1w Tryz.prog 67 ⟨.slice 24, 1, 24, .nils⟩ := ⟨by kernel_rfl, by kernel_rfl, by kernel_rfl, by kernel_rfl⟩
theorem K2t : Q1w Tryz.prog 32 ⟨.struct [(0, 3), (1, 3), (2, 24), (3, 30)], 4, 64, .agg [.int .i64 0, .int .i64 0, .nils, .nils]⟩ := ⟨by kernel_rfl, by kernel_rfl, by kernel_rfl, by kernel_rfl⟩
theorem K2u : Q1w Tryz.prog 83 ⟨.pointer 139, 1, 8, .nilp⟩ := ⟨by kernel_rfl, by kernel_rfl, by kernel_rfl, by kernel_rfl⟩
theorem K2v : Q1w Tryz.prog 5 ⟨.int .u8, 1, 1, .int .u8 0⟩ := ⟨by kernel_rfl, by kernel_rfl, by kernel_rfl, by kernel_rfl⟩
theorem K2w : Q1w Tryz.prog 3 ⟨.int .i64, 1, 8, .int .i64 0⟩ := ⟨by kernel_rfl, by kernel_rfl, by kernel_rfl, by kernel_rfl⟩
theorem K2x : Q1w Tryz.prog 139 ⟨.struct [(0, 22), (1, 3), (2, 3)], 3, 40, .agg [.nils, .int .i64 0, .int .i64 0]⟩ := ⟨by kernel_rfl, by kernel_rfl, by kernel_rfl, by kernel_rfl⟩
theorem K2y : Q1w Tryz.prog 24 ⟨.slice 3, 1, 24, .nils⟩ := ⟨by kernel_rfl, by kernel_rfl, by kernel_rfl, by kernel_rfl⟩
theorem K2z : Q1w Tryz.prog 25 ⟨.slice 4, 1, 24, .nils⟩ := ⟨by kernel_rfl, by kernel_rfl, by kernel_rfl, by kernel_rfl⟩
theorem K30 : Q1w Tryz.prog 30 ⟨.slice 32, 1, 24, .nils⟩ := ⟨by kernel_rfl, by kernel_rfl, by kernel_rfl, by kernel_rfl⟩
theorem K31 : Q1w Tryz.prog 172 ⟨.struct [(0, 24), (1, 24), (2, 3), (3, 24)], 4, 80, .agg [.nils, .nils, .int .i64 0, .nils]⟩ := ⟨by kernel_rfl, by kernel_rfl, by kernel_rfl, by kernel_rfl⟩
theorem K32 : Q1w Tryz.prog 96 ⟨.pointer 100, 1, 8, .nilp⟩ := ⟨by kernel_rfl, by kernel_rfl, by kernel_rfl, by kernel_rfl⟩
theorem K33 : Q1w Tryz.prog 91 ⟨.other, 1, 8, .raw .nilFunc⟩ := ⟨by kernel_rfl, by kernel_rfl, by kernel_rfl, by kernel_rfl⟩
theorem K34 : Q1w Tryz.prog 120 ⟨.other, 1, 8, .raw .nilFunc⟩ := ⟨by kernel_rfl, by kernel_rfl, by kernel_rfl, by kernel_rfl⟩
theorem K35 : Q1w Tryz.prog 162 ⟨.struct [(0, 9), (1, 3), (2, 4), (3, 4)], 4, 32, .agg [.str ByteArray.empty, .int .i64 0, .bool false, .bool false]⟩ := ⟨by kernel_rfl, by kernel_rfl, by kernel_rfl, by kernel_rfl⟩
theorem K36 : Q1w Tryz.prog 9 ⟨.string, 1, 16, .str ByteArray.empty⟩ := ⟨by kernel_rfl, by kernel_rfl, by kernel_rfl, by kernel_rfl⟩
theorem K37 : Q1w Tryz.prog 186 ⟨.slice 162, 1, 24, .nils⟩ := ⟨by kernel_rfl, by kernel_rfl, by kernel_rfl, by kernel_rfl⟩
theorem K38 : Q1w Tryz.prog 154 ⟨.struct [(0, 27)], 4, 80, .agg [.int .i64 0, .nils, .nils, .nils]⟩ := ⟨by kernel_rfl, by kernel_rfl, by kernel_rfl, by kernel_rfl⟩
theorem K39 : Q1w Tryz.prog 100 ⟨.struct [(0, 24), (1, 24), (2, 98), (3, 3), (4, 24)], 5, 104, .agg [.nils, .nils, .nils, .int .i64 0, .nils]⟩ := ⟨by kernel_rfl, by kernel_rfl, by kernel_rfl, by kernel_rfl⟩
theorem K3a : Q1w Tryz.prog 98 ⟨.slice 96, 1, 24, .nils⟩ := ⟨by kernel_rfl, by kernel_rfl, by kernel_rfl, by kernel_rfl⟩
theorem K3b : Q1w Tryz.prog 196 ⟨.slice 67, 1, 24, .nils⟩ := ⟨by kernel_rfl, by kernel_rfl, by kernel_rfl, by kernel_rfl⟩
theorem K3c : Q1w Tryz.prog 109 ⟨.other, 1, 8, .raw .nilFunc⟩ := ⟨by kernel_rfl, by kernel_rfl, by kernel_rfl, by kernel_rfl⟩
theorem K3d : Q1x Tryz.prog TIx := Q1x.of_list tis (by
  intro p hp
  simp only [tis, List.mem_cons, List.not_mem_nil, or_false] at hp
  rcases hp with rfl | rfl | rfl | rfl | rfl | rfl | rfl | rfl | rfl | rfl | rfl | rfl | rfl | rfl | rfl | rfl | rfl | rfl | rfl | rfl | rfl | rfl | rfl | rfl
  · exact K2p
  · exact K2q
  · exact K2r
  · exact K2s
  · exact K2t
  · exact K2u
  · exact K2v
  · exact K2w
  · exact K2x
  · exact K2y
  · exact K2z
  · exact K30
  · exact K31
  · exact K32
  · exact K33
  · exact K34
  · exact K35
  · exact K36
  · exact K37
  · exact K38
  · exact K39
  · exact K3a
  · exact K3b
  · exact K3c)
theorem mix : Tryz.prog.follows .mixedOrders = true := Tryz.checked.mixed
noncomputable def B14 : Code := Tryz.f14.body.getD .skip
theorem K3e : Q7x Tryz.prog 14 := Qe4 (fn := Tryz.f14) (by kernel_rfl) (by kernel_rfl) (by kernel_rfl)
noncomputable def B71 : Code := Tryz.f71.body.getD .skip
theorem K3f : Q7x Tryz.prog 71 := Qe4 (fn := Tryz.f71) (by kernel_rfl) (by kernel_rfl) (by kernel_rfl)
noncomputable def K3g : Code := Tryz.f123.body.getD .skip
theorem K3h : Q7x Tryz.prog 123 := Qe4 (fn := Tryz.f123) (by kernel_rfl) (by kernel_rfl) (by kernel_rfl)
noncomputable def K3i : Code := Tryz.f110.body.getD .skip
theorem K3j : Q7x Tryz.prog 110 := Qe4 (fn := Tryz.f110) (by kernel_rfl) (by kernel_rfl) (by kernel_rfl)
noncomputable def K3k : Code := Tryz.f174.body.getD .skip
theorem K3l : Q7x Tryz.prog 174 := Qe4 (fn := Tryz.f174) (by kernel_rfl) (by kernel_rfl) (by kernel_rfl)
noncomputable def B90 : Code := Tryz.f90.body.getD .skip
theorem K3m : Q7x Tryz.prog 90 := Qe4 (fn := Tryz.f90) (by kernel_rfl) (by kernel_rfl) (by kernel_rfl)
noncomputable def B73 : Code := Tryz.f73.body.getD .skip
theorem K3n : Q7x Tryz.prog 73 := Qe4 (fn := Tryz.f73) (by kernel_rfl) (by kernel_rfl) (by kernel_rfl)
noncomputable def K3o : Code := Tryz.f119.body.getD .skip
theorem K3p : Q7x Tryz.prog 119 := Qe4 (fn := Tryz.f119) (by kernel_rfl) (by kernel_rfl) (by kernel_rfl)
noncomputable def K3q : Code := Tryz.f121.body.getD .skip
theorem K3r : Q7x Tryz.prog 121 := Qe4 (fn := Tryz.f121) (by kernel_rfl) (by kernel_rfl) (by kernel_rfl)
noncomputable def K3s : Code := Tryz.f152.body.getD .skip
theorem K3t : Q7x Tryz.prog 152 := Qe4 (fn := Tryz.f152) (by kernel_rfl) (by kernel_rfl) (by kernel_rfl)
noncomputable def B47 : Code := Tryz.f47.body.getD .skip
theorem K3u : Q7x Tryz.prog 47 := Qe4 (fn := Tryz.f47) (by kernel_rfl) (by kernel_rfl) (by kernel_rfl)
noncomputable def K3v : Code := Tryz.f100.body.getD .skip
theorem K3w : Q7x Tryz.prog 100 := Qe4 (fn := Tryz.f100) (by kernel_rfl) (by kernel_rfl) (by kernel_rfl)
noncomputable def K3x : Code := Tryz.f153.body.getD .skip
theorem K3y : Q7x Tryz.prog 153 := Qe4 (fn := Tryz.f153) (by kernel_rfl) (by kernel_rfl) (by kernel_rfl)
noncomputable def K3z : Code := Tryz.f163.body.getD .skip
theorem K40 : Q7x Tryz.prog 163 := Qe4 (fn := Tryz.f163) (by kernel_rfl) (by kernel_rfl) (by kernel_rfl)
noncomputable def K41 : Code := Tryz.f211.body.getD .skip
theorem K42 : Q7x Tryz.prog 211 := Qe4 (fn := Tryz.f211) (by kernel_rfl) (by kernel_rfl) (by kernel_rfl)
noncomputable def K43 : Code := Tryz.f212.body.getD .skip
theorem K44 : Q7x Tryz.prog 212 := Qe4 (fn := Tryz.f212) (by kernel_rfl) (by kernel_rfl) (by kernel_rfl)
noncomputable def K45 : Code := Tryz.f202.body.getD .skip
theorem K46 : Q7x Tryz.prog 202 := Qe4 (fn := Tryz.f202) (by kernel_rfl) (by kernel_rfl) (by kernel_rfl)
noncomputable def K47 : Code := Tryz.f164.body.getD .skip
theorem K48 : Q7x Tryz.prog 164 := Qe4 (fn := Tryz.f164) (by kernel_rfl) (by kernel_rfl) (by kernel_rfl)
noncomputable def K49 : Code := Tryz.f214.body.getD .skip
theorem K4a : Q7x Tryz.prog 214 := Qe4 (fn := Tryz.f214) (by kernel_rfl) (by kernel_rfl) (by kernel_rfl)
noncomputable def K4b : Code := Tryz.f165.body.getD .skip
theorem K4c : Q7x Tryz.prog 165 := Qe4 (fn := Tryz.f165) (by kernel_rfl) (by kernel_rfl) (by kernel_rfl)
noncomputable def K4d : Code := Tryz.f166.body.getD .skip
theorem K4e : Q7x Tryz.prog 166 := Qe4 (fn := Tryz.f166) (by kernel_rfl) (by kernel_rfl) (by kernel_rfl)
noncomputable def B80 : Code := Tryz.f80.body.getD .skip
theorem K4f : Q7x Tryz.prog 80 := Qe4 (fn := Tryz.f80) (by kernel_rfl) (by kernel_rfl) (by kernel_rfl)
noncomputable def K4g : Code := Tryz.f207.body.getD .skip
theorem K4h : Q7x Tryz.prog 207 := Qe4 (fn := Tryz.f207) (by kernel_rfl) (by kernel_rfl) (by kernel_rfl)
noncomputable def K4i : Code := Tryz.f208.body.getD .skip
theorem K4j : Q7x Tryz.prog 208 := Qe4 (fn := Tryz.f208) (by kernel_rfl) (by kernel_rfl) (by kernel_rfl)
noncomputable def K4k : Code := Tryz.f209.body.getD .skip
theorem K4l : Q7x Tryz.prog 209 := Qe4 (fn := Tryz.f209) (by kernel_rfl) (by kernel_rfl) (by kernel_rfl)
noncomputable def K4m : Code := Tryz.f210.body.getD .skip
theorem K4n : Q7x Tryz.prog 210 := Qe4 (fn := Tryz.f210) (by kernel_rfl) (by kernel_rfl) (by kernel_rfl)
noncomputable def K4o : Code := Tryz.f154.body.getD .skip
theorem K4p : Q7x Tryz.prog 154 := Qe4 (fn := Tryz.f154) (by kernel_rfl) (by kernel_rfl) (by kernel_rfl)
noncomputable def B72 : Code := Tryz.f72.body.getD .skip
theorem K4q : Q7x Tryz.prog 72 := Qe4 (fn := Tryz.f72) (by kernel_rfl) (by kernel_rfl) (by kernel_rfl)
noncomputable def B75 : Code := Tryz.f75.body.getD .skip
theorem K4r : Q7x Tryz.prog 75 := Qe4 (fn := Tryz.f75) (by kernel_rfl) (by kernel_rfl) (by kernel_rfl)
noncomputable def K4s : Code := Tryz.f155.body.getD .skip
theorem K4t : Q7x Tryz.prog 155 := Qe4 (fn := Tryz.f155) (by kernel_rfl) (by kernel_rfl) (by kernel_rfl)
noncomputable def K4u : Code := Tryz.f200.body.getD .skip
theorem K4v : Q7x Tryz.prog 200 := Qe4 (fn := Tryz.f200) (by kernel_rfl) (by kernel_rfl) (by kernel_rfl)
noncomputable def K4w : Code := Tryz.f147.body.getD .skip
theorem K4x : Q7x Tryz.prog 147 := Qe4 (fn := Tryz.f147) (by kernel_rfl) (by kernel_rfl) (by kernel_rfl)
noncomputable def K4y : Code := Tryz.f182.body.getD .skip
theorem K4z : Q7x Tryz.prog 182 := Qe4 (fn := Tryz.f182) (by kernel_rfl) (by kernel_rfl) (by kernel_rfl)
noncomputable def K50 : Code := Tryz.f251.body.getD .skip
theorem K51 : Q7x Tryz.prog 251 := Qe4 (fn := Tryz.f251) (by kernel_rfl) (by kernel_rfl) (by kernel_rfl)
noncomputable def K52 : Code := Tryz.f231.body.getD .skip
theorem K53 : Q7x Tryz.prog 231 := Qe4 (fn := Tryz.f231) (by kernel_rfl) (by kernel_rfl) (by kernel_rfl)
noncomputable def K54 : Code := Tryz.f215.body.getD .skip
theorem K55 : Q7x Tryz.prog 215 := Qe4 (fn := Tryz.f215) (by kernel_rfl) (by kernel_rfl) (by kernel_rfl)
noncomputable def K56 : Code := Tryz.f185.body.getD .skip
theorem K57 : Q7x Tryz.prog 185 := Qe4 (fn := Tryz.f185) (by kernel_rfl) (by kernel_rfl) (by kernel_rfl)
noncomputable def K58 : Code := Tryz.f168.body.getD .skip
theorem K59 : Q7x Tryz.prog 168 := Qe4 (fn := Tryz.f168) (by kernel_rfl) (by kernel_rfl) (by kernel_rfl)
noncomputable def K5a : Code := Tryz.f167.body.getD .skip
theorem K5b : Q7x Tryz.prog 167 := Qe4 (fn := Tryz.f167) (by kernel_rfl) (by kernel_rfl) (by kernel_rfl)
noncomputable def K5c : Code := Tryz.f176.body.getD .skip
theorem K5d : Q7x Tryz.prog 176 := Qe4 (fn := Tryz.f176) (by kernel_rfl) (by kernel_rfl) (by kernel_rfl)
noncomputable def K5e : Code := Tryz.f178.body.getD .skip
theorem K5f : Q7x Tryz.prog 178 := Qe4 (fn := Tryz.f178) (by kernel_rfl) (by kernel_rfl) (by kernel_rfl)
noncomputable def K5g : Code := Tryz.f169.body.getD .skip
theorem K5h : Q7x Tryz.prog 169 := Qe4 (fn := Tryz.f169) (by kernel_rfl) (by kernel_rfl) (by kernel_rfl)
noncomputable def K5i : Code := Tryz.f252.body.getD .skip
theorem K5j : Q7x Tryz.prog 252 := Qe4 (fn := Tryz.f252) (by kernel_rfl) (by kernel_rfl) (by kernel_rfl)
noncomputable def K5k : Code := Tryz.f233.body.getD .skip
theorem K5l : Q7x Tryz.prog 233 := Qe4 (fn := Tryz.f233) (by kernel_rfl) (by kernel_rfl) (by kernel_rfl)
noncomputable def K5m : Code := Tryz.f232.body.getD .skip
theorem K5n : Q7x Tryz.prog 232 := Qe4 (fn := Tryz.f232) (by kernel_rfl) (by kernel_rfl) (by kernel_rfl)
noncomputable def K5o : Code := Tryz.f234.body.getD .skip
theorem K5p : Q7x Tryz.prog 234 := Qe4 (fn := Tryz.f234) (by kernel_rfl) (by kernel_rfl) (by kernel_rfl)
noncomputable def K5q : Code := Tryz.f235.body.getD .skip
theorem K5r : Q7x Tryz.prog 235 := Qe4 (fn := Tryz.f235) (by kernel_rfl) (by kernel_rfl) (by kernel_rfl)
noncomputable def K5s : Code := Tryz.f236.body.getD .skip
theorem K5t : Q7x Tryz.prog 236 := Qe4 (fn := Tryz.f236) (by kernel_rfl) (by kernel_rfl) (by kernel_rfl)
noncomputable def K5u : Code := Tryz.f238.body.getD .skip
theorem K5v : Q7x Tryz.prog 238 := Qe4 (fn := Tryz.f238) (by kernel_rfl) (by kernel_rfl) (by kernel_rfl)
noncomputable def K5w : Code := Tryz.f237.body.getD .skip
theorem K5x : Q7x Tryz.prog 237 := Qe4 (fn := Tryz.f237) (by kernel_rfl) (by kernel_rfl) (by kernel_rfl)
noncomputable def K5y : Code := Tryz.f239.body.getD .skip
theorem K5z : Q7x Tryz.prog 239 := Qe4 (fn := Tryz.f239) (by kernel_rfl) (by kernel_rfl) (by kernel_rfl)
noncomputable def K60 : Code := Tryz.f203.body.getD .skip
theorem K61 : Q7x Tryz.prog 203 := Qe4 (fn := Tryz.f203) (by kernel_rfl) (by kernel_rfl) (by kernel_rfl)
noncomputable def K62 : Code := Tryz.f253.body.getD .skip
theorem K63 : Q7x Tryz.prog 253 := Qe4 (fn := Tryz.f253) (by kernel_rfl) (by kernel_rfl) (by kernel_rfl)
noncomputable def K64 : Code := Tryz.f141.body.getD .skip
theorem K65 : Q7x Tryz.prog 141 := Qe4 (fn := Tryz.f141) (by kernel_rfl) (by kernel_rfl) (by kernel_rfl)
noncomputable def K66 : Code := Tryz.f140.body.getD .skip
theorem K67 : Q7x Tryz.prog 140 := Qe4 (fn := Tryz.f140) (by kernel_rfl) (by kernel_rfl) (by kernel_rfl)
noncomputable def K68 : Code := Tryz.f191.body.getD .skip
theorem K69 : Q7x Tryz.prog 191 := Qe4 (fn := Tryz.f191) (by kernel_rfl) (by kernel_rfl) (by kernel_rfl)
noncomputable def K6a : Code := Tryz.f132.body.getD .skip
theorem K6b : Q7x Tryz.prog 132 := Qe4 (fn := Tryz.f132) (by kernel_rfl) (by kernel_rfl) (by kernel_rfl)
noncomputable def K6c : Code := Tryz.f113.body.getD .skip
theorem K6d : Q7x Tryz.prog 113 := Qe4 (fn := Tryz.f113) (by kernel_rfl) (by kernel_rfl) (by kernel_rfl)
noncomputable def K6e : Code := Tryz.f201.body.getD .skip
theorem K6f : Q7x Tryz.prog 201 := Qe4 (fn := Tryz.f201) (by kernel_rfl) (by kernel_rfl) (by kernel_rfl)
noncomputable def K6g : Code := Tryz.f137.body.getD .skip
theorem K6h : Q7x Tryz.prog 137 := Qe4 (fn := Tryz.f137) (by kernel_rfl) (by kernel_rfl) (by kernel_rfl)
noncomputable def K6i : Code := Tryz.f156.body.getD .skip
theorem K6j : Q7x Tryz.prog 156 := Qe4 (fn := Tryz.f156) (by kernel_rfl) (by kernel_rfl) (by kernel_rfl)
noncomputable def B99 : Code := Tryz.f99.body.getD .skip
theorem K6k : Q7x Tryz.prog 99 := Qe4 (fn := Tryz.f99) (by kernel_rfl) (by kernel_rfl) (by kernel_rfl)
noncomputable def B74 : Code := Tryz.f74.body.getD .skip
theorem K6l : Q7x Tryz.prog 74 := Qe4 (fn := Tryz.f74) (by kernel_rfl) (by kernel_rfl) (by kernel_rfl)
noncomputable def B76 : Code := Tryz.f76.body.getD .skip
theorem K6m : Q7x Tryz.prog 76 := Qe4 (fn := Tryz.f76) (by kernel_rfl) (by kernel_rfl) (by kernel_rfl)
noncomputable def K6n : Code := Tryz.f105.body.getD .skip
theorem K6o : Q7x Tryz.prog 105 := Qe4 (fn := Tryz.f105) (by kernel_rfl) (by kernel_rfl) (by kernel_rfl)
noncomputable def B60 : Code := Tryz.f60.body.getD .skip
theorem K6p : Q7x Tryz.prog 60 := Qe4 (fn := Tryz.f60) (by kernel_rfl) (by kernel_rfl) (by kernel_rfl)
noncomputable def B95 : Code := Tryz.f95.body.getD .skip
theorem K6q : Q7x Tryz.prog 95 := Qe4 (fn := Tryz.f95) (by kernel_rfl) (by kernel_rfl) (by kernel_rfl)
noncomputable def K6r : Code := Tryz.f145.body.getD .skip
theorem K6s : Q7x Tryz.prog 145 := Qe4 (fn := Tryz.f145) (by kernel_rfl) (by kernel_rfl) (by kernel_rfl)
noncomputable def K6t : Code := Tryz.f160.body.getD .skip
theorem K6u : Q7x Tryz.prog 160 := Qe4 (fn := Tryz.f160) (by kernel_rfl) (by kernel_rfl) (by kernel_rfl)
noncomputable def K6v : Code := Tryz.f161.body.getD .skip
theorem K6w : Q7x Tryz.prog 161 := Qe4 (fn := Tryz.f161) (by kernel_rfl) (by kernel_rfl) (by kernel_rfl)
noncomputable def B89 : Code := Tryz.f89.body.getD .skip
theorem K6x : Q7x Tryz.prog 89 := Qe4 (fn := Tryz.f89) (by kernel_rfl) (by kernel_rfl) (by kernel_rfl)
noncomputable def K6y : Code := Tryz.f149.body.getD .skip
theorem K6z : Q7x Tryz.prog 149 := Qe4 (fn := Tryz.f149) (by kernel_rfl) (by kernel_rfl) (by kernel_rfl)
noncomputable def K70 : Code := Tryz.f162.body.getD .skip
theorem K71 : Q7x Tryz.prog 162 := Qe4 (fn := Tryz.f162) (by kernel_rfl) (by kernel_rfl) (by kernel_rfl)
noncomputable def B79 : Code := Tryz.f79.body.getD .skip
theorem K72 : Q7x Tryz.prog 79 := Qe4 (fn := Tryz.f79) (by kernel_rfl) (by kernel_rfl) (by kernel_rfl)
noncomputable def K73 : Code := Tryz.f157.body.getD .skip
theorem K74 : Q7x Tryz.prog 157 := Qe4 (fn := Tryz.f157) (by kernel_rfl) (by kernel_rfl) (by kernel_rfl)
noncomputable def K75 : Code := Tryz.f213.body.getD .skip
theorem K76 : Q7x Tryz.prog 213 := Qe4 (fn := Tryz.f213) (by kernel_rfl) (by kernel_rfl) (by kernel_rfl)
noncomputable def K77 : Code := Tryz.f159.body.getD .skip
theorem K78 : Q7x Tryz.prog 159 := Qe4 (fn := Tryz.f159) (by kernel_rfl) (by kernel_rfl) (by kernel_rfl)
noncomputable def B78 : Code := Tryz.f78.body.getD .skip
theorem K79 : Q7x Tryz.prog 78 := Qe4 (fn := Tryz.f78) (by kernel_rfl) (by kernel_rfl) (by kernel_rfl)
noncomputable def K7a : Code := Tryz.f217.body.getD .skip
theorem K7b : Q7x Tryz.prog 217 := Qe4 (fn := Tryz.f217) (by kernel_rfl) (by kernel_rfl) (by kernel_rfl)
noncomputable def K7c : Code := Tryz.f241.body.getD .skip
theorem K7d : Q7x Tryz.prog 241 := Qe4 (fn := Tryz.f241) (by kernel_rfl) (by kernel_rfl) (by kernel_rfl)
noncomputable def K7e : Code := Tryz.f216.body.getD .skip
theorem K7f : Q7x Tryz.prog 216 := Qe4 (fn := Tryz.f216) (by kernel_rfl) (by kernel_rfl) (by kernel_rfl)
noncomputable def K7g : Code := Tryz.f171.body.getD .skip
theorem K7h : Q7x Tryz.prog 171 := Qe4 (fn := Tryz.f171) (by kernel_rfl) (by kernel_rfl) (by kernel_rfl)
noncomputable def K7i : Code := Tryz.f188.body.getD .skip
theorem K7j : Q7x Tryz.prog 188 := Qe4 (fn := Tryz.f188) (by kernel_rfl) (by kernel_rfl) (by kernel_rfl)
noncomputable def K7k : Code := Tryz.f218.body.getD .skip
theorem K7l : Q7x Tryz.prog 218 := Qe4 (fn := Tryz.f218) (by kernel_rfl) (by kernel_rfl) (by kernel_rfl)
noncomputable def K7m : Code := Tryz.f199.body.getD .skip
theorem K7n : Q7x Tryz.prog 199 := Qe4 (fn := Tryz.f199) (by kernel_rfl) (by kernel_rfl) (by kernel_rfl)
noncomputable def K7o : Code := Tryz.f134.body.getD .skip
theorem K7p : Q7x Tryz.prog 134 := Qe4 (fn := Tryz.f134) (by kernel_rfl) (by kernel_rfl) (by kernel_rfl)
noncomputable def K7q : Code := Tryz.f172.body.getD .skip
theorem K7r : Q7x Tryz.prog 172 := Qe4 (fn := Tryz.f172) (by kernel_rfl) (by kernel_rfl) (by kernel_rfl)
noncomputable def K7s : Code := Tryz.f158.body.getD .skip
theorem K7t : Q7x Tryz.prog 158 := Qe4 (fn := Tryz.f158) (by kernel_rfl) (by kernel_rfl) (by kernel_rfl)
noncomputable def K7u : Code := Tryz.f219.body.getD .skip
theorem K7v : Q7x Tryz.prog 219 := Qe4 (fn := Tryz.f219) (by kernel_rfl) (by kernel_rfl) (by kernel_rfl)
noncomputable def K7w : Code := Tryz.f242.body.getD .skip
theorem K7x : Q7x Tryz.prog 242 := Qe4 (fn := Tryz.f242) (by kernel_rfl) (by kernel_rfl) (by kernel_rfl)
noncomputable def K7y : Code := Tryz.f220.body.getD .skip
theorem K7z : Q7x Tryz.prog 220 := Qe4 (fn := Tryz.f220) (by kernel_rfl) (by kernel_rfl) (by kernel_rfl)
noncomputable def K80 : Code := Tryz.f173.body.getD .skip
theorem K81 : Q7x Tryz.prog 173 := Qe4 (fn := Tryz.f173) (by kernel_rfl) (by kernel_rfl) (by kernel_rfl)
noncomputable def K82 : Code := Tryz.f221.body.getD .skip
theorem K83 : Q7x Tryz.prog 221 := Qe4 (fn := Tryz.f221) (by kernel_rfl) (by kernel_rfl) (by kernel_rfl)
noncomputable def K84 : Code := Tryz.f144.body.getD .skip
theorem K85 : Q7x Tryz.prog 144 := Qe4 (fn := Tryz.f144) (by kernel_rfl) (by kernel_rfl) (by kernel_rfl)
noncomputable def B88 : Code := Tryz.f88.body.getD .skip
theorem K86 : Q7x Tryz.prog 88 := Qe4 (fn := Tryz.f88) (by kernel_rfl) (by kernel_rfl) (by kernel_rfl)
noncomputable def K87 : Code := Tryz.f254.body.getD .skip
theorem K88 : Q7x Tryz.prog 254 := Qe4 (fn := Tryz.f254) (by kernel_rfl) (by kernel_rfl) (by kernel_rfl)
noncomputable def K89 : Code := Tryz.f244.body.getD .skip
theorem K8a : Q7x Tryz.prog 244 := Qe4 (fn := Tryz.f244) (by kernel_rfl) (by kernel_rfl) (by kernel_rfl)
noncomputable def K8b : Code := Tryz.f243.body.getD .skip
theorem K8c : Q7x Tryz.prog 243 := Qe4 (fn := Tryz.f243) (by kernel_rfl) (by kernel_rfl) (by kernel_rfl)
noncomputable def K8d : Code := Tryz.f245.body.getD .skip
theorem K8e : Q7x Tryz.prog 245 := Qe4 (fn := Tryz.f245) (by kernel_rfl) (by kernel_rfl) (by kernel_rfl)
noncomputable def K8f : Code := Tryz.f255.body.getD .skip
theorem K8g : Q7x Tryz.prog 255 := Qe4 (fn := Tryz.f255) (by kernel_rfl) (by kernel_rfl) (by kernel_rfl)
noncomputable def K8h : Code := Tryz.f246.body.getD .skip
theorem K8i : Q7x Tryz.prog 246 := Qe4 (fn := Tryz.f246) (by kernel_rfl) (by kernel_rfl) (by kernel_rfl)
noncomputable def K8j : Code := Tryz.f256.body.getD .skip
theorem K8k : Q7x Tryz.prog 256 := Qe4 (fn := Tryz.f256) (by kernel_rfl) (by kernel_rfl) (by kernel_rfl)
noncomputable def K8l : Code := Tryz.f193.body.getD .skip
theorem K8m : Q7x Tryz.prog 193 := Qe4 (fn := Tryz.f193) (by kernel_rfl) (by kernel_rfl) (by kernel_rfl)
noncomputable def K8n : Code := Tryz.f116.body.getD .skip
theorem K8o : Q7x Tryz.prog 116 := Qe4 (fn := Tryz.f116) (by kernel_rfl) (by kernel_rfl) (by kernel_rfl)
noncomputable def K8p : Code := Tryz.f247.body.getD .skip
theorem K8q : Q7x Tryz.prog 247 := Qe4 (fn := Tryz.f247) (by kernel_rfl) (by kernel_rfl) (by kernel_rfl)
noncomputable def K8r : Code := Tryz.f248.body.getD .skip
theorem K8s : Q7x Tryz.prog 248 := Qe4 (fn := Tryz.f248) (by kernel_rfl) (by kernel_rfl) (by kernel_rfl)
noncomputable def K8t : Code := Tryz.f249.body.getD .skip
theorem K8u : Q7x Tryz.prog 249 := Qe4 (fn := Tryz.f249) (by kernel_rfl) (by kernel_rfl) (by kernel_rfl)
noncomputable def K8v : Code := Tryz.f222.body.getD .skip
theorem K8w : Q7x Tryz.prog 222 := Qe4 (fn := Tryz.f222) (by kernel_rfl) (by kernel_rfl) (by kernel_rfl)
noncomputable def B87 : Code := Tryz.f87.body.getD .skip
theorem K8x : Q7x Tryz.prog 87 := Qe4 (fn := Tryz.f87) (by kernel_rfl) (by kernel_rfl) (by kernel_rfl)
noncomputable def B23 : Code := Tryz.f23.body.getD .skip
theorem K8y : Q7x Tryz.prog 23 := Qe4 (fn := Tryz.f23) (by kernel_rfl) (by kernel_rfl) (by kernel_rfl)
noncomputable def K8z : Code := Tryz.f139.body.getD .skip
theorem K90 : Q7x Tryz.prog 139 := Qe4 (fn := Tryz.f139) (by kernel_rfl) (by kernel_rfl) (by kernel_rfl)
noncomputable def B61 : Code := Tryz.f61.body.getD .skip
theorem K91 : Q7x Tryz.prog 61 := Qe4 (fn := Tryz.f61) (by kernel_rfl) (by kernel_rfl) (by kernel_rfl)
noncomputable def K92 : Code := Tryz.f189.body.getD .skip
theorem K93 : Q7x Tryz.prog 189 := Qe4 (fn := Tryz.f189) (by kernel_rfl) (by kernel_rfl) (by kernel_rfl)
noncomputable def K94 : Code := Tryz.f112.body.getD .skip
theorem K95 : Q7x Tryz.prog 112 := Qe4 (fn := Tryz.f112) (by kernel_rfl) (by kernel_rfl) (by kernel_rfl)
noncomputable def B44 : Code := Tryz.f44.body.getD .skip
theorem K96 : Q7x Tryz.prog 44 := Qe4 (fn := Tryz.f44) (by kernel_rfl) (by kernel_rfl) (by kernel_rfl)
noncomputable def B25 : Code := Tryz.f25.body.getD .skip
theorem K97 : Q7x Tryz.prog 25 := Qe4 (fn := Tryz.f25) (by kernel_rfl) (by kernel_rfl) (by kernel_rfl)
noncomputable def B62 : Code := Tryz.f62.body.getD .skip
theorem K98 : Q7x Tryz.prog 62 := Qe4 (fn := Tryz.f62) (by kernel_rfl) (by kernel_rfl) (by kernel_rfl)
noncomputable def B11 : Code := Tryz.f11.body.getD .skip
theorem K99 : Q7x Tryz.prog 11 := Qe4 (fn := Tryz.f11) (by kernel_rfl) (by kernel_rfl) (by kernel_rfl)

abbrev TL := List (Nat × AV)
abbrev OL := List (Nat × Q09)
abbrev PLN := Option (List (List Nat))
abbrev RL := List (Option Orc)
abbrev LL := List (List Int)
section
variable {c : Ctx} {code : Code} {Q : Exit → Q0a → Prop} {σ S : Q0a} {nt : Nat} {T : TL} {O : OL}
def evq (code : Code) (nt : Nat) (ah : PLN) (r : RL) (T : TL) (O : OL) (T' : TL) (O' : OL) : Nat × Option (TL × OL) × Prop × Bool := (Qd4 code, (Qc0 TIx Tryz.prog nt (Qd0 code) ah r T O (T'.map (·.1)) (O'.map (·.1))).map (fun r => (r.T, Qc2 r.O)), Qdq (Qc0 TIx Tryz.prog nt (Qd0 code) ah r T O (T'.map (·.1)) (O'.map (·.1))), (!Qd1 code && ah.isNone) || ah.isSome)
def evs (code : Code) (nt : Nat) (ah : PLN) (r : RL) (T : TL) (O : OL) (T' : TL) (O' : OL) : Nat × Nat × Option (TL × OL) × Prop × Bool := (Qd4 code, evq (cl code) nt ah r T O T' O')
theorem rg {A : Prop} (hnt : c.nt = nt) (ah : PLN) (r : RL) (T' : TL) (O' : OL) (h : A) (hQ : Q .normal (mkS T' O')) (e : evq code nt ah r T O T' O' = (0, some (T', O'), A, true) := by kernel_rfl) : Wp Tryz.prog c code Q (mkS T O) :=
  Wp.reg K3d mix hnt (congrArg (fun p => Nat.beq p.1 0) e) (congrArg (·.2.1) e) h (congrArg (·.2.2.1) e).symm (congrArg (·.2.2.2) e) hQ
theorem rs {A : Prop} (hnt : c.nt = nt) (ah : PLN) (r : RL) (T' : TL) (O' : OL) (h : A) (hQ : Wp Tryz.prog c (cr code) Q (mkS T' O')) (e : evs code nt ah r T O T' O' = (1, 0, some (T', O'), A, true) := by kernel_rfl) : Wp Tryz.prog c code Q (mkS T O) :=
  Wp.seqN (congrArg (fun p => Nat.beq p.1 1) e) (rg hnt ah r T' O' h (Qdg hQ) (congrArg (·.2) e))
def mb (t : Nat) : List Nat → Bool
  | [] => false
  | k :: r => bif Nat.beq t k then true else mb t r
def dk (D : List Nat) : TL → TL
  | [] => []
  | p :: r => bif mb p.1 D then dk D r else p :: dk D r
def dp (D : List Nat) : TL → TL → TL
  | [], T => dk D T
  | p :: N, T => p :: dp D N T
theorem rg0 (hnt : c.nt = nt) (n : Nat) (T' : TL) (O' : OL) (hQ : Q .normal (mkS T' O')) (e : evq code nt none (List.replicate n (some .no)) T O T' O' = (0, some (T', O'), True, true) := by kernel_rfl) : Wp Tryz.prog c code Q (mkS T O) := rg hnt none (List.replicate n (some .no)) T' O' trivial hQ e
theorem rgs {A : Prop} (hnt : c.nt = nt) (ah : PLN) (r : RL) (T' : TL) (h : A) (hQ : Q .normal (mkS T' O)) (e : evq code nt ah r T O T' O = (0, some (T', O), A, true) := by kernel_rfl) : Wp Tryz.prog c code Q (mkS T O) := rg hnt ah r T' O h hQ e
theorem K9a (hnt : c.nt = nt) (n : Nat) (T' : TL) (hQ : Q .normal (mkS T' O)) (e : evq code nt none (List.replicate n (some .no)) T O T' O = (0, some (T', O), True, true) := by kernel_rfl) : Wp Tryz.prog c code Q (mkS T O) := rg hnt none (List.replicate n (some .no)) T' O trivial hQ e
theorem rgd {A : Prop} (hnt : c.nt = nt) (ah : PLN) (r : RL) (D : List Nat) (N : TL) (O' : OL) (h : A) (hQ : Q .normal (mkS (dp D N T) O')) (e : evq code nt ah r T O (dp D N T) O' = (0, some ((dp D N T), O'), A, true) := by kernel_rfl) : Wp Tryz.prog c code Q (mkS T O) := rg hnt ah r (dp D N T) O' h hQ e
theorem K9b (hnt : c.nt = nt) (n : Nat) (D : List Nat) (N : TL) (O' : OL) (hQ : Q .normal (mkS (dp D N T) O')) (e : evq code nt none (List.replicate n (some .no)) T O (dp D N T) O' = (0, some ((dp D N T), O'), True, true) := by kernel_rfl) : Wp Tryz.prog c code Q (mkS T O) := rg hnt none (List.replicate n (some .no)) (dp D N T) O' trivial hQ e
theorem K9c {A : Prop} (hnt : c.nt = nt) (ah : PLN) (r : RL) (D : List Nat) (N : TL) (h : A) (hQ : Q .normal (mkS (dp D N T) O)) (e : evq code nt ah r T O (dp D N T) O = (0, some ((dp D N T), O), A, true) := by kernel_rfl) : Wp Tryz.prog c code Q (mkS T O) := rg hnt ah r (dp D N T) O h hQ e
theorem K9d (hnt : c.nt = nt) (n : Nat) (D : List Nat) (N : TL) (hQ : Q .normal (mkS (dp D N T) O)) (e : evq code nt none (List.replicate n (some .no)) T O (dp D N T) O = (0, some ((dp D N T), O), True, true) := by kernel_rfl) : Wp Tryz.prog c code Q (mkS T O) := rg hnt none (List.replicate n (some .no)) (dp D N T) O trivial hQ e
theorem rs0 (hnt : c.nt = nt) (n : Nat) (T' : TL) (O' : OL) (hQ : Wp Tryz.prog c (cr code) Q (mkS T' O')) (e : evs code nt none (List.replicate n (some .no)) T O T' O' = (1, 0, some (T', O'), True, true) := by kernel_rfl) : Wp Tryz.prog c code Q (mkS T O) := rs hnt none (List.replicate n (some .no)) T' O' trivial hQ e
theorem rss {A : Prop} (hnt : c.nt = nt) (ah : PLN) (r : RL) (T' : TL) (h : A) (hQ : Wp Tryz.prog c (cr code) Q (mkS T' O)) (e : evs code nt ah r T O T' O = (1, 0, some (T', O), A, true) := by kernel_rfl) : Wp Tryz.prog c code Q (mkS T O) := rs hnt ah r T' O h hQ e
theorem K9e (hnt : c.nt = nt) (n : Nat) (T' : TL) (hQ : Wp Tryz.prog c (cr code) Q (mkS T' O)) (e : evs code nt none (List.replicate n (some .no)) T O T' O = (1, 0, some (T', O), True, true) := by kernel_rfl) : Wp Tryz.prog c code Q (mkS T O) := rs hnt none (List.replicate n (some .no)) T' O trivial hQ e
theorem rsd {A : Prop} (hnt : c.nt = nt) (ah : PLN) (r : RL) (D : List Nat) (N : TL) (O' : OL) (h : A) (hQ : Wp Tryz.prog c (cr code) Q (mkS (dp D N T) O')) (e : evs code nt ah r T O (dp D N T) O' = (1, 0, some ((dp D N T), O'), A, true) := by kernel_rfl) : Wp Tryz.prog c code Q (mkS T O) := rs hnt ah r (dp D N T) O' h hQ e
theorem K9f (hnt : c.nt = nt) (n : Nat) (D : List Nat) (N : TL) (O' : OL) (hQ : Wp Tryz.prog c (cr code) Q (mkS (dp D N T) O')) (e : evs code nt none (List.replicate n (some .no)) T O (dp D N T) O' = (1, 0, some ((dp D N T), O'), True, true) := by kernel_rfl) : Wp Tryz.prog c code Q (mkS T O) := rs hnt none (List.replicate n (some .no)) (dp D N T) O' trivial hQ e
theorem K9g {A : Prop} (hnt : c.nt = nt) (ah : PLN) (r : RL) (D : List Nat) (N : TL) (h : A) (hQ : Wp Tryz.prog c (cr code) Q (mkS (dp D N T) O)) (e : evs code nt ah r T O (dp D N T) O = (1, 0, some ((dp D N T), O), A, true) := by kernel_rfl) : Wp Tryz.prog c code Q (mkS T O) := rs hnt ah r (dp D N T) O h hQ e
theorem K9h (hnt : c.nt = nt) (n : Nat) (D : List Nat) (N : TL) (hQ : Wp Tryz.prog c (cr code) Q (mkS (dp D N T) O)) (e : evs code nt none (List.replicate n (some .no)) T O (dp D N T) O = (1, 0, some ((dp D N T), O), True, true) := by kernel_rfl) : Wp Tryz.prog c code Q (mkS T O) := rs hnt none (List.replicate n (some .no)) (dp D N T) O trivial hQ e
theorem ri {T' : TL} {O' : OL} {A : Prop} (hnt : c.nt = nt) (ah : PLN) (r : RL) (h : A) (hQ : Q .normal (mkS T' O')) (e : evq code nt ah r T O T' O' = (0, some (T', O'), A, true) := by kernel_rfl) : Wp Tryz.prog c code Q (mkS T O) := rg hnt ah r T' O' h hQ e
theorem ri0 {T' : TL} {O' : OL} (hnt : c.nt = nt) (n : Nat) (hQ : Q .normal (mkS T' O')) (e : evq code nt none (List.replicate n (some .no)) T O T' O' = (0, some (T', O'), True, true) := by kernel_rfl) : Wp Tryz.prog c code Q (mkS T O) := rg hnt none (List.replicate n (some .no)) T' O' trivial hQ e
theorem rj {T' : TL} {O' : OL} {A : Prop} (hnt : c.nt = nt) (ah : PLN) (r : RL) (h : A) (hQ : Q .normal (mkS T' O') := by exact Qdr.mk) (e : evq code nt ah r T O T' O' = (0, some (T', O'), A, true) := by kernel_rfl) : Wp Tryz.prog c code Q (mkS T O) := rg hnt ah r T' O' h hQ e
theorem rj0 {T' : TL} {O' : OL} (hnt : c.nt = nt) (n : Nat) (hQ : Q .normal (mkS T' O') := by exact Qdr.mk) (e : evq code nt none (List.replicate n (some .no)) T O T' O' = (0, some (T', O'), True, true) := by kernel_rfl) : Wp Tryz.prog c code Q (mkS T O) := rg hnt none (List.replicate n (some .no)) T' O' trivial hQ e
theorem wi (D : List Nat) (N : TL) (h1 : Wp Tryz.prog c code (Qdr c .normal (mkS (dp D N T) O)) (mkS T O)) (h2 : Q .normal (mkS (dp D N T) O)) : Wp Tryz.prog c code Q (mkS T O) := Wp.into _ h1 h2
theorem wf {x : Exit} (h1 : Wp Tryz.prog c code (Qdr c x S) σ) (h2 : Q x S) : Wp Tryz.prog c code Q σ := Wp.into S h1 h2
theorem wl {x : Exit} (h1 : WpL Tryz.prog c code (Qdr c x S) σ) (h2 : Q x S) : WpL Tryz.prog c code Q σ := WpL.into S h1 h2
theorem vz (k : Nat) {xs xs' : List AV} (hs : Q02 xs = xs') (T' : TL) (O' : OL) (h : Wp Tryz.prog c code Q (mkS T' O')) (hO : lkO O k = some (.arr xs) := by kernel_rfl)
    (hT : T.map (fun p => (p.1, frz k (.sl xs') p.2)) = T' := by kernel_rfl) (hO' : ((O.filter fun p => !Nat.beq p.1 k).map fun p => (p.1, Qaj k (.sl xs') p.2)) = O' := by kernel_rfl) : Wp Tryz.prog c code Q (mkS T O) := Wp.view (fun _ _ hv => SRx.frzL k hv hO hs hT hO') h
theorem vb (k : Nat) (cs : List AV) (T' : TL) (O' : OL) (h : Wp Tryz.prog c code Q (mkS T' O')) (hO : lkO O k = some (.box cs) := by kernel_rfl) (hp : cs.all plain = true := by kernel_rfl)
    (hT : T.map (fun p => (p.1, frb k (cs.map nzC) p.2)) = T' := by kernel_rfl) (hO' : ((O.filter fun p => !Nat.beq p.1 k).map fun p => (p.1, Qfm k (cs.map nzC) p.2)) = O' := by kernel_rfl) : Wp Tryz.prog c code Q (mkS T O) := Wp.view (fun _ _ hv => SRx.frbL k (cs := cs) hv hO hp hT hO') h
theorem bk (i : Nat) (h : Wp Tryz.prog c (cl code) (Qde i Q) σ) (hk : (Nat.beq (Qd4 code) 3 && Nat.beq (Qd2 code) i) = true := by kernel_rfl) : Wp Tryz.prog c code Q σ := Wp.blockN hk h
theorem xt (i : Nat) (h : Q (.exit i) σ) (hk : (Nat.beq (Qd4 code) 5 && Nat.beq (Qd2 code) i) = true := by kernel_rfl) : Wp Tryz.prog c code Q σ := Wp.exitN hk h
theorem lp (h : WpL Tryz.prog c (cl code) Q σ) (hk : Nat.beq (Qd4 code) 4 = true := by kernel_rfl) : Wp Tryz.prog c code Q σ := Wp.loopN hk h
theorem rt (h : Q .ret σ) (hk : Nat.beq (Qd4 code) 6 = true := by kernel_rfl) : Wp Tryz.prog c code Q σ := Wp.retN hk h
theorem sk (h : Q .normal σ) (hk : Nat.beq (Qd4 code) 7 = true := by kernel_rfl) : Wp Tryz.prog c code Q σ := Wp.skipN hk h
theorem sN (h : Wp Tryz.prog c (cl code) (Qdd Tryz.prog c (cr code) Q) σ) (hk : Nat.beq (Qd4 code) 1 = true := by kernel_rfl) : Wp Tryz.prog c code Q σ := Wp.seqN hk h
theorem ic {α : Type} {b : Bool} {x y : Option α} {r : α} (h : (if b = true then x else y) = some r) (hT : b = true → x = some r → Wp Tryz.prog c (cl code) Q σ) (hF : b = false → y = some r → Wp Tryz.prog c (cr code) Q σ)
    (hk : Nat.beq (Qd4 code) 2 = true := by kernel_rfl) (hx : opv σ (Qd3 code) = .bool b := by kernel_rfl) : Wp Tryz.prog c code Q σ := (Qe6 h).elim (fun q => Wp.condT hk hx q.1 (hT q.1 q.2)) (fun q => Wp.condF hk hx q.1 (hF q.1 q.2))
theorem cT (b : Bool) (hb : b = true) (h1 : Wp Tryz.prog c (cl code) Q σ) (hk : Nat.beq (Qd4 code) 2 = true := by kernel_rfl) (hx : opv σ (Qd3 code) = .bool b := by kernel_rfl) : Wp Tryz.prog c code Q σ := Wp.condT hk hx hb h1
theorem cF (b : Bool) (hb : b = false) (h1 : Wp Tryz.prog c (cr code) Q σ) (hk : Nat.beq (Qd4 code) 2 = true := by kernel_rfl) (hx : opv σ (Qd3 code) = .bool b := by kernel_rfl) : Wp Tryz.prog c code Q σ := Wp.condF hk hx hb h1
end
theorem b0 {f : FuncId} (fn : Func) (code : Code) {args : List AV} {res : AV} (nt : Nat) (T : TL) (h : ∀ c : Ctx, c.nt = nt → Wp Tryz.prog c code (Qdx TIx fn [] res) (mkS T [])) (hf : Tryz.prog.funcs[f]? = some fn := by kernel_rfl) (hb : fn.body = some code := by kernel_rfl) (hok : Qca args = true := by kernel_rfl) (ha : args.all (fun x => !Qdy x) = true := by kernel_rfl)
    (hnt : Nat.beq fn.ntmps nt = true := by kernel_rfl) (hle : Nat.ble args.length nt = true := by kernel_rfl) (hT : Qc8 args = T := by kernel_rfl) (hO : Qc9 args = [] := by kernel_rfl) : Q77 Tryz.prog f args res [] := Q77.body0 K3d hf hb hok ha hnt hle hT hO h
theorem iv {c : Ctx} {x : Exit} (ρ : List (Nat × Nat)) {T T' : TL} {O O' : OL} (hT : (T'.map fun p => rn (rnk ρ) p.2) = T'.map fun p => lk .undef T p.1 := by kernel_rfl)
    (hO : (O'.map fun p => some (rnO (rnk ρ) p.2)) = O'.map fun p => lkO O (rnk ρ p.1) := by kernel_rfl) (hB : Qdt ρ O' = true := by kernel_rfl) : Qdr c x (mkS T' O') x (mkS T O) := Qdr.view (fun _ _ hv => SRx.renL ρ hv hT hO hB)
theorem im {c : Ctx} {x : Exit} {T T' : TL} {O : OL} (hT : (T'.map fun p => lk .undef T p.1) = T'.map (·.2) := by kernel_rfl) : Qdr c x (mkS T' O) x (mkS T O) :=
  ⟨rfl, fun _ _ h => h.le (fun t => (Qbq AV.undef T' t).imp (fun e => e) (fun ⟨p, hp, h1, h2⟩ => h2.trans (h1 ▸ (List.map_inj_left.1 hT p hp).symm))) (fun _ => .inr rfl)⟩
theorem re {fn : Func} {args : List AV} (fl : List Bool) {T : TL} {O : OL} {res : AV} (h : Qdw TIx fn args fl T O = some res := by kernel_rfl) : Qe0 TIx fn args res .ret (mkS T O) := Qe0.ret h
theorem rq {fn : Func} {args : List AV} (fl : List Bool) {T : TL} {O : OL} {res : AV} (h : Qdw TIx fn args fl T O = some res := by kernel_rfl) : Qdx TIx fn args res .ret (mkS T O) := Qdx.ret h
theorem rp {fn : Func} {args : List AV} (fl : List Bool) {T : TL} {O : OL} {r : AV × List AV} (h : Qe1 TIx fn args fl T O = some r := by kernel_rfl) : Qe3 TIx fn args r .ret (mkS T O) := Qe3.ret h
theorem rr {fn : Func} {args : List AV} (fl : List Bool) {T : TL} {O : OL} {r : AV × List AV} (h : Qe1 TIx fn args fl T O = some r := by kernel_rfl) : Qe2 TIx fn args r .ret (mkS T O) := Qe2.ret h
abbrev sL (l : List (List Int)) : AV := .sl (List.map K14 l)
abbrev rI (l : List Int) : Q09 := .arr (List.map I l)
abbrev oI (l : List Int) : AV := .osl (List.map I l)
abbrev sI (l : List Int) : AV := .sl (List.map I l)
abbrev sB (l : List Bool) : AV := .sl (List.map AV.bool l)
abbrev sM {α : Type} (e : α → AV) (l : List α) : AV := .sl (List.map e l)
abbrev rM {α : Type} (e : α → AV) (l : List α) : Q09 := .arr (List.map e l)
abbrev oM {α : Type} (e : α → AV) (l : List α) : AV := .osl (List.map e l)
abbrev zT : Q09 := .box [I 0, I 0, .nils, .nils]
abbrev zS : Q09 := .box [I 0, .nils, .nils, .nils]
theorem fF : false = false := rfl
theorem tt : true = true := rfl
theorem nf : true ≠ false := fun h => nomatch h
theorem ix {e : List Int} {i : Int} {x : Int} (h : idx e i = some x) : 0 ≤ i ∧ (e.map I)[i.toNat]? = some (.int .i64 x) := Qe9 (enc := I) (x := .int .i64 x) h (Qek x)
theorem xL {e : List (List Int)} {i : Int} {x : List Int} (h : idx e i = some x) : 0 ≤ i ∧ (e.map K14)[i.toNat]? = some (.sl (List.map I x)) := Qe9 (enc := K14) (x := .sl (List.map I x)) h (K15 x)
theorem xB {e : List Bool} {i : Int} {x : Bool} (h : idx e i = some x) : 0 ≤ i ∧ (e.map AV.bool)[i.toNat]? = some (.bool x) := Qe9 (enc := AV.bool) (x := .bool x) h (Qem x)
def rep : Nat → Prop → Prop → Prop
  | 0, _, b => b
  | n + 1, a, b => a ∧ rep n a b
theorem ar {a b : Prop} : ∀ (n : Nat) (x : a) (y : b), rep n a b
  | 0, _, y => y
  | n + 1, x, y => ⟨x, ar n x y⟩
theorem is {α : Type} {b : Bool} {x y : Option α} {r : α} (h : (if b = true then x else y) = some r) : (b = true ∧ x = some r) ∨ (b = false ∧ y = some r) := Qe6 h
theorem os {α : Type} {a b : α} (h : some a = some b) : a = b := Option.some.inj h
def rx (l : List (List Nat)) : PLN := some (l.map fun r => match r with | n :: e => List.range n ++ e | [] => [])
def rh (l : List Nat) : PLN := some (l.map List.range)
theorem ai {a b : Prop} (x : a) (y : b) : a ∧ b := ⟨x, y⟩
theorem oi (v : AV) : ([] : List Nat) = [] ∨ noSh v = true := Or.inl rfl
theorem ab {a b r : Prop} (x : a) (y : b) (t : r) : a ∧ b ∧ r := ⟨x, y, t⟩
theorem ac {a b c r : Prop} (x : a) (y : b) (z : c) (t : r) : a ∧ b ∧ c ∧ r := ⟨x, y, z, t⟩
theorem ad {a b c d r : Prop} (x : a) (y : b) (z : c) (w : d) (t : r) : a ∧ b ∧ c ∧ d ∧ r := ⟨x, y, z, w, t⟩
theorem cq {P : Program} {f : FuncId} {xs : List AV} {os : List AV} {v : AV} {b r : Prop} (x : Q77 P f xs v os) (y : b) (t : r) : Q77 P f xs v os ∧ b ∧ (([] : List Nat) = [] ∨ noSh v = true) ∧ r := ⟨x, y, Or.inl rfl, t⟩
abbrev tv : True := trivial
theorem bq2 {α β γ : Type} {x : Option α} {f : α → Option β} {g : α → β → Option γ} {r : γ} (h : (x >>= fun a => f a >>= fun b => g a b) = some r) : ∃ a, x = some a ∧ ∃ b, f a = some b ∧ g a b = some r := let ⟨a, ha, h⟩ := Qe5 h; let ⟨b, hb, h⟩ := Qe5 h; ⟨a, ha, b, hb, h⟩
theorem bq3 {α β γ δ : Type} {x : Option α} {f : α → Option β} {g : α → β → Option γ} {k : α → β → γ → Option δ} {r : δ} (h : (x >>= fun a => f a >>= fun b => g a b >>= fun c => k a b c) = some r) : ∃ a, x = some a ∧ ∃ b, f a = some b ∧ ∃ c, g a b = some c ∧ k a b c = some r := let ⟨a, ha, b, hb, h⟩ := bq2 h; let ⟨c, hc, h⟩ := Qe5 h; ⟨a, ha, b, hb, c, hc, h⟩
theorem bq4 {α β γ δ ε : Type} {x : Option α} {f : α → Option β} {g : α → β → Option γ} {k : α → β → γ → Option δ} {l : α → β → γ → δ → Option ε} {r : ε} (h : (x >>= fun a => f a >>= fun b => g a b >>= fun c => k a b c >>= fun d => l a b c d) = some r) : ∃ a, x = some a ∧ ∃ b, f a = some b ∧ ∃ c, g a b = some c ∧ ∃ d, k a b c = some d ∧ l a b c d = some r := let ⟨a, ha, b, hb, c, hc, h⟩ := bq3 h; let ⟨d, hd, h⟩ := Qe5 h; ⟨a, ha, b, hb, c, hc, d, hd, h⟩
abbrev oN : Option Orc := some .no
abbrev oF : Option Orc := some (.cond false)
abbrev oT : Option Orc := some (.cond true)
abbrev o_ : Option Orc := none
abbrev nN (k : Nat) (l : RL) : RL := List.replicate k oN ++ l
abbrev n_ (k : Nat) (l : RL) : RL := List.replicate k o_ ++ l
abbrev oc (v : AV) : Option Orc := some (.call v [] 1)
abbrev eL (v : AV) : Option Orc := some (.el v)
abbrev eB (b : Bool) : Option Orc := some (.el (.bool b))
abbrev nW (k : Nat) : Option Orc := some (.new k)
abbrev mK (k : Nat) : Option Orc := some (.mk k true)
abbrev nQ (w : Wr) : Option Orc := some (.eqv .no w)
end Go.Am
