/- The table of types, and the bodies. Printed by a program of mine (gen.py). -/
import Derived.Test.YtmcpomoofkjfcaaGreatGFITy
import Derived.Test.YtmcpomoofkjfcaaGreatChecked
set_option linter.unusedVariables false
set_option linter.unusedSimpArgs false
set_option maxRecDepth 100000
namespace Go.Am
open Go Go.Proofs
def tis : List (Nat × TInfo) := [(25, ⟨.struct [(0, 3), (1, 22), (2, 22), (3, 23)], 4, 80, .agg [.int .i64 0, .nils, .nils, .nils]⟩),
  (26, ⟨.slice 22, 1, 24, .nils⟩),
  (22, ⟨.slice 3, 1, 24, .nils⟩),
  (29, ⟨.struct [(0, 3), (1, 3), (2, 22), (3, 27)], 4, 64, .agg [.int .i64 0, .int .i64 0, .nils, .nils]⟩),
  (4, ⟨.bool, 1, 1, .bool false⟩),
  (3, ⟨.int .i64, 1, 8, .int .i64 0⟩),
  (23, ⟨.slice 4, 1, 24, .nils⟩),
  (27, ⟨.slice 29, 1, 24, .nils⟩),
  (35, ⟨.struct [(0, 3), (1, 22), (2, 22), (3, 23)], 4, 80, .agg [.int .i64 0, .nils, .nils, .nils]⟩),
  (40, ⟨.struct [(0, 3), (1, 3), (2, 22), (3, 38)], 4, 64, .agg [.int .i64 0, .int .i64 0, .nils, .nils]⟩),
  (38, ⟨.slice 40, 1, 24, .nils⟩),
  (89, ⟨.struct [(0, 22), (1, 22), (2, 3), (3, 22)], 4, 80, .agg [.nils, .nils, .int .i64 0, .nils]⟩),
  (93, ⟨.pointer 97, 1, 8, .nilp⟩),
  (179, ⟨.struct [(0, 9), (1, 3), (2, 4), (3, 4)], 4, 32, .agg [.str ByteArray.empty, .int .i64 0, .bool false, .bool false]⟩),
  (9, ⟨.string, 1, 16, .str ByteArray.empty⟩),
  (204, ⟨.slice 179, 1, 24, .nils⟩),
  (160, ⟨.struct [(0, 35)], 4, 80, .agg [.int .i64 0, .nils, .nils, .nils]⟩),
  (97, ⟨.struct [(0, 22), (1, 22), (2, 95), (3, 3), (4, 22)], 5, 104, .agg [.nils, .nils, .nils, .int .i64 0, .nils]⟩),
  (95, ⟨.slice 93, 1, 24, .nils⟩),
  (199, ⟨.slice 26, 1, 24, .nils⟩)]
def TIx : Nat → Option TInfo := lk none (tis.map fun p => (p.1, some p.2))
theorem ti_25 : TFact Tryz.prog 25 ⟨.struct [(0, 3), (1, 22), (2, 22), (3, 23)], 4, 80, .agg [.int .i64 0, .nils, .nils, .nils]⟩ := ⟨by kernel_rfl, by kernel_rfl, by kernel_rfl, by kernel_rfl⟩
theorem ti_26 : TFact Tryz.prog 26 ⟨.slice 22, 1, 24, .nils⟩ := ⟨by kernel_rfl, by kernel_rfl, by kernel_rfl, by kernel_rfl⟩
theorem ti_22 : TFact Tryz.prog 22 ⟨.slice 3, 1, 24, .nils⟩ := ⟨by kernel_rfl, by kernel_rfl, by kernel_rfl, by kernel_rfl⟩
theorem ti_29 : TFact Tryz.prog 29 ⟨.struct [(0, 3), (1, 3), (2, 22), (3, 27)], 4, 64, .agg [.int .i64 0, .int .i64 0, .nils, .nils]⟩ := ⟨by kernel_rfl, by kernel_rfl, by kernel_rfl, by kernel_rfl⟩
theorem ti_4 : TFact Tryz.prog 4 ⟨.bool, 1, 1, .bool false⟩ := ⟨by kernel_rfl, by kernel_rfl, by kernel_rfl, by kernel_rfl⟩
theorem ti_3 : TFact Tryz.prog 3 ⟨.int .i64, 1, 8, .int .i64 0⟩ := ⟨by kernel_rfl, by kernel_rfl, by kernel_rfl, by kernel_rfl⟩
theorem ti_23 : TFact Tryz.prog 23 ⟨.slice 4, 1, 24, .nils⟩ := ⟨by kernel_rfl, by kernel_rfl, by kernel_rfl, by kernel_rfl⟩
theorem ti_27 : TFact Tryz.prog 27 ⟨.slice 29, 1, 24, .nils⟩ := ⟨by kernel_rfl, by kernel_rfl, by kernel_rfl, by kernel_rfl⟩
theorem ti_35 : TFact Tryz.prog 35 ⟨.struct [(0, 3), (1, 22), (2, 22), (3, 23)], 4, 80, .agg [.int .i64 0, .nils, .nils, .nils]⟩ := ⟨by kernel_rfl, by kernel_rfl, by kernel_rfl, by kernel_rfl⟩
theorem ti_40 : TFact Tryz.prog 40 ⟨.struct [(0, 3), (1, 3), (2, 22), (3, 38)], 4, 64, .agg [.int .i64 0, .int .i64 0, .nils, .nils]⟩ := ⟨by kernel_rfl, by kernel_rfl, by kernel_rfl, by kernel_rfl⟩
theorem ti_38 : TFact Tryz.prog 38 ⟨.slice 40, 1, 24, .nils⟩ := ⟨by kernel_rfl, by kernel_rfl, by kernel_rfl, by kernel_rfl⟩
theorem ti_89 : TFact Tryz.prog 89 ⟨.struct [(0, 22), (1, 22), (2, 3), (3, 22)], 4, 80, .agg [.nils, .nils, .int .i64 0, .nils]⟩ := ⟨by kernel_rfl, by kernel_rfl, by kernel_rfl, by kernel_rfl⟩
theorem ti_93 : TFact Tryz.prog 93 ⟨.pointer 97, 1, 8, .nilp⟩ := ⟨by kernel_rfl, by kernel_rfl, by kernel_rfl, by kernel_rfl⟩
theorem ti_179 : TFact Tryz.prog 179 ⟨.struct [(0, 9), (1, 3), (2, 4), (3, 4)], 4, 32, .agg [.str ByteArray.empty, .int .i64 0, .bool false, .bool false]⟩ := ⟨by kernel_rfl, by kernel_rfl, by kernel_rfl, by kernel_rfl⟩
theorem ti_9 : TFact Tryz.prog 9 ⟨.string, 1, 16, .str ByteArray.empty⟩ := ⟨by kernel_rfl, by kernel_rfl, by kernel_rfl, by kernel_rfl⟩
theorem ti_204 : TFact Tryz.prog 204 ⟨.slice 179, 1, 24, .nils⟩ := ⟨by kernel_rfl, by kernel_rfl, by kernel_rfl, by kernel_rfl⟩
theorem ti_160 : TFact Tryz.prog 160 ⟨.struct [(0, 35)], 4, 80, .agg [.int .i64 0, .nils, .nils, .nils]⟩ := ⟨by kernel_rfl, by kernel_rfl, by kernel_rfl, by kernel_rfl⟩
theorem ti_97 : TFact Tryz.prog 97 ⟨.struct [(0, 22), (1, 22), (2, 95), (3, 3), (4, 22)], 5, 104, .agg [.nils, .nils, .nils, .int .i64 0, .nils]⟩ := ⟨by kernel_rfl, by kernel_rfl, by kernel_rfl, by kernel_rfl⟩
theorem ti_95 : TFact Tryz.prog 95 ⟨.slice 93, 1, 24, .nils⟩ := ⟨by kernel_rfl, by kernel_rfl, by kernel_rfl, by kernel_rfl⟩
theorem ti_199 : TFact Tryz.prog 199 ⟨.slice 26, 1, 24, .nils⟩ := ⟨by kernel_rfl, by kernel_rfl, by kernel_rfl, by kernel_rfl⟩
theorem tiok : TIok Tryz.prog TIx := TIok.of_list tis (by
  intro p hp
  simp only [tis, List.mem_cons, List.not_mem_nil, or_false] at hp
  rcases hp with rfl | rfl | rfl | rfl | rfl | rfl | rfl | rfl | rfl | rfl | rfl | rfl | rfl | rfl | rfl | rfl | rfl | rfl | rfl | rfl
  · exact ti_25
  · exact ti_26
  · exact ti_22
  · exact ti_29
  · exact ti_4
  · exact ti_3
  · exact ti_23
  · exact ti_27
  · exact ti_35
  · exact ti_40
  · exact ti_38
  · exact ti_89
  · exact ti_93
  · exact ti_179
  · exact ti_9
  · exact ti_204
  · exact ti_160
  · exact ti_97
  · exact ti_95
  · exact ti_199)
theorem mix : Tryz.prog.follows .mixedOrders = true := Tryz.checked.mixed
noncomputable def B69 : Code := Tryz.f69.body.getD .skip
theorem bod_69 : Bodied Tryz.prog 69 := bodied (fn := Tryz.f69) (by kernel_rfl) (by kernel_rfl) (by kernel_rfl)
noncomputable def B70 : Code := Tryz.f70.body.getD .skip
theorem bod_70 : Bodied Tryz.prog 70 := bodied (fn := Tryz.f70) (by kernel_rfl) (by kernel_rfl) (by kernel_rfl)
noncomputable def B15 : Code := Tryz.f15.body.getD .skip
theorem bod_15 : Bodied Tryz.prog 15 := bodied (fn := Tryz.f15) (by kernel_rfl) (by kernel_rfl) (by kernel_rfl)
noncomputable def B16 : Code := Tryz.f16.body.getD .skip
theorem bod_16 : Bodied Tryz.prog 16 := bodied (fn := Tryz.f16) (by kernel_rfl) (by kernel_rfl) (by kernel_rfl)
noncomputable def B71 : Code := Tryz.f71.body.getD .skip
theorem bod_71 : Bodied Tryz.prog 71 := bodied (fn := Tryz.f71) (by kernel_rfl) (by kernel_rfl) (by kernel_rfl)
noncomputable def B17 : Code := Tryz.f17.body.getD .skip
theorem bod_17 : Bodied Tryz.prog 17 := bodied (fn := Tryz.f17) (by kernel_rfl) (by kernel_rfl) (by kernel_rfl)
noncomputable def B35 : Code := Tryz.f35.body.getD .skip
theorem bod_35 : Bodied Tryz.prog 35 := bodied (fn := Tryz.f35) (by kernel_rfl) (by kernel_rfl) (by kernel_rfl)
noncomputable def B74 : Code := Tryz.f74.body.getD .skip
theorem bod_74 : Bodied Tryz.prog 74 := bodied (fn := Tryz.f74) (by kernel_rfl) (by kernel_rfl) (by kernel_rfl)
noncomputable def B19 : Code := Tryz.f19.body.getD .skip
theorem bod_19 : Bodied Tryz.prog 19 := bodied (fn := Tryz.f19) (by kernel_rfl) (by kernel_rfl) (by kernel_rfl)
noncomputable def B20 : Code := Tryz.f20.body.getD .skip
theorem bod_20 : Bodied Tryz.prog 20 := bodied (fn := Tryz.f20) (by kernel_rfl) (by kernel_rfl) (by kernel_rfl)
noncomputable def B75 : Code := Tryz.f75.body.getD .skip
theorem bod_75 : Bodied Tryz.prog 75 := bodied (fn := Tryz.f75) (by kernel_rfl) (by kernel_rfl) (by kernel_rfl)
noncomputable def B21 : Code := Tryz.f21.body.getD .skip
theorem bod_21 : Bodied Tryz.prog 21 := bodied (fn := Tryz.f21) (by kernel_rfl) (by kernel_rfl) (by kernel_rfl)
noncomputable def B100 : Code := Tryz.f100.body.getD .skip
theorem bod_100 : Bodied Tryz.prog 100 := bodied (fn := Tryz.f100) (by kernel_rfl) (by kernel_rfl) (by kernel_rfl)
noncomputable def B202 : Code := Tryz.f202.body.getD .skip
theorem bod_202 : Bodied Tryz.prog 202 := bodied (fn := Tryz.f202) (by kernel_rfl) (by kernel_rfl) (by kernel_rfl)
noncomputable def B206 : Code := Tryz.f206.body.getD .skip
theorem bod_206 : Bodied Tryz.prog 206 := bodied (fn := Tryz.f206) (by kernel_rfl) (by kernel_rfl) (by kernel_rfl)
noncomputable def B168 : Code := Tryz.f168.body.getD .skip
theorem bod_168 : Bodied Tryz.prog 168 := bodied (fn := Tryz.f168) (by kernel_rfl) (by kernel_rfl) (by kernel_rfl)
noncomputable def B149 : Code := Tryz.f149.body.getD .skip
theorem bod_149 : Bodied Tryz.prog 149 := bodied (fn := Tryz.f149) (by kernel_rfl) (by kernel_rfl) (by kernel_rfl)
noncomputable def B203 : Code := Tryz.f203.body.getD .skip
theorem bod_203 : Bodied Tryz.prog 203 := bodied (fn := Tryz.f203) (by kernel_rfl) (by kernel_rfl) (by kernel_rfl)
noncomputable def B215 : Code := Tryz.f215.body.getD .skip
theorem bod_215 : Bodied Tryz.prog 215 := bodied (fn := Tryz.f215) (by kernel_rfl) (by kernel_rfl) (by kernel_rfl)
noncomputable def B204 : Code := Tryz.f204.body.getD .skip
theorem bod_204 : Bodied Tryz.prog 204 := bodied (fn := Tryz.f204) (by kernel_rfl) (by kernel_rfl) (by kernel_rfl)
noncomputable def B205 : Code := Tryz.f205.body.getD .skip
theorem bod_205 : Bodied Tryz.prog 205 := bodied (fn := Tryz.f205) (by kernel_rfl) (by kernel_rfl) (by kernel_rfl)
noncomputable def B139 : Code := Tryz.f139.body.getD .skip
theorem bod_139 : Bodied Tryz.prog 139 := bodied (fn := Tryz.f139) (by kernel_rfl) (by kernel_rfl) (by kernel_rfl)
noncomputable def B150 : Code := Tryz.f150.body.getD .skip
theorem bod_150 : Bodied Tryz.prog 150 := bodied (fn := Tryz.f150) (by kernel_rfl) (by kernel_rfl) (by kernel_rfl)
noncomputable def B166 : Code := Tryz.f166.body.getD .skip
theorem bod_166 : Bodied Tryz.prog 166 := bodied (fn := Tryz.f166) (by kernel_rfl) (by kernel_rfl) (by kernel_rfl)
noncomputable def B214 : Code := Tryz.f214.body.getD .skip
theorem bod_214 : Bodied Tryz.prog 214 := bodied (fn := Tryz.f214) (by kernel_rfl) (by kernel_rfl) (by kernel_rfl)
noncomputable def B207 : Code := Tryz.f207.body.getD .skip
theorem bod_207 : Bodied Tryz.prog 207 := bodied (fn := Tryz.f207) (by kernel_rfl) (by kernel_rfl) (by kernel_rfl)
noncomputable def B164 : Code := Tryz.f164.body.getD .skip
theorem bod_164 : Bodied Tryz.prog 164 := bodied (fn := Tryz.f164) (by kernel_rfl) (by kernel_rfl) (by kernel_rfl)
noncomputable def B152 : Code := Tryz.f152.body.getD .skip
theorem bod_152 : Bodied Tryz.prog 152 := bodied (fn := Tryz.f152) (by kernel_rfl) (by kernel_rfl) (by kernel_rfl)
noncomputable def B165 : Code := Tryz.f165.body.getD .skip
theorem bod_165 : Bodied Tryz.prog 165 := bodied (fn := Tryz.f165) (by kernel_rfl) (by kernel_rfl) (by kernel_rfl)
noncomputable def B140 : Code := Tryz.f140.body.getD .skip
theorem bod_140 : Bodied Tryz.prog 140 := bodied (fn := Tryz.f140) (by kernel_rfl) (by kernel_rfl) (by kernel_rfl)
noncomputable def B115 : Code := Tryz.f115.body.getD .skip
theorem bod_115 : Bodied Tryz.prog 115 := bodied (fn := Tryz.f115) (by kernel_rfl) (by kernel_rfl) (by kernel_rfl)
noncomputable def B241 : Code := Tryz.f241.body.getD .skip
theorem bod_241 : Bodied Tryz.prog 241 := bodied (fn := Tryz.f241) (by kernel_rfl) (by kernel_rfl) (by kernel_rfl)
noncomputable def B242 : Code := Tryz.f242.body.getD .skip
theorem bod_242 : Bodied Tryz.prog 242 := bodied (fn := Tryz.f242) (by kernel_rfl) (by kernel_rfl) (by kernel_rfl)
noncomputable def B243 : Code := Tryz.f243.body.getD .skip
theorem bod_243 : Bodied Tryz.prog 243 := bodied (fn := Tryz.f243) (by kernel_rfl) (by kernel_rfl) (by kernel_rfl)
noncomputable def B212 : Code := Tryz.f212.body.getD .skip
theorem bod_212 : Bodied Tryz.prog 212 := bodied (fn := Tryz.f212) (by kernel_rfl) (by kernel_rfl) (by kernel_rfl)
noncomputable def B157 : Code := Tryz.f157.body.getD .skip
theorem bod_157 : Bodied Tryz.prog 157 := bodied (fn := Tryz.f157) (by kernel_rfl) (by kernel_rfl) (by kernel_rfl)
noncomputable def B161 : Code := Tryz.f161.body.getD .skip
theorem bod_161 : Bodied Tryz.prog 161 := bodied (fn := Tryz.f161) (by kernel_rfl) (by kernel_rfl) (by kernel_rfl)
noncomputable def B141 : Code := Tryz.f141.body.getD .skip
theorem bod_141 : Bodied Tryz.prog 141 := bodied (fn := Tryz.f141) (by kernel_rfl) (by kernel_rfl) (by kernel_rfl)
noncomputable def B72 : Code := Tryz.f72.body.getD .skip
theorem bod_72 : Bodied Tryz.prog 72 := bodied (fn := Tryz.f72) (by kernel_rfl) (by kernel_rfl) (by kernel_rfl)
noncomputable def B142 : Code := Tryz.f142.body.getD .skip
theorem bod_142 : Bodied Tryz.prog 142 := bodied (fn := Tryz.f142) (by kernel_rfl) (by kernel_rfl) (by kernel_rfl)
noncomputable def B93 : Code := Tryz.f93.body.getD .skip
theorem bod_93 : Bodied Tryz.prog 93 := bodied (fn := Tryz.f93) (by kernel_rfl) (by kernel_rfl) (by kernel_rfl)
noncomputable def B105 : Code := Tryz.f105.body.getD .skip
theorem bod_105 : Bodied Tryz.prog 105 := bodied (fn := Tryz.f105) (by kernel_rfl) (by kernel_rfl) (by kernel_rfl)
noncomputable def B143 : Code := Tryz.f143.body.getD .skip
theorem bod_143 : Bodied Tryz.prog 143 := bodied (fn := Tryz.f143) (by kernel_rfl) (by kernel_rfl) (by kernel_rfl)
noncomputable def B144 : Code := Tryz.f144.body.getD .skip
theorem bod_144 : Bodied Tryz.prog 144 := bodied (fn := Tryz.f144) (by kernel_rfl) (by kernel_rfl) (by kernel_rfl)
noncomputable def B145 : Code := Tryz.f145.body.getD .skip
theorem bod_145 : Bodied Tryz.prog 145 := bodied (fn := Tryz.f145) (by kernel_rfl) (by kernel_rfl) (by kernel_rfl)
noncomputable def B147 : Code := Tryz.f147.body.getD .skip
theorem bod_147 : Bodied Tryz.prog 147 := bodied (fn := Tryz.f147) (by kernel_rfl) (by kernel_rfl) (by kernel_rfl)
noncomputable def B148 : Code := Tryz.f148.body.getD .skip
theorem bod_148 : Bodied Tryz.prog 148 := bodied (fn := Tryz.f148) (by kernel_rfl) (by kernel_rfl) (by kernel_rfl)
noncomputable def B146 : Code := Tryz.f146.body.getD .skip
theorem bod_146 : Bodied Tryz.prog 146 := bodied (fn := Tryz.f146) (by kernel_rfl) (by kernel_rfl) (by kernel_rfl)
noncomputable def B151 : Code := Tryz.f151.body.getD .skip
theorem bod_151 : Bodied Tryz.prog 151 := bodied (fn := Tryz.f151) (by kernel_rfl) (by kernel_rfl) (by kernel_rfl)
noncomputable def B82 : Code := Tryz.f82.body.getD .skip
theorem bod_82 : Bodied Tryz.prog 82 := bodied (fn := Tryz.f82) (by kernel_rfl) (by kernel_rfl) (by kernel_rfl)
noncomputable def B153 : Code := Tryz.f153.body.getD .skip
theorem bod_153 : Bodied Tryz.prog 153 := bodied (fn := Tryz.f153) (by kernel_rfl) (by kernel_rfl) (by kernel_rfl)
noncomputable def B73 : Code := Tryz.f73.body.getD .skip
theorem bod_73 : Bodied Tryz.prog 73 := bodied (fn := Tryz.f73) (by kernel_rfl) (by kernel_rfl) (by kernel_rfl)
noncomputable def B167 : Code := Tryz.f167.body.getD .skip
theorem bod_167 : Bodied Tryz.prog 167 := bodied (fn := Tryz.f167) (by kernel_rfl) (by kernel_rfl) (by kernel_rfl)
noncomputable def B18 : Code := Tryz.f18.body.getD .skip
theorem bod_18 : Bodied Tryz.prog 18 := bodied (fn := Tryz.f18) (by kernel_rfl) (by kernel_rfl) (by kernel_rfl)
noncomputable def B83 : Code := Tryz.f83.body.getD .skip
theorem bod_83 : Bodied Tryz.prog 83 := bodied (fn := Tryz.f83) (by kernel_rfl) (by kernel_rfl) (by kernel_rfl)
noncomputable def B34 : Code := Tryz.f34.body.getD .skip
theorem bod_34 : Bodied Tryz.prog 34 := bodied (fn := Tryz.f34) (by kernel_rfl) (by kernel_rfl) (by kernel_rfl)
noncomputable def B108 : Code := Tryz.f108.body.getD .skip
theorem bod_108 : Bodied Tryz.prog 108 := bodied (fn := Tryz.f108) (by kernel_rfl) (by kernel_rfl) (by kernel_rfl)
noncomputable def B85 : Code := Tryz.f85.body.getD .skip
theorem bod_85 : Bodied Tryz.prog 85 := bodied (fn := Tryz.f85) (by kernel_rfl) (by kernel_rfl) (by kernel_rfl)
noncomputable def B169 : Code := Tryz.f169.body.getD .skip
theorem bod_169 : Bodied Tryz.prog 169 := bodied (fn := Tryz.f169) (by kernel_rfl) (by kernel_rfl) (by kernel_rfl)
noncomputable def B170 : Code := Tryz.f170.body.getD .skip
theorem bod_170 : Bodied Tryz.prog 170 := bodied (fn := Tryz.f170) (by kernel_rfl) (by kernel_rfl) (by kernel_rfl)
noncomputable def B86 : Code := Tryz.f86.body.getD .skip
theorem bod_86 : Bodied Tryz.prog 86 := bodied (fn := Tryz.f86) (by kernel_rfl) (by kernel_rfl) (by kernel_rfl)
noncomputable def B171 : Code := Tryz.f171.body.getD .skip
theorem bod_171 : Bodied Tryz.prog 171 := bodied (fn := Tryz.f171) (by kernel_rfl) (by kernel_rfl) (by kernel_rfl)
noncomputable def B172 : Code := Tryz.f172.body.getD .skip
theorem bod_172 : Bodied Tryz.prog 172 := bodied (fn := Tryz.f172) (by kernel_rfl) (by kernel_rfl) (by kernel_rfl)
noncomputable def B109 : Code := Tryz.f109.body.getD .skip
theorem bod_109 : Bodied Tryz.prog 109 := bodied (fn := Tryz.f109) (by kernel_rfl) (by kernel_rfl) (by kernel_rfl)
noncomputable def B182 : Code := Tryz.f182.body.getD .skip
theorem bod_182 : Bodied Tryz.prog 182 := bodied (fn := Tryz.f182) (by kernel_rfl) (by kernel_rfl) (by kernel_rfl)
noncomputable def B186 : Code := Tryz.f186.body.getD .skip
theorem bod_186 : Bodied Tryz.prog 186 := bodied (fn := Tryz.f186) (by kernel_rfl) (by kernel_rfl) (by kernel_rfl)
noncomputable def B118 : Code := Tryz.f118.body.getD .skip
theorem bod_118 : Bodied Tryz.prog 118 := bodied (fn := Tryz.f118) (by kernel_rfl) (by kernel_rfl) (by kernel_rfl)
noncomputable def B210 : Code := Tryz.f210.body.getD .skip
theorem bod_210 : Bodied Tryz.prog 210 := bodied (fn := Tryz.f210) (by kernel_rfl) (by kernel_rfl) (by kernel_rfl)
noncomputable def B209 : Code := Tryz.f209.body.getD .skip
theorem bod_209 : Bodied Tryz.prog 209 := bodied (fn := Tryz.f209) (by kernel_rfl) (by kernel_rfl) (by kernel_rfl)
noncomputable def B240 : Code := Tryz.f240.body.getD .skip
theorem bod_240 : Bodied Tryz.prog 240 := bodied (fn := Tryz.f240) (by kernel_rfl) (by kernel_rfl) (by kernel_rfl)
noncomputable def B208 : Code := Tryz.f208.body.getD .skip
theorem bod_208 : Bodied Tryz.prog 208 := bodied (fn := Tryz.f208) (by kernel_rfl) (by kernel_rfl) (by kernel_rfl)
noncomputable def B154 : Code := Tryz.f154.body.getD .skip
theorem bod_154 : Bodied Tryz.prog 154 := bodied (fn := Tryz.f154) (by kernel_rfl) (by kernel_rfl) (by kernel_rfl)
noncomputable def B184 : Code := Tryz.f184.body.getD .skip
theorem bod_184 : Bodied Tryz.prog 184 := bodied (fn := Tryz.f184) (by kernel_rfl) (by kernel_rfl) (by kernel_rfl)
noncomputable def B211 : Code := Tryz.f211.body.getD .skip
theorem bod_211 : Bodied Tryz.prog 211 := bodied (fn := Tryz.f211) (by kernel_rfl) (by kernel_rfl) (by kernel_rfl)
noncomputable def B185 : Code := Tryz.f185.body.getD .skip
theorem bod_185 : Bodied Tryz.prog 185 := bodied (fn := Tryz.f185) (by kernel_rfl) (by kernel_rfl) (by kernel_rfl)
noncomputable def B117 : Code := Tryz.f117.body.getD .skip
theorem bod_117 : Bodied Tryz.prog 117 := bodied (fn := Tryz.f117) (by kernel_rfl) (by kernel_rfl) (by kernel_rfl)
noncomputable def B155 : Code := Tryz.f155.body.getD .skip
theorem bod_155 : Bodied Tryz.prog 155 := bodied (fn := Tryz.f155) (by kernel_rfl) (by kernel_rfl) (by kernel_rfl)
noncomputable def B178 : Code := Tryz.f178.body.getD .skip
theorem bod_178 : Bodied Tryz.prog 178 := bodied (fn := Tryz.f178) (by kernel_rfl) (by kernel_rfl) (by kernel_rfl)
noncomputable def B174 : Code := Tryz.f174.body.getD .skip
theorem bod_174 : Bodied Tryz.prog 174 := bodied (fn := Tryz.f174) (by kernel_rfl) (by kernel_rfl) (by kernel_rfl)
noncomputable def B219 : Code := Tryz.f219.body.getD .skip
theorem bod_219 : Bodied Tryz.prog 219 := bodied (fn := Tryz.f219) (by kernel_rfl) (by kernel_rfl) (by kernel_rfl)
noncomputable def B176 : Code := Tryz.f176.body.getD .skip
theorem bod_176 : Bodied Tryz.prog 176 := bodied (fn := Tryz.f176) (by kernel_rfl) (by kernel_rfl) (by kernel_rfl)
noncomputable def B156 : Code := Tryz.f156.body.getD .skip
theorem bod_156 : Bodied Tryz.prog 156 := bodied (fn := Tryz.f156) (by kernel_rfl) (by kernel_rfl) (by kernel_rfl)
noncomputable def B177 : Code := Tryz.f177.body.getD .skip
theorem bod_177 : Bodied Tryz.prog 177 := bodied (fn := Tryz.f177) (by kernel_rfl) (by kernel_rfl) (by kernel_rfl)
noncomputable def B84 : Code := Tryz.f84.body.getD .skip
theorem bod_84 : Bodied Tryz.prog 84 := bodied (fn := Tryz.f84) (by kernel_rfl) (by kernel_rfl) (by kernel_rfl)
noncomputable def B77 : Code := Tryz.f77.body.getD .skip
theorem bod_77 : Bodied Tryz.prog 77 := bodied (fn := Tryz.f77) (by kernel_rfl) (by kernel_rfl) (by kernel_rfl)
noncomputable def B244 : Code := Tryz.f244.body.getD .skip
theorem bod_244 : Bodied Tryz.prog 244 := bodied (fn := Tryz.f244) (by kernel_rfl) (by kernel_rfl) (by kernel_rfl)
noncomputable def B221 : Code := Tryz.f221.body.getD .skip
theorem bod_221 : Bodied Tryz.prog 221 := bodied (fn := Tryz.f221) (by kernel_rfl) (by kernel_rfl) (by kernel_rfl)
noncomputable def B220 : Code := Tryz.f220.body.getD .skip
theorem bod_220 : Bodied Tryz.prog 220 := bodied (fn := Tryz.f220) (by kernel_rfl) (by kernel_rfl) (by kernel_rfl)
noncomputable def B222 : Code := Tryz.f222.body.getD .skip
theorem bod_222 : Bodied Tryz.prog 222 := bodied (fn := Tryz.f222) (by kernel_rfl) (by kernel_rfl) (by kernel_rfl)
noncomputable def B245 : Code := Tryz.f245.body.getD .skip
theorem bod_245 : Bodied Tryz.prog 245 := bodied (fn := Tryz.f245) (by kernel_rfl) (by kernel_rfl) (by kernel_rfl)
noncomputable def B223 : Code := Tryz.f223.body.getD .skip
theorem bod_223 : Bodied Tryz.prog 223 := bodied (fn := Tryz.f223) (by kernel_rfl) (by kernel_rfl) (by kernel_rfl)
noncomputable def B246 : Code := Tryz.f246.body.getD .skip
theorem bod_246 : Bodied Tryz.prog 246 := bodied (fn := Tryz.f246) (by kernel_rfl) (by kernel_rfl) (by kernel_rfl)
noncomputable def B248 : Code := Tryz.f248.body.getD .skip
theorem bod_248 : Bodied Tryz.prog 248 := bodied (fn := Tryz.f248) (by kernel_rfl) (by kernel_rfl) (by kernel_rfl)
noncomputable def B238 : Code := Tryz.f238.body.getD .skip
theorem bod_238 : Bodied Tryz.prog 238 := bodied (fn := Tryz.f238) (by kernel_rfl) (by kernel_rfl) (by kernel_rfl)
noncomputable def B224 : Code := Tryz.f224.body.getD .skip
theorem bod_224 : Bodied Tryz.prog 224 := bodied (fn := Tryz.f224) (by kernel_rfl) (by kernel_rfl) (by kernel_rfl)
noncomputable def B225 : Code := Tryz.f225.body.getD .skip
theorem bod_225 : Bodied Tryz.prog 225 := bodied (fn := Tryz.f225) (by kernel_rfl) (by kernel_rfl) (by kernel_rfl)
noncomputable def B226 : Code := Tryz.f226.body.getD .skip
theorem bod_226 : Bodied Tryz.prog 226 := bodied (fn := Tryz.f226) (by kernel_rfl) (by kernel_rfl) (by kernel_rfl)
noncomputable def B179 : Code := Tryz.f179.body.getD .skip
theorem bod_179 : Bodied Tryz.prog 179 := bodied (fn := Tryz.f179) (by kernel_rfl) (by kernel_rfl) (by kernel_rfl)
noncomputable def B76 : Code := Tryz.f76.body.getD .skip
theorem bod_76 : Bodied Tryz.prog 76 := bodied (fn := Tryz.f76) (by kernel_rfl) (by kernel_rfl) (by kernel_rfl)
noncomputable def B22 : Code := Tryz.f22.body.getD .skip
theorem bod_22 : Bodied Tryz.prog 22 := bodied (fn := Tryz.f22) (by kernel_rfl) (by kernel_rfl) (by kernel_rfl)
noncomputable def B36 : Code := Tryz.f36.body.getD .skip
theorem bod_36 : Bodied Tryz.prog 36 := bodied (fn := Tryz.f36) (by kernel_rfl) (by kernel_rfl) (by kernel_rfl)
noncomputable def B23 : Code := Tryz.f23.body.getD .skip
theorem bod_23 : Bodied Tryz.prog 23 := bodied (fn := Tryz.f23) (by kernel_rfl) (by kernel_rfl) (by kernel_rfl)
noncomputable def B78 : Code := Tryz.f78.body.getD .skip
theorem bod_78 : Bodied Tryz.prog 78 := bodied (fn := Tryz.f78) (by kernel_rfl) (by kernel_rfl) (by kernel_rfl)
noncomputable def B24 : Code := Tryz.f24.body.getD .skip
theorem bod_24 : Bodied Tryz.prog 24 := bodied (fn := Tryz.f24) (by kernel_rfl) (by kernel_rfl) (by kernel_rfl)
noncomputable def B25 : Code := Tryz.f25.body.getD .skip
theorem bod_25 : Bodied Tryz.prog 25 := bodied (fn := Tryz.f25) (by kernel_rfl) (by kernel_rfl) (by kernel_rfl)
noncomputable def B79 : Code := Tryz.f79.body.getD .skip
theorem bod_79 : Bodied Tryz.prog 79 := bodied (fn := Tryz.f79) (by kernel_rfl) (by kernel_rfl) (by kernel_rfl)
noncomputable def B26 : Code := Tryz.f26.body.getD .skip
theorem bod_26 : Bodied Tryz.prog 26 := bodied (fn := Tryz.f26) (by kernel_rfl) (by kernel_rfl) (by kernel_rfl)
noncomputable def B5 : Code := Tryz.f5.body.getD .skip
theorem bod_5 : Bodied Tryz.prog 5 := bodied (fn := Tryz.f5) (by kernel_rfl) (by kernel_rfl) (by kernel_rfl)

theorem rg {c : Ctx} {code : Code} {Q : Exit → AState → Prop} {nt : Nat} (hnt : c.nt = nt) (ah : Option (List (List Nat))) (rs : List (Option Orc)) {T : List (Nat × AV)} {O : List (Nat × AObj)} (T' : List (Nat × AV)) (O' : List (Nat × AObj)) {A : Prop} (h : A)
    (hQ : Q .normal (mkS T' O')) (hk : Nat.beq (ckind code) 0 = true := by kernel_rfl) (e1 : (evRegion TIx Tryz.prog nt (rops code) ah rs T O (T'.map (·.1)) (O'.map (·.1))).map (fun r => (r.T, keepO r.O)) = some (T', O') := by kernel_rfl)
    (e2 : A = obsOf (evRegion TIx Tryz.prog nt (rops code) ah rs T O (T'.map (·.1)) (O'.map (·.1))) := by kernel_rfl) (hdraw : ((!rdraw code && ah.isNone) || ah.isSome) = true := by kernel_rfl) : Wp Tryz.prog c code Q (mkS T O) := Wp.reg tiok mix hnt hk e1 h e2 hdraw hQ
theorem rg0 {c : Ctx} {code : Code} {Q : Exit → AState → Prop} {nt : Nat} (hnt : c.nt = nt) (n : Nat) {T : List (Nat × AV)} {O : List (Nat × AObj)} (T' : List (Nat × AV)) (O' : List (Nat × AObj))
    (hQ : Q .normal (mkS T' O')) (hk : Nat.beq (ckind code) 0 = true := by kernel_rfl) (e1 : (evRegion TIx Tryz.prog nt (rops code) none (List.replicate n (some .no)) T O (T'.map (·.1)) (O'.map (·.1))).map (fun r => (r.T, keepO r.O)) = some (T', O') := by kernel_rfl)
    (e2 : True = obsOf (evRegion TIx Tryz.prog nt (rops code) none (List.replicate n (some .no)) T O (T'.map (·.1)) (O'.map (·.1))) := by kernel_rfl) (hdraw : ((!rdraw code && true) || false) = true := by kernel_rfl) : Wp Tryz.prog c code Q (mkS T O) := Wp.reg tiok mix hnt hk e1 trivial e2 hdraw hQ
theorem ix {e : List Int} {i : Int} {x : Int} (h : idx e i = some x) : 0 ≤ i ∧ (e.map I)[i.toNat]? = some (.int .i64 x) := idx_sl (enc := I) (x := .int .i64 x) h (eq_I x)
def rep : Nat → Prop → Prop → Prop
  | 0, _, b => b
  | n + 1, a, b => a ∧ rep n a b
theorem ar {a b : Prop} : ∀ (n : Nat) (x : a) (y : b), rep n a b
  | 0, _, y => y
  | n + 1, x, y => ⟨x, ar n x y⟩
theorem rs {c : Ctx} {code : Code} {Q : Exit → AState → Prop} {nt : Nat} (hnt : c.nt = nt) (ah : Option (List (List Nat))) (rs : List (Option Orc)) {T : List (Nat × AV)} {O : List (Nat × AObj)} (T' : List (Nat × AV)) (O' : List (Nat × AObj)) {A : Prop} (h : A)
    (hQ : Wp Tryz.prog c (cr code) Q (mkS T' O')) (h1 : Nat.beq (ckind code) 1 = true := by kernel_rfl) (hk : Nat.beq (ckind (cl code)) 0 = true := by kernel_rfl) (e1 : (evRegion TIx Tryz.prog nt (rops (cl code)) ah rs T O (T'.map (·.1)) (O'.map (·.1))).map (fun r => (r.T, keepO r.O)) = some (T', O') := by kernel_rfl)
    (e2 : A = obsOf (evRegion TIx Tryz.prog nt (rops (cl code)) ah rs T O (T'.map (·.1)) (O'.map (·.1))) := by kernel_rfl) (hdraw : ((!rdraw (cl code) && ah.isNone) || ah.isSome) = true := by kernel_rfl) : Wp Tryz.prog c code Q (mkS T O) := Wp.seqN h1 (Wp.reg tiok mix hnt hk e1 h e2 hdraw (seqQ_norm hQ))
theorem rs0 {c : Ctx} {code : Code} {Q : Exit → AState → Prop} {nt : Nat} (hnt : c.nt = nt) (n : Nat) {T : List (Nat × AV)} {O : List (Nat × AObj)} (T' : List (Nat × AV)) (O' : List (Nat × AObj))
    (hQ : Wp Tryz.prog c (cr code) Q (mkS T' O')) (h1 : Nat.beq (ckind code) 1 = true := by kernel_rfl) (hk : Nat.beq (ckind (cl code)) 0 = true := by kernel_rfl) (e1 : (evRegion TIx Tryz.prog nt (rops (cl code)) none (List.replicate n (some .no)) T O (T'.map (·.1)) (O'.map (·.1))).map (fun r => (r.T, keepO r.O)) = some (T', O') := by kernel_rfl)
    (e2 : True = obsOf (evRegion TIx Tryz.prog nt (rops (cl code)) none (List.replicate n (some .no)) T O (T'.map (·.1)) (O'.map (·.1))) := by kernel_rfl) (hdraw : ((!rdraw (cl code) && true) || false) = true := by kernel_rfl) : Wp Tryz.prog c code Q (mkS T O) := Wp.seqN h1 (Wp.reg tiok mix hnt hk e1 trivial e2 hdraw (seqQ_norm hQ))
theorem vz {c : Ctx} {code : Code} {Q : Exit → AState → Prop} {T : List (Nat × AV)} {O : List (Nat × AObj)} (k : Nat) {xs xs' : List AV} (hs : shares xs = xs') (T' : List (Nat × AV)) (O' : List (Nat × AObj)) (h : Wp Tryz.prog c code Q (mkS T' O')) (hO : lkO O k = some (.arr xs) := by kernel_rfl)
    (hT : T.map (fun p => (p.1, frz k (.sl xs') p.2)) = T' := by kernel_rfl) (hO' : ((O.filter fun p => !Nat.beq p.1 k).map fun p => (p.1, frzO k (.sl xs') p.2)) = O' := by kernel_rfl) : Wp Tryz.prog c code Q (mkS T O) := Wp.view (fun _ _ hv => SRx.frzL k hv hO hs hT hO') h
theorem vb {c : Ctx} {code : Code} {Q : Exit → AState → Prop} {T : List (Nat × AV)} {O : List (Nat × AObj)} (k : Nat) (cs : List AV) (T' : List (Nat × AV)) (O' : List (Nat × AObj)) (h : Wp Tryz.prog c code Q (mkS T' O')) (hO : lkO O k = some (.box cs) := by kernel_rfl) (hp : cs.all plain = true := by kernel_rfl)
    (hT : T.map (fun p => (p.1, frb k (cs.map nzC) p.2)) = T' := by kernel_rfl) (hO' : ((O.filter fun p => !Nat.beq p.1 k).map fun p => (p.1, frbO k (cs.map nzC) p.2)) = O' := by kernel_rfl) : Wp Tryz.prog c code Q (mkS T O) := Wp.view (fun _ _ hv => SRx.frbL k (cs := cs) hv hO hp hT hO') h
theorem b0 {f : FuncId} (fn : Func) (code : Code) {args : List AV} {res : AV} (nt : Nat) (T : List (Nat × AV)) (h : ∀ c : Ctx, c.nt = nt → Wp Tryz.prog c code (RetQ TIx fn [] res) (mkS T [])) (hf : Tryz.prog.funcs[f]? = some fn := by kernel_rfl) (hb : fn.body = some code := by kernel_rfl) (hok : argsOk args = true := by kernel_rfl) (ha : args.all (fun x => !handed x) = true := by kernel_rfl)
    (hnt : Nat.beq fn.ntmps nt = true := by kernel_rfl) (hle : Nat.ble args.length nt = true := by kernel_rfl) (hT : argsT args = T := by kernel_rfl) (hO : argsO args = [] := by kernel_rfl) : FnSound Tryz.prog f args res [] := FnSound.body0 tiok hf hb hok ha hnt hle hT hO h
theorem iv {c : Ctx} {x : Exit} (ρ : List (Nat × Nat)) {T T' : List (Nat × AV)} {O O' : List (Nat × AObj)} (hT : (T'.map fun p => rn (rnk ρ) p.2) = T'.map fun p => lk .undef T p.1 := by kernel_rfl)
    (hO : (O'.map fun p => some (rnO (rnk ρ) p.2)) = O'.map fun p => lkO O (rnk ρ p.1) := by kernel_rfl) (hB : renB ρ O' = true := by kernel_rfl) : Into c x (mkS T' O') x (mkS T O) := Into.view (fun _ _ hv => SRx.renL ρ hv hT hO hB)
theorem bk {c : Ctx} {code : Code} {Q : Exit → AState → Prop} {σ : AState} (i : Nat) (h : Wp Tryz.prog c (cl code) (blockQ i Q) σ) (hk : (Nat.beq (ckind code) 3 && Nat.beq (cidx code) i) = true := by kernel_rfl) : Wp Tryz.prog c code Q σ := Wp.blockN hk h
theorem xt {c : Ctx} {code : Code} {Q : Exit → AState → Prop} {σ : AState} (i : Nat) (h : Q (.exit i) σ) (hk : (Nat.beq (ckind code) 5 && Nat.beq (cidx code) i) = true := by kernel_rfl) : Wp Tryz.prog c code Q σ := Wp.exitN hk h
theorem lp {c : Ctx} {code : Code} {Q : Exit → AState → Prop} {σ : AState} (h : WpL Tryz.prog c (cl code) Q σ) (hk : Nat.beq (ckind code) 4 = true := by kernel_rfl) : Wp Tryz.prog c code Q σ := Wp.loopN hk h
theorem re {fn : Func} {args : List AV} (fl : List Bool) {T : List (Nat × AV)} {O : List (Nat × AObj)} {res : AV} (h : evFin TIx fn args fl T O = some res := by kernel_rfl) : RetE TIx fn args res .ret (mkS T O) := RetE.ret h
abbrev sL (l : List (List Int)) : AV := .sl (List.map LI_s l)
abbrev rI (l : List Int) : AObj := .arr (List.map I l)
abbrev oI (l : List Int) : AV := .osl (List.map I l)
theorem rt {c : Ctx} {code : Code} {Q : Exit → AState → Prop} {σ : AState} (h : Q .ret σ) (hk : Nat.beq (ckind code) 6 = true := by kernel_rfl) : Wp Tryz.prog c code Q σ := Wp.retN hk h
theorem sk {c : Ctx} {code : Code} {Q : Exit → AState → Prop} {σ : AState} (h : Q .normal σ) (hk : Nat.beq (ckind code) 7 = true := by kernel_rfl) : Wp Tryz.prog c code Q σ := Wp.skipN hk h
theorem rq {fn : Func} {args : List AV} (fl : List Bool) {T : List (Nat × AV)} {O : List (Nat × AObj)} {res : AV} (h : evFin TIx fn args fl T O = some res := by kernel_rfl) : RetQ TIx fn args res .ret (mkS T O) := RetQ.ret h
theorem is {α : Type} {b : Bool} {x y : Option α} {r : α} (h : (if b = true then x else y) = some r) : (b = true ∧ x = some r) ∨ (b = false ∧ y = some r) := itesome h
theorem os {α : Type} {a b : α} (h : some a = some b) : a = b := Option.some.inj h
abbrev sI (l : List Int) : AV := .sl (List.map I l)
abbrev sB (l : List Bool) : AV := .sl (List.map AV.bool l)
def rx (l : List (List Nat)) : Option (List (List Nat)) := some (l.map fun r => match r with | n :: e => List.range n ++ e | [] => [])
def rh (l : List Nat) : Option (List (List Nat)) := some (l.map List.range)
theorem ai {a b : Prop} (x : a) (y : b) : a ∧ b := ⟨x, y⟩
theorem oi (v : AV) : ([] : List Nat) = [] ∨ noSh v = true := Or.inl rfl
theorem tt : true = true := rfl
theorem nf : true ≠ false := fun h => nomatch h
abbrev oN : Option Orc := some .no
abbrev oF : Option Orc := some (.cond false)
abbrev oT : Option Orc := some (.cond true)
abbrev o_ : Option Orc := none
abbrev oc (v : AV) : Option Orc := some (.call v [] 1)
theorem sN {c : Ctx} {code : Code} {Q : Exit → AState → Prop} {σ : AState} (h : Wp Tryz.prog c (cl code) (seqQ Tryz.prog c (cr code) Q) σ) (hk : Nat.beq (ckind code) 1 = true := by kernel_rfl) : Wp Tryz.prog c code Q σ := Wp.seqN hk h
theorem cT {c : Ctx} {code : Code} {Q : Exit → AState → Prop} {σ : AState} (b : Bool) (hb : b = true) (h1 : Wp Tryz.prog c (cl code) Q σ) (hk : Nat.beq (ckind code) 2 = true := by kernel_rfl) (hx : opv σ (copd code) = .bool b := by kernel_rfl) : Wp Tryz.prog c code Q σ := Wp.condT hk hx hb h1
theorem cF {c : Ctx} {code : Code} {Q : Exit → AState → Prop} {σ : AState} (b : Bool) (hb : b = false) (h1 : Wp Tryz.prog c (cr code) Q σ) (hk : Nat.beq (ckind code) 2 = true := by kernel_rfl) (hx : opv σ (copd code) = .bool b := by kernel_rfl) : Wp Tryz.prog c code Q σ := Wp.condF hk hx hb h1
end Go.Am
