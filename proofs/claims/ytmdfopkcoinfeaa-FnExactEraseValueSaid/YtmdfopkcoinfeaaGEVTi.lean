/- The table of types, and the bodies. Printed by a program of mine (gen.py). -/
import Derived.Test.YtmdfopkcoinfeaaGEVTy
import Derived.Test.YtmdfopkcoinfeaaChecked
set_option linter.unusedVariables false
set_option linter.unusedSimpArgs false
set_option maxRecDepth 100000
namespace Go.Am
open Go Go.Proofs
def tis : List (Nat × TInfo) := [(25, ⟨.struct [(0, 3), (1, 22), (2, 22), (3, 23)], 4, 80, .agg [.int .i64 0, .nils, .nils, .nils]⟩),
  (22, ⟨.slice 3, 1, 24, .nils⟩),
  (28, ⟨.struct [(0, 3), (1, 3), (2, 22), (3, 26)], 4, 64, .agg [.int .i64 0, .int .i64 0, .nils, .nils]⟩),
  (4, ⟨.bool, 1, 1, .bool false⟩),
  (3, ⟨.int .i64, 1, 8, .int .i64 0⟩),
  (23, ⟨.slice 4, 1, 24, .nils⟩),
  (26, ⟨.slice 28, 1, 24, .nils⟩),
  (32, ⟨.struct [(0, 3), (1, 22), (2, 22), (3, 23)], 4, 80, .agg [.int .i64 0, .nils, .nils, .nils]⟩),
  (37, ⟨.struct [(0, 3), (1, 3), (2, 22), (3, 35)], 4, 64, .agg [.int .i64 0, .int .i64 0, .nils, .nils]⟩),
  (35, ⟨.slice 37, 1, 24, .nils⟩),
  (69, ⟨.slice 22, 1, 24, .nils⟩)]
def TIx : Nat → Option TInfo := lk none (tis.map fun p => (p.1, some p.2))
theorem ti_25 : TFact Try.prog 25 ⟨.struct [(0, 3), (1, 22), (2, 22), (3, 23)], 4, 80, .agg [.int .i64 0, .nils, .nils, .nils]⟩ := ⟨by kernel_rfl, by kernel_rfl, by kernel_rfl, by kernel_rfl⟩
theorem ti_22 : TFact Try.prog 22 ⟨.slice 3, 1, 24, .nils⟩ := ⟨by kernel_rfl, by kernel_rfl, by kernel_rfl, by kernel_rfl⟩
theorem ti_28 : TFact Try.prog 28 ⟨.struct [(0, 3), (1, 3), (2, 22), (3, 26)], 4, 64, .agg [.int .i64 0, .int .i64 0, .nils, .nils]⟩ := ⟨by kernel_rfl, by kernel_rfl, by kernel_rfl, by kernel_rfl⟩
theorem ti_4 : TFact Try.prog 4 ⟨.bool, 1, 1, .bool false⟩ := ⟨by kernel_rfl, by kernel_rfl, by kernel_rfl, by kernel_rfl⟩
theorem ti_3 : TFact Try.prog 3 ⟨.int .i64, 1, 8, .int .i64 0⟩ := ⟨by kernel_rfl, by kernel_rfl, by kernel_rfl, by kernel_rfl⟩
theorem ti_23 : TFact Try.prog 23 ⟨.slice 4, 1, 24, .nils⟩ := ⟨by kernel_rfl, by kernel_rfl, by kernel_rfl, by kernel_rfl⟩
theorem ti_26 : TFact Try.prog 26 ⟨.slice 28, 1, 24, .nils⟩ := ⟨by kernel_rfl, by kernel_rfl, by kernel_rfl, by kernel_rfl⟩
theorem ti_32 : TFact Try.prog 32 ⟨.struct [(0, 3), (1, 22), (2, 22), (3, 23)], 4, 80, .agg [.int .i64 0, .nils, .nils, .nils]⟩ := ⟨by kernel_rfl, by kernel_rfl, by kernel_rfl, by kernel_rfl⟩
theorem ti_37 : TFact Try.prog 37 ⟨.struct [(0, 3), (1, 3), (2, 22), (3, 35)], 4, 64, .agg [.int .i64 0, .int .i64 0, .nils, .nils]⟩ := ⟨by kernel_rfl, by kernel_rfl, by kernel_rfl, by kernel_rfl⟩
theorem ti_35 : TFact Try.prog 35 ⟨.slice 37, 1, 24, .nils⟩ := ⟨by kernel_rfl, by kernel_rfl, by kernel_rfl, by kernel_rfl⟩
theorem ti_69 : TFact Try.prog 69 ⟨.slice 22, 1, 24, .nils⟩ := ⟨by kernel_rfl, by kernel_rfl, by kernel_rfl, by kernel_rfl⟩
theorem tiok : TIok Try.prog TIx := TIok.of_list tis (by
  intro p hp
  simp only [tis, List.mem_cons, List.not_mem_nil, or_false] at hp
  rcases hp with rfl | rfl | rfl | rfl | rfl | rfl | rfl | rfl | rfl | rfl | rfl
  · exact ti_25
  · exact ti_22
  · exact ti_28
  · exact ti_4
  · exact ti_3
  · exact ti_23
  · exact ti_26
  · exact ti_32
  · exact ti_37
  · exact ti_35
  · exact ti_69)
theorem mix : Try.prog.follows .mixedOrders = true := Try.checked.mixed
noncomputable def B30 : Code := Try.f30.body.getD .skip
theorem bod_30 : Bodied Try.prog 30 := bodied (fn := Try.f30) (by kernel_rfl) (by kernel_rfl) (by kernel_rfl)
noncomputable def B31 : Code := Try.f31.body.getD .skip
theorem bod_31 : Bodied Try.prog 31 := bodied (fn := Try.f31) (by kernel_rfl) (by kernel_rfl) (by kernel_rfl)
noncomputable def B8 : Code := Try.f8.body.getD .skip
theorem bod_8 : Bodied Try.prog 8 := bodied (fn := Try.f8) (by kernel_rfl) (by kernel_rfl) (by kernel_rfl)
noncomputable def B32 : Code := Try.f32.body.getD .skip
theorem bod_32 : Bodied Try.prog 32 := bodied (fn := Try.f32) (by kernel_rfl) (by kernel_rfl) (by kernel_rfl)
noncomputable def B9 : Code := Try.f9.body.getD .skip
theorem bod_9 : Bodied Try.prog 9 := bodied (fn := Try.f9) (by kernel_rfl) (by kernel_rfl) (by kernel_rfl)
noncomputable def B12 : Code := Try.f12.body.getD .skip
theorem bod_12 : Bodied Try.prog 12 := bodied (fn := Try.f12) (by kernel_rfl) (by kernel_rfl) (by kernel_rfl)
noncomputable def B37 : Code := Try.f37.body.getD .skip
theorem bod_37 : Bodied Try.prog 37 := bodied (fn := Try.f37) (by kernel_rfl) (by kernel_rfl) (by kernel_rfl)
noncomputable def B11 : Code := Try.f11.body.getD .skip
theorem bod_11 : Bodied Try.prog 11 := bodied (fn := Try.f11) (by kernel_rfl) (by kernel_rfl) (by kernel_rfl)
noncomputable def B38 : Code := Try.f38.body.getD .skip
theorem bod_38 : Bodied Try.prog 38 := bodied (fn := Try.f38) (by kernel_rfl) (by kernel_rfl) (by kernel_rfl)
noncomputable def B13 : Code := Try.f13.body.getD .skip
theorem bod_13 : Bodied Try.prog 13 := bodied (fn := Try.f13) (by kernel_rfl) (by kernel_rfl) (by kernel_rfl)
noncomputable def B57 : Code := Try.f57.body.getD .skip
theorem bod_57 : Bodied Try.prog 57 := bodied (fn := Try.f57) (by kernel_rfl) (by kernel_rfl) (by kernel_rfl)
noncomputable def B111 : Code := Try.f111.body.getD .skip
theorem bod_111 : Bodied Try.prog 111 := bodied (fn := Try.f111) (by kernel_rfl) (by kernel_rfl) (by kernel_rfl)
noncomputable def B115 : Code := Try.f115.body.getD .skip
theorem bod_115 : Bodied Try.prog 115 := bodied (fn := Try.f115) (by kernel_rfl) (by kernel_rfl) (by kernel_rfl)
noncomputable def B116 : Code := Try.f116.body.getD .skip
theorem bod_116 : Bodied Try.prog 116 := bodied (fn := Try.f116) (by kernel_rfl) (by kernel_rfl) (by kernel_rfl)
noncomputable def B117 : Code := Try.f117.body.getD .skip
theorem bod_117 : Bodied Try.prog 117 := bodied (fn := Try.f117) (by kernel_rfl) (by kernel_rfl) (by kernel_rfl)
noncomputable def B112 : Code := Try.f112.body.getD .skip
theorem bod_112 : Bodied Try.prog 112 := bodied (fn := Try.f112) (by kernel_rfl) (by kernel_rfl) (by kernel_rfl)
noncomputable def B142 : Code := Try.f142.body.getD .skip
theorem bod_142 : Bodied Try.prog 142 := bodied (fn := Try.f142) (by kernel_rfl) (by kernel_rfl) (by kernel_rfl)
noncomputable def B113 : Code := Try.f113.body.getD .skip
theorem bod_113 : Bodied Try.prog 113 := bodied (fn := Try.f113) (by kernel_rfl) (by kernel_rfl) (by kernel_rfl)
noncomputable def B114 : Code := Try.f114.body.getD .skip
theorem bod_114 : Bodied Try.prog 114 := bodied (fn := Try.f114) (by kernel_rfl) (by kernel_rfl) (by kernel_rfl)
noncomputable def B80 : Code := Try.f80.body.getD .skip
theorem bod_80 : Bodied Try.prog 80 := bodied (fn := Try.f80) (by kernel_rfl) (by kernel_rfl) (by kernel_rfl)
noncomputable def B81 : Code := Try.f81.body.getD .skip
theorem bod_81 : Bodied Try.prog 81 := bodied (fn := Try.f81) (by kernel_rfl) (by kernel_rfl) (by kernel_rfl)
noncomputable def B44 : Code := Try.f44.body.getD .skip
theorem bod_44 : Bodied Try.prog 44 := bodied (fn := Try.f44) (by kernel_rfl) (by kernel_rfl) (by kernel_rfl)
noncomputable def B137 : Code := Try.f137.body.getD .skip
theorem bod_137 : Bodied Try.prog 137 := bodied (fn := Try.f137) (by kernel_rfl) (by kernel_rfl) (by kernel_rfl)
noncomputable def B73 : Code := Try.f73.body.getD .skip
theorem bod_73 : Bodied Try.prog 73 := bodied (fn := Try.f73) (by kernel_rfl) (by kernel_rfl) (by kernel_rfl)
noncomputable def B138 : Code := Try.f138.body.getD .skip
theorem bod_138 : Bodied Try.prog 138 := bodied (fn := Try.f138) (by kernel_rfl) (by kernel_rfl) (by kernel_rfl)
noncomputable def B108 : Code := Try.f108.body.getD .skip
theorem bod_108 : Bodied Try.prog 108 := bodied (fn := Try.f108) (by kernel_rfl) (by kernel_rfl) (by kernel_rfl)
noncomputable def B135 : Code := Try.f135.body.getD .skip
theorem bod_135 : Bodied Try.prog 135 := bodied (fn := Try.f135) (by kernel_rfl) (by kernel_rfl) (by kernel_rfl)
noncomputable def B74 : Code := Try.f74.body.getD .skip
theorem bod_74 : Bodied Try.prog 74 := bodied (fn := Try.f74) (by kernel_rfl) (by kernel_rfl) (by kernel_rfl)
noncomputable def B136 : Code := Try.f136.body.getD .skip
theorem bod_136 : Bodied Try.prog 136 := bodied (fn := Try.f136) (by kernel_rfl) (by kernel_rfl) (by kernel_rfl)
noncomputable def B105 : Code := Try.f105.body.getD .skip
theorem bod_105 : Bodied Try.prog 105 := bodied (fn := Try.f105) (by kernel_rfl) (by kernel_rfl) (by kernel_rfl)
noncomputable def B106 : Code := Try.f106.body.getD .skip
theorem bod_106 : Bodied Try.prog 106 := bodied (fn := Try.f106) (by kernel_rfl) (by kernel_rfl) (by kernel_rfl)
noncomputable def B67 : Code := Try.f67.body.getD .skip
theorem bod_67 : Bodied Try.prog 67 := bodied (fn := Try.f67) (by kernel_rfl) (by kernel_rfl) (by kernel_rfl)
noncomputable def B97 : Code := Try.f97.body.getD .skip
theorem bod_97 : Bodied Try.prog 97 := bodied (fn := Try.f97) (by kernel_rfl) (by kernel_rfl) (by kernel_rfl)
noncomputable def B146 : Code := Try.f146.body.getD .skip
theorem bod_146 : Bodied Try.prog 146 := bodied (fn := Try.f146) (by kernel_rfl) (by kernel_rfl) (by kernel_rfl)
noncomputable def B147 : Code := Try.f147.body.getD .skip
theorem bod_147 : Bodied Try.prog 147 := bodied (fn := Try.f147) (by kernel_rfl) (by kernel_rfl) (by kernel_rfl)
noncomputable def B148 : Code := Try.f148.body.getD .skip
theorem bod_148 : Bodied Try.prog 148 := bodied (fn := Try.f148) (by kernel_rfl) (by kernel_rfl) (by kernel_rfl)
noncomputable def B131 : Code := Try.f131.body.getD .skip
theorem bod_131 : Bodied Try.prog 131 := bodied (fn := Try.f131) (by kernel_rfl) (by kernel_rfl) (by kernel_rfl)
noncomputable def B100 : Code := Try.f100.body.getD .skip
theorem bod_100 : Bodied Try.prog 100 := bodied (fn := Try.f100) (by kernel_rfl) (by kernel_rfl) (by kernel_rfl)
noncomputable def B98 : Code := Try.f98.body.getD .skip
theorem bod_98 : Bodied Try.prog 98 := bodied (fn := Try.f98) (by kernel_rfl) (by kernel_rfl) (by kernel_rfl)
noncomputable def B69 : Code := Try.f69.body.getD .skip
theorem bod_69 : Bodied Try.prog 69 := bodied (fn := Try.f69) (by kernel_rfl) (by kernel_rfl) (by kernel_rfl)
noncomputable def B99 : Code := Try.f99.body.getD .skip
theorem bod_99 : Bodied Try.prog 99 := bodied (fn := Try.f99) (by kernel_rfl) (by kernel_rfl) (by kernel_rfl)
noncomputable def B72 : Code := Try.f72.body.getD .skip
theorem bod_72 : Bodied Try.prog 72 := bodied (fn := Try.f72) (by kernel_rfl) (by kernel_rfl) (by kernel_rfl)
noncomputable def B70 : Code := Try.f70.body.getD .skip
theorem bod_70 : Bodied Try.prog 70 := bodied (fn := Try.f70) (by kernel_rfl) (by kernel_rfl) (by kernel_rfl)
noncomputable def B71 : Code := Try.f71.body.getD .skip
theorem bod_71 : Bodied Try.prog 71 := bodied (fn := Try.f71) (by kernel_rfl) (by kernel_rfl) (by kernel_rfl)
noncomputable def B34 : Code := Try.f34.body.getD .skip
theorem bod_34 : Bodied Try.prog 34 := bodied (fn := Try.f34) (by kernel_rfl) (by kernel_rfl) (by kernel_rfl)
noncomputable def B82 : Code := Try.f82.body.getD .skip
theorem bod_82 : Bodied Try.prog 82 := bodied (fn := Try.f82) (by kernel_rfl) (by kernel_rfl) (by kernel_rfl)
noncomputable def B103 : Code := Try.f103.body.getD .skip
theorem bod_103 : Bodied Try.prog 103 := bodied (fn := Try.f103) (by kernel_rfl) (by kernel_rfl) (by kernel_rfl)
noncomputable def B64 : Code := Try.f64.body.getD .skip
theorem bod_64 : Bodied Try.prog 64 := bodied (fn := Try.f64) (by kernel_rfl) (by kernel_rfl) (by kernel_rfl)
noncomputable def B26 : Code := Try.f26.body.getD .skip
theorem bod_26 : Bodied Try.prog 26 := bodied (fn := Try.f26) (by kernel_rfl) (by kernel_rfl) (by kernel_rfl)
noncomputable def B61 : Code := Try.f61.body.getD .skip
theorem bod_61 : Bodied Try.prog 61 := bodied (fn := Try.f61) (by kernel_rfl) (by kernel_rfl) (by kernel_rfl)
noncomputable def B84 : Code := Try.f84.body.getD .skip
theorem bod_84 : Bodied Try.prog 84 := bodied (fn := Try.f84) (by kernel_rfl) (by kernel_rfl) (by kernel_rfl)
noncomputable def B118 : Code := Try.f118.body.getD .skip
theorem bod_118 : Bodied Try.prog 118 := bodied (fn := Try.f118) (by kernel_rfl) (by kernel_rfl) (by kernel_rfl)
noncomputable def B119 : Code := Try.f119.body.getD .skip
theorem bod_119 : Bodied Try.prog 119 := bodied (fn := Try.f119) (by kernel_rfl) (by kernel_rfl) (by kernel_rfl)
noncomputable def B120 : Code := Try.f120.body.getD .skip
theorem bod_120 : Bodied Try.prog 120 := bodied (fn := Try.f120) (by kernel_rfl) (by kernel_rfl) (by kernel_rfl)
noncomputable def B121 : Code := Try.f121.body.getD .skip
theorem bod_121 : Bodied Try.prog 121 := bodied (fn := Try.f121) (by kernel_rfl) (by kernel_rfl) (by kernel_rfl)
noncomputable def B122 : Code := Try.f122.body.getD .skip
theorem bod_122 : Bodied Try.prog 122 := bodied (fn := Try.f122) (by kernel_rfl) (by kernel_rfl) (by kernel_rfl)
noncomputable def B83 : Code := Try.f83.body.getD .skip
theorem bod_83 : Bodied Try.prog 83 := bodied (fn := Try.f83) (by kernel_rfl) (by kernel_rfl) (by kernel_rfl)
noncomputable def B85 : Code := Try.f85.body.getD .skip
theorem bod_85 : Bodied Try.prog 85 := bodied (fn := Try.f85) (by kernel_rfl) (by kernel_rfl) (by kernel_rfl)
noncomputable def B46 : Code := Try.f46.body.getD .skip
theorem bod_46 : Bodied Try.prog 46 := bodied (fn := Try.f46) (by kernel_rfl) (by kernel_rfl) (by kernel_rfl)
noncomputable def B77 : Code := Try.f77.body.getD .skip
theorem bod_77 : Bodied Try.prog 77 := bodied (fn := Try.f77) (by kernel_rfl) (by kernel_rfl) (by kernel_rfl)
noncomputable def B110 : Code := Try.f110.body.getD .skip
theorem bod_110 : Bodied Try.prog 110 := bodied (fn := Try.f110) (by kernel_rfl) (by kernel_rfl) (by kernel_rfl)
noncomputable def B134 : Code := Try.f134.body.getD .skip
theorem bod_134 : Bodied Try.prog 134 := bodied (fn := Try.f134) (by kernel_rfl) (by kernel_rfl) (by kernel_rfl)
noncomputable def B139 : Code := Try.f139.body.getD .skip
theorem bod_139 : Bodied Try.prog 139 := bodied (fn := Try.f139) (by kernel_rfl) (by kernel_rfl) (by kernel_rfl)
noncomputable def B141 : Code := Try.f141.body.getD .skip
theorem bod_141 : Bodied Try.prog 141 := bodied (fn := Try.f141) (by kernel_rfl) (by kernel_rfl) (by kernel_rfl)
noncomputable def B151 : Code := Try.f151.body.getD .skip
theorem bod_151 : Bodied Try.prog 151 := bodied (fn := Try.f151) (by kernel_rfl) (by kernel_rfl) (by kernel_rfl)
noncomputable def B140 : Code := Try.f140.body.getD .skip
theorem bod_140 : Bodied Try.prog 140 := bodied (fn := Try.f140) (by kernel_rfl) (by kernel_rfl) (by kernel_rfl)
noncomputable def B109 : Code := Try.f109.body.getD .skip
theorem bod_109 : Bodied Try.prog 109 := bodied (fn := Try.f109) (by kernel_rfl) (by kernel_rfl) (by kernel_rfl)
noncomputable def B75 : Code := Try.f75.body.getD .skip
theorem bod_75 : Bodied Try.prog 75 := bodied (fn := Try.f75) (by kernel_rfl) (by kernel_rfl) (by kernel_rfl)
noncomputable def B78 : Code := Try.f78.body.getD .skip
theorem bod_78 : Bodied Try.prog 78 := bodied (fn := Try.f78) (by kernel_rfl) (by kernel_rfl) (by kernel_rfl)
noncomputable def B40 : Code := Try.f40.body.getD .skip
theorem bod_40 : Bodied Try.prog 40 := bodied (fn := Try.f40) (by kernel_rfl) (by kernel_rfl) (by kernel_rfl)
noncomputable def B79 : Code := Try.f79.body.getD .skip
theorem bod_79 : Bodied Try.prog 79 := bodied (fn := Try.f79) (by kernel_rfl) (by kernel_rfl) (by kernel_rfl)
noncomputable def B47 : Code := Try.f47.body.getD .skip
theorem bod_47 : Bodied Try.prog 47 := bodied (fn := Try.f47) (by kernel_rfl) (by kernel_rfl) (by kernel_rfl)
noncomputable def B102 : Code := Try.f102.body.getD .skip
theorem bod_102 : Bodied Try.prog 102 := bodied (fn := Try.f102) (by kernel_rfl) (by kernel_rfl) (by kernel_rfl)
noncomputable def B63 : Code := Try.f63.body.getD .skip
theorem bod_63 : Bodied Try.prog 63 := bodied (fn := Try.f63) (by kernel_rfl) (by kernel_rfl) (by kernel_rfl)
noncomputable def B65 : Code := Try.f65.body.getD .skip
theorem bod_65 : Bodied Try.prog 65 := bodied (fn := Try.f65) (by kernel_rfl) (by kernel_rfl) (by kernel_rfl)
noncomputable def B123 : Code := Try.f123.body.getD .skip
theorem bod_123 : Bodied Try.prog 123 := bodied (fn := Try.f123) (by kernel_rfl) (by kernel_rfl) (by kernel_rfl)
noncomputable def B86 : Code := Try.f86.body.getD .skip
theorem bod_86 : Bodied Try.prog 86 := bodied (fn := Try.f86) (by kernel_rfl) (by kernel_rfl) (by kernel_rfl)
noncomputable def B104 : Code := Try.f104.body.getD .skip
theorem bod_104 : Bodied Try.prog 104 := bodied (fn := Try.f104) (by kernel_rfl) (by kernel_rfl) (by kernel_rfl)
noncomputable def B27 : Code := Try.f27.body.getD .skip
theorem bod_27 : Bodied Try.prog 27 := bodied (fn := Try.f27) (by kernel_rfl) (by kernel_rfl) (by kernel_rfl)
noncomputable def B16 : Code := Try.f16.body.getD .skip
theorem bod_16 : Bodied Try.prog 16 := bodied (fn := Try.f16) (by kernel_rfl) (by kernel_rfl) (by kernel_rfl)
noncomputable def B43 : Code := Try.f43.body.getD .skip
theorem bod_43 : Bodied Try.prog 43 := bodied (fn := Try.f43) (by kernel_rfl) (by kernel_rfl) (by kernel_rfl)
noncomputable def B17 : Code := Try.f17.body.getD .skip
theorem bod_17 : Bodied Try.prog 17 := bodied (fn := Try.f17) (by kernel_rfl) (by kernel_rfl) (by kernel_rfl)
noncomputable def B42 : Code := Try.f42.body.getD .skip
theorem bod_42 : Bodied Try.prog 42 := bodied (fn := Try.f42) (by kernel_rfl) (by kernel_rfl) (by kernel_rfl)
noncomputable def B15 : Code := Try.f15.body.getD .skip
theorem bod_15 : Bodied Try.prog 15 := bodied (fn := Try.f15) (by kernel_rfl) (by kernel_rfl) (by kernel_rfl)
noncomputable def B29 : Code := Try.f29.body.getD .skip
theorem bod_29 : Bodied Try.prog 29 := bodied (fn := Try.f29) (by kernel_rfl) (by kernel_rfl) (by kernel_rfl)
noncomputable def B66 : Code := Try.f66.body.getD .skip
theorem bod_66 : Bodied Try.prog 66 := bodied (fn := Try.f66) (by kernel_rfl) (by kernel_rfl) (by kernel_rfl)
noncomputable def B28 : Code := Try.f28.body.getD .skip
theorem bod_28 : Bodied Try.prog 28 := bodied (fn := Try.f28) (by kernel_rfl) (by kernel_rfl) (by kernel_rfl)
noncomputable def B53 : Code := Try.f53.body.getD .skip
theorem bod_53 : Bodied Try.prog 53 := bodied (fn := Try.f53) (by kernel_rfl) (by kernel_rfl) (by kernel_rfl)
noncomputable def B22 : Code := Try.f22.body.getD .skip
theorem bod_22 : Bodied Try.prog 22 := bodied (fn := Try.f22) (by kernel_rfl) (by kernel_rfl) (by kernel_rfl)
noncomputable def B54 : Code := Try.f54.body.getD .skip
theorem bod_54 : Bodied Try.prog 54 := bodied (fn := Try.f54) (by kernel_rfl) (by kernel_rfl) (by kernel_rfl)
noncomputable def B55 : Code := Try.f55.body.getD .skip
theorem bod_55 : Bodied Try.prog 55 := bodied (fn := Try.f55) (by kernel_rfl) (by kernel_rfl) (by kernel_rfl)
noncomputable def B23 : Code := Try.f23.body.getD .skip
theorem bod_23 : Bodied Try.prog 23 := bodied (fn := Try.f23) (by kernel_rfl) (by kernel_rfl) (by kernel_rfl)
noncomputable def B7 : Code := Try.f7.body.getD .skip
theorem bod_7 : Bodied Try.prog 7 := bodied (fn := Try.f7) (by kernel_rfl) (by kernel_rfl) (by kernel_rfl)

theorem rg {c : Ctx} {code : Code} {Q : Exit → AState → Prop} {nt : Nat} (hnt : c.nt = nt) (ah : Option (List (List Nat))) (rs : List (Option Orc)) {T : List (Nat × AV)} {O : List (Nat × AObj)} (T' : List (Nat × AV)) (O' : List (Nat × AObj)) {A : Prop} (h : A)
    (hQ : Q .normal (mkS T' O')) (hk : Nat.beq (ckind code) 0 = true := by kernel_rfl) (e1 : (evRegion TIx Try.prog nt (rops code) ah rs T O (T'.map (·.1)) (O'.map (·.1))).map (fun r => (r.T, keepO r.O)) = some (T', O') := by kernel_rfl)
    (e2 : A = obsOf (evRegion TIx Try.prog nt (rops code) ah rs T O (T'.map (·.1)) (O'.map (·.1))) := by kernel_rfl) (hdraw : ((!rdraw code && ah.isNone) || ah.isSome) = true := by kernel_rfl) : Wp Try.prog c code Q (mkS T O) := Wp.reg tiok mix hnt hk e1 h e2 hdraw hQ
theorem rg0 {c : Ctx} {code : Code} {Q : Exit → AState → Prop} {nt : Nat} (hnt : c.nt = nt) (n : Nat) {T : List (Nat × AV)} {O : List (Nat × AObj)} (T' : List (Nat × AV)) (O' : List (Nat × AObj))
    (hQ : Q .normal (mkS T' O')) (hk : Nat.beq (ckind code) 0 = true := by kernel_rfl) (e1 : (evRegion TIx Try.prog nt (rops code) none (List.replicate n (some .no)) T O (T'.map (·.1)) (O'.map (·.1))).map (fun r => (r.T, keepO r.O)) = some (T', O') := by kernel_rfl)
    (e2 : True = obsOf (evRegion TIx Try.prog nt (rops code) none (List.replicate n (some .no)) T O (T'.map (·.1)) (O'.map (·.1))) := by kernel_rfl) (hdraw : ((!rdraw code && true) || false) = true := by kernel_rfl) : Wp Try.prog c code Q (mkS T O) := Wp.reg tiok mix hnt hk e1 trivial e2 hdraw hQ
theorem ix {e : List Int} {i : Int} {x : Int} (h : idx e i = some x) : 0 ≤ i ∧ (e.map I)[i.toNat]? = some (.int .i64 x) := idx_sl (enc := I) (x := .int .i64 x) h (eq_I x)
def rep : Nat → Prop → Prop → Prop
  | 0, _, b => b
  | n + 1, a, b => a ∧ rep n a b
theorem ar {a b : Prop} : ∀ (n : Nat) (x : a) (y : b), rep n a b
  | 0, _, y => y
  | n + 1, x, y => ⟨x, ar n x y⟩
abbrev sI (l : List Int) : AV := .sl (List.map I l)
abbrev sB (l : List Bool) : AV := .sl (List.map AV.bool l)
def rx (l : List (List Nat)) : Option (List (List Nat)) := some (l.map fun r => match r with | n :: e => List.range n ++ e | [] => [])
def rh (l : List Nat) : Option (List (List Nat)) := some (l.map List.range)
theorem ai {a b : Prop} (x : a) (y : b) : a ∧ b := ⟨x, y⟩
theorem oi (v : AV) : ([] : List Nat) = [] ∨ noSh v = true := Or.inl rfl
theorem tt : true = true := rfl
theorem nf : true ≠ false := fun h => nomatch h
abbrev oN : Option Orc := some .no
abbrev oF : Option Orc := some (.cond false)
abbrev oT : Option Orc := some (.cond true)
abbrev o_ : Option Orc := none
abbrev oc (v : AV) : Option Orc := some (.call v [] 1)
theorem sN {c : Ctx} {code : Code} {Q : Exit → AState → Prop} {σ : AState} (h : Wp Try.prog c (cl code) (seqQ Try.prog c (cr code) Q) σ) (hk : Nat.beq (ckind code) 1 = true := by kernel_rfl) : Wp Try.prog c code Q σ := Wp.seqN hk h
theorem cT {c : Ctx} {code : Code} {Q : Exit → AState → Prop} {σ : AState} (b : Bool) (hb : b = true) (h1 : Wp Try.prog c (cl code) Q σ) (hk : Nat.beq (ckind code) 2 = true := by kernel_rfl) (hx : opv σ (copd code) = .bool b := by kernel_rfl) : Wp Try.prog c code Q σ := Wp.condT hk hx hb h1
theorem cF {c : Ctx} {code : Code} {Q : Exit → AState → Prop} {σ : AState} (b : Bool) (hb : b = false) (h1 : Wp Try.prog c (cr code) Q σ) (hk : Nat.beq (ckind code) 2 = true := by kernel_rfl) (hx : opv σ (copd code) = .bool b := by kernel_rfl) : Wp Try.prog c code Q σ := Wp.condF hk hx hb h1
end Go.Am
