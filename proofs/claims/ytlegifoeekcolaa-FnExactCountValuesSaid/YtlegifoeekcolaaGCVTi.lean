/- The table of types, and the bodies. Printed by a program of mine (gen.py). -/
import Derived.Test.YtlegifoeekcolaaGCVTy
import Derived.Test.YtlegifoeekcolaaChecked
set_option linter.unusedVariables false
set_option linter.unusedSimpArgs false
set_option maxRecDepth 100000
namespace Go.Am
open Go Go.Proofs
def tis : List (Nat × TInfo) := [(25, ⟨.struct [(0, 3), (1, 22), (2, 22), (3, 23)], 4, 80, .agg [.int .i64 0, .nils, .nils, .nils]⟩),
  (22, ⟨.slice 3, 1, 24, .nils⟩),
  (4, ⟨.bool, 1, 1, .bool false⟩),
  (3, ⟨.int .i64, 1, 8, .int .i64 0⟩),
  (23, ⟨.slice 4, 1, 24, .nils⟩),
  (30, ⟨.struct [(0, 3), (1, 22), (2, 22), (3, 23)], 4, 80, .agg [.int .i64 0, .nils, .nils, .nils]⟩),
  (59, ⟨.slice 22, 1, 24, .nils⟩)]
def TIx : Nat → Option TInfo := lk none (tis.map fun p => (p.1, some p.2))
theorem ti_25 : TFact Try.prog 25 ⟨.struct [(0, 3), (1, 22), (2, 22), (3, 23)], 4, 80, .agg [.int .i64 0, .nils, .nils, .nils]⟩ := ⟨by kernel_rfl, by kernel_rfl, by kernel_rfl, by kernel_rfl⟩
theorem ti_22 : TFact Try.prog 22 ⟨.slice 3, 1, 24, .nils⟩ := ⟨by kernel_rfl, by kernel_rfl, by kernel_rfl, by kernel_rfl⟩
theorem ti_4 : TFact Try.prog 4 ⟨.bool, 1, 1, .bool false⟩ := ⟨by kernel_rfl, by kernel_rfl, by kernel_rfl, by kernel_rfl⟩
theorem ti_3 : TFact Try.prog 3 ⟨.int .i64, 1, 8, .int .i64 0⟩ := ⟨by kernel_rfl, by kernel_rfl, by kernel_rfl, by kernel_rfl⟩
theorem ti_23 : TFact Try.prog 23 ⟨.slice 4, 1, 24, .nils⟩ := ⟨by kernel_rfl, by kernel_rfl, by kernel_rfl, by kernel_rfl⟩
theorem ti_30 : TFact Try.prog 30 ⟨.struct [(0, 3), (1, 22), (2, 22), (3, 23)], 4, 80, .agg [.int .i64 0, .nils, .nils, .nils]⟩ := ⟨by kernel_rfl, by kernel_rfl, by kernel_rfl, by kernel_rfl⟩
theorem ti_59 : TFact Try.prog 59 ⟨.slice 22, 1, 24, .nils⟩ := ⟨by kernel_rfl, by kernel_rfl, by kernel_rfl, by kernel_rfl⟩
theorem tiok : TIok Try.prog TIx := TIok.of_list tis (by
  intro p hp
  simp only [tis, List.mem_cons, List.not_mem_nil, or_false] at hp
  rcases hp with rfl | rfl | rfl | rfl | rfl | rfl | rfl
  · exact ti_25
  · exact ti_22
  · exact ti_4
  · exact ti_3
  · exact ti_23
  · exact ti_30
  · exact ti_59)
theorem mix : Try.prog.follows .mixedOrders = true := Try.checked.mixed
noncomputable def B44 : Code := Try.f44.body.getD .skip
theorem bod_44 : Bodied Try.prog 44 := bodied (fn := Try.f44) (by kernel_rfl) (by kernel_rfl) (by kernel_rfl)
noncomputable def B45 : Code := Try.f45.body.getD .skip
theorem bod_45 : Bodied Try.prog 45 := bodied (fn := Try.f45) (by kernel_rfl) (by kernel_rfl) (by kernel_rfl)
noncomputable def B11 : Code := Try.f11.body.getD .skip
theorem bod_11 : Bodied Try.prog 11 := bodied (fn := Try.f11) (by kernel_rfl) (by kernel_rfl) (by kernel_rfl)
noncomputable def B27 : Code := Try.f27.body.getD .skip
theorem bod_27 : Bodied Try.prog 27 := bodied (fn := Try.f27) (by kernel_rfl) (by kernel_rfl) (by kernel_rfl)
noncomputable def B48 : Code := Try.f48.body.getD .skip
theorem bod_48 : Bodied Try.prog 48 := bodied (fn := Try.f48) (by kernel_rfl) (by kernel_rfl) (by kernel_rfl)
noncomputable def B14 : Code := Try.f14.body.getD .skip
theorem bod_14 : Bodied Try.prog 14 := bodied (fn := Try.f14) (by kernel_rfl) (by kernel_rfl) (by kernel_rfl)
noncomputable def B70 : Code := Try.f70.body.getD .skip
theorem bod_70 : Bodied Try.prog 70 := bodied (fn := Try.f70) (by kernel_rfl) (by kernel_rfl) (by kernel_rfl)
noncomputable def B85 : Code := Try.f85.body.getD .skip
theorem bod_85 : Bodied Try.prog 85 := bodied (fn := Try.f85) (by kernel_rfl) (by kernel_rfl) (by kernel_rfl)
noncomputable def B118 : Code := Try.f118.body.getD .skip
theorem bod_118 : Bodied Try.prog 118 := bodied (fn := Try.f118) (by kernel_rfl) (by kernel_rfl) (by kernel_rfl)
noncomputable def B119 : Code := Try.f119.body.getD .skip
theorem bod_119 : Bodied Try.prog 119 := bodied (fn := Try.f119) (by kernel_rfl) (by kernel_rfl) (by kernel_rfl)
noncomputable def B90 : Code := Try.f90.body.getD .skip
theorem bod_90 : Bodied Try.prog 90 := bodied (fn := Try.f90) (by kernel_rfl) (by kernel_rfl) (by kernel_rfl)
noncomputable def B86 : Code := Try.f86.body.getD .skip
theorem bod_86 : Bodied Try.prog 86 := bodied (fn := Try.f86) (by kernel_rfl) (by kernel_rfl) (by kernel_rfl)
noncomputable def B120 : Code := Try.f120.body.getD .skip
theorem bod_120 : Bodied Try.prog 120 := bodied (fn := Try.f120) (by kernel_rfl) (by kernel_rfl) (by kernel_rfl)
noncomputable def B87 : Code := Try.f87.body.getD .skip
theorem bod_87 : Bodied Try.prog 87 := bodied (fn := Try.f87) (by kernel_rfl) (by kernel_rfl) (by kernel_rfl)
noncomputable def B88 : Code := Try.f88.body.getD .skip
theorem bod_88 : Bodied Try.prog 88 := bodied (fn := Try.f88) (by kernel_rfl) (by kernel_rfl) (by kernel_rfl)
noncomputable def B46 : Code := Try.f46.body.getD .skip
theorem bod_46 : Bodied Try.prog 46 := bodied (fn := Try.f46) (by kernel_rfl) (by kernel_rfl) (by kernel_rfl)
noncomputable def B116 : Code := Try.f116.body.getD .skip
theorem bod_116 : Bodied Try.prog 116 := bodied (fn := Try.f116) (by kernel_rfl) (by kernel_rfl) (by kernel_rfl)
noncomputable def B132 : Code := Try.f132.body.getD .skip
theorem bod_132 : Bodied Try.prog 132 := bodied (fn := Try.f132) (by kernel_rfl) (by kernel_rfl) (by kernel_rfl)
noncomputable def B114 : Code := Try.f114.body.getD .skip
theorem bod_114 : Bodied Try.prog 114 := bodied (fn := Try.f114) (by kernel_rfl) (by kernel_rfl) (by kernel_rfl)
noncomputable def B127 : Code := Try.f127.body.getD .skip
theorem bod_127 : Bodied Try.prog 127 := bodied (fn := Try.f127) (by kernel_rfl) (by kernel_rfl) (by kernel_rfl)
noncomputable def B125 : Code := Try.f125.body.getD .skip
theorem bod_125 : Bodied Try.prog 125 := bodied (fn := Try.f125) (by kernel_rfl) (by kernel_rfl) (by kernel_rfl)
noncomputable def B135 : Code := Try.f135.body.getD .skip
theorem bod_135 : Bodied Try.prog 135 := bodied (fn := Try.f135) (by kernel_rfl) (by kernel_rfl) (by kernel_rfl)
noncomputable def B126 : Code := Try.f126.body.getD .skip
theorem bod_126 : Bodied Try.prog 126 := bodied (fn := Try.f126) (by kernel_rfl) (by kernel_rfl) (by kernel_rfl)
noncomputable def B106 : Code := Try.f106.body.getD .skip
theorem bod_106 : Bodied Try.prog 106 := bodied (fn := Try.f106) (by kernel_rfl) (by kernel_rfl) (by kernel_rfl)
noncomputable def B107 : Code := Try.f107.body.getD .skip
theorem bod_107 : Bodied Try.prog 107 := bodied (fn := Try.f107) (by kernel_rfl) (by kernel_rfl) (by kernel_rfl)
noncomputable def B66 : Code := Try.f66.body.getD .skip
theorem bod_66 : Bodied Try.prog 66 := bodied (fn := Try.f66) (by kernel_rfl) (by kernel_rfl) (by kernel_rfl)
noncomputable def B103 : Code := Try.f103.body.getD .skip
theorem bod_103 : Bodied Try.prog 103 := bodied (fn := Try.f103) (by kernel_rfl) (by kernel_rfl) (by kernel_rfl)
noncomputable def B109 : Code := Try.f109.body.getD .skip
theorem bod_109 : Bodied Try.prog 109 := bodied (fn := Try.f109) (by kernel_rfl) (by kernel_rfl) (by kernel_rfl)
noncomputable def B67 : Code := Try.f67.body.getD .skip
theorem bod_67 : Bodied Try.prog 67 := bodied (fn := Try.f67) (by kernel_rfl) (by kernel_rfl) (by kernel_rfl)
noncomputable def B108 : Code := Try.f108.body.getD .skip
theorem bod_108 : Bodied Try.prog 108 := bodied (fn := Try.f108) (by kernel_rfl) (by kernel_rfl) (by kernel_rfl)
noncomputable def B26 : Code := Try.f26.body.getD .skip
theorem bod_26 : Bodied Try.prog 26 := bodied (fn := Try.f26) (by kernel_rfl) (by kernel_rfl) (by kernel_rfl)
noncomputable def B91 : Code := Try.f91.body.getD .skip
theorem bod_91 : Bodied Try.prog 91 := bodied (fn := Try.f91) (by kernel_rfl) (by kernel_rfl) (by kernel_rfl)
noncomputable def B111 : Code := Try.f111.body.getD .skip
theorem bod_111 : Bodied Try.prog 111 := bodied (fn := Try.f111) (by kernel_rfl) (by kernel_rfl) (by kernel_rfl)
noncomputable def B131 : Code := Try.f131.body.getD .skip
theorem bod_131 : Bodied Try.prog 131 := bodied (fn := Try.f131) (by kernel_rfl) (by kernel_rfl) (by kernel_rfl)
noncomputable def B124 : Code := Try.f124.body.getD .skip
theorem bod_124 : Bodied Try.prog 124 := bodied (fn := Try.f124) (by kernel_rfl) (by kernel_rfl) (by kernel_rfl)
noncomputable def B53 : Code := Try.f53.body.getD .skip
theorem bod_53 : Bodied Try.prog 53 := bodied (fn := Try.f53) (by kernel_rfl) (by kernel_rfl) (by kernel_rfl)
noncomputable def B128 : Code := Try.f128.body.getD .skip
theorem bod_128 : Bodied Try.prog 128 := bodied (fn := Try.f128) (by kernel_rfl) (by kernel_rfl) (by kernel_rfl)
noncomputable def B130 : Code := Try.f130.body.getD .skip
theorem bod_130 : Bodied Try.prog 130 := bodied (fn := Try.f130) (by kernel_rfl) (by kernel_rfl) (by kernel_rfl)
noncomputable def B136 : Code := Try.f136.body.getD .skip
theorem bod_136 : Bodied Try.prog 136 := bodied (fn := Try.f136) (by kernel_rfl) (by kernel_rfl) (by kernel_rfl)
noncomputable def B129 : Code := Try.f129.body.getD .skip
theorem bod_129 : Bodied Try.prog 129 := bodied (fn := Try.f129) (by kernel_rfl) (by kernel_rfl) (by kernel_rfl)
noncomputable def B110 : Code := Try.f110.body.getD .skip
theorem bod_110 : Bodied Try.prog 110 := bodied (fn := Try.f110) (by kernel_rfl) (by kernel_rfl) (by kernel_rfl)
noncomputable def B92 : Code := Try.f92.body.getD .skip
theorem bod_92 : Bodied Try.prog 92 := bodied (fn := Try.f92) (by kernel_rfl) (by kernel_rfl) (by kernel_rfl)
noncomputable def B93 : Code := Try.f93.body.getD .skip
theorem bod_93 : Bodied Try.prog 93 := bodied (fn := Try.f93) (by kernel_rfl) (by kernel_rfl) (by kernel_rfl)
noncomputable def B54 : Code := Try.f54.body.getD .skip
theorem bod_54 : Bodied Try.prog 54 := bodied (fn := Try.f54) (by kernel_rfl) (by kernel_rfl) (by kernel_rfl)
noncomputable def B94 : Code := Try.f94.body.getD .skip
theorem bod_94 : Bodied Try.prog 94 := bodied (fn := Try.f94) (by kernel_rfl) (by kernel_rfl) (by kernel_rfl)
noncomputable def B95 : Code := Try.f95.body.getD .skip
theorem bod_95 : Bodied Try.prog 95 := bodied (fn := Try.f95) (by kernel_rfl) (by kernel_rfl) (by kernel_rfl)
noncomputable def B50 : Code := Try.f50.body.getD .skip
theorem bod_50 : Bodied Try.prog 50 := bodied (fn := Try.f50) (by kernel_rfl) (by kernel_rfl) (by kernel_rfl)
noncomputable def B68 : Code := Try.f68.body.getD .skip
theorem bod_68 : Bodied Try.prog 68 := bodied (fn := Try.f68) (by kernel_rfl) (by kernel_rfl) (by kernel_rfl)
noncomputable def B112 : Code := Try.f112.body.getD .skip
theorem bod_112 : Bodied Try.prog 112 := bodied (fn := Try.f112) (by kernel_rfl) (by kernel_rfl) (by kernel_rfl)
noncomputable def B69 : Code := Try.f69.body.getD .skip
theorem bod_69 : Bodied Try.prog 69 := bodied (fn := Try.f69) (by kernel_rfl) (by kernel_rfl) (by kernel_rfl)
noncomputable def B28 : Code := Try.f28.body.getD .skip
theorem bod_28 : Bodied Try.prog 28 := bodied (fn := Try.f28) (by kernel_rfl) (by kernel_rfl) (by kernel_rfl)
noncomputable def B29 : Code := Try.f29.body.getD .skip
theorem bod_29 : Bodied Try.prog 29 := bodied (fn := Try.f29) (by kernel_rfl) (by kernel_rfl) (by kernel_rfl)
noncomputable def B55 : Code := Try.f55.body.getD .skip
theorem bod_55 : Bodied Try.prog 55 := bodied (fn := Try.f55) (by kernel_rfl) (by kernel_rfl) (by kernel_rfl)
noncomputable def B17 : Code := Try.f17.body.getD .skip
theorem bod_17 : Bodied Try.prog 17 := bodied (fn := Try.f17) (by kernel_rfl) (by kernel_rfl) (by kernel_rfl)
noncomputable def B6 : Code := Try.f6.body.getD .skip
theorem bod_6 : Bodied Try.prog 6 := bodied (fn := Try.f6) (by kernel_rfl) (by kernel_rfl) (by kernel_rfl)
end Go.Am
