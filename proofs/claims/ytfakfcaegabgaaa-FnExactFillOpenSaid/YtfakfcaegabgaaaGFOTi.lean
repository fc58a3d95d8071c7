/- The table of types, and the bodies. Printed by a program of mine (gen.py). -/
import Derived.Test.YtfakfcaegabgaaaGFOTy
import Derived.Test.YtfakfcaegabgaaaChecked
set_option linter.unusedVariables false
set_option linter.unusedSimpArgs false
set_option maxRecDepth 100000
namespace Go.Am
open Go Go.Proofs
def tis : List (Nat × TInfo) := [(44, ⟨.struct [(0, 3), (1, 3), (2, 22), (3, 42)], 4, 64, .agg [.int .i64 0, .int .i64 0, .nils, .nils]⟩),
  (22, ⟨.slice 3, 1, 24, .nils⟩),
  (4, ⟨.bool, 1, 1, .bool false⟩),
  (3, ⟨.int .i64, 1, 8, .int .i64 0⟩),
  (42, ⟨.slice 44, 1, 24, .nils⟩),
  (29, ⟨.struct [(0, 3), (1, 3), (2, 22), (3, 27)], 4, 64, .agg [.int .i64 0, .int .i64 0, .nils, .nils]⟩),
  (27, ⟨.slice 29, 1, 24, .nils⟩),
  (105, ⟨.struct [(0, 9), (1, 3), (2, 4), (3, 4)], 4, 32, .agg [.str ByteArray.empty, .int .i64 0, .bool false, .bool false]⟩),
  (9, ⟨.string, 1, 16, .str ByteArray.empty⟩),
  (121, ⟨.slice 105, 1, 24, .nils⟩)]
def TIx : Nat → Option TInfo := lk none (tis.map fun p => (p.1, some p.2))
theorem ti_44 : TFact Try.prog 44 ⟨.struct [(0, 3), (1, 3), (2, 22), (3, 42)], 4, 64, .agg [.int .i64 0, .int .i64 0, .nils, .nils]⟩ := ⟨by kernel_rfl, by kernel_rfl, by kernel_rfl, by kernel_rfl⟩
theorem ti_22 : TFact Try.prog 22 ⟨.slice 3, 1, 24, .nils⟩ := ⟨by kernel_rfl, by kernel_rfl, by kernel_rfl, by kernel_rfl⟩
theorem ti_4 : TFact Try.prog 4 ⟨.bool, 1, 1, .bool false⟩ := ⟨by kernel_rfl, by kernel_rfl, by kernel_rfl, by kernel_rfl⟩
theorem ti_3 : TFact Try.prog 3 ⟨.int .i64, 1, 8, .int .i64 0⟩ := ⟨by kernel_rfl, by kernel_rfl, by kernel_rfl, by kernel_rfl⟩
theorem ti_42 : TFact Try.prog 42 ⟨.slice 44, 1, 24, .nils⟩ := ⟨by kernel_rfl, by kernel_rfl, by kernel_rfl, by kernel_rfl⟩
theorem ti_29 : TFact Try.prog 29 ⟨.struct [(0, 3), (1, 3), (2, 22), (3, 27)], 4, 64, .agg [.int .i64 0, .int .i64 0, .nils, .nils]⟩ := ⟨by kernel_rfl, by kernel_rfl, by kernel_rfl, by kernel_rfl⟩
theorem ti_27 : TFact Try.prog 27 ⟨.slice 29, 1, 24, .nils⟩ := ⟨by kernel_rfl, by kernel_rfl, by kernel_rfl, by kernel_rfl⟩
theorem ti_105 : TFact Try.prog 105 ⟨.struct [(0, 9), (1, 3), (2, 4), (3, 4)], 4, 32, .agg [.str ByteArray.empty, .int .i64 0, .bool false, .bool false]⟩ := ⟨by kernel_rfl, by kernel_rfl, by kernel_rfl, by kernel_rfl⟩
theorem ti_9 : TFact Try.prog 9 ⟨.string, 1, 16, .str ByteArray.empty⟩ := ⟨by kernel_rfl, by kernel_rfl, by kernel_rfl, by kernel_rfl⟩
theorem ti_121 : TFact Try.prog 121 ⟨.slice 105, 1, 24, .nils⟩ := ⟨by kernel_rfl, by kernel_rfl, by kernel_rfl, by kernel_rfl⟩
theorem tiok : TIok Try.prog TIx := TIok.of_list tis (by
  intro p hp
  simp only [tis, List.mem_cons, List.not_mem_nil, or_false] at hp
  rcases hp with rfl | rfl | rfl | rfl | rfl | rfl | rfl | rfl | rfl | rfl
  · exact ti_44
  · exact ti_22
  · exact ti_4
  · exact ti_3
  · exact ti_42
  · exact ti_29
  · exact ti_27
  · exact ti_105
  · exact ti_9
  · exact ti_121)
theorem mix : Try.prog.follows .mixedOrders = true := Try.checked.mixed
noncomputable def B42 : Code := Try.f42.body.getD .skip
theorem bod_42 : Bodied Try.prog 42 := bodied (fn := Try.f42) (by kernel_rfl) (by kernel_rfl) (by kernel_rfl)
noncomputable def B55 : Code := Try.f55.body.getD .skip
theorem bod_55 : Bodied Try.prog 55 := bodied (fn := Try.f55) (by kernel_rfl) (by kernel_rfl) (by kernel_rfl)
noncomputable def B23 : Code := Try.f23.body.getD .skip
theorem bod_23 : Bodied Try.prog 23 := bodied (fn := Try.f23) (by kernel_rfl) (by kernel_rfl) (by kernel_rfl)
noncomputable def B14 : Code := Try.f14.body.getD .skip
theorem bod_14 : Bodied Try.prog 14 := bodied (fn := Try.f14) (by kernel_rfl) (by kernel_rfl) (by kernel_rfl)
noncomputable def B59 : Code := Try.f59.body.getD .skip
theorem bod_59 : Bodied Try.prog 59 := bodied (fn := Try.f59) (by kernel_rfl) (by kernel_rfl) (by kernel_rfl)
noncomputable def B25 : Code := Try.f25.body.getD .skip
theorem bod_25 : Bodied Try.prog 25 := bodied (fn := Try.f25) (by kernel_rfl) (by kernel_rfl) (by kernel_rfl)
noncomputable def B84 : Code := Try.f84.body.getD .skip
theorem bod_84 : Bodied Try.prog 84 := bodied (fn := Try.f84) (by kernel_rfl) (by kernel_rfl) (by kernel_rfl)
noncomputable def B57 : Code := Try.f57.body.getD .skip
theorem bod_57 : Bodied Try.prog 57 := bodied (fn := Try.f57) (by kernel_rfl) (by kernel_rfl) (by kernel_rfl)
noncomputable def B163 : Code := Try.f163.body.getD .skip
theorem bod_163 : Bodied Try.prog 163 := bodied (fn := Try.f163) (by kernel_rfl) (by kernel_rfl) (by kernel_rfl)
noncomputable def B108 : Code := Try.f108.body.getD .skip
theorem bod_108 : Bodied Try.prog 108 := bodied (fn := Try.f108) (by kernel_rfl) (by kernel_rfl) (by kernel_rfl)
noncomputable def B164 : Code := Try.f164.body.getD .skip
theorem bod_164 : Bodied Try.prog 164 := bodied (fn := Try.f164) (by kernel_rfl) (by kernel_rfl) (by kernel_rfl)
noncomputable def B158 : Code := Try.f158.body.getD .skip
theorem bod_158 : Bodied Try.prog 158 := bodied (fn := Try.f158) (by kernel_rfl) (by kernel_rfl) (by kernel_rfl)
noncomputable def B100 : Code := Try.f100.body.getD .skip
theorem bod_100 : Bodied Try.prog 100 := bodied (fn := Try.f100) (by kernel_rfl) (by kernel_rfl) (by kernel_rfl)
noncomputable def B136 : Code := Try.f136.body.getD .skip
theorem bod_136 : Bodied Try.prog 136 := bodied (fn := Try.f136) (by kernel_rfl) (by kernel_rfl) (by kernel_rfl)
noncomputable def B135 : Code := Try.f135.body.getD .skip
theorem bod_135 : Bodied Try.prog 135 := bodied (fn := Try.f135) (by kernel_rfl) (by kernel_rfl) (by kernel_rfl)
noncomputable def B86 : Code := Try.f86.body.getD .skip
theorem bod_86 : Bodied Try.prog 86 := bodied (fn := Try.f86) (by kernel_rfl) (by kernel_rfl) (by kernel_rfl)
noncomputable def B101 : Code := Try.f101.body.getD .skip
theorem bod_101 : Bodied Try.prog 101 := bodied (fn := Try.f101) (by kernel_rfl) (by kernel_rfl) (by kernel_rfl)
noncomputable def B87 : Code := Try.f87.body.getD .skip
theorem bod_87 : Bodied Try.prog 87 := bodied (fn := Try.f87) (by kernel_rfl) (by kernel_rfl) (by kernel_rfl)
noncomputable def B133 : Code := Try.f133.body.getD .skip
theorem bod_133 : Bodied Try.prog 133 := bodied (fn := Try.f133) (by kernel_rfl) (by kernel_rfl) (by kernel_rfl)
noncomputable def B134 : Code := Try.f134.body.getD .skip
theorem bod_134 : Bodied Try.prog 134 := bodied (fn := Try.f134) (by kernel_rfl) (by kernel_rfl) (by kernel_rfl)
noncomputable def B85 : Code := Try.f85.body.getD .skip
theorem bod_85 : Bodied Try.prog 85 := bodied (fn := Try.f85) (by kernel_rfl) (by kernel_rfl) (by kernel_rfl)
noncomputable def B106 : Code := Try.f106.body.getD .skip
theorem bod_106 : Bodied Try.prog 106 := bodied (fn := Try.f106) (by kernel_rfl) (by kernel_rfl) (by kernel_rfl)
noncomputable def B107 : Code := Try.f107.body.getD .skip
theorem bod_107 : Bodied Try.prog 107 := bodied (fn := Try.f107) (by kernel_rfl) (by kernel_rfl) (by kernel_rfl)
noncomputable def B56 : Code := Try.f56.body.getD .skip
theorem bod_56 : Bodied Try.prog 56 := bodied (fn := Try.f56) (by kernel_rfl) (by kernel_rfl) (by kernel_rfl)
noncomputable def B109 : Code := Try.f109.body.getD .skip
theorem bod_109 : Bodied Try.prog 109 := bodied (fn := Try.f109) (by kernel_rfl) (by kernel_rfl) (by kernel_rfl)
noncomputable def B58 : Code := Try.f58.body.getD .skip
theorem bod_58 : Bodied Try.prog 58 := bodied (fn := Try.f58) (by kernel_rfl) (by kernel_rfl) (by kernel_rfl)
noncomputable def B24 : Code := Try.f24.body.getD .skip
theorem bod_24 : Bodied Try.prog 24 := bodied (fn := Try.f24) (by kernel_rfl) (by kernel_rfl) (by kernel_rfl)
noncomputable def B64 : Code := Try.f64.body.getD .skip
theorem bod_64 : Bodied Try.prog 64 := bodied (fn := Try.f64) (by kernel_rfl) (by kernel_rfl) (by kernel_rfl)
noncomputable def B111 : Code := Try.f111.body.getD .skip
theorem bod_111 : Bodied Try.prog 111 := bodied (fn := Try.f111) (by kernel_rfl) (by kernel_rfl) (by kernel_rfl)
noncomputable def B152 : Code := Try.f152.body.getD .skip
theorem bod_152 : Bodied Try.prog 152 := bodied (fn := Try.f152) (by kernel_rfl) (by kernel_rfl) (by kernel_rfl)
noncomputable def B103 : Code := Try.f103.body.getD .skip
theorem bod_103 : Bodied Try.prog 103 := bodied (fn := Try.f103) (by kernel_rfl) (by kernel_rfl) (by kernel_rfl)
noncomputable def B151 : Code := Try.f151.body.getD .skip
theorem bod_151 : Bodied Try.prog 151 := bodied (fn := Try.f151) (by kernel_rfl) (by kernel_rfl) (by kernel_rfl)
noncomputable def B150 : Code := Try.f150.body.getD .skip
theorem bod_150 : Bodied Try.prog 150 := bodied (fn := Try.f150) (by kernel_rfl) (by kernel_rfl) (by kernel_rfl)
noncomputable def B165 : Code := Try.f165.body.getD .skip
theorem bod_165 : Bodied Try.prog 165 := bodied (fn := Try.f165) (by kernel_rfl) (by kernel_rfl) (by kernel_rfl)
noncomputable def B142 : Code := Try.f142.body.getD .skip
theorem bod_142 : Bodied Try.prog 142 := bodied (fn := Try.f142) (by kernel_rfl) (by kernel_rfl) (by kernel_rfl)
noncomputable def B110 : Code := Try.f110.body.getD .skip
theorem bod_110 : Bodied Try.prog 110 := bodied (fn := Try.f110) (by kernel_rfl) (by kernel_rfl) (by kernel_rfl)
noncomputable def B60 : Code := Try.f60.body.getD .skip
theorem bod_60 : Bodied Try.prog 60 := bodied (fn := Try.f60) (by kernel_rfl) (by kernel_rfl) (by kernel_rfl)
noncomputable def B112 : Code := Try.f112.body.getD .skip
theorem bod_112 : Bodied Try.prog 112 := bodied (fn := Try.f112) (by kernel_rfl) (by kernel_rfl) (by kernel_rfl)
noncomputable def B61 : Code := Try.f61.body.getD .skip
theorem bod_61 : Bodied Try.prog 61 := bodied (fn := Try.f61) (by kernel_rfl) (by kernel_rfl) (by kernel_rfl)
noncomputable def B63 : Code := Try.f63.body.getD .skip
theorem bod_63 : Bodied Try.prog 63 := bodied (fn := Try.f63) (by kernel_rfl) (by kernel_rfl) (by kernel_rfl)
noncomputable def B113 : Code := Try.f113.body.getD .skip
theorem bod_113 : Bodied Try.prog 113 := bodied (fn := Try.f113) (by kernel_rfl) (by kernel_rfl) (by kernel_rfl)
noncomputable def B62 : Code := Try.f62.body.getD .skip
theorem bod_62 : Bodied Try.prog 62 := bodied (fn := Try.f62) (by kernel_rfl) (by kernel_rfl) (by kernel_rfl)
noncomputable def B105 : Code := Try.f105.body.getD .skip
theorem bod_105 : Bodied Try.prog 105 := bodied (fn := Try.f105) (by kernel_rfl) (by kernel_rfl) (by kernel_rfl)
noncomputable def B65 : Code := Try.f65.body.getD .skip
theorem bod_65 : Bodied Try.prog 65 := bodied (fn := Try.f65) (by kernel_rfl) (by kernel_rfl) (by kernel_rfl)
noncomputable def B26 : Code := Try.f26.body.getD .skip
theorem bod_26 : Bodied Try.prog 26 := bodied (fn := Try.f26) (by kernel_rfl) (by kernel_rfl) (by kernel_rfl)
noncomputable def B18 : Code := Try.f18.body.getD .skip
theorem bod_18 : Bodied Try.prog 18 := bodied (fn := Try.f18) (by kernel_rfl) (by kernel_rfl) (by kernel_rfl)
noncomputable def B49 : Code := Try.f49.body.getD .skip
theorem bod_49 : Bodied Try.prog 49 := bodied (fn := Try.f49) (by kernel_rfl) (by kernel_rfl) (by kernel_rfl)
noncomputable def B16 : Code := Try.f16.body.getD .skip
theorem bod_16 : Bodied Try.prog 16 := bodied (fn := Try.f16) (by kernel_rfl) (by kernel_rfl) (by kernel_rfl)
noncomputable def B20 : Code := Try.f20.body.getD .skip
theorem bod_20 : Bodied Try.prog 20 := bodied (fn := Try.f20) (by kernel_rfl) (by kernel_rfl) (by kernel_rfl)
noncomputable def B52 : Code := Try.f52.body.getD .skip
theorem bod_52 : Bodied Try.prog 52 := bodied (fn := Try.f52) (by kernel_rfl) (by kernel_rfl) (by kernel_rfl)
noncomputable def B21 : Code := Try.f21.body.getD .skip
theorem bod_21 : Bodied Try.prog 21 := bodied (fn := Try.f21) (by kernel_rfl) (by kernel_rfl) (by kernel_rfl)
noncomputable def B53 : Code := Try.f53.body.getD .skip
theorem bod_53 : Bodied Try.prog 53 := bodied (fn := Try.f53) (by kernel_rfl) (by kernel_rfl) (by kernel_rfl)
noncomputable def B54 : Code := Try.f54.body.getD .skip
theorem bod_54 : Bodied Try.prog 54 := bodied (fn := Try.f54) (by kernel_rfl) (by kernel_rfl) (by kernel_rfl)
noncomputable def B22 : Code := Try.f22.body.getD .skip
theorem bod_22 : Bodied Try.prog 22 := bodied (fn := Try.f22) (by kernel_rfl) (by kernel_rfl) (by kernel_rfl)
noncomputable def B4 : Code := Try.f4.body.getD .skip
theorem bod_4 : Bodied Try.prog 4 := bodied (fn := Try.f4) (by kernel_rfl) (by kernel_rfl) (by kernel_rfl)
end Go.Am
