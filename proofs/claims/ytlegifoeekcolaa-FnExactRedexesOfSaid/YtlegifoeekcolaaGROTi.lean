/- The table of types, and the bodies. Printed by a program of mine (gen.py). -/
import Derived.Test.YtlegifoeekcolaaGROTy
import Derived.Test.YtlegifoeekcolaaChecked
set_option linter.unusedVariables false
set_option linter.unusedSimpArgs false
set_option maxRecDepth 100000
namespace Go.Am
open Go Go.Proofs
def tis : List (Nat × TInfo) := [(39, ⟨.struct [(0, 3), (1, 3), (2, 22), (3, 37)], 4, 64, .agg [.int .i64 0, .int .i64 0, .nils, .nils]⟩),
  (4, ⟨.bool, 1, 1, .bool false⟩),
  (3, ⟨.int .i64, 1, 8, .int .i64 0⟩),
  (22, ⟨.slice 3, 1, 24, .nils⟩),
  (37, ⟨.slice 39, 1, 24, .nils⟩),
  (44, ⟨.struct [(0, 3), (1, 3), (2, 22), (3, 42)], 4, 64, .agg [.int .i64 0, .int .i64 0, .nils, .nils]⟩),
  (42, ⟨.slice 44, 1, 24, .nils⟩),
  (59, ⟨.slice 22, 1, 24, .nils⟩),
  (98, ⟨.struct [(0, 9), (1, 3), (2, 4), (3, 4)], 4, 32, .agg [.str ByteArray.empty, .int .i64 0, .bool false, .bool false]⟩),
  (9, ⟨.string, 1, 16, .str ByteArray.empty⟩),
  (108, ⟨.slice 98, 1, 24, .nils⟩)]
def TIx : Nat → Option TInfo := lk none (tis.map fun p => (p.1, some p.2))
theorem ti_39 : TFact Try.prog 39 ⟨.struct [(0, 3), (1, 3), (2, 22), (3, 37)], 4, 64, .agg [.int .i64 0, .int .i64 0, .nils, .nils]⟩ := ⟨by kernel_rfl, by kernel_rfl, by kernel_rfl, by kernel_rfl⟩
theorem ti_4 : TFact Try.prog 4 ⟨.bool, 1, 1, .bool false⟩ := ⟨by kernel_rfl, by kernel_rfl, by kernel_rfl, by kernel_rfl⟩
theorem ti_3 : TFact Try.prog 3 ⟨.int .i64, 1, 8, .int .i64 0⟩ := ⟨by kernel_rfl, by kernel_rfl, by kernel_rfl, by kernel_rfl⟩
theorem ti_22 : TFact Try.prog 22 ⟨.slice 3, 1, 24, .nils⟩ := ⟨by kernel_rfl, by kernel_rfl, by kernel_rfl, by kernel_rfl⟩
theorem ti_37 : TFact Try.prog 37 ⟨.slice 39, 1, 24, .nils⟩ := ⟨by kernel_rfl, by kernel_rfl, by kernel_rfl, by kernel_rfl⟩
theorem ti_44 : TFact Try.prog 44 ⟨.struct [(0, 3), (1, 3), (2, 22), (3, 42)], 4, 64, .agg [.int .i64 0, .int .i64 0, .nils, .nils]⟩ := ⟨by kernel_rfl, by kernel_rfl, by kernel_rfl, by kernel_rfl⟩
theorem ti_42 : TFact Try.prog 42 ⟨.slice 44, 1, 24, .nils⟩ := ⟨by kernel_rfl, by kernel_rfl, by kernel_rfl, by kernel_rfl⟩
theorem ti_59 : TFact Try.prog 59 ⟨.slice 22, 1, 24, .nils⟩ := ⟨by kernel_rfl, by kernel_rfl, by kernel_rfl, by kernel_rfl⟩
theorem ti_98 : TFact Try.prog 98 ⟨.struct [(0, 9), (1, 3), (2, 4), (3, 4)], 4, 32, .agg [.str ByteArray.empty, .int .i64 0, .bool false, .bool false]⟩ := ⟨by kernel_rfl, by kernel_rfl, by kernel_rfl, by kernel_rfl⟩
theorem ti_9 : TFact Try.prog 9 ⟨.string, 1, 16, .str ByteArray.empty⟩ := ⟨by kernel_rfl, by kernel_rfl, by kernel_rfl, by kernel_rfl⟩
theorem ti_108 : TFact Try.prog 108 ⟨.slice 98, 1, 24, .nils⟩ := ⟨by kernel_rfl, by kernel_rfl, by kernel_rfl, by kernel_rfl⟩
theorem tiok : TIok Try.prog TIx := TIok.of_list tis (by
  intro p hp
  simp only [tis, List.mem_cons, List.not_mem_nil, or_false] at hp
  rcases hp with rfl | rfl | rfl | rfl | rfl | rfl | rfl | rfl | rfl | rfl | rfl
  · exact ti_39
  · exact ti_4
  · exact ti_3
  · exact ti_22
  · exact ti_37
  · exact ti_44
  · exact ti_42
  · exact ti_59
  · exact ti_98
  · exact ti_9
  · exact ti_108)
theorem mix : Try.prog.follows .mixedOrders = true := Try.checked.mixed
noncomputable def B44 : Code := Try.f44.body.getD .skip
theorem bod_44 : Bodied Try.prog 44 := bodied (fn := Try.f44) (by kernel_rfl) (by kernel_rfl) (by kernel_rfl)
noncomputable def B57 : Code := Try.f57.body.getD .skip
theorem bod_57 : Bodied Try.prog 57 := bodied (fn := Try.f57) (by kernel_rfl) (by kernel_rfl) (by kernel_rfl)
noncomputable def B19 : Code := Try.f19.body.getD .skip
theorem bod_19 : Bodied Try.prog 19 := bodied (fn := Try.f19) (by kernel_rfl) (by kernel_rfl) (by kernel_rfl)
noncomputable def B27 : Code := Try.f27.body.getD .skip
theorem bod_27 : Bodied Try.prog 27 := bodied (fn := Try.f27) (by kernel_rfl) (by kernel_rfl) (by kernel_rfl)
noncomputable def B60 : Code := Try.f60.body.getD .skip
theorem bod_60 : Bodied Try.prog 60 := bodied (fn := Try.f60) (by kernel_rfl) (by kernel_rfl) (by kernel_rfl)
noncomputable def B21 : Code := Try.f21.body.getD .skip
theorem bod_21 : Bodied Try.prog 21 := bodied (fn := Try.f21) (by kernel_rfl) (by kernel_rfl) (by kernel_rfl)
noncomputable def B79 : Code := Try.f79.body.getD .skip
theorem bod_79 : Bodied Try.prog 79 := bodied (fn := Try.f79) (by kernel_rfl) (by kernel_rfl) (by kernel_rfl)
noncomputable def B70 : Code := Try.f70.body.getD .skip
theorem bod_70 : Bodied Try.prog 70 := bodied (fn := Try.f70) (by kernel_rfl) (by kernel_rfl) (by kernel_rfl)
noncomputable def B133 : Code := Try.f133.body.getD .skip
theorem bod_133 : Bodied Try.prog 133 := bodied (fn := Try.f133) (by kernel_rfl) (by kernel_rfl) (by kernel_rfl)
noncomputable def B98 : Code := Try.f98.body.getD .skip
theorem bod_98 : Bodied Try.prog 98 := bodied (fn := Try.f98) (by kernel_rfl) (by kernel_rfl) (by kernel_rfl)
noncomputable def B134 : Code := Try.f134.body.getD .skip
theorem bod_134 : Bodied Try.prog 134 := bodied (fn := Try.f134) (by kernel_rfl) (by kernel_rfl) (by kernel_rfl)
noncomputable def B116 : Code := Try.f116.body.getD .skip
theorem bod_116 : Bodied Try.prog 116 := bodied (fn := Try.f116) (by kernel_rfl) (by kernel_rfl) (by kernel_rfl)
noncomputable def B132 : Code := Try.f132.body.getD .skip
theorem bod_132 : Bodied Try.prog 132 := bodied (fn := Try.f132) (by kernel_rfl) (by kernel_rfl) (by kernel_rfl)
noncomputable def B114 : Code := Try.f114.body.getD .skip
theorem bod_114 : Bodied Try.prog 114 := bodied (fn := Try.f114) (by kernel_rfl) (by kernel_rfl) (by kernel_rfl)
noncomputable def B127 : Code := Try.f127.body.getD .skip
theorem bod_127 : Bodied Try.prog 127 := bodied (fn := Try.f127) (by kernel_rfl) (by kernel_rfl) (by kernel_rfl)
noncomputable def B125 : Code := Try.f125.body.getD .skip
theorem bod_125 : Bodied Try.prog 125 := bodied (fn := Try.f125) (by kernel_rfl) (by kernel_rfl) (by kernel_rfl)
noncomputable def B135 : Code := Try.f135.body.getD .skip
theorem bod_135 : Bodied Try.prog 135 := bodied (fn := Try.f135) (by kernel_rfl) (by kernel_rfl) (by kernel_rfl)
noncomputable def B126 : Code := Try.f126.body.getD .skip
theorem bod_126 : Bodied Try.prog 126 := bodied (fn := Try.f126) (by kernel_rfl) (by kernel_rfl) (by kernel_rfl)
noncomputable def B122 : Code := Try.f122.body.getD .skip
theorem bod_122 : Bodied Try.prog 122 := bodied (fn := Try.f122) (by kernel_rfl) (by kernel_rfl) (by kernel_rfl)
noncomputable def B113 : Code := Try.f113.body.getD .skip
theorem bod_113 : Bodied Try.prog 113 := bodied (fn := Try.f113) (by kernel_rfl) (by kernel_rfl) (by kernel_rfl)
noncomputable def B97 : Code := Try.f97.body.getD .skip
theorem bod_97 : Bodied Try.prog 97 := bodied (fn := Try.f97) (by kernel_rfl) (by kernel_rfl) (by kernel_rfl)
noncomputable def B58 : Code := Try.f58.body.getD .skip
theorem bod_58 : Bodied Try.prog 58 := bodied (fn := Try.f58) (by kernel_rfl) (by kernel_rfl) (by kernel_rfl)
noncomputable def B102 : Code := Try.f102.body.getD .skip
theorem bod_102 : Bodied Try.prog 102 := bodied (fn := Try.f102) (by kernel_rfl) (by kernel_rfl) (by kernel_rfl)
noncomputable def B103 : Code := Try.f103.body.getD .skip
theorem bod_103 : Bodied Try.prog 103 := bodied (fn := Try.f103) (by kernel_rfl) (by kernel_rfl) (by kernel_rfl)
noncomputable def B64 : Code := Try.f64.body.getD .skip
theorem bod_64 : Bodied Try.prog 64 := bodied (fn := Try.f64) (by kernel_rfl) (by kernel_rfl) (by kernel_rfl)
noncomputable def B37 : Code := Try.f37.body.getD .skip
theorem bod_37 : Bodied Try.prog 37 := bodied (fn := Try.f37) (by kernel_rfl) (by kernel_rfl) (by kernel_rfl)
noncomputable def B91 : Code := Try.f91.body.getD .skip
theorem bod_91 : Bodied Try.prog 91 := bodied (fn := Try.f91) (by kernel_rfl) (by kernel_rfl) (by kernel_rfl)
noncomputable def B100 : Code := Try.f100.body.getD .skip
theorem bod_100 : Bodied Try.prog 100 := bodied (fn := Try.f100) (by kernel_rfl) (by kernel_rfl) (by kernel_rfl)
noncomputable def B123 : Code := Try.f123.body.getD .skip
theorem bod_123 : Bodied Try.prog 123 := bodied (fn := Try.f123) (by kernel_rfl) (by kernel_rfl) (by kernel_rfl)
noncomputable def B111 : Code := Try.f111.body.getD .skip
theorem bod_111 : Bodied Try.prog 111 := bodied (fn := Try.f111) (by kernel_rfl) (by kernel_rfl) (by kernel_rfl)
noncomputable def B131 : Code := Try.f131.body.getD .skip
theorem bod_131 : Bodied Try.prog 131 := bodied (fn := Try.f131) (by kernel_rfl) (by kernel_rfl) (by kernel_rfl)
noncomputable def B124 : Code := Try.f124.body.getD .skip
theorem bod_124 : Bodied Try.prog 124 := bodied (fn := Try.f124) (by kernel_rfl) (by kernel_rfl) (by kernel_rfl)
noncomputable def B117 : Code := Try.f117.body.getD .skip
theorem bod_117 : Bodied Try.prog 117 := bodied (fn := Try.f117) (by kernel_rfl) (by kernel_rfl) (by kernel_rfl)
noncomputable def B81 : Code := Try.f81.body.getD .skip
theorem bod_81 : Bodied Try.prog 81 := bodied (fn := Try.f81) (by kernel_rfl) (by kernel_rfl) (by kernel_rfl)
noncomputable def B99 : Code := Try.f99.body.getD .skip
theorem bod_99 : Bodied Try.prog 99 := bodied (fn := Try.f99) (by kernel_rfl) (by kernel_rfl) (by kernel_rfl)
noncomputable def B61 : Code := Try.f61.body.getD .skip
theorem bod_61 : Bodied Try.prog 61 := bodied (fn := Try.f61) (by kernel_rfl) (by kernel_rfl) (by kernel_rfl)
noncomputable def B104 : Code := Try.f104.body.getD .skip
theorem bod_104 : Bodied Try.prog 104 := bodied (fn := Try.f104) (by kernel_rfl) (by kernel_rfl) (by kernel_rfl)
noncomputable def B105 : Code := Try.f105.body.getD .skip
theorem bod_105 : Bodied Try.prog 105 := bodied (fn := Try.f105) (by kernel_rfl) (by kernel_rfl) (by kernel_rfl)
noncomputable def B65 : Code := Try.f65.body.getD .skip
theorem bod_65 : Bodied Try.prog 65 := bodied (fn := Try.f65) (by kernel_rfl) (by kernel_rfl) (by kernel_rfl)
noncomputable def B38 : Code := Try.f38.body.getD .skip
theorem bod_38 : Bodied Try.prog 38 := bodied (fn := Try.f38) (by kernel_rfl) (by kernel_rfl) (by kernel_rfl)
noncomputable def B29 : Code := Try.f29.body.getD .skip
theorem bod_29 : Bodied Try.prog 29 := bodied (fn := Try.f29) (by kernel_rfl) (by kernel_rfl) (by kernel_rfl)
noncomputable def B39 : Code := Try.f39.body.getD .skip
theorem bod_39 : Bodied Try.prog 39 := bodied (fn := Try.f39) (by kernel_rfl) (by kernel_rfl) (by kernel_rfl)
noncomputable def B63 : Code := Try.f63.body.getD .skip
theorem bod_63 : Bodied Try.prog 63 := bodied (fn := Try.f63) (by kernel_rfl) (by kernel_rfl) (by kernel_rfl)
noncomputable def B23 : Code := Try.f23.body.getD .skip
theorem bod_23 : Bodied Try.prog 23 := bodied (fn := Try.f23) (by kernel_rfl) (by kernel_rfl) (by kernel_rfl)
noncomputable def B33 : Code := Try.f33.body.getD .skip
theorem bod_33 : Bodied Try.prog 33 := bodied (fn := Try.f33) (by kernel_rfl) (by kernel_rfl) (by kernel_rfl)
noncomputable def B74 : Code := Try.f74.body.getD .skip
theorem bod_74 : Bodied Try.prog 74 := bodied (fn := Try.f74) (by kernel_rfl) (by kernel_rfl) (by kernel_rfl)
noncomputable def B32 : Code := Try.f32.body.getD .skip
theorem bod_32 : Bodied Try.prog 32 := bodied (fn := Try.f32) (by kernel_rfl) (by kernel_rfl) (by kernel_rfl)
noncomputable def B40 : Code := Try.f40.body.getD .skip
theorem bod_40 : Bodied Try.prog 40 := bodied (fn := Try.f40) (by kernel_rfl) (by kernel_rfl) (by kernel_rfl)
noncomputable def B75 : Code := Try.f75.body.getD .skip
theorem bod_75 : Bodied Try.prog 75 := bodied (fn := Try.f75) (by kernel_rfl) (by kernel_rfl) (by kernel_rfl)
noncomputable def B41 : Code := Try.f41.body.getD .skip
theorem bod_41 : Bodied Try.prog 41 := bodied (fn := Try.f41) (by kernel_rfl) (by kernel_rfl) (by kernel_rfl)
noncomputable def B9 : Code := Try.f9.body.getD .skip
theorem bod_9 : Bodied Try.prog 9 := bodied (fn := Try.f9) (by kernel_rfl) (by kernel_rfl) (by kernel_rfl)
end Go.Am
