/- The table of types, and the bodies. Printed by a program of mine (gen.py). -/
import Derived.Test.YtlegifoeekcolaaGKETy
import Derived.Test.YtlegifoeekcolaaChecked
set_option linter.unusedVariables false
set_option linter.unusedSimpArgs false
set_option maxRecDepth 100000
namespace Go.Am
open Go Go.Proofs
def tis : List (Nat × TInfo) := [(25, ⟨.struct [(0, 3), (1, 22), (2, 22), (3, 23)], 4, 80, .agg [.int .i64 0, .nils, .nils, .nils]⟩),
  (26, ⟨.slice 72, 1, 24, .nils⟩),
  (4, ⟨.bool, 1, 1, .bool false⟩),
  (3, ⟨.int .i64, 1, 8, .int .i64 0⟩),
  (22, ⟨.slice 3, 1, 24, .nils⟩),
  (23, ⟨.slice 4, 1, 24, .nils⟩),
  (30, ⟨.struct [(0, 3), (1, 22), (2, 22), (3, 23)], 4, 80, .agg [.int .i64 0, .nils, .nils, .nils]⟩),
  (32, ⟨.slice 69, 1, 24, .nils⟩),
  (69, ⟨.struct [(0, 3), (1, 3)], 2, 16, .agg [.int .i64 0, .int .i64 0]⟩),
  (72, ⟨.struct [(0, 3), (1, 3)], 2, 16, .agg [.int .i64 0, .int .i64 0]⟩)]
def TIx : Nat → Option TInfo := lk none (tis.map fun p => (p.1, some p.2))
theorem ti_25 : TFact Try.prog 25 ⟨.struct [(0, 3), (1, 22), (2, 22), (3, 23)], 4, 80, .agg [.int .i64 0, .nils, .nils, .nils]⟩ := ⟨by kernel_rfl, by kernel_rfl, by kernel_rfl, by kernel_rfl⟩
theorem ti_26 : TFact Try.prog 26 ⟨.slice 72, 1, 24, .nils⟩ := ⟨by kernel_rfl, by kernel_rfl, by kernel_rfl, by kernel_rfl⟩
theorem ti_4 : TFact Try.prog 4 ⟨.bool, 1, 1, .bool false⟩ := ⟨by kernel_rfl, by kernel_rfl, by kernel_rfl, by kernel_rfl⟩
theorem ti_3 : TFact Try.prog 3 ⟨.int .i64, 1, 8, .int .i64 0⟩ := ⟨by kernel_rfl, by kernel_rfl, by kernel_rfl, by kernel_rfl⟩
theorem ti_22 : TFact Try.prog 22 ⟨.slice 3, 1, 24, .nils⟩ := ⟨by kernel_rfl, by kernel_rfl, by kernel_rfl, by kernel_rfl⟩
theorem ti_23 : TFact Try.prog 23 ⟨.slice 4, 1, 24, .nils⟩ := ⟨by kernel_rfl, by kernel_rfl, by kernel_rfl, by kernel_rfl⟩
theorem ti_30 : TFact Try.prog 30 ⟨.struct [(0, 3), (1, 22), (2, 22), (3, 23)], 4, 80, .agg [.int .i64 0, .nils, .nils, .nils]⟩ := ⟨by kernel_rfl, by kernel_rfl, by kernel_rfl, by kernel_rfl⟩
theorem ti_32 : TFact Try.prog 32 ⟨.slice 69, 1, 24, .nils⟩ := ⟨by kernel_rfl, by kernel_rfl, by kernel_rfl, by kernel_rfl⟩
theorem ti_69 : TFact Try.prog 69 ⟨.struct [(0, 3), (1, 3)], 2, 16, .agg [.int .i64 0, .int .i64 0]⟩ := ⟨by kernel_rfl, by kernel_rfl, by kernel_rfl, by kernel_rfl⟩
theorem ti_72 : TFact Try.prog 72 ⟨.struct [(0, 3), (1, 3)], 2, 16, .agg [.int .i64 0, .int .i64 0]⟩ := ⟨by kernel_rfl, by kernel_rfl, by kernel_rfl, by kernel_rfl⟩
theorem tiok : TIok Try.prog TIx := TIok.of_list tis (by
  intro p hp
  simp only [tis, List.mem_cons, List.not_mem_nil, or_false] at hp
  rcases hp with rfl | rfl | rfl | rfl | rfl | rfl | rfl | rfl | rfl | rfl
  · exact ti_25
  · exact ti_26
  · exact ti_4
  · exact ti_3
  · exact ti_22
  · exact ti_23
  · exact ti_30
  · exact ti_32
  · exact ti_69
  · exact ti_72)
theorem mix : Try.prog.follows .mixedOrders = true := Try.checked.mixed
noncomputable def B44 : Code := Try.f44.body.getD .skip
theorem bod_44 : Bodied Try.prog 44 := bodied (fn := Try.f44) (by kernel_rfl) (by kernel_rfl) (by kernel_rfl)
noncomputable def B45 : Code := Try.f45.body.getD .skip
theorem bod_45 : Bodied Try.prog 45 := bodied (fn := Try.f45) (by kernel_rfl) (by kernel_rfl) (by kernel_rfl)
noncomputable def B11 : Code := Try.f11.body.getD .skip
theorem bod_11 : Bodied Try.prog 11 := bodied (fn := Try.f11) (by kernel_rfl) (by kernel_rfl) (by kernel_rfl)
noncomputable def B12 : Code := Try.f12.body.getD .skip
theorem bod_12 : Bodied Try.prog 12 := bodied (fn := Try.f12) (by kernel_rfl) (by kernel_rfl) (by kernel_rfl)
noncomputable def B27 : Code := Try.f27.body.getD .skip
theorem bod_27 : Bodied Try.prog 27 := bodied (fn := Try.f27) (by kernel_rfl) (by kernel_rfl) (by kernel_rfl)
noncomputable def B48 : Code := Try.f48.body.getD .skip
theorem bod_48 : Bodied Try.prog 48 := bodied (fn := Try.f48) (by kernel_rfl) (by kernel_rfl) (by kernel_rfl)
noncomputable def B14 : Code := Try.f14.body.getD .skip
theorem bod_14 : Bodied Try.prog 14 := bodied (fn := Try.f14) (by kernel_rfl) (by kernel_rfl) (by kernel_rfl)
noncomputable def B49 : Code := Try.f49.body.getD .skip
theorem bod_49 : Bodied Try.prog 49 := bodied (fn := Try.f49) (by kernel_rfl) (by kernel_rfl) (by kernel_rfl)
noncomputable def B15 : Code := Try.f15.body.getD .skip
theorem bod_15 : Bodied Try.prog 15 := bodied (fn := Try.f15) (by kernel_rfl) (by kernel_rfl) (by kernel_rfl)
noncomputable def B70 : Code := Try.f70.body.getD .skip
theorem bod_70 : Bodied Try.prog 70 := bodied (fn := Try.f70) (by kernel_rfl) (by kernel_rfl) (by kernel_rfl)
noncomputable def B85 : Code := Try.f85.body.getD .skip
theorem bod_85 : Bodied Try.prog 85 := bodied (fn := Try.f85) (by kernel_rfl) (by kernel_rfl) (by kernel_rfl)
noncomputable def B118 : Code := Try.f118.body.getD .skip
theorem bod_118 : Bodied Try.prog 118 := bodied (fn := Try.f118) (by kernel_rfl) (by kernel_rfl) (by kernel_rfl)
noncomputable def B119 : Code := Try.f119.body.getD .skip
theorem bod_119 : Bodied Try.prog 119 := bodied (fn := Try.f119) (by kernel_rfl) (by kernel_rfl) (by kernel_rfl)
noncomputable def B90 : Code := Try.f90.body.getD .skip
theorem bod_90 : Bodied Try.prog 90 := bodied (fn := Try.f90) (by kernel_rfl) (by kernel_rfl) (by kernel_rfl)
noncomputable def B86 : Code := Try.f86.body.getD .skip
theorem bod_86 : Bodied Try.prog 86 := bodied (fn := Try.f86) (by kernel_rfl) (by kernel_rfl) (by kernel_rfl)
noncomputable def B120 : Code := Try.f120.body.getD .skip
theorem bod_120 : Bodied Try.prog 120 := bodied (fn := Try.f120) (by kernel_rfl) (by kernel_rfl) (by kernel_rfl)
noncomputable def B87 : Code := Try.f87.body.getD .skip
theorem bod_87 : Bodied Try.prog 87 := bodied (fn := Try.f87) (by kernel_rfl) (by kernel_rfl) (by kernel_rfl)
noncomputable def B88 : Code := Try.f88.body.getD .skip
theorem bod_88 : Bodied Try.prog 88 := bodied (fn := Try.f88) (by kernel_rfl) (by kernel_rfl) (by kernel_rfl)
noncomputable def B46 : Code := Try.f46.body.getD .skip
theorem bod_46 : Bodied Try.prog 46 := bodied (fn := Try.f46) (by kernel_rfl) (by kernel_rfl) (by kernel_rfl)
noncomputable def B121 : Code := Try.f121.body.getD .skip
theorem bod_121 : Bodied Try.prog 121 := bodied (fn := Try.f121) (by kernel_rfl) (by kernel_rfl) (by kernel_rfl)
noncomputable def B89 : Code := Try.f89.body.getD .skip
theorem bod_89 : Bodied Try.prog 89 := bodied (fn := Try.f89) (by kernel_rfl) (by kernel_rfl) (by kernel_rfl)
noncomputable def B47 : Code := Try.f47.body.getD .skip
theorem bod_47 : Bodied Try.prog 47 := bodied (fn := Try.f47) (by kernel_rfl) (by kernel_rfl) (by kernel_rfl)
noncomputable def B13 : Code := Try.f13.body.getD .skip
theorem bod_13 : Bodied Try.prog 13 := bodied (fn := Try.f13) (by kernel_rfl) (by kernel_rfl) (by kernel_rfl)
noncomputable def B91 : Code := Try.f91.body.getD .skip
theorem bod_91 : Bodied Try.prog 91 := bodied (fn := Try.f91) (by kernel_rfl) (by kernel_rfl) (by kernel_rfl)
noncomputable def B53 : Code := Try.f53.body.getD .skip
theorem bod_53 : Bodied Try.prog 53 := bodied (fn := Try.f53) (by kernel_rfl) (by kernel_rfl) (by kernel_rfl)
noncomputable def B92 : Code := Try.f92.body.getD .skip
theorem bod_92 : Bodied Try.prog 92 := bodied (fn := Try.f92) (by kernel_rfl) (by kernel_rfl) (by kernel_rfl)
noncomputable def B93 : Code := Try.f93.body.getD .skip
theorem bod_93 : Bodied Try.prog 93 := bodied (fn := Try.f93) (by kernel_rfl) (by kernel_rfl) (by kernel_rfl)
noncomputable def B54 : Code := Try.f54.body.getD .skip
theorem bod_54 : Bodied Try.prog 54 := bodied (fn := Try.f54) (by kernel_rfl) (by kernel_rfl) (by kernel_rfl)
noncomputable def B94 : Code := Try.f94.body.getD .skip
theorem bod_94 : Bodied Try.prog 94 := bodied (fn := Try.f94) (by kernel_rfl) (by kernel_rfl) (by kernel_rfl)
noncomputable def B95 : Code := Try.f95.body.getD .skip
theorem bod_95 : Bodied Try.prog 95 := bodied (fn := Try.f95) (by kernel_rfl) (by kernel_rfl) (by kernel_rfl)
noncomputable def B50 : Code := Try.f50.body.getD .skip
theorem bod_50 : Bodied Try.prog 50 := bodied (fn := Try.f50) (by kernel_rfl) (by kernel_rfl) (by kernel_rfl)
noncomputable def B52 : Code := Try.f52.body.getD .skip
theorem bod_52 : Bodied Try.prog 52 := bodied (fn := Try.f52) (by kernel_rfl) (by kernel_rfl) (by kernel_rfl)
noncomputable def B96 : Code := Try.f96.body.getD .skip
theorem bod_96 : Bodied Try.prog 96 := bodied (fn := Try.f96) (by kernel_rfl) (by kernel_rfl) (by kernel_rfl)
noncomputable def B51 : Code := Try.f51.body.getD .skip
theorem bod_51 : Bodied Try.prog 51 := bodied (fn := Try.f51) (by kernel_rfl) (by kernel_rfl) (by kernel_rfl)
noncomputable def B16 : Code := Try.f16.body.getD .skip
theorem bod_16 : Bodied Try.prog 16 := bodied (fn := Try.f16) (by kernel_rfl) (by kernel_rfl) (by kernel_rfl)
noncomputable def B29 : Code := Try.f29.body.getD .skip
theorem bod_29 : Bodied Try.prog 29 := bodied (fn := Try.f29) (by kernel_rfl) (by kernel_rfl) (by kernel_rfl)
noncomputable def B55 : Code := Try.f55.body.getD .skip
theorem bod_55 : Bodied Try.prog 55 := bodied (fn := Try.f55) (by kernel_rfl) (by kernel_rfl) (by kernel_rfl)
noncomputable def B17 : Code := Try.f17.body.getD .skip
theorem bod_17 : Bodied Try.prog 17 := bodied (fn := Try.f17) (by kernel_rfl) (by kernel_rfl) (by kernel_rfl)
noncomputable def B56 : Code := Try.f56.body.getD .skip
theorem bod_56 : Bodied Try.prog 56 := bodied (fn := Try.f56) (by kernel_rfl) (by kernel_rfl) (by kernel_rfl)
noncomputable def B18 : Code := Try.f18.body.getD .skip
theorem bod_18 : Bodied Try.prog 18 := bodied (fn := Try.f18) (by kernel_rfl) (by kernel_rfl) (by kernel_rfl)
noncomputable def B3 : Code := Try.f3.body.getD .skip
theorem bod_3 : Bodied Try.prog 3 := bodied (fn := Try.f3) (by kernel_rfl) (by kernel_rfl) (by kernel_rfl)
end Go.Am
