/- The table of types, and the bodies. Printed by a program of mine (gen.py). -/
import Derived.Test.YtfakfcaegabgaaaGIJTy
import Derived.Test.YtfakfcaegabgaaaChecked
set_option linter.unusedVariables false
set_option linter.unusedSimpArgs false
set_option maxRecDepth 100000
namespace Go.Am
open Go Go.Proofs
def tis : List (Nat × TInfo) := [(25, ⟨.struct [(0, 3), (1, 22), (2, 22), (3, 23)], 4, 80, .agg [.int .i64 0, .nils, .nils, .nils]⟩),
  (59, ⟨.struct [(0, 57), (1, 22), (2, 44), (6, 22), (7, 22)], 8, 160, .agg [.nils, .nils, .int .i64 0, .int .i64 0, .nils, .nils, .nils, .nils]⟩),
  (4, ⟨.bool, 1, 1, .bool false⟩),
  (3, ⟨.int .i64, 1, 8, .int .i64 0⟩),
  (22, ⟨.slice 3, 1, 24, .nils⟩),
  (23, ⟨.slice 4, 1, 24, .nils⟩),
  (57, ⟨.slice 22, 1, 24, .nils⟩),
  (44, ⟨.struct [(0, 3), (1, 3), (2, 22), (3, 42)], 4, 64, .agg [.int .i64 0, .int .i64 0, .nils, .nils]⟩),
  (42, ⟨.slice 44, 1, 24, .nils⟩),
  (32, ⟨.struct [(0, 3), (1, 22), (2, 22), (3, 23)], 4, 80, .agg [.int .i64 0, .nils, .nils, .nils]⟩),
  (63, ⟨.struct [(0, 57), (1, 22), (2, 29), (6, 22), (7, 22)], 8, 160, .agg [.nils, .nils, .int .i64 0, .int .i64 0, .nils, .nils, .nils, .nils]⟩),
  (29, ⟨.struct [(0, 3), (1, 3), (2, 22), (3, 27)], 4, 64, .agg [.int .i64 0, .int .i64 0, .nils, .nils]⟩),
  (27, ⟨.slice 29, 1, 24, .nils⟩),
  (105, ⟨.struct [(0, 9), (1, 3), (2, 4), (3, 4)], 4, 32, .agg [.str ByteArray.empty, .int .i64 0, .bool false, .bool false]⟩),
  (9, ⟨.string, 1, 16, .str ByteArray.empty⟩),
  (121, ⟨.slice 105, 1, 24, .nils⟩)]
def TIx : Nat → Option TInfo := lk none (tis.map fun p => (p.1, some p.2))
theorem ti_25 : TFact Try.prog 25 ⟨.struct [(0, 3), (1, 22), (2, 22), (3, 23)], 4, 80, .agg [.int .i64 0, .nils, .nils, .nils]⟩ := ⟨by kernel_rfl, by kernel_rfl, by kernel_rfl, by kernel_rfl⟩
theorem ti_59 : TFact Try.prog 59 ⟨.struct [(0, 57), (1, 22), (2, 44), (6, 22), (7, 22)], 8, 160, .agg [.nils, .nils, .int .i64 0, .int .i64 0, .nils, .nils, .nils, .nils]⟩ := ⟨by kernel_rfl, by kernel_rfl, by kernel_rfl, by kernel_rfl⟩
theorem ti_4 : TFact Try.prog 4 ⟨.bool, 1, 1, .bool false⟩ := ⟨by kernel_rfl, by kernel_rfl, by kernel_rfl, by kernel_rfl⟩
theorem ti_3 : TFact Try.prog 3 ⟨.int .i64, 1, 8, .int .i64 0⟩ := ⟨by kernel_rfl, by kernel_rfl, by kernel_rfl, by kernel_rfl⟩
theorem ti_22 : TFact Try.prog 22 ⟨.slice 3, 1, 24, .nils⟩ := ⟨by kernel_rfl, by kernel_rfl, by kernel_rfl, by kernel_rfl⟩
theorem ti_23 : TFact Try.prog 23 ⟨.slice 4, 1, 24, .nils⟩ := ⟨by kernel_rfl, by kernel_rfl, by kernel_rfl, by kernel_rfl⟩
theorem ti_57 : TFact Try.prog 57 ⟨.slice 22, 1, 24, .nils⟩ := ⟨by kernel_rfl, by kernel_rfl, by kernel_rfl, by kernel_rfl⟩
theorem ti_44 : TFact Try.prog 44 ⟨.struct [(0, 3), (1, 3), (2, 22), (3, 42)], 4, 64, .agg [.int .i64 0, .int .i64 0, .nils, .nils]⟩ := ⟨by kernel_rfl, by kernel_rfl, by kernel_rfl, by kernel_rfl⟩
theorem ti_42 : TFact Try.prog 42 ⟨.slice 44, 1, 24, .nils⟩ := ⟨by kernel_rfl, by kernel_rfl, by kernel_rfl, by kernel_rfl⟩
theorem ti_32 : TFact Try.prog 32 ⟨.struct [(0, 3), (1, 22), (2, 22), (3, 23)], 4, 80, .agg [.int .i64 0, .nils, .nils, .nils]⟩ := ⟨by kernel_rfl, by kernel_rfl, by kernel_rfl, by kernel_rfl⟩
theorem ti_63 : TFact Try.prog 63 ⟨.struct [(0, 57), (1, 22), (2, 29), (6, 22), (7, 22)], 8, 160, .agg [.nils, .nils, .int .i64 0, .int .i64 0, .nils, .nils, .nils, .nils]⟩ := ⟨by kernel_rfl, by kernel_rfl, by kernel_rfl, by kernel_rfl⟩
theorem ti_29 : TFact Try.prog 29 ⟨.struct [(0, 3), (1, 3), (2, 22), (3, 27)], 4, 64, .agg [.int .i64 0, .int .i64 0, .nils, .nils]⟩ := ⟨by kernel_rfl, by kernel_rfl, by kernel_rfl, by kernel_rfl⟩
theorem ti_27 : TFact Try.prog 27 ⟨.slice 29, 1, 24, .nils⟩ := ⟨by kernel_rfl, by kernel_rfl, by kernel_rfl, by kernel_rfl⟩
theorem ti_105 : TFact Try.prog 105 ⟨.struct [(0, 9), (1, 3), (2, 4), (3, 4)], 4, 32, .agg [.str ByteArray.empty, .int .i64 0, .bool false, .bool false]⟩ := ⟨by kernel_rfl, by kernel_rfl, by kernel_rfl, by kernel_rfl⟩
theorem ti_9 : TFact Try.prog 9 ⟨.string, 1, 16, .str ByteArray.empty⟩ := ⟨by kernel_rfl, by kernel_rfl, by kernel_rfl, by kernel_rfl⟩
theorem ti_121 : TFact Try.prog 121 ⟨.slice 105, 1, 24, .nils⟩ := ⟨by kernel_rfl, by kernel_rfl, by kernel_rfl, by kernel_rfl⟩
theorem tiok : TIok Try.prog TIx := TIok.of_list tis (by
  intro p hp
  simp only [tis, List.mem_cons, List.not_mem_nil, or_false] at hp
  rcases hp with rfl | rfl | rfl | rfl | rfl | rfl | rfl | rfl | rfl | rfl | rfl | rfl | rfl | rfl | rfl | rfl
  · exact ti_25
  · exact ti_59
  · exact ti_4
  · exact ti_3
  · exact ti_22
  · exact ti_23
  · exact ti_57
  · exact ti_44
  · exact ti_42
  · exact ti_32
  · exact ti_63
  · exact ti_29
  · exact ti_27
  · exact ti_105
  · exact ti_9
  · exact ti_121)
theorem mix : Try.prog.follows .mixedOrders = true := Try.checked.mixed
noncomputable def B42 : Code := Try.f42.body.getD .skip
theorem bod_42 : Bodied Try.prog 42 := bodied (fn := Try.f42) (by kernel_rfl) (by kernel_rfl) (by kernel_rfl)
noncomputable def B43 : Code := Try.f43.body.getD .skip
theorem bod_43 : Bodied Try.prog 43 := bodied (fn := Try.f43) (by kernel_rfl) (by kernel_rfl) (by kernel_rfl)
noncomputable def B11 : Code := Try.f11.body.getD .skip
theorem bod_11 : Bodied Try.prog 11 := bodied (fn := Try.f11) (by kernel_rfl) (by kernel_rfl) (by kernel_rfl)
noncomputable def B83 : Code := Try.f83.body.getD .skip
theorem bod_83 : Bodied Try.prog 83 := bodied (fn := Try.f83) (by kernel_rfl) (by kernel_rfl) (by kernel_rfl)
noncomputable def B55 : Code := Try.f55.body.getD .skip
theorem bod_55 : Bodied Try.prog 55 := bodied (fn := Try.f55) (by kernel_rfl) (by kernel_rfl) (by kernel_rfl)
noncomputable def B23 : Code := Try.f23.body.getD .skip
theorem bod_23 : Bodied Try.prog 23 := bodied (fn := Try.f23) (by kernel_rfl) (by kernel_rfl) (by kernel_rfl)
noncomputable def B35 : Code := Try.f35.body.getD .skip
theorem bod_35 : Bodied Try.prog 35 := bodied (fn := Try.f35) (by kernel_rfl) (by kernel_rfl) (by kernel_rfl)
noncomputable def B14 : Code := Try.f14.body.getD .skip
theorem bod_14 : Bodied Try.prog 14 := bodied (fn := Try.f14) (by kernel_rfl) (by kernel_rfl) (by kernel_rfl)
noncomputable def B46 : Code := Try.f46.body.getD .skip
theorem bod_46 : Bodied Try.prog 46 := bodied (fn := Try.f46) (by kernel_rfl) (by kernel_rfl) (by kernel_rfl)
noncomputable def B13 : Code := Try.f13.body.getD .skip
theorem bod_13 : Bodied Try.prog 13 := bodied (fn := Try.f13) (by kernel_rfl) (by kernel_rfl) (by kernel_rfl)
noncomputable def B88 : Code := Try.f88.body.getD .skip
theorem bod_88 : Bodied Try.prog 88 := bodied (fn := Try.f88) (by kernel_rfl) (by kernel_rfl) (by kernel_rfl)
noncomputable def B59 : Code := Try.f59.body.getD .skip
theorem bod_59 : Bodied Try.prog 59 := bodied (fn := Try.f59) (by kernel_rfl) (by kernel_rfl) (by kernel_rfl)
noncomputable def B25 : Code := Try.f25.body.getD .skip
theorem bod_25 : Bodied Try.prog 25 := bodied (fn := Try.f25) (by kernel_rfl) (by kernel_rfl) (by kernel_rfl)
noncomputable def B37 : Code := Try.f37.body.getD .skip
theorem bod_37 : Bodied Try.prog 37 := bodied (fn := Try.f37) (by kernel_rfl) (by kernel_rfl) (by kernel_rfl)
noncomputable def B57 : Code := Try.f57.body.getD .skip
theorem bod_57 : Bodied Try.prog 57 := bodied (fn := Try.f57) (by kernel_rfl) (by kernel_rfl) (by kernel_rfl)
noncomputable def B145 : Code := Try.f145.body.getD .skip
theorem bod_145 : Bodied Try.prog 145 := bodied (fn := Try.f145) (by kernel_rfl) (by kernel_rfl) (by kernel_rfl)
noncomputable def B153 : Code := Try.f153.body.getD .skip
theorem bod_153 : Bodied Try.prog 153 := bodied (fn := Try.f153) (by kernel_rfl) (by kernel_rfl) (by kernel_rfl)
noncomputable def B154 : Code := Try.f154.body.getD .skip
theorem bod_154 : Bodied Try.prog 154 := bodied (fn := Try.f154) (by kernel_rfl) (by kernel_rfl) (by kernel_rfl)
noncomputable def B155 : Code := Try.f155.body.getD .skip
theorem bod_155 : Bodied Try.prog 155 := bodied (fn := Try.f155) (by kernel_rfl) (by kernel_rfl) (by kernel_rfl)
noncomputable def B146 : Code := Try.f146.body.getD .skip
theorem bod_146 : Bodied Try.prog 146 := bodied (fn := Try.f146) (by kernel_rfl) (by kernel_rfl) (by kernel_rfl)
noncomputable def B166 : Code := Try.f166.body.getD .skip
theorem bod_166 : Bodied Try.prog 166 := bodied (fn := Try.f166) (by kernel_rfl) (by kernel_rfl) (by kernel_rfl)
noncomputable def B147 : Code := Try.f147.body.getD .skip
theorem bod_147 : Bodied Try.prog 147 := bodied (fn := Try.f147) (by kernel_rfl) (by kernel_rfl) (by kernel_rfl)
noncomputable def B148 : Code := Try.f148.body.getD .skip
theorem bod_148 : Bodied Try.prog 148 := bodied (fn := Try.f148) (by kernel_rfl) (by kernel_rfl) (by kernel_rfl)
noncomputable def B98 : Code := Try.f98.body.getD .skip
theorem bod_98 : Bodied Try.prog 98 := bodied (fn := Try.f98) (by kernel_rfl) (by kernel_rfl) (by kernel_rfl)
noncomputable def B158 : Code := Try.f158.body.getD .skip
theorem bod_158 : Bodied Try.prog 158 := bodied (fn := Try.f158) (by kernel_rfl) (by kernel_rfl) (by kernel_rfl)
noncomputable def B100 : Code := Try.f100.body.getD .skip
theorem bod_100 : Bodied Try.prog 100 := bodied (fn := Try.f100) (by kernel_rfl) (by kernel_rfl) (by kernel_rfl)
noncomputable def B136 : Code := Try.f136.body.getD .skip
theorem bod_136 : Bodied Try.prog 136 := bodied (fn := Try.f136) (by kernel_rfl) (by kernel_rfl) (by kernel_rfl)
noncomputable def B135 : Code := Try.f135.body.getD .skip
theorem bod_135 : Bodied Try.prog 135 := bodied (fn := Try.f135) (by kernel_rfl) (by kernel_rfl) (by kernel_rfl)
noncomputable def B86 : Code := Try.f86.body.getD .skip
theorem bod_86 : Bodied Try.prog 86 := bodied (fn := Try.f86) (by kernel_rfl) (by kernel_rfl) (by kernel_rfl)
noncomputable def B101 : Code := Try.f101.body.getD .skip
theorem bod_101 : Bodied Try.prog 101 := bodied (fn := Try.f101) (by kernel_rfl) (by kernel_rfl) (by kernel_rfl)
noncomputable def B87 : Code := Try.f87.body.getD .skip
theorem bod_87 : Bodied Try.prog 87 := bodied (fn := Try.f87) (by kernel_rfl) (by kernel_rfl) (by kernel_rfl)
noncomputable def B44 : Code := Try.f44.body.getD .skip
theorem bod_44 : Bodied Try.prog 44 := bodied (fn := Try.f44) (by kernel_rfl) (by kernel_rfl) (by kernel_rfl)
noncomputable def B84 : Code := Try.f84.body.getD .skip
theorem bod_84 : Bodied Try.prog 84 := bodied (fn := Try.f84) (by kernel_rfl) (by kernel_rfl) (by kernel_rfl)
noncomputable def B163 : Code := Try.f163.body.getD .skip
theorem bod_163 : Bodied Try.prog 163 := bodied (fn := Try.f163) (by kernel_rfl) (by kernel_rfl) (by kernel_rfl)
noncomputable def B108 : Code := Try.f108.body.getD .skip
theorem bod_108 : Bodied Try.prog 108 := bodied (fn := Try.f108) (by kernel_rfl) (by kernel_rfl) (by kernel_rfl)
noncomputable def B164 : Code := Try.f164.body.getD .skip
theorem bod_164 : Bodied Try.prog 164 := bodied (fn := Try.f164) (by kernel_rfl) (by kernel_rfl) (by kernel_rfl)
noncomputable def B133 : Code := Try.f133.body.getD .skip
theorem bod_133 : Bodied Try.prog 133 := bodied (fn := Try.f133) (by kernel_rfl) (by kernel_rfl) (by kernel_rfl)
noncomputable def B134 : Code := Try.f134.body.getD .skip
theorem bod_134 : Bodied Try.prog 134 := bodied (fn := Try.f134) (by kernel_rfl) (by kernel_rfl) (by kernel_rfl)
noncomputable def B85 : Code := Try.f85.body.getD .skip
theorem bod_85 : Bodied Try.prog 85 := bodied (fn := Try.f85) (by kernel_rfl) (by kernel_rfl) (by kernel_rfl)
noncomputable def B36 : Code := Try.f36.body.getD .skip
theorem bod_36 : Bodied Try.prog 36 := bodied (fn := Try.f36) (by kernel_rfl) (by kernel_rfl) (by kernel_rfl)
noncomputable def B64 : Code := Try.f64.body.getD .skip
theorem bod_64 : Bodied Try.prog 64 := bodied (fn := Try.f64) (by kernel_rfl) (by kernel_rfl) (by kernel_rfl)
noncomputable def B117 : Code := Try.f117.body.getD .skip
theorem bod_117 : Bodied Try.prog 117 := bodied (fn := Try.f117) (by kernel_rfl) (by kernel_rfl) (by kernel_rfl)
noncomputable def B137 : Code := Try.f137.body.getD .skip
theorem bod_137 : Bodied Try.prog 137 := bodied (fn := Try.f137) (by kernel_rfl) (by kernel_rfl) (by kernel_rfl)
noncomputable def B138 : Code := Try.f138.body.getD .skip
theorem bod_138 : Bodied Try.prog 138 := bodied (fn := Try.f138) (by kernel_rfl) (by kernel_rfl) (by kernel_rfl)
noncomputable def B139 : Code := Try.f139.body.getD .skip
theorem bod_139 : Bodied Try.prog 139 := bodied (fn := Try.f139) (by kernel_rfl) (by kernel_rfl) (by kernel_rfl)
noncomputable def B140 : Code := Try.f140.body.getD .skip
theorem bod_140 : Bodied Try.prog 140 := bodied (fn := Try.f140) (by kernel_rfl) (by kernel_rfl) (by kernel_rfl)
noncomputable def B141 : Code := Try.f141.body.getD .skip
theorem bod_141 : Bodied Try.prog 141 := bodied (fn := Try.f141) (by kernel_rfl) (by kernel_rfl) (by kernel_rfl)
noncomputable def B89 : Code := Try.f89.body.getD .skip
theorem bod_89 : Bodied Try.prog 89 := bodied (fn := Try.f89) (by kernel_rfl) (by kernel_rfl) (by kernel_rfl)
noncomputable def B103 : Code := Try.f103.body.getD .skip
theorem bod_103 : Bodied Try.prog 103 := bodied (fn := Try.f103) (by kernel_rfl) (by kernel_rfl) (by kernel_rfl)
noncomputable def B151 : Code := Try.f151.body.getD .skip
theorem bod_151 : Bodied Try.prog 151 := bodied (fn := Try.f151) (by kernel_rfl) (by kernel_rfl) (by kernel_rfl)
noncomputable def B150 : Code := Try.f150.body.getD .skip
theorem bod_150 : Bodied Try.prog 150 := bodied (fn := Try.f150) (by kernel_rfl) (by kernel_rfl) (by kernel_rfl)
noncomputable def B102 : Code := Try.f102.body.getD .skip
theorem bod_102 : Bodied Try.prog 102 := bodied (fn := Try.f102) (by kernel_rfl) (by kernel_rfl) (by kernel_rfl)
noncomputable def B111 : Code := Try.f111.body.getD .skip
theorem bod_111 : Bodied Try.prog 111 := bodied (fn := Try.f111) (by kernel_rfl) (by kernel_rfl) (by kernel_rfl)
noncomputable def B143 : Code := Try.f143.body.getD .skip
theorem bod_143 : Bodied Try.prog 143 := bodied (fn := Try.f143) (by kernel_rfl) (by kernel_rfl) (by kernel_rfl)
noncomputable def B165 : Code := Try.f165.body.getD .skip
theorem bod_165 : Bodied Try.prog 165 := bodied (fn := Try.f165) (by kernel_rfl) (by kernel_rfl) (by kernel_rfl)
noncomputable def B142 : Code := Try.f142.body.getD .skip
theorem bod_142 : Bodied Try.prog 142 := bodied (fn := Try.f142) (by kernel_rfl) (by kernel_rfl) (by kernel_rfl)
noncomputable def B90 : Code := Try.f90.body.getD .skip
theorem bod_90 : Bodied Try.prog 90 := bodied (fn := Try.f90) (by kernel_rfl) (by kernel_rfl) (by kernel_rfl)
noncomputable def B38 : Code := Try.f38.body.getD .skip
theorem bod_38 : Bodied Try.prog 38 := bodied (fn := Try.f38) (by kernel_rfl) (by kernel_rfl) (by kernel_rfl)
noncomputable def B18 : Code := Try.f18.body.getD .skip
theorem bod_18 : Bodied Try.prog 18 := bodied (fn := Try.f18) (by kernel_rfl) (by kernel_rfl) (by kernel_rfl)
noncomputable def B50 : Code := Try.f50.body.getD .skip
theorem bod_50 : Bodied Try.prog 50 := bodied (fn := Try.f50) (by kernel_rfl) (by kernel_rfl) (by kernel_rfl)
noncomputable def B17 : Code := Try.f17.body.getD .skip
theorem bod_17 : Bodied Try.prog 17 := bodied (fn := Try.f17) (by kernel_rfl) (by kernel_rfl) (by kernel_rfl)
noncomputable def B91 : Code := Try.f91.body.getD .skip
theorem bod_91 : Bodied Try.prog 91 := bodied (fn := Try.f91) (by kernel_rfl) (by kernel_rfl) (by kernel_rfl)
noncomputable def B49 : Code := Try.f49.body.getD .skip
theorem bod_49 : Bodied Try.prog 49 := bodied (fn := Try.f49) (by kernel_rfl) (by kernel_rfl) (by kernel_rfl)
noncomputable def B16 : Code := Try.f16.body.getD .skip
theorem bod_16 : Bodied Try.prog 16 := bodied (fn := Try.f16) (by kernel_rfl) (by kernel_rfl) (by kernel_rfl)
noncomputable def B39 : Code := Try.f39.body.getD .skip
theorem bod_39 : Bodied Try.prog 39 := bodied (fn := Try.f39) (by kernel_rfl) (by kernel_rfl) (by kernel_rfl)
noncomputable def B9 : Code := Try.f9.body.getD .skip
theorem bod_9 : Bodied Try.prog 9 := bodied (fn := Try.f9) (by kernel_rfl) (by kernel_rfl) (by kernel_rfl)

theorem rg {c : Ctx} {code : Code} {Q : Exit → AState → Prop} {nt : Nat} (hnt : c.nt = nt) (ah : Option (List (List Nat))) (rs : List (Option Orc)) {T : List (Nat × AV)} {O : List (Nat × AObj)} (T' : List (Nat × AV)) (O' : List (Nat × AObj)) {A : Prop} (h : A)
    (hQ : Q .normal (mkS T' O')) (hk : Nat.beq (ckind code) 0 = true := by kernel_rfl) (e1 : (evRegion TIx Try.prog nt (rops code) ah rs T O (T'.map (·.1)) (O'.map (·.1))).map (fun r => (r.T, keepO r.O)) = some (T', O') := by kernel_rfl)
    (e2 : A = obsOf (evRegion TIx Try.prog nt (rops code) ah rs T O (T'.map (·.1)) (O'.map (·.1))) := by kernel_rfl) (hdraw : ((!rdraw code && ah.isNone) || ah.isSome) = true := by kernel_rfl) : Wp Try.prog c code Q (mkS T O) := Wp.reg tiok mix hnt hk e1 h e2 hdraw hQ
theorem rg0 {c : Ctx} {code : Code} {Q : Exit → AState → Prop} {nt : Nat} (hnt : c.nt = nt) (n : Nat) {T : List (Nat × AV)} {O : List (Nat × AObj)} (T' : List (Nat × AV)) (O' : List (Nat × AObj))
    (hQ : Q .normal (mkS T' O')) (hk : Nat.beq (ckind code) 0 = true := by kernel_rfl) (e1 : (evRegion TIx Try.prog nt (rops code) none (List.replicate n (some .no)) T O (T'.map (·.1)) (O'.map (·.1))).map (fun r => (r.T, keepO r.O)) = some (T', O') := by kernel_rfl)
    (e2 : True = obsOf (evRegion TIx Try.prog nt (rops code) none (List.replicate n (some .no)) T O (T'.map (·.1)) (O'.map (·.1))) := by kernel_rfl) (hdraw : ((!rdraw code && true) || false) = true := by kernel_rfl) : Wp Try.prog c code Q (mkS T O) := Wp.reg tiok mix hnt hk e1 trivial e2 hdraw hQ
theorem ix {e : List Int} {i : Int} {x : Int} (h : idx e i = some x) : 0 ≤ i ∧ (e.map I)[i.toNat]? = some (.int .i64 x) := idx_sl (enc := I) (x := .int .i64 x) h (eq_I x)
def rep : Nat → Prop → Prop → Prop
  | 0, _, b => b
  | n + 1, a, b => a ∧ rep n a b
theorem ar {a b : Prop} : ∀ (n : Nat) (x : a) (y : b), rep n a b
  | 0, _, y => y
  | n + 1, x, y => ⟨x, ar n x y⟩
abbrev sI (l : List Int) : AV := .sl (List.map I l)
abbrev sB (l : List Bool) : AV := .sl (List.map AV.bool l)
def rx (l : List (List Nat)) : Option (List (List Nat)) := some (l.map fun r => match r with | n :: e => List.range n ++ e | [] => [])
def rh (l : List Nat) : Option (List (List Nat)) := some (l.map List.range)
theorem ai {a b : Prop} (x : a) (y : b) : a ∧ b := ⟨x, y⟩
theorem oi (v : AV) : ([] : List Nat) = [] ∨ noSh v = true := Or.inl rfl
theorem tt : true = true := rfl
theorem nf : true ≠ false := fun h => nomatch h
abbrev oN : Option Orc := some .no
abbrev oF : Option Orc := some (.cond false)
abbrev oT : Option Orc := some (.cond true)
abbrev o_ : Option Orc := none
abbrev oc (v : AV) : Option Orc := some (.call v [] 1)
theorem sN {c : Ctx} {code : Code} {Q : Exit → AState → Prop} {σ : AState} (h : Wp Try.prog c (cl code) (seqQ Try.prog c (cr code) Q) σ) (hk : Nat.beq (ckind code) 1 = true := by kernel_rfl) : Wp Try.prog c code Q σ := Wp.seqN hk h
theorem cT {c : Ctx} {code : Code} {Q : Exit → AState → Prop} {σ : AState} (b : Bool) (hb : b = true) (h1 : Wp Try.prog c (cl code) Q σ) (hk : Nat.beq (ckind code) 2 = true := by kernel_rfl) (hx : opv σ (copd code) = .bool b := by kernel_rfl) : Wp Try.prog c code Q σ := Wp.condT hk hx hb h1
theorem cF {c : Ctx} {code : Code} {Q : Exit → AState → Prop} {σ : AState} (b : Bool) (hb : b = false) (h1 : Wp Try.prog c (cr code) Q σ) (hk : Nat.beq (ckind code) 2 = true := by kernel_rfl) (hx : opv σ (copd code) = .bool b := by kernel_rfl) : Wp Try.prog c code Q σ := Wp.condF hk hx hb h1
end Go.Am
