/- The table of types, and the bodies. Printed by a program of mine (gen.py). -/
import Derived.Test.YtmdfopkcoinfeaaGNFTy
import Derived.Test.YtmdfopkcoinfeaaChecked
set_option linter.unusedVariables false
set_option linter.unusedSimpArgs false
set_option maxRecDepth 100000
namespace Go.Am
open Go Go.Proofs
def tis : List (Nat × TInfo) := [(28, ⟨.struct [(0, 3), (1, 3), (2, 22), (3, 26)], 4, 64, .agg [.int .i64 0, .int .i64 0, .nils, .nils]⟩),
  (3, ⟨.int .i64, 1, 8, .int .i64 0⟩),
  (4, ⟨.bool, 1, 1, .bool false⟩),
  (22, ⟨.slice 3, 1, 24, .nils⟩),
  (26, ⟨.slice 28, 1, 24, .nils⟩),
  (37, ⟨.struct [(0, 3), (1, 3), (2, 22), (3, 35)], 4, 64, .agg [.int .i64 0, .int .i64 0, .nils, .nils]⟩),
  (35, ⟨.slice 37, 1, 24, .nils⟩),
  (69, ⟨.slice 22, 1, 24, .nils⟩),
  (110, ⟨.struct [(0, 9), (1, 3), (2, 4), (3, 4)], 4, 32, .agg [.str ByteArray.empty, .int .i64 0, .bool false, .bool false]⟩),
  (9, ⟨.string, 1, 16, .str ByteArray.empty⟩),
  (114, ⟨.slice 110, 1, 24, .nils⟩)]
def TIx : Nat → Option TInfo := lk none (tis.map fun p => (p.1, some p.2))
theorem ti_28 : TFact Try.prog 28 ⟨.struct [(0, 3), (1, 3), (2, 22), (3, 26)], 4, 64, .agg [.int .i64 0, .int .i64 0, .nils, .nils]⟩ := ⟨by kernel_rfl, by kernel_rfl, by kernel_rfl, by kernel_rfl⟩
theorem ti_3 : TFact Try.prog 3 ⟨.int .i64, 1, 8, .int .i64 0⟩ := ⟨by kernel_rfl, by kernel_rfl, by kernel_rfl, by kernel_rfl⟩
theorem ti_4 : TFact Try.prog 4 ⟨.bool, 1, 1, .bool false⟩ := ⟨by kernel_rfl, by kernel_rfl, by kernel_rfl, by kernel_rfl⟩
theorem ti_22 : TFact Try.prog 22 ⟨.slice 3, 1, 24, .nils⟩ := ⟨by kernel_rfl, by kernel_rfl, by kernel_rfl, by kernel_rfl⟩
theorem ti_26 : TFact Try.prog 26 ⟨.slice 28, 1, 24, .nils⟩ := ⟨by kernel_rfl, by kernel_rfl, by kernel_rfl, by kernel_rfl⟩
theorem ti_37 : TFact Try.prog 37 ⟨.struct [(0, 3), (1, 3), (2, 22), (3, 35)], 4, 64, .agg [.int .i64 0, .int .i64 0, .nils, .nils]⟩ := ⟨by kernel_rfl, by kernel_rfl, by kernel_rfl, by kernel_rfl⟩
theorem ti_35 : TFact Try.prog 35 ⟨.slice 37, 1, 24, .nils⟩ := ⟨by kernel_rfl, by kernel_rfl, by kernel_rfl, by kernel_rfl⟩
theorem ti_69 : TFact Try.prog 69 ⟨.slice 22, 1, 24, .nils⟩ := ⟨by kernel_rfl, by kernel_rfl, by kernel_rfl, by kernel_rfl⟩
theorem ti_110 : TFact Try.prog 110 ⟨.struct [(0, 9), (1, 3), (2, 4), (3, 4)], 4, 32, .agg [.str ByteArray.empty, .int .i64 0, .bool false, .bool false]⟩ := ⟨by kernel_rfl, by kernel_rfl, by kernel_rfl, by kernel_rfl⟩
theorem ti_9 : TFact Try.prog 9 ⟨.string, 1, 16, .str ByteArray.empty⟩ := ⟨by kernel_rfl, by kernel_rfl, by kernel_rfl, by kernel_rfl⟩
theorem ti_114 : TFact Try.prog 114 ⟨.slice 110, 1, 24, .nils⟩ := ⟨by kernel_rfl, by kernel_rfl, by kernel_rfl, by kernel_rfl⟩
theorem tiok : TIok Try.prog TIx := TIok.of_list tis (by
  intro p hp
  simp only [tis, List.mem_cons, List.not_mem_nil, or_false] at hp
  rcases hp with rfl | rfl | rfl | rfl | rfl | rfl | rfl | rfl | rfl | rfl | rfl
  · exact ti_28
  · exact ti_3
  · exact ti_4
  · exact ti_22
  · exact ti_26
  · exact ti_37
  · exact ti_35
  · exact ti_69
  · exact ti_110
  · exact ti_9
  · exact ti_114)
theorem mix : Try.prog.follows .mixedOrders = true := Try.checked.mixed
noncomputable def B30 : Code := Try.f30.body.getD .skip
theorem bod_30 : Bodied Try.prog 30 := bodied (fn := Try.f30) (by kernel_rfl) (by kernel_rfl) (by kernel_rfl)
noncomputable def B32 : Code := Try.f32.body.getD .skip
theorem bod_32 : Bodied Try.prog 32 := bodied (fn := Try.f32) (by kernel_rfl) (by kernel_rfl) (by kernel_rfl)
noncomputable def B9 : Code := Try.f9.body.getD .skip
theorem bod_9 : Bodied Try.prog 9 := bodied (fn := Try.f9) (by kernel_rfl) (by kernel_rfl) (by kernel_rfl)
noncomputable def B12 : Code := Try.f12.body.getD .skip
theorem bod_12 : Bodied Try.prog 12 := bodied (fn := Try.f12) (by kernel_rfl) (by kernel_rfl) (by kernel_rfl)
noncomputable def B38 : Code := Try.f38.body.getD .skip
theorem bod_38 : Bodied Try.prog 38 := bodied (fn := Try.f38) (by kernel_rfl) (by kernel_rfl) (by kernel_rfl)
noncomputable def B13 : Code := Try.f13.body.getD .skip
theorem bod_13 : Bodied Try.prog 13 := bodied (fn := Try.f13) (by kernel_rfl) (by kernel_rfl) (by kernel_rfl)
noncomputable def B97 : Code := Try.f97.body.getD .skip
theorem bod_97 : Bodied Try.prog 97 := bodied (fn := Try.f97) (by kernel_rfl) (by kernel_rfl) (by kernel_rfl)
noncomputable def B57 : Code := Try.f57.body.getD .skip
theorem bod_57 : Bodied Try.prog 57 := bodied (fn := Try.f57) (by kernel_rfl) (by kernel_rfl) (by kernel_rfl)
noncomputable def B146 : Code := Try.f146.body.getD .skip
theorem bod_146 : Bodied Try.prog 146 := bodied (fn := Try.f146) (by kernel_rfl) (by kernel_rfl) (by kernel_rfl)
noncomputable def B147 : Code := Try.f147.body.getD .skip
theorem bod_147 : Bodied Try.prog 147 := bodied (fn := Try.f147) (by kernel_rfl) (by kernel_rfl) (by kernel_rfl)
noncomputable def B148 : Code := Try.f148.body.getD .skip
theorem bod_148 : Bodied Try.prog 148 := bodied (fn := Try.f148) (by kernel_rfl) (by kernel_rfl) (by kernel_rfl)
noncomputable def B137 : Code := Try.f137.body.getD .skip
theorem bod_137 : Bodied Try.prog 137 := bodied (fn := Try.f137) (by kernel_rfl) (by kernel_rfl) (by kernel_rfl)
noncomputable def B73 : Code := Try.f73.body.getD .skip
theorem bod_73 : Bodied Try.prog 73 := bodied (fn := Try.f73) (by kernel_rfl) (by kernel_rfl) (by kernel_rfl)
noncomputable def B138 : Code := Try.f138.body.getD .skip
theorem bod_138 : Bodied Try.prog 138 := bodied (fn := Try.f138) (by kernel_rfl) (by kernel_rfl) (by kernel_rfl)
noncomputable def B108 : Code := Try.f108.body.getD .skip
theorem bod_108 : Bodied Try.prog 108 := bodied (fn := Try.f108) (by kernel_rfl) (by kernel_rfl) (by kernel_rfl)
noncomputable def B135 : Code := Try.f135.body.getD .skip
theorem bod_135 : Bodied Try.prog 135 := bodied (fn := Try.f135) (by kernel_rfl) (by kernel_rfl) (by kernel_rfl)
noncomputable def B74 : Code := Try.f74.body.getD .skip
theorem bod_74 : Bodied Try.prog 74 := bodied (fn := Try.f74) (by kernel_rfl) (by kernel_rfl) (by kernel_rfl)
noncomputable def B136 : Code := Try.f136.body.getD .skip
theorem bod_136 : Bodied Try.prog 136 := bodied (fn := Try.f136) (by kernel_rfl) (by kernel_rfl) (by kernel_rfl)
noncomputable def B131 : Code := Try.f131.body.getD .skip
theorem bod_131 : Bodied Try.prog 131 := bodied (fn := Try.f131) (by kernel_rfl) (by kernel_rfl) (by kernel_rfl)
noncomputable def B100 : Code := Try.f100.body.getD .skip
theorem bod_100 : Bodied Try.prog 100 := bodied (fn := Try.f100) (by kernel_rfl) (by kernel_rfl) (by kernel_rfl)
noncomputable def B98 : Code := Try.f98.body.getD .skip
theorem bod_98 : Bodied Try.prog 98 := bodied (fn := Try.f98) (by kernel_rfl) (by kernel_rfl) (by kernel_rfl)
noncomputable def B56 : Code := Try.f56.body.getD .skip
theorem bod_56 : Bodied Try.prog 56 := bodied (fn := Try.f56) (by kernel_rfl) (by kernel_rfl) (by kernel_rfl)
noncomputable def B99 : Code := Try.f99.body.getD .skip
theorem bod_99 : Bodied Try.prog 99 := bodied (fn := Try.f99) (by kernel_rfl) (by kernel_rfl) (by kernel_rfl)
noncomputable def B58 : Code := Try.f58.body.getD .skip
theorem bod_58 : Bodied Try.prog 58 := bodied (fn := Try.f58) (by kernel_rfl) (by kernel_rfl) (by kernel_rfl)
noncomputable def B89 : Code := Try.f89.body.getD .skip
theorem bod_89 : Bodied Try.prog 89 := bodied (fn := Try.f89) (by kernel_rfl) (by kernel_rfl) (by kernel_rfl)
noncomputable def B87 : Code := Try.f87.body.getD .skip
theorem bod_87 : Bodied Try.prog 87 := bodied (fn := Try.f87) (by kernel_rfl) (by kernel_rfl) (by kernel_rfl)
noncomputable def B59 : Code := Try.f59.body.getD .skip
theorem bod_59 : Bodied Try.prog 59 := bodied (fn := Try.f59) (by kernel_rfl) (by kernel_rfl) (by kernel_rfl)
noncomputable def B49 : Code := Try.f49.body.getD .skip
theorem bod_49 : Bodied Try.prog 49 := bodied (fn := Try.f49) (by kernel_rfl) (by kernel_rfl) (by kernel_rfl)
noncomputable def B88 : Code := Try.f88.body.getD .skip
theorem bod_88 : Bodied Try.prog 88 := bodied (fn := Try.f88) (by kernel_rfl) (by kernel_rfl) (by kernel_rfl)
noncomputable def B124 : Code := Try.f124.body.getD .skip
theorem bod_124 : Bodied Try.prog 124 := bodied (fn := Try.f124) (by kernel_rfl) (by kernel_rfl) (by kernel_rfl)
noncomputable def B125 : Code := Try.f125.body.getD .skip
theorem bod_125 : Bodied Try.prog 125 := bodied (fn := Try.f125) (by kernel_rfl) (by kernel_rfl) (by kernel_rfl)
noncomputable def B126 : Code := Try.f126.body.getD .skip
theorem bod_126 : Bodied Try.prog 126 := bodied (fn := Try.f126) (by kernel_rfl) (by kernel_rfl) (by kernel_rfl)
noncomputable def B127 : Code := Try.f127.body.getD .skip
theorem bod_127 : Bodied Try.prog 127 := bodied (fn := Try.f127) (by kernel_rfl) (by kernel_rfl) (by kernel_rfl)
noncomputable def B90 : Code := Try.f90.body.getD .skip
theorem bod_90 : Bodied Try.prog 90 := bodied (fn := Try.f90) (by kernel_rfl) (by kernel_rfl) (by kernel_rfl)
noncomputable def B128 : Code := Try.f128.body.getD .skip
theorem bod_128 : Bodied Try.prog 128 := bodied (fn := Try.f128) (by kernel_rfl) (by kernel_rfl) (by kernel_rfl)
noncomputable def B91 : Code := Try.f91.body.getD .skip
theorem bod_91 : Bodied Try.prog 91 := bodied (fn := Try.f91) (by kernel_rfl) (by kernel_rfl) (by kernel_rfl)
noncomputable def B50 : Code := Try.f50.body.getD .skip
theorem bod_50 : Bodied Try.prog 50 := bodied (fn := Try.f50) (by kernel_rfl) (by kernel_rfl) (by kernel_rfl)
noncomputable def B20 : Code := Try.f20.body.getD .skip
theorem bod_20 : Bodied Try.prog 20 := bodied (fn := Try.f20) (by kernel_rfl) (by kernel_rfl) (by kernel_rfl)
noncomputable def B24 : Code := Try.f24.body.getD .skip
theorem bod_24 : Bodied Try.prog 24 := bodied (fn := Try.f24) (by kernel_rfl) (by kernel_rfl) (by kernel_rfl)
noncomputable def B61 : Code := Try.f61.body.getD .skip
theorem bod_61 : Bodied Try.prog 61 := bodied (fn := Try.f61) (by kernel_rfl) (by kernel_rfl) (by kernel_rfl)
noncomputable def B149 : Code := Try.f149.body.getD .skip
theorem bod_149 : Bodied Try.prog 149 := bodied (fn := Try.f149) (by kernel_rfl) (by kernel_rfl) (by kernel_rfl)
noncomputable def B133 : Code := Try.f133.body.getD .skip
theorem bod_133 : Bodied Try.prog 133 := bodied (fn := Try.f133) (by kernel_rfl) (by kernel_rfl) (by kernel_rfl)
noncomputable def B77 : Code := Try.f77.body.getD .skip
theorem bod_77 : Bodied Try.prog 77 := bodied (fn := Try.f77) (by kernel_rfl) (by kernel_rfl) (by kernel_rfl)
noncomputable def B110 : Code := Try.f110.body.getD .skip
theorem bod_110 : Bodied Try.prog 110 := bodied (fn := Try.f110) (by kernel_rfl) (by kernel_rfl) (by kernel_rfl)
noncomputable def B134 : Code := Try.f134.body.getD .skip
theorem bod_134 : Bodied Try.prog 134 := bodied (fn := Try.f134) (by kernel_rfl) (by kernel_rfl) (by kernel_rfl)
noncomputable def B150 : Code := Try.f150.body.getD .skip
theorem bod_150 : Bodied Try.prog 150 := bodied (fn := Try.f150) (by kernel_rfl) (by kernel_rfl) (by kernel_rfl)
noncomputable def B132 : Code := Try.f132.body.getD .skip
theorem bod_132 : Bodied Try.prog 132 := bodied (fn := Try.f132) (by kernel_rfl) (by kernel_rfl) (by kernel_rfl)
noncomputable def B101 : Code := Try.f101.body.getD .skip
theorem bod_101 : Bodied Try.prog 101 := bodied (fn := Try.f101) (by kernel_rfl) (by kernel_rfl) (by kernel_rfl)
noncomputable def B60 : Code := Try.f60.body.getD .skip
theorem bod_60 : Bodied Try.prog 60 := bodied (fn := Try.f60) (by kernel_rfl) (by kernel_rfl) (by kernel_rfl)
noncomputable def B94 : Code := Try.f94.body.getD .skip
theorem bod_94 : Bodied Try.prog 94 := bodied (fn := Try.f94) (by kernel_rfl) (by kernel_rfl) (by kernel_rfl)
noncomputable def B102 : Code := Try.f102.body.getD .skip
theorem bod_102 : Bodied Try.prog 102 := bodied (fn := Try.f102) (by kernel_rfl) (by kernel_rfl) (by kernel_rfl)
noncomputable def B92 : Code := Try.f92.body.getD .skip
theorem bod_92 : Bodied Try.prog 92 := bodied (fn := Try.f92) (by kernel_rfl) (by kernel_rfl) (by kernel_rfl)
noncomputable def B62 : Code := Try.f62.body.getD .skip
theorem bod_62 : Bodied Try.prog 62 := bodied (fn := Try.f62) (by kernel_rfl) (by kernel_rfl) (by kernel_rfl)
noncomputable def B51 : Code := Try.f51.body.getD .skip
theorem bod_51 : Bodied Try.prog 51 := bodied (fn := Try.f51) (by kernel_rfl) (by kernel_rfl) (by kernel_rfl)
noncomputable def B93 : Code := Try.f93.body.getD .skip
theorem bod_93 : Bodied Try.prog 93 := bodied (fn := Try.f93) (by kernel_rfl) (by kernel_rfl) (by kernel_rfl)
noncomputable def B63 : Code := Try.f63.body.getD .skip
theorem bod_63 : Bodied Try.prog 63 := bodied (fn := Try.f63) (by kernel_rfl) (by kernel_rfl) (by kernel_rfl)
noncomputable def B145 : Code := Try.f145.body.getD .skip
theorem bod_145 : Bodied Try.prog 145 := bodied (fn := Try.f145) (by kernel_rfl) (by kernel_rfl) (by kernel_rfl)
noncomputable def B143 : Code := Try.f143.body.getD .skip
theorem bod_143 : Bodied Try.prog 143 := bodied (fn := Try.f143) (by kernel_rfl) (by kernel_rfl) (by kernel_rfl)
noncomputable def B130 : Code := Try.f130.body.getD .skip
theorem bod_130 : Bodied Try.prog 130 := bodied (fn := Try.f130) (by kernel_rfl) (by kernel_rfl) (by kernel_rfl)
noncomputable def B144 : Code := Try.f144.body.getD .skip
theorem bod_144 : Bodied Try.prog 144 := bodied (fn := Try.f144) (by kernel_rfl) (by kernel_rfl) (by kernel_rfl)
noncomputable def B129 : Code := Try.f129.body.getD .skip
theorem bod_129 : Bodied Try.prog 129 := bodied (fn := Try.f129) (by kernel_rfl) (by kernel_rfl) (by kernel_rfl)
noncomputable def B96 : Code := Try.f96.body.getD .skip
theorem bod_96 : Bodied Try.prog 96 := bodied (fn := Try.f96) (by kernel_rfl) (by kernel_rfl) (by kernel_rfl)
noncomputable def B95 : Code := Try.f95.body.getD .skip
theorem bod_95 : Bodied Try.prog 95 := bodied (fn := Try.f95) (by kernel_rfl) (by kernel_rfl) (by kernel_rfl)
noncomputable def B52 : Code := Try.f52.body.getD .skip
theorem bod_52 : Bodied Try.prog 52 := bodied (fn := Try.f52) (by kernel_rfl) (by kernel_rfl) (by kernel_rfl)
noncomputable def B21 : Code := Try.f21.body.getD .skip
theorem bod_21 : Bodied Try.prog 21 := bodied (fn := Try.f21) (by kernel_rfl) (by kernel_rfl) (by kernel_rfl)
noncomputable def B25 : Code := Try.f25.body.getD .skip
theorem bod_25 : Bodied Try.prog 25 := bodied (fn := Try.f25) (by kernel_rfl) (by kernel_rfl) (by kernel_rfl)
noncomputable def B16 : Code := Try.f16.body.getD .skip
theorem bod_16 : Bodied Try.prog 16 := bodied (fn := Try.f16) (by kernel_rfl) (by kernel_rfl) (by kernel_rfl)
noncomputable def B43 : Code := Try.f43.body.getD .skip
theorem bod_43 : Bodied Try.prog 43 := bodied (fn := Try.f43) (by kernel_rfl) (by kernel_rfl) (by kernel_rfl)
noncomputable def B17 : Code := Try.f17.body.getD .skip
theorem bod_17 : Bodied Try.prog 17 := bodied (fn := Try.f17) (by kernel_rfl) (by kernel_rfl) (by kernel_rfl)
noncomputable def B29 : Code := Try.f29.body.getD .skip
theorem bod_29 : Bodied Try.prog 29 := bodied (fn := Try.f29) (by kernel_rfl) (by kernel_rfl) (by kernel_rfl)
noncomputable def B53 : Code := Try.f53.body.getD .skip
theorem bod_53 : Bodied Try.prog 53 := bodied (fn := Try.f53) (by kernel_rfl) (by kernel_rfl) (by kernel_rfl)
noncomputable def B22 : Code := Try.f22.body.getD .skip
theorem bod_22 : Bodied Try.prog 22 := bodied (fn := Try.f22) (by kernel_rfl) (by kernel_rfl) (by kernel_rfl)
noncomputable def B54 : Code := Try.f54.body.getD .skip
theorem bod_54 : Bodied Try.prog 54 := bodied (fn := Try.f54) (by kernel_rfl) (by kernel_rfl) (by kernel_rfl)
noncomputable def B55 : Code := Try.f55.body.getD .skip
theorem bod_55 : Bodied Try.prog 55 := bodied (fn := Try.f55) (by kernel_rfl) (by kernel_rfl) (by kernel_rfl)
noncomputable def B23 : Code := Try.f23.body.getD .skip
theorem bod_23 : Bodied Try.prog 23 := bodied (fn := Try.f23) (by kernel_rfl) (by kernel_rfl) (by kernel_rfl)
noncomputable def B6 : Code := Try.f6.body.getD .skip
theorem bod_6 : Bodied Try.prog 6 := bodied (fn := Try.f6) (by kernel_rfl) (by kernel_rfl) (by kernel_rfl)

theorem rg {c : Ctx} {code : Code} {Q : Exit → AState → Prop} {nt : Nat} (hnt : c.nt = nt) (ah : Option (List (List Nat))) (rs : List (Option Orc)) {T : List (Nat × AV)} {O : List (Nat × AObj)} (T' : List (Nat × AV)) (O' : List (Nat × AObj)) {A : Prop} (h : A)
    (hQ : Q .normal (mkS T' O')) (hk : Nat.beq (ckind code) 0 = true := by kernel_rfl) (e1 : (evRegion TIx Try.prog nt (rops code) ah rs T O (T'.map (·.1)) (O'.map (·.1))).map (fun r => (r.T, keepO r.O)) = some (T', O') := by kernel_rfl)
    (e2 : A = obsOf (evRegion TIx Try.prog nt (rops code) ah rs T O (T'.map (·.1)) (O'.map (·.1))) := by kernel_rfl) (hdraw : ((!rdraw code && ah.isNone) || ah.isSome) = true := by kernel_rfl) : Wp Try.prog c code Q (mkS T O) := Wp.reg tiok mix hnt hk e1 h e2 hdraw hQ
theorem rg0 {c : Ctx} {code : Code} {Q : Exit → AState → Prop} {nt : Nat} (hnt : c.nt = nt) (n : Nat) {T : List (Nat × AV)} {O : List (Nat × AObj)} (T' : List (Nat × AV)) (O' : List (Nat × AObj))
    (hQ : Q .normal (mkS T' O')) (hk : Nat.beq (ckind code) 0 = true := by kernel_rfl) (e1 : (evRegion TIx Try.prog nt (rops code) none (List.replicate n (some .no)) T O (T'.map (·.1)) (O'.map (·.1))).map (fun r => (r.T, keepO r.O)) = some (T', O') := by kernel_rfl)
    (e2 : True = obsOf (evRegion TIx Try.prog nt (rops code) none (List.replicate n (some .no)) T O (T'.map (·.1)) (O'.map (·.1))) := by kernel_rfl) (hdraw : ((!rdraw code && true) || false) = true := by kernel_rfl) : Wp Try.prog c code Q (mkS T O) := Wp.reg tiok mix hnt hk e1 trivial e2 hdraw hQ
theorem ix {e : List Int} {i : Int} {x : Int} (h : idx e i = some x) : 0 ≤ i ∧ (e.map I)[i.toNat]? = some (.int .i64 x) := idx_sl (enc := I) (x := .int .i64 x) h (eq_I x)
def rep : Nat → Prop → Prop → Prop
  | 0, _, b => b
  | n + 1, a, b => a ∧ rep n a b
theorem ar {a b : Prop} : ∀ (n : Nat) (x : a) (y : b), rep n a b
  | 0, _, y => y
  | n + 1, x, y => ⟨x, ar n x y⟩
abbrev sI (l : List Int) : AV := .sl (List.map I l)
abbrev sB (l : List Bool) : AV := .sl (List.map AV.bool l)
def rx (l : List (List Nat)) : Option (List (List Nat)) := some (l.map fun r => match r with | n :: e => List.range n ++ e | [] => [])
def rh (l : List Nat) : Option (List (List Nat)) := some (l.map List.range)
theorem ai {a b : Prop} (x : a) (y : b) : a ∧ b := ⟨x, y⟩
theorem oi (v : AV) : ([] : List Nat) = [] ∨ noSh v = true := Or.inl rfl
theorem tt : true = true := rfl
theorem nf : true ≠ false := fun h => nomatch h
abbrev oN : Option Orc := some .no
abbrev oF : Option Orc := some (.cond false)
abbrev oT : Option Orc := some (.cond true)
abbrev o_ : Option Orc := none
abbrev oc (v : AV) : Option Orc := some (.call v [] 1)
theorem sN {c : Ctx} {code : Code} {Q : Exit → AState → Prop} {σ : AState} (h : Wp Try.prog c (cl code) (seqQ Try.prog c (cr code) Q) σ) (hk : Nat.beq (ckind code) 1 = true := by kernel_rfl) : Wp Try.prog c code Q σ := Wp.seqN hk h
theorem cT {c : Ctx} {code : Code} {Q : Exit → AState → Prop} {σ : AState} (b : Bool) (hb : b = true) (h1 : Wp Try.prog c (cl code) Q σ) (hk : Nat.beq (ckind code) 2 = true := by kernel_rfl) (hx : opv σ (copd code) = .bool b := by kernel_rfl) : Wp Try.prog c code Q σ := Wp.condT hk hx hb h1
theorem cF {c : Ctx} {code : Code} {Q : Exit → AState → Prop} {σ : AState} (b : Bool) (hb : b = false) (h1 : Wp Try.prog c (cr code) Q σ) (hk : Nat.beq (ckind code) 2 = true := by kernel_rfl) (hx : opv σ (copd code) = .bool b := by kernel_rfl) : Wp Try.prog c code Q σ := Wp.condF hk hx hb h1
end Go.Am
