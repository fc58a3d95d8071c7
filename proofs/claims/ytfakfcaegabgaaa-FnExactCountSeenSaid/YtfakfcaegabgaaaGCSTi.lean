/- The table of types, and the bodies. Printed by a program of mine (gen.py). -/
import Derived.Test.YtfakfcaegabgaaaGCSTy
import Derived.Test.YtfakfcaegabgaaaChecked
set_option linter.unusedVariables false
set_option linter.unusedSimpArgs false
set_option maxRecDepth 100000
namespace Go.Am
open Go Go.Proofs
def tis : List (Nat × TInfo) := [(25, ⟨.struct [(0, 3), (1, 22), (2, 22), (3, 23)], 4, 80, .agg [.int .i64 0, .nils, .nils, .nils]⟩),
  (22, ⟨.slice 3, 1, 24, .nils⟩),
  (4, ⟨.bool, 1, 1, .bool false⟩),
  (3, ⟨.int .i64, 1, 8, .int .i64 0⟩),
  (23, ⟨.slice 4, 1, 24, .nils⟩),
  (32, ⟨.struct [(0, 3), (1, 22), (2, 22), (3, 23)], 4, 80, .agg [.int .i64 0, .nils, .nils, .nils]⟩),
  (57, ⟨.slice 22, 1, 24, .nils⟩)]
def TIx : Nat → Option TInfo := lk none (tis.map fun p => (p.1, some p.2))
theorem ti_25 : TFact Try.prog 25 ⟨.struct [(0, 3), (1, 22), (2, 22), (3, 23)], 4, 80, .agg [.int .i64 0, .nils, .nils, .nils]⟩ := ⟨by kernel_rfl, by kernel_rfl, by kernel_rfl, by kernel_rfl⟩
theorem ti_22 : TFact Try.prog 22 ⟨.slice 3, 1, 24, .nils⟩ := ⟨by kernel_rfl, by kernel_rfl, by kernel_rfl, by kernel_rfl⟩
theorem ti_4 : TFact Try.prog 4 ⟨.bool, 1, 1, .bool false⟩ := ⟨by kernel_rfl, by kernel_rfl, by kernel_rfl, by kernel_rfl⟩
theorem ti_3 : TFact Try.prog 3 ⟨.int .i64, 1, 8, .int .i64 0⟩ := ⟨by kernel_rfl, by kernel_rfl, by kernel_rfl, by kernel_rfl⟩
theorem ti_23 : TFact Try.prog 23 ⟨.slice 4, 1, 24, .nils⟩ := ⟨by kernel_rfl, by kernel_rfl, by kernel_rfl, by kernel_rfl⟩
theorem ti_32 : TFact Try.prog 32 ⟨.struct [(0, 3), (1, 22), (2, 22), (3, 23)], 4, 80, .agg [.int .i64 0, .nils, .nils, .nils]⟩ := ⟨by kernel_rfl, by kernel_rfl, by kernel_rfl, by kernel_rfl⟩
theorem ti_57 : TFact Try.prog 57 ⟨.slice 22, 1, 24, .nils⟩ := ⟨by kernel_rfl, by kernel_rfl, by kernel_rfl, by kernel_rfl⟩
theorem tiok : TIok Try.prog TIx := TIok.of_list tis (by
  intro p hp
  simp only [tis, List.mem_cons, List.not_mem_nil, or_false] at hp
  rcases hp with rfl | rfl | rfl | rfl | rfl | rfl | rfl
  · exact ti_25
  · exact ti_22
  · exact ti_4
  · exact ti_3
  · exact ti_23
  · exact ti_32
  · exact ti_57)
theorem mix : Try.prog.follows .mixedOrders = true := Try.checked.mixed
noncomputable def B42 : Code := Try.f42.body.getD .skip
theorem bod_42 : Bodied Try.prog 42 := bodied (fn := Try.f42) (by kernel_rfl) (by kernel_rfl) (by kernel_rfl)
noncomputable def B43 : Code := Try.f43.body.getD .skip
theorem bod_43 : Bodied Try.prog 43 := bodied (fn := Try.f43) (by kernel_rfl) (by kernel_rfl) (by kernel_rfl)
noncomputable def B11 : Code := Try.f11.body.getD .skip
theorem bod_11 : Bodied Try.prog 11 := bodied (fn := Try.f11) (by kernel_rfl) (by kernel_rfl) (by kernel_rfl)
noncomputable def B14 : Code := Try.f14.body.getD .skip
theorem bod_14 : Bodied Try.prog 14 := bodied (fn := Try.f14) (by kernel_rfl) (by kernel_rfl) (by kernel_rfl)
noncomputable def B46 : Code := Try.f46.body.getD .skip
theorem bod_46 : Bodied Try.prog 46 := bodied (fn := Try.f46) (by kernel_rfl) (by kernel_rfl) (by kernel_rfl)
noncomputable def B13 : Code := Try.f13.body.getD .skip
theorem bod_13 : Bodied Try.prog 13 := bodied (fn := Try.f13) (by kernel_rfl) (by kernel_rfl) (by kernel_rfl)
noncomputable def B57 : Code := Try.f57.body.getD .skip
theorem bod_57 : Bodied Try.prog 57 := bodied (fn := Try.f57) (by kernel_rfl) (by kernel_rfl) (by kernel_rfl)
noncomputable def B145 : Code := Try.f145.body.getD .skip
theorem bod_145 : Bodied Try.prog 145 := bodied (fn := Try.f145) (by kernel_rfl) (by kernel_rfl) (by kernel_rfl)
noncomputable def B153 : Code := Try.f153.body.getD .skip
theorem bod_153 : Bodied Try.prog 153 := bodied (fn := Try.f153) (by kernel_rfl) (by kernel_rfl) (by kernel_rfl)
noncomputable def B154 : Code := Try.f154.body.getD .skip
theorem bod_154 : Bodied Try.prog 154 := bodied (fn := Try.f154) (by kernel_rfl) (by kernel_rfl) (by kernel_rfl)
noncomputable def B155 : Code := Try.f155.body.getD .skip
theorem bod_155 : Bodied Try.prog 155 := bodied (fn := Try.f155) (by kernel_rfl) (by kernel_rfl) (by kernel_rfl)
noncomputable def B146 : Code := Try.f146.body.getD .skip
theorem bod_146 : Bodied Try.prog 146 := bodied (fn := Try.f146) (by kernel_rfl) (by kernel_rfl) (by kernel_rfl)
noncomputable def B166 : Code := Try.f166.body.getD .skip
theorem bod_166 : Bodied Try.prog 166 := bodied (fn := Try.f166) (by kernel_rfl) (by kernel_rfl) (by kernel_rfl)
noncomputable def B147 : Code := Try.f147.body.getD .skip
theorem bod_147 : Bodied Try.prog 147 := bodied (fn := Try.f147) (by kernel_rfl) (by kernel_rfl) (by kernel_rfl)
noncomputable def B148 : Code := Try.f148.body.getD .skip
theorem bod_148 : Bodied Try.prog 148 := bodied (fn := Try.f148) (by kernel_rfl) (by kernel_rfl) (by kernel_rfl)
noncomputable def B98 : Code := Try.f98.body.getD .skip
theorem bod_98 : Bodied Try.prog 98 := bodied (fn := Try.f98) (by kernel_rfl) (by kernel_rfl) (by kernel_rfl)
noncomputable def B114 : Code := Try.f114.body.getD .skip
theorem bod_114 : Bodied Try.prog 114 := bodied (fn := Try.f114) (by kernel_rfl) (by kernel_rfl) (by kernel_rfl)
noncomputable def B66 : Code := Try.f66.body.getD .skip
theorem bod_66 : Bodied Try.prog 66 := bodied (fn := Try.f66) (by kernel_rfl) (by kernel_rfl) (by kernel_rfl)
noncomputable def B158 : Code := Try.f158.body.getD .skip
theorem bod_158 : Bodied Try.prog 158 := bodied (fn := Try.f158) (by kernel_rfl) (by kernel_rfl) (by kernel_rfl)
noncomputable def B100 : Code := Try.f100.body.getD .skip
theorem bod_100 : Bodied Try.prog 100 := bodied (fn := Try.f100) (by kernel_rfl) (by kernel_rfl) (by kernel_rfl)
noncomputable def B136 : Code := Try.f136.body.getD .skip
theorem bod_136 : Bodied Try.prog 136 := bodied (fn := Try.f136) (by kernel_rfl) (by kernel_rfl) (by kernel_rfl)
noncomputable def B135 : Code := Try.f135.body.getD .skip
theorem bod_135 : Bodied Try.prog 135 := bodied (fn := Try.f135) (by kernel_rfl) (by kernel_rfl) (by kernel_rfl)
noncomputable def B86 : Code := Try.f86.body.getD .skip
theorem bod_86 : Bodied Try.prog 86 := bodied (fn := Try.f86) (by kernel_rfl) (by kernel_rfl) (by kernel_rfl)
noncomputable def B101 : Code := Try.f101.body.getD .skip
theorem bod_101 : Bodied Try.prog 101 := bodied (fn := Try.f101) (by kernel_rfl) (by kernel_rfl) (by kernel_rfl)
noncomputable def B87 : Code := Try.f87.body.getD .skip
theorem bod_87 : Bodied Try.prog 87 := bodied (fn := Try.f87) (by kernel_rfl) (by kernel_rfl) (by kernel_rfl)
noncomputable def B44 : Code := Try.f44.body.getD .skip
theorem bod_44 : Bodied Try.prog 44 := bodied (fn := Try.f44) (by kernel_rfl) (by kernel_rfl) (by kernel_rfl)
noncomputable def B121 : Code := Try.f121.body.getD .skip
theorem bod_121 : Bodied Try.prog 121 := bodied (fn := Try.f121) (by kernel_rfl) (by kernel_rfl) (by kernel_rfl)
noncomputable def B72 : Code := Try.f72.body.getD .skip
theorem bod_72 : Bodied Try.prog 72 := bodied (fn := Try.f72) (by kernel_rfl) (by kernel_rfl) (by kernel_rfl)
noncomputable def B149 : Code := Try.f149.body.getD .skip
theorem bod_149 : Bodied Try.prog 149 := bodied (fn := Try.f149) (by kernel_rfl) (by kernel_rfl) (by kernel_rfl)
noncomputable def B99 : Code := Try.f99.body.getD .skip
theorem bod_99 : Bodied Try.prog 99 := bodied (fn := Try.f99) (by kernel_rfl) (by kernel_rfl) (by kernel_rfl)
noncomputable def B115 : Code := Try.f115.body.getD .skip
theorem bod_115 : Bodied Try.prog 115 := bodied (fn := Try.f115) (by kernel_rfl) (by kernel_rfl) (by kernel_rfl)
noncomputable def B156 : Code := Try.f156.body.getD .skip
theorem bod_156 : Bodied Try.prog 156 := bodied (fn := Try.f156) (by kernel_rfl) (by kernel_rfl) (by kernel_rfl)
noncomputable def B67 : Code := Try.f67.body.getD .skip
theorem bod_67 : Bodied Try.prog 67 := bodied (fn := Try.f67) (by kernel_rfl) (by kernel_rfl) (by kernel_rfl)
noncomputable def B68 : Code := Try.f68.body.getD .skip
theorem bod_68 : Bodied Try.prog 68 := bodied (fn := Try.f68) (by kernel_rfl) (by kernel_rfl) (by kernel_rfl)
noncomputable def B116 : Code := Try.f116.body.getD .skip
theorem bod_116 : Bodied Try.prog 116 := bodied (fn := Try.f116) (by kernel_rfl) (by kernel_rfl) (by kernel_rfl)
noncomputable def B27 : Code := Try.f27.body.getD .skip
theorem bod_27 : Bodied Try.prog 27 := bodied (fn := Try.f27) (by kernel_rfl) (by kernel_rfl) (by kernel_rfl)
noncomputable def B64 : Code := Try.f64.body.getD .skip
theorem bod_64 : Bodied Try.prog 64 := bodied (fn := Try.f64) (by kernel_rfl) (by kernel_rfl) (by kernel_rfl)
noncomputable def B117 : Code := Try.f117.body.getD .skip
theorem bod_117 : Bodied Try.prog 117 := bodied (fn := Try.f117) (by kernel_rfl) (by kernel_rfl) (by kernel_rfl)
noncomputable def B137 : Code := Try.f137.body.getD .skip
theorem bod_137 : Bodied Try.prog 137 := bodied (fn := Try.f137) (by kernel_rfl) (by kernel_rfl) (by kernel_rfl)
noncomputable def B138 : Code := Try.f138.body.getD .skip
theorem bod_138 : Bodied Try.prog 138 := bodied (fn := Try.f138) (by kernel_rfl) (by kernel_rfl) (by kernel_rfl)
noncomputable def B139 : Code := Try.f139.body.getD .skip
theorem bod_139 : Bodied Try.prog 139 := bodied (fn := Try.f139) (by kernel_rfl) (by kernel_rfl) (by kernel_rfl)
noncomputable def B140 : Code := Try.f140.body.getD .skip
theorem bod_140 : Bodied Try.prog 140 := bodied (fn := Try.f140) (by kernel_rfl) (by kernel_rfl) (by kernel_rfl)
noncomputable def B141 : Code := Try.f141.body.getD .skip
theorem bod_141 : Bodied Try.prog 141 := bodied (fn := Try.f141) (by kernel_rfl) (by kernel_rfl) (by kernel_rfl)
noncomputable def B89 : Code := Try.f89.body.getD .skip
theorem bod_89 : Bodied Try.prog 89 := bodied (fn := Try.f89) (by kernel_rfl) (by kernel_rfl) (by kernel_rfl)
noncomputable def B118 : Code := Try.f118.body.getD .skip
theorem bod_118 : Bodied Try.prog 118 := bodied (fn := Try.f118) (by kernel_rfl) (by kernel_rfl) (by kernel_rfl)
noncomputable def B69 : Code := Try.f69.body.getD .skip
theorem bod_69 : Bodied Try.prog 69 := bodied (fn := Try.f69) (by kernel_rfl) (by kernel_rfl) (by kernel_rfl)
noncomputable def B103 : Code := Try.f103.body.getD .skip
theorem bod_103 : Bodied Try.prog 103 := bodied (fn := Try.f103) (by kernel_rfl) (by kernel_rfl) (by kernel_rfl)
noncomputable def B151 : Code := Try.f151.body.getD .skip
theorem bod_151 : Bodied Try.prog 151 := bodied (fn := Try.f151) (by kernel_rfl) (by kernel_rfl) (by kernel_rfl)
noncomputable def B150 : Code := Try.f150.body.getD .skip
theorem bod_150 : Bodied Try.prog 150 := bodied (fn := Try.f150) (by kernel_rfl) (by kernel_rfl) (by kernel_rfl)
noncomputable def B102 : Code := Try.f102.body.getD .skip
theorem bod_102 : Bodied Try.prog 102 := bodied (fn := Try.f102) (by kernel_rfl) (by kernel_rfl) (by kernel_rfl)
noncomputable def B159 : Code := Try.f159.body.getD .skip
theorem bod_159 : Bodied Try.prog 159 := bodied (fn := Try.f159) (by kernel_rfl) (by kernel_rfl) (by kernel_rfl)
noncomputable def B113 : Code := Try.f113.body.getD .skip
theorem bod_113 : Bodied Try.prog 113 := bodied (fn := Try.f113) (by kernel_rfl) (by kernel_rfl) (by kernel_rfl)
noncomputable def B62 : Code := Try.f62.body.getD .skip
theorem bod_62 : Bodied Try.prog 62 := bodied (fn := Try.f62) (by kernel_rfl) (by kernel_rfl) (by kernel_rfl)
noncomputable def B123 : Code := Try.f123.body.getD .skip
theorem bod_123 : Bodied Try.prog 123 := bodied (fn := Try.f123) (by kernel_rfl) (by kernel_rfl) (by kernel_rfl)
noncomputable def B75 : Code := Try.f75.body.getD .skip
theorem bod_75 : Bodied Try.prog 75 := bodied (fn := Try.f75) (by kernel_rfl) (by kernel_rfl) (by kernel_rfl)
noncomputable def B104 : Code := Try.f104.body.getD .skip
theorem bod_104 : Bodied Try.prog 104 := bodied (fn := Try.f104) (by kernel_rfl) (by kernel_rfl) (by kernel_rfl)
noncomputable def B119 : Code := Try.f119.body.getD .skip
theorem bod_119 : Bodied Try.prog 119 := bodied (fn := Try.f119) (by kernel_rfl) (by kernel_rfl) (by kernel_rfl)
noncomputable def B70 : Code := Try.f70.body.getD .skip
theorem bod_70 : Bodied Try.prog 70 := bodied (fn := Try.f70) (by kernel_rfl) (by kernel_rfl) (by kernel_rfl)
noncomputable def B71 : Code := Try.f71.body.getD .skip
theorem bod_71 : Bodied Try.prog 71 := bodied (fn := Try.f71) (by kernel_rfl) (by kernel_rfl) (by kernel_rfl)
noncomputable def B157 : Code := Try.f157.body.getD .skip
theorem bod_157 : Bodied Try.prog 157 := bodied (fn := Try.f157) (by kernel_rfl) (by kernel_rfl) (by kernel_rfl)
noncomputable def B120 : Code := Try.f120.body.getD .skip
theorem bod_120 : Bodied Try.prog 120 := bodied (fn := Try.f120) (by kernel_rfl) (by kernel_rfl) (by kernel_rfl)
noncomputable def B28 : Code := Try.f28.body.getD .skip
theorem bod_28 : Bodied Try.prog 28 := bodied (fn := Try.f28) (by kernel_rfl) (by kernel_rfl) (by kernel_rfl)
noncomputable def B18 : Code := Try.f18.body.getD .skip
theorem bod_18 : Bodied Try.prog 18 := bodied (fn := Try.f18) (by kernel_rfl) (by kernel_rfl) (by kernel_rfl)
noncomputable def B50 : Code := Try.f50.body.getD .skip
theorem bod_50 : Bodied Try.prog 50 := bodied (fn := Try.f50) (by kernel_rfl) (by kernel_rfl) (by kernel_rfl)
noncomputable def B17 : Code := Try.f17.body.getD .skip
theorem bod_17 : Bodied Try.prog 17 := bodied (fn := Try.f17) (by kernel_rfl) (by kernel_rfl) (by kernel_rfl)
noncomputable def B5 : Code := Try.f5.body.getD .skip
theorem bod_5 : Bodied Try.prog 5 := bodied (fn := Try.f5) (by kernel_rfl) (by kernel_rfl) (by kernel_rfl)

theorem rg {c : Ctx} {code : Code} {Q : Exit → AState → Prop} {nt : Nat} (hnt : c.nt = nt) (ah : Option (List (List Nat))) (rs : List (Option Orc)) {T : List (Nat × AV)} {O : List (Nat × AObj)} (T' : List (Nat × AV)) (O' : List (Nat × AObj)) {A : Prop} (h : A)
    (hQ : Q .normal (mkS T' O')) (hk : Nat.beq (ckind code) 0 = true := by kernel_rfl) (e1 : (evRegion TIx Try.prog nt (rops code) ah rs T O (T'.map (·.1)) (O'.map (·.1))).map (fun r => (r.T, keepO r.O)) = some (T', O') := by kernel_rfl)
    (e2 : A = obsOf (evRegion TIx Try.prog nt (rops code) ah rs T O (T'.map (·.1)) (O'.map (·.1))) := by kernel_rfl) (hdraw : ((!rdraw code && ah.isNone) || ah.isSome) = true := by kernel_rfl) : Wp Try.prog c code Q (mkS T O) := Wp.reg tiok mix hnt hk e1 h e2 hdraw hQ
theorem rg0 {c : Ctx} {code : Code} {Q : Exit → AState → Prop} {nt : Nat} (hnt : c.nt = nt) (n : Nat) {T : List (Nat × AV)} {O : List (Nat × AObj)} (T' : List (Nat × AV)) (O' : List (Nat × AObj))
    (hQ : Q .normal (mkS T' O')) (hk : Nat.beq (ckind code) 0 = true := by kernel_rfl) (e1 : (evRegion TIx Try.prog nt (rops code) none (List.replicate n (some .no)) T O (T'.map (·.1)) (O'.map (·.1))).map (fun r => (r.T, keepO r.O)) = some (T', O') := by kernel_rfl)
    (e2 : True = obsOf (evRegion TIx Try.prog nt (rops code) none (List.replicate n (some .no)) T O (T'.map (·.1)) (O'.map (·.1))) := by kernel_rfl) (hdraw : ((!rdraw code && true) || false) = true := by kernel_rfl) : Wp Try.prog c code Q (mkS T O) := Wp.reg tiok mix hnt hk e1 trivial e2 hdraw hQ
theorem ix {e : List Int} {i : Int} {x : Int} (h : idx e i = some x) : 0 ≤ i ∧ (e.map I)[i.toNat]? = some (.int .i64 x) := idx_sl (enc := I) (x := .int .i64 x) h (eq_I x)
def rep : Nat → Prop → Prop → Prop
  | 0, _, b => b
  | n + 1, a, b => a ∧ rep n a b
theorem ar {a b : Prop} : ∀ (n : Nat) (x : a) (y : b), rep n a b
  | 0, _, y => y
  | n + 1, x, y => ⟨x, ar n x y⟩
abbrev sI (l : List Int) : AV := .sl (List.map I l)
abbrev sB (l : List Bool) : AV := .sl (List.map AV.bool l)
def rx (l : List (List Nat)) : Option (List (List Nat)) := some (l.map fun r => match r with | n :: e => List.range n ++ e | [] => [])
def rh (l : List Nat) : Option (List (List Nat)) := some (l.map List.range)
theorem ai {a b : Prop} (x : a) (y : b) : a ∧ b := ⟨x, y⟩
theorem oi (v : AV) : ([] : List Nat) = [] ∨ noSh v = true := Or.inl rfl
theorem tt : true = true := rfl
theorem nf : true ≠ false := fun h => nomatch h
abbrev oN : Option Orc := some .no
abbrev oF : Option Orc := some (.cond false)
abbrev oT : Option Orc := some (.cond true)
abbrev o_ : Option Orc := none
abbrev oc (v : AV) : Option Orc := some (.call v [] 1)
theorem sN {c : Ctx} {code : Code} {Q : Exit → AState → Prop} {σ : AState} (h : Wp Try.prog c (cl code) (seqQ Try.prog c (cr code) Q) σ) (hk : Nat.beq (ckind code) 1 = true := by kernel_rfl) : Wp Try.prog c code Q σ := Wp.seqN hk h
theorem cT {c : Ctx} {code : Code} {Q : Exit → AState → Prop} {σ : AState} (b : Bool) (hb : b = true) (h1 : Wp Try.prog c (cl code) Q σ) (hk : Nat.beq (ckind code) 2 = true := by kernel_rfl) (hx : opv σ (copd code) = .bool b := by kernel_rfl) : Wp Try.prog c code Q σ := Wp.condT hk hx hb h1
theorem cF {c : Ctx} {code : Code} {Q : Exit → AState → Prop} {σ : AState} (b : Bool) (hb : b = false) (h1 : Wp Try.prog c (cr code) Q σ) (hk : Nat.beq (ckind code) 2 = true := by kernel_rfl) (hx : opv σ (copd code) = .bool b := by kernel_rfl) : Wp Try.prog c code Q σ := Wp.condF hk hx hb h1
end Go.Am
