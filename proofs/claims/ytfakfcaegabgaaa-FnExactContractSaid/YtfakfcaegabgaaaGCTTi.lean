/- The table of types, and the bodies. Printed by a program of mine (gen.py). -/
import Derived.Test.YtfakfcaegabgaaaGCTTy
import Derived.Test.YtfakfcaegabgaaaChecked
set_option linter.unusedVariables false
set_option linter.unusedSimpArgs false
set_option maxRecDepth 100000
namespace Go.Am
open Go Go.Proofs
def tis : List (Nat × TInfo) := [(44, ⟨.struct [(0, 3), (1, 3), (2, 22), (3, 42)], 4, 64, .agg [.int .i64 0, .int .i64 0, .nils, .nils]⟩),
  (4, ⟨.bool, 1, 1, .bool false⟩),
  (3, ⟨.int .i64, 1, 8, .int .i64 0⟩),
  (22, ⟨.slice 3, 1, 24, .nils⟩),
  (42, ⟨.slice 44, 1, 24, .nils⟩),
  (29, ⟨.struct [(0, 3), (1, 3), (2, 22), (3, 27)], 4, 64, .agg [.int .i64 0, .int .i64 0, .nils, .nils]⟩),
  (27, ⟨.slice 29, 1, 24, .nils⟩),
  (105, ⟨.struct [(0, 9), (1, 3), (2, 4), (3, 4)], 4, 32, .agg [.str ByteArray.empty, .int .i64 0, .bool false, .bool false]⟩),
  (9, ⟨.string, 1, 16, .str ByteArray.empty⟩),
  (121, ⟨.slice 105, 1, 24, .nils⟩)]
def TIx : Nat → Option TInfo := lk none (tis.map fun p => (p.1, some p.2))
theorem ti_44 : TFact Try.prog 44 ⟨.struct [(0, 3), (1, 3), (2, 22), (3, 42)], 4, 64, .agg [.int .i64 0, .int .i64 0, .nils, .nils]⟩ := ⟨by kernel_rfl, by kernel_rfl, by kernel_rfl, by kernel_rfl⟩
theorem ti_4 : TFact Try.prog 4 ⟨.bool, 1, 1, .bool false⟩ := ⟨by kernel_rfl, by kernel_rfl, by kernel_rfl, by kernel_rfl⟩
theorem ti_3 : TFact Try.prog 3 ⟨.int .i64, 1, 8, .int .i64 0⟩ := ⟨by kernel_rfl, by kernel_rfl, by kernel_rfl, by kernel_rfl⟩
theorem ti_22 : TFact Try.prog 22 ⟨.slice 3, 1, 24, .nils⟩ := ⟨by kernel_rfl, by kernel_rfl, by kernel_rfl, by kernel_rfl⟩
theorem ti_42 : TFact Try.prog 42 ⟨.slice 44, 1, 24, .nils⟩ := ⟨by kernel_rfl, by kernel_rfl, by kernel_rfl, by kernel_rfl⟩
theorem ti_29 : TFact Try.prog 29 ⟨.struct [(0, 3), (1, 3), (2, 22), (3, 27)], 4, 64, .agg [.int .i64 0, .int .i64 0, .nils, .nils]⟩ := ⟨by kernel_rfl, by kernel_rfl, by kernel_rfl, by kernel_rfl⟩
theorem ti_27 : TFact Try.prog 27 ⟨.slice 29, 1, 24, .nils⟩ := ⟨by kernel_rfl, by kernel_rfl, by kernel_rfl, by kernel_rfl⟩
theorem ti_105 : TFact Try.prog 105 ⟨.struct [(0, 9), (1, 3), (2, 4), (3, 4)], 4, 32, .agg [.str ByteArray.empty, .int .i64 0, .bool false, .bool false]⟩ := ⟨by kernel_rfl, by kernel_rfl, by kernel_rfl, by kernel_rfl⟩
theorem ti_9 : TFact Try.prog 9 ⟨.string, 1, 16, .str ByteArray.empty⟩ := ⟨by kernel_rfl, by kernel_rfl, by kernel_rfl, by kernel_rfl⟩
theorem ti_121 : TFact Try.prog 121 ⟨.slice 105, 1, 24, .nils⟩ := ⟨by kernel_rfl, by kernel_rfl, by kernel_rfl, by kernel_rfl⟩
theorem tiok : TIok Try.prog TIx := TIok.of_list tis (by
  intro p hp
  simp only [tis, List.mem_cons, List.not_mem_nil, or_false] at hp
  rcases hp with rfl | rfl | rfl | rfl | rfl | rfl | rfl | rfl | rfl | rfl
  · exact ti_44
  · exact ti_4
  · exact ti_3
  · exact ti_22
  · exact ti_42
  · exact ti_29
  · exact ti_27
  · exact ti_105
  · exact ti_9
  · exact ti_121)
theorem mix : Try.prog.follows .mixedOrders = true := Try.checked.mixed
noncomputable def B42 : Code := Try.f42.body.getD .skip
theorem bod_42 : Bodied Try.prog 42 := bodied (fn := Try.f42) (by kernel_rfl) (by kernel_rfl) (by kernel_rfl)
noncomputable def B55 : Code := Try.f55.body.getD .skip
theorem bod_55 : Bodied Try.prog 55 := bodied (fn := Try.f55) (by kernel_rfl) (by kernel_rfl) (by kernel_rfl)
noncomputable def B23 : Code := Try.f23.body.getD .skip
theorem bod_23 : Bodied Try.prog 23 := bodied (fn := Try.f23) (by kernel_rfl) (by kernel_rfl) (by kernel_rfl)
noncomputable def B14 : Code := Try.f14.body.getD .skip
theorem bod_14 : Bodied Try.prog 14 := bodied (fn := Try.f14) (by kernel_rfl) (by kernel_rfl) (by kernel_rfl)
noncomputable def B59 : Code := Try.f59.body.getD .skip
theorem bod_59 : Bodied Try.prog 59 := bodied (fn := Try.f59) (by kernel_rfl) (by kernel_rfl) (by kernel_rfl)
noncomputable def B25 : Code := Try.f25.body.getD .skip
theorem bod_25 : Bodied Try.prog 25 := bodied (fn := Try.f25) (by kernel_rfl) (by kernel_rfl) (by kernel_rfl)
noncomputable def B84 : Code := Try.f84.body.getD .skip
theorem bod_84 : Bodied Try.prog 84 := bodied (fn := Try.f84) (by kernel_rfl) (by kernel_rfl) (by kernel_rfl)
noncomputable def B57 : Code := Try.f57.body.getD .skip
theorem bod_57 : Bodied Try.prog 57 := bodied (fn := Try.f57) (by kernel_rfl) (by kernel_rfl) (by kernel_rfl)
noncomputable def B163 : Code := Try.f163.body.getD .skip
theorem bod_163 : Bodied Try.prog 163 := bodied (fn := Try.f163) (by kernel_rfl) (by kernel_rfl) (by kernel_rfl)
noncomputable def B108 : Code := Try.f108.body.getD .skip
theorem bod_108 : Bodied Try.prog 108 := bodied (fn := Try.f108) (by kernel_rfl) (by kernel_rfl) (by kernel_rfl)
noncomputable def B164 : Code := Try.f164.body.getD .skip
theorem bod_164 : Bodied Try.prog 164 := bodied (fn := Try.f164) (by kernel_rfl) (by kernel_rfl) (by kernel_rfl)
noncomputable def B158 : Code := Try.f158.body.getD .skip
theorem bod_158 : Bodied Try.prog 158 := bodied (fn := Try.f158) (by kernel_rfl) (by kernel_rfl) (by kernel_rfl)
noncomputable def B100 : Code := Try.f100.body.getD .skip
theorem bod_100 : Bodied Try.prog 100 := bodied (fn := Try.f100) (by kernel_rfl) (by kernel_rfl) (by kernel_rfl)
noncomputable def B136 : Code := Try.f136.body.getD .skip
theorem bod_136 : Bodied Try.prog 136 := bodied (fn := Try.f136) (by kernel_rfl) (by kernel_rfl) (by kernel_rfl)
noncomputable def B135 : Code := Try.f135.body.getD .skip
theorem bod_135 : Bodied Try.prog 135 := bodied (fn := Try.f135) (by kernel_rfl) (by kernel_rfl) (by kernel_rfl)
noncomputable def B86 : Code := Try.f86.body.getD .skip
theorem bod_86 : Bodied Try.prog 86 := bodied (fn := Try.f86) (by kernel_rfl) (by kernel_rfl) (by kernel_rfl)
noncomputable def B101 : Code := Try.f101.body.getD .skip
theorem bod_101 : Bodied Try.prog 101 := bodied (fn := Try.f101) (by kernel_rfl) (by kernel_rfl) (by kernel_rfl)
noncomputable def B87 : Code := Try.f87.body.getD .skip
theorem bod_87 : Bodied Try.prog 87 := bodied (fn := Try.f87) (by kernel_rfl) (by kernel_rfl) (by kernel_rfl)
noncomputable def B133 : Code := Try.f133.body.getD .skip
theorem bod_133 : Bodied Try.prog 133 := bodied (fn := Try.f133) (by kernel_rfl) (by kernel_rfl) (by kernel_rfl)
noncomputable def B134 : Code := Try.f134.body.getD .skip
theorem bod_134 : Bodied Try.prog 134 := bodied (fn := Try.f134) (by kernel_rfl) (by kernel_rfl) (by kernel_rfl)
noncomputable def B85 : Code := Try.f85.body.getD .skip
theorem bod_85 : Bodied Try.prog 85 := bodied (fn := Try.f85) (by kernel_rfl) (by kernel_rfl) (by kernel_rfl)
noncomputable def B106 : Code := Try.f106.body.getD .skip
theorem bod_106 : Bodied Try.prog 106 := bodied (fn := Try.f106) (by kernel_rfl) (by kernel_rfl) (by kernel_rfl)
noncomputable def B93 : Code := Try.f93.body.getD .skip
theorem bod_93 : Bodied Try.prog 93 := bodied (fn := Try.f93) (by kernel_rfl) (by kernel_rfl) (by kernel_rfl)
noncomputable def B79 : Code := Try.f79.body.getD .skip
theorem bod_79 : Bodied Try.prog 79 := bodied (fn := Try.f79) (by kernel_rfl) (by kernel_rfl) (by kernel_rfl)
noncomputable def B149 : Code := Try.f149.body.getD .skip
theorem bod_149 : Bodied Try.prog 149 := bodied (fn := Try.f149) (by kernel_rfl) (by kernel_rfl) (by kernel_rfl)
noncomputable def B125 : Code := Try.f125.body.getD .skip
theorem bod_125 : Bodied Try.prog 125 := bodied (fn := Try.f125) (by kernel_rfl) (by kernel_rfl) (by kernel_rfl)
noncomputable def B126 : Code := Try.f126.body.getD .skip
theorem bod_126 : Bodied Try.prog 126 := bodied (fn := Try.f126) (by kernel_rfl) (by kernel_rfl) (by kernel_rfl)
noncomputable def B127 : Code := Try.f127.body.getD .skip
theorem bod_127 : Bodied Try.prog 127 := bodied (fn := Try.f127) (by kernel_rfl) (by kernel_rfl) (by kernel_rfl)
noncomputable def B128 : Code := Try.f128.body.getD .skip
theorem bod_128 : Bodied Try.prog 128 := bodied (fn := Try.f128) (by kernel_rfl) (by kernel_rfl) (by kernel_rfl)
noncomputable def B129 : Code := Try.f129.body.getD .skip
theorem bod_129 : Bodied Try.prog 129 := bodied (fn := Try.f129) (by kernel_rfl) (by kernel_rfl) (by kernel_rfl)
noncomputable def B80 : Code := Try.f80.body.getD .skip
theorem bod_80 : Bodied Try.prog 80 := bodied (fn := Try.f80) (by kernel_rfl) (by kernel_rfl) (by kernel_rfl)
noncomputable def B33 : Code := Try.f33.body.getD .skip
theorem bod_33 : Bodied Try.prog 33 := bodied (fn := Try.f33) (by kernel_rfl) (by kernel_rfl) (by kernel_rfl)
noncomputable def B64 : Code := Try.f64.body.getD .skip
theorem bod_64 : Bodied Try.prog 64 := bodied (fn := Try.f64) (by kernel_rfl) (by kernel_rfl) (by kernel_rfl)
noncomputable def B111 : Code := Try.f111.body.getD .skip
theorem bod_111 : Bodied Try.prog 111 := bodied (fn := Try.f111) (by kernel_rfl) (by kernel_rfl) (by kernel_rfl)
noncomputable def B152 : Code := Try.f152.body.getD .skip
theorem bod_152 : Bodied Try.prog 152 := bodied (fn := Try.f152) (by kernel_rfl) (by kernel_rfl) (by kernel_rfl)
noncomputable def B103 : Code := Try.f103.body.getD .skip
theorem bod_103 : Bodied Try.prog 103 := bodied (fn := Try.f103) (by kernel_rfl) (by kernel_rfl) (by kernel_rfl)
noncomputable def B151 : Code := Try.f151.body.getD .skip
theorem bod_151 : Bodied Try.prog 151 := bodied (fn := Try.f151) (by kernel_rfl) (by kernel_rfl) (by kernel_rfl)
noncomputable def B150 : Code := Try.f150.body.getD .skip
theorem bod_150 : Bodied Try.prog 150 := bodied (fn := Try.f150) (by kernel_rfl) (by kernel_rfl) (by kernel_rfl)
noncomputable def B165 : Code := Try.f165.body.getD .skip
theorem bod_165 : Bodied Try.prog 165 := bodied (fn := Try.f165) (by kernel_rfl) (by kernel_rfl) (by kernel_rfl)
noncomputable def B142 : Code := Try.f142.body.getD .skip
theorem bod_142 : Bodied Try.prog 142 := bodied (fn := Try.f142) (by kernel_rfl) (by kernel_rfl) (by kernel_rfl)
noncomputable def B110 : Code := Try.f110.body.getD .skip
theorem bod_110 : Bodied Try.prog 110 := bodied (fn := Try.f110) (by kernel_rfl) (by kernel_rfl) (by kernel_rfl)
noncomputable def B60 : Code := Try.f60.body.getD .skip
theorem bod_60 : Bodied Try.prog 60 := bodied (fn := Try.f60) (by kernel_rfl) (by kernel_rfl) (by kernel_rfl)
noncomputable def B96 : Code := Try.f96.body.getD .skip
theorem bod_96 : Bodied Try.prog 96 := bodied (fn := Try.f96) (by kernel_rfl) (by kernel_rfl) (by kernel_rfl)
noncomputable def B81 : Code := Try.f81.body.getD .skip
theorem bod_81 : Bodied Try.prog 81 := bodied (fn := Try.f81) (by kernel_rfl) (by kernel_rfl) (by kernel_rfl)
noncomputable def B105 : Code := Try.f105.body.getD .skip
theorem bod_105 : Bodied Try.prog 105 := bodied (fn := Try.f105) (by kernel_rfl) (by kernel_rfl) (by kernel_rfl)
noncomputable def B130 : Code := Try.f130.body.getD .skip
theorem bod_130 : Bodied Try.prog 130 := bodied (fn := Try.f130) (by kernel_rfl) (by kernel_rfl) (by kernel_rfl)
noncomputable def B162 : Code := Try.f162.body.getD .skip
theorem bod_162 : Bodied Try.prog 162 := bodied (fn := Try.f162) (by kernel_rfl) (by kernel_rfl) (by kernel_rfl)
noncomputable def B160 : Code := Try.f160.body.getD .skip
theorem bod_160 : Bodied Try.prog 160 := bodied (fn := Try.f160) (by kernel_rfl) (by kernel_rfl) (by kernel_rfl)
noncomputable def B132 : Code := Try.f132.body.getD .skip
theorem bod_132 : Bodied Try.prog 132 := bodied (fn := Try.f132) (by kernel_rfl) (by kernel_rfl) (by kernel_rfl)
noncomputable def B161 : Code := Try.f161.body.getD .skip
theorem bod_161 : Bodied Try.prog 161 := bodied (fn := Try.f161) (by kernel_rfl) (by kernel_rfl) (by kernel_rfl)
noncomputable def B131 : Code := Try.f131.body.getD .skip
theorem bod_131 : Bodied Try.prog 131 := bodied (fn := Try.f131) (by kernel_rfl) (by kernel_rfl) (by kernel_rfl)
noncomputable def B82 : Code := Try.f82.body.getD .skip
theorem bod_82 : Bodied Try.prog 82 := bodied (fn := Try.f82) (by kernel_rfl) (by kernel_rfl) (by kernel_rfl)
noncomputable def B34 : Code := Try.f34.body.getD .skip
theorem bod_34 : Bodied Try.prog 34 := bodied (fn := Try.f34) (by kernel_rfl) (by kernel_rfl) (by kernel_rfl)
noncomputable def B18 : Code := Try.f18.body.getD .skip
theorem bod_18 : Bodied Try.prog 18 := bodied (fn := Try.f18) (by kernel_rfl) (by kernel_rfl) (by kernel_rfl)
noncomputable def B49 : Code := Try.f49.body.getD .skip
theorem bod_49 : Bodied Try.prog 49 := bodied (fn := Try.f49) (by kernel_rfl) (by kernel_rfl) (by kernel_rfl)
noncomputable def B16 : Code := Try.f16.body.getD .skip
theorem bod_16 : Bodied Try.prog 16 := bodied (fn := Try.f16) (by kernel_rfl) (by kernel_rfl) (by kernel_rfl)
noncomputable def B20 : Code := Try.f20.body.getD .skip
theorem bod_20 : Bodied Try.prog 20 := bodied (fn := Try.f20) (by kernel_rfl) (by kernel_rfl) (by kernel_rfl)
noncomputable def B52 : Code := Try.f52.body.getD .skip
theorem bod_52 : Bodied Try.prog 52 := bodied (fn := Try.f52) (by kernel_rfl) (by kernel_rfl) (by kernel_rfl)
noncomputable def B21 : Code := Try.f21.body.getD .skip
theorem bod_21 : Bodied Try.prog 21 := bodied (fn := Try.f21) (by kernel_rfl) (by kernel_rfl) (by kernel_rfl)
noncomputable def B53 : Code := Try.f53.body.getD .skip
theorem bod_53 : Bodied Try.prog 53 := bodied (fn := Try.f53) (by kernel_rfl) (by kernel_rfl) (by kernel_rfl)
noncomputable def B54 : Code := Try.f54.body.getD .skip
theorem bod_54 : Bodied Try.prog 54 := bodied (fn := Try.f54) (by kernel_rfl) (by kernel_rfl) (by kernel_rfl)
noncomputable def B22 : Code := Try.f22.body.getD .skip
theorem bod_22 : Bodied Try.prog 22 := bodied (fn := Try.f22) (by kernel_rfl) (by kernel_rfl) (by kernel_rfl)
noncomputable def B8 : Code := Try.f8.body.getD .skip
theorem bod_8 : Bodied Try.prog 8 := bodied (fn := Try.f8) (by kernel_rfl) (by kernel_rfl) (by kernel_rfl)

theorem rg {c : Ctx} {code : Code} {Q : Exit → AState → Prop} {nt : Nat} (hnt : c.nt = nt) (ah : Option (List (List Nat))) (rs : List (Option Orc)) {T : List (Nat × AV)} {O : List (Nat × AObj)} (T' : List (Nat × AV)) (O' : List (Nat × AObj)) {A : Prop} (h : A)
    (hQ : Q .normal (mkS T' O')) (hk : Nat.beq (ckind code) 0 = true := by kernel_rfl) (e1 : (evRegion TIx Try.prog nt (rops code) ah rs T O (T'.map (·.1)) (O'.map (·.1))).map (fun r => (r.T, keepO r.O)) = some (T', O') := by kernel_rfl)
    (e2 : A = obsOf (evRegion TIx Try.prog nt (rops code) ah rs T O (T'.map (·.1)) (O'.map (·.1))) := by kernel_rfl) (hdraw : ((!rdraw code && ah.isNone) || ah.isSome) = true := by kernel_rfl) : Wp Try.prog c code Q (mkS T O) := Wp.reg tiok mix hnt hk e1 h e2 hdraw hQ
theorem rg0 {c : Ctx} {code : Code} {Q : Exit → AState → Prop} {nt : Nat} (hnt : c.nt = nt) (n : Nat) {T : List (Nat × AV)} {O : List (Nat × AObj)} (T' : List (Nat × AV)) (O' : List (Nat × AObj))
    (hQ : Q .normal (mkS T' O')) (hk : Nat.beq (ckind code) 0 = true := by kernel_rfl) (e1 : (evRegion TIx Try.prog nt (rops code) none (List.replicate n (some .no)) T O (T'.map (·.1)) (O'.map (·.1))).map (fun r => (r.T, keepO r.O)) = some (T', O') := by kernel_rfl)
    (e2 : True = obsOf (evRegion TIx Try.prog nt (rops code) none (List.replicate n (some .no)) T O (T'.map (·.1)) (O'.map (·.1))) := by kernel_rfl) (hdraw : ((!rdraw code && true) || false) = true := by kernel_rfl) : Wp Try.prog c code Q (mkS T O) := Wp.reg tiok mix hnt hk e1 trivial e2 hdraw hQ
theorem ix {e : List Int} {i : Int} {x : Int} (h : idx e i = some x) : 0 ≤ i ∧ (e.map I)[i.toNat]? = some (.int .i64 x) := idx_sl (enc := I) (x := .int .i64 x) h (eq_I x)
def rep : Nat → Prop → Prop → Prop
  | 0, _, b => b
  | n + 1, a, b => a ∧ rep n a b
theorem ar {a b : Prop} : ∀ (n : Nat) (x : a) (y : b), rep n a b
  | 0, _, y => y
  | n + 1, x, y => ⟨x, ar n x y⟩
abbrev sI (l : List Int) : AV := .sl (List.map I l)
abbrev sB (l : List Bool) : AV := .sl (List.map AV.bool l)
def rx (l : List (List Nat)) : Option (List (List Nat)) := some (l.map fun r => match r with | n :: e => List.range n ++ e | [] => [])
def rh (l : List Nat) : Option (List (List Nat)) := some (l.map List.range)
theorem ai {a b : Prop} (x : a) (y : b) : a ∧ b := ⟨x, y⟩
theorem oi (v : AV) : ([] : List Nat) = [] ∨ noSh v = true := Or.inl rfl
theorem tt : true = true := rfl
theorem nf : true ≠ false := fun h => nomatch h
abbrev oN : Option Orc := some .no
abbrev oF : Option Orc := some (.cond false)
abbrev oT : Option Orc := some (.cond true)
abbrev o_ : Option Orc := none
abbrev oc (v : AV) : Option Orc := some (.call v [] 1)
theorem sN {c : Ctx} {code : Code} {Q : Exit → AState → Prop} {σ : AState} (h : Wp Try.prog c (cl code) (seqQ Try.prog c (cr code) Q) σ) (hk : Nat.beq (ckind code) 1 = true := by kernel_rfl) : Wp Try.prog c code Q σ := Wp.seqN hk h
theorem cT {c : Ctx} {code : Code} {Q : Exit → AState → Prop} {σ : AState} (b : Bool) (hb : b = true) (h1 : Wp Try.prog c (cl code) Q σ) (hk : Nat.beq (ckind code) 2 = true := by kernel_rfl) (hx : opv σ (copd code) = .bool b := by kernel_rfl) : Wp Try.prog c code Q σ := Wp.condT hk hx hb h1
theorem cF {c : Ctx} {code : Code} {Q : Exit → AState → Prop} {σ : AState} (b : Bool) (hb : b = false) (h1 : Wp Try.prog c (cr code) Q σ) (hk : Nat.beq (ckind code) 2 = true := by kernel_rfl) (hx : opv σ (copd code) = .bool b := by kernel_rfl) : Wp Try.prog c code Q σ := Wp.condF hk hx hb h1
end Go.Am
