/- The table of types, and the bodies. Printed by a program of mine (gen.py). -/
import Derived.Test.YtifijafaaljamaaDoorGPMTy
import Derived.Test.YtifijafaaljamaaDoorChecked
import Derived.Test.YtifijafaaljamaaDoorSh
set_option linter.unusedVariables false
set_option linter.unusedSimpArgs false
set_option maxRecDepth 100000
namespace Go.Am
open Go Go.Proofs
def tis : List (Nat × Q1r) := [(9, ⟨.string, 1, 16, .str ByteArray.empty⟩),
  (4, ⟨.bool, 1, 1, .bool false⟩),
  (30, ⟨.struct [(0, 3), (1, 3), (2, 22), (3, 28)], 4, 64, .agg [.int .i64 0, .int .i64 0, .nils, .nils]⟩),
  (3, ⟨.int .i64, 1, 8, .int .i64 0⟩),
  (22, ⟨.slice 3, 1, 24, .nils⟩),
  (28, ⟨.slice 30, 1, 24, .nils⟩),
  (5, ⟨.int .u8, 1, 1, .int .u8 0⟩),
  (77, ⟨.slice 9, 1, 24, .nils⟩),
  (78, ⟨.slice 5, 1, 24, .nils⟩),
  (39, ⟨.struct [(0, 9), (1, 3), (2, 4), (3, 3)], 4, 40, .agg [.str ByteArray.empty, .int .i64 0, .bool false, .int .i64 0]⟩),
  (37, ⟨.pointer 39, 1, 8, .nilp⟩),
  (60, ⟨.struct [(0, 9), (1, 3), (2, 4), (3, 4)], 4, 32, .agg [.str ByteArray.empty, .int .i64 0, .bool false, .bool false]⟩),
  (75, ⟨.slice 60, 1, 24, .nils⟩),
  (66, ⟨.other, 1, 8, .raw .nilFunc⟩),
  (41, ⟨.other, 1, 8, .raw .nilFunc⟩)]
def TIx : Nat → Option Q1r := lk none (tis.map fun p => (p.1, some p.2))
theorem K15 : Q1z Tryd.prog 9 ⟨.string, 1, 16, .str ByteArray.empty⟩ := ⟨by kernel_rfl, by kernel_rfl, by kernel_rfl, by kernel_rfl⟩
theorem K16 : Q1z Tryd.prog 4 ⟨.bool, 1, 1, .bool false⟩ := ⟨by kernel_rfl, by kernel_rfl, by kernel_rfl, by kernel_rfl⟩
theorem K17 : Q1z Tryd.prog 30 ⟨.struct [(0, 3), (1, 3), (2, 22), (3, 28)], 4, 64, .agg [.int .i64 0, .int .i64 0, .nils, .nils]⟩ := ⟨by kernel_rfl, by kernel_rfl, by kernel_rfl, by kernel_rfl⟩
theorem K18 : Q1z Tryd.prog 3 ⟨.int .i64, 1, 8, .int .i64 0⟩ := ⟨by kernel_rfl, by kernel_rfl, by kernel_rfl, by kernel_rfl⟩
theorem K19 : Q1z Tryd.prog 22 ⟨.slice 3, 1, 24, .nils⟩ := ⟨by kernel_rfl, by kernel_rfl, by kernel_rfl, by kernel_rfl⟩
theorem K1a : Q1z Tryd.prog 28 ⟨.slice 30, 1, 24, .nils⟩ := ⟨by kernel_rfl, by kernel_rfl, by kernel_rfl, by kernel_rfl⟩
theorem K1b : Q1z Tryd.prog 5 ⟨.int .u8, 1, 1, .int .u8 0⟩ := ⟨by kernel_rfl, by kernel_rfl, by kernel_rfl, by kernel_rfl⟩
theorem K1c : Q1z Tryd.prog 77 ⟨.slice 9, 1, 24, .nils⟩ := ⟨by kernel_rfl, by kernel_rfl, by kernel_rfl, by kernel_rfl⟩
theorem K1d : Q1z Tryd.prog 78 ⟨.slice 5, 1, 24, .nils⟩ := ⟨by kernel_rfl, by kernel_rfl, by kernel_rfl, by kernel_rfl⟩
theorem K1e : Q1z Tryd.prog 39 ⟨.struct [(0, 9), (1, 3), (2, 4), (3, 3)], 4, 40, .agg [.str ByteArray.empty, .int .i64 0, .bool false, .int .i64 0]⟩ := ⟨by kernel_rfl, by kernel_rfl, by kernel_rfl, by kernel_rfl⟩
theorem K1f : Q1z Tryd.prog 37 ⟨.pointer 39, 1, 8, .nilp⟩ := ⟨by kernel_rfl, by kernel_rfl, by kernel_rfl, by kernel_rfl⟩
theorem K1g : Q1z Tryd.prog 60 ⟨.struct [(0, 9), (1, 3), (2, 4), (3, 4)], 4, 32, .agg [.str ByteArray.empty, .int .i64 0, .bool false, .bool false]⟩ := ⟨by kernel_rfl, by kernel_rfl, by kernel_rfl, by kernel_rfl⟩
theorem K1h : Q1z Tryd.prog 75 ⟨.slice 60, 1, 24, .nils⟩ := ⟨by kernel_rfl, by kernel_rfl, by kernel_rfl, by kernel_rfl⟩
theorem K1i : Q1z Tryd.prog 66 ⟨.other, 1, 8, .raw .nilFunc⟩ := ⟨by kernel_rfl, by kernel_rfl, by kernel_rfl, by kernel_rfl⟩
theorem K1j : Q1z Tryd.prog 41 ⟨.other, 1, 8, .raw .nilFunc⟩ := ⟨by kernel_rfl, by kernel_rfl, by kernel_rfl, by kernel_rfl⟩
theorem K1k : Q20 Tryd.prog TIx := Q20.of_list tis (by
  intro p hp
  simp only [tis, List.mem_cons, List.not_mem_nil, or_false] at hp
  rcases hp with rfl | rfl | rfl | rfl | rfl | rfl | rfl | rfl | rfl | rfl | rfl | rfl | rfl | rfl | rfl
  · exact K15
  · exact K16
  · exact K17
  · exact K18
  · exact K19
  · exact K1a
  · exact K1b
  · exact K1c
  · exact K1d
  · exact K1e
  · exact K1f
  · exact K1g
  · exact K1h
  · exact K1i
  · exact K1j)
theorem mix : Tryd.prog.follows .mixedOrders = true := Tryd.checked.mixed
theorem K1l : IfT Tryd.prog 72 := by unfold IfT; kernel_rfl
noncomputable def B32 : Code := Tryd.f32.body.getD .skip
theorem K1m : Q80 Tryd.prog 32 := Qek (fn := Tryd.f32) (by kernel_rfl) (by kernel_rfl) (by kernel_rfl)
noncomputable def B47 : Code := Tryd.f47.body.getD .skip
theorem K1n : Q80 Tryd.prog 47 := Qek (fn := Tryd.f47) (by kernel_rfl) (by kernel_rfl) (by kernel_rfl)
noncomputable def B48 : Code := Tryd.f48.body.getD .skip
theorem K1o : Q80 Tryd.prog 48 := Qek (fn := Tryd.f48) (by kernel_rfl) (by kernel_rfl) (by kernel_rfl)
noncomputable def B49 : Code := Tryd.f49.body.getD .skip
theorem K1p : Q80 Tryd.prog 49 := Qek (fn := Tryd.f49) (by kernel_rfl) (by kernel_rfl) (by kernel_rfl)
noncomputable def B53 : Code := Tryd.f53.body.getD .skip
theorem K1q : Q80 Tryd.prog 53 := Qek (fn := Tryd.f53) (by kernel_rfl) (by kernel_rfl) (by kernel_rfl)
noncomputable def B42 : Code := Tryd.f42.body.getD .skip
theorem K1r : Q80 Tryd.prog 42 := Qek (fn := Tryd.f42) (by kernel_rfl) (by kernel_rfl) (by kernel_rfl)
noncomputable def B25 : Code := Tryd.f25.body.getD .skip
theorem K1s : Q80 Tryd.prog 25 := Qek (fn := Tryd.f25) (by kernel_rfl) (by kernel_rfl) (by kernel_rfl)
noncomputable def B26 : Code := Tryd.f26.body.getD .skip
theorem K1t : Q80 Tryd.prog 26 := Qek (fn := Tryd.f26) (by kernel_rfl) (by kernel_rfl) (by kernel_rfl)
noncomputable def B50 : Code := Tryd.f50.body.getD .skip
theorem K1u : Q80 Tryd.prog 50 := Qek (fn := Tryd.f50) (by kernel_rfl) (by kernel_rfl) (by kernel_rfl)
noncomputable def B43 : Code := Tryd.f43.body.getD .skip
theorem K1v : Q80 Tryd.prog 43 := Qek (fn := Tryd.f43) (by kernel_rfl) (by kernel_rfl) (by kernel_rfl)
noncomputable def B44 : Code := Tryd.f44.body.getD .skip
theorem K1w : Q80 Tryd.prog 44 := Qek (fn := Tryd.f44) (by kernel_rfl) (by kernel_rfl) (by kernel_rfl)
noncomputable def B27 : Code := Tryd.f27.body.getD .skip
theorem K1x : Q80 Tryd.prog 27 := Qek (fn := Tryd.f27) (by kernel_rfl) (by kernel_rfl) (by kernel_rfl)
noncomputable def B15 : Code := Tryd.f15.body.getD .skip
theorem K1y : Q80 Tryd.prog 15 := Qek (fn := Tryd.f15) (by kernel_rfl) (by kernel_rfl) (by kernel_rfl)
noncomputable def B33 : Code := Tryd.f33.body.getD .skip
theorem K1z : Q80 Tryd.prog 33 := Qek (fn := Tryd.f33) (by kernel_rfl) (by kernel_rfl) (by kernel_rfl)
noncomputable def B34 : Code := Tryd.f34.body.getD .skip
theorem K20 : Q80 Tryd.prog 34 := Qek (fn := Tryd.f34) (by kernel_rfl) (by kernel_rfl) (by kernel_rfl)
noncomputable def B18 : Code := Tryd.f18.body.getD .skip
theorem K21 : Q80 Tryd.prog 18 := Qek (fn := Tryd.f18) (by kernel_rfl) (by kernel_rfl) (by kernel_rfl)
noncomputable def B51 : Code := Tryd.f51.body.getD .skip
theorem K22 : Q80 Tryd.prog 51 := Qek (fn := Tryd.f51) (by kernel_rfl) (by kernel_rfl) (by kernel_rfl)
noncomputable def B69 : Code := Tryd.f69.body.getD .skip
theorem K23 : Q80 Tryd.prog 69 := Qek (fn := Tryd.f69) (by kernel_rfl) (by kernel_rfl) (by kernel_rfl)
noncomputable def B62 : Code := Tryd.f62.body.getD .skip
theorem K24 : Q80 Tryd.prog 62 := Qek (fn := Tryd.f62) (by kernel_rfl) (by kernel_rfl) (by kernel_rfl)
noncomputable def B63 : Code := Tryd.f63.body.getD .skip
theorem K25 : Q80 Tryd.prog 63 := Qek (fn := Tryd.f63) (by kernel_rfl) (by kernel_rfl) (by kernel_rfl)
noncomputable def B68 : Code := Tryd.f68.body.getD .skip
theorem K26 : Q80 Tryd.prog 68 := Qek (fn := Tryd.f68) (by kernel_rfl) (by kernel_rfl) (by kernel_rfl)
noncomputable def B60 : Code := Tryd.f60.body.getD .skip
theorem K27 : Q80 Tryd.prog 60 := Qek (fn := Tryd.f60) (by kernel_rfl) (by kernel_rfl) (by kernel_rfl)
noncomputable def B61 : Code := Tryd.f61.body.getD .skip
theorem K28 : Q80 Tryd.prog 61 := Qek (fn := Tryd.f61) (by kernel_rfl) (by kernel_rfl) (by kernel_rfl)
noncomputable def B52 : Code := Tryd.f52.body.getD .skip
theorem K29 : Q80 Tryd.prog 52 := Qek (fn := Tryd.f52) (by kernel_rfl) (by kernel_rfl) (by kernel_rfl)
noncomputable def B35 : Code := Tryd.f35.body.getD .skip
theorem K2a : Q80 Tryd.prog 35 := Qek (fn := Tryd.f35) (by kernel_rfl) (by kernel_rfl) (by kernel_rfl)
noncomputable def B54 : Code := Tryd.f54.body.getD .skip
theorem K2b : Q80 Tryd.prog 54 := Qek (fn := Tryd.f54) (by kernel_rfl) (by kernel_rfl) (by kernel_rfl)
noncomputable def B36 : Code := Tryd.f36.body.getD .skip
theorem K2c : Q80 Tryd.prog 36 := Qek (fn := Tryd.f36) (by kernel_rfl) (by kernel_rfl) (by kernel_rfl)
noncomputable def B19 : Code := Tryd.f19.body.getD .skip
theorem K2d : Q80 Tryd.prog 19 := Qek (fn := Tryd.f19) (by kernel_rfl) (by kernel_rfl) (by kernel_rfl)
noncomputable def B10 : Code := Tryd.f10.body.getD .skip
theorem K2e : Q80 Tryd.prog 10 := Qek (fn := Tryd.f10) (by kernel_rfl) (by kernel_rfl) (by kernel_rfl)
noncomputable def B59 : Code := Tryd.f59.body.getD .skip
theorem K2f : Q80 Tryd.prog 59 := Qek (fn := Tryd.f59) (by kernel_rfl) (by kernel_rfl) (by kernel_rfl)
noncomputable def B45 : Code := Tryd.f45.body.getD .skip
theorem K2g : Q80 Tryd.prog 45 := Qek (fn := Tryd.f45) (by kernel_rfl) (by kernel_rfl) (by kernel_rfl)
noncomputable def B28 : Code := Tryd.f28.body.getD .skip
theorem K2h : Q80 Tryd.prog 28 := Qek (fn := Tryd.f28) (by kernel_rfl) (by kernel_rfl) (by kernel_rfl)
noncomputable def B55 : Code := Tryd.f55.body.getD .skip
theorem K2i : Q80 Tryd.prog 55 := Qek (fn := Tryd.f55) (by kernel_rfl) (by kernel_rfl) (by kernel_rfl)
noncomputable def B56 : Code := Tryd.f56.body.getD .skip
theorem K2j : Q80 Tryd.prog 56 := Qek (fn := Tryd.f56) (by kernel_rfl) (by kernel_rfl) (by kernel_rfl)
noncomputable def B37 : Code := Tryd.f37.body.getD .skip
theorem K2k : Q80 Tryd.prog 37 := Qek (fn := Tryd.f37) (by kernel_rfl) (by kernel_rfl) (by kernel_rfl)
noncomputable def B30 : Code := Tryd.f30.body.getD .skip
theorem K2l : Q80 Tryd.prog 30 := Qek (fn := Tryd.f30) (by kernel_rfl) (by kernel_rfl) (by kernel_rfl)
noncomputable def B38 : Code := Tryd.f38.body.getD .skip
theorem K2m : Q80 Tryd.prog 38 := Qek (fn := Tryd.f38) (by kernel_rfl) (by kernel_rfl) (by kernel_rfl)
noncomputable def B39 : Code := Tryd.f39.body.getD .skip
theorem K2n : Q80 Tryd.prog 39 := Qek (fn := Tryd.f39) (by kernel_rfl) (by kernel_rfl) (by kernel_rfl)
noncomputable def B40 : Code := Tryd.f40.body.getD .skip
theorem K2o : Q80 Tryd.prog 40 := Qek (fn := Tryd.f40) (by kernel_rfl) (by kernel_rfl) (by kernel_rfl)
noncomputable def B29 : Code := Tryd.f29.body.getD .skip
theorem K2p : Q80 Tryd.prog 29 := Qek (fn := Tryd.f29) (by kernel_rfl) (by kernel_rfl) (by kernel_rfl)
noncomputable def B16 : Code := Tryd.f16.body.getD .skip
theorem K2q : Q80 Tryd.prog 16 := Qek (fn := Tryd.f16) (by kernel_rfl) (by kernel_rfl) (by kernel_rfl)
noncomputable def B20 : Code := Tryd.f20.body.getD .skip
theorem K2r : Q80 Tryd.prog 20 := Qek (fn := Tryd.f20) (by kernel_rfl) (by kernel_rfl) (by kernel_rfl)
noncomputable def B58 : Code := Tryd.f58.body.getD .skip
theorem K2s : Q80 Tryd.prog 58 := Qek (fn := Tryd.f58) (by kernel_rfl) (by kernel_rfl) (by kernel_rfl)
noncomputable def B46 : Code := Tryd.f46.body.getD .skip
theorem K2t : Q80 Tryd.prog 46 := Qek (fn := Tryd.f46) (by kernel_rfl) (by kernel_rfl) (by kernel_rfl)
noncomputable def B31 : Code := Tryd.f31.body.getD .skip
theorem K2u : Q80 Tryd.prog 31 := Qek (fn := Tryd.f31) (by kernel_rfl) (by kernel_rfl) (by kernel_rfl)
noncomputable def B17 : Code := Tryd.f17.body.getD .skip
theorem K2v : Q80 Tryd.prog 17 := Qek (fn := Tryd.f17) (by kernel_rfl) (by kernel_rfl) (by kernel_rfl)
noncomputable def B67 : Code := Tryd.f67.body.getD .skip
theorem K2w : Q80 Tryd.prog 67 := Qek (fn := Tryd.f67) (by kernel_rfl) (by kernel_rfl) (by kernel_rfl)
noncomputable def B57 : Code := Tryd.f57.body.getD .skip
theorem K2x : Q80 Tryd.prog 57 := Qek (fn := Tryd.f57) (by kernel_rfl) (by kernel_rfl) (by kernel_rfl)
noncomputable def B41 : Code := Tryd.f41.body.getD .skip
theorem K2y : Q80 Tryd.prog 41 := Qek (fn := Tryd.f41) (by kernel_rfl) (by kernel_rfl) (by kernel_rfl)
noncomputable def B21 : Code := Tryd.f21.body.getD .skip
theorem K2z : Q80 Tryd.prog 21 := Qek (fn := Tryd.f21) (by kernel_rfl) (by kernel_rfl) (by kernel_rfl)
noncomputable def B11 : Code := Tryd.f11.body.getD .skip
theorem K30 : Q80 Tryd.prog 11 := Qek (fn := Tryd.f11) (by kernel_rfl) (by kernel_rfl) (by kernel_rfl)
noncomputable def B7 : Code := Tryd.f7.body.getD .skip
theorem K31 : Q80 Tryd.prog 7 := Qek (fn := Tryd.f7) (by kernel_rfl) (by kernel_rfl) (by kernel_rfl)
noncomputable def B22 : Code := Tryd.f22.body.getD .skip
theorem K32 : Q80 Tryd.prog 22 := Qek (fn := Tryd.f22) (by kernel_rfl) (by kernel_rfl) (by kernel_rfl)
noncomputable def B12 : Code := Tryd.f12.body.getD .skip
theorem K33 : Q80 Tryd.prog 12 := Qek (fn := Tryd.f12) (by kernel_rfl) (by kernel_rfl) (by kernel_rfl)
noncomputable def B8 : Code := Tryd.f8.body.getD .skip
theorem K34 : Q80 Tryd.prog 8 := Qek (fn := Tryd.f8) (by kernel_rfl) (by kernel_rfl) (by kernel_rfl)
noncomputable def B23 : Code := Tryd.f23.body.getD .skip
theorem K35 : Q80 Tryd.prog 23 := Qek (fn := Tryd.f23) (by kernel_rfl) (by kernel_rfl) (by kernel_rfl)
noncomputable def B13 : Code := Tryd.f13.body.getD .skip
theorem K36 : Q80 Tryd.prog 13 := Qek (fn := Tryd.f13) (by kernel_rfl) (by kernel_rfl) (by kernel_rfl)
noncomputable def B9 : Code := Tryd.f9.body.getD .skip
theorem K37 : Q80 Tryd.prog 9 := Qek (fn := Tryd.f9) (by kernel_rfl) (by kernel_rfl) (by kernel_rfl)
noncomputable def B24 : Code := Tryd.f24.body.getD .skip
theorem K38 : Q80 Tryd.prog 24 := Qek (fn := Tryd.f24) (by kernel_rfl) (by kernel_rfl) (by kernel_rfl)
noncomputable def B14 : Code := Tryd.f14.body.getD .skip
theorem K39 : Q80 Tryd.prog 14 := Qek (fn := Tryd.f14) (by kernel_rfl) (by kernel_rfl) (by kernel_rfl)
noncomputable def B4 : Code := Tryd.f4.body.getD .skip
theorem K3a : Q80 Tryd.prog 4 := Qek (fn := Tryd.f4) (by kernel_rfl) (by kernel_rfl) (by kernel_rfl)

abbrev TL := List (Nat × AV)
abbrev OL := List (Nat × Q0c)
abbrev PLN := Option (List (List Nat))
abbrev RL := List (Option Orc)
abbrev LL := List (List Int)
section
variable {c : Ctx} {code : Code} {Q : Exit → Q0d → Prop} {σ S : Q0d} {nt : Nat} {T : TL} {O : OL}
def evq (code : Code) (nt : Nat) (ah : PLN) (r : RL) (T : TL) (O : OL) (T' : TL) (O' : OL) : Nat × Option (TL × OL) × Prop × Bool := (Qdk code, (Qcg TIx Tryd.prog nt (Qdg code) ah r T O (T'.map (·.1)) (O'.map (·.1))).map (fun r => (r.T, Qci r.O)), Qe6 (Qcg TIx Tryd.prog nt (Qdg code) ah r T O (T'.map (·.1)) (O'.map (·.1))), (!Qdh code && ah.isNone) || ah.isSome)
def evs (code : Code) (nt : Nat) (ah : PLN) (r : RL) (T : TL) (O : OL) (T' : TL) (O' : OL) : Nat × Nat × Option (TL × OL) × Prop × Bool := (Qdk code, evq (cl code) nt ah r T O T' O')
theorem rg {A : Prop} (hnt : c.nt = nt) (ah : PLN) (r : RL) (T' : TL) (O' : OL) (h : A) (hQ : Q .normal (mkS T' O')) (e : evq code nt ah r T O T' O' = (0, some (T', O'), A, true) := by kernel_rfl) : Wp Tryd.prog c code Q (mkS T O) :=
  Wp.reg K1k mix hnt (congrArg (fun p => Nat.beq p.1 0) e) (congrArg (·.2.1) e) h (congrArg (·.2.2.1) e).symm (congrArg (·.2.2.2) e) hQ
theorem rs {A : Prop} (hnt : c.nt = nt) (ah : PLN) (r : RL) (T' : TL) (O' : OL) (h : A) (hQ : Wp Tryd.prog c (cr code) Q (mkS T' O')) (e : evs code nt ah r T O T' O' = (1, 0, some (T', O'), A, true) := by kernel_rfl) : Wp Tryd.prog c code Q (mkS T O) :=
  Wp.seqN (congrArg (fun p => Nat.beq p.1 1) e) (rg hnt ah r T' O' h (Qdw hQ) (congrArg (·.2) e))
def mb (t : Nat) : List Nat → Bool
  | [] => false
  | k :: r => bif Nat.beq t k then true else mb t r
def dk (D : List Nat) : TL → TL
  | [] => []
  | p :: r => bif mb p.1 D then dk D r else p :: dk D r
def dp (D : List Nat) : TL → TL → TL
  | [], T => dk D T
  | p :: N, T => p :: dp D N T
theorem rg0 (hnt : c.nt = nt) (n : Nat) (T' : TL) (O' : OL) (hQ : Q .normal (mkS T' O')) (e : evq code nt none (List.replicate n (some .no)) T O T' O' = (0, some (T', O'), True, true) := by kernel_rfl) : Wp Tryd.prog c code Q (mkS T O) := rg hnt none (List.replicate n (some .no)) T' O' trivial hQ e
theorem rgs {A : Prop} (hnt : c.nt = nt) (ah : PLN) (r : RL) (T' : TL) (h : A) (hQ : Q .normal (mkS T' O)) (e : evq code nt ah r T O T' O = (0, some (T', O), A, true) := by kernel_rfl) : Wp Tryd.prog c code Q (mkS T O) := rg hnt ah r T' O h hQ e
theorem K3b (hnt : c.nt = nt) (n : Nat) (T' : TL) (hQ : Q .normal (mkS T' O)) (e : evq code nt none (List.replicate n (some .no)) T O T' O = (0, some (T', O), True, true) := by kernel_rfl) : Wp Tryd.prog c code Q (mkS T O) := rg hnt none (List.replicate n (some .no)) T' O trivial hQ e
theorem rgd {A : Prop} (hnt : c.nt = nt) (ah : PLN) (r : RL) (D : List Nat) (N : TL) (O' : OL) (h : A) (hQ : Q .normal (mkS (dp D N T) O')) (e : evq code nt ah r T O (dp D N T) O' = (0, some ((dp D N T), O'), A, true) := by kernel_rfl) : Wp Tryd.prog c code Q (mkS T O) := rg hnt ah r (dp D N T) O' h hQ e
theorem K3c (hnt : c.nt = nt) (n : Nat) (D : List Nat) (N : TL) (O' : OL) (hQ : Q .normal (mkS (dp D N T) O')) (e : evq code nt none (List.replicate n (some .no)) T O (dp D N T) O' = (0, some ((dp D N T), O'), True, true) := by kernel_rfl) : Wp Tryd.prog c code Q (mkS T O) := rg hnt none (List.replicate n (some .no)) (dp D N T) O' trivial hQ e
theorem K3d {A : Prop} (hnt : c.nt = nt) (ah : PLN) (r : RL) (D : List Nat) (N : TL) (h : A) (hQ : Q .normal (mkS (dp D N T) O)) (e : evq code nt ah r T O (dp D N T) O = (0, some ((dp D N T), O), A, true) := by kernel_rfl) : Wp Tryd.prog c code Q (mkS T O) := rg hnt ah r (dp D N T) O h hQ e
theorem K3e (hnt : c.nt = nt) (n : Nat) (D : List Nat) (N : TL) (hQ : Q .normal (mkS (dp D N T) O)) (e : evq code nt none (List.replicate n (some .no)) T O (dp D N T) O = (0, some ((dp D N T), O), True, true) := by kernel_rfl) : Wp Tryd.prog c code Q (mkS T O) := rg hnt none (List.replicate n (some .no)) (dp D N T) O trivial hQ e
theorem rs0 (hnt : c.nt = nt) (n : Nat) (T' : TL) (O' : OL) (hQ : Wp Tryd.prog c (cr code) Q (mkS T' O')) (e : evs code nt none (List.replicate n (some .no)) T O T' O' = (1, 0, some (T', O'), True, true) := by kernel_rfl) : Wp Tryd.prog c code Q (mkS T O) := rs hnt none (List.replicate n (some .no)) T' O' trivial hQ e
theorem rss {A : Prop} (hnt : c.nt = nt) (ah : PLN) (r : RL) (T' : TL) (h : A) (hQ : Wp Tryd.prog c (cr code) Q (mkS T' O)) (e : evs code nt ah r T O T' O = (1, 0, some (T', O), A, true) := by kernel_rfl) : Wp Tryd.prog c code Q (mkS T O) := rs hnt ah r T' O h hQ e
theorem K3f (hnt : c.nt = nt) (n : Nat) (T' : TL) (hQ : Wp Tryd.prog c (cr code) Q (mkS T' O)) (e : evs code nt none (List.replicate n (some .no)) T O T' O = (1, 0, some (T', O), True, true) := by kernel_rfl) : Wp Tryd.prog c code Q (mkS T O) := rs hnt none (List.replicate n (some .no)) T' O trivial hQ e
theorem rsd {A : Prop} (hnt : c.nt = nt) (ah : PLN) (r : RL) (D : List Nat) (N : TL) (O' : OL) (h : A) (hQ : Wp Tryd.prog c (cr code) Q (mkS (dp D N T) O')) (e : evs code nt ah r T O (dp D N T) O' = (1, 0, some ((dp D N T), O'), A, true) := by kernel_rfl) : Wp Tryd.prog c code Q (mkS T O) := rs hnt ah r (dp D N T) O' h hQ e
theorem K3g (hnt : c.nt = nt) (n : Nat) (D : List Nat) (N : TL) (O' : OL) (hQ : Wp Tryd.prog c (cr code) Q (mkS (dp D N T) O')) (e : evs code nt none (List.replicate n (some .no)) T O (dp D N T) O' = (1, 0, some ((dp D N T), O'), True, true) := by kernel_rfl) : Wp Tryd.prog c code Q (mkS T O) := rs hnt none (List.replicate n (some .no)) (dp D N T) O' trivial hQ e
theorem K3h {A : Prop} (hnt : c.nt = nt) (ah : PLN) (r : RL) (D : List Nat) (N : TL) (h : A) (hQ : Wp Tryd.prog c (cr code) Q (mkS (dp D N T) O)) (e : evs code nt ah r T O (dp D N T) O = (1, 0, some ((dp D N T), O), A, true) := by kernel_rfl) : Wp Tryd.prog c code Q (mkS T O) := rs hnt ah r (dp D N T) O h hQ e
theorem K3i (hnt : c.nt = nt) (n : Nat) (D : List Nat) (N : TL) (hQ : Wp Tryd.prog c (cr code) Q (mkS (dp D N T) O)) (e : evs code nt none (List.replicate n (some .no)) T O (dp D N T) O = (1, 0, some ((dp D N T), O), True, true) := by kernel_rfl) : Wp Tryd.prog c code Q (mkS T O) := rs hnt none (List.replicate n (some .no)) (dp D N T) O trivial hQ e
theorem ri {T' : TL} {O' : OL} {A : Prop} (hnt : c.nt = nt) (ah : PLN) (r : RL) (h : A) (hQ : Q .normal (mkS T' O')) (e : evq code nt ah r T O T' O' = (0, some (T', O'), A, true) := by kernel_rfl) : Wp Tryd.prog c code Q (mkS T O) := rg hnt ah r T' O' h hQ e
theorem ri0 {T' : TL} {O' : OL} (hnt : c.nt = nt) (n : Nat) (hQ : Q .normal (mkS T' O')) (e : evq code nt none (List.replicate n (some .no)) T O T' O' = (0, some (T', O'), True, true) := by kernel_rfl) : Wp Tryd.prog c code Q (mkS T O) := rg hnt none (List.replicate n (some .no)) T' O' trivial hQ e
theorem rj {T' : TL} {O' : OL} {A : Prop} (hnt : c.nt = nt) (ah : PLN) (r : RL) (h : A) (hQ : Q .normal (mkS T' O') := by exact Qe7.mk) (e : evq code nt ah r T O T' O' = (0, some (T', O'), A, true) := by kernel_rfl) : Wp Tryd.prog c code Q (mkS T O) := rg hnt ah r T' O' h hQ e
theorem rj0 {T' : TL} {O' : OL} (hnt : c.nt = nt) (n : Nat) (hQ : Q .normal (mkS T' O') := by exact Qe7.mk) (e : evq code nt none (List.replicate n (some .no)) T O T' O' = (0, some (T', O'), True, true) := by kernel_rfl) : Wp Tryd.prog c code Q (mkS T O) := rg hnt none (List.replicate n (some .no)) T' O' trivial hQ e
theorem wi (D : List Nat) (N : TL) (h1 : Wp Tryd.prog c code (Qe7 c .normal (mkS (dp D N T) O)) (mkS T O)) (h2 : Q .normal (mkS (dp D N T) O)) : Wp Tryd.prog c code Q (mkS T O) := Wp.into _ h1 h2
theorem wf {x : Exit} (h1 : Wp Tryd.prog c code (Qe7 c x S) σ) (h2 : Q x S) : Wp Tryd.prog c code Q σ := Wp.into S h1 h2
theorem wl {x : Exit} (h1 : WpL Tryd.prog c code (Qe7 c x S) σ) (h2 : Q x S) : WpL Tryd.prog c code Q σ := WpL.into S h1 h2
theorem vz (k : Nat) {xs xs' : List AV} (hs : Q05 xs = xs') (T' : TL) (O' : OL) (h : Wp Tryd.prog c code Q (mkS T' O')) (hO : lkO O k = some (.arr xs) := by kernel_rfl)
    (hT : T.map (fun p => (p.1, frz k (.sl xs') p.2)) = T' := by kernel_rfl) (hO' : ((O.filter fun p => !Nat.beq p.1 k).map fun p => (p.1, Qaz k (.sl xs') p.2)) = O' := by kernel_rfl) : Wp Tryd.prog c code Q (mkS T O) := Wp.view (fun _ _ hv => SRx.frzL k hv hO hs hT hO') h
theorem vb (k : Nat) (cs : List AV) (T' : TL) (O' : OL) (h : Wp Tryd.prog c code Q (mkS T' O')) (hO : lkO O k = some (.box cs) := by kernel_rfl) (hp : cs.all plain = true := by kernel_rfl)
    (hT : T.map (fun p => (p.1, frb k (cs.map nzC) p.2)) = T' := by kernel_rfl) (hO' : ((O.filter fun p => !Nat.beq p.1 k).map fun p => (p.1, Qg2 k (cs.map nzC) p.2)) = O' := by kernel_rfl) : Wp Tryd.prog c code Q (mkS T O) := Wp.view (fun _ _ hv => SRx.frbL k (cs := cs) hv hO hp hT hO') h
theorem bk (i : Nat) (h : Wp Tryd.prog c (cl code) (Qdu i Q) σ) (hk : (Nat.beq (Qdk code) 3 && Nat.beq (Qdi code) i) = true := by kernel_rfl) : Wp Tryd.prog c code Q σ := Wp.blockN hk h
theorem xt (i : Nat) (h : Q (.exit i) σ) (hk : (Nat.beq (Qdk code) 5 && Nat.beq (Qdi code) i) = true := by kernel_rfl) : Wp Tryd.prog c code Q σ := Wp.exitN hk h
theorem lp (h : WpL Tryd.prog c (cl code) Q σ) (hk : Nat.beq (Qdk code) 4 = true := by kernel_rfl) : Wp Tryd.prog c code Q σ := Wp.loopN hk h
theorem rt (h : Q .ret σ) (hk : Nat.beq (Qdk code) 6 = true := by kernel_rfl) : Wp Tryd.prog c code Q σ := Wp.retN hk h
theorem sk (h : Q .normal σ) (hk : Nat.beq (Qdk code) 7 = true := by kernel_rfl) : Wp Tryd.prog c code Q σ := Wp.skipN hk h
theorem sN (h : Wp Tryd.prog c (cl code) (Qdt Tryd.prog c (cr code) Q) σ) (hk : Nat.beq (Qdk code) 1 = true := by kernel_rfl) : Wp Tryd.prog c code Q σ := Wp.seqN hk h
theorem ic {α : Type} {b : Bool} {x y : Option α} {r : α} (h : (if b = true then x else y) = some r) (hT : b = true → x = some r → Wp Tryd.prog c (cl code) Q σ) (hF : b = false → y = some r → Wp Tryd.prog c (cr code) Q σ)
    (hk : Nat.beq (Qdk code) 2 = true := by kernel_rfl) (hx : opv σ (Qdj code) = .bool b := by kernel_rfl) : Wp Tryd.prog c code Q σ := (Qem h).elim (fun q => Wp.condT hk hx q.1 (hT q.1 q.2)) (fun q => Wp.condF hk hx q.1 (hF q.1 q.2))
theorem cT (b : Bool) (hb : b = true) (h1 : Wp Tryd.prog c (cl code) Q σ) (hk : Nat.beq (Qdk code) 2 = true := by kernel_rfl) (hx : opv σ (Qdj code) = .bool b := by kernel_rfl) : Wp Tryd.prog c code Q σ := Wp.condT hk hx hb h1
theorem cF (b : Bool) (hb : b = false) (h1 : Wp Tryd.prog c (cr code) Q σ) (hk : Nat.beq (Qdk code) 2 = true := by kernel_rfl) (hx : opv σ (Qdj code) = .bool b := by kernel_rfl) : Wp Tryd.prog c code Q σ := Wp.condF hk hx hb h1
end
theorem b0 {f : FuncId} (fn : Func) (code : Code) {args : List AV} {res : AV} (nt : Nat) (T : TL) (h : ∀ c : Ctx, c.nt = nt → Wp Tryd.prog c code (Qed TIx fn [] res) (mkS T [])) (hf : Tryd.prog.funcs[f]? = some fn := by kernel_rfl) (hb : fn.body = some code := by kernel_rfl) (hok : Qcq args = true := by kernel_rfl) (ha : args.all (fun x => !Qee x) = true := by kernel_rfl)
    (hnt : Nat.beq fn.ntmps nt = true := by kernel_rfl) (hle : Nat.ble args.length nt = true := by kernel_rfl) (hT : Qco args = T := by kernel_rfl) (hO : Qcp args = [] := by kernel_rfl) : Q7a Tryd.prog f args res [] := Q7a.body0 K1k hf hb hok ha hnt hle hT hO h
theorem iv {c : Ctx} {x : Exit} (ρ : List (Nat × Nat)) {T T' : TL} {O O' : OL} (hT : (T'.map fun p => rn (rnk ρ) p.2) = T'.map fun p => lk .undef T p.1 := by kernel_rfl)
    (hO : (O'.map fun p => some (rnO (rnk ρ) p.2)) = O'.map fun p => lkO O (rnk ρ p.1) := by kernel_rfl) (hB : Qe9 ρ O' = true := by kernel_rfl) : Qe7 c x (mkS T' O') x (mkS T O) := Qe7.view (fun _ _ hv => SRx.renL ρ hv hT hO hB)
theorem im {c : Ctx} {x : Exit} {T T' : TL} {O : OL} (hT : (T'.map fun p => lk .undef T p.1) = T'.map (·.2) := by kernel_rfl) : Qe7 c x (mkS T' O) x (mkS T O) :=
  ⟨rfl, fun _ _ h => h.le (fun t => (Qc6 AV.undef T' t).imp (fun e => e) (fun ⟨p, hp, h1, h2⟩ => h2.trans (h1 ▸ (List.map_inj_left.1 hT p hp).symm))) (fun _ => .inr rfl)⟩
theorem re {fn : Func} {args : List AV} (fl : List Bool) {T : TL} {O : OL} {res : AV} (h : Qec TIx fn args fl T O = some res := by kernel_rfl) : Qeg TIx fn args res .ret (mkS T O) := Qeg.ret h
theorem rq {fn : Func} {args : List AV} (fl : List Bool) {T : TL} {O : OL} {res : AV} (h : Qec TIx fn args fl T O = some res := by kernel_rfl) : Qed TIx fn args res .ret (mkS T O) := Qed.ret h
theorem rp {fn : Func} {args : List AV} (fl : List Bool) {T : TL} {O : OL} {r : AV × List AV} (h : Qeh TIx fn args fl T O = some r := by kernel_rfl) : Qej TIx fn args r .ret (mkS T O) := Qej.ret h
theorem rr {fn : Func} {args : List AV} (fl : List Bool) {T : TL} {O : OL} {r : AV × List AV} (h : Qeh TIx fn args fl T O = some r := by kernel_rfl) : Qei TIx fn args r .ret (mkS T O) := Qei.ret h
abbrev rI (l : List Int) : Q0c := .arr (List.map I l)
abbrev oI (l : List Int) : AV := .osl (List.map I l)
abbrev sI (l : List Int) : AV := .sl (List.map I l)
abbrev sB (l : List Bool) : AV := .sl (List.map AV.bool l)
abbrev sM {α : Type} (e : α → AV) (l : List α) : AV := .sl (List.map e l)
abbrev rM {α : Type} (e : α → AV) (l : List α) : Q0c := .arr (List.map e l)
abbrev oM {α : Type} (e : α → AV) (l : List α) : AV := .osl (List.map e l)
abbrev zT : Q0c := .box [I 0, I 0, .nils, .nils]
abbrev zS : Q0c := .box [I 0, .nils, .nils, .nils]
theorem fF : false = false := rfl
theorem tt : true = true := rfl
theorem nf : true ≠ false := fun h => nomatch h
theorem ix {e : List Int} {i : Int} {x : Int} (h : idx e i = some x) : 0 ≤ i ∧ (e.map I)[i.toNat]? = some (.int .i64 x) := Qep (enc := I) (x := .int .i64 x) h (Qf0 x)
theorem xB {e : List Bool} {i : Int} {x : Bool} (h : idx e i = some x) : 0 ≤ i ∧ (e.map AV.bool)[i.toNat]? = some (.bool x) := Qep (enc := AV.bool) (x := .bool x) h (Qf2 x)
def rep : Nat → Prop → Prop → Prop
  | 0, _, b => b
  | n + 1, a, b => a ∧ rep n a b
theorem ar {a b : Prop} : ∀ (n : Nat) (x : a) (y : b), rep n a b
  | 0, _, y => y
  | n + 1, x, y => ⟨x, ar n x y⟩
theorem is {α : Type} {b : Bool} {x y : Option α} {r : α} (h : (if b = true then x else y) = some r) : (b = true ∧ x = some r) ∨ (b = false ∧ y = some r) := Qem h
theorem os {α : Type} {a b : α} (h : some a = some b) : a = b := Option.some.inj h
def rx (l : List (List Nat)) : PLN := some (l.map fun r => match r with | n :: e => List.range n ++ e | [] => [])
def rh (l : List Nat) : PLN := some (l.map List.range)
theorem ai {a b : Prop} (x : a) (y : b) : a ∧ b := ⟨x, y⟩
theorem oi (v : AV) : ([] : List Nat) = [] ∨ noSh v = true := Or.inl rfl
theorem ab {a b r : Prop} (x : a) (y : b) (t : r) : a ∧ b ∧ r := ⟨x, y, t⟩
theorem ac {a b c r : Prop} (x : a) (y : b) (z : c) (t : r) : a ∧ b ∧ c ∧ r := ⟨x, y, z, t⟩
theorem ad {a b c d r : Prop} (x : a) (y : b) (z : c) (w : d) (t : r) : a ∧ b ∧ c ∧ d ∧ r := ⟨x, y, z, w, t⟩
theorem cq {P : Program} {f : FuncId} {xs : List AV} {os : List AV} {v : AV} {b r : Prop} (x : Q7a P f xs v os) (y : b) (t : r) : Q7a P f xs v os ∧ b ∧ (([] : List Nat) = [] ∨ noSh v = true) ∧ r := ⟨x, y, Or.inl rfl, t⟩
abbrev tv : True := trivial
theorem bq2 {α β γ : Type} {x : Option α} {f : α → Option β} {g : α → β → Option γ} {r : γ} (h : (x >>= fun a => f a >>= fun b => g a b) = some r) : ∃ a, x = some a ∧ ∃ b, f a = some b ∧ g a b = some r := let ⟨a, ha, h⟩ := Qel h; let ⟨b, hb, h⟩ := Qel h; ⟨a, ha, b, hb, h⟩
theorem bq3 {α β γ δ : Type} {x : Option α} {f : α → Option β} {g : α → β → Option γ} {k : α → β → γ → Option δ} {r : δ} (h : (x >>= fun a => f a >>= fun b => g a b >>= fun c => k a b c) = some r) : ∃ a, x = some a ∧ ∃ b, f a = some b ∧ ∃ c, g a b = some c ∧ k a b c = some r := let ⟨a, ha, b, hb, h⟩ := bq2 h; let ⟨c, hc, h⟩ := Qel h; ⟨a, ha, b, hb, c, hc, h⟩
theorem bq4 {α β γ δ ε : Type} {x : Option α} {f : α → Option β} {g : α → β → Option γ} {k : α → β → γ → Option δ} {l : α → β → γ → δ → Option ε} {r : ε} (h : (x >>= fun a => f a >>= fun b => g a b >>= fun c => k a b c >>= fun d => l a b c d) = some r) : ∃ a, x = some a ∧ ∃ b, f a = some b ∧ ∃ c, g a b = some c ∧ ∃ d, k a b c = some d ∧ l a b c d = some r := let ⟨a, ha, b, hb, c, hc, h⟩ := bq3 h; let ⟨d, hd, h⟩ := Qel h; ⟨a, ha, b, hb, c, hc, d, hd, h⟩
abbrev oN : Option Orc := some .no
abbrev oF : Option Orc := some (.cond false)
abbrev oT : Option Orc := some (.cond true)
abbrev o_ : Option Orc := none
abbrev nN (k : Nat) (l : RL) : RL := List.replicate k oN ++ l
abbrev n_ (k : Nat) (l : RL) : RL := List.replicate k o_ ++ l
abbrev oc (v : AV) : Option Orc := some (.call v [] 1)
abbrev eL (v : AV) : Option Orc := some (.el v)
abbrev eB (b : Bool) : Option Orc := some (.el (.bool b))
abbrev nW (k : Nat) : Option Orc := some (.new k)
abbrev mK (k : Nat) : Option Orc := some (.mk k true)
abbrev nQ (w : Wr) : Option Orc := some (.eqv .no w)
end Go.Am
