/- Functions of the program as pure functions, and that it computes them. Printed by a program of mine (gen.py). -/
import Derived.Test.YtlegifoeekcolaaGCVF4
set_option linter.unusedVariables false
set_option linter.unusedSimpArgs false
set_option maxRecDepth 100000
namespace Go.Am
open Go Go.Proofs
def laws_FnExactCountValues (p : GSystem × (List Int)) : Option (Bool) :=
  match p with
  | (aS0, aTy1) =>
    if (decide ((aTy1.length : Int) > 1048576)) = true then
      some true
    else
      (laws_szSystem (aS0, 1048576)) >>= fun r_4_2 =>
      if (decide (r_4_2 < 0)) = true then
        some true
      else
        (laws_toSystem aS0) >>= fun r_7_1 =>
        (laws_toIntS aTy1) >>= fun r_7_3 =>
        (spec_CountValues (r_7_1, r_7_3)) >>= fun r_7_4 =>
        (laws_toSystem aS0) >>= fun r_8_1 =>
        (laws_toIntS aTy1) >>= fun r_9_1 =>
        (impl_CountValues (r_8_1, r_9_1)) >>= fun r_10_2 =>
        if (r_10_2 != r_7_4) = true then
          some false
        else
          (laws_toSystem aS0) >>= fun r_13_2 =>
          (laws_eqSystem (r_8_1, r_13_2)) >>= fun r_13_3 =>
          if r_13_3 = true then
            (laws_toIntS aTy1) >>= fun r_15_2 =>
            (laws_eqIntS (r_9_1, r_15_2)) >>= fun r_15_3 =>
            if r_15_3 = true then
              some true
            else
              some false
          else
            some false
def M_laws_FnExactCountValues (p : GSystem × (List Int)) (r : Bool) : Prop :=
  match p with
  | (aS0, aTy1) => FnSound Try.prog 6 [.agg [.int .i64 aS0.fSize, .sl (List.map I aS0.fPlus), .sl (List.map I aS0.fTimes), .sl (List.map AV.bool aS0.fBelow)], .sl (List.map I aTy1)] (.bool r) []
theorem laws_FnExactCountValues_s : ∀ p r, laws_FnExactCountValues p = some r → M_laws_FnExactCountValues p r := by
  rintro ⟨aS0, aTy1⟩ r h
  unfold laws_FnExactCountValues at h
  show FnSound Try.prog 6 [.agg [.int .i64 aS0.fSize, .sl (List.map I aS0.fPlus), .sl (List.map I aS0.fTimes), .sl (List.map AV.bool aS0.fBelow)], .sl (List.map I aTy1)] (.bool r) []
  refine FnSound.body0 tiok (fn := Try.f6) (code := B6) (by kernel_rfl) (by kernel_rfl) (by kernel_rfl) (by kernel_rfl) (nt := 43) (by kernel_rfl) (by kernel_rfl) (T := [(0, .agg [.int .i64 aS0.fSize, .sl (List.map I aS0.fPlus), .sl (List.map I aS0.fTimes), .sl (List.map AV.bool aS0.fBelow)]), (1, .sl (List.map I aTy1))]) (O := []) (by kernel_rfl) (by kernel_rfl) (fun c hc => ?_)
  refine Wp.seqN (by kernel_rfl) ?_
  refine Wp.reg tiok mix hc (by kernel_rfl) (ah := none) (rs := [some (.new 1), some (.no)]) (kt := [1, 2]) (ko := [1]) (T' := [(1, .sl (List.map I aTy1)), (2, .ra 1 0)]) (O' := [(1, .box [.int .i64 aS0.fSize, .sl (List.map I aS0.fPlus), .sl (List.map I aS0.fTimes), .sl (List.map AV.bool aS0.fBelow)])]) (by kernel_rfl) trivial (by kernel_rfl) (by kernel_rfl) ?_
  refine seqQ_norm ?_
  refine Wp.seqN (by kernel_rfl) ?_
  refine Wp.seqN (by kernel_rfl) ?_
  refine Wp.reg tiok mix hc (by kernel_rfl) (ah := none) (rs := [some (.no), some (.eqv (.no) ⟨[(11, .int .i64 (aTy1.length : Int))], [], []⟩), some (.no)]) (kt := [1, 2, 12]) (ko := [1]) (T' := [(1, .sl (List.map I aTy1)), (2, .ra 1 0), (12, .bool (decide ((aTy1.length : Int) > 1048576)))]) (O' := [(1, .box [.int .i64 aS0.fSize, .sl (List.map I aS0.fPlus), .sl (List.map I aS0.fTimes), .sl (List.map AV.bool aS0.fBelow)])]) (by kernel_rfl) (And.intro (lenT (d := 11) I aTy1) trivial) (by kernel_rfl) (by kernel_rfl) ?_
  refine seqQ_norm ?_
  rcases itesome h with ⟨hb_1, h⟩ | ⟨hb_1, h⟩
  · refine Wp.condT (b := (decide ((aTy1.length : Int) > 1048576))) (by kernel_rfl) (by kernel_rfl) hb_1 ?_
    refine Wp.seqN (by kernel_rfl) ?_
    refine Wp.reg tiok mix hc (by kernel_rfl) (ah := none) (rs := [some (.no)]) (kt := [4]) (ko := []) (T' := [(4, .bool true)]) (O' := []) (by kernel_rfl) trivial (by kernel_rfl) (by kernel_rfl) ?_
    refine seqQ_norm ?_
    refine Wp.retN (by kernel_rfl) ?_
    refine seqQ_ret ?_
    obtain rfl := Option.some.inj h
    exact RetQ.ret (fl := [true]) (by kernel_rfl)
  · refine Wp.condF (b := (decide ((aTy1.length : Int) > 1048576))) (by kernel_rfl) (by kernel_rfl) hb_1 ?_
    refine Wp.skipN (by kernel_rfl) ?_
    refine seqQ_norm ?_
    refine Wp.seqN (by kernel_rfl) ?_
    refine Wp.reg tiok mix hc (by kernel_rfl) (ah := none) (rs := [some (.no)]) (kt := [1, 2, 5]) (ko := [1]) (T' := [(1, .sl (List.map I aTy1)), (2, .ra 1 0), (5, .int .i64 1048576)]) (O' := [(1, .box [.int .i64 aS0.fSize, .sl (List.map I aS0.fPlus), .sl (List.map I aS0.fTimes), .sl (List.map AV.bool aS0.fBelow)])]) (by kernel_rfl) trivial (by kernel_rfl) (by kernel_rfl) ?_
    refine seqQ_norm ?_
    refine Wp.seqN (by kernel_rfl) ?_
    obtain ⟨r_4_2, hr_4_2, h⟩ := bsome h
    refine Wp.reg tiok mix hc (by kernel_rfl) (ah := none) (rs := [some (.no), some (.no), some (.call (.int .i64 r_4_2) [] 1), some (.no)]) (kt := [1, 2, 5]) (ko := [1]) (T' := [(1, .sl (List.map I aTy1)), (2, .ra 1 0), (5, .int .i64 r_4_2)]) (O' := [(1, .box [.int .i64 aS0.fSize, .sl (List.map I aS0.fPlus), .sl (List.map I aS0.fTimes), .sl (List.map AV.bool aS0.fBelow)])]) (by kernel_rfl) (And.intro (laws_szSystem_s _ _ hr_4_2) (And.intro bod_11 (And.intro (Or.inl rfl : ([] : List Nat) = [] ∨ noSh (.int .i64 r_4_2) = true) trivial))) (by kernel_rfl) (by kernel_rfl) ?_
    refine seqQ_norm ?_
    refine Wp.seqN (by kernel_rfl) ?_
    refine Wp.seqN (by kernel_rfl) ?_
    refine Wp.reg tiok mix hc (by kernel_rfl) (ah := none) (rs := [some (.no), some (.no)]) (kt := [1, 2, 17]) (ko := [1]) (T' := [(1, .sl (List.map I aTy1)), (2, .ra 1 0), (17, .bool (decide (r_4_2 < 0)))]) (O' := [(1, .box [.int .i64 aS0.fSize, .sl (List.map I aS0.fPlus), .sl (List.map I aS0.fTimes), .sl (List.map AV.bool aS0.fBelow)])]) (by kernel_rfl) trivial (by kernel_rfl) (by kernel_rfl) ?_
    refine seqQ_norm ?_
    rcases itesome h with ⟨hb_2, h⟩ | ⟨hb_2, h⟩
    · refine Wp.condT (b := (decide (r_4_2 < 0))) (by kernel_rfl) (by kernel_rfl) hb_2 ?_
      refine Wp.seqN (by kernel_rfl) ?_
      refine Wp.reg tiok mix hc (by kernel_rfl) (ah := none) (rs := [some (.no)]) (kt := [4]) (ko := []) (T' := [(4, .bool true)]) (O' := []) (by kernel_rfl) trivial (by kernel_rfl) (by kernel_rfl) ?_
      refine seqQ_norm ?_
      refine Wp.retN (by kernel_rfl) ?_
      refine seqQ_ret ?_
      obtain rfl := Option.some.inj h
      exact RetQ.ret (fl := [true]) (by kernel_rfl)
    · refine Wp.condF (b := (decide (r_4_2 < 0))) (by kernel_rfl) (by kernel_rfl) hb_2 ?_
      refine Wp.skipN (by kernel_rfl) ?_
      refine seqQ_norm ?_
      refine Wp.seqN (by kernel_rfl) ?_
      obtain ⟨r_7_1, hr_7_1, h⟩ := bsome h
      obtain ⟨r_7_3, hr_7_3, h⟩ := bsome h
      obtain ⟨r_7_4, hr_7_4, h⟩ := bsome h
      refine Wp.reg tiok mix hc (by kernel_rfl) (ah := none) (rs := [some (.no), some (.call (.agg [.int .i64 r_7_1.fSize, .osl (List.map I r_7_1.fPlus), .osl (List.map I r_7_1.fTimes), .osl (List.map AV.bool r_7_1.fBelow)]) [] 2), some (.no), some (.call (.osl (List.map I r_7_3)) [] 5), some (.call (.int .i64 r_7_4) [] 1), some (.no)]) (kt := [1, 2, 6]) (ko := [1]) (T' := [(1, .sl (List.map I aTy1)), (2, .ra 1 0), (6, .int .i64 r_7_4)]) (O' := [(1, .box [.int .i64 aS0.fSize, .sl (List.map I aS0.fPlus), .sl (List.map I aS0.fTimes), .sl (List.map AV.bool aS0.fBelow)])]) (by kernel_rfl) (And.intro (laws_toSystem_s _ _ hr_7_1) (And.intro bod_14 (And.intro (Or.inl rfl : ([] : List Nat) = [] ∨ noSh (.agg [.int .i64 r_7_1.fSize, .osl (List.map I r_7_1.fPlus), .osl (List.map I r_7_1.fTimes), .osl (List.map AV.bool r_7_1.fBelow)]) = true) (And.intro (laws_toIntS_s _ _ hr_7_3) (And.intro bod_27 (And.intro (Or.inl rfl : ([] : List Nat) = [] ∨ noSh (.osl (List.map I r_7_3)) = true) (And.intro (FnSound.args (A1 := [.agg [.int .i64 r_7_1.fSize, .sl (shares (List.map I r_7_1.fPlus)), .sl (shares (List.map I r_7_1.fTimes)), .sl (shares (List.map AV.bool r_7_1.fBelow))], .sl (shares (List.map I r_7_3))]) (A2 := [.agg [.int .i64 r_7_1.fSize, .sl (List.map I r_7_1.fPlus), .sl (List.map I r_7_1.fTimes), .sl (List.map AV.bool r_7_1.fBelow)], .sl (List.map I r_7_3)]) (by simp only [List.map_nil, sh_B, sh_I]) (spec_CountValues_s _ _ hr_7_4)) (And.intro bod_26 (And.intro (Or.inr rfl : ([2, 3, 4, 5] : List Nat) = [] ∨ noSh (.int .i64 r_7_4) = true) trivial))))))))) (by kernel_rfl) (by kernel_rfl) ?_
      refine seqQ_norm ?_
      refine Wp.seqN (by kernel_rfl) ?_
      obtain ⟨r_8_1, hr_8_1, h⟩ := bsome h
      refine Wp.reg tiok mix hc (by kernel_rfl) (ah := none) (rs := [some (.no), some (.call (.agg [.int .i64 r_8_1.fSize, .osl (List.map I r_8_1.fPlus), .osl (List.map I r_8_1.fTimes), .osl (List.map AV.bool r_8_1.fBelow)]) [] 6), some (.new 9), some (.no)]) (kt := [1, 2, 6, 7]) (ko := [1, 6, 7, 8, 9]) (T' := [(1, .sl (List.map I aTy1)), (2, .ra 1 0), (6, .int .i64 r_7_4), (7, .ra 9 0)]) (O' := [(1, .box [.int .i64 aS0.fSize, .sl (List.map I aS0.fPlus), .sl (List.map I aS0.fTimes), .sl (List.map AV.bool aS0.fBelow)]), (6, .arr (List.map I r_8_1.fPlus)), (7, .arr (List.map I r_8_1.fTimes)), (8, .arr (List.map AV.bool r_8_1.fBelow)), (9, .box [.int .i64 r_8_1.fSize, .rs 6, .rs 7, .rs 8])]) (by kernel_rfl) (And.intro (laws_toSystem_s _ _ hr_8_1) (And.intro bod_14 (And.intro (Or.inl rfl : ([] : List Nat) = [] ∨ noSh (.agg [.int .i64 r_8_1.fSize, .osl (List.map I r_8_1.fPlus), .osl (List.map I r_8_1.fTimes), .osl (List.map AV.bool r_8_1.fBelow)]) = true) trivial))) (by kernel_rfl) (by kernel_rfl) ?_
      refine seqQ_norm ?_
      refine Wp.seqN (by kernel_rfl) ?_
      obtain ⟨r_9_1, hr_9_1, h⟩ := bsome h
      refine Wp.reg tiok mix hc (by kernel_rfl) (ah := none) (rs := [some (.no), some (.call (.osl (List.map I r_9_1)) [] 10), some (.no)]) (kt := [1, 2, 6, 7, 8]) (ko := [1, 6, 7, 8, 9, 10]) (T' := [(1, .sl (List.map I aTy1)), (2, .ra 1 0), (6, .int .i64 r_7_4), (7, .ra 9 0), (8, .rs 10)]) (O' := [(1, .box [.int .i64 aS0.fSize, .sl (List.map I aS0.fPlus), .sl (List.map I aS0.fTimes), .sl (List.map AV.bool aS0.fBelow)]), (6, .arr (List.map I r_8_1.fPlus)), (7, .arr (List.map I r_8_1.fTimes)), (8, .arr (List.map AV.bool r_8_1.fBelow)), (9, .box [.int .i64 r_8_1.fSize, .rs 6, .rs 7, .rs 8]), (10, .arr (List.map I r_9_1))]) (by kernel_rfl) (And.intro (laws_toIntS_s _ _ hr_9_1) (And.intro bod_27 (And.intro (Or.inl rfl : ([] : List Nat) = [] ∨ noSh (.osl (List.map I r_9_1)) = true) trivial))) (by kernel_rfl) (by kernel_rfl) ?_
      refine seqQ_norm ?_
      refine Wp.seqN (by kernel_rfl) ?_
      obtain ⟨r_10_2, hr_10_2, h⟩ := bsome h
      refine Wp.reg tiok mix hc (by kernel_rfl) (ah := none) (rs := [some (.no), some (.no), some (.call (.int .i64 r_10_2) [] 1), some (.no)]) (kt := [1, 2, 6, 7, 8, 9]) (ko := [1, 6, 7, 8, 9, 10]) (T' := [(1, .sl (List.map I aTy1)), (2, .ra 1 0), (6, .int .i64 r_7_4), (7, .ra 9 0), (8, .rs 10), (9, .int .i64 r_10_2)]) (O' := [(1, .box [.int .i64 aS0.fSize, .sl (List.map I aS0.fPlus), .sl (List.map I aS0.fTimes), .sl (List.map AV.bool aS0.fBelow)]), (6, .arr (List.map I r_8_1.fPlus)), (7, .arr (List.map I r_8_1.fTimes)), (8, .arr (List.map AV.bool r_8_1.fBelow)), (9, .box [.int .i64 r_8_1.fSize, .rs 6, .rs 7, .rs 8]), (10, .arr (List.map I r_9_1))]) (by kernel_rfl) (And.intro (FnSound.args (A1 := [.agg [.int .i64 r_8_1.fSize, .sl (shares (List.map I r_8_1.fPlus)), .sl (shares (List.map I r_8_1.fTimes)), .sl (shares (List.map AV.bool r_8_1.fBelow))], .sl (shares (List.map I r_9_1))]) (A2 := [.agg [.int .i64 r_8_1.fSize, .sl (List.map I r_8_1.fPlus), .sl (List.map I r_8_1.fTimes), .sl (List.map AV.bool r_8_1.fBelow)], .sl (List.map I r_9_1)]) (by simp only [List.map_nil, sh_B, sh_I]) (impl_CountValues_s _ _ hr_10_2)) (And.intro bod_28 (And.intro (Or.inr rfl : ([6, 7, 8, 10] : List Nat) = [] ∨ noSh (.int .i64 r_10_2) = true) trivial))) (by kernel_rfl) (by kernel_rfl) ?_
      refine seqQ_norm ?_
      refine Wp.seqN (by kernel_rfl) ?_
      refine Wp.seqN (by kernel_rfl) ?_
      refine Wp.reg tiok mix hc (by kernel_rfl) (ah := none) (rs := [some (.no), some (.no), some (.no)]) (kt := [1, 2, 7, 8, 32]) (ko := [1, 6, 7, 8, 9, 10]) (T' := [(1, .sl (List.map I aTy1)), (2, .ra 1 0), (7, .ra 9 0), (8, .rs 10), (32, .bool (r_10_2 != r_7_4))]) (O' := [(1, .box [.int .i64 aS0.fSize, .sl (List.map I aS0.fPlus), .sl (List.map I aS0.fTimes), .sl (List.map AV.bool aS0.fBelow)]), (6, .arr (List.map I r_8_1.fPlus)), (7, .arr (List.map I r_8_1.fTimes)), (8, .arr (List.map AV.bool r_8_1.fBelow)), (9, .box [.int .i64 r_8_1.fSize, .rs 6, .rs 7, .rs 8]), (10, .arr (List.map I r_9_1))]) (by kernel_rfl) trivial (by kernel_rfl) (by kernel_rfl) ?_
      refine seqQ_norm ?_
      rcases itesome h with ⟨hb_3, h⟩ | ⟨hb_3, h⟩
      · refine Wp.condT (b := (r_10_2 != r_7_4)) (by kernel_rfl) (by kernel_rfl) hb_3 ?_
        refine Wp.seqN (by kernel_rfl) ?_
        refine Wp.reg tiok mix hc (by kernel_rfl) (ah := none) (rs := [some (.no)]) (kt := [4]) (ko := []) (T' := [(4, .bool false)]) (O' := []) (by kernel_rfl) trivial (by kernel_rfl) (by kernel_rfl) ?_
        refine seqQ_norm ?_
        refine Wp.retN (by kernel_rfl) ?_
        refine seqQ_ret ?_
        obtain rfl := Option.some.inj h
        exact RetQ.ret (fl := [true]) (by kernel_rfl)
      · refine Wp.condF (b := (r_10_2 != r_7_4)) (by kernel_rfl) (by kernel_rfl) hb_3 ?_
        refine Wp.skipN (by kernel_rfl) ?_
        refine seqQ_norm ?_
        refine Wp.seqN (by kernel_rfl) ?_
        refine Wp.seqN (by kernel_rfl) ?_
        obtain ⟨r_13_2, hr_13_2, h⟩ := bsome h
        obtain ⟨r_13_3, hr_13_3, h⟩ := bsome h
        refine Wp.reg tiok mix hc (by kernel_rfl) (ah := (some [[], [], [1], [0, 1, 2], [0, 1, 2, 3]])) (rs := [some (.no), some (.no), some (.call (.agg [.int .i64 r_13_2.fSize, .osl (List.map I r_13_2.fPlus), .osl (List.map I r_13_2.fTimes), .osl (List.map AV.bool r_13_2.fBelow)]) [] 11), some (.call (.bool r_13_3) [] 1), some (.no)]) (kt := [1, 8, 37]) (ko := [10]) (T' := [(1, .sl (List.map I aTy1)), (8, .rs 10), (37, .bool (!r_13_3))]) (O' := [(10, .arr (List.map I r_9_1))]) (by kernel_rfl) (And.intro (laws_toSystem_s _ _ hr_13_2) (And.intro bod_14 (And.intro (Or.inl rfl : ([] : List Nat) = [] ∨ noSh (.agg [.int .i64 r_13_2.fSize, .osl (List.map I r_13_2.fPlus), .osl (List.map I r_13_2.fTimes), .osl (List.map AV.bool r_13_2.fBelow)]) = true) (And.intro (FnSound.args (A1 := [.agg [.int .i64 r_8_1.fSize, .sl (shares (List.map I r_8_1.fPlus)), .sl (shares (List.map I r_8_1.fTimes)), .sl (shares (List.map AV.bool r_8_1.fBelow))], .agg [.int .i64 r_13_2.fSize, .sl (shares (List.map I r_13_2.fPlus)), .sl (shares (List.map I r_13_2.fTimes)), .sl (shares (List.map AV.bool r_13_2.fBelow))]]) (A2 := [.agg [.int .i64 r_8_1.fSize, .sl (List.map I r_8_1.fPlus), .sl (List.map I r_8_1.fTimes), .sl (List.map AV.bool r_8_1.fBelow)], .agg [.int .i64 r_13_2.fSize, .sl (List.map I r_13_2.fPlus), .sl (List.map I r_13_2.fTimes), .sl (List.map AV.bool r_13_2.fBelow)]]) (by simp only [List.map_nil, sh_B, sh_I]) (laws_eqSystem_s _ _ hr_13_3)) (And.intro bod_17 (And.intro (Or.inr rfl : ([6, 7, 8, 11, 12, 13] : List Nat) = [] ∨ noSh (.bool r_13_3) = true) trivial)))))) (by kernel_rfl) (by kernel_rfl) ?_
        refine seqQ_norm ?_
        rcases itesome h with ⟨hb_4, h⟩ | ⟨hb_4, h⟩
        · refine Wp.condF (b := (!r_13_3)) (by kernel_rfl) (by kernel_rfl) (nF hb_4) ?_
          refine Wp.skipN (by kernel_rfl) ?_
          refine seqQ_norm ?_
          refine Wp.seqN (by kernel_rfl) ?_
          refine Wp.seqN (by kernel_rfl) ?_
          obtain ⟨r_15_2, hr_15_2, h⟩ := bsome h
          obtain ⟨r_15_3, hr_15_3, h⟩ := bsome h
          refine Wp.reg tiok mix hc (by kernel_rfl) (ah := none) (rs := [some (.no), some (.no), some (.call (.osl (List.map I r_15_2)) [] 14), some (.call (.bool r_15_3) [] 1), some (.no)]) (kt := [42]) (ko := []) (T' := [(42, .bool (!r_15_3))]) (O' := []) (by kernel_rfl) (And.intro (laws_toIntS_s _ _ hr_15_2) (And.intro bod_27 (And.intro (Or.inl rfl : ([] : List Nat) = [] ∨ noSh (.osl (List.map I r_15_2)) = true) (And.intro (FnSound.args (A1 := [.sl (shares (List.map I r_9_1)), .sl (shares (List.map I r_15_2))]) (A2 := [.sl (List.map I r_9_1), .sl (List.map I r_15_2)]) (by simp only [List.map_nil, sh_I]) (laws_eqIntS_s _ _ hr_15_3)) (And.intro bod_29 (And.intro (Or.inr rfl : ([10, 14] : List Nat) = [] ∨ noSh (.bool r_15_3) = true) trivial)))))) (by kernel_rfl) (by kernel_rfl) ?_
          refine seqQ_norm ?_
          rcases itesome h with ⟨hb_5, h⟩ | ⟨hb_5, h⟩
          · refine Wp.condF (b := (!r_15_3)) (by kernel_rfl) (by kernel_rfl) (nF hb_5) ?_
            refine Wp.skipN (by kernel_rfl) ?_
            refine seqQ_norm ?_
            refine Wp.seqN (by kernel_rfl) ?_
            refine Wp.reg tiok mix hc (by kernel_rfl) (ah := none) (rs := [some (.no)]) (kt := [4]) (ko := []) (T' := [(4, .bool true)]) (O' := []) (by kernel_rfl) trivial (by kernel_rfl) (by kernel_rfl) ?_
            refine seqQ_norm ?_
            refine Wp.retN (by kernel_rfl) ?_
            obtain rfl := Option.some.inj h
            exact RetQ.ret (fl := [true]) (by kernel_rfl)
          · refine Wp.condT (b := (!r_15_3)) (by kernel_rfl) (by kernel_rfl) (nT hb_5) ?_
            refine Wp.seqN (by kernel_rfl) ?_
            refine Wp.reg tiok mix hc (by kernel_rfl) (ah := none) (rs := [some (.no)]) (kt := [4]) (ko := []) (T' := [(4, .bool false)]) (O' := []) (by kernel_rfl) trivial (by kernel_rfl) (by kernel_rfl) ?_
            refine seqQ_norm ?_
            refine Wp.retN (by kernel_rfl) ?_
            refine seqQ_ret ?_
            obtain rfl := Option.some.inj h
            exact RetQ.ret (fl := [true]) (by kernel_rfl)
        · refine Wp.condT (b := (!r_13_3)) (by kernel_rfl) (by kernel_rfl) (nT hb_4) ?_
          refine Wp.seqN (by kernel_rfl) ?_
          refine Wp.reg tiok mix hc (by kernel_rfl) (ah := none) (rs := [some (.no)]) (kt := [4]) (ko := []) (T' := [(4, .bool false)]) (O' := []) (by kernel_rfl) trivial (by kernel_rfl) (by kernel_rfl) ?_
          refine seqQ_norm ?_
          refine Wp.retN (by kernel_rfl) ?_
          refine seqQ_ret ?_
          obtain rfl := Option.some.inj h
          exact RetQ.ret (fl := [true]) (by kernel_rfl)
end Go.Am
