/- Functions of the program as pure functions, and that it computes them. Printed by a program of mine (gen.py). -/
import Derived.Test.YtfakfcaegabgaaaGVAF5
set_option linter.unusedVariables false
set_option linter.unusedSimpArgs false
set_option maxRecDepth 100000
namespace Go.Am
open Go Go.Proofs
def laws_FnExactValueAt (p : GSystem × (List Int) × Int) : Option (Bool) :=
  match p with
  | (aS0, aTy1, aK2) =>
    if (decide ((aTy1.length : Int) > 1048576)) = true then
      some true
    else
      (laws_szSystem (aS0, 1048576)) >>= fun r_4_2 =>
      if (decide (r_4_2 < 0)) = true then
        some true
      else
        (laws_toSystem aS0) >>= fun r_7_1 =>
        (laws_toIntS aTy1) >>= fun r_7_3 =>
        (spec_ValueAt (r_7_1, r_7_3, aK2)) >>= fun (r_7_5_0, r_7_5_1) =>
        (laws_toSystem aS0) >>= fun r_8_1 =>
        (laws_toIntS aTy1) >>= fun r_9_1 =>
        (impl_ValueAt (r_8_1, r_9_1, aK2)) >>= fun (r_10_3_0, r_10_3_1) =>
        (
          (laws_eqTerm (r_10_3_0, r_7_5_0)) >>= fun r_11_2 =>
          if r_11_2 = true then
            some ((!(r_10_3_1 == r_7_5_1)))
          else
            some (true)
        ) >>= fun v_3 =>
        if v_3 = true then
          some false
        else
          (laws_toSystem aS0) >>= fun r_13_2 =>
          (laws_eqSystem (r_8_1, r_13_2)) >>= fun r_13_3 =>
          if r_13_3 = true then
            (laws_toIntS aTy1) >>= fun r_15_2 =>
            (laws_eqIntS (r_9_1, r_15_2)) >>= fun r_15_3 =>
            if r_15_3 = true then
              (laws_markSystem (r_8_1, 1)) >>= fun (r_18_2, o_18_2_0) =>
              (laws_markIntS (r_9_1, r_18_2)) >>= fun (r_19_2, o_19_2_0) =>
              (
                if (decide (r_19_2 < 0)) = true then
                  some (true)
                else
                  (laws_eqTerm (r_10_3_0, r_7_5_0)) >>= fun r_20_5 =>
                  if r_20_5 = true then
                    some ((!(r_10_3_1 == r_7_5_1)))
                  else
                    some (true)
              ) >>= fun v_8 =>
              if v_8 = true then
                some false
              else
                (laws_markTerm (r_10_3_0, 1)) >>= fun (r_23_2, o_23_2_0) =>
                (laws_heldTerm ((GTerm.mk r_10_3_0.fOp r_10_3_0.fN o_23_2_0.fType o_23_2_0.fKids), 1)) >>= fun r_25_2 =>
                if (decide (r_25_2 < 0)) = true then
                  some false
                else
                  if (r_25_2 != r_23_2) = true then
                    some false
                  else
                    (laws_toSystem aS0) >>= fun r_30_1 =>
                    (laws_toIntS aTy1) >>= fun r_30_3 =>
                    (impl_ValueAt (r_30_1, r_30_3, aK2)) >>= fun (r_30_5_0, r_30_5_1) =>
                    (
                      (laws_eqTerm (r_30_5_0, r_7_5_0)) >>= fun r_31_2 =>
                      if r_31_2 = true then
                        some ((!(r_30_5_1 == r_7_5_1)))
                      else
                        some (true)
                    ) >>= fun v_13 =>
                    if v_13 = true then
                      some false
                    else
                      (laws_heldTerm ((GTerm.mk r_10_3_0.fOp r_10_3_0.fN o_23_2_0.fType o_23_2_0.fKids), 1)) >>= fun r_34_2 =>
                      if (decide (r_34_2 < 0)) = true then
                        some false
                      else
                        if (r_34_2 != r_23_2) = true then
                          some false
                        else
                          some true
            else
              some false
          else
            some false
def M_laws_FnExactValueAt (p : GSystem × (List Int) × Int) (r : Bool) : Prop :=
  match p with
  | (aS0, aTy1, aK2) => FnSound Try.prog 7 [.agg [.int .i64 aS0.fSize, .sl (List.map I aS0.fPlus), .sl (List.map I aS0.fTimes), .sl (List.map AV.bool aS0.fBelow)], .sl (List.map I aTy1), .int .i64 aK2] (.bool r) []
theorem laws_FnExactValueAt_s : ∀ p r, laws_FnExactValueAt p = some r → M_laws_FnExactValueAt p r := by
  rintro ⟨aS0, aTy1, aK2⟩ r h
  unfold laws_FnExactValueAt at h
  show FnSound Try.prog 7 [.agg [.int .i64 aS0.fSize, .sl (List.map I aS0.fPlus), .sl (List.map I aS0.fTimes), .sl (List.map AV.bool aS0.fBelow)], .sl (List.map I aTy1), .int .i64 aK2] (.bool r) []
  refine FnSound.body0 tiok (fn := Try.f7) (code := B7) (by kernel_rfl) (by kernel_rfl) (by kernel_rfl) (by kernel_rfl) (nt := 122) (by kernel_rfl) (by kernel_rfl) (T := [(0, .agg [.int .i64 aS0.fSize, .sl (List.map I aS0.fPlus), .sl (List.map I aS0.fTimes), .sl (List.map AV.bool aS0.fBelow)]), (1, .sl (List.map I aTy1)), (2, .int .i64 aK2)]) (O := []) (by kernel_rfl) (by kernel_rfl) (fun c hc => ?_)
  refine Wp.seqN (by kernel_rfl) ?_
  refine Wp.reg tiok mix hc (by kernel_rfl) (ah := none) (rs := [some (.new 1), some (.no)]) (kt := [1, 2, 3]) (ko := [1]) (T' := [(1, .sl (List.map I aTy1)), (2, .int .i64 aK2), (3, .ra 1 0)]) (O' := [(1, .box [.int .i64 aS0.fSize, .sl (List.map I aS0.fPlus), .sl (List.map I aS0.fTimes), .sl (List.map AV.bool aS0.fBelow)])]) (by kernel_rfl) trivial (by kernel_rfl) (by kernel_rfl) ?_
  refine seqQ_norm ?_
  refine Wp.seqN (by kernel_rfl) ?_
  refine Wp.seqN (by kernel_rfl) ?_
  refine Wp.reg tiok mix hc (by kernel_rfl) (ah := none) (rs := [some (.no), some (.eqv (.no) ⟨[(20, .int .i64 (aTy1.length : Int))], [], []⟩), some (.no)]) (kt := [1, 2, 3, 21]) (ko := [1]) (T' := [(1, .sl (List.map I aTy1)), (2, .int .i64 aK2), (3, .ra 1 0), (21, .bool (decide ((aTy1.length : Int) > 1048576)))]) (O' := [(1, .box [.int .i64 aS0.fSize, .sl (List.map I aS0.fPlus), .sl (List.map I aS0.fTimes), .sl (List.map AV.bool aS0.fBelow)])]) (by kernel_rfl) (And.intro (lenT (d := 20) I aTy1) trivial) (by kernel_rfl) (by kernel_rfl) ?_
  refine seqQ_norm ?_
  rcases itesome h with ⟨hb_1, h⟩ | ⟨hb_1, h⟩
  · refine Wp.condT (b := (decide ((aTy1.length : Int) > 1048576))) (by kernel_rfl) (by kernel_rfl) hb_1 ?_
    refine Wp.seqN (by kernel_rfl) ?_
    refine Wp.reg tiok mix hc (by kernel_rfl) (ah := none) (rs := [some (.no)]) (kt := [6]) (ko := []) (T' := [(6, .bool true)]) (O' := []) (by kernel_rfl) trivial (by kernel_rfl) (by kernel_rfl) ?_
    refine seqQ_norm ?_
    refine Wp.retN (by kernel_rfl) ?_
    refine seqQ_ret ?_
    obtain rfl := Option.some.inj h
    exact RetQ.ret (fl := [true]) (by kernel_rfl)
  · refine Wp.condF (b := (decide ((aTy1.length : Int) > 1048576))) (by kernel_rfl) (by kernel_rfl) hb_1 ?_
    refine Wp.skipN (by kernel_rfl) ?_
    refine seqQ_norm ?_
    refine Wp.seqN (by kernel_rfl) ?_
    refine Wp.reg tiok mix hc (by kernel_rfl) (ah := none) (rs := [some (.no)]) (kt := [1, 2, 3, 7]) (ko := [1]) (T' := [(1, .sl (List.map I aTy1)), (2, .int .i64 aK2), (3, .ra 1 0), (7, .int .i64 1048576)]) (O' := [(1, .box [.int .i64 aS0.fSize, .sl (List.map I aS0.fPlus), .sl (List.map I aS0.fTimes), .sl (List.map AV.bool aS0.fBelow)])]) (by kernel_rfl) trivial (by kernel_rfl) (by kernel_rfl) ?_
    refine seqQ_norm ?_
    refine Wp.seqN (by kernel_rfl) ?_
    obtain ⟨r_4_2, hr_4_2, h⟩ := bsome h
    refine Wp.reg tiok mix hc (by kernel_rfl) (ah := none) (rs := [some (.no), some (.no), some (.call (.int .i64 r_4_2) [] 1), some (.no)]) (kt := [1, 2, 3, 7]) (ko := [1]) (T' := [(1, .sl (List.map I aTy1)), (2, .int .i64 aK2), (3, .ra 1 0), (7, .int .i64 r_4_2)]) (O' := [(1, .box [.int .i64 aS0.fSize, .sl (List.map I aS0.fPlus), .sl (List.map I aS0.fTimes), .sl (List.map AV.bool aS0.fBelow)])]) (by kernel_rfl) (And.intro (laws_szSystem_s _ _ hr_4_2) (And.intro bod_11 (And.intro (Or.inl rfl : ([] : List Nat) = [] ∨ noSh (.int .i64 r_4_2) = true) trivial))) (by kernel_rfl) (by kernel_rfl) ?_
    refine seqQ_norm ?_
    refine Wp.seqN (by kernel_rfl) ?_
    refine Wp.seqN (by kernel_rfl) ?_
    refine Wp.reg tiok mix hc (by kernel_rfl) (ah := none) (rs := [some (.no), some (.no)]) (kt := [1, 2, 3, 26]) (ko := [1]) (T' := [(1, .sl (List.map I aTy1)), (2, .int .i64 aK2), (3, .ra 1 0), (26, .bool (decide (r_4_2 < 0)))]) (O' := [(1, .box [.int .i64 aS0.fSize, .sl (List.map I aS0.fPlus), .sl (List.map I aS0.fTimes), .sl (List.map AV.bool aS0.fBelow)])]) (by kernel_rfl) trivial (by kernel_rfl) (by kernel_rfl) ?_
    refine seqQ_norm ?_
    rcases itesome h with ⟨hb_2, h⟩ | ⟨hb_2, h⟩
    · refine Wp.condT (b := (decide (r_4_2 < 0))) (by kernel_rfl) (by kernel_rfl) hb_2 ?_
      refine Wp.seqN (by kernel_rfl) ?_
      refine Wp.reg tiok mix hc (by kernel_rfl) (ah := none) (rs := [some (.no)]) (kt := [6]) (ko := []) (T' := [(6, .bool true)]) (O' := []) (by kernel_rfl) trivial (by kernel_rfl) (by kernel_rfl) ?_
      refine seqQ_norm ?_
      refine Wp.retN (by kernel_rfl) ?_
      refine seqQ_ret ?_
      obtain rfl := Option.some.inj h
      exact RetQ.ret (fl := [true]) (by kernel_rfl)
    · refine Wp.condF (b := (decide (r_4_2 < 0))) (by kernel_rfl) (by kernel_rfl) hb_2 ?_
      refine Wp.skipN (by kernel_rfl) ?_
      refine seqQ_norm ?_
      refine Wp.seqN (by kernel_rfl) ?_
      obtain ⟨r_7_1, hr_7_1, h⟩ := bsome h
      obtain ⟨r_7_3, hr_7_3, h⟩ := bsome h
      obtain ⟨⟨r_7_5_0, r_7_5_1⟩, hr_7_5, h⟩ := bsome h
      refine Wp.reg tiok mix hc (by kernel_rfl) (ah := none) (rs := [some (.no), some (.call (.agg [.int .i64 r_7_1.fSize, .osl (List.map I r_7_1.fPlus), .osl (List.map I r_7_1.fTimes), .osl (List.map AV.bool r_7_1.fBelow)]) [] 2), some (.no), some (.call (.osl (List.map I r_7_3)) [] 5), some (.no), some (.call (.tup [.agg [.int .i64 r_7_5_0.fOp, .int .i64 r_7_5_0.fN, .osl (List.map I r_7_5_0.fType), .osl (List.map GTerm_O r_7_5_0.fKids)], .bool r_7_5_1]) [] 6), some (.no), some (.no), some (.no), some (.new 8), some (.no), some (.no)]) (kt := [1, 2, 3, 8, 9]) (ko := [1, 6, 7, 8]) (T' := [(1, .sl (List.map I aTy1)), (2, .int .i64 aK2), (3, .ra 1 0), (8, .ra 8 0), (9, .bool r_7_5_1)]) (O' := [(1, .box [.int .i64 aS0.fSize, .sl (List.map I aS0.fPlus), .sl (List.map I aS0.fTimes), .sl (List.map AV.bool aS0.fBelow)]), (6, .arr (List.map I r_7_5_0.fType)), (7, .arr (List.map GTerm_O r_7_5_0.fKids)), (8, .box [.int .i64 r_7_5_0.fOp, .int .i64 r_7_5_0.fN, .rs 6, .rs 7])]) (by kernel_rfl) (And.intro (laws_toSystem_s _ _ hr_7_1) (And.intro bod_13 (And.intro (Or.inl rfl : ([] : List Nat) = [] ∨ noSh (.agg [.int .i64 r_7_1.fSize, .osl (List.map I r_7_1.fPlus), .osl (List.map I r_7_1.fTimes), .osl (List.map AV.bool r_7_1.fBelow)]) = true) (And.intro (laws_toIntS_s _ _ hr_7_3) (And.intro bod_14 (And.intro (Or.inl rfl : ([] : List Nat) = [] ∨ noSh (.osl (List.map I r_7_3)) = true) (And.intro (FnSound.args (A1 := [.agg [.int .i64 r_7_1.fSize, .sl (shares (List.map I r_7_1.fPlus)), .sl (shares (List.map I r_7_1.fTimes)), .sl (shares (List.map AV.bool r_7_1.fBelow))], .sl (shares (List.map I r_7_3)), .int .i64 aK2]) (A2 := [.agg [.int .i64 r_7_1.fSize, .sl (List.map I r_7_1.fPlus), .sl (List.map I r_7_1.fTimes), .sl (List.map AV.bool r_7_1.fBelow)], .sl (List.map I r_7_3), .int .i64 aK2]) (by simp only [List.map_nil, sh_B, sh_I]) (spec_ValueAt_s _ _ hr_7_5)) (And.intro bod_31 (And.intro (Or.inr (nsh_cons (nsh_cons rfl (nsh_cons rfl (nsh_cons (nsh_row nsh_I r_7_5_0.fType) (nsh_cons (nsh_row nsh_GTerm_O r_7_5_0.fKids) rfl)))) (nsh_cons rfl rfl)) : ([2, 3, 4, 5] : List Nat) = [] ∨ noSh (.tup [.agg [.int .i64 r_7_5_0.fOp, .int .i64 r_7_5_0.fN, .osl (List.map I r_7_5_0.fType), .osl (List.map GTerm_O r_7_5_0.fKids)], .bool r_7_5_1]) = true) trivial))))))))) (by kernel_rfl) (by kernel_rfl) ?_
      refine seqQ_norm ?_
      refine Wp.seqN (by kernel_rfl) ?_
      obtain ⟨r_8_1, hr_8_1, h⟩ := bsome h
      refine Wp.reg tiok mix hc (by kernel_rfl) (ah := none) (rs := [some (.no), some (.call (.agg [.int .i64 r_8_1.fSize, .osl (List.map I r_8_1.fPlus), .osl (List.map I r_8_1.fTimes), .osl (List.map AV.bool r_8_1.fBelow)]) [] 9), some (.new 12), some (.no)]) (kt := [1, 2, 3, 8, 9, 10]) (ko := [1, 6, 7, 8, 9, 10, 11, 12]) (T' := [(1, .sl (List.map I aTy1)), (2, .int .i64 aK2), (3, .ra 1 0), (8, .ra 8 0), (9, .bool r_7_5_1), (10, .ra 12 0)]) (O' := [(1, .box [.int .i64 aS0.fSize, .sl (List.map I aS0.fPlus), .sl (List.map I aS0.fTimes), .sl (List.map AV.bool aS0.fBelow)]), (6, .arr (List.map I r_7_5_0.fType)), (7, .arr (List.map GTerm_O r_7_5_0.fKids)), (8, .box [.int .i64 r_7_5_0.fOp, .int .i64 r_7_5_0.fN, .rs 6, .rs 7]), (9, .arr (List.map I r_8_1.fPlus)), (10, .arr (List.map I r_8_1.fTimes)), (11, .arr (List.map AV.bool r_8_1.fBelow)), (12, .box [.int .i64 r_8_1.fSize, .rs 9, .rs 10, .rs 11])]) (by kernel_rfl) (And.intro (laws_toSystem_s _ _ hr_8_1) (And.intro bod_13 (And.intro (Or.inl rfl : ([] : List Nat) = [] ∨ noSh (.agg [.int .i64 r_8_1.fSize, .osl (List.map I r_8_1.fPlus), .osl (List.map I r_8_1.fTimes), .osl (List.map AV.bool r_8_1.fBelow)]) = true) trivial))) (by kernel_rfl) (by kernel_rfl) ?_
      refine seqQ_norm ?_
      refine Wp.seqN (by kernel_rfl) ?_
      obtain ⟨r_9_1, hr_9_1, h⟩ := bsome h
      refine Wp.reg tiok mix hc (by kernel_rfl) (ah := none) (rs := [some (.no), some (.call (.osl (List.map I r_9_1)) [] 13), some (.no)]) (kt := [1, 2, 3, 8, 9, 10, 11]) (ko := [1, 6, 7, 8, 9, 10, 11, 12, 13]) (T' := [(1, .sl (List.map I aTy1)), (2, .int .i64 aK2), (3, .ra 1 0), (8, .ra 8 0), (9, .bool r_7_5_1), (10, .ra 12 0), (11, .rs 13)]) (O' := [(1, .box [.int .i64 aS0.fSize, .sl (List.map I aS0.fPlus), .sl (List.map I aS0.fTimes), .sl (List.map AV.bool aS0.fBelow)]), (6, .arr (List.map I r_7_5_0.fType)), (7, .arr (List.map GTerm_O r_7_5_0.fKids)), (8, .box [.int .i64 r_7_5_0.fOp, .int .i64 r_7_5_0.fN, .rs 6, .rs 7]), (9, .arr (List.map I r_8_1.fPlus)), (10, .arr (List.map I r_8_1.fTimes)), (11, .arr (List.map AV.bool r_8_1.fBelow)), (12, .box [.int .i64 r_8_1.fSize, .rs 9, .rs 10, .rs 11]), (13, .arr (List.map I r_9_1))]) (by kernel_rfl) (And.intro (laws_toIntS_s _ _ hr_9_1) (And.intro bod_14 (And.intro (Or.inl rfl : ([] : List Nat) = [] ∨ noSh (.osl (List.map I r_9_1)) = true) trivial))) (by kernel_rfl) (by kernel_rfl) ?_
      refine seqQ_norm ?_
      refine Wp.seqN (by kernel_rfl) ?_
      obtain ⟨⟨r_10_3_0, r_10_3_1⟩, hr_10_3, h⟩ := bsome h
      refine Wp.reg tiok mix hc (by kernel_rfl) (ah := none) (rs := [some (.no), some (.no), some (.no), some (.call (.tup [.agg [.int .i64 r_10_3_0.fOp, .int .i64 r_10_3_0.fN, .osl (List.map I r_10_3_0.fType), .osl (List.map GTerm_O r_10_3_0.fKids)], .bool r_10_3_1]) [] 14), some (.no), some (.no), some (.no), some (.new 16), some (.no), some (.no)]) (kt := [1, 2, 3, 8, 9, 10, 11, 12, 13]) (ko := [1, 6, 7, 8, 9, 10, 11, 12, 13, 14, 15, 16]) (T' := [(1, .sl (List.map I aTy1)), (2, .int .i64 aK2), (3, .ra 1 0), (8, .ra 8 0), (9, .bool r_7_5_1), (10, .ra 12 0), (11, .rs 13), (12, .ra 16 0), (13, .bool r_10_3_1)]) (O' := [(1, .box [.int .i64 aS0.fSize, .sl (List.map I aS0.fPlus), .sl (List.map I aS0.fTimes), .sl (List.map AV.bool aS0.fBelow)]), (6, .arr (List.map I r_7_5_0.fType)), (7, .arr (List.map GTerm_O r_7_5_0.fKids)), (8, .box [.int .i64 r_7_5_0.fOp, .int .i64 r_7_5_0.fN, .rs 6, .rs 7]), (9, .arr (List.map I r_8_1.fPlus)), (10, .arr (List.map I r_8_1.fTimes)), (11, .arr (List.map AV.bool r_8_1.fBelow)), (12, .box [.int .i64 r_8_1.fSize, .rs 9, .rs 10, .rs 11]), (13, .arr (List.map I r_9_1)), (14, .arr (List.map I r_10_3_0.fType)), (15, .arr (List.map GTerm_O r_10_3_0.fKids)), (16, .box [.int .i64 r_10_3_0.fOp, .int .i64 r_10_3_0.fN, .rs 14, .rs 15])]) (by kernel_rfl) (And.intro (FnSound.args (A1 := [.agg [.int .i64 r_8_1.fSize, .sl (shares (List.map I r_8_1.fPlus)), .sl (shares (List.map I r_8_1.fTimes)), .sl (shares (List.map AV.bool r_8_1.fBelow))], .sl (shares (List.map I r_9_1)), .int .i64 aK2]) (A2 := [.agg [.int .i64 r_8_1.fSize, .sl (List.map I r_8_1.fPlus), .sl (List.map I r_8_1.fTimes), .sl (List.map AV.bool r_8_1.fBelow)], .sl (List.map I r_9_1), .int .i64 aK2]) (by simp only [List.map_nil, sh_B, sh_I]) (impl_ValueAt_s _ _ hr_10_3)) (And.intro bod_32 (And.intro (Or.inr (nsh_cons (nsh_cons rfl (nsh_cons rfl (nsh_cons (nsh_row nsh_I r_10_3_0.fType) (nsh_cons (nsh_row nsh_GTerm_O r_10_3_0.fKids) rfl)))) (nsh_cons rfl rfl)) : ([9, 10, 11, 13] : List Nat) = [] ∨ noSh (.tup [.agg [.int .i64 r_10_3_0.fOp, .int .i64 r_10_3_0.fN, .osl (List.map I r_10_3_0.fType), .osl (List.map GTerm_O r_10_3_0.fKids)], .bool r_10_3_1]) = true) trivial))) (by kernel_rfl) (by kernel_rfl) ?_
      refine seqQ_norm ?_
      refine Wp.seqN (by kernel_rfl) ?_
      refine Wp.seqN (by kernel_rfl) ?_
      obtain ⟨v_3, hj_4, h⟩ := bsome h
      refine Wp.into (x := .normal) (mkS [(1, .sl (List.map I aTy1)), (2, .int .i64 aK2), (3, .ra 1 0), (8, .ra 8 0), (9, .bool r_7_5_1), (10, .ra 12 0), (11, .rs 13), (12, .ra 16 0), (13, .bool r_10_3_1), (55, .bool v_3)] [(1, .box [.int .i64 aS0.fSize, .sl (List.map I aS0.fPlus), .sl (List.map I aS0.fTimes), .sl (List.map AV.bool aS0.fBelow)]), (6, .arr (List.map I r_7_5_0.fType)), (7, .arr (List.map GTerm_O r_7_5_0.fKids)), (8, .box [.int .i64 r_7_5_0.fOp, .int .i64 r_7_5_0.fN, .rs 6, .rs 7]), (9, .arr (List.map I r_8_1.fPlus)), (10, .arr (List.map I r_8_1.fTimes)), (11, .arr (List.map AV.bool r_8_1.fBelow)), (12, .box [.int .i64 r_8_1.fSize, .rs 9, .rs 10, .rs 11]), (13, .arr (List.map I r_9_1)), (14, .arr (List.map I r_10_3_0.fType)), (15, .arr (List.map GTerm_O r_10_3_0.fKids)), (16, .box [.int .i64 r_10_3_0.fOp, .int .i64 r_10_3_0.fN, .rs 14, .rs 15])]) ?_ ?_
      · replace h := hj_4
        obtain ⟨r_11_2, hr_11_2, h⟩ := bsome h
        rcases itesome h with ⟨hb_11_0, h⟩ | ⟨hb_11_0, h⟩
        · refine Wp.reg tiok mix hc (by kernel_rfl) (ah := none) (rs := [some (.no), some (.no), some (.call (.bool r_11_2) [] 1), some (.no), some (.no), some (.no), some (.no), some (.no), some (.cond false)]) (kt := [1, 2, 3, 8, 9, 10, 11, 12, 13, 55]) (ko := [1, 6, 7, 8, 9, 10, 11, 12, 13, 14, 15, 16]) (T' := [(1, .sl (List.map I aTy1)), (2, .int .i64 aK2), (3, .ra 1 0), (8, .ra 8 0), (9, .bool r_7_5_1), (10, .ra 12 0), (11, .rs 13), (12, .ra 16 0), (13, .bool r_10_3_1), (55, .bool (!(r_10_3_1 == r_7_5_1)))]) (O' := [(1, .box [.int .i64 aS0.fSize, .sl (List.map I aS0.fPlus), .sl (List.map I aS0.fTimes), .sl (List.map AV.bool aS0.fBelow)]), (6, .arr (List.map I r_7_5_0.fType)), (7, .arr (List.map GTerm_O r_7_5_0.fKids)), (8, .box [.int .i64 r_7_5_0.fOp, .int .i64 r_7_5_0.fN, .rs 6, .rs 7]), (9, .arr (List.map I r_8_1.fPlus)), (10, .arr (List.map I r_8_1.fTimes)), (11, .arr (List.map AV.bool r_8_1.fBelow)), (12, .box [.int .i64 r_8_1.fSize, .rs 9, .rs 10, .rs 11]), (13, .arr (List.map I r_9_1)), (14, .arr (List.map I r_10_3_0.fType)), (15, .arr (List.map GTerm_O r_10_3_0.fKids)), (16, .box [.int .i64 r_10_3_0.fOp, .int .i64 r_10_3_0.fN, .rs 14, .rs 15])]) (by kernel_rfl) (And.intro (FnSound.args (A1 := [.agg [.int .i64 r_10_3_0.fOp, .int .i64 r_10_3_0.fN, .sl (shares (List.map I r_10_3_0.fType)), .sl (shares (List.map GTerm_O r_10_3_0.fKids))], .agg [.int .i64 r_7_5_0.fOp, .int .i64 r_7_5_0.fN, .sl (shares (List.map I r_7_5_0.fType)), .sl (shares (List.map GTerm_O r_7_5_0.fKids))]]) (A2 := [.agg [.int .i64 r_10_3_0.fOp, .int .i64 r_10_3_0.fN, .sl (List.map I r_10_3_0.fType), .sl (List.map GTerm_S r_10_3_0.fKids)], .agg [.int .i64 r_7_5_0.fOp, .int .i64 r_7_5_0.fN, .sl (List.map I r_7_5_0.fType), .sl (List.map GTerm_S r_7_5_0.fKids)]]) (by simp only [List.map_nil, sh_GTerm_O, sh_I]) (laws_eqTerm_s _ _ hr_11_2)) (And.intro bod_16 (And.intro (Or.inr rfl : ([14, 15, 6, 7] : List Nat) = [] ∨ noSh (.bool r_11_2) = true) (And.intro (nF hb_11_0) (And.intro (nF hb_11_0) (And.intro (nF hb_11_0) (And.intro (nF hb_11_0) trivial))))))) (by kernel_rfl) (by kernel_rfl) ?_
          obtain rfl := Option.some.inj h
          exact Into.mk
        · refine Wp.reg tiok mix hc (by kernel_rfl) (ah := none) (rs := [some (.no), some (.no), some (.call (.bool r_11_2) [] 1), some (.no), some (.no), none, none, none, some (.cond true)]) (kt := [1, 2, 3, 8, 9, 10, 11, 12, 13, 55]) (ko := [1, 6, 7, 8, 9, 10, 11, 12, 13, 14, 15, 16]) (T' := [(1, .sl (List.map I aTy1)), (2, .int .i64 aK2), (3, .ra 1 0), (8, .ra 8 0), (9, .bool r_7_5_1), (10, .ra 12 0), (11, .rs 13), (12, .ra 16 0), (13, .bool r_10_3_1), (55, .bool true)]) (O' := [(1, .box [.int .i64 aS0.fSize, .sl (List.map I aS0.fPlus), .sl (List.map I aS0.fTimes), .sl (List.map AV.bool aS0.fBelow)]), (6, .arr (List.map I r_7_5_0.fType)), (7, .arr (List.map GTerm_O r_7_5_0.fKids)), (8, .box [.int .i64 r_7_5_0.fOp, .int .i64 r_7_5_0.fN, .rs 6, .rs 7]), (9, .arr (List.map I r_8_1.fPlus)), (10, .arr (List.map I r_8_1.fTimes)), (11, .arr (List.map AV.bool r_8_1.fBelow)), (12, .box [.int .i64 r_8_1.fSize, .rs 9, .rs 10, .rs 11]), (13, .arr (List.map I r_9_1)), (14, .arr (List.map I r_10_3_0.fType)), (15, .arr (List.map GTerm_O r_10_3_0.fKids)), (16, .box [.int .i64 r_10_3_0.fOp, .int .i64 r_10_3_0.fN, .rs 14, .rs 15])]) (by kernel_rfl) (And.intro (FnSound.args (A1 := [.agg [.int .i64 r_10_3_0.fOp, .int .i64 r_10_3_0.fN, .sl (shares (List.map I r_10_3_0.fType)), .sl (shares (List.map GTerm_O r_10_3_0.fKids))], .agg [.int .i64 r_7_5_0.fOp, .int .i64 r_7_5_0.fN, .sl (shares (List.map I r_7_5_0.fType)), .sl (shares (List.map GTerm_O r_7_5_0.fKids))]]) (A2 := [.agg [.int .i64 r_10_3_0.fOp, .int .i64 r_10_3_0.fN, .sl (List.map I r_10_3_0.fType), .sl (List.map GTerm_S r_10_3_0.fKids)], .agg [.int .i64 r_7_5_0.fOp, .int .i64 r_7_5_0.fN, .sl (List.map I r_7_5_0.fType), .sl (List.map GTerm_S r_7_5_0.fKids)]]) (by simp only [List.map_nil, sh_GTerm_O, sh_I]) (laws_eqTerm_s _ _ hr_11_2)) (And.intro bod_16 (And.intro (Or.inr rfl : ([14, 15, 6, 7] : List Nat) = [] ∨ noSh (.bool r_11_2) = true) (And.intro (neF (nT hb_11_0) : (!r_11_2) ≠ false) (And.intro (neF (nT hb_11_0) : (!r_11_2) ≠ false) (And.intro (neF (nT hb_11_0) : (!r_11_2) ≠ false) (And.intro (nT hb_11_0) trivial))))))) (by kernel_rfl) (by kernel_rfl) ?_
          obtain rfl := Option.some.inj h
          exact Into.mk
      · clear hj_4
        refine seqQ_norm ?_
        rcases itesome h with ⟨hb_5, h⟩ | ⟨hb_5, h⟩
        · refine Wp.condT (b := v_3) (by kernel_rfl) (by kernel_rfl) hb_5 ?_
          refine Wp.seqN (by kernel_rfl) ?_
          refine Wp.reg tiok mix hc (by kernel_rfl) (ah := none) (rs := [some (.no)]) (kt := [6]) (ko := []) (T' := [(6, .bool false)]) (O' := []) (by kernel_rfl) trivial (by kernel_rfl) (by kernel_rfl) ?_
          refine seqQ_norm ?_
          refine Wp.retN (by kernel_rfl) ?_
          refine seqQ_ret ?_
          obtain rfl := Option.some.inj h
          exact RetQ.ret (fl := [true]) (by kernel_rfl)
        · refine Wp.condF (b := v_3) (by kernel_rfl) (by kernel_rfl) hb_5 ?_
          refine Wp.skipN (by kernel_rfl) ?_
          refine seqQ_norm ?_
          refine Wp.seqN (by kernel_rfl) ?_
          refine Wp.seqN (by kernel_rfl) ?_
          obtain ⟨r_13_2, hr_13_2, h⟩ := bsome h
          obtain ⟨r_13_3, hr_13_3, h⟩ := bsome h
          refine Wp.reg tiok mix hc (by kernel_rfl) (ah := (some [[], [], [1], [0, 1, 2], [0, 1, 2, 3]])) (rs := [some (.no), some (.no), some (.call (.agg [.int .i64 r_13_2.fSize, .osl (List.map I r_13_2.fPlus), .osl (List.map I r_13_2.fTimes), .osl (List.map AV.bool r_13_2.fBelow)]) [] 17), some (.call (.bool r_13_3) [] 1), some (.no)]) (kt := [1, 2, 3, 8, 9, 10, 11, 12, 13, 60]) (ko := [1, 6, 7, 8, 9, 10, 11, 12, 13, 14, 15, 16]) (T' := [(1, .sl (List.map I aTy1)), (2, .int .i64 aK2), (3, .ra 1 0), (8, .ra 8 0), (9, .bool r_7_5_1), (10, .ra 12 0), (11, .rs 13), (12, .ra 16 0), (13, .bool r_10_3_1), (60, .bool (!r_13_3))]) (O' := [(1, .box [.int .i64 aS0.fSize, .sl (List.map I aS0.fPlus), .sl (List.map I aS0.fTimes), .sl (List.map AV.bool aS0.fBelow)]), (6, .arr (List.map I r_7_5_0.fType)), (7, .arr (List.map GTerm_O r_7_5_0.fKids)), (8, .box [.int .i64 r_7_5_0.fOp, .int .i64 r_7_5_0.fN, .rs 6, .rs 7]), (9, .arr (List.map I r_8_1.fPlus)), (10, .arr (List.map I r_8_1.fTimes)), (11, .arr (List.map AV.bool r_8_1.fBelow)), (12, .box [.int .i64 r_8_1.fSize, .rs 9, .rs 10, .rs 11]), (13, .arr (List.map I r_9_1)), (14, .arr (List.map I r_10_3_0.fType)), (15, .arr (List.map GTerm_O r_10_3_0.fKids)), (16, .box [.int .i64 r_10_3_0.fOp, .int .i64 r_10_3_0.fN, .rs 14, .rs 15])]) (by kernel_rfl) (And.intro (laws_toSystem_s _ _ hr_13_2) (And.intro bod_13 (And.intro (Or.inl rfl : ([] : List Nat) = [] ∨ noSh (.agg [.int .i64 r_13_2.fSize, .osl (List.map I r_13_2.fPlus), .osl (List.map I r_13_2.fTimes), .osl (List.map AV.bool r_13_2.fBelow)]) = true) (And.intro (FnSound.args (A1 := [.agg [.int .i64 r_8_1.fSize, .sl (shares (List.map I r_8_1.fPlus)), .sl (shares (List.map I r_8_1.fTimes)), .sl (shares (List.map AV.bool r_8_1.fBelow))], .agg [.int .i64 r_13_2.fSize, .sl (shares (List.map I r_13_2.fPlus)), .sl (shares (List.map I r_13_2.fTimes)), .sl (shares (List.map AV.bool r_13_2.fBelow))]]) (A2 := [.agg [.int .i64 r_8_1.fSize, .sl (List.map I r_8_1.fPlus), .sl (List.map I r_8_1.fTimes), .sl (List.map AV.bool r_8_1.fBelow)], .agg [.int .i64 r_13_2.fSize, .sl (List.map I r_13_2.fPlus), .sl (List.map I r_13_2.fTimes), .sl (List.map AV.bool r_13_2.fBelow)]]) (by simp only [List.map_nil, sh_B, sh_I]) (laws_eqSystem_s _ _ hr_13_3)) (And.intro bod_17 (And.intro (Or.inr rfl : ([9, 10, 11, 17, 18, 19] : List Nat) = [] ∨ noSh (.bool r_13_3) = true) trivial)))))) (by kernel_rfl) (by kernel_rfl) ?_
          refine seqQ_norm ?_
          rcases itesome h with ⟨hb_6, h⟩ | ⟨hb_6, h⟩
          · refine Wp.condF (b := (!r_13_3)) (by kernel_rfl) (by kernel_rfl) (nF hb_6) ?_
            refine Wp.skipN (by kernel_rfl) ?_
            refine seqQ_norm ?_
            refine Wp.seqN (by kernel_rfl) ?_
            refine Wp.seqN (by kernel_rfl) ?_
            obtain ⟨r_15_2, hr_15_2, h⟩ := bsome h
            obtain ⟨r_15_3, hr_15_3, h⟩ := bsome h
            refine Wp.reg tiok mix hc (by kernel_rfl) (ah := none) (rs := [some (.no), some (.no), some (.call (.osl (List.map I r_15_2)) [] 20), some (.call (.bool r_15_3) [] 1), some (.no)]) (kt := [1, 2, 3, 8, 9, 10, 11, 12, 13, 65]) (ko := [1, 6, 7, 8, 9, 10, 11, 12, 13, 14, 15, 16]) (T' := [(1, .sl (List.map I aTy1)), (2, .int .i64 aK2), (3, .ra 1 0), (8, .ra 8 0), (9, .bool r_7_5_1), (10, .ra 12 0), (11, .rs 13), (12, .ra 16 0), (13, .bool r_10_3_1), (65, .bool (!r_15_3))]) (O' := [(1, .box [.int .i64 aS0.fSize, .sl (List.map I aS0.fPlus), .sl (List.map I aS0.fTimes), .sl (List.map AV.bool aS0.fBelow)]), (6, .arr (List.map I r_7_5_0.fType)), (7, .arr (List.map GTerm_O r_7_5_0.fKids)), (8, .box [.int .i64 r_7_5_0.fOp, .int .i64 r_7_5_0.fN, .rs 6, .rs 7]), (9, .arr (List.map I r_8_1.fPlus)), (10, .arr (List.map I r_8_1.fTimes)), (11, .arr (List.map AV.bool r_8_1.fBelow)), (12, .box [.int .i64 r_8_1.fSize, .rs 9, .rs 10, .rs 11]), (13, .arr (List.map I r_9_1)), (14, .arr (List.map I r_10_3_0.fType)), (15, .arr (List.map GTerm_O r_10_3_0.fKids)), (16, .box [.int .i64 r_10_3_0.fOp, .int .i64 r_10_3_0.fN, .rs 14, .rs 15])]) (by kernel_rfl) (And.intro (laws_toIntS_s _ _ hr_15_2) (And.intro bod_14 (And.intro (Or.inl rfl : ([] : List Nat) = [] ∨ noSh (.osl (List.map I r_15_2)) = true) (And.intro (FnSound.args (A1 := [.sl (shares (List.map I r_9_1)), .sl (shares (List.map I r_15_2))]) (A2 := [.sl (List.map I r_9_1), .sl (List.map I r_15_2)]) (by simp only [List.map_nil, sh_I]) (laws_eqIntS_s _ _ hr_15_3)) (And.intro bod_18 (And.intro (Or.inr rfl : ([13, 20] : List Nat) = [] ∨ noSh (.bool r_15_3) = true) trivial)))))) (by kernel_rfl) (by kernel_rfl) ?_
            refine seqQ_norm ?_
            rcases itesome h with ⟨hb_7, h⟩ | ⟨hb_7, h⟩
            · refine Wp.condF (b := (!r_15_3)) (by kernel_rfl) (by kernel_rfl) (nF hb_7) ?_
              refine Wp.skipN (by kernel_rfl) ?_
              refine seqQ_norm ?_
              refine Wp.seqN (by kernel_rfl) ?_
              refine Wp.reg tiok mix hc (by kernel_rfl) (ah := none) (rs := [some (.no)]) (kt := [1, 2, 3, 8, 9, 10, 11, 12, 13, 14]) (ko := [1, 6, 7, 8, 9, 10, 11, 12, 13, 14, 15, 16]) (T' := [(1, .sl (List.map I aTy1)), (2, .int .i64 aK2), (3, .ra 1 0), (8, .ra 8 0), (9, .bool r_7_5_1), (10, .ra 12 0), (11, .rs 13), (12, .ra 16 0), (13, .bool r_10_3_1), (14, .int .i64 1)]) (O' := [(1, .box [.int .i64 aS0.fSize, .sl (List.map I aS0.fPlus), .sl (List.map I aS0.fTimes), .sl (List.map AV.bool aS0.fBelow)]), (6, .arr (List.map I r_7_5_0.fType)), (7, .arr (List.map GTerm_O r_7_5_0.fKids)), (8, .box [.int .i64 r_7_5_0.fOp, .int .i64 r_7_5_0.fN, .rs 6, .rs 7]), (9, .arr (List.map I r_8_1.fPlus)), (10, .arr (List.map I r_8_1.fTimes)), (11, .arr (List.map AV.bool r_8_1.fBelow)), (12, .box [.int .i64 r_8_1.fSize, .rs 9, .rs 10, .rs 11]), (13, .arr (List.map I r_9_1)), (14, .arr (List.map I r_10_3_0.fType)), (15, .arr (List.map GTerm_O r_10_3_0.fKids)), (16, .box [.int .i64 r_10_3_0.fOp, .int .i64 r_10_3_0.fN, .rs 14, .rs 15])]) (by kernel_rfl) trivial (by kernel_rfl) (by kernel_rfl) ?_
              refine seqQ_norm ?_
              refine Wp.seqN (by kernel_rfl) ?_
              obtain ⟨⟨r_18_2, o_18_2_0⟩, hr_18_2, h⟩ := bsome h
              refine Wp.reg tiok mix hc (by kernel_rfl) (ah := none) (rs := [some (.no), some (.no), some (.call (.int .i64 r_18_2) [.agg [.undef, .osl (List.map I o_18_2_0.fPlus), .osl (List.map I o_18_2_0.fTimes), .osl (List.map AV.bool o_18_2_0.fBelow)], .undef] 1), some (.no)]) (kt := [1, 2, 3, 8, 9, 11, 12, 13, 14]) (ko := [1, 6, 7, 8, 13, 14, 15, 16]) (T' := [(1, .sl (List.map I aTy1)), (2, .int .i64 aK2), (3, .ra 1 0), (8, .ra 8 0), (9, .bool r_7_5_1), (11, .rs 13), (12, .ra 16 0), (13, .bool r_10_3_1), (14, .int .i64 r_18_2)]) (O' := [(1, .box [.int .i64 aS0.fSize, .sl (List.map I aS0.fPlus), .sl (List.map I aS0.fTimes), .sl (List.map AV.bool aS0.fBelow)]), (6, .arr (List.map I r_7_5_0.fType)), (7, .arr (List.map GTerm_O r_7_5_0.fKids)), (8, .box [.int .i64 r_7_5_0.fOp, .int .i64 r_7_5_0.fN, .rs 6, .rs 7]), (13, .arr (List.map I r_9_1)), (14, .arr (List.map I r_10_3_0.fType)), (15, .arr (List.map GTerm_O r_10_3_0.fKids)), (16, .box [.int .i64 r_10_3_0.fOp, .int .i64 r_10_3_0.fN, .rs 14, .rs 15])]) (by kernel_rfl) (And.intro (laws_markSystem_s _ _ hr_18_2) (And.intro bod_19 trivial)) (by kernel_rfl) (by kernel_rfl) ?_
              refine seqQ_norm ?_
              refine Wp.seqN (by kernel_rfl) ?_
              obtain ⟨⟨r_19_2, o_19_2_0⟩, hr_19_2, h⟩ := bsome h
              refine Wp.reg tiok mix hc (by kernel_rfl) (ah := none) (rs := [some (.no), some (.no), some (.call (.int .i64 r_19_2) [.osl (List.map I o_19_2_0), .undef] 1), some (.no)]) (kt := [1, 2, 3, 8, 9, 12, 13, 14]) (ko := [1, 6, 7, 8, 14, 15, 16]) (T' := [(1, .sl (List.map I aTy1)), (2, .int .i64 aK2), (3, .ra 1 0), (8, .ra 8 0), (9, .bool r_7_5_1), (12, .ra 16 0), (13, .bool r_10_3_1), (14, .int .i64 r_19_2)]) (O' := [(1, .box [.int .i64 aS0.fSize, .sl (List.map I aS0.fPlus), .sl (List.map I aS0.fTimes), .sl (List.map AV.bool aS0.fBelow)]), (6, .arr (List.map I r_7_5_0.fType)), (7, .arr (List.map GTerm_O r_7_5_0.fKids)), (8, .box [.int .i64 r_7_5_0.fOp, .int .i64 r_7_5_0.fN, .rs 6, .rs 7]), (14, .arr (List.map I r_10_3_0.fType)), (15, .arr (List.map GTerm_O r_10_3_0.fKids)), (16, .box [.int .i64 r_10_3_0.fOp, .int .i64 r_10_3_0.fN, .rs 14, .rs 15])]) (by kernel_rfl) (And.intro (laws_markIntS_s _ _ hr_19_2) (And.intro bod_20 trivial)) (by kernel_rfl) (by kernel_rfl) ?_
              refine seqQ_norm ?_
              refine Wp.seqN (by kernel_rfl) ?_
              refine Wp.seqN (by kernel_rfl) ?_
              obtain ⟨v_8, hj_9, h⟩ := bsome h
              refine Wp.into (x := .normal) (mkS [(1, .sl (List.map I aTy1)), (2, .int .i64 aK2), (3, .ra 1 0), (8, .ra 8 0), (9, .bool r_7_5_1), (12, .ra 16 0), (84, .bool v_8)] [(1, .box [.int .i64 aS0.fSize, .sl (List.map I aS0.fPlus), .sl (List.map I aS0.fTimes), .sl (List.map AV.bool aS0.fBelow)]), (6, .arr (List.map I r_7_5_0.fType)), (7, .arr (List.map GTerm_O r_7_5_0.fKids)), (8, .box [.int .i64 r_7_5_0.fOp, .int .i64 r_7_5_0.fN, .rs 6, .rs 7]), (14, .arr (List.map I r_10_3_0.fType)), (15, .arr (List.map GTerm_O r_10_3_0.fKids)), (16, .box [.int .i64 r_10_3_0.fOp, .int .i64 r_10_3_0.fN, .rs 14, .rs 15])]) ?_ ?_
              · replace h := hj_9
                rcases itesome h with ⟨hb_20_0, h⟩ | ⟨hb_20_0, h⟩
                · refine Wp.reg tiok mix hc (by kernel_rfl) (ah := none) (rs := [some (.no), some (.no), some (.no), none, none, none, none, some (.cond true), some (.no), none, none, none, some (.cond true)]) (kt := [1, 2, 3, 8, 9, 12, 84]) (ko := [1, 6, 7, 8, 14, 15, 16]) (T' := [(1, .sl (List.map I aTy1)), (2, .int .i64 aK2), (3, .ra 1 0), (8, .ra 8 0), (9, .bool r_7_5_1), (12, .ra 16 0), (84, .bool true)]) (O' := [(1, .box [.int .i64 aS0.fSize, .sl (List.map I aS0.fPlus), .sl (List.map I aS0.fTimes), .sl (List.map AV.bool aS0.fBelow)]), (6, .arr (List.map I r_7_5_0.fType)), (7, .arr (List.map GTerm_O r_7_5_0.fKids)), (8, .box [.int .i64 r_7_5_0.fOp, .int .i64 r_7_5_0.fN, .rs 6, .rs 7]), (14, .arr (List.map I r_10_3_0.fType)), (15, .arr (List.map GTerm_O r_10_3_0.fKids)), (16, .box [.int .i64 r_10_3_0.fOp, .int .i64 r_10_3_0.fN, .rs 14, .rs 15])]) (by kernel_rfl) (And.intro (neF hb_20_0 : (decide (r_19_2 < 0)) ≠ false) (And.intro (neF hb_20_0 : (decide (r_19_2 < 0)) ≠ false) (And.intro (neF hb_20_0 : (decide (r_19_2 < 0)) ≠ false) (And.intro (neF hb_20_0 : (decide (r_19_2 < 0)) ≠ false) (And.intro hb_20_0 (And.intro (neF (rfl : true = true) : true ≠ false) (And.intro (neF (rfl : true = true) : true ≠ false) (And.intro (neF (rfl : true = true) : true ≠ false) (And.intro (rfl : true = true) trivial))))))))) (by kernel_rfl) (by kernel_rfl) ?_
                  obtain rfl := Option.some.inj h
                  exact Into.mk
                · obtain ⟨r_20_5, hr_20_5, h⟩ := bsome h
                  rcases itesome h with ⟨hb_20_1, h⟩ | ⟨hb_20_1, h⟩
                  · refine Wp.reg tiok mix hc (by kernel_rfl) (ah := none) (rs := [some (.no), some (.no), some (.no), some (.no), some (.no), some (.call (.bool r_20_5) [] 1), some (.no), some (.cond false), some (.no), some (.no), some (.no), some (.no), some (.cond false)]) (kt := [1, 2, 3, 8, 9, 12, 84]) (ko := [1, 6, 7, 8, 14, 15, 16]) (T' := [(1, .sl (List.map I aTy1)), (2, .int .i64 aK2), (3, .ra 1 0), (8, .ra 8 0), (9, .bool r_7_5_1), (12, .ra 16 0), (84, .bool (!(r_10_3_1 == r_7_5_1)))]) (O' := [(1, .box [.int .i64 aS0.fSize, .sl (List.map I aS0.fPlus), .sl (List.map I aS0.fTimes), .sl (List.map AV.bool aS0.fBelow)]), (6, .arr (List.map I r_7_5_0.fType)), (7, .arr (List.map GTerm_O r_7_5_0.fKids)), (8, .box [.int .i64 r_7_5_0.fOp, .int .i64 r_7_5_0.fN, .rs 6, .rs 7]), (14, .arr (List.map I r_10_3_0.fType)), (15, .arr (List.map GTerm_O r_10_3_0.fKids)), (16, .box [.int .i64 r_10_3_0.fOp, .int .i64 r_10_3_0.fN, .rs 14, .rs 15])]) (by kernel_rfl) (And.intro hb_20_0 (And.intro hb_20_0 (And.intro hb_20_0 (And.intro (FnSound.args (A1 := [.agg [.int .i64 r_10_3_0.fOp, .int .i64 r_10_3_0.fN, .sl (shares (List.map I r_10_3_0.fType)), .sl (shares (List.map GTerm_O r_10_3_0.fKids))], .agg [.int .i64 r_7_5_0.fOp, .int .i64 r_7_5_0.fN, .sl (shares (List.map I r_7_5_0.fType)), .sl (shares (List.map GTerm_O r_7_5_0.fKids))]]) (A2 := [.agg [.int .i64 r_10_3_0.fOp, .int .i64 r_10_3_0.fN, .sl (List.map I r_10_3_0.fType), .sl (List.map GTerm_S r_10_3_0.fKids)], .agg [.int .i64 r_7_5_0.fOp, .int .i64 r_7_5_0.fN, .sl (List.map I r_7_5_0.fType), .sl (List.map GTerm_S r_7_5_0.fKids)]]) (by simp only [List.map_nil, sh_GTerm_O, sh_I]) (laws_eqTerm_s _ _ hr_20_5)) (And.intro bod_16 (And.intro (Or.inr rfl : ([14, 15, 6, 7] : List Nat) = [] ∨ noSh (.bool r_20_5) = true) (And.intro hb_20_0 (And.intro hb_20_0 (And.intro (nF hb_20_1) (And.intro (nF hb_20_1) (And.intro (nF hb_20_1) (And.intro (nF hb_20_1) trivial)))))))))))) (by kernel_rfl) (by kernel_rfl) ?_
                    obtain rfl := Option.some.inj h
                    exact Into.mk
                  · refine Wp.reg tiok mix hc (by kernel_rfl) (ah := none) (rs := [some (.no), some (.no), some (.no), some (.no), some (.no), some (.call (.bool r_20_5) [] 1), some (.no), some (.cond false), some (.no), none, none, none, some (.cond true)]) (kt := [1, 2, 3, 8, 9, 12, 84]) (ko := [1, 6, 7, 8, 14, 15, 16]) (T' := [(1, .sl (List.map I aTy1)), (2, .int .i64 aK2), (3, .ra 1 0), (8, .ra 8 0), (9, .bool r_7_5_1), (12, .ra 16 0), (84, .bool true)]) (O' := [(1, .box [.int .i64 aS0.fSize, .sl (List.map I aS0.fPlus), .sl (List.map I aS0.fTimes), .sl (List.map AV.bool aS0.fBelow)]), (6, .arr (List.map I r_7_5_0.fType)), (7, .arr (List.map GTerm_O r_7_5_0.fKids)), (8, .box [.int .i64 r_7_5_0.fOp, .int .i64 r_7_5_0.fN, .rs 6, .rs 7]), (14, .arr (List.map I r_10_3_0.fType)), (15, .arr (List.map GTerm_O r_10_3_0.fKids)), (16, .box [.int .i64 r_10_3_0.fOp, .int .i64 r_10_3_0.fN, .rs 14, .rs 15])]) (by kernel_rfl) (And.intro hb_20_0 (And.intro hb_20_0 (And.intro hb_20_0 (And.intro (FnSound.args (A1 := [.agg [.int .i64 r_10_3_0.fOp, .int .i64 r_10_3_0.fN, .sl (shares (List.map I r_10_3_0.fType)), .sl (shares (List.map GTerm_O r_10_3_0.fKids))], .agg [.int .i64 r_7_5_0.fOp, .int .i64 r_7_5_0.fN, .sl (shares (List.map I r_7_5_0.fType)), .sl (shares (List.map GTerm_O r_7_5_0.fKids))]]) (A2 := [.agg [.int .i64 r_10_3_0.fOp, .int .i64 r_10_3_0.fN, .sl (List.map I r_10_3_0.fType), .sl (List.map GTerm_S r_10_3_0.fKids)], .agg [.int .i64 r_7_5_0.fOp, .int .i64 r_7_5_0.fN, .sl (List.map I r_7_5_0.fType), .sl (List.map GTerm_S r_7_5_0.fKids)]]) (by simp only [List.map_nil, sh_GTerm_O, sh_I]) (laws_eqTerm_s _ _ hr_20_5)) (And.intro bod_16 (And.intro (Or.inr rfl : ([14, 15, 6, 7] : List Nat) = [] ∨ noSh (.bool r_20_5) = true) (And.intro hb_20_0 (And.intro hb_20_0 (And.intro (neF (nT hb_20_1) : (!r_20_5) ≠ false) (And.intro (neF (nT hb_20_1) : (!r_20_5) ≠ false) (And.intro (neF (nT hb_20_1) : (!r_20_5) ≠ false) (And.intro (nT hb_20_1) trivial)))))))))))) (by kernel_rfl) (by kernel_rfl) ?_
                    obtain rfl := Option.some.inj h
                    exact Into.mk
              · clear hj_9
                refine seqQ_norm ?_
                rcases itesome h with ⟨hb_10, h⟩ | ⟨hb_10, h⟩
                · refine Wp.condT (b := v_8) (by kernel_rfl) (by kernel_rfl) hb_10 ?_
                  refine Wp.seqN (by kernel_rfl) ?_
                  refine Wp.reg tiok mix hc (by kernel_rfl) (ah := none) (rs := [some (.no)]) (kt := [6]) (ko := []) (T' := [(6, .bool false)]) (O' := []) (by kernel_rfl) trivial (by kernel_rfl) (by kernel_rfl) ?_
                  refine seqQ_norm ?_
                  refine Wp.retN (by kernel_rfl) ?_
                  refine seqQ_ret ?_
                  obtain rfl := Option.some.inj h
                  exact RetQ.ret (fl := [true]) (by kernel_rfl)
                · refine Wp.condF (b := v_8) (by kernel_rfl) (by kernel_rfl) hb_10 ?_
                  refine Wp.skipN (by kernel_rfl) ?_
                  refine seqQ_norm ?_
                  refine Wp.seqN (by kernel_rfl) ?_
                  refine Wp.reg tiok mix hc (by kernel_rfl) (ah := none) (rs := [some (.no)]) (kt := [1, 2, 3, 8, 9, 12, 15]) (ko := [1, 6, 7, 8, 14, 15, 16]) (T' := [(1, .sl (List.map I aTy1)), (2, .int .i64 aK2), (3, .ra 1 0), (8, .ra 8 0), (9, .bool r_7_5_1), (12, .ra 16 0), (15, .int .i64 1)]) (O' := [(1, .box [.int .i64 aS0.fSize, .sl (List.map I aS0.fPlus), .sl (List.map I aS0.fTimes), .sl (List.map AV.bool aS0.fBelow)]), (6, .arr (List.map I r_7_5_0.fType)), (7, .arr (List.map GTerm_O r_7_5_0.fKids)), (8, .box [.int .i64 r_7_5_0.fOp, .int .i64 r_7_5_0.fN, .rs 6, .rs 7]), (14, .arr (List.map I r_10_3_0.fType)), (15, .arr (List.map GTerm_O r_10_3_0.fKids)), (16, .box [.int .i64 r_10_3_0.fOp, .int .i64 r_10_3_0.fN, .rs 14, .rs 15])]) (by kernel_rfl) trivial (by kernel_rfl) (by kernel_rfl) ?_
                  refine seqQ_norm ?_
                  refine Wp.seqN (by kernel_rfl) ?_
                  obtain ⟨⟨r_23_2, o_23_2_0⟩, hr_23_2, h⟩ := bsome h
                  refine Wp.reg tiok mix hc (by kernel_rfl) (ah := none) (rs := [some (.no), some (.no), some (.call (.int .i64 r_23_2) [.agg [.undef, .undef, .osl (List.map I o_23_2_0.fType), .osl (List.map GTerm_O o_23_2_0.fKids)], .undef] 1), some (.no)]) (kt := [1, 2, 3, 8, 9, 12, 15]) (ko := [1, 6, 7, 8, 14, 15, 16]) (T' := [(1, .sl (List.map I aTy1)), (2, .int .i64 aK2), (3, .ra 1 0), (8, .ra 8 0), (9, .bool r_7_5_1), (12, .ra 16 0), (15, .int .i64 r_23_2)]) (O' := [(1, .box [.int .i64 aS0.fSize, .sl (List.map I aS0.fPlus), .sl (List.map I aS0.fTimes), .sl (List.map AV.bool aS0.fBelow)]), (6, .arr (List.map I r_7_5_0.fType)), (7, .arr (List.map GTerm_O r_7_5_0.fKids)), (8, .box [.int .i64 r_7_5_0.fOp, .int .i64 r_7_5_0.fN, .rs 6, .rs 7]), (14, .arr (List.map I o_23_2_0.fType)), (15, .arr (List.map GTerm_O o_23_2_0.fKids)), (16, .box [.int .i64 r_10_3_0.fOp, .int .i64 r_10_3_0.fN, .rs 14, .rs 15])]) (by kernel_rfl) (And.intro (laws_markTerm_s _ _ hr_23_2) (And.intro bod_21 trivial)) (by kernel_rfl) (by kernel_rfl) ?_
                  refine seqQ_norm ?_
                  refine Wp.seqN (by kernel_rfl) ?_
                  refine Wp.reg tiok mix hc (by kernel_rfl) (ah := none) (rs := [some (.no)]) (kt := [1, 2, 3, 8, 9, 12, 15, 16]) (ko := [1, 6, 7, 8, 14, 15, 16]) (T' := [(1, .sl (List.map I aTy1)), (2, .int .i64 aK2), (3, .ra 1 0), (8, .ra 8 0), (9, .bool r_7_5_1), (12, .ra 16 0), (15, .int .i64 r_23_2), (16, .int .i64 1)]) (O' := [(1, .box [.int .i64 aS0.fSize, .sl (List.map I aS0.fPlus), .sl (List.map I aS0.fTimes), .sl (List.map AV.bool aS0.fBelow)]), (6, .arr (List.map I r_7_5_0.fType)), (7, .arr (List.map GTerm_O r_7_5_0.fKids)), (8, .box [.int .i64 r_7_5_0.fOp, .int .i64 r_7_5_0.fN, .rs 6, .rs 7]), (14, .arr (List.map I o_23_2_0.fType)), (15, .arr (List.map GTerm_O o_23_2_0.fKids)), (16, .box [.int .i64 r_10_3_0.fOp, .int .i64 r_10_3_0.fN, .rs 14, .rs 15])]) (by kernel_rfl) trivial (by kernel_rfl) (by kernel_rfl) ?_
                  refine seqQ_norm ?_
                  refine Wp.seqN (by kernel_rfl) ?_
                  obtain ⟨r_25_2, hr_25_2, h⟩ := bsome h
                  refine Wp.reg tiok mix hc (by kernel_rfl) (ah := none) (rs := [some (.no), some (.no), some (.call (.int .i64 r_25_2) [] 1), some (.no)]) (kt := [1, 2, 3, 8, 9, 12, 15, 16]) (ko := [1, 6, 7, 8, 14, 15, 16]) (T' := [(1, .sl (List.map I aTy1)), (2, .int .i64 aK2), (3, .ra 1 0), (8, .ra 8 0), (9, .bool r_7_5_1), (12, .ra 16 0), (15, .int .i64 r_23_2), (16, .int .i64 r_25_2)]) (O' := [(1, .box [.int .i64 aS0.fSize, .sl (List.map I aS0.fPlus), .sl (List.map I aS0.fTimes), .sl (List.map AV.bool aS0.fBelow)]), (6, .arr (List.map I r_7_5_0.fType)), (7, .arr (List.map GTerm_O r_7_5_0.fKids)), (8, .box [.int .i64 r_7_5_0.fOp, .int .i64 r_7_5_0.fN, .rs 6, .rs 7]), (14, .arr (List.map I o_23_2_0.fType)), (15, .arr (List.map GTerm_O o_23_2_0.fKids)), (16, .box [.int .i64 r_10_3_0.fOp, .int .i64 r_10_3_0.fN, .rs 14, .rs 15])]) (by kernel_rfl) (And.intro (FnSound.args (A1 := [.agg [.int .i64 r_10_3_0.fOp, .int .i64 r_10_3_0.fN, .sl (shares (List.map I o_23_2_0.fType)), .sl (shares (List.map GTerm_O o_23_2_0.fKids))], .int .i64 1]) (A2 := [.agg [.int .i64 r_10_3_0.fOp, .int .i64 r_10_3_0.fN, .sl (List.map I o_23_2_0.fType), .sl (List.map GTerm_S o_23_2_0.fKids)], .int .i64 1]) (by simp only [List.map_nil, sh_GTerm_O, sh_I]) (laws_heldTerm_s _ _ hr_25_2)) (And.intro bod_22 (And.intro (Or.inr rfl : ([14, 15] : List Nat) = [] ∨ noSh (.int .i64 r_25_2) = true) trivial))) (by kernel_rfl) (by kernel_rfl) ?_
                  refine seqQ_norm ?_
                  refine Wp.seqN (by kernel_rfl) ?_
                  refine Wp.seqN (by kernel_rfl) ?_
                  refine Wp.reg tiok mix hc (by kernel_rfl) (ah := none) (rs := [some (.no), some (.no)]) (kt := [1, 2, 3, 8, 9, 12, 15, 16, 92]) (ko := [1, 6, 7, 8, 14, 15, 16]) (T' := [(1, .sl (List.map I aTy1)), (2, .int .i64 aK2), (3, .ra 1 0), (8, .ra 8 0), (9, .bool r_7_5_1), (12, .ra 16 0), (15, .int .i64 r_23_2), (16, .int .i64 r_25_2), (92, .bool (decide (r_25_2 < 0)))]) (O' := [(1, .box [.int .i64 aS0.fSize, .sl (List.map I aS0.fPlus), .sl (List.map I aS0.fTimes), .sl (List.map AV.bool aS0.fBelow)]), (6, .arr (List.map I r_7_5_0.fType)), (7, .arr (List.map GTerm_O r_7_5_0.fKids)), (8, .box [.int .i64 r_7_5_0.fOp, .int .i64 r_7_5_0.fN, .rs 6, .rs 7]), (14, .arr (List.map I o_23_2_0.fType)), (15, .arr (List.map GTerm_O o_23_2_0.fKids)), (16, .box [.int .i64 r_10_3_0.fOp, .int .i64 r_10_3_0.fN, .rs 14, .rs 15])]) (by kernel_rfl) trivial (by kernel_rfl) (by kernel_rfl) ?_
                  refine seqQ_norm ?_
                  rcases itesome h with ⟨hb_11, h⟩ | ⟨hb_11, h⟩
                  · refine Wp.condT (b := (decide (r_25_2 < 0))) (by kernel_rfl) (by kernel_rfl) hb_11 ?_
                    refine Wp.seqN (by kernel_rfl) ?_
                    refine Wp.reg tiok mix hc (by kernel_rfl) (ah := none) (rs := [some (.no)]) (kt := [6]) (ko := []) (T' := [(6, .bool false)]) (O' := []) (by kernel_rfl) trivial (by kernel_rfl) (by kernel_rfl) ?_
                    refine seqQ_norm ?_
                    refine Wp.retN (by kernel_rfl) ?_
                    refine seqQ_ret ?_
                    obtain rfl := Option.some.inj h
                    exact RetQ.ret (fl := [true]) (by kernel_rfl)
                  · refine Wp.condF (b := (decide (r_25_2 < 0))) (by kernel_rfl) (by kernel_rfl) hb_11 ?_
                    refine Wp.skipN (by kernel_rfl) ?_
                    refine seqQ_norm ?_
                    refine Wp.seqN (by kernel_rfl) ?_
                    refine Wp.seqN (by kernel_rfl) ?_
                    refine Wp.reg tiok mix hc (by kernel_rfl) (ah := none) (rs := [some (.no), some (.no), some (.no)]) (kt := [1, 2, 3, 8, 9, 12, 15, 95]) (ko := [1, 6, 7, 8, 14, 15, 16]) (T' := [(1, .sl (List.map I aTy1)), (2, .int .i64 aK2), (3, .ra 1 0), (8, .ra 8 0), (9, .bool r_7_5_1), (12, .ra 16 0), (15, .int .i64 r_23_2), (95, .bool (r_25_2 != r_23_2))]) (O' := [(1, .box [.int .i64 aS0.fSize, .sl (List.map I aS0.fPlus), .sl (List.map I aS0.fTimes), .sl (List.map AV.bool aS0.fBelow)]), (6, .arr (List.map I r_7_5_0.fType)), (7, .arr (List.map GTerm_O r_7_5_0.fKids)), (8, .box [.int .i64 r_7_5_0.fOp, .int .i64 r_7_5_0.fN, .rs 6, .rs 7]), (14, .arr (List.map I o_23_2_0.fType)), (15, .arr (List.map GTerm_O o_23_2_0.fKids)), (16, .box [.int .i64 r_10_3_0.fOp, .int .i64 r_10_3_0.fN, .rs 14, .rs 15])]) (by kernel_rfl) trivial (by kernel_rfl) (by kernel_rfl) ?_
                    refine seqQ_norm ?_
                    rcases itesome h with ⟨hb_12, h⟩ | ⟨hb_12, h⟩
                    · refine Wp.condT (b := (r_25_2 != r_23_2)) (by kernel_rfl) (by kernel_rfl) hb_12 ?_
                      refine Wp.seqN (by kernel_rfl) ?_
                      refine Wp.reg tiok mix hc (by kernel_rfl) (ah := none) (rs := [some (.no)]) (kt := [6]) (ko := []) (T' := [(6, .bool false)]) (O' := []) (by kernel_rfl) trivial (by kernel_rfl) (by kernel_rfl) ?_
                      refine seqQ_norm ?_
                      refine Wp.retN (by kernel_rfl) ?_
                      refine seqQ_ret ?_
                      obtain rfl := Option.some.inj h
                      exact RetQ.ret (fl := [true]) (by kernel_rfl)
                    · refine Wp.condF (b := (r_25_2 != r_23_2)) (by kernel_rfl) (by kernel_rfl) hb_12 ?_
                      refine Wp.skipN (by kernel_rfl) ?_
                      refine seqQ_norm ?_
                      refine Wp.seqN (by kernel_rfl) ?_
                      obtain ⟨r_30_1, hr_30_1, h⟩ := bsome h
                      obtain ⟨r_30_3, hr_30_3, h⟩ := bsome h
                      obtain ⟨⟨r_30_5_0, r_30_5_1⟩, hr_30_5, h⟩ := bsome h
                      refine Wp.reg tiok mix hc (by kernel_rfl) (ah := none) (rs := [some (.no), some (.call (.agg [.int .i64 r_30_1.fSize, .osl (List.map I r_30_1.fPlus), .osl (List.map I r_30_1.fTimes), .osl (List.map AV.bool r_30_1.fBelow)]) [] 21), some (.no), some (.call (.osl (List.map I r_30_3)) [] 24), some (.no), some (.call (.tup [.agg [.int .i64 r_30_5_0.fOp, .int .i64 r_30_5_0.fN, .osl (List.map I r_30_5_0.fType), .osl (List.map GTerm_O r_30_5_0.fKids)], .bool r_30_5_1]) [] 25), some (.no), some (.no), some (.no), some (.new 27), some (.no), some (.no)]) (kt := [8, 9, 12, 15, 17, 18]) (ko := [6, 7, 8, 14, 15, 16, 25, 26, 27]) (T' := [(8, .ra 8 0), (9, .bool r_7_5_1), (12, .ra 16 0), (15, .int .i64 r_23_2), (17, .ra 27 0), (18, .bool r_30_5_1)]) (O' := [(6, .arr (List.map I r_7_5_0.fType)), (7, .arr (List.map GTerm_O r_7_5_0.fKids)), (8, .box [.int .i64 r_7_5_0.fOp, .int .i64 r_7_5_0.fN, .rs 6, .rs 7]), (14, .arr (List.map I o_23_2_0.fType)), (15, .arr (List.map GTerm_O o_23_2_0.fKids)), (16, .box [.int .i64 r_10_3_0.fOp, .int .i64 r_10_3_0.fN, .rs 14, .rs 15]), (25, .arr (List.map I r_30_5_0.fType)), (26, .arr (List.map GTerm_O r_30_5_0.fKids)), (27, .box [.int .i64 r_30_5_0.fOp, .int .i64 r_30_5_0.fN, .rs 25, .rs 26])]) (by kernel_rfl) (And.intro (laws_toSystem_s _ _ hr_30_1) (And.intro bod_13 (And.intro (Or.inl rfl : ([] : List Nat) = [] ∨ noSh (.agg [.int .i64 r_30_1.fSize, .osl (List.map I r_30_1.fPlus), .osl (List.map I r_30_1.fTimes), .osl (List.map AV.bool r_30_1.fBelow)]) = true) (And.intro (laws_toIntS_s _ _ hr_30_3) (And.intro bod_14 (And.intro (Or.inl rfl : ([] : List Nat) = [] ∨ noSh (.osl (List.map I r_30_3)) = true) (And.intro (FnSound.args (A1 := [.agg [.int .i64 r_30_1.fSize, .sl (shares (List.map I r_30_1.fPlus)), .sl (shares (List.map I r_30_1.fTimes)), .sl (shares (List.map AV.bool r_30_1.fBelow))], .sl (shares (List.map I r_30_3)), .int .i64 aK2]) (A2 := [.agg [.int .i64 r_30_1.fSize, .sl (List.map I r_30_1.fPlus), .sl (List.map I r_30_1.fTimes), .sl (List.map AV.bool r_30_1.fBelow)], .sl (List.map I r_30_3), .int .i64 aK2]) (by simp only [List.map_nil, sh_B, sh_I]) (impl_ValueAt_s _ _ hr_30_5)) (And.intro bod_32 (And.intro (Or.inr (nsh_cons (nsh_cons rfl (nsh_cons rfl (nsh_cons (nsh_row nsh_I r_30_5_0.fType) (nsh_cons (nsh_row nsh_GTerm_O r_30_5_0.fKids) rfl)))) (nsh_cons rfl rfl)) : ([21, 22, 23, 24] : List Nat) = [] ∨ noSh (.tup [.agg [.int .i64 r_30_5_0.fOp, .int .i64 r_30_5_0.fN, .osl (List.map I r_30_5_0.fType), .osl (List.map GTerm_O r_30_5_0.fKids)], .bool r_30_5_1]) = true) trivial))))))))) (by kernel_rfl) (by kernel_rfl) ?_
                      refine seqQ_norm ?_
                      refine Wp.seqN (by kernel_rfl) ?_
                      refine Wp.seqN (by kernel_rfl) ?_
                      obtain ⟨v_13, hj_14, h⟩ := bsome h
                      refine Wp.into (x := .normal) (mkS [(12, .ra 16 0), (15, .int .i64 r_23_2), (113, .bool v_13)] [(14, .arr (List.map I o_23_2_0.fType)), (15, .arr (List.map GTerm_O o_23_2_0.fKids)), (16, .box [.int .i64 r_10_3_0.fOp, .int .i64 r_10_3_0.fN, .rs 14, .rs 15])]) ?_ ?_
                      · replace h := hj_14
                        obtain ⟨r_31_2, hr_31_2, h⟩ := bsome h
                        rcases itesome h with ⟨hb_31_0, h⟩ | ⟨hb_31_0, h⟩
                        · refine Wp.reg tiok mix hc (by kernel_rfl) (ah := none) (rs := [some (.no), some (.no), some (.call (.bool r_31_2) [] 1), some (.no), some (.no), some (.no), some (.no), some (.no), some (.cond false)]) (kt := [12, 15, 113]) (ko := [14, 15, 16]) (T' := [(12, .ra 16 0), (15, .int .i64 r_23_2), (113, .bool (!(r_30_5_1 == r_7_5_1)))]) (O' := [(14, .arr (List.map I o_23_2_0.fType)), (15, .arr (List.map GTerm_O o_23_2_0.fKids)), (16, .box [.int .i64 r_10_3_0.fOp, .int .i64 r_10_3_0.fN, .rs 14, .rs 15])]) (by kernel_rfl) (And.intro (FnSound.args (A1 := [.agg [.int .i64 r_30_5_0.fOp, .int .i64 r_30_5_0.fN, .sl (shares (List.map I r_30_5_0.fType)), .sl (shares (List.map GTerm_O r_30_5_0.fKids))], .agg [.int .i64 r_7_5_0.fOp, .int .i64 r_7_5_0.fN, .sl (shares (List.map I r_7_5_0.fType)), .sl (shares (List.map GTerm_O r_7_5_0.fKids))]]) (A2 := [.agg [.int .i64 r_30_5_0.fOp, .int .i64 r_30_5_0.fN, .sl (List.map I r_30_5_0.fType), .sl (List.map GTerm_S r_30_5_0.fKids)], .agg [.int .i64 r_7_5_0.fOp, .int .i64 r_7_5_0.fN, .sl (List.map I r_7_5_0.fType), .sl (List.map GTerm_S r_7_5_0.fKids)]]) (by simp only [List.map_nil, sh_GTerm_O, sh_I]) (laws_eqTerm_s _ _ hr_31_2)) (And.intro bod_16 (And.intro (Or.inr rfl : ([25, 26, 6, 7] : List Nat) = [] ∨ noSh (.bool r_31_2) = true) (And.intro (nF hb_31_0) (And.intro (nF hb_31_0) (And.intro (nF hb_31_0) (And.intro (nF hb_31_0) trivial))))))) (by kernel_rfl) (by kernel_rfl) ?_
                          obtain rfl := Option.some.inj h
                          exact Into.mk
                        · refine Wp.reg tiok mix hc (by kernel_rfl) (ah := none) (rs := [some (.no), some (.no), some (.call (.bool r_31_2) [] 1), some (.no), some (.no), none, none, none, some (.cond true)]) (kt := [12, 15, 113]) (ko := [14, 15, 16]) (T' := [(12, .ra 16 0), (15, .int .i64 r_23_2), (113, .bool true)]) (O' := [(14, .arr (List.map I o_23_2_0.fType)), (15, .arr (List.map GTerm_O o_23_2_0.fKids)), (16, .box [.int .i64 r_10_3_0.fOp, .int .i64 r_10_3_0.fN, .rs 14, .rs 15])]) (by kernel_rfl) (And.intro (FnSound.args (A1 := [.agg [.int .i64 r_30_5_0.fOp, .int .i64 r_30_5_0.fN, .sl (shares (List.map I r_30_5_0.fType)), .sl (shares (List.map GTerm_O r_30_5_0.fKids))], .agg [.int .i64 r_7_5_0.fOp, .int .i64 r_7_5_0.fN, .sl (shares (List.map I r_7_5_0.fType)), .sl (shares (List.map GTerm_O r_7_5_0.fKids))]]) (A2 := [.agg [.int .i64 r_30_5_0.fOp, .int .i64 r_30_5_0.fN, .sl (List.map I r_30_5_0.fType), .sl (List.map GTerm_S r_30_5_0.fKids)], .agg [.int .i64 r_7_5_0.fOp, .int .i64 r_7_5_0.fN, .sl (List.map I r_7_5_0.fType), .sl (List.map GTerm_S r_7_5_0.fKids)]]) (by simp only [List.map_nil, sh_GTerm_O, sh_I]) (laws_eqTerm_s _ _ hr_31_2)) (And.intro bod_16 (And.intro (Or.inr rfl : ([25, 26, 6, 7] : List Nat) = [] ∨ noSh (.bool r_31_2) = true) (And.intro (neF (nT hb_31_0) : (!r_31_2) ≠ false) (And.intro (neF (nT hb_31_0) : (!r_31_2) ≠ false) (And.intro (neF (nT hb_31_0) : (!r_31_2) ≠ false) (And.intro (nT hb_31_0) trivial))))))) (by kernel_rfl) (by kernel_rfl) ?_
                          obtain rfl := Option.some.inj h
                          exact Into.mk
                      · clear hj_14
                        refine seqQ_norm ?_
                        rcases itesome h with ⟨hb_15, h⟩ | ⟨hb_15, h⟩
                        · refine Wp.condT (b := v_13) (by kernel_rfl) (by kernel_rfl) hb_15 ?_
                          refine Wp.seqN (by kernel_rfl) ?_
                          refine Wp.reg tiok mix hc (by kernel_rfl) (ah := none) (rs := [some (.no)]) (kt := [6]) (ko := []) (T' := [(6, .bool false)]) (O' := []) (by kernel_rfl) trivial (by kernel_rfl) (by kernel_rfl) ?_
                          refine seqQ_norm ?_
                          refine Wp.retN (by kernel_rfl) ?_
                          refine seqQ_ret ?_
                          obtain rfl := Option.some.inj h
                          exact RetQ.ret (fl := [true]) (by kernel_rfl)
                        · refine Wp.condF (b := v_13) (by kernel_rfl) (by kernel_rfl) hb_15 ?_
                          refine Wp.skipN (by kernel_rfl) ?_
                          refine seqQ_norm ?_
                          refine Wp.seqN (by kernel_rfl) ?_
                          refine Wp.reg tiok mix hc (by kernel_rfl) (ah := none) (rs := [some (.no)]) (kt := [12, 15, 16]) (ko := [14, 15, 16]) (T' := [(12, .ra 16 0), (15, .int .i64 r_23_2), (16, .int .i64 1)]) (O' := [(14, .arr (List.map I o_23_2_0.fType)), (15, .arr (List.map GTerm_O o_23_2_0.fKids)), (16, .box [.int .i64 r_10_3_0.fOp, .int .i64 r_10_3_0.fN, .rs 14, .rs 15])]) (by kernel_rfl) trivial (by kernel_rfl) (by kernel_rfl) ?_
                          refine seqQ_norm ?_
                          refine Wp.seqN (by kernel_rfl) ?_
                          obtain ⟨r_34_2, hr_34_2, h⟩ := bsome h
                          refine Wp.reg tiok mix hc (by kernel_rfl) (ah := none) (rs := [some (.no), some (.no), some (.call (.int .i64 r_34_2) [] 1), some (.no)]) (kt := [15, 16]) (ko := []) (T' := [(15, .int .i64 r_23_2), (16, .int .i64 r_34_2)]) (O' := []) (by kernel_rfl) (And.intro (FnSound.args (A1 := [.agg [.int .i64 r_10_3_0.fOp, .int .i64 r_10_3_0.fN, .sl (shares (List.map I o_23_2_0.fType)), .sl (shares (List.map GTerm_O o_23_2_0.fKids))], .int .i64 1]) (A2 := [.agg [.int .i64 r_10_3_0.fOp, .int .i64 r_10_3_0.fN, .sl (List.map I o_23_2_0.fType), .sl (List.map GTerm_S o_23_2_0.fKids)], .int .i64 1]) (by simp only [List.map_nil, sh_GTerm_O, sh_I]) (laws_heldTerm_s _ _ hr_34_2)) (And.intro bod_22 (And.intro (Or.inr rfl : ([14, 15] : List Nat) = [] ∨ noSh (.int .i64 r_34_2) = true) trivial))) (by kernel_rfl) (by kernel_rfl) ?_
                          refine seqQ_norm ?_
                          refine Wp.seqN (by kernel_rfl) ?_
                          refine Wp.seqN (by kernel_rfl) ?_
                          refine Wp.reg tiok mix hc (by kernel_rfl) (ah := none) (rs := [some (.no), some (.no)]) (kt := [15, 16, 118]) (ko := []) (T' := [(15, .int .i64 r_23_2), (16, .int .i64 r_34_2), (118, .bool (decide (r_34_2 < 0)))]) (O' := []) (by kernel_rfl) trivial (by kernel_rfl) (by kernel_rfl) ?_
                          refine seqQ_norm ?_
                          rcases itesome h with ⟨hb_16, h⟩ | ⟨hb_16, h⟩
                          · refine Wp.condT (b := (decide (r_34_2 < 0))) (by kernel_rfl) (by kernel_rfl) hb_16 ?_
                            refine Wp.seqN (by kernel_rfl) ?_
                            refine Wp.reg tiok mix hc (by kernel_rfl) (ah := none) (rs := [some (.no)]) (kt := [6]) (ko := []) (T' := [(6, .bool false)]) (O' := []) (by kernel_rfl) trivial (by kernel_rfl) (by kernel_rfl) ?_
                            refine seqQ_norm ?_
                            refine Wp.retN (by kernel_rfl) ?_
                            refine seqQ_ret ?_
                            obtain rfl := Option.some.inj h
                            exact RetQ.ret (fl := [true]) (by kernel_rfl)
                          · refine Wp.condF (b := (decide (r_34_2 < 0))) (by kernel_rfl) (by kernel_rfl) hb_16 ?_
                            refine Wp.skipN (by kernel_rfl) ?_
                            refine seqQ_norm ?_
                            refine Wp.seqN (by kernel_rfl) ?_
                            refine Wp.seqN (by kernel_rfl) ?_
                            refine Wp.reg tiok mix hc (by kernel_rfl) (ah := none) (rs := [some (.no), some (.no), some (.no)]) (kt := [121]) (ko := []) (T' := [(121, .bool (r_34_2 != r_23_2))]) (O' := []) (by kernel_rfl) trivial (by kernel_rfl) (by kernel_rfl) ?_
                            refine seqQ_norm ?_
                            rcases itesome h with ⟨hb_17, h⟩ | ⟨hb_17, h⟩
                            · refine Wp.condT (b := (r_34_2 != r_23_2)) (by kernel_rfl) (by kernel_rfl) hb_17 ?_
                              refine Wp.seqN (by kernel_rfl) ?_
                              refine Wp.reg tiok mix hc (by kernel_rfl) (ah := none) (rs := [some (.no)]) (kt := [6]) (ko := []) (T' := [(6, .bool false)]) (O' := []) (by kernel_rfl) trivial (by kernel_rfl) (by kernel_rfl) ?_
                              refine seqQ_norm ?_
                              refine Wp.retN (by kernel_rfl) ?_
                              refine seqQ_ret ?_
                              obtain rfl := Option.some.inj h
                              exact RetQ.ret (fl := [true]) (by kernel_rfl)
                            · refine Wp.condF (b := (r_34_2 != r_23_2)) (by kernel_rfl) (by kernel_rfl) hb_17 ?_
                              refine Wp.skipN (by kernel_rfl) ?_
                              refine seqQ_norm ?_
                              refine Wp.seqN (by kernel_rfl) ?_
                              refine Wp.reg tiok mix hc (by kernel_rfl) (ah := none) (rs := [some (.no)]) (kt := [6]) (ko := []) (T' := [(6, .bool true)]) (O' := []) (by kernel_rfl) trivial (by kernel_rfl) (by kernel_rfl) ?_
                              refine seqQ_norm ?_
                              refine Wp.retN (by kernel_rfl) ?_
                              obtain rfl := Option.some.inj h
                              exact RetQ.ret (fl := [true]) (by kernel_rfl)
            · refine Wp.condT (b := (!r_15_3)) (by kernel_rfl) (by kernel_rfl) (nT hb_7) ?_
              refine Wp.seqN (by kernel_rfl) ?_
              refine Wp.reg tiok mix hc (by kernel_rfl) (ah := none) (rs := [some (.no)]) (kt := [6]) (ko := []) (T' := [(6, .bool false)]) (O' := []) (by kernel_rfl) trivial (by kernel_rfl) (by kernel_rfl) ?_
              refine seqQ_norm ?_
              refine Wp.retN (by kernel_rfl) ?_
              refine seqQ_ret ?_
              obtain rfl := Option.some.inj h
              exact RetQ.ret (fl := [true]) (by kernel_rfl)
          · refine Wp.condT (b := (!r_13_3)) (by kernel_rfl) (by kernel_rfl) (nT hb_6) ?_
            refine Wp.seqN (by kernel_rfl) ?_
            refine Wp.reg tiok mix hc (by kernel_rfl) (ah := none) (rs := [some (.no)]) (kt := [6]) (ko := []) (T' := [(6, .bool false)]) (O' := []) (by kernel_rfl) trivial (by kernel_rfl) (by kernel_rfl) ?_
            refine seqQ_norm ?_
            refine Wp.retN (by kernel_rfl) ?_
            refine seqQ_ret ?_
            obtain rfl := Option.some.inj h
            exact RetQ.ret (fl := [true]) (by kernel_rfl)
end Go.Am
