/- Functions of the program as pure functions, and that it computes them. Printed by a program of mine (gen.py). -/
import Derived.Test.YtlegifoeekcolaaGRAF4
set_option linter.unusedVariables false
set_option linter.unusedSimpArgs false
set_option maxRecDepth 100000
namespace Go.Am
open Go Go.Proofs
def laws_FnExactReplaceAt (p : GTerm × (List Int) × GTerm) : Option (Bool) :=
  match p with
  | (aT0, aPath1, aU2) =>
    if (decide ((aPath1.length : Int) > 1048576)) = true then
      some true
    else
      (laws_szTerm (aT0, 1048576)) >>= fun r_4_2 =>
      if (decide (r_4_2 < 0)) = true then
        some true
      else
        (laws_szTerm (aU2, r_4_2)) >>= fun r_7_2 =>
        if (decide (r_7_2 < 0)) = true then
          some true
        else
          (laws_toTerm aT0) >>= fun r_10_1 =>
          (laws_toIntS aPath1) >>= fun r_10_3 =>
          (laws_toTerm aU2) >>= fun r_10_5 =>
          (spec_ReplaceAt (r_10_1, r_10_3, r_10_5)) >>= fun (r_10_6_0, r_10_6_1) =>
          (laws_toTerm aT0) >>= fun r_11_1 =>
          (laws_toIntS aPath1) >>= fun r_12_1 =>
          (laws_toTerm aU2) >>= fun r_13_1 =>
          (impl_ReplaceAt (r_11_1, r_12_1, r_13_1)) >>= fun (r_14_3_0, r_14_3_1) =>
          (
            (laws_eqTerm (r_14_3_0, r_10_6_0)) >>= fun r_15_2 =>
            if r_15_2 = true then
              some ((!(r_14_3_1 == r_10_6_1)))
            else
              some (true)
          ) >>= fun v_4 =>
          if v_4 = true then
            some false
          else
            (laws_toTerm aT0) >>= fun r_17_2 =>
            (laws_eqTerm (r_11_1, r_17_2)) >>= fun r_17_3 =>
            if r_17_3 = true then
              (laws_toIntS aPath1) >>= fun r_19_2 =>
              (laws_eqIntS (r_12_1, r_19_2)) >>= fun r_19_3 =>
              if r_19_3 = true then
                (laws_toTerm aU2) >>= fun r_21_2 =>
                (laws_eqTerm (r_13_1, r_21_2)) >>= fun r_21_3 =>
                if r_21_3 = true then
                  (laws_markTerm (r_11_1, 1)) >>= fun (r_24_2, o_24_2_0) =>
                  (laws_markIntS (r_12_1, r_24_2)) >>= fun (r_25_2, o_25_2_0) =>
                  (laws_markTerm (r_13_1, r_25_2)) >>= fun (r_26_2, o_26_2_0) =>
                  (
                    if (decide (r_26_2 < 0)) = true then
                      some (true)
                    else
                      (laws_eqTerm (r_14_3_0, r_10_6_0)) >>= fun r_27_5 =>
                      if r_27_5 = true then
                        some ((!(r_14_3_1 == r_10_6_1)))
                      else
                        some (true)
                  ) >>= fun v_10 =>
                  if v_10 = true then
                    some false
                  else
                    (laws_markTerm (r_14_3_0, 1)) >>= fun (r_30_2, o_30_2_0) =>
                    (laws_heldTerm ((GTerm.mk r_14_3_0.fOp r_14_3_0.fN o_30_2_0.fType o_30_2_0.fKids), 1)) >>= fun r_32_2 =>
                    if (decide (r_32_2 < 0)) = true then
                      some false
                    else
                      if (r_32_2 != r_30_2) = true then
                        some false
                      else
                        (laws_toTerm aT0) >>= fun r_37_1 =>
                        (laws_toIntS aPath1) >>= fun r_37_3 =>
                        (laws_toTerm aU2) >>= fun r_37_5 =>
                        (impl_ReplaceAt (r_37_1, r_37_3, r_37_5)) >>= fun (r_37_6_0, r_37_6_1) =>
                        (
                          (laws_eqTerm (r_37_6_0, r_10_6_0)) >>= fun r_38_2 =>
                          if r_38_2 = true then
                            some ((!(r_37_6_1 == r_10_6_1)))
                          else
                            some (true)
                        ) >>= fun v_15 =>
                        if v_15 = true then
                          some false
                        else
                          (laws_heldTerm ((GTerm.mk r_14_3_0.fOp r_14_3_0.fN o_30_2_0.fType o_30_2_0.fKids), 1)) >>= fun r_41_2 =>
                          if (decide (r_41_2 < 0)) = true then
                            some false
                          else
                            if (r_41_2 != r_30_2) = true then
                              some false
                            else
                              some true
                else
                  some false
              else
                some false
            else
              some false
def M_laws_FnExactReplaceAt (p : GTerm × (List Int) × GTerm) (r : Bool) : Prop :=
  match p with
  | (aT0, aPath1, aU2) => FnSound Try.prog 10 [.agg [.int .i64 aT0.fOp, .int .i64 aT0.fN, .sl (List.map I aT0.fType), .sl (List.map GTerm_S aT0.fKids)], .sl (List.map I aPath1), .agg [.int .i64 aU2.fOp, .int .i64 aU2.fN, .sl (List.map I aU2.fType), .sl (List.map GTerm_S aU2.fKids)]] (.bool r) []
theorem laws_FnExactReplaceAt_s : ∀ p r, laws_FnExactReplaceAt p = some r → M_laws_FnExactReplaceAt p r := by
  rintro ⟨aT0, aPath1, aU2⟩ r h
  unfold laws_FnExactReplaceAt at h
  show FnSound Try.prog 10 [.agg [.int .i64 aT0.fOp, .int .i64 aT0.fN, .sl (List.map I aT0.fType), .sl (List.map GTerm_S aT0.fKids)], .sl (List.map I aPath1), .agg [.int .i64 aU2.fOp, .int .i64 aU2.fN, .sl (List.map I aU2.fType), .sl (List.map GTerm_S aU2.fKids)]] (.bool r) []
  refine FnSound.body0 tiok (fn := Try.f10) (code := B10) (by kernel_rfl) (by kernel_rfl) (by kernel_rfl) (by kernel_rfl) (nt := 140) (by kernel_rfl) (by kernel_rfl) (T := [(0, .agg [.int .i64 aT0.fOp, .int .i64 aT0.fN, .sl (List.map I aT0.fType), .sl (List.map GTerm_S aT0.fKids)]), (1, .sl (List.map I aPath1)), (2, .agg [.int .i64 aU2.fOp, .int .i64 aU2.fN, .sl (List.map I aU2.fType), .sl (List.map GTerm_S aU2.fKids)])]) (O := []) (by kernel_rfl) (by kernel_rfl) (fun c hc => ?_)
  refine Wp.seqN (by kernel_rfl) ?_
  refine Wp.reg tiok mix hc (by kernel_rfl) (ah := none) (rs := [some (.new 1), some (.new 2), some (.no)]) (kt := [1, 3, 5]) (ko := [1, 2]) (T' := [(1, .sl (List.map I aPath1)), (3, .ra 1 0), (5, .ra 2 0)]) (O' := [(1, .box [.int .i64 aT0.fOp, .int .i64 aT0.fN, .sl (List.map I aT0.fType), .sl (List.map GTerm_S aT0.fKids)]), (2, .box [.int .i64 aU2.fOp, .int .i64 aU2.fN, .sl (List.map I aU2.fType), .sl (List.map GTerm_S aU2.fKids)])]) (by kernel_rfl) trivial (by kernel_rfl) (by kernel_rfl) ?_
  refine seqQ_norm ?_
  refine Wp.seqN (by kernel_rfl) ?_
  refine Wp.seqN (by kernel_rfl) ?_
  refine Wp.reg tiok mix hc (by kernel_rfl) (ah := none) (rs := [some (.no), some (.eqv (.no) ⟨[(21, .int .i64 (aPath1.length : Int))], [], []⟩), some (.no)]) (kt := [1, 3, 5, 22]) (ko := [1, 2]) (T' := [(1, .sl (List.map I aPath1)), (3, .ra 1 0), (5, .ra 2 0), (22, .bool (decide ((aPath1.length : Int) > 1048576)))]) (O' := [(1, .box [.int .i64 aT0.fOp, .int .i64 aT0.fN, .sl (List.map I aT0.fType), .sl (List.map GTerm_S aT0.fKids)]), (2, .box [.int .i64 aU2.fOp, .int .i64 aU2.fN, .sl (List.map I aU2.fType), .sl (List.map GTerm_S aU2.fKids)])]) (by kernel_rfl) (And.intro (lenT (d := 21) I aPath1) trivial) (by kernel_rfl) (by kernel_rfl) ?_
  refine seqQ_norm ?_
  rcases itesome h with ⟨hb_1, h⟩ | ⟨hb_1, h⟩
  · refine Wp.condT (b := (decide ((aPath1.length : Int) > 1048576))) (by kernel_rfl) (by kernel_rfl) hb_1 ?_
    refine Wp.seqN (by kernel_rfl) ?_
    refine Wp.reg tiok mix hc (by kernel_rfl) (ah := none) (rs := [some (.no)]) (kt := [6]) (ko := []) (T' := [(6, .bool true)]) (O' := []) (by kernel_rfl) trivial (by kernel_rfl) (by kernel_rfl) ?_
    refine seqQ_norm ?_
    refine Wp.retN (by kernel_rfl) ?_
    refine seqQ_ret ?_
    obtain rfl := Option.some.inj h
    exact RetQ.ret (fl := [true]) (by kernel_rfl)
  · refine Wp.condF (b := (decide ((aPath1.length : Int) > 1048576))) (by kernel_rfl) (by kernel_rfl) hb_1 ?_
    refine Wp.skipN (by kernel_rfl) ?_
    refine seqQ_norm ?_
    refine Wp.seqN (by kernel_rfl) ?_
    refine Wp.reg tiok mix hc (by kernel_rfl) (ah := none) (rs := [some (.no)]) (kt := [1, 3, 5, 7]) (ko := [1, 2]) (T' := [(1, .sl (List.map I aPath1)), (3, .ra 1 0), (5, .ra 2 0), (7, .int .i64 1048576)]) (O' := [(1, .box [.int .i64 aT0.fOp, .int .i64 aT0.fN, .sl (List.map I aT0.fType), .sl (List.map GTerm_S aT0.fKids)]), (2, .box [.int .i64 aU2.fOp, .int .i64 aU2.fN, .sl (List.map I aU2.fType), .sl (List.map GTerm_S aU2.fKids)])]) (by kernel_rfl) trivial (by kernel_rfl) (by kernel_rfl) ?_
    refine seqQ_norm ?_
    refine Wp.seqN (by kernel_rfl) ?_
    obtain ⟨r_4_2, hr_4_2, h⟩ := bsome h
    refine Wp.reg tiok mix hc (by kernel_rfl) (ah := none) (rs := [some (.no), some (.no), some (.call (.int .i64 r_4_2) [] 1), some (.no)]) (kt := [1, 3, 5, 7]) (ko := [1, 2]) (T' := [(1, .sl (List.map I aPath1)), (3, .ra 1 0), (5, .ra 2 0), (7, .int .i64 r_4_2)]) (O' := [(1, .box [.int .i64 aT0.fOp, .int .i64 aT0.fN, .sl (List.map I aT0.fType), .sl (List.map GTerm_S aT0.fKids)]), (2, .box [.int .i64 aU2.fOp, .int .i64 aU2.fN, .sl (List.map I aU2.fType), .sl (List.map GTerm_S aU2.fKids)])]) (by kernel_rfl) (And.intro (laws_szTerm_s _ _ hr_4_2) (And.intro bod_19 (And.intro (Or.inl rfl : ([] : List Nat) = [] ∨ noSh (.int .i64 r_4_2) = true) trivial))) (by kernel_rfl) (by kernel_rfl) ?_
    refine seqQ_norm ?_
    refine Wp.seqN (by kernel_rfl) ?_
    refine Wp.seqN (by kernel_rfl) ?_
    refine Wp.reg tiok mix hc (by kernel_rfl) (ah := none) (rs := [some (.no), some (.no)]) (kt := [1, 3, 5, 7, 27]) (ko := [1, 2]) (T' := [(1, .sl (List.map I aPath1)), (3, .ra 1 0), (5, .ra 2 0), (7, .int .i64 r_4_2), (27, .bool (decide (r_4_2 < 0)))]) (O' := [(1, .box [.int .i64 aT0.fOp, .int .i64 aT0.fN, .sl (List.map I aT0.fType), .sl (List.map GTerm_S aT0.fKids)]), (2, .box [.int .i64 aU2.fOp, .int .i64 aU2.fN, .sl (List.map I aU2.fType), .sl (List.map GTerm_S aU2.fKids)])]) (by kernel_rfl) trivial (by kernel_rfl) (by kernel_rfl) ?_
    refine seqQ_norm ?_
    rcases itesome h with ⟨hb_2, h⟩ | ⟨hb_2, h⟩
    · refine Wp.condT (b := (decide (r_4_2 < 0))) (by kernel_rfl) (by kernel_rfl) hb_2 ?_
      refine Wp.seqN (by kernel_rfl) ?_
      refine Wp.reg tiok mix hc (by kernel_rfl) (ah := none) (rs := [some (.no)]) (kt := [6]) (ko := []) (T' := [(6, .bool true)]) (O' := []) (by kernel_rfl) trivial (by kernel_rfl) (by kernel_rfl) ?_
      refine seqQ_norm ?_
      refine Wp.retN (by kernel_rfl) ?_
      refine seqQ_ret ?_
      obtain rfl := Option.some.inj h
      exact RetQ.ret (fl := [true]) (by kernel_rfl)
    · refine Wp.condF (b := (decide (r_4_2 < 0))) (by kernel_rfl) (by kernel_rfl) hb_2 ?_
      refine Wp.skipN (by kernel_rfl) ?_
      refine seqQ_norm ?_
      refine Wp.seqN (by kernel_rfl) ?_
      obtain ⟨r_7_2, hr_7_2, h⟩ := bsome h
      refine Wp.reg tiok mix hc (by kernel_rfl) (ah := none) (rs := [some (.no), some (.no), some (.call (.int .i64 r_7_2) [] 1), some (.no)]) (kt := [1, 3, 5, 7]) (ko := [1, 2]) (T' := [(1, .sl (List.map I aPath1)), (3, .ra 1 0), (5, .ra 2 0), (7, .int .i64 r_7_2)]) (O' := [(1, .box [.int .i64 aT0.fOp, .int .i64 aT0.fN, .sl (List.map I aT0.fType), .sl (List.map GTerm_S aT0.fKids)]), (2, .box [.int .i64 aU2.fOp, .int .i64 aU2.fN, .sl (List.map I aU2.fType), .sl (List.map GTerm_S aU2.fKids)])]) (by kernel_rfl) (And.intro (laws_szTerm_s _ _ hr_7_2) (And.intro bod_19 (And.intro (Or.inl rfl : ([] : List Nat) = [] ∨ noSh (.int .i64 r_7_2) = true) trivial))) (by kernel_rfl) (by kernel_rfl) ?_
      refine seqQ_norm ?_
      refine Wp.seqN (by kernel_rfl) ?_
      refine Wp.seqN (by kernel_rfl) ?_
      refine Wp.reg tiok mix hc (by kernel_rfl) (ah := none) (rs := [some (.no), some (.no)]) (kt := [1, 3, 5, 32]) (ko := [1, 2]) (T' := [(1, .sl (List.map I aPath1)), (3, .ra 1 0), (5, .ra 2 0), (32, .bool (decide (r_7_2 < 0)))]) (O' := [(1, .box [.int .i64 aT0.fOp, .int .i64 aT0.fN, .sl (List.map I aT0.fType), .sl (List.map GTerm_S aT0.fKids)]), (2, .box [.int .i64 aU2.fOp, .int .i64 aU2.fN, .sl (List.map I aU2.fType), .sl (List.map GTerm_S aU2.fKids)])]) (by kernel_rfl) trivial (by kernel_rfl) (by kernel_rfl) ?_
      refine seqQ_norm ?_
      rcases itesome h with ⟨hb_3, h⟩ | ⟨hb_3, h⟩
      · refine Wp.condT (b := (decide (r_7_2 < 0))) (by kernel_rfl) (by kernel_rfl) hb_3 ?_
        refine Wp.seqN (by kernel_rfl) ?_
        refine Wp.reg tiok mix hc (by kernel_rfl) (ah := none) (rs := [some (.no)]) (kt := [6]) (ko := []) (T' := [(6, .bool true)]) (O' := []) (by kernel_rfl) trivial (by kernel_rfl) (by kernel_rfl) ?_
        refine seqQ_norm ?_
        refine Wp.retN (by kernel_rfl) ?_
        refine seqQ_ret ?_
        obtain rfl := Option.some.inj h
        exact RetQ.ret (fl := [true]) (by kernel_rfl)
      · refine Wp.condF (b := (decide (r_7_2 < 0))) (by kernel_rfl) (by kernel_rfl) hb_3 ?_
        refine Wp.skipN (by kernel_rfl) ?_
        refine seqQ_norm ?_
        refine Wp.seqN (by kernel_rfl) ?_
        obtain ⟨r_10_1, hr_10_1, h⟩ := bsome h
        obtain ⟨r_10_3, hr_10_3, h⟩ := bsome h
        obtain ⟨r_10_5, hr_10_5, h⟩ := bsome h
        obtain ⟨⟨r_10_6_0, r_10_6_1⟩, hr_10_6, h⟩ := bsome h
        refine Wp.reg tiok mix hc (by kernel_rfl) (ah := (some [[], [0], [], [0, 1, 2], [], [0, 1, 2, 3, 4], [0, 1, 2, 3, 4, 5], [0, 1, 2, 3, 4, 5, 6], [0, 1, 2, 3, 4, 5, 6, 7], [0, 1, 2, 3, 4, 5, 6, 7], [], [0, 1, 2, 3, 4, 5, 6, 7, 8, 10], [0, 1, 2, 3, 4, 5, 6, 7, 8, 9, 10, 11]])) (rs := [some (.no), some (.call (.agg [.int .i64 r_10_1.fOp, .int .i64 r_10_1.fN, .osl (List.map I r_10_1.fType), .osl (List.map GTerm_O r_10_1.fKids)]) [] 3), some (.no), some (.call (.osl (List.map I r_10_3)) [] 5), some (.no), some (.call (.agg [.int .i64 r_10_5.fOp, .int .i64 r_10_5.fN, .osl (List.map I r_10_5.fType), .osl (List.map GTerm_O r_10_5.fKids)]) [] 6), some (.call (.tup [.agg [.int .i64 r_10_6_0.fOp, .int .i64 r_10_6_0.fN, .osl (List.map I r_10_6_0.fType), .osl (List.map GTerm_O r_10_6_0.fKids)], .bool r_10_6_1]) [] 8), some (.no), some (.no), some (.no), some (.new 10), some (.no), some (.no)]) (kt := [1, 3, 5, 8, 9]) (ko := [1, 2, 8, 9, 10]) (T' := [(1, .sl (List.map I aPath1)), (3, .ra 1 0), (5, .ra 2 0), (8, .ra 10 0), (9, .bool r_10_6_1)]) (O' := [(1, .box [.int .i64 aT0.fOp, .int .i64 aT0.fN, .sl (List.map I aT0.fType), .sl (List.map GTerm_S aT0.fKids)]), (2, .box [.int .i64 aU2.fOp, .int .i64 aU2.fN, .sl (List.map I aU2.fType), .sl (List.map GTerm_S aU2.fKids)]), (8, .arr (List.map I r_10_6_0.fType)), (9, .arr (List.map GTerm_O r_10_6_0.fKids)), (10, .box [.int .i64 r_10_6_0.fOp, .int .i64 r_10_6_0.fN, .rs 8, .rs 9])]) (by kernel_rfl) (And.intro (laws_toTerm_s _ _ hr_10_1) (And.intro bod_21 (And.intro (Or.inl rfl : ([] : List Nat) = [] ∨ noSh (.agg [.int .i64 r_10_1.fOp, .int .i64 r_10_1.fN, .osl (List.map I r_10_1.fType), .osl (List.map GTerm_O r_10_1.fKids)]) = true) (And.intro (laws_toIntS_s _ _ hr_10_3) (And.intro bod_27 (And.intro (Or.inl rfl : ([] : List Nat) = [] ∨ noSh (.osl (List.map I r_10_3)) = true) (And.intro (laws_toTerm_s _ _ hr_10_5) (And.intro bod_21 (And.intro (Or.inl rfl : ([] : List Nat) = [] ∨ noSh (.agg [.int .i64 r_10_5.fOp, .int .i64 r_10_5.fN, .osl (List.map I r_10_5.fType), .osl (List.map GTerm_O r_10_5.fKids)]) = true) (And.intro (FnSound.args (A1 := [.agg [.int .i64 r_10_1.fOp, .int .i64 r_10_1.fN, .sl (shares (List.map I r_10_1.fType)), .sl (shares (List.map GTerm_O r_10_1.fKids))], .sl (shares (List.map I r_10_3)), .agg [.int .i64 r_10_5.fOp, .int .i64 r_10_5.fN, .sl (shares (List.map I r_10_5.fType)), .sl (shares (List.map GTerm_O r_10_5.fKids))]]) (A2 := [.agg [.int .i64 r_10_1.fOp, .int .i64 r_10_1.fN, .sl (List.map I r_10_1.fType), .sl (List.map GTerm_S r_10_1.fKids)], .sl (List.map I r_10_3), .agg [.int .i64 r_10_5.fOp, .int .i64 r_10_5.fN, .sl (List.map I r_10_5.fType), .sl (List.map GTerm_S r_10_5.fKids)]]) (by simp only [List.map_nil, sh_GTerm_O, sh_I]) (spec_ReplaceAt_s _ _ hr_10_6)) (And.intro bod_42 (And.intro (Or.inr (nsh_cons (nsh_cons rfl (nsh_cons rfl (nsh_cons (nsh_row nsh_I r_10_6_0.fType) (nsh_cons (nsh_row nsh_GTerm_O r_10_6_0.fKids) rfl)))) (nsh_cons rfl rfl)) : ([3, 4, 5, 6, 7] : List Nat) = [] ∨ noSh (.tup [.agg [.int .i64 r_10_6_0.fOp, .int .i64 r_10_6_0.fN, .osl (List.map I r_10_6_0.fType), .osl (List.map GTerm_O r_10_6_0.fKids)], .bool r_10_6_1]) = true) trivial)))))))))))) (by kernel_rfl) (by kernel_rfl) ?_
        refine seqQ_norm ?_
        refine Wp.seqN (by kernel_rfl) ?_
        obtain ⟨r_11_1, hr_11_1, h⟩ := bsome h
        refine Wp.reg tiok mix hc (by kernel_rfl) (ah := none) (rs := [some (.no), some (.call (.agg [.int .i64 r_11_1.fOp, .int .i64 r_11_1.fN, .osl (List.map I r_11_1.fType), .osl (List.map GTerm_O r_11_1.fKids)]) [] 11), some (.new 13), some (.no)]) (kt := [1, 3, 5, 8, 9, 10]) (ko := [1, 2, 8, 9, 10, 11, 12, 13]) (T' := [(1, .sl (List.map I aPath1)), (3, .ra 1 0), (5, .ra 2 0), (8, .ra 10 0), (9, .bool r_10_6_1), (10, .ra 13 0)]) (O' := [(1, .box [.int .i64 aT0.fOp, .int .i64 aT0.fN, .sl (List.map I aT0.fType), .sl (List.map GTerm_S aT0.fKids)]), (2, .box [.int .i64 aU2.fOp, .int .i64 aU2.fN, .sl (List.map I aU2.fType), .sl (List.map GTerm_S aU2.fKids)]), (8, .arr (List.map I r_10_6_0.fType)), (9, .arr (List.map GTerm_O r_10_6_0.fKids)), (10, .box [.int .i64 r_10_6_0.fOp, .int .i64 r_10_6_0.fN, .rs 8, .rs 9]), (11, .arr (List.map I r_11_1.fType)), (12, .arr (List.map GTerm_O r_11_1.fKids)), (13, .box [.int .i64 r_11_1.fOp, .int .i64 r_11_1.fN, .rs 11, .rs 12])]) (by kernel_rfl) (And.intro (laws_toTerm_s _ _ hr_11_1) (And.intro bod_21 (And.intro (Or.inl rfl : ([] : List Nat) = [] ∨ noSh (.agg [.int .i64 r_11_1.fOp, .int .i64 r_11_1.fN, .osl (List.map I r_11_1.fType), .osl (List.map GTerm_O r_11_1.fKids)]) = true) trivial))) (by kernel_rfl) (by kernel_rfl) ?_
        refine seqQ_norm ?_
        refine Wp.seqN (by kernel_rfl) ?_
        obtain ⟨r_12_1, hr_12_1, h⟩ := bsome h
        refine Wp.reg tiok mix hc (by kernel_rfl) (ah := none) (rs := [some (.no), some (.call (.osl (List.map I r_12_1)) [] 14), some (.no)]) (kt := [1, 3, 5, 8, 9, 10, 11]) (ko := [1, 2, 8, 9, 10, 11, 12, 13, 14]) (T' := [(1, .sl (List.map I aPath1)), (3, .ra 1 0), (5, .ra 2 0), (8, .ra 10 0), (9, .bool r_10_6_1), (10, .ra 13 0), (11, .rs 14)]) (O' := [(1, .box [.int .i64 aT0.fOp, .int .i64 aT0.fN, .sl (List.map I aT0.fType), .sl (List.map GTerm_S aT0.fKids)]), (2, .box [.int .i64 aU2.fOp, .int .i64 aU2.fN, .sl (List.map I aU2.fType), .sl (List.map GTerm_S aU2.fKids)]), (8, .arr (List.map I r_10_6_0.fType)), (9, .arr (List.map GTerm_O r_10_6_0.fKids)), (10, .box [.int .i64 r_10_6_0.fOp, .int .i64 r_10_6_0.fN, .rs 8, .rs 9]), (11, .arr (List.map I r_11_1.fType)), (12, .arr (List.map GTerm_O r_11_1.fKids)), (13, .box [.int .i64 r_11_1.fOp, .int .i64 r_11_1.fN, .rs 11, .rs 12]), (14, .arr (List.map I r_12_1))]) (by kernel_rfl) (And.intro (laws_toIntS_s _ _ hr_12_1) (And.intro bod_27 (And.intro (Or.inl rfl : ([] : List Nat) = [] ∨ noSh (.osl (List.map I r_12_1)) = true) trivial))) (by kernel_rfl) (by kernel_rfl) ?_
        refine seqQ_norm ?_
        refine Wp.seqN (by kernel_rfl) ?_
        obtain ⟨r_13_1, hr_13_1, h⟩ := bsome h
        refine Wp.reg tiok mix hc (by kernel_rfl) (ah := none) (rs := [some (.no), some (.call (.agg [.int .i64 r_13_1.fOp, .int .i64 r_13_1.fN, .osl (List.map I r_13_1.fType), .osl (List.map GTerm_O r_13_1.fKids)]) [] 15), some (.new 17), some (.no)]) (kt := [1, 3, 5, 8, 9, 10, 11, 12]) (ko := [1, 2, 8, 9, 10, 11, 12, 13, 14, 15, 16, 17]) (T' := [(1, .sl (List.map I aPath1)), (3, .ra 1 0), (5, .ra 2 0), (8, .ra 10 0), (9, .bool r_10_6_1), (10, .ra 13 0), (11, .rs 14), (12, .ra 17 0)]) (O' := [(1, .box [.int .i64 aT0.fOp, .int .i64 aT0.fN, .sl (List.map I aT0.fType), .sl (List.map GTerm_S aT0.fKids)]), (2, .box [.int .i64 aU2.fOp, .int .i64 aU2.fN, .sl (List.map I aU2.fType), .sl (List.map GTerm_S aU2.fKids)]), (8, .arr (List.map I r_10_6_0.fType)), (9, .arr (List.map GTerm_O r_10_6_0.fKids)), (10, .box [.int .i64 r_10_6_0.fOp, .int .i64 r_10_6_0.fN, .rs 8, .rs 9]), (11, .arr (List.map I r_11_1.fType)), (12, .arr (List.map GTerm_O r_11_1.fKids)), (13, .box [.int .i64 r_11_1.fOp, .int .i64 r_11_1.fN, .rs 11, .rs 12]), (14, .arr (List.map I r_12_1)), (15, .arr (List.map I r_13_1.fType)), (16, .arr (List.map GTerm_O r_13_1.fKids)), (17, .box [.int .i64 r_13_1.fOp, .int .i64 r_13_1.fN, .rs 15, .rs 16])]) (by kernel_rfl) (And.intro (laws_toTerm_s _ _ hr_13_1) (And.intro bod_21 (And.intro (Or.inl rfl : ([] : List Nat) = [] ∨ noSh (.agg [.int .i64 r_13_1.fOp, .int .i64 r_13_1.fN, .osl (List.map I r_13_1.fType), .osl (List.map GTerm_O r_13_1.fKids)]) = true) trivial))) (by kernel_rfl) (by kernel_rfl) ?_
        refine seqQ_norm ?_
        refine Wp.seqN (by kernel_rfl) ?_
        obtain ⟨⟨r_14_3_0, r_14_3_1⟩, hr_14_3, h⟩ := bsome h
        refine Wp.reg tiok mix hc (by kernel_rfl) (ah := none) (rs := [some (.no), some (.no), some (.no), some (.call (.tup [.agg [.int .i64 r_14_3_0.fOp, .int .i64 r_14_3_0.fN, .osl (List.map I r_14_3_0.fType), .osl (List.map GTerm_O r_14_3_0.fKids)], .bool r_14_3_1]) [] 18), some (.no), some (.no), some (.no), some (.new 20), some (.no), some (.no)]) (kt := [1, 3, 5, 8, 9, 10, 11, 12, 13, 14]) (ko := [1, 2, 8, 9, 10, 11, 12, 13, 14, 15, 16, 17, 18, 19, 20]) (T' := [(1, .sl (List.map I aPath1)), (3, .ra 1 0), (5, .ra 2 0), (8, .ra 10 0), (9, .bool r_10_6_1), (10, .ra 13 0), (11, .rs 14), (12, .ra 17 0), (13, .ra 20 0), (14, .bool r_14_3_1)]) (O' := [(1, .box [.int .i64 aT0.fOp, .int .i64 aT0.fN, .sl (List.map I aT0.fType), .sl (List.map GTerm_S aT0.fKids)]), (2, .box [.int .i64 aU2.fOp, .int .i64 aU2.fN, .sl (List.map I aU2.fType), .sl (List.map GTerm_S aU2.fKids)]), (8, .arr (List.map I r_10_6_0.fType)), (9, .arr (List.map GTerm_O r_10_6_0.fKids)), (10, .box [.int .i64 r_10_6_0.fOp, .int .i64 r_10_6_0.fN, .rs 8, .rs 9]), (11, .arr (List.map I r_11_1.fType)), (12, .arr (List.map GTerm_O r_11_1.fKids)), (13, .box [.int .i64 r_11_1.fOp, .int .i64 r_11_1.fN, .rs 11, .rs 12]), (14, .arr (List.map I r_12_1)), (15, .arr (List.map I r_13_1.fType)), (16, .arr (List.map GTerm_O r_13_1.fKids)), (17, .box [.int .i64 r_13_1.fOp, .int .i64 r_13_1.fN, .rs 15, .rs 16]), (18, .arr (List.map I r_14_3_0.fType)), (19, .arr (List.map GTerm_O r_14_3_0.fKids)), (20, .box [.int .i64 r_14_3_0.fOp, .int .i64 r_14_3_0.fN, .rs 18, .rs 19])]) (by kernel_rfl) (And.intro (FnSound.args (A1 := [.agg [.int .i64 r_11_1.fOp, .int .i64 r_11_1.fN, .sl (shares (List.map I r_11_1.fType)), .sl (shares (List.map GTerm_O r_11_1.fKids))], .sl (shares (List.map I r_12_1)), .agg [.int .i64 r_13_1.fOp, .int .i64 r_13_1.fN, .sl (shares (List.map I r_13_1.fType)), .sl (shares (List.map GTerm_O r_13_1.fKids))]]) (A2 := [.agg [.int .i64 r_11_1.fOp, .int .i64 r_11_1.fN, .sl (List.map I r_11_1.fType), .sl (List.map GTerm_S r_11_1.fKids)], .sl (List.map I r_12_1), .agg [.int .i64 r_13_1.fOp, .int .i64 r_13_1.fN, .sl (List.map I r_13_1.fType), .sl (List.map GTerm_S r_13_1.fKids)]]) (by simp only [List.map_nil, sh_GTerm_O, sh_I]) (impl_ReplaceAt_s _ _ hr_14_3)) (And.intro bod_43 (And.intro (Or.inr (nsh_cons (nsh_cons rfl (nsh_cons rfl (nsh_cons (nsh_row nsh_I r_14_3_0.fType) (nsh_cons (nsh_row nsh_GTerm_O r_14_3_0.fKids) rfl)))) (nsh_cons rfl rfl)) : ([11, 12, 14, 15, 16] : List Nat) = [] ∨ noSh (.tup [.agg [.int .i64 r_14_3_0.fOp, .int .i64 r_14_3_0.fN, .osl (List.map I r_14_3_0.fType), .osl (List.map GTerm_O r_14_3_0.fKids)], .bool r_14_3_1]) = true) trivial))) (by kernel_rfl) (by kernel_rfl) ?_
        refine seqQ_norm ?_
        refine Wp.seqN (by kernel_rfl) ?_
        refine Wp.seqN (by kernel_rfl) ?_
        obtain ⟨v_4, hj_5, h⟩ := bsome h
        refine Wp.into (x := .normal) (mkS [(1, .sl (List.map I aPath1)), (3, .ra 1 0), (5, .ra 2 0), (8, .ra 10 0), (9, .bool r_10_6_1), (10, .ra 13 0), (11, .rs 14), (12, .ra 17 0), (13, .ra 20 0), (14, .bool r_14_3_1), (64, .bool v_4)] [(1, .box [.int .i64 aT0.fOp, .int .i64 aT0.fN, .sl (List.map I aT0.fType), .sl (List.map GTerm_S aT0.fKids)]), (2, .box [.int .i64 aU2.fOp, .int .i64 aU2.fN, .sl (List.map I aU2.fType), .sl (List.map GTerm_S aU2.fKids)]), (8, .arr (List.map I r_10_6_0.fType)), (9, .arr (List.map GTerm_O r_10_6_0.fKids)), (10, .box [.int .i64 r_10_6_0.fOp, .int .i64 r_10_6_0.fN, .rs 8, .rs 9]), (11, .arr (List.map I r_11_1.fType)), (12, .arr (List.map GTerm_O r_11_1.fKids)), (13, .box [.int .i64 r_11_1.fOp, .int .i64 r_11_1.fN, .rs 11, .rs 12]), (14, .arr (List.map I r_12_1)), (15, .arr (List.map I r_13_1.fType)), (16, .arr (List.map GTerm_O r_13_1.fKids)), (17, .box [.int .i64 r_13_1.fOp, .int .i64 r_13_1.fN, .rs 15, .rs 16]), (18, .arr (List.map I r_14_3_0.fType)), (19, .arr (List.map GTerm_O r_14_3_0.fKids)), (20, .box [.int .i64 r_14_3_0.fOp, .int .i64 r_14_3_0.fN, .rs 18, .rs 19])]) ?_ ?_
        · replace h := hj_5
          obtain ⟨r_15_2, hr_15_2, h⟩ := bsome h
          rcases itesome h with ⟨hb_15_0, h⟩ | ⟨hb_15_0, h⟩
          · refine Wp.reg tiok mix hc (by kernel_rfl) (ah := none) (rs := [some (.no), some (.no), some (.call (.bool r_15_2) [] 1), some (.no), some (.no), some (.no), some (.no), some (.no), some (.cond false)]) (kt := [1, 3, 5, 8, 9, 10, 11, 12, 13, 14, 64]) (ko := [1, 2, 8, 9, 10, 11, 12, 13, 14, 15, 16, 17, 18, 19, 20]) (T' := [(1, .sl (List.map I aPath1)), (3, .ra 1 0), (5, .ra 2 0), (8, .ra 10 0), (9, .bool r_10_6_1), (10, .ra 13 0), (11, .rs 14), (12, .ra 17 0), (13, .ra 20 0), (14, .bool r_14_3_1), (64, .bool (!(r_14_3_1 == r_10_6_1)))]) (O' := [(1, .box [.int .i64 aT0.fOp, .int .i64 aT0.fN, .sl (List.map I aT0.fType), .sl (List.map GTerm_S aT0.fKids)]), (2, .box [.int .i64 aU2.fOp, .int .i64 aU2.fN, .sl (List.map I aU2.fType), .sl (List.map GTerm_S aU2.fKids)]), (8, .arr (List.map I r_10_6_0.fType)), (9, .arr (List.map GTerm_O r_10_6_0.fKids)), (10, .box [.int .i64 r_10_6_0.fOp, .int .i64 r_10_6_0.fN, .rs 8, .rs 9]), (11, .arr (List.map I r_11_1.fType)), (12, .arr (List.map GTerm_O r_11_1.fKids)), (13, .box [.int .i64 r_11_1.fOp, .int .i64 r_11_1.fN, .rs 11, .rs 12]), (14, .arr (List.map I r_12_1)), (15, .arr (List.map I r_13_1.fType)), (16, .arr (List.map GTerm_O r_13_1.fKids)), (17, .box [.int .i64 r_13_1.fOp, .int .i64 r_13_1.fN, .rs 15, .rs 16]), (18, .arr (List.map I r_14_3_0.fType)), (19, .arr (List.map GTerm_O r_14_3_0.fKids)), (20, .box [.int .i64 r_14_3_0.fOp, .int .i64 r_14_3_0.fN, .rs 18, .rs 19])]) (by kernel_rfl) (And.intro (FnSound.args (A1 := [.agg [.int .i64 r_14_3_0.fOp, .int .i64 r_14_3_0.fN, .sl (shares (List.map I r_14_3_0.fType)), .sl (shares (List.map GTerm_O r_14_3_0.fKids))], .agg [.int .i64 r_10_6_0.fOp, .int .i64 r_10_6_0.fN, .sl (shares (List.map I r_10_6_0.fType)), .sl (shares (List.map GTerm_O r_10_6_0.fKids))]]) (A2 := [.agg [.int .i64 r_14_3_0.fOp, .int .i64 r_14_3_0.fN, .sl (List.map I r_14_3_0.fType), .sl (List.map GTerm_S r_14_3_0.fKids)], .agg [.int .i64 r_10_6_0.fOp, .int .i64 r_10_6_0.fN, .sl (List.map I r_10_6_0.fType), .sl (List.map GTerm_S r_10_6_0.fKids)]]) (by simp only [List.map_nil, sh_GTerm_O, sh_I]) (laws_eqTerm_s _ _ hr_15_2)) (And.intro bod_23 (And.intro (Or.inr rfl : ([18, 19, 8, 9] : List Nat) = [] ∨ noSh (.bool r_15_2) = true) (And.intro (nF hb_15_0) (And.intro (nF hb_15_0) (And.intro (nF hb_15_0) (And.intro (nF hb_15_0) trivial))))))) (by kernel_rfl) (by kernel_rfl) ?_
            obtain rfl := Option.some.inj h
            exact Into.mk
          · refine Wp.reg tiok mix hc (by kernel_rfl) (ah := none) (rs := [some (.no), some (.no), some (.call (.bool r_15_2) [] 1), some (.no), some (.no), none, none, none, some (.cond true)]) (kt := [1, 3, 5, 8, 9, 10, 11, 12, 13, 14, 64]) (ko := [1, 2, 8, 9, 10, 11, 12, 13, 14, 15, 16, 17, 18, 19, 20]) (T' := [(1, .sl (List.map I aPath1)), (3, .ra 1 0), (5, .ra 2 0), (8, .ra 10 0), (9, .bool r_10_6_1), (10, .ra 13 0), (11, .rs 14), (12, .ra 17 0), (13, .ra 20 0), (14, .bool r_14_3_1), (64, .bool true)]) (O' := [(1, .box [.int .i64 aT0.fOp, .int .i64 aT0.fN, .sl (List.map I aT0.fType), .sl (List.map GTerm_S aT0.fKids)]), (2, .box [.int .i64 aU2.fOp, .int .i64 aU2.fN, .sl (List.map I aU2.fType), .sl (List.map GTerm_S aU2.fKids)]), (8, .arr (List.map I r_10_6_0.fType)), (9, .arr (List.map GTerm_O r_10_6_0.fKids)), (10, .box [.int .i64 r_10_6_0.fOp, .int .i64 r_10_6_0.fN, .rs 8, .rs 9]), (11, .arr (List.map I r_11_1.fType)), (12, .arr (List.map GTerm_O r_11_1.fKids)), (13, .box [.int .i64 r_11_1.fOp, .int .i64 r_11_1.fN, .rs 11, .rs 12]), (14, .arr (List.map I r_12_1)), (15, .arr (List.map I r_13_1.fType)), (16, .arr (List.map GTerm_O r_13_1.fKids)), (17, .box [.int .i64 r_13_1.fOp, .int .i64 r_13_1.fN, .rs 15, .rs 16]), (18, .arr (List.map I r_14_3_0.fType)), (19, .arr (List.map GTerm_O r_14_3_0.fKids)), (20, .box [.int .i64 r_14_3_0.fOp, .int .i64 r_14_3_0.fN, .rs 18, .rs 19])]) (by kernel_rfl) (And.intro (FnSound.args (A1 := [.agg [.int .i64 r_14_3_0.fOp, .int .i64 r_14_3_0.fN, .sl (shares (List.map I r_14_3_0.fType)), .sl (shares (List.map GTerm_O r_14_3_0.fKids))], .agg [.int .i64 r_10_6_0.fOp, .int .i64 r_10_6_0.fN, .sl (shares (List.map I r_10_6_0.fType)), .sl (shares (List.map GTerm_O r_10_6_0.fKids))]]) (A2 := [.agg [.int .i64 r_14_3_0.fOp, .int .i64 r_14_3_0.fN, .sl (List.map I r_14_3_0.fType), .sl (List.map GTerm_S r_14_3_0.fKids)], .agg [.int .i64 r_10_6_0.fOp, .int .i64 r_10_6_0.fN, .sl (List.map I r_10_6_0.fType), .sl (List.map GTerm_S r_10_6_0.fKids)]]) (by simp only [List.map_nil, sh_GTerm_O, sh_I]) (laws_eqTerm_s _ _ hr_15_2)) (And.intro bod_23 (And.intro (Or.inr rfl : ([18, 19, 8, 9] : List Nat) = [] ∨ noSh (.bool r_15_2) = true) (And.intro (neF (nT hb_15_0) : (!r_15_2) ≠ false) (And.intro (neF (nT hb_15_0) : (!r_15_2) ≠ false) (And.intro (neF (nT hb_15_0) : (!r_15_2) ≠ false) (And.intro (nT hb_15_0) trivial))))))) (by kernel_rfl) (by kernel_rfl) ?_
            obtain rfl := Option.some.inj h
            exact Into.mk
        · clear hj_5
          refine seqQ_norm ?_
          rcases itesome h with ⟨hb_6, h⟩ | ⟨hb_6, h⟩
          · refine Wp.condT (b := v_4) (by kernel_rfl) (by kernel_rfl) hb_6 ?_
            refine Wp.seqN (by kernel_rfl) ?_
            refine Wp.reg tiok mix hc (by kernel_rfl) (ah := none) (rs := [some (.no)]) (kt := [6]) (ko := []) (T' := [(6, .bool false)]) (O' := []) (by kernel_rfl) trivial (by kernel_rfl) (by kernel_rfl) ?_
            refine seqQ_norm ?_
            refine Wp.retN (by kernel_rfl) ?_
            refine seqQ_ret ?_
            obtain rfl := Option.some.inj h
            exact RetQ.ret (fl := [true]) (by kernel_rfl)
          · refine Wp.condF (b := v_4) (by kernel_rfl) (by kernel_rfl) hb_6 ?_
            refine Wp.skipN (by kernel_rfl) ?_
            refine seqQ_norm ?_
            refine Wp.seqN (by kernel_rfl) ?_
            refine Wp.seqN (by kernel_rfl) ?_
            obtain ⟨r_17_2, hr_17_2, h⟩ := bsome h
            obtain ⟨r_17_3, hr_17_3, h⟩ := bsome h
            refine Wp.reg tiok mix hc (by kernel_rfl) (ah := (some [[], [], [1], [0, 1, 2], [0, 1, 2, 3]])) (rs := [some (.no), some (.no), some (.call (.agg [.int .i64 r_17_2.fOp, .int .i64 r_17_2.fN, .osl (List.map I r_17_2.fType), .osl (List.map GTerm_O r_17_2.fKids)]) [] 21), some (.call (.bool r_17_3) [] 1), some (.no)]) (kt := [1, 3, 5, 8, 9, 10, 11, 12, 13, 14, 69]) (ko := [1, 2, 8, 9, 10, 11, 12, 13, 14, 15, 16, 17, 18, 19, 20]) (T' := [(1, .sl (List.map I aPath1)), (3, .ra 1 0), (5, .ra 2 0), (8, .ra 10 0), (9, .bool r_10_6_1), (10, .ra 13 0), (11, .rs 14), (12, .ra 17 0), (13, .ra 20 0), (14, .bool r_14_3_1), (69, .bool (!r_17_3))]) (O' := [(1, .box [.int .i64 aT0.fOp, .int .i64 aT0.fN, .sl (List.map I aT0.fType), .sl (List.map GTerm_S aT0.fKids)]), (2, .box [.int .i64 aU2.fOp, .int .i64 aU2.fN, .sl (List.map I aU2.fType), .sl (List.map GTerm_S aU2.fKids)]), (8, .arr (List.map I r_10_6_0.fType)), (9, .arr (List.map GTerm_O r_10_6_0.fKids)), (10, .box [.int .i64 r_10_6_0.fOp, .int .i64 r_10_6_0.fN, .rs 8, .rs 9]), (11, .arr (List.map I r_11_1.fType)), (12, .arr (List.map GTerm_O r_11_1.fKids)), (13, .box [.int .i64 r_11_1.fOp, .int .i64 r_11_1.fN, .rs 11, .rs 12]), (14, .arr (List.map I r_12_1)), (15, .arr (List.map I r_13_1.fType)), (16, .arr (List.map GTerm_O r_13_1.fKids)), (17, .box [.int .i64 r_13_1.fOp, .int .i64 r_13_1.fN, .rs 15, .rs 16]), (18, .arr (List.map I r_14_3_0.fType)), (19, .arr (List.map GTerm_O r_14_3_0.fKids)), (20, .box [.int .i64 r_14_3_0.fOp, .int .i64 r_14_3_0.fN, .rs 18, .rs 19])]) (by kernel_rfl) (And.intro (laws_toTerm_s _ _ hr_17_2) (And.intro bod_21 (And.intro (Or.inl rfl : ([] : List Nat) = [] ∨ noSh (.agg [.int .i64 r_17_2.fOp, .int .i64 r_17_2.fN, .osl (List.map I r_17_2.fType), .osl (List.map GTerm_O r_17_2.fKids)]) = true) (And.intro (FnSound.args (A1 := [.agg [.int .i64 r_11_1.fOp, .int .i64 r_11_1.fN, .sl (shares (List.map I r_11_1.fType)), .sl (shares (List.map GTerm_O r_11_1.fKids))], .agg [.int .i64 r_17_2.fOp, .int .i64 r_17_2.fN, .sl (shares (List.map I r_17_2.fType)), .sl (shares (List.map GTerm_O r_17_2.fKids))]]) (A2 := [.agg [.int .i64 r_11_1.fOp, .int .i64 r_11_1.fN, .sl (List.map I r_11_1.fType), .sl (List.map GTerm_S r_11_1.fKids)], .agg [.int .i64 r_17_2.fOp, .int .i64 r_17_2.fN, .sl (List.map I r_17_2.fType), .sl (List.map GTerm_S r_17_2.fKids)]]) (by simp only [List.map_nil, sh_GTerm_O, sh_I]) (laws_eqTerm_s _ _ hr_17_3)) (And.intro bod_23 (And.intro (Or.inr rfl : ([11, 12, 21, 22] : List Nat) = [] ∨ noSh (.bool r_17_3) = true) trivial)))))) (by kernel_rfl) (by kernel_rfl) ?_
            refine seqQ_norm ?_
            rcases itesome h with ⟨hb_7, h⟩ | ⟨hb_7, h⟩
            · refine Wp.condF (b := (!r_17_3)) (by kernel_rfl) (by kernel_rfl) (nF hb_7) ?_
              refine Wp.skipN (by kernel_rfl) ?_
              refine seqQ_norm ?_
              refine Wp.seqN (by kernel_rfl) ?_
              refine Wp.seqN (by kernel_rfl) ?_
              obtain ⟨r_19_2, hr_19_2, h⟩ := bsome h
              obtain ⟨r_19_3, hr_19_3, h⟩ := bsome h
              refine Wp.reg tiok mix hc (by kernel_rfl) (ah := none) (rs := [some (.no), some (.no), some (.call (.osl (List.map I r_19_2)) [] 23), some (.call (.bool r_19_3) [] 1), some (.no)]) (kt := [1, 3, 5, 8, 9, 10, 11, 12, 13, 14, 74]) (ko := [1, 2, 8, 9, 10, 11, 12, 13, 14, 15, 16, 17, 18, 19, 20]) (T' := [(1, .sl (List.map I aPath1)), (3, .ra 1 0), (5, .ra 2 0), (8, .ra 10 0), (9, .bool r_10_6_1), (10, .ra 13 0), (11, .rs 14), (12, .ra 17 0), (13, .ra 20 0), (14, .bool r_14_3_1), (74, .bool (!r_19_3))]) (O' := [(1, .box [.int .i64 aT0.fOp, .int .i64 aT0.fN, .sl (List.map I aT0.fType), .sl (List.map GTerm_S aT0.fKids)]), (2, .box [.int .i64 aU2.fOp, .int .i64 aU2.fN, .sl (List.map I aU2.fType), .sl (List.map GTerm_S aU2.fKids)]), (8, .arr (List.map I r_10_6_0.fType)), (9, .arr (List.map GTerm_O r_10_6_0.fKids)), (10, .box [.int .i64 r_10_6_0.fOp, .int .i64 r_10_6_0.fN, .rs 8, .rs 9]), (11, .arr (List.map I r_11_1.fType)), (12, .arr (List.map GTerm_O r_11_1.fKids)), (13, .box [.int .i64 r_11_1.fOp, .int .i64 r_11_1.fN, .rs 11, .rs 12]), (14, .arr (List.map I r_12_1)), (15, .arr (List.map I r_13_1.fType)), (16, .arr (List.map GTerm_O r_13_1.fKids)), (17, .box [.int .i64 r_13_1.fOp, .int .i64 r_13_1.fN, .rs 15, .rs 16]), (18, .arr (List.map I r_14_3_0.fType)), (19, .arr (List.map GTerm_O r_14_3_0.fKids)), (20, .box [.int .i64 r_14_3_0.fOp, .int .i64 r_14_3_0.fN, .rs 18, .rs 19])]) (by kernel_rfl) (And.intro (laws_toIntS_s _ _ hr_19_2) (And.intro bod_27 (And.intro (Or.inl rfl : ([] : List Nat) = [] ∨ noSh (.osl (List.map I r_19_2)) = true) (And.intro (FnSound.args (A1 := [.sl (shares (List.map I r_12_1)), .sl (shares (List.map I r_19_2))]) (A2 := [.sl (List.map I r_12_1), .sl (List.map I r_19_2)]) (by simp only [List.map_nil, sh_I]) (laws_eqIntS_s _ _ hr_19_3)) (And.intro bod_29 (And.intro (Or.inr rfl : ([14, 23] : List Nat) = [] ∨ noSh (.bool r_19_3) = true) trivial)))))) (by kernel_rfl) (by kernel_rfl) ?_
              refine seqQ_norm ?_
              rcases itesome h with ⟨hb_8, h⟩ | ⟨hb_8, h⟩
              · refine Wp.condF (b := (!r_19_3)) (by kernel_rfl) (by kernel_rfl) (nF hb_8) ?_
                refine Wp.skipN (by kernel_rfl) ?_
                refine seqQ_norm ?_
                refine Wp.seqN (by kernel_rfl) ?_
                refine Wp.seqN (by kernel_rfl) ?_
                obtain ⟨r_21_2, hr_21_2, h⟩ := bsome h
                obtain ⟨r_21_3, hr_21_3, h⟩ := bsome h
                refine Wp.reg tiok mix hc (by kernel_rfl) (ah := (some [[], [], [1], [0, 1, 2], [0, 1, 2, 3]])) (rs := [some (.no), some (.no), some (.call (.agg [.int .i64 r_21_2.fOp, .int .i64 r_21_2.fN, .osl (List.map I r_21_2.fType), .osl (List.map GTerm_O r_21_2.fKids)]) [] 24), some (.call (.bool r_21_3) [] 1), some (.no)]) (kt := [1, 3, 5, 8, 9, 10, 11, 12, 13, 14, 79]) (ko := [1, 2, 8, 9, 10, 11, 12, 13, 14, 15, 16, 17, 18, 19, 20]) (T' := [(1, .sl (List.map I aPath1)), (3, .ra 1 0), (5, .ra 2 0), (8, .ra 10 0), (9, .bool r_10_6_1), (10, .ra 13 0), (11, .rs 14), (12, .ra 17 0), (13, .ra 20 0), (14, .bool r_14_3_1), (79, .bool (!r_21_3))]) (O' := [(1, .box [.int .i64 aT0.fOp, .int .i64 aT0.fN, .sl (List.map I aT0.fType), .sl (List.map GTerm_S aT0.fKids)]), (2, .box [.int .i64 aU2.fOp, .int .i64 aU2.fN, .sl (List.map I aU2.fType), .sl (List.map GTerm_S aU2.fKids)]), (8, .arr (List.map I r_10_6_0.fType)), (9, .arr (List.map GTerm_O r_10_6_0.fKids)), (10, .box [.int .i64 r_10_6_0.fOp, .int .i64 r_10_6_0.fN, .rs 8, .rs 9]), (11, .arr (List.map I r_11_1.fType)), (12, .arr (List.map GTerm_O r_11_1.fKids)), (13, .box [.int .i64 r_11_1.fOp, .int .i64 r_11_1.fN, .rs 11, .rs 12]), (14, .arr (List.map I r_12_1)), (15, .arr (List.map I r_13_1.fType)), (16, .arr (List.map GTerm_O r_13_1.fKids)), (17, .box [.int .i64 r_13_1.fOp, .int .i64 r_13_1.fN, .rs 15, .rs 16]), (18, .arr (List.map I r_14_3_0.fType)), (19, .arr (List.map GTerm_O r_14_3_0.fKids)), (20, .box [.int .i64 r_14_3_0.fOp, .int .i64 r_14_3_0.fN, .rs 18, .rs 19])]) (by kernel_rfl) (And.intro (laws_toTerm_s _ _ hr_21_2) (And.intro bod_21 (And.intro (Or.inl rfl : ([] : List Nat) = [] ∨ noSh (.agg [.int .i64 r_21_2.fOp, .int .i64 r_21_2.fN, .osl (List.map I r_21_2.fType), .osl (List.map GTerm_O r_21_2.fKids)]) = true) (And.intro (FnSound.args (A1 := [.agg [.int .i64 r_13_1.fOp, .int .i64 r_13_1.fN, .sl (shares (List.map I r_13_1.fType)), .sl (shares (List.map GTerm_O r_13_1.fKids))], .agg [.int .i64 r_21_2.fOp, .int .i64 r_21_2.fN, .sl (shares (List.map I r_21_2.fType)), .sl (shares (List.map GTerm_O r_21_2.fKids))]]) (A2 := [.agg [.int .i64 r_13_1.fOp, .int .i64 r_13_1.fN, .sl (List.map I r_13_1.fType), .sl (List.map GTerm_S r_13_1.fKids)], .agg [.int .i64 r_21_2.fOp, .int .i64 r_21_2.fN, .sl (List.map I r_21_2.fType), .sl (List.map GTerm_S r_21_2.fKids)]]) (by simp only [List.map_nil, sh_GTerm_O, sh_I]) (laws_eqTerm_s _ _ hr_21_3)) (And.intro bod_23 (And.intro (Or.inr rfl : ([15, 16, 24, 25] : List Nat) = [] ∨ noSh (.bool r_21_3) = true) trivial)))))) (by kernel_rfl) (by kernel_rfl) ?_
                refine seqQ_norm ?_
                rcases itesome h with ⟨hb_9, h⟩ | ⟨hb_9, h⟩
                · refine Wp.condF (b := (!r_21_3)) (by kernel_rfl) (by kernel_rfl) (nF hb_9) ?_
                  refine Wp.skipN (by kernel_rfl) ?_
                  refine seqQ_norm ?_
                  refine Wp.seqN (by kernel_rfl) ?_
                  refine Wp.reg tiok mix hc (by kernel_rfl) (ah := none) (rs := [some (.no)]) (kt := [1, 3, 5, 8, 9, 10, 11, 12, 13, 14, 15]) (ko := [1, 2, 8, 9, 10, 11, 12, 13, 14, 15, 16, 17, 18, 19, 20]) (T' := [(1, .sl (List.map I aPath1)), (3, .ra 1 0), (5, .ra 2 0), (8, .ra 10 0), (9, .bool r_10_6_1), (10, .ra 13 0), (11, .rs 14), (12, .ra 17 0), (13, .ra 20 0), (14, .bool r_14_3_1), (15, .int .i64 1)]) (O' := [(1, .box [.int .i64 aT0.fOp, .int .i64 aT0.fN, .sl (List.map I aT0.fType), .sl (List.map GTerm_S aT0.fKids)]), (2, .box [.int .i64 aU2.fOp, .int .i64 aU2.fN, .sl (List.map I aU2.fType), .sl (List.map GTerm_S aU2.fKids)]), (8, .arr (List.map I r_10_6_0.fType)), (9, .arr (List.map GTerm_O r_10_6_0.fKids)), (10, .box [.int .i64 r_10_6_0.fOp, .int .i64 r_10_6_0.fN, .rs 8, .rs 9]), (11, .arr (List.map I r_11_1.fType)), (12, .arr (List.map GTerm_O r_11_1.fKids)), (13, .box [.int .i64 r_11_1.fOp, .int .i64 r_11_1.fN, .rs 11, .rs 12]), (14, .arr (List.map I r_12_1)), (15, .arr (List.map I r_13_1.fType)), (16, .arr (List.map GTerm_O r_13_1.fKids)), (17, .box [.int .i64 r_13_1.fOp, .int .i64 r_13_1.fN, .rs 15, .rs 16]), (18, .arr (List.map I r_14_3_0.fType)), (19, .arr (List.map GTerm_O r_14_3_0.fKids)), (20, .box [.int .i64 r_14_3_0.fOp, .int .i64 r_14_3_0.fN, .rs 18, .rs 19])]) (by kernel_rfl) trivial (by kernel_rfl) (by kernel_rfl) ?_
                  refine seqQ_norm ?_
                  refine Wp.seqN (by kernel_rfl) ?_
                  obtain ⟨⟨r_24_2, o_24_2_0⟩, hr_24_2, h⟩ := bsome h
                  refine Wp.reg tiok mix hc (by kernel_rfl) (ah := none) (rs := [some (.no), some (.no), some (.call (.int .i64 r_24_2) [.agg [.undef, .undef, .osl (List.map I o_24_2_0.fType), .osl (List.map GTerm_O o_24_2_0.fKids)], .undef] 1), some (.no)]) (kt := [1, 3, 5, 8, 9, 11, 12, 13, 14, 15]) (ko := [1, 2, 8, 9, 10, 14, 15, 16, 17, 18, 19, 20]) (T' := [(1, .sl (List.map I aPath1)), (3, .ra 1 0), (5, .ra 2 0), (8, .ra 10 0), (9, .bool r_10_6_1), (11, .rs 14), (12, .ra 17 0), (13, .ra 20 0), (14, .bool r_14_3_1), (15, .int .i64 r_24_2)]) (O' := [(1, .box [.int .i64 aT0.fOp, .int .i64 aT0.fN, .sl (List.map I aT0.fType), .sl (List.map GTerm_S aT0.fKids)]), (2, .box [.int .i64 aU2.fOp, .int .i64 aU2.fN, .sl (List.map I aU2.fType), .sl (List.map GTerm_S aU2.fKids)]), (8, .arr (List.map I r_10_6_0.fType)), (9, .arr (List.map GTerm_O r_10_6_0.fKids)), (10, .box [.int .i64 r_10_6_0.fOp, .int .i64 r_10_6_0.fN, .rs 8, .rs 9]), (14, .arr (List.map I r_12_1)), (15, .arr (List.map I r_13_1.fType)), (16, .arr (List.map GTerm_O r_13_1.fKids)), (17, .box [.int .i64 r_13_1.fOp, .int .i64 r_13_1.fN, .rs 15, .rs 16]), (18, .arr (List.map I r_14_3_0.fType)), (19, .arr (List.map GTerm_O r_14_3_0.fKids)), (20, .box [.int .i64 r_14_3_0.fOp, .int .i64 r_14_3_0.fN, .rs 18, .rs 19])]) (by kernel_rfl) (And.intro (laws_markTerm_s _ _ hr_24_2) (And.intro bod_32 trivial)) (by kernel_rfl) (by kernel_rfl) ?_
                  refine seqQ_norm ?_
                  refine Wp.seqN (by kernel_rfl) ?_
                  obtain ⟨⟨r_25_2, o_25_2_0⟩, hr_25_2, h⟩ := bsome h
                  refine Wp.reg tiok mix hc (by kernel_rfl) (ah := none) (rs := [some (.no), some (.no), some (.call (.int .i64 r_25_2) [.osl (List.map I o_25_2_0), .undef] 1), some (.no)]) (kt := [1, 3, 5, 8, 9, 12, 13, 14, 15]) (ko := [1, 2, 8, 9, 10, 15, 16, 17, 18, 19, 20]) (T' := [(1, .sl (List.map I aPath1)), (3, .ra 1 0), (5, .ra 2 0), (8, .ra 10 0), (9, .bool r_10_6_1), (12, .ra 17 0), (13, .ra 20 0), (14, .bool r_14_3_1), (15, .int .i64 r_25_2)]) (O' := [(1, .box [.int .i64 aT0.fOp, .int .i64 aT0.fN, .sl (List.map I aT0.fType), .sl (List.map GTerm_S aT0.fKids)]), (2, .box [.int .i64 aU2.fOp, .int .i64 aU2.fN, .sl (List.map I aU2.fType), .sl (List.map GTerm_S aU2.fKids)]), (8, .arr (List.map I r_10_6_0.fType)), (9, .arr (List.map GTerm_O r_10_6_0.fKids)), (10, .box [.int .i64 r_10_6_0.fOp, .int .i64 r_10_6_0.fN, .rs 8, .rs 9]), (15, .arr (List.map I r_13_1.fType)), (16, .arr (List.map GTerm_O r_13_1.fKids)), (17, .box [.int .i64 r_13_1.fOp, .int .i64 r_13_1.fN, .rs 15, .rs 16]), (18, .arr (List.map I r_14_3_0.fType)), (19, .arr (List.map GTerm_O r_14_3_0.fKids)), (20, .box [.int .i64 r_14_3_0.fOp, .int .i64 r_14_3_0.fN, .rs 18, .rs 19])]) (by kernel_rfl) (And.intro (laws_markIntS_s _ _ hr_25_2) (And.intro bod_33 trivial)) (by kernel_rfl) (by kernel_rfl) ?_
                  refine seqQ_norm ?_
                  refine Wp.seqN (by kernel_rfl) ?_
                  obtain ⟨⟨r_26_2, o_26_2_0⟩, hr_26_2, h⟩ := bsome h
                  refine Wp.reg tiok mix hc (by kernel_rfl) (ah := none) (rs := [some (.no), some (.no), some (.call (.int .i64 r_26_2) [.agg [.undef, .undef, .osl (List.map I o_26_2_0.fType), .osl (List.map GTerm_O o_26_2_0.fKids)], .undef] 1), some (.no)]) (kt := [1, 3, 5, 8, 9, 13, 14, 15]) (ko := [1, 2, 8, 9, 10, 18, 19, 20]) (T' := [(1, .sl (List.map I aPath1)), (3, .ra 1 0), (5, .ra 2 0), (8, .ra 10 0), (9, .bool r_10_6_1), (13, .ra 20 0), (14, .bool r_14_3_1), (15, .int .i64 r_26_2)]) (O' := [(1, .box [.int .i64 aT0.fOp, .int .i64 aT0.fN, .sl (List.map I aT0.fType), .sl (List.map GTerm_S aT0.fKids)]), (2, .box [.int .i64 aU2.fOp, .int .i64 aU2.fN, .sl (List.map I aU2.fType), .sl (List.map GTerm_S aU2.fKids)]), (8, .arr (List.map I r_10_6_0.fType)), (9, .arr (List.map GTerm_O r_10_6_0.fKids)), (10, .box [.int .i64 r_10_6_0.fOp, .int .i64 r_10_6_0.fN, .rs 8, .rs 9]), (18, .arr (List.map I r_14_3_0.fType)), (19, .arr (List.map GTerm_O r_14_3_0.fKids)), (20, .box [.int .i64 r_14_3_0.fOp, .int .i64 r_14_3_0.fN, .rs 18, .rs 19])]) (by kernel_rfl) (And.intro (laws_markTerm_s _ _ hr_26_2) (And.intro bod_32 trivial)) (by kernel_rfl) (by kernel_rfl) ?_
                  refine seqQ_norm ?_
                  refine Wp.seqN (by kernel_rfl) ?_
                  refine Wp.seqN (by kernel_rfl) ?_
                  obtain ⟨v_10, hj_11, h⟩ := bsome h
                  refine Wp.into (x := .normal) (mkS [(1, .sl (List.map I aPath1)), (3, .ra 1 0), (5, .ra 2 0), (8, .ra 10 0), (9, .bool r_10_6_1), (13, .ra 20 0), (101, .bool v_10)] [(1, .box [.int .i64 aT0.fOp, .int .i64 aT0.fN, .sl (List.map I aT0.fType), .sl (List.map GTerm_S aT0.fKids)]), (2, .box [.int .i64 aU2.fOp, .int .i64 aU2.fN, .sl (List.map I aU2.fType), .sl (List.map GTerm_S aU2.fKids)]), (8, .arr (List.map I r_10_6_0.fType)), (9, .arr (List.map GTerm_O r_10_6_0.fKids)), (10, .box [.int .i64 r_10_6_0.fOp, .int .i64 r_10_6_0.fN, .rs 8, .rs 9]), (18, .arr (List.map I r_14_3_0.fType)), (19, .arr (List.map GTerm_O r_14_3_0.fKids)), (20, .box [.int .i64 r_14_3_0.fOp, .int .i64 r_14_3_0.fN, .rs 18, .rs 19])]) ?_ ?_
                  · replace h := hj_11
                    rcases itesome h with ⟨hb_27_0, h⟩ | ⟨hb_27_0, h⟩
                    · refine Wp.reg tiok mix hc (by kernel_rfl) (ah := none) (rs := [some (.no), some (.no), some (.no), none, none, none, none, some (.cond true), some (.no), none, none, none, some (.cond true)]) (kt := [1, 3, 5, 8, 9, 13, 101]) (ko := [1, 2, 8, 9, 10, 18, 19, 20]) (T' := [(1, .sl (List.map I aPath1)), (3, .ra 1 0), (5, .ra 2 0), (8, .ra 10 0), (9, .bool r_10_6_1), (13, .ra 20 0), (101, .bool true)]) (O' := [(1, .box [.int .i64 aT0.fOp, .int .i64 aT0.fN, .sl (List.map I aT0.fType), .sl (List.map GTerm_S aT0.fKids)]), (2, .box [.int .i64 aU2.fOp, .int .i64 aU2.fN, .sl (List.map I aU2.fType), .sl (List.map GTerm_S aU2.fKids)]), (8, .arr (List.map I r_10_6_0.fType)), (9, .arr (List.map GTerm_O r_10_6_0.fKids)), (10, .box [.int .i64 r_10_6_0.fOp, .int .i64 r_10_6_0.fN, .rs 8, .rs 9]), (18, .arr (List.map I r_14_3_0.fType)), (19, .arr (List.map GTerm_O r_14_3_0.fKids)), (20, .box [.int .i64 r_14_3_0.fOp, .int .i64 r_14_3_0.fN, .rs 18, .rs 19])]) (by kernel_rfl) (And.intro (neF hb_27_0 : (decide (r_26_2 < 0)) ≠ false) (And.intro (neF hb_27_0 : (decide (r_26_2 < 0)) ≠ false) (And.intro (neF hb_27_0 : (decide (r_26_2 < 0)) ≠ false) (And.intro (neF hb_27_0 : (decide (r_26_2 < 0)) ≠ false) (And.intro hb_27_0 (And.intro (neF (rfl : true = true) : true ≠ false) (And.intro (neF (rfl : true = true) : true ≠ false) (And.intro (neF (rfl : true = true) : true ≠ false) (And.intro (rfl : true = true) trivial))))))))) (by kernel_rfl) (by kernel_rfl) ?_
                      obtain rfl := Option.some.inj h
                      exact Into.mk
                    · obtain ⟨r_27_5, hr_27_5, h⟩ := bsome h
                      rcases itesome h with ⟨hb_27_1, h⟩ | ⟨hb_27_1, h⟩
                      · refine Wp.reg tiok mix hc (by kernel_rfl) (ah := none) (rs := [some (.no), some (.no), some (.no), some (.no), some (.no), some (.call (.bool r_27_5) [] 1), some (.no), some (.cond false), some (.no), some (.no), some (.no), some (.no), some (.cond false)]) (kt := [1, 3, 5, 8, 9, 13, 101]) (ko := [1, 2, 8, 9, 10, 18, 19, 20]) (T' := [(1, .sl (List.map I aPath1)), (3, .ra 1 0), (5, .ra 2 0), (8, .ra 10 0), (9, .bool r_10_6_1), (13, .ra 20 0), (101, .bool (!(r_14_3_1 == r_10_6_1)))]) (O' := [(1, .box [.int .i64 aT0.fOp, .int .i64 aT0.fN, .sl (List.map I aT0.fType), .sl (List.map GTerm_S aT0.fKids)]), (2, .box [.int .i64 aU2.fOp, .int .i64 aU2.fN, .sl (List.map I aU2.fType), .sl (List.map GTerm_S aU2.fKids)]), (8, .arr (List.map I r_10_6_0.fType)), (9, .arr (List.map GTerm_O r_10_6_0.fKids)), (10, .box [.int .i64 r_10_6_0.fOp, .int .i64 r_10_6_0.fN, .rs 8, .rs 9]), (18, .arr (List.map I r_14_3_0.fType)), (19, .arr (List.map GTerm_O r_14_3_0.fKids)), (20, .box [.int .i64 r_14_3_0.fOp, .int .i64 r_14_3_0.fN, .rs 18, .rs 19])]) (by kernel_rfl) (And.intro hb_27_0 (And.intro hb_27_0 (And.intro hb_27_0 (And.intro (FnSound.args (A1 := [.agg [.int .i64 r_14_3_0.fOp, .int .i64 r_14_3_0.fN, .sl (shares (List.map I r_14_3_0.fType)), .sl (shares (List.map GTerm_O r_14_3_0.fKids))], .agg [.int .i64 r_10_6_0.fOp, .int .i64 r_10_6_0.fN, .sl (shares (List.map I r_10_6_0.fType)), .sl (shares (List.map GTerm_O r_10_6_0.fKids))]]) (A2 := [.agg [.int .i64 r_14_3_0.fOp, .int .i64 r_14_3_0.fN, .sl (List.map I r_14_3_0.fType), .sl (List.map GTerm_S r_14_3_0.fKids)], .agg [.int .i64 r_10_6_0.fOp, .int .i64 r_10_6_0.fN, .sl (List.map I r_10_6_0.fType), .sl (List.map GTerm_S r_10_6_0.fKids)]]) (by simp only [List.map_nil, sh_GTerm_O, sh_I]) (laws_eqTerm_s _ _ hr_27_5)) (And.intro bod_23 (And.intro (Or.inr rfl : ([18, 19, 8, 9] : List Nat) = [] ∨ noSh (.bool r_27_5) = true) (And.intro hb_27_0 (And.intro hb_27_0 (And.intro (nF hb_27_1) (And.intro (nF hb_27_1) (And.intro (nF hb_27_1) (And.intro (nF hb_27_1) trivial)))))))))))) (by kernel_rfl) (by kernel_rfl) ?_
                        obtain rfl := Option.some.inj h
                        exact Into.mk
                      · refine Wp.reg tiok mix hc (by kernel_rfl) (ah := none) (rs := [some (.no), some (.no), some (.no), some (.no), some (.no), some (.call (.bool r_27_5) [] 1), some (.no), some (.cond false), some (.no), none, none, none, some (.cond true)]) (kt := [1, 3, 5, 8, 9, 13, 101]) (ko := [1, 2, 8, 9, 10, 18, 19, 20]) (T' := [(1, .sl (List.map I aPath1)), (3, .ra 1 0), (5, .ra 2 0), (8, .ra 10 0), (9, .bool r_10_6_1), (13, .ra 20 0), (101, .bool true)]) (O' := [(1, .box [.int .i64 aT0.fOp, .int .i64 aT0.fN, .sl (List.map I aT0.fType), .sl (List.map GTerm_S aT0.fKids)]), (2, .box [.int .i64 aU2.fOp, .int .i64 aU2.fN, .sl (List.map I aU2.fType), .sl (List.map GTerm_S aU2.fKids)]), (8, .arr (List.map I r_10_6_0.fType)), (9, .arr (List.map GTerm_O r_10_6_0.fKids)), (10, .box [.int .i64 r_10_6_0.fOp, .int .i64 r_10_6_0.fN, .rs 8, .rs 9]), (18, .arr (List.map I r_14_3_0.fType)), (19, .arr (List.map GTerm_O r_14_3_0.fKids)), (20, .box [.int .i64 r_14_3_0.fOp, .int .i64 r_14_3_0.fN, .rs 18, .rs 19])]) (by kernel_rfl) (And.intro hb_27_0 (And.intro hb_27_0 (And.intro hb_27_0 (And.intro (FnSound.args (A1 := [.agg [.int .i64 r_14_3_0.fOp, .int .i64 r_14_3_0.fN, .sl (shares (List.map I r_14_3_0.fType)), .sl (shares (List.map GTerm_O r_14_3_0.fKids))], .agg [.int .i64 r_10_6_0.fOp, .int .i64 r_10_6_0.fN, .sl (shares (List.map I r_10_6_0.fType)), .sl (shares (List.map GTerm_O r_10_6_0.fKids))]]) (A2 := [.agg [.int .i64 r_14_3_0.fOp, .int .i64 r_14_3_0.fN, .sl (List.map I r_14_3_0.fType), .sl (List.map GTerm_S r_14_3_0.fKids)], .agg [.int .i64 r_10_6_0.fOp, .int .i64 r_10_6_0.fN, .sl (List.map I r_10_6_0.fType), .sl (List.map GTerm_S r_10_6_0.fKids)]]) (by simp only [List.map_nil, sh_GTerm_O, sh_I]) (laws_eqTerm_s _ _ hr_27_5)) (And.intro bod_23 (And.intro (Or.inr rfl : ([18, 19, 8, 9] : List Nat) = [] ∨ noSh (.bool r_27_5) = true) (And.intro hb_27_0 (And.intro hb_27_0 (And.intro (neF (nT hb_27_1) : (!r_27_5) ≠ false) (And.intro (neF (nT hb_27_1) : (!r_27_5) ≠ false) (And.intro (neF (nT hb_27_1) : (!r_27_5) ≠ false) (And.intro (nT hb_27_1) trivial)))))))))))) (by kernel_rfl) (by kernel_rfl) ?_
                        obtain rfl := Option.some.inj h
                        exact Into.mk
                  · clear hj_11
                    refine seqQ_norm ?_
                    rcases itesome h with ⟨hb_12, h⟩ | ⟨hb_12, h⟩
                    · refine Wp.condT (b := v_10) (by kernel_rfl) (by kernel_rfl) hb_12 ?_
                      refine Wp.seqN (by kernel_rfl) ?_
                      refine Wp.reg tiok mix hc (by kernel_rfl) (ah := none) (rs := [some (.no)]) (kt := [6]) (ko := []) (T' := [(6, .bool false)]) (O' := []) (by kernel_rfl) trivial (by kernel_rfl) (by kernel_rfl) ?_
                      refine seqQ_norm ?_
                      refine Wp.retN (by kernel_rfl) ?_
                      refine seqQ_ret ?_
                      obtain rfl := Option.some.inj h
                      exact RetQ.ret (fl := [true]) (by kernel_rfl)
                    · refine Wp.condF (b := v_10) (by kernel_rfl) (by kernel_rfl) hb_12 ?_
                      refine Wp.skipN (by kernel_rfl) ?_
                      refine seqQ_norm ?_
                      refine Wp.seqN (by kernel_rfl) ?_
                      refine Wp.reg tiok mix hc (by kernel_rfl) (ah := none) (rs := [some (.no)]) (kt := [1, 3, 5, 8, 9, 13, 16]) (ko := [1, 2, 8, 9, 10, 18, 19, 20]) (T' := [(1, .sl (List.map I aPath1)), (3, .ra 1 0), (5, .ra 2 0), (8, .ra 10 0), (9, .bool r_10_6_1), (13, .ra 20 0), (16, .int .i64 1)]) (O' := [(1, .box [.int .i64 aT0.fOp, .int .i64 aT0.fN, .sl (List.map I aT0.fType), .sl (List.map GTerm_S aT0.fKids)]), (2, .box [.int .i64 aU2.fOp, .int .i64 aU2.fN, .sl (List.map I aU2.fType), .sl (List.map GTerm_S aU2.fKids)]), (8, .arr (List.map I r_10_6_0.fType)), (9, .arr (List.map GTerm_O r_10_6_0.fKids)), (10, .box [.int .i64 r_10_6_0.fOp, .int .i64 r_10_6_0.fN, .rs 8, .rs 9]), (18, .arr (List.map I r_14_3_0.fType)), (19, .arr (List.map GTerm_O r_14_3_0.fKids)), (20, .box [.int .i64 r_14_3_0.fOp, .int .i64 r_14_3_0.fN, .rs 18, .rs 19])]) (by kernel_rfl) trivial (by kernel_rfl) (by kernel_rfl) ?_
                      refine seqQ_norm ?_
                      refine Wp.seqN (by kernel_rfl) ?_
                      obtain ⟨⟨r_30_2, o_30_2_0⟩, hr_30_2, h⟩ := bsome h
                      refine Wp.reg tiok mix hc (by kernel_rfl) (ah := none) (rs := [some (.no), some (.no), some (.call (.int .i64 r_30_2) [.agg [.undef, .undef, .osl (List.map I o_30_2_0.fType), .osl (List.map GTerm_O o_30_2_0.fKids)], .undef] 1), some (.no)]) (kt := [1, 3, 5, 8, 9, 13, 16]) (ko := [1, 2, 8, 9, 10, 18, 19, 20]) (T' := [(1, .sl (List.map I aPath1)), (3, .ra 1 0), (5, .ra 2 0), (8, .ra 10 0), (9, .bool r_10_6_1), (13, .ra 20 0), (16, .int .i64 r_30_2)]) (O' := [(1, .box [.int .i64 aT0.fOp, .int .i64 aT0.fN, .sl (List.map I aT0.fType), .sl (List.map GTerm_S aT0.fKids)]), (2, .box [.int .i64 aU2.fOp, .int .i64 aU2.fN, .sl (List.map I aU2.fType), .sl (List.map GTerm_S aU2.fKids)]), (8, .arr (List.map I r_10_6_0.fType)), (9, .arr (List.map GTerm_O r_10_6_0.fKids)), (10, .box [.int .i64 r_10_6_0.fOp, .int .i64 r_10_6_0.fN, .rs 8, .rs 9]), (18, .arr (List.map I o_30_2_0.fType)), (19, .arr (List.map GTerm_O o_30_2_0.fKids)), (20, .box [.int .i64 r_14_3_0.fOp, .int .i64 r_14_3_0.fN, .rs 18, .rs 19])]) (by kernel_rfl) (And.intro (laws_markTerm_s _ _ hr_30_2) (And.intro bod_32 trivial)) (by kernel_rfl) (by kernel_rfl) ?_
                      refine seqQ_norm ?_
                      refine Wp.seqN (by kernel_rfl) ?_
                      refine Wp.reg tiok mix hc (by kernel_rfl) (ah := none) (rs := [some (.no)]) (kt := [1, 3, 5, 8, 9, 13, 16, 17]) (ko := [1, 2, 8, 9, 10, 18, 19, 20]) (T' := [(1, .sl (List.map I aPath1)), (3, .ra 1 0), (5, .ra 2 0), (8, .ra 10 0), (9, .bool r_10_6_1), (13, .ra 20 0), (16, .int .i64 r_30_2), (17, .int .i64 1)]) (O' := [(1, .box [.int .i64 aT0.fOp, .int .i64 aT0.fN, .sl (List.map I aT0.fType), .sl (List.map GTerm_S aT0.fKids)]), (2, .box [.int .i64 aU2.fOp, .int .i64 aU2.fN, .sl (List.map I aU2.fType), .sl (List.map GTerm_S aU2.fKids)]), (8, .arr (List.map I r_10_6_0.fType)), (9, .arr (List.map GTerm_O r_10_6_0.fKids)), (10, .box [.int .i64 r_10_6_0.fOp, .int .i64 r_10_6_0.fN, .rs 8, .rs 9]), (18, .arr (List.map I o_30_2_0.fType)), (19, .arr (List.map GTerm_O o_30_2_0.fKids)), (20, .box [.int .i64 r_14_3_0.fOp, .int .i64 r_14_3_0.fN, .rs 18, .rs 19])]) (by kernel_rfl) trivial (by kernel_rfl) (by kernel_rfl) ?_
                      refine seqQ_norm ?_
                      refine Wp.seqN (by kernel_rfl) ?_
                      obtain ⟨r_32_2, hr_32_2, h⟩ := bsome h
                      refine Wp.reg tiok mix hc (by kernel_rfl) (ah := none) (rs := [some (.no), some (.no), some (.call (.int .i64 r_32_2) [] 1), some (.no)]) (kt := [1, 3, 5, 8, 9, 13, 16, 17]) (ko := [1, 2, 8, 9, 10, 18, 19, 20]) (T' := [(1, .sl (List.map I aPath1)), (3, .ra 1 0), (5, .ra 2 0), (8, .ra 10 0), (9, .bool r_10_6_1), (13, .ra 20 0), (16, .int .i64 r_30_2), (17, .int .i64 r_32_2)]) (O' := [(1, .box [.int .i64 aT0.fOp, .int .i64 aT0.fN, .sl (List.map I aT0.fType), .sl (List.map GTerm_S aT0.fKids)]), (2, .box [.int .i64 aU2.fOp, .int .i64 aU2.fN, .sl (List.map I aU2.fType), .sl (List.map GTerm_S aU2.fKids)]), (8, .arr (List.map I r_10_6_0.fType)), (9, .arr (List.map GTerm_O r_10_6_0.fKids)), (10, .box [.int .i64 r_10_6_0.fOp, .int .i64 r_10_6_0.fN, .rs 8, .rs 9]), (18, .arr (List.map I o_30_2_0.fType)), (19, .arr (List.map GTerm_O o_30_2_0.fKids)), (20, .box [.int .i64 r_14_3_0.fOp, .int .i64 r_14_3_0.fN, .rs 18, .rs 19])]) (by kernel_rfl) (And.intro (FnSound.args (A1 := [.agg [.int .i64 r_14_3_0.fOp, .int .i64 r_14_3_0.fN, .sl (shares (List.map I o_30_2_0.fType)), .sl (shares (List.map GTerm_O o_30_2_0.fKids))], .int .i64 1]) (A2 := [.agg [.int .i64 r_14_3_0.fOp, .int .i64 r_14_3_0.fN, .sl (List.map I o_30_2_0.fType), .sl (List.map GTerm_S o_30_2_0.fKids)], .int .i64 1]) (by simp only [List.map_nil, sh_GTerm_O, sh_I]) (laws_heldTerm_s _ _ hr_32_2)) (And.intro bod_34 (And.intro (Or.inr rfl : ([18, 19] : List Nat) = [] ∨ noSh (.int .i64 r_32_2) = true) trivial))) (by kernel_rfl) (by kernel_rfl) ?_
                      refine seqQ_norm ?_
                      refine Wp.seqN (by kernel_rfl) ?_
                      refine Wp.seqN (by kernel_rfl) ?_
                      refine Wp.reg tiok mix hc (by kernel_rfl) (ah := none) (rs := [some (.no), some (.no)]) (kt := [1, 3, 5, 8, 9, 13, 16, 17, 109]) (ko := [1, 2, 8, 9, 10, 18, 19, 20]) (T' := [(1, .sl (List.map I aPath1)), (3, .ra 1 0), (5, .ra 2 0), (8, .ra 10 0), (9, .bool r_10_6_1), (13, .ra 20 0), (16, .int .i64 r_30_2), (17, .int .i64 r_32_2), (109, .bool (decide (r_32_2 < 0)))]) (O' := [(1, .box [.int .i64 aT0.fOp, .int .i64 aT0.fN, .sl (List.map I aT0.fType), .sl (List.map GTerm_S aT0.fKids)]), (2, .box [.int .i64 aU2.fOp, .int .i64 aU2.fN, .sl (List.map I aU2.fType), .sl (List.map GTerm_S aU2.fKids)]), (8, .arr (List.map I r_10_6_0.fType)), (9, .arr (List.map GTerm_O r_10_6_0.fKids)), (10, .box [.int .i64 r_10_6_0.fOp, .int .i64 r_10_6_0.fN, .rs 8, .rs 9]), (18, .arr (List.map I o_30_2_0.fType)), (19, .arr (List.map GTerm_O o_30_2_0.fKids)), (20, .box [.int .i64 r_14_3_0.fOp, .int .i64 r_14_3_0.fN, .rs 18, .rs 19])]) (by kernel_rfl) trivial (by kernel_rfl) (by kernel_rfl) ?_
                      refine seqQ_norm ?_
                      rcases itesome h with ⟨hb_13, h⟩ | ⟨hb_13, h⟩
                      · refine Wp.condT (b := (decide (r_32_2 < 0))) (by kernel_rfl) (by kernel_rfl) hb_13 ?_
                        refine Wp.seqN (by kernel_rfl) ?_
                        refine Wp.reg tiok mix hc (by kernel_rfl) (ah := none) (rs := [some (.no)]) (kt := [6]) (ko := []) (T' := [(6, .bool false)]) (O' := []) (by kernel_rfl) trivial (by kernel_rfl) (by kernel_rfl) ?_
                        refine seqQ_norm ?_
                        refine Wp.retN (by kernel_rfl) ?_
                        refine seqQ_ret ?_
                        obtain rfl := Option.some.inj h
                        exact RetQ.ret (fl := [true]) (by kernel_rfl)
                      · refine Wp.condF (b := (decide (r_32_2 < 0))) (by kernel_rfl) (by kernel_rfl) hb_13 ?_
                        refine Wp.skipN (by kernel_rfl) ?_
                        refine seqQ_norm ?_
                        refine Wp.seqN (by kernel_rfl) ?_
                        refine Wp.seqN (by kernel_rfl) ?_
                        refine Wp.reg tiok mix hc (by kernel_rfl) (ah := none) (rs := [some (.no), some (.no), some (.no)]) (kt := [1, 3, 5, 8, 9, 13, 16, 112]) (ko := [1, 2, 8, 9, 10, 18, 19, 20]) (T' := [(1, .sl (List.map I aPath1)), (3, .ra 1 0), (5, .ra 2 0), (8, .ra 10 0), (9, .bool r_10_6_1), (13, .ra 20 0), (16, .int .i64 r_30_2), (112, .bool (r_32_2 != r_30_2))]) (O' := [(1, .box [.int .i64 aT0.fOp, .int .i64 aT0.fN, .sl (List.map I aT0.fType), .sl (List.map GTerm_S aT0.fKids)]), (2, .box [.int .i64 aU2.fOp, .int .i64 aU2.fN, .sl (List.map I aU2.fType), .sl (List.map GTerm_S aU2.fKids)]), (8, .arr (List.map I r_10_6_0.fType)), (9, .arr (List.map GTerm_O r_10_6_0.fKids)), (10, .box [.int .i64 r_10_6_0.fOp, .int .i64 r_10_6_0.fN, .rs 8, .rs 9]), (18, .arr (List.map I o_30_2_0.fType)), (19, .arr (List.map GTerm_O o_30_2_0.fKids)), (20, .box [.int .i64 r_14_3_0.fOp, .int .i64 r_14_3_0.fN, .rs 18, .rs 19])]) (by kernel_rfl) trivial (by kernel_rfl) (by kernel_rfl) ?_
                        refine seqQ_norm ?_
                        rcases itesome h with ⟨hb_14, h⟩ | ⟨hb_14, h⟩
                        · refine Wp.condT (b := (r_32_2 != r_30_2)) (by kernel_rfl) (by kernel_rfl) hb_14 ?_
                          refine Wp.seqN (by kernel_rfl) ?_
                          refine Wp.reg tiok mix hc (by kernel_rfl) (ah := none) (rs := [some (.no)]) (kt := [6]) (ko := []) (T' := [(6, .bool false)]) (O' := []) (by kernel_rfl) trivial (by kernel_rfl) (by kernel_rfl) ?_
                          refine seqQ_norm ?_
                          refine Wp.retN (by kernel_rfl) ?_
                          refine seqQ_ret ?_
                          obtain rfl := Option.some.inj h
                          exact RetQ.ret (fl := [true]) (by kernel_rfl)
                        · refine Wp.condF (b := (r_32_2 != r_30_2)) (by kernel_rfl) (by kernel_rfl) hb_14 ?_
                          refine Wp.skipN (by kernel_rfl) ?_
                          refine seqQ_norm ?_
                          refine Wp.seqN (by kernel_rfl) ?_
                          obtain ⟨r_37_1, hr_37_1, h⟩ := bsome h
                          obtain ⟨r_37_3, hr_37_3, h⟩ := bsome h
                          obtain ⟨r_37_5, hr_37_5, h⟩ := bsome h
                          obtain ⟨⟨r_37_6_0, r_37_6_1⟩, hr_37_6, h⟩ := bsome h
                          refine Wp.reg tiok mix hc (by kernel_rfl) (ah := (some [[], [0], [], [0, 1, 2], [], [0, 1, 2, 3, 4], [0, 1, 2, 3, 4, 5], [0, 1, 2, 3, 4, 5, 6], [0, 1, 2, 3, 4, 5, 6, 7], [0, 1, 2, 3, 4, 5, 6, 7], [], [0, 1, 2, 3, 4, 5, 6, 7, 8, 10], [0, 1, 2, 3, 4, 5, 6, 7, 8, 9, 10, 11]])) (rs := [some (.no), some (.call (.agg [.int .i64 r_37_1.fOp, .int .i64 r_37_1.fN, .osl (List.map I r_37_1.fType), .osl (List.map GTerm_O r_37_1.fKids)]) [] 26), some (.no), some (.call (.osl (List.map I r_37_3)) [] 28), some (.no), some (.call (.agg [.int .i64 r_37_5.fOp, .int .i64 r_37_5.fN, .osl (List.map I r_37_5.fType), .osl (List.map GTerm_O r_37_5.fKids)]) [] 29), some (.call (.tup [.agg [.int .i64 r_37_6_0.fOp, .int .i64 r_37_6_0.fN, .osl (List.map I r_37_6_0.fType), .osl (List.map GTerm_O r_37_6_0.fKids)], .bool r_37_6_1]) [] 31), some (.no), some (.no), some (.no), some (.new 33), some (.no), some (.no)]) (kt := [8, 9, 13, 16, 18, 19]) (ko := [8, 9, 10, 18, 19, 20, 31, 32, 33]) (T' := [(8, .ra 10 0), (9, .bool r_10_6_1), (13, .ra 20 0), (16, .int .i64 r_30_2), (18, .ra 33 0), (19, .bool r_37_6_1)]) (O' := [(8, .arr (List.map I r_10_6_0.fType)), (9, .arr (List.map GTerm_O r_10_6_0.fKids)), (10, .box [.int .i64 r_10_6_0.fOp, .int .i64 r_10_6_0.fN, .rs 8, .rs 9]), (18, .arr (List.map I o_30_2_0.fType)), (19, .arr (List.map GTerm_O o_30_2_0.fKids)), (20, .box [.int .i64 r_14_3_0.fOp, .int .i64 r_14_3_0.fN, .rs 18, .rs 19]), (31, .arr (List.map I r_37_6_0.fType)), (32, .arr (List.map GTerm_O r_37_6_0.fKids)), (33, .box [.int .i64 r_37_6_0.fOp, .int .i64 r_37_6_0.fN, .rs 31, .rs 32])]) (by kernel_rfl) (And.intro (laws_toTerm_s _ _ hr_37_1) (And.intro bod_21 (And.intro (Or.inl rfl : ([] : List Nat) = [] ∨ noSh (.agg [.int .i64 r_37_1.fOp, .int .i64 r_37_1.fN, .osl (List.map I r_37_1.fType), .osl (List.map GTerm_O r_37_1.fKids)]) = true) (And.intro (laws_toIntS_s _ _ hr_37_3) (And.intro bod_27 (And.intro (Or.inl rfl : ([] : List Nat) = [] ∨ noSh (.osl (List.map I r_37_3)) = true) (And.intro (laws_toTerm_s _ _ hr_37_5) (And.intro bod_21 (And.intro (Or.inl rfl : ([] : List Nat) = [] ∨ noSh (.agg [.int .i64 r_37_5.fOp, .int .i64 r_37_5.fN, .osl (List.map I r_37_5.fType), .osl (List.map GTerm_O r_37_5.fKids)]) = true) (And.intro (FnSound.args (A1 := [.agg [.int .i64 r_37_1.fOp, .int .i64 r_37_1.fN, .sl (shares (List.map I r_37_1.fType)), .sl (shares (List.map GTerm_O r_37_1.fKids))], .sl (shares (List.map I r_37_3)), .agg [.int .i64 r_37_5.fOp, .int .i64 r_37_5.fN, .sl (shares (List.map I r_37_5.fType)), .sl (shares (List.map GTerm_O r_37_5.fKids))]]) (A2 := [.agg [.int .i64 r_37_1.fOp, .int .i64 r_37_1.fN, .sl (List.map I r_37_1.fType), .sl (List.map GTerm_S r_37_1.fKids)], .sl (List.map I r_37_3), .agg [.int .i64 r_37_5.fOp, .int .i64 r_37_5.fN, .sl (List.map I r_37_5.fType), .sl (List.map GTerm_S r_37_5.fKids)]]) (by simp only [List.map_nil, sh_GTerm_O, sh_I]) (impl_ReplaceAt_s _ _ hr_37_6)) (And.intro bod_43 (And.intro (Or.inr (nsh_cons (nsh_cons rfl (nsh_cons rfl (nsh_cons (nsh_row nsh_I r_37_6_0.fType) (nsh_cons (nsh_row nsh_GTerm_O r_37_6_0.fKids) rfl)))) (nsh_cons rfl rfl)) : ([26, 27, 28, 29, 30] : List Nat) = [] ∨ noSh (.tup [.agg [.int .i64 r_37_6_0.fOp, .int .i64 r_37_6_0.fN, .osl (List.map I r_37_6_0.fType), .osl (List.map GTerm_O r_37_6_0.fKids)], .bool r_37_6_1]) = true) trivial)))))))))))) (by kernel_rfl) (by kernel_rfl) ?_
                          refine seqQ_norm ?_
                          refine Wp.seqN (by kernel_rfl) ?_
                          refine Wp.seqN (by kernel_rfl) ?_
                          obtain ⟨v_15, hj_16, h⟩ := bsome h
                          refine Wp.into (x := .normal) (mkS [(13, .ra 20 0), (16, .int .i64 r_30_2), (131, .bool v_15)] [(18, .arr (List.map I o_30_2_0.fType)), (19, .arr (List.map GTerm_O o_30_2_0.fKids)), (20, .box [.int .i64 r_14_3_0.fOp, .int .i64 r_14_3_0.fN, .rs 18, .rs 19])]) ?_ ?_
                          · replace h := hj_16
                            obtain ⟨r_38_2, hr_38_2, h⟩ := bsome h
                            rcases itesome h with ⟨hb_38_0, h⟩ | ⟨hb_38_0, h⟩
                            · refine Wp.reg tiok mix hc (by kernel_rfl) (ah := none) (rs := [some (.no), some (.no), some (.call (.bool r_38_2) [] 1), some (.no), some (.no), some (.no), some (.no), some (.no), some (.cond false)]) (kt := [13, 16, 131]) (ko := [18, 19, 20]) (T' := [(13, .ra 20 0), (16, .int .i64 r_30_2), (131, .bool (!(r_37_6_1 == r_10_6_1)))]) (O' := [(18, .arr (List.map I o_30_2_0.fType)), (19, .arr (List.map GTerm_O o_30_2_0.fKids)), (20, .box [.int .i64 r_14_3_0.fOp, .int .i64 r_14_3_0.fN, .rs 18, .rs 19])]) (by kernel_rfl) (And.intro (FnSound.args (A1 := [.agg [.int .i64 r_37_6_0.fOp, .int .i64 r_37_6_0.fN, .sl (shares (List.map I r_37_6_0.fType)), .sl (shares (List.map GTerm_O r_37_6_0.fKids))], .agg [.int .i64 r_10_6_0.fOp, .int .i64 r_10_6_0.fN, .sl (shares (List.map I r_10_6_0.fType)), .sl (shares (List.map GTerm_O r_10_6_0.fKids))]]) (A2 := [.agg [.int .i64 r_37_6_0.fOp, .int .i64 r_37_6_0.fN, .sl (List.map I r_37_6_0.fType), .sl (List.map GTerm_S r_37_6_0.fKids)], .agg [.int .i64 r_10_6_0.fOp, .int .i64 r_10_6_0.fN, .sl (List.map I r_10_6_0.fType), .sl (List.map GTerm_S r_10_6_0.fKids)]]) (by simp only [List.map_nil, sh_GTerm_O, sh_I]) (laws_eqTerm_s _ _ hr_38_2)) (And.intro bod_23 (And.intro (Or.inr rfl : ([31, 32, 8, 9] : List Nat) = [] ∨ noSh (.bool r_38_2) = true) (And.intro (nF hb_38_0) (And.intro (nF hb_38_0) (And.intro (nF hb_38_0) (And.intro (nF hb_38_0) trivial))))))) (by kernel_rfl) (by kernel_rfl) ?_
                              obtain rfl := Option.some.inj h
                              exact Into.mk
                            · refine Wp.reg tiok mix hc (by kernel_rfl) (ah := none) (rs := [some (.no), some (.no), some (.call (.bool r_38_2) [] 1), some (.no), some (.no), none, none, none, some (.cond true)]) (kt := [13, 16, 131]) (ko := [18, 19, 20]) (T' := [(13, .ra 20 0), (16, .int .i64 r_30_2), (131, .bool true)]) (O' := [(18, .arr (List.map I o_30_2_0.fType)), (19, .arr (List.map GTerm_O o_30_2_0.fKids)), (20, .box [.int .i64 r_14_3_0.fOp, .int .i64 r_14_3_0.fN, .rs 18, .rs 19])]) (by kernel_rfl) (And.intro (FnSound.args (A1 := [.agg [.int .i64 r_37_6_0.fOp, .int .i64 r_37_6_0.fN, .sl (shares (List.map I r_37_6_0.fType)), .sl (shares (List.map GTerm_O r_37_6_0.fKids))], .agg [.int .i64 r_10_6_0.fOp, .int .i64 r_10_6_0.fN, .sl (shares (List.map I r_10_6_0.fType)), .sl (shares (List.map GTerm_O r_10_6_0.fKids))]]) (A2 := [.agg [.int .i64 r_37_6_0.fOp, .int .i64 r_37_6_0.fN, .sl (List.map I r_37_6_0.fType), .sl (List.map GTerm_S r_37_6_0.fKids)], .agg [.int .i64 r_10_6_0.fOp, .int .i64 r_10_6_0.fN, .sl (List.map I r_10_6_0.fType), .sl (List.map GTerm_S r_10_6_0.fKids)]]) (by simp only [List.map_nil, sh_GTerm_O, sh_I]) (laws_eqTerm_s _ _ hr_38_2)) (And.intro bod_23 (And.intro (Or.inr rfl : ([31, 32, 8, 9] : List Nat) = [] ∨ noSh (.bool r_38_2) = true) (And.intro (neF (nT hb_38_0) : (!r_38_2) ≠ false) (And.intro (neF (nT hb_38_0) : (!r_38_2) ≠ false) (And.intro (neF (nT hb_38_0) : (!r_38_2) ≠ false) (And.intro (nT hb_38_0) trivial))))))) (by kernel_rfl) (by kernel_rfl) ?_
                              obtain rfl := Option.some.inj h
                              exact Into.mk
                          · clear hj_16
                            refine seqQ_norm ?_
                            rcases itesome h with ⟨hb_17, h⟩ | ⟨hb_17, h⟩
                            · refine Wp.condT (b := v_15) (by kernel_rfl) (by kernel_rfl) hb_17 ?_
                              refine Wp.seqN (by kernel_rfl) ?_
                              refine Wp.reg tiok mix hc (by kernel_rfl) (ah := none) (rs := [some (.no)]) (kt := [6]) (ko := []) (T' := [(6, .bool false)]) (O' := []) (by kernel_rfl) trivial (by kernel_rfl) (by kernel_rfl) ?_
                              refine seqQ_norm ?_
                              refine Wp.retN (by kernel_rfl) ?_
                              refine seqQ_ret ?_
                              obtain rfl := Option.some.inj h
                              exact RetQ.ret (fl := [true]) (by kernel_rfl)
                            · refine Wp.condF (b := v_15) (by kernel_rfl) (by kernel_rfl) hb_17 ?_
                              refine Wp.skipN (by kernel_rfl) ?_
                              refine seqQ_norm ?_
                              refine Wp.seqN (by kernel_rfl) ?_
                              refine Wp.reg tiok mix hc (by kernel_rfl) (ah := none) (rs := [some (.no)]) (kt := [13, 16, 17]) (ko := [18, 19, 20]) (T' := [(13, .ra 20 0), (16, .int .i64 r_30_2), (17, .int .i64 1)]) (O' := [(18, .arr (List.map I o_30_2_0.fType)), (19, .arr (List.map GTerm_O o_30_2_0.fKids)), (20, .box [.int .i64 r_14_3_0.fOp, .int .i64 r_14_3_0.fN, .rs 18, .rs 19])]) (by kernel_rfl) trivial (by kernel_rfl) (by kernel_rfl) ?_
                              refine seqQ_norm ?_
                              refine Wp.seqN (by kernel_rfl) ?_
                              obtain ⟨r_41_2, hr_41_2, h⟩ := bsome h
                              refine Wp.reg tiok mix hc (by kernel_rfl) (ah := none) (rs := [some (.no), some (.no), some (.call (.int .i64 r_41_2) [] 1), some (.no)]) (kt := [16, 17]) (ko := []) (T' := [(16, .int .i64 r_30_2), (17, .int .i64 r_41_2)]) (O' := []) (by kernel_rfl) (And.intro (FnSound.args (A1 := [.agg [.int .i64 r_14_3_0.fOp, .int .i64 r_14_3_0.fN, .sl (shares (List.map I o_30_2_0.fType)), .sl (shares (List.map GTerm_O o_30_2_0.fKids))], .int .i64 1]) (A2 := [.agg [.int .i64 r_14_3_0.fOp, .int .i64 r_14_3_0.fN, .sl (List.map I o_30_2_0.fType), .sl (List.map GTerm_S o_30_2_0.fKids)], .int .i64 1]) (by simp only [List.map_nil, sh_GTerm_O, sh_I]) (laws_heldTerm_s _ _ hr_41_2)) (And.intro bod_34 (And.intro (Or.inr rfl : ([18, 19] : List Nat) = [] ∨ noSh (.int .i64 r_41_2) = true) trivial))) (by kernel_rfl) (by kernel_rfl) ?_
                              refine seqQ_norm ?_
                              refine Wp.seqN (by kernel_rfl) ?_
                              refine Wp.seqN (by kernel_rfl) ?_
                              refine Wp.reg tiok mix hc (by kernel_rfl) (ah := none) (rs := [some (.no), some (.no)]) (kt := [16, 17, 136]) (ko := []) (T' := [(16, .int .i64 r_30_2), (17, .int .i64 r_41_2), (136, .bool (decide (r_41_2 < 0)))]) (O' := []) (by kernel_rfl) trivial (by kernel_rfl) (by kernel_rfl) ?_
                              refine seqQ_norm ?_
                              rcases itesome h with ⟨hb_18, h⟩ | ⟨hb_18, h⟩
                              · refine Wp.condT (b := (decide (r_41_2 < 0))) (by kernel_rfl) (by kernel_rfl) hb_18 ?_
                                refine Wp.seqN (by kernel_rfl) ?_
                                refine Wp.reg tiok mix hc (by kernel_rfl) (ah := none) (rs := [some (.no)]) (kt := [6]) (ko := []) (T' := [(6, .bool false)]) (O' := []) (by kernel_rfl) trivial (by kernel_rfl) (by kernel_rfl) ?_
                                refine seqQ_norm ?_
                                refine Wp.retN (by kernel_rfl) ?_
                                refine seqQ_ret ?_
                                obtain rfl := Option.some.inj h
                                exact RetQ.ret (fl := [true]) (by kernel_rfl)
                              · refine Wp.condF (b := (decide (r_41_2 < 0))) (by kernel_rfl) (by kernel_rfl) hb_18 ?_
                                refine Wp.skipN (by kernel_rfl) ?_
                                refine seqQ_norm ?_
                                refine Wp.seqN (by kernel_rfl) ?_
                                refine Wp.seqN (by kernel_rfl) ?_
                                refine Wp.reg tiok mix hc (by kernel_rfl) (ah := none) (rs := [some (.no), some (.no), some (.no)]) (kt := [139]) (ko := []) (T' := [(139, .bool (r_41_2 != r_30_2))]) (O' := []) (by kernel_rfl) trivial (by kernel_rfl) (by kernel_rfl) ?_
                                refine seqQ_norm ?_
                                rcases itesome h with ⟨hb_19, h⟩ | ⟨hb_19, h⟩
                                · refine Wp.condT (b := (r_41_2 != r_30_2)) (by kernel_rfl) (by kernel_rfl) hb_19 ?_
                                  refine Wp.seqN (by kernel_rfl) ?_
                                  refine Wp.reg tiok mix hc (by kernel_rfl) (ah := none) (rs := [some (.no)]) (kt := [6]) (ko := []) (T' := [(6, .bool false)]) (O' := []) (by kernel_rfl) trivial (by kernel_rfl) (by kernel_rfl) ?_
                                  refine seqQ_norm ?_
                                  refine Wp.retN (by kernel_rfl) ?_
                                  refine seqQ_ret ?_
                                  obtain rfl := Option.some.inj h
                                  exact RetQ.ret (fl := [true]) (by kernel_rfl)
                                · refine Wp.condF (b := (r_41_2 != r_30_2)) (by kernel_rfl) (by kernel_rfl) hb_19 ?_
                                  refine Wp.skipN (by kernel_rfl) ?_
                                  refine seqQ_norm ?_
                                  refine Wp.seqN (by kernel_rfl) ?_
                                  refine Wp.reg tiok mix hc (by kernel_rfl) (ah := none) (rs := [some (.no)]) (kt := [6]) (ko := []) (T' := [(6, .bool true)]) (O' := []) (by kernel_rfl) trivial (by kernel_rfl) (by kernel_rfl) ?_
                                  refine seqQ_norm ?_
                                  refine Wp.retN (by kernel_rfl) ?_
                                  obtain rfl := Option.some.inj h
                                  exact RetQ.ret (fl := [true]) (by kernel_rfl)
                · refine Wp.condT (b := (!r_21_3)) (by kernel_rfl) (by kernel_rfl) (nT hb_9) ?_
                  refine Wp.seqN (by kernel_rfl) ?_
                  refine Wp.reg tiok mix hc (by kernel_rfl) (ah := none) (rs := [some (.no)]) (kt := [6]) (ko := []) (T' := [(6, .bool false)]) (O' := []) (by kernel_rfl) trivial (by kernel_rfl) (by kernel_rfl) ?_
                  refine seqQ_norm ?_
                  refine Wp.retN (by kernel_rfl) ?_
                  refine seqQ_ret ?_
                  obtain rfl := Option.some.inj h
                  exact RetQ.ret (fl := [true]) (by kernel_rfl)
              · refine Wp.condT (b := (!r_19_3)) (by kernel_rfl) (by kernel_rfl) (nT hb_8) ?_
                refine Wp.seqN (by kernel_rfl) ?_
                refine Wp.reg tiok mix hc (by kernel_rfl) (ah := none) (rs := [some (.no)]) (kt := [6]) (ko := []) (T' := [(6, .bool false)]) (O' := []) (by kernel_rfl) trivial (by kernel_rfl) (by kernel_rfl) ?_
                refine seqQ_norm ?_
                refine Wp.retN (by kernel_rfl) ?_
                refine seqQ_ret ?_
                obtain rfl := Option.some.inj h
                exact RetQ.ret (fl := [true]) (by kernel_rfl)
            · refine Wp.condT (b := (!r_17_3)) (by kernel_rfl) (by kernel_rfl) (nT hb_7) ?_
              refine Wp.seqN (by kernel_rfl) ?_
              refine Wp.reg tiok mix hc (by kernel_rfl) (ah := none) (rs := [some (.no)]) (kt := [6]) (ko := []) (T' := [(6, .bool false)]) (O' := []) (by kernel_rfl) trivial (by kernel_rfl) (by kernel_rfl) ?_
              refine seqQ_norm ?_
              refine Wp.retN (by kernel_rfl) ?_
              refine seqQ_ret ?_
              obtain rfl := Option.some.inj h
              exact RetQ.ret (fl := [true]) (by kernel_rfl)
end Go.Am
