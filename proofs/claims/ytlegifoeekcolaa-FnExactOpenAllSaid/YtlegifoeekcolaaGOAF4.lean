/- Functions of the program as pure functions, and that it computes them. Printed by a program of mine (gen.py). -/
import Derived.Test.YtlegifoeekcolaaGOAF3
set_option linter.unusedVariables false
set_option linter.unusedSimpArgs false
set_option maxRecDepth 100000
namespace Go.Am
open Go Go.Proofs
def laws_FnExactOpenAll (aT0 : GTerm) : Option (Bool) :=
    (laws_szTerm (aT0, 1048576)) >>= fun r_2_2 =>
    if (decide (r_2_2 < 0)) = true then
      some true
    else
      (laws_toTerm aT0) >>= fun r_5_1 =>
      (spec_OpenAll r_5_1) >>= fun (r_5_2_0, r_5_2_1) =>
      (laws_toTerm aT0) >>= fun r_6_1 =>
      (impl_OpenAll r_6_1) >>= fun (r_7_1_0, r_7_1_1) =>
      (
        (laws_eqTerm (r_7_1_0, r_5_2_0)) >>= fun r_8_2 =>
        if r_8_2 = true then
          some ((!(r_7_1_1 == r_5_2_1)))
        else
          some (true)
      ) >>= fun v_2 =>
      if v_2 = true then
        some false
      else
        (laws_toTerm aT0) >>= fun r_10_2 =>
        (laws_eqTerm (r_6_1, r_10_2)) >>= fun r_10_3 =>
        if r_10_3 = true then
          (laws_markTerm (r_6_1, 1)) >>= fun (r_13_2, o_13_2_0) =>
          (
            if (decide (r_13_2 < 0)) = true then
              some (true)
            else
              (laws_eqTerm (r_7_1_0, r_5_2_0)) >>= fun r_14_5 =>
              if r_14_5 = true then
                some ((!(r_7_1_1 == r_5_2_1)))
              else
                some (true)
          ) >>= fun v_6 =>
          if v_6 = true then
            some false
          else
            (laws_markTerm (r_7_1_0, 1)) >>= fun (r_17_2, o_17_2_0) =>
            (laws_heldTerm ((GTerm.mk r_7_1_0.fOp r_7_1_0.fN o_17_2_0.fType o_17_2_0.fKids), 1)) >>= fun r_19_2 =>
            if (decide (r_19_2 < 0)) = true then
              some false
            else
              if (r_19_2 != r_17_2) = true then
                some false
              else
                (laws_toTerm aT0) >>= fun r_24_1 =>
                (impl_OpenAll r_24_1) >>= fun (r_24_2_0, r_24_2_1) =>
                (
                  (laws_eqTerm (r_24_2_0, r_5_2_0)) >>= fun r_25_2 =>
                  if r_25_2 = true then
                    some ((!(r_24_2_1 == r_5_2_1)))
                  else
                    some (true)
                ) >>= fun v_11 =>
                if v_11 = true then
                  some false
                else
                  (laws_heldTerm ((GTerm.mk r_7_1_0.fOp r_7_1_0.fN o_17_2_0.fType o_17_2_0.fKids), 1)) >>= fun r_28_2 =>
                  if (decide (r_28_2 < 0)) = true then
                    some false
                  else
                    if (r_28_2 != r_17_2) = true then
                      some false
                    else
                      some true
        else
          some false
def M_laws_FnExactOpenAll (aT0 : GTerm) (r : Bool) : Prop :=
  FnSound Try.prog 8 [.agg [.int .i64 aT0.fOp, .int .i64 aT0.fN, .sl (List.map I aT0.fType), .sl (List.map GTerm_S aT0.fKids)]] (.bool r) []
theorem laws_FnExactOpenAll_s : ∀ p r, laws_FnExactOpenAll p = some r → M_laws_FnExactOpenAll p r := by
  rintro aT0 r h
  unfold laws_FnExactOpenAll at h
  show FnSound Try.prog 8 [.agg [.int .i64 aT0.fOp, .int .i64 aT0.fN, .sl (List.map I aT0.fType), .sl (List.map GTerm_S aT0.fKids)]] (.bool r) []
  refine FnSound.body0 tiok (fn := Try.f8) (code := B8) (by kernel_rfl) (by kernel_rfl) (by kernel_rfl) (by kernel_rfl) (nt := 96) (by kernel_rfl) (by kernel_rfl) (T := [(0, .agg [.int .i64 aT0.fOp, .int .i64 aT0.fN, .sl (List.map I aT0.fType), .sl (List.map GTerm_S aT0.fKids)])]) (O := []) (by kernel_rfl) (by kernel_rfl) (fun c hc => ?_)
  refine Wp.seqN (by kernel_rfl) ?_
  refine Wp.reg tiok mix hc (by kernel_rfl) (ah := none) (rs := [some (.new 1), some (.no)]) (kt := [1]) (ko := [1]) (T' := [(1, .ra 1 0)]) (O' := [(1, .box [.int .i64 aT0.fOp, .int .i64 aT0.fN, .sl (List.map I aT0.fType), .sl (List.map GTerm_S aT0.fKids)])]) (by kernel_rfl) trivial (by kernel_rfl) (by kernel_rfl) ?_
  refine seqQ_norm ?_
  refine Wp.seqN (by kernel_rfl) ?_
  refine Wp.reg tiok mix hc (by kernel_rfl) (ah := none) (rs := [some (.no)]) (kt := [1, 3]) (ko := [1]) (T' := [(1, .ra 1 0), (3, .int .i64 1048576)]) (O' := [(1, .box [.int .i64 aT0.fOp, .int .i64 aT0.fN, .sl (List.map I aT0.fType), .sl (List.map GTerm_S aT0.fKids)])]) (by kernel_rfl) trivial (by kernel_rfl) (by kernel_rfl) ?_
  refine seqQ_norm ?_
  refine Wp.seqN (by kernel_rfl) ?_
  obtain ⟨r_2_2, hr_2_2, h⟩ := bsome h
  refine Wp.reg tiok mix hc (by kernel_rfl) (ah := none) (rs := [some (.no), some (.no), some (.call (.int .i64 r_2_2) [] 1), some (.no)]) (kt := [1, 3]) (ko := [1]) (T' := [(1, .ra 1 0), (3, .int .i64 r_2_2)]) (O' := [(1, .box [.int .i64 aT0.fOp, .int .i64 aT0.fN, .sl (List.map I aT0.fType), .sl (List.map GTerm_S aT0.fKids)])]) (by kernel_rfl) (And.intro (laws_szTerm_s _ _ hr_2_2) (And.intro bod_19 (And.intro (Or.inl rfl : ([] : List Nat) = [] ∨ noSh (.int .i64 r_2_2) = true) trivial))) (by kernel_rfl) (by kernel_rfl) ?_
  refine seqQ_norm ?_
  refine Wp.seqN (by kernel_rfl) ?_
  refine Wp.seqN (by kernel_rfl) ?_
  refine Wp.reg tiok mix hc (by kernel_rfl) (ah := none) (rs := [some (.no), some (.no)]) (kt := [1, 18]) (ko := [1]) (T' := [(1, .ra 1 0), (18, .bool (decide (r_2_2 < 0)))]) (O' := [(1, .box [.int .i64 aT0.fOp, .int .i64 aT0.fN, .sl (List.map I aT0.fType), .sl (List.map GTerm_S aT0.fKids)])]) (by kernel_rfl) trivial (by kernel_rfl) (by kernel_rfl) ?_
  refine seqQ_norm ?_
  rcases itesome h with ⟨hb_1, h⟩ | ⟨hb_1, h⟩
  · refine Wp.condT (b := (decide (r_2_2 < 0))) (by kernel_rfl) (by kernel_rfl) hb_1 ?_
    refine Wp.seqN (by kernel_rfl) ?_
    refine Wp.reg tiok mix hc (by kernel_rfl) (ah := none) (rs := [some (.no)]) (kt := [2]) (ko := []) (T' := [(2, .bool true)]) (O' := []) (by kernel_rfl) trivial (by kernel_rfl) (by kernel_rfl) ?_
    refine seqQ_norm ?_
    refine Wp.retN (by kernel_rfl) ?_
    refine seqQ_ret ?_
    obtain rfl := Option.some.inj h
    exact RetQ.ret (fl := [true]) (by kernel_rfl)
  · refine Wp.condF (b := (decide (r_2_2 < 0))) (by kernel_rfl) (by kernel_rfl) hb_1 ?_
    refine Wp.skipN (by kernel_rfl) ?_
    refine seqQ_norm ?_
    refine Wp.seqN (by kernel_rfl) ?_
    obtain ⟨r_5_1, hr_5_1, h⟩ := bsome h
    obtain ⟨⟨r_5_2_0, r_5_2_1⟩, hr_5_2, h⟩ := bsome h
    refine Wp.reg tiok mix hc (by kernel_rfl) (ah := none) (rs := [some (.no), some (.call (.agg [.int .i64 r_5_1.fOp, .int .i64 r_5_1.fN, .osl (List.map I r_5_1.fType), .osl (List.map GTerm_O r_5_1.fKids)]) [] 2), some (.call (.tup [.agg [.int .i64 r_5_2_0.fOp, .int .i64 r_5_2_0.fN, .osl (List.map I r_5_2_0.fType), .osl (List.map GTerm_O r_5_2_0.fKids)], .bool r_5_2_1]) [] 4), some (.no), some (.no), some (.no), some (.new 6), some (.no), some (.no)]) (kt := [1, 4, 5]) (ko := [1, 4, 5, 6]) (T' := [(1, .ra 1 0), (4, .ra 6 0), (5, .bool r_5_2_1)]) (O' := [(1, .box [.int .i64 aT0.fOp, .int .i64 aT0.fN, .sl (List.map I aT0.fType), .sl (List.map GTerm_S aT0.fKids)]), (4, .arr (List.map I r_5_2_0.fType)), (5, .arr (List.map GTerm_O r_5_2_0.fKids)), (6, .box [.int .i64 r_5_2_0.fOp, .int .i64 r_5_2_0.fN, .rs 4, .rs 5])]) (by kernel_rfl) (And.intro (laws_toTerm_s _ _ hr_5_1) (And.intro bod_21 (And.intro (Or.inl rfl : ([] : List Nat) = [] ∨ noSh (.agg [.int .i64 r_5_1.fOp, .int .i64 r_5_1.fN, .osl (List.map I r_5_1.fType), .osl (List.map GTerm_O r_5_1.fKids)]) = true) (And.intro (FnSound.args (A1 := [.agg [.int .i64 r_5_1.fOp, .int .i64 r_5_1.fN, .sl (shares (List.map I r_5_1.fType)), .sl (shares (List.map GTerm_O r_5_1.fKids))]]) (A2 := [.agg [.int .i64 r_5_1.fOp, .int .i64 r_5_1.fN, .sl (List.map I r_5_1.fType), .sl (List.map GTerm_S r_5_1.fKids)]]) (by simp only [List.map_nil, sh_GTerm_O, sh_I]) (spec_OpenAll_s _ _ hr_5_2)) (And.intro bod_35 (And.intro (Or.inr (nsh_cons (nsh_cons rfl (nsh_cons rfl (nsh_cons (nsh_row nsh_I r_5_2_0.fType) (nsh_cons (nsh_row nsh_GTerm_O r_5_2_0.fKids) rfl)))) (nsh_cons rfl rfl)) : ([2, 3] : List Nat) = [] ∨ noSh (.tup [.agg [.int .i64 r_5_2_0.fOp, .int .i64 r_5_2_0.fN, .osl (List.map I r_5_2_0.fType), .osl (List.map GTerm_O r_5_2_0.fKids)], .bool r_5_2_1]) = true) trivial)))))) (by kernel_rfl) (by kernel_rfl) ?_
    refine seqQ_norm ?_
    refine Wp.seqN (by kernel_rfl) ?_
    obtain ⟨r_6_1, hr_6_1, h⟩ := bsome h
    refine Wp.reg tiok mix hc (by kernel_rfl) (ah := none) (rs := [some (.no), some (.call (.agg [.int .i64 r_6_1.fOp, .int .i64 r_6_1.fN, .osl (List.map I r_6_1.fType), .osl (List.map GTerm_O r_6_1.fKids)]) [] 7), some (.new 9), some (.no)]) (kt := [1, 4, 5, 6]) (ko := [1, 4, 5, 6, 7, 8, 9]) (T' := [(1, .ra 1 0), (4, .ra 6 0), (5, .bool r_5_2_1), (6, .ra 9 0)]) (O' := [(1, .box [.int .i64 aT0.fOp, .int .i64 aT0.fN, .sl (List.map I aT0.fType), .sl (List.map GTerm_S aT0.fKids)]), (4, .arr (List.map I r_5_2_0.fType)), (5, .arr (List.map GTerm_O r_5_2_0.fKids)), (6, .box [.int .i64 r_5_2_0.fOp, .int .i64 r_5_2_0.fN, .rs 4, .rs 5]), (7, .arr (List.map I r_6_1.fType)), (8, .arr (List.map GTerm_O r_6_1.fKids)), (9, .box [.int .i64 r_6_1.fOp, .int .i64 r_6_1.fN, .rs 7, .rs 8])]) (by kernel_rfl) (And.intro (laws_toTerm_s _ _ hr_6_1) (And.intro bod_21 (And.intro (Or.inl rfl : ([] : List Nat) = [] ∨ noSh (.agg [.int .i64 r_6_1.fOp, .int .i64 r_6_1.fN, .osl (List.map I r_6_1.fType), .osl (List.map GTerm_O r_6_1.fKids)]) = true) trivial))) (by kernel_rfl) (by kernel_rfl) ?_
    refine seqQ_norm ?_
    refine Wp.seqN (by kernel_rfl) ?_
    obtain ⟨⟨r_7_1_0, r_7_1_1⟩, hr_7_1, h⟩ := bsome h
    refine Wp.reg tiok mix hc (by kernel_rfl) (ah := none) (rs := [some (.no), some (.call (.tup [.agg [.int .i64 r_7_1_0.fOp, .int .i64 r_7_1_0.fN, .osl (List.map I r_7_1_0.fType), .osl (List.map GTerm_O r_7_1_0.fKids)], .bool r_7_1_1]) [] 10), some (.no), some (.no), some (.no), some (.new 12), some (.no), some (.no)]) (kt := [1, 4, 5, 6, 7, 8]) (ko := [1, 4, 5, 6, 7, 8, 9, 10, 11, 12]) (T' := [(1, .ra 1 0), (4, .ra 6 0), (5, .bool r_5_2_1), (6, .ra 9 0), (7, .ra 12 0), (8, .bool r_7_1_1)]) (O' := [(1, .box [.int .i64 aT0.fOp, .int .i64 aT0.fN, .sl (List.map I aT0.fType), .sl (List.map GTerm_S aT0.fKids)]), (4, .arr (List.map I r_5_2_0.fType)), (5, .arr (List.map GTerm_O r_5_2_0.fKids)), (6, .box [.int .i64 r_5_2_0.fOp, .int .i64 r_5_2_0.fN, .rs 4, .rs 5]), (7, .arr (List.map I r_6_1.fType)), (8, .arr (List.map GTerm_O r_6_1.fKids)), (9, .box [.int .i64 r_6_1.fOp, .int .i64 r_6_1.fN, .rs 7, .rs 8]), (10, .arr (List.map I r_7_1_0.fType)), (11, .arr (List.map GTerm_O r_7_1_0.fKids)), (12, .box [.int .i64 r_7_1_0.fOp, .int .i64 r_7_1_0.fN, .rs 10, .rs 11])]) (by kernel_rfl) (And.intro (FnSound.args (A1 := [.agg [.int .i64 r_6_1.fOp, .int .i64 r_6_1.fN, .sl (shares (List.map I r_6_1.fType)), .sl (shares (List.map GTerm_O r_6_1.fKids))]]) (A2 := [.agg [.int .i64 r_6_1.fOp, .int .i64 r_6_1.fN, .sl (List.map I r_6_1.fType), .sl (List.map GTerm_S r_6_1.fKids)]]) (by simp only [List.map_nil, sh_GTerm_O, sh_I]) (impl_OpenAll_s _ _ hr_7_1)) (And.intro bod_36 (And.intro (Or.inr (nsh_cons (nsh_cons rfl (nsh_cons rfl (nsh_cons (nsh_row nsh_I r_7_1_0.fType) (nsh_cons (nsh_row nsh_GTerm_O r_7_1_0.fKids) rfl)))) (nsh_cons rfl rfl)) : ([7, 8] : List Nat) = [] ∨ noSh (.tup [.agg [.int .i64 r_7_1_0.fOp, .int .i64 r_7_1_0.fN, .osl (List.map I r_7_1_0.fType), .osl (List.map GTerm_O r_7_1_0.fKids)], .bool r_7_1_1]) = true) trivial))) (by kernel_rfl) (by kernel_rfl) ?_
    refine seqQ_norm ?_
    refine Wp.seqN (by kernel_rfl) ?_
    refine Wp.seqN (by kernel_rfl) ?_
    obtain ⟨v_2, hj_3, h⟩ := bsome h
    refine Wp.into (x := .normal) (mkS [(1, .ra 1 0), (4, .ra 6 0), (5, .bool r_5_2_1), (6, .ra 9 0), (7, .ra 12 0), (8, .bool r_7_1_1), (40, .bool v_2)] [(1, .box [.int .i64 aT0.fOp, .int .i64 aT0.fN, .sl (List.map I aT0.fType), .sl (List.map GTerm_S aT0.fKids)]), (4, .arr (List.map I r_5_2_0.fType)), (5, .arr (List.map GTerm_O r_5_2_0.fKids)), (6, .box [.int .i64 r_5_2_0.fOp, .int .i64 r_5_2_0.fN, .rs 4, .rs 5]), (7, .arr (List.map I r_6_1.fType)), (8, .arr (List.map GTerm_O r_6_1.fKids)), (9, .box [.int .i64 r_6_1.fOp, .int .i64 r_6_1.fN, .rs 7, .rs 8]), (10, .arr (List.map I r_7_1_0.fType)), (11, .arr (List.map GTerm_O r_7_1_0.fKids)), (12, .box [.int .i64 r_7_1_0.fOp, .int .i64 r_7_1_0.fN, .rs 10, .rs 11])]) ?_ ?_
    · replace h := hj_3
      obtain ⟨r_8_2, hr_8_2, h⟩ := bsome h
      rcases itesome h with ⟨hb_8_0, h⟩ | ⟨hb_8_0, h⟩
      · refine Wp.reg tiok mix hc (by kernel_rfl) (ah := none) (rs := [some (.no), some (.no), some (.call (.bool r_8_2) [] 1), some (.no), some (.no), some (.no), some (.no), some (.no), some (.cond false)]) (kt := [1, 4, 5, 6, 7, 8, 40]) (ko := [1, 4, 5, 6, 7, 8, 9, 10, 11, 12]) (T' := [(1, .ra 1 0), (4, .ra 6 0), (5, .bool r_5_2_1), (6, .ra 9 0), (7, .ra 12 0), (8, .bool r_7_1_1), (40, .bool (!(r_7_1_1 == r_5_2_1)))]) (O' := [(1, .box [.int .i64 aT0.fOp, .int .i64 aT0.fN, .sl (List.map I aT0.fType), .sl (List.map GTerm_S aT0.fKids)]), (4, .arr (List.map I r_5_2_0.fType)), (5, .arr (List.map GTerm_O r_5_2_0.fKids)), (6, .box [.int .i64 r_5_2_0.fOp, .int .i64 r_5_2_0.fN, .rs 4, .rs 5]), (7, .arr (List.map I r_6_1.fType)), (8, .arr (List.map GTerm_O r_6_1.fKids)), (9, .box [.int .i64 r_6_1.fOp, .int .i64 r_6_1.fN, .rs 7, .rs 8]), (10, .arr (List.map I r_7_1_0.fType)), (11, .arr (List.map GTerm_O r_7_1_0.fKids)), (12, .box [.int .i64 r_7_1_0.fOp, .int .i64 r_7_1_0.fN, .rs 10, .rs 11])]) (by kernel_rfl) (And.intro (FnSound.args (A1 := [.agg [.int .i64 r_7_1_0.fOp, .int .i64 r_7_1_0.fN, .sl (shares (List.map I r_7_1_0.fType)), .sl (shares (List.map GTerm_O r_7_1_0.fKids))], .agg [.int .i64 r_5_2_0.fOp, .int .i64 r_5_2_0.fN, .sl (shares (List.map I r_5_2_0.fType)), .sl (shares (List.map GTerm_O r_5_2_0.fKids))]]) (A2 := [.agg [.int .i64 r_7_1_0.fOp, .int .i64 r_7_1_0.fN, .sl (List.map I r_7_1_0.fType), .sl (List.map GTerm_S r_7_1_0.fKids)], .agg [.int .i64 r_5_2_0.fOp, .int .i64 r_5_2_0.fN, .sl (List.map I r_5_2_0.fType), .sl (List.map GTerm_S r_5_2_0.fKids)]]) (by simp only [List.map_nil, sh_GTerm_O, sh_I]) (laws_eqTerm_s _ _ hr_8_2)) (And.intro bod_23 (And.intro (Or.inr rfl : ([10, 11, 4, 5] : List Nat) = [] ∨ noSh (.bool r_8_2) = true) (And.intro (nF hb_8_0) (And.intro (nF hb_8_0) (And.intro (nF hb_8_0) (And.intro (nF hb_8_0) trivial))))))) (by kernel_rfl) (by kernel_rfl) ?_
        obtain rfl := Option.some.inj h
        exact Into.mk
      · refine Wp.reg tiok mix hc (by kernel_rfl) (ah := none) (rs := [some (.no), some (.no), some (.call (.bool r_8_2) [] 1), some (.no), some (.no), none, none, none, some (.cond true)]) (kt := [1, 4, 5, 6, 7, 8, 40]) (ko := [1, 4, 5, 6, 7, 8, 9, 10, 11, 12]) (T' := [(1, .ra 1 0), (4, .ra 6 0), (5, .bool r_5_2_1), (6, .ra 9 0), (7, .ra 12 0), (8, .bool r_7_1_1), (40, .bool true)]) (O' := [(1, .box [.int .i64 aT0.fOp, .int .i64 aT0.fN, .sl (List.map I aT0.fType), .sl (List.map GTerm_S aT0.fKids)]), (4, .arr (List.map I r_5_2_0.fType)), (5, .arr (List.map GTerm_O r_5_2_0.fKids)), (6, .box [.int .i64 r_5_2_0.fOp, .int .i64 r_5_2_0.fN, .rs 4, .rs 5]), (7, .arr (List.map I r_6_1.fType)), (8, .arr (List.map GTerm_O r_6_1.fKids)), (9, .box [.int .i64 r_6_1.fOp, .int .i64 r_6_1.fN, .rs 7, .rs 8]), (10, .arr (List.map I r_7_1_0.fType)), (11, .arr (List.map GTerm_O r_7_1_0.fKids)), (12, .box [.int .i64 r_7_1_0.fOp, .int .i64 r_7_1_0.fN, .rs 10, .rs 11])]) (by kernel_rfl) (And.intro (FnSound.args (A1 := [.agg [.int .i64 r_7_1_0.fOp, .int .i64 r_7_1_0.fN, .sl (shares (List.map I r_7_1_0.fType)), .sl (shares (List.map GTerm_O r_7_1_0.fKids))], .agg [.int .i64 r_5_2_0.fOp, .int .i64 r_5_2_0.fN, .sl (shares (List.map I r_5_2_0.fType)), .sl (shares (List.map GTerm_O r_5_2_0.fKids))]]) (A2 := [.agg [.int .i64 r_7_1_0.fOp, .int .i64 r_7_1_0.fN, .sl (List.map I r_7_1_0.fType), .sl (List.map GTerm_S r_7_1_0.fKids)], .agg [.int .i64 r_5_2_0.fOp, .int .i64 r_5_2_0.fN, .sl (List.map I r_5_2_0.fType), .sl (List.map GTerm_S r_5_2_0.fKids)]]) (by simp only [List.map_nil, sh_GTerm_O, sh_I]) (laws_eqTerm_s _ _ hr_8_2)) (And.intro bod_23 (And.intro (Or.inr rfl : ([10, 11, 4, 5] : List Nat) = [] ∨ noSh (.bool r_8_2) = true) (And.intro (neF (nT hb_8_0) : (!r_8_2) ≠ false) (And.intro (neF (nT hb_8_0) : (!r_8_2) ≠ false) (And.intro (neF (nT hb_8_0) : (!r_8_2) ≠ false) (And.intro (nT hb_8_0) trivial))))))) (by kernel_rfl) (by kernel_rfl) ?_
        obtain rfl := Option.some.inj h
        exact Into.mk
    · clear hj_3
      refine seqQ_norm ?_
      rcases itesome h with ⟨hb_4, h⟩ | ⟨hb_4, h⟩
      · refine Wp.condT (b := v_2) (by kernel_rfl) (by kernel_rfl) hb_4 ?_
        refine Wp.seqN (by kernel_rfl) ?_
        refine Wp.reg tiok mix hc (by kernel_rfl) (ah := none) (rs := [some (.no)]) (kt := [2]) (ko := []) (T' := [(2, .bool false)]) (O' := []) (by kernel_rfl) trivial (by kernel_rfl) (by kernel_rfl) ?_
        refine seqQ_norm ?_
        refine Wp.retN (by kernel_rfl) ?_
        refine seqQ_ret ?_
        obtain rfl := Option.some.inj h
        exact RetQ.ret (fl := [true]) (by kernel_rfl)
      · refine Wp.condF (b := v_2) (by kernel_rfl) (by kernel_rfl) hb_4 ?_
        refine Wp.skipN (by kernel_rfl) ?_
        refine seqQ_norm ?_
        refine Wp.seqN (by kernel_rfl) ?_
        refine Wp.seqN (by kernel_rfl) ?_
        obtain ⟨r_10_2, hr_10_2, h⟩ := bsome h
        obtain ⟨r_10_3, hr_10_3, h⟩ := bsome h
        refine Wp.reg tiok mix hc (by kernel_rfl) (ah := (some [[], [], [1], [0, 1, 2], [0, 1, 2, 3]])) (rs := [some (.no), some (.no), some (.call (.agg [.int .i64 r_10_2.fOp, .int .i64 r_10_2.fN, .osl (List.map I r_10_2.fType), .osl (List.map GTerm_O r_10_2.fKids)]) [] 13), some (.call (.bool r_10_3) [] 1), some (.no)]) (kt := [1, 4, 5, 6, 7, 8, 45]) (ko := [1, 4, 5, 6, 7, 8, 9, 10, 11, 12]) (T' := [(1, .ra 1 0), (4, .ra 6 0), (5, .bool r_5_2_1), (6, .ra 9 0), (7, .ra 12 0), (8, .bool r_7_1_1), (45, .bool (!r_10_3))]) (O' := [(1, .box [.int .i64 aT0.fOp, .int .i64 aT0.fN, .sl (List.map I aT0.fType), .sl (List.map GTerm_S aT0.fKids)]), (4, .arr (List.map I r_5_2_0.fType)), (5, .arr (List.map GTerm_O r_5_2_0.fKids)), (6, .box [.int .i64 r_5_2_0.fOp, .int .i64 r_5_2_0.fN, .rs 4, .rs 5]), (7, .arr (List.map I r_6_1.fType)), (8, .arr (List.map GTerm_O r_6_1.fKids)), (9, .box [.int .i64 r_6_1.fOp, .int .i64 r_6_1.fN, .rs 7, .rs 8]), (10, .arr (List.map I r_7_1_0.fType)), (11, .arr (List.map GTerm_O r_7_1_0.fKids)), (12, .box [.int .i64 r_7_1_0.fOp, .int .i64 r_7_1_0.fN, .rs 10, .rs 11])]) (by kernel_rfl) (And.intro (laws_toTerm_s _ _ hr_10_2) (And.intro bod_21 (And.intro (Or.inl rfl : ([] : List Nat) = [] ∨ noSh (.agg [.int .i64 r_10_2.fOp, .int .i64 r_10_2.fN, .osl (List.map I r_10_2.fType), .osl (List.map GTerm_O r_10_2.fKids)]) = true) (And.intro (FnSound.args (A1 := [.agg [.int .i64 r_6_1.fOp, .int .i64 r_6_1.fN, .sl (shares (List.map I r_6_1.fType)), .sl (shares (List.map GTerm_O r_6_1.fKids))], .agg [.int .i64 r_10_2.fOp, .int .i64 r_10_2.fN, .sl (shares (List.map I r_10_2.fType)), .sl (shares (List.map GTerm_O r_10_2.fKids))]]) (A2 := [.agg [.int .i64 r_6_1.fOp, .int .i64 r_6_1.fN, .sl (List.map I r_6_1.fType), .sl (List.map GTerm_S r_6_1.fKids)], .agg [.int .i64 r_10_2.fOp, .int .i64 r_10_2.fN, .sl (List.map I r_10_2.fType), .sl (List.map GTerm_S r_10_2.fKids)]]) (by simp only [List.map_nil, sh_GTerm_O, sh_I]) (laws_eqTerm_s _ _ hr_10_3)) (And.intro bod_23 (And.intro (Or.inr rfl : ([7, 8, 13, 14] : List Nat) = [] ∨ noSh (.bool r_10_3) = true) trivial)))))) (by kernel_rfl) (by kernel_rfl) ?_
        refine seqQ_norm ?_
        rcases itesome h with ⟨hb_5, h⟩ | ⟨hb_5, h⟩
        · refine Wp.condF (b := (!r_10_3)) (by kernel_rfl) (by kernel_rfl) (nF hb_5) ?_
          refine Wp.skipN (by kernel_rfl) ?_
          refine seqQ_norm ?_
          refine Wp.seqN (by kernel_rfl) ?_
          refine Wp.reg tiok mix hc (by kernel_rfl) (ah := none) (rs := [some (.no)]) (kt := [1, 4, 5, 6, 7, 8, 9]) (ko := [1, 4, 5, 6, 7, 8, 9, 10, 11, 12]) (T' := [(1, .ra 1 0), (4, .ra 6 0), (5, .bool r_5_2_1), (6, .ra 9 0), (7, .ra 12 0), (8, .bool r_7_1_1), (9, .int .i64 1)]) (O' := [(1, .box [.int .i64 aT0.fOp, .int .i64 aT0.fN, .sl (List.map I aT0.fType), .sl (List.map GTerm_S aT0.fKids)]), (4, .arr (List.map I r_5_2_0.fType)), (5, .arr (List.map GTerm_O r_5_2_0.fKids)), (6, .box [.int .i64 r_5_2_0.fOp, .int .i64 r_5_2_0.fN, .rs 4, .rs 5]), (7, .arr (List.map I r_6_1.fType)), (8, .arr (List.map GTerm_O r_6_1.fKids)), (9, .box [.int .i64 r_6_1.fOp, .int .i64 r_6_1.fN, .rs 7, .rs 8]), (10, .arr (List.map I r_7_1_0.fType)), (11, .arr (List.map GTerm_O r_7_1_0.fKids)), (12, .box [.int .i64 r_7_1_0.fOp, .int .i64 r_7_1_0.fN, .rs 10, .rs 11])]) (by kernel_rfl) trivial (by kernel_rfl) (by kernel_rfl) ?_
          refine seqQ_norm ?_
          refine Wp.seqN (by kernel_rfl) ?_
          obtain ⟨⟨r_13_2, o_13_2_0⟩, hr_13_2, h⟩ := bsome h
          refine Wp.reg tiok mix hc (by kernel_rfl) (ah := none) (rs := [some (.no), some (.no), some (.call (.int .i64 r_13_2) [.agg [.undef, .undef, .osl (List.map I o_13_2_0.fType), .osl (List.map GTerm_O o_13_2_0.fKids)], .undef] 1), some (.no)]) (kt := [1, 4, 5, 7, 8, 9]) (ko := [1, 4, 5, 6, 10, 11, 12]) (T' := [(1, .ra 1 0), (4, .ra 6 0), (5, .bool r_5_2_1), (7, .ra 12 0), (8, .bool r_7_1_1), (9, .int .i64 r_13_2)]) (O' := [(1, .box [.int .i64 aT0.fOp, .int .i64 aT0.fN, .sl (List.map I aT0.fType), .sl (List.map GTerm_S aT0.fKids)]), (4, .arr (List.map I r_5_2_0.fType)), (5, .arr (List.map GTerm_O r_5_2_0.fKids)), (6, .box [.int .i64 r_5_2_0.fOp, .int .i64 r_5_2_0.fN, .rs 4, .rs 5]), (10, .arr (List.map I r_7_1_0.fType)), (11, .arr (List.map GTerm_O r_7_1_0.fKids)), (12, .box [.int .i64 r_7_1_0.fOp, .int .i64 r_7_1_0.fN, .rs 10, .rs 11])]) (by kernel_rfl) (And.intro (laws_markTerm_s _ _ hr_13_2) (And.intro bod_32 trivial)) (by kernel_rfl) (by kernel_rfl) ?_
          refine seqQ_norm ?_
          refine Wp.seqN (by kernel_rfl) ?_
          refine Wp.seqN (by kernel_rfl) ?_
          obtain ⟨v_6, hj_7, h⟩ := bsome h
          refine Wp.into (x := .normal) (mkS [(1, .ra 1 0), (4, .ra 6 0), (5, .bool r_5_2_1), (7, .ra 12 0), (61, .bool v_6)] [(1, .box [.int .i64 aT0.fOp, .int .i64 aT0.fN, .sl (List.map I aT0.fType), .sl (List.map GTerm_S aT0.fKids)]), (4, .arr (List.map I r_5_2_0.fType)), (5, .arr (List.map GTerm_O r_5_2_0.fKids)), (6, .box [.int .i64 r_5_2_0.fOp, .int .i64 r_5_2_0.fN, .rs 4, .rs 5]), (10, .arr (List.map I r_7_1_0.fType)), (11, .arr (List.map GTerm_O r_7_1_0.fKids)), (12, .box [.int .i64 r_7_1_0.fOp, .int .i64 r_7_1_0.fN, .rs 10, .rs 11])]) ?_ ?_
          · replace h := hj_7
            rcases itesome h with ⟨hb_14_0, h⟩ | ⟨hb_14_0, h⟩
            · refine Wp.reg tiok mix hc (by kernel_rfl) (ah := none) (rs := [some (.no), some (.no), some (.no), none, none, none, none, some (.cond true), some (.no), none, none, none, some (.cond true)]) (kt := [1, 4, 5, 7, 61]) (ko := [1, 4, 5, 6, 10, 11, 12]) (T' := [(1, .ra 1 0), (4, .ra 6 0), (5, .bool r_5_2_1), (7, .ra 12 0), (61, .bool true)]) (O' := [(1, .box [.int .i64 aT0.fOp, .int .i64 aT0.fN, .sl (List.map I aT0.fType), .sl (List.map GTerm_S aT0.fKids)]), (4, .arr (List.map I r_5_2_0.fType)), (5, .arr (List.map GTerm_O r_5_2_0.fKids)), (6, .box [.int .i64 r_5_2_0.fOp, .int .i64 r_5_2_0.fN, .rs 4, .rs 5]), (10, .arr (List.map I r_7_1_0.fType)), (11, .arr (List.map GTerm_O r_7_1_0.fKids)), (12, .box [.int .i64 r_7_1_0.fOp, .int .i64 r_7_1_0.fN, .rs 10, .rs 11])]) (by kernel_rfl) (And.intro (neF hb_14_0 : (decide (r_13_2 < 0)) ≠ false) (And.intro (neF hb_14_0 : (decide (r_13_2 < 0)) ≠ false) (And.intro (neF hb_14_0 : (decide (r_13_2 < 0)) ≠ false) (And.intro (neF hb_14_0 : (decide (r_13_2 < 0)) ≠ false) (And.intro hb_14_0 (And.intro (neF (rfl : true = true) : true ≠ false) (And.intro (neF (rfl : true = true) : true ≠ false) (And.intro (neF (rfl : true = true) : true ≠ false) (And.intro (rfl : true = true) trivial))))))))) (by kernel_rfl) (by kernel_rfl) ?_
              obtain rfl := Option.some.inj h
              exact Into.mk
            · obtain ⟨r_14_5, hr_14_5, h⟩ := bsome h
              rcases itesome h with ⟨hb_14_1, h⟩ | ⟨hb_14_1, h⟩
              · refine Wp.reg tiok mix hc (by kernel_rfl) (ah := none) (rs := [some (.no), some (.no), some (.no), some (.no), some (.no), some (.call (.bool r_14_5) [] 1), some (.no), some (.cond false), some (.no), some (.no), some (.no), some (.no), some (.cond false)]) (kt := [1, 4, 5, 7, 61]) (ko := [1, 4, 5, 6, 10, 11, 12]) (T' := [(1, .ra 1 0), (4, .ra 6 0), (5, .bool r_5_2_1), (7, .ra 12 0), (61, .bool (!(r_7_1_1 == r_5_2_1)))]) (O' := [(1, .box [.int .i64 aT0.fOp, .int .i64 aT0.fN, .sl (List.map I aT0.fType), .sl (List.map GTerm_S aT0.fKids)]), (4, .arr (List.map I r_5_2_0.fType)), (5, .arr (List.map GTerm_O r_5_2_0.fKids)), (6, .box [.int .i64 r_5_2_0.fOp, .int .i64 r_5_2_0.fN, .rs 4, .rs 5]), (10, .arr (List.map I r_7_1_0.fType)), (11, .arr (List.map GTerm_O r_7_1_0.fKids)), (12, .box [.int .i64 r_7_1_0.fOp, .int .i64 r_7_1_0.fN, .rs 10, .rs 11])]) (by kernel_rfl) (And.intro hb_14_0 (And.intro hb_14_0 (And.intro hb_14_0 (And.intro (FnSound.args (A1 := [.agg [.int .i64 r_7_1_0.fOp, .int .i64 r_7_1_0.fN, .sl (shares (List.map I r_7_1_0.fType)), .sl (shares (List.map GTerm_O r_7_1_0.fKids))], .agg [.int .i64 r_5_2_0.fOp, .int .i64 r_5_2_0.fN, .sl (shares (List.map I r_5_2_0.fType)), .sl (shares (List.map GTerm_O r_5_2_0.fKids))]]) (A2 := [.agg [.int .i64 r_7_1_0.fOp, .int .i64 r_7_1_0.fN, .sl (List.map I r_7_1_0.fType), .sl (List.map GTerm_S r_7_1_0.fKids)], .agg [.int .i64 r_5_2_0.fOp, .int .i64 r_5_2_0.fN, .sl (List.map I r_5_2_0.fType), .sl (List.map GTerm_S r_5_2_0.fKids)]]) (by simp only [List.map_nil, sh_GTerm_O, sh_I]) (laws_eqTerm_s _ _ hr_14_5)) (And.intro bod_23 (And.intro (Or.inr rfl : ([10, 11, 4, 5] : List Nat) = [] ∨ noSh (.bool r_14_5) = true) (And.intro hb_14_0 (And.intro hb_14_0 (And.intro (nF hb_14_1) (And.intro (nF hb_14_1) (And.intro (nF hb_14_1) (And.intro (nF hb_14_1) trivial)))))))))))) (by kernel_rfl) (by kernel_rfl) ?_
                obtain rfl := Option.some.inj h
                exact Into.mk
              · refine Wp.reg tiok mix hc (by kernel_rfl) (ah := none) (rs := [some (.no), some (.no), some (.no), some (.no), some (.no), some (.call (.bool r_14_5) [] 1), some (.no), some (.cond false), some (.no), none, none, none, some (.cond true)]) (kt := [1, 4, 5, 7, 61]) (ko := [1, 4, 5, 6, 10, 11, 12]) (T' := [(1, .ra 1 0), (4, .ra 6 0), (5, .bool r_5_2_1), (7, .ra 12 0), (61, .bool true)]) (O' := [(1, .box [.int .i64 aT0.fOp, .int .i64 aT0.fN, .sl (List.map I aT0.fType), .sl (List.map GTerm_S aT0.fKids)]), (4, .arr (List.map I r_5_2_0.fType)), (5, .arr (List.map GTerm_O r_5_2_0.fKids)), (6, .box [.int .i64 r_5_2_0.fOp, .int .i64 r_5_2_0.fN, .rs 4, .rs 5]), (10, .arr (List.map I r_7_1_0.fType)), (11, .arr (List.map GTerm_O r_7_1_0.fKids)), (12, .box [.int .i64 r_7_1_0.fOp, .int .i64 r_7_1_0.fN, .rs 10, .rs 11])]) (by kernel_rfl) (And.intro hb_14_0 (And.intro hb_14_0 (And.intro hb_14_0 (And.intro (FnSound.args (A1 := [.agg [.int .i64 r_7_1_0.fOp, .int .i64 r_7_1_0.fN, .sl (shares (List.map I r_7_1_0.fType)), .sl (shares (List.map GTerm_O r_7_1_0.fKids))], .agg [.int .i64 r_5_2_0.fOp, .int .i64 r_5_2_0.fN, .sl (shares (List.map I r_5_2_0.fType)), .sl (shares (List.map GTerm_O r_5_2_0.fKids))]]) (A2 := [.agg [.int .i64 r_7_1_0.fOp, .int .i64 r_7_1_0.fN, .sl (List.map I r_7_1_0.fType), .sl (List.map GTerm_S r_7_1_0.fKids)], .agg [.int .i64 r_5_2_0.fOp, .int .i64 r_5_2_0.fN, .sl (List.map I r_5_2_0.fType), .sl (List.map GTerm_S r_5_2_0.fKids)]]) (by simp only [List.map_nil, sh_GTerm_O, sh_I]) (laws_eqTerm_s _ _ hr_14_5)) (And.intro bod_23 (And.intro (Or.inr rfl : ([10, 11, 4, 5] : List Nat) = [] ∨ noSh (.bool r_14_5) = true) (And.intro hb_14_0 (And.intro hb_14_0 (And.intro (neF (nT hb_14_1) : (!r_14_5) ≠ false) (And.intro (neF (nT hb_14_1) : (!r_14_5) ≠ false) (And.intro (neF (nT hb_14_1) : (!r_14_5) ≠ false) (And.intro (nT hb_14_1) trivial)))))))))))) (by kernel_rfl) (by kernel_rfl) ?_
                obtain rfl := Option.some.inj h
                exact Into.mk
          · clear hj_7
            refine seqQ_norm ?_
            rcases itesome h with ⟨hb_8, h⟩ | ⟨hb_8, h⟩
            · refine Wp.condT (b := v_6) (by kernel_rfl) (by kernel_rfl) hb_8 ?_
              refine Wp.seqN (by kernel_rfl) ?_
              refine Wp.reg tiok mix hc (by kernel_rfl) (ah := none) (rs := [some (.no)]) (kt := [2]) (ko := []) (T' := [(2, .bool false)]) (O' := []) (by kernel_rfl) trivial (by kernel_rfl) (by kernel_rfl) ?_
              refine seqQ_norm ?_
              refine Wp.retN (by kernel_rfl) ?_
              refine seqQ_ret ?_
              obtain rfl := Option.some.inj h
              exact RetQ.ret (fl := [true]) (by kernel_rfl)
            · refine Wp.condF (b := v_6) (by kernel_rfl) (by kernel_rfl) hb_8 ?_
              refine Wp.skipN (by kernel_rfl) ?_
              refine seqQ_norm ?_
              refine Wp.seqN (by kernel_rfl) ?_
              refine Wp.reg tiok mix hc (by kernel_rfl) (ah := none) (rs := [some (.no)]) (kt := [1, 4, 5, 7, 10]) (ko := [1, 4, 5, 6, 10, 11, 12]) (T' := [(1, .ra 1 0), (4, .ra 6 0), (5, .bool r_5_2_1), (7, .ra 12 0), (10, .int .i64 1)]) (O' := [(1, .box [.int .i64 aT0.fOp, .int .i64 aT0.fN, .sl (List.map I aT0.fType), .sl (List.map GTerm_S aT0.fKids)]), (4, .arr (List.map I r_5_2_0.fType)), (5, .arr (List.map GTerm_O r_5_2_0.fKids)), (6, .box [.int .i64 r_5_2_0.fOp, .int .i64 r_5_2_0.fN, .rs 4, .rs 5]), (10, .arr (List.map I r_7_1_0.fType)), (11, .arr (List.map GTerm_O r_7_1_0.fKids)), (12, .box [.int .i64 r_7_1_0.fOp, .int .i64 r_7_1_0.fN, .rs 10, .rs 11])]) (by kernel_rfl) trivial (by kernel_rfl) (by kernel_rfl) ?_
              refine seqQ_norm ?_
              refine Wp.seqN (by kernel_rfl) ?_
              obtain ⟨⟨r_17_2, o_17_2_0⟩, hr_17_2, h⟩ := bsome h
              refine Wp.reg tiok mix hc (by kernel_rfl) (ah := none) (rs := [some (.no), some (.no), some (.call (.int .i64 r_17_2) [.agg [.undef, .undef, .osl (List.map I o_17_2_0.fType), .osl (List.map GTerm_O o_17_2_0.fKids)], .undef] 1), some (.no)]) (kt := [1, 4, 5, 7, 10]) (ko := [1, 4, 5, 6, 10, 11, 12]) (T' := [(1, .ra 1 0), (4, .ra 6 0), (5, .bool r_5_2_1), (7, .ra 12 0), (10, .int .i64 r_17_2)]) (O' := [(1, .box [.int .i64 aT0.fOp, .int .i64 aT0.fN, .sl (List.map I aT0.fType), .sl (List.map GTerm_S aT0.fKids)]), (4, .arr (List.map I r_5_2_0.fType)), (5, .arr (List.map GTerm_O r_5_2_0.fKids)), (6, .box [.int .i64 r_5_2_0.fOp, .int .i64 r_5_2_0.fN, .rs 4, .rs 5]), (10, .arr (List.map I o_17_2_0.fType)), (11, .arr (List.map GTerm_O o_17_2_0.fKids)), (12, .box [.int .i64 r_7_1_0.fOp, .int .i64 r_7_1_0.fN, .rs 10, .rs 11])]) (by kernel_rfl) (And.intro (laws_markTerm_s _ _ hr_17_2) (And.intro bod_32 trivial)) (by kernel_rfl) (by kernel_rfl) ?_
              refine seqQ_norm ?_
              refine Wp.seqN (by kernel_rfl) ?_
              refine Wp.reg tiok mix hc (by kernel_rfl) (ah := none) (rs := [some (.no)]) (kt := [1, 4, 5, 7, 10, 11]) (ko := [1, 4, 5, 6, 10, 11, 12]) (T' := [(1, .ra 1 0), (4, .ra 6 0), (5, .bool r_5_2_1), (7, .ra 12 0), (10, .int .i64 r_17_2), (11, .int .i64 1)]) (O' := [(1, .box [.int .i64 aT0.fOp, .int .i64 aT0.fN, .sl (List.map I aT0.fType), .sl (List.map GTerm_S aT0.fKids)]), (4, .arr (List.map I r_5_2_0.fType)), (5, .arr (List.map GTerm_O r_5_2_0.fKids)), (6, .box [.int .i64 r_5_2_0.fOp, .int .i64 r_5_2_0.fN, .rs 4, .rs 5]), (10, .arr (List.map I o_17_2_0.fType)), (11, .arr (List.map GTerm_O o_17_2_0.fKids)), (12, .box [.int .i64 r_7_1_0.fOp, .int .i64 r_7_1_0.fN, .rs 10, .rs 11])]) (by kernel_rfl) trivial (by kernel_rfl) (by kernel_rfl) ?_
              refine seqQ_norm ?_
              refine Wp.seqN (by kernel_rfl) ?_
              obtain ⟨r_19_2, hr_19_2, h⟩ := bsome h
              refine Wp.reg tiok mix hc (by kernel_rfl) (ah := none) (rs := [some (.no), some (.no), some (.call (.int .i64 r_19_2) [] 1), some (.no)]) (kt := [1, 4, 5, 7, 10, 11]) (ko := [1, 4, 5, 6, 10, 11, 12]) (T' := [(1, .ra 1 0), (4, .ra 6 0), (5, .bool r_5_2_1), (7, .ra 12 0), (10, .int .i64 r_17_2), (11, .int .i64 r_19_2)]) (O' := [(1, .box [.int .i64 aT0.fOp, .int .i64 aT0.fN, .sl (List.map I aT0.fType), .sl (List.map GTerm_S aT0.fKids)]), (4, .arr (List.map I r_5_2_0.fType)), (5, .arr (List.map GTerm_O r_5_2_0.fKids)), (6, .box [.int .i64 r_5_2_0.fOp, .int .i64 r_5_2_0.fN, .rs 4, .rs 5]), (10, .arr (List.map I o_17_2_0.fType)), (11, .arr (List.map GTerm_O o_17_2_0.fKids)), (12, .box [.int .i64 r_7_1_0.fOp, .int .i64 r_7_1_0.fN, .rs 10, .rs 11])]) (by kernel_rfl) (And.intro (FnSound.args (A1 := [.agg [.int .i64 r_7_1_0.fOp, .int .i64 r_7_1_0.fN, .sl (shares (List.map I o_17_2_0.fType)), .sl (shares (List.map GTerm_O o_17_2_0.fKids))], .int .i64 1]) (A2 := [.agg [.int .i64 r_7_1_0.fOp, .int .i64 r_7_1_0.fN, .sl (List.map I o_17_2_0.fType), .sl (List.map GTerm_S o_17_2_0.fKids)], .int .i64 1]) (by simp only [List.map_nil, sh_GTerm_O, sh_I]) (laws_heldTerm_s _ _ hr_19_2)) (And.intro bod_34 (And.intro (Or.inr rfl : ([10, 11] : List Nat) = [] ∨ noSh (.int .i64 r_19_2) = true) trivial))) (by kernel_rfl) (by kernel_rfl) ?_
              refine seqQ_norm ?_
              refine Wp.seqN (by kernel_rfl) ?_
              refine Wp.seqN (by kernel_rfl) ?_
              refine Wp.reg tiok mix hc (by kernel_rfl) (ah := none) (rs := [some (.no), some (.no)]) (kt := [1, 4, 5, 7, 10, 11, 69]) (ko := [1, 4, 5, 6, 10, 11, 12]) (T' := [(1, .ra 1 0), (4, .ra 6 0), (5, .bool r_5_2_1), (7, .ra 12 0), (10, .int .i64 r_17_2), (11, .int .i64 r_19_2), (69, .bool (decide (r_19_2 < 0)))]) (O' := [(1, .box [.int .i64 aT0.fOp, .int .i64 aT0.fN, .sl (List.map I aT0.fType), .sl (List.map GTerm_S aT0.fKids)]), (4, .arr (List.map I r_5_2_0.fType)), (5, .arr (List.map GTerm_O r_5_2_0.fKids)), (6, .box [.int .i64 r_5_2_0.fOp, .int .i64 r_5_2_0.fN, .rs 4, .rs 5]), (10, .arr (List.map I o_17_2_0.fType)), (11, .arr (List.map GTerm_O o_17_2_0.fKids)), (12, .box [.int .i64 r_7_1_0.fOp, .int .i64 r_7_1_0.fN, .rs 10, .rs 11])]) (by kernel_rfl) trivial (by kernel_rfl) (by kernel_rfl) ?_
              refine seqQ_norm ?_
              rcases itesome h with ⟨hb_9, h⟩ | ⟨hb_9, h⟩
              · refine Wp.condT (b := (decide (r_19_2 < 0))) (by kernel_rfl) (by kernel_rfl) hb_9 ?_
                refine Wp.seqN (by kernel_rfl) ?_
                refine Wp.reg tiok mix hc (by kernel_rfl) (ah := none) (rs := [some (.no)]) (kt := [2]) (ko := []) (T' := [(2, .bool false)]) (O' := []) (by kernel_rfl) trivial (by kernel_rfl) (by kernel_rfl) ?_
                refine seqQ_norm ?_
                refine Wp.retN (by kernel_rfl) ?_
                refine seqQ_ret ?_
                obtain rfl := Option.some.inj h
                exact RetQ.ret (fl := [true]) (by kernel_rfl)
              · refine Wp.condF (b := (decide (r_19_2 < 0))) (by kernel_rfl) (by kernel_rfl) hb_9 ?_
                refine Wp.skipN (by kernel_rfl) ?_
                refine seqQ_norm ?_
                refine Wp.seqN (by kernel_rfl) ?_
                refine Wp.seqN (by kernel_rfl) ?_
                refine Wp.reg tiok mix hc (by kernel_rfl) (ah := none) (rs := [some (.no), some (.no), some (.no)]) (kt := [1, 4, 5, 7, 10, 72]) (ko := [1, 4, 5, 6, 10, 11, 12]) (T' := [(1, .ra 1 0), (4, .ra 6 0), (5, .bool r_5_2_1), (7, .ra 12 0), (10, .int .i64 r_17_2), (72, .bool (r_19_2 != r_17_2))]) (O' := [(1, .box [.int .i64 aT0.fOp, .int .i64 aT0.fN, .sl (List.map I aT0.fType), .sl (List.map GTerm_S aT0.fKids)]), (4, .arr (List.map I r_5_2_0.fType)), (5, .arr (List.map GTerm_O r_5_2_0.fKids)), (6, .box [.int .i64 r_5_2_0.fOp, .int .i64 r_5_2_0.fN, .rs 4, .rs 5]), (10, .arr (List.map I o_17_2_0.fType)), (11, .arr (List.map GTerm_O o_17_2_0.fKids)), (12, .box [.int .i64 r_7_1_0.fOp, .int .i64 r_7_1_0.fN, .rs 10, .rs 11])]) (by kernel_rfl) trivial (by kernel_rfl) (by kernel_rfl) ?_
                refine seqQ_norm ?_
                rcases itesome h with ⟨hb_10, h⟩ | ⟨hb_10, h⟩
                · refine Wp.condT (b := (r_19_2 != r_17_2)) (by kernel_rfl) (by kernel_rfl) hb_10 ?_
                  refine Wp.seqN (by kernel_rfl) ?_
                  refine Wp.reg tiok mix hc (by kernel_rfl) (ah := none) (rs := [some (.no)]) (kt := [2]) (ko := []) (T' := [(2, .bool false)]) (O' := []) (by kernel_rfl) trivial (by kernel_rfl) (by kernel_rfl) ?_
                  refine seqQ_norm ?_
                  refine Wp.retN (by kernel_rfl) ?_
                  refine seqQ_ret ?_
                  obtain rfl := Option.some.inj h
                  exact RetQ.ret (fl := [true]) (by kernel_rfl)
                · refine Wp.condF (b := (r_19_2 != r_17_2)) (by kernel_rfl) (by kernel_rfl) hb_10 ?_
                  refine Wp.skipN (by kernel_rfl) ?_
                  refine seqQ_norm ?_
                  refine Wp.seqN (by kernel_rfl) ?_
                  obtain ⟨r_24_1, hr_24_1, h⟩ := bsome h
                  obtain ⟨⟨r_24_2_0, r_24_2_1⟩, hr_24_2, h⟩ := bsome h
                  refine Wp.reg tiok mix hc (by kernel_rfl) (ah := none) (rs := [some (.no), some (.call (.agg [.int .i64 r_24_1.fOp, .int .i64 r_24_1.fN, .osl (List.map I r_24_1.fType), .osl (List.map GTerm_O r_24_1.fKids)]) [] 15), some (.call (.tup [.agg [.int .i64 r_24_2_0.fOp, .int .i64 r_24_2_0.fN, .osl (List.map I r_24_2_0.fType), .osl (List.map GTerm_O r_24_2_0.fKids)], .bool r_24_2_1]) [] 17), some (.no), some (.no), some (.no), some (.new 19), some (.no), some (.no)]) (kt := [4, 5, 7, 10, 12, 13]) (ko := [4, 5, 6, 10, 11, 12, 17, 18, 19]) (T' := [(4, .ra 6 0), (5, .bool r_5_2_1), (7, .ra 12 0), (10, .int .i64 r_17_2), (12, .ra 19 0), (13, .bool r_24_2_1)]) (O' := [(4, .arr (List.map I r_5_2_0.fType)), (5, .arr (List.map GTerm_O r_5_2_0.fKids)), (6, .box [.int .i64 r_5_2_0.fOp, .int .i64 r_5_2_0.fN, .rs 4, .rs 5]), (10, .arr (List.map I o_17_2_0.fType)), (11, .arr (List.map GTerm_O o_17_2_0.fKids)), (12, .box [.int .i64 r_7_1_0.fOp, .int .i64 r_7_1_0.fN, .rs 10, .rs 11]), (17, .arr (List.map I r_24_2_0.fType)), (18, .arr (List.map GTerm_O r_24_2_0.fKids)), (19, .box [.int .i64 r_24_2_0.fOp, .int .i64 r_24_2_0.fN, .rs 17, .rs 18])]) (by kernel_rfl) (And.intro (laws_toTerm_s _ _ hr_24_1) (And.intro bod_21 (And.intro (Or.inl rfl : ([] : List Nat) = [] ∨ noSh (.agg [.int .i64 r_24_1.fOp, .int .i64 r_24_1.fN, .osl (List.map I r_24_1.fType), .osl (List.map GTerm_O r_24_1.fKids)]) = true) (And.intro (FnSound.args (A1 := [.agg [.int .i64 r_24_1.fOp, .int .i64 r_24_1.fN, .sl (shares (List.map I r_24_1.fType)), .sl (shares (List.map GTerm_O r_24_1.fKids))]]) (A2 := [.agg [.int .i64 r_24_1.fOp, .int .i64 r_24_1.fN, .sl (List.map I r_24_1.fType), .sl (List.map GTerm_S r_24_1.fKids)]]) (by simp only [List.map_nil, sh_GTerm_O, sh_I]) (impl_OpenAll_s _ _ hr_24_2)) (And.intro bod_36 (And.intro (Or.inr (nsh_cons (nsh_cons rfl (nsh_cons rfl (nsh_cons (nsh_row nsh_I r_24_2_0.fType) (nsh_cons (nsh_row nsh_GTerm_O r_24_2_0.fKids) rfl)))) (nsh_cons rfl rfl)) : ([15, 16] : List Nat) = [] ∨ noSh (.tup [.agg [.int .i64 r_24_2_0.fOp, .int .i64 r_24_2_0.fN, .osl (List.map I r_24_2_0.fType), .osl (List.map GTerm_O r_24_2_0.fKids)], .bool r_24_2_1]) = true) trivial)))))) (by kernel_rfl) (by kernel_rfl) ?_
                  refine seqQ_norm ?_
                  refine Wp.seqN (by kernel_rfl) ?_
                  refine Wp.seqN (by kernel_rfl) ?_
                  obtain ⟨v_11, hj_12, h⟩ := bsome h
                  refine Wp.into (x := .normal) (mkS [(7, .ra 12 0), (10, .int .i64 r_17_2), (87, .bool v_11)] [(10, .arr (List.map I o_17_2_0.fType)), (11, .arr (List.map GTerm_O o_17_2_0.fKids)), (12, .box [.int .i64 r_7_1_0.fOp, .int .i64 r_7_1_0.fN, .rs 10, .rs 11])]) ?_ ?_
                  · replace h := hj_12
                    obtain ⟨r_25_2, hr_25_2, h⟩ := bsome h
                    rcases itesome h with ⟨hb_25_0, h⟩ | ⟨hb_25_0, h⟩
                    · refine Wp.reg tiok mix hc (by kernel_rfl) (ah := none) (rs := [some (.no), some (.no), some (.call (.bool r_25_2) [] 1), some (.no), some (.no), some (.no), some (.no), some (.no), some (.cond false)]) (kt := [7, 10, 87]) (ko := [10, 11, 12]) (T' := [(7, .ra 12 0), (10, .int .i64 r_17_2), (87, .bool (!(r_24_2_1 == r_5_2_1)))]) (O' := [(10, .arr (List.map I o_17_2_0.fType)), (11, .arr (List.map GTerm_O o_17_2_0.fKids)), (12, .box [.int .i64 r_7_1_0.fOp, .int .i64 r_7_1_0.fN, .rs 10, .rs 11])]) (by kernel_rfl) (And.intro (FnSound.args (A1 := [.agg [.int .i64 r_24_2_0.fOp, .int .i64 r_24_2_0.fN, .sl (shares (List.map I r_24_2_0.fType)), .sl (shares (List.map GTerm_O r_24_2_0.fKids))], .agg [.int .i64 r_5_2_0.fOp, .int .i64 r_5_2_0.fN, .sl (shares (List.map I r_5_2_0.fType)), .sl (shares (List.map GTerm_O r_5_2_0.fKids))]]) (A2 := [.agg [.int .i64 r_24_2_0.fOp, .int .i64 r_24_2_0.fN, .sl (List.map I r_24_2_0.fType), .sl (List.map GTerm_S r_24_2_0.fKids)], .agg [.int .i64 r_5_2_0.fOp, .int .i64 r_5_2_0.fN, .sl (List.map I r_5_2_0.fType), .sl (List.map GTerm_S r_5_2_0.fKids)]]) (by simp only [List.map_nil, sh_GTerm_O, sh_I]) (laws_eqTerm_s _ _ hr_25_2)) (And.intro bod_23 (And.intro (Or.inr rfl : ([17, 18, 4, 5] : List Nat) = [] ∨ noSh (.bool r_25_2) = true) (And.intro (nF hb_25_0) (And.intro (nF hb_25_0) (And.intro (nF hb_25_0) (And.intro (nF hb_25_0) trivial))))))) (by kernel_rfl) (by kernel_rfl) ?_
                      obtain rfl := Option.some.inj h
                      exact Into.mk
                    · refine Wp.reg tiok mix hc (by kernel_rfl) (ah := none) (rs := [some (.no), some (.no), some (.call (.bool r_25_2) [] 1), some (.no), some (.no), none, none, none, some (.cond true)]) (kt := [7, 10, 87]) (ko := [10, 11, 12]) (T' := [(7, .ra 12 0), (10, .int .i64 r_17_2), (87, .bool true)]) (O' := [(10, .arr (List.map I o_17_2_0.fType)), (11, .arr (List.map GTerm_O o_17_2_0.fKids)), (12, .box [.int .i64 r_7_1_0.fOp, .int .i64 r_7_1_0.fN, .rs 10, .rs 11])]) (by kernel_rfl) (And.intro (FnSound.args (A1 := [.agg [.int .i64 r_24_2_0.fOp, .int .i64 r_24_2_0.fN, .sl (shares (List.map I r_24_2_0.fType)), .sl (shares (List.map GTerm_O r_24_2_0.fKids))], .agg [.int .i64 r_5_2_0.fOp, .int .i64 r_5_2_0.fN, .sl (shares (List.map I r_5_2_0.fType)), .sl (shares (List.map GTerm_O r_5_2_0.fKids))]]) (A2 := [.agg [.int .i64 r_24_2_0.fOp, .int .i64 r_24_2_0.fN, .sl (List.map I r_24_2_0.fType), .sl (List.map GTerm_S r_24_2_0.fKids)], .agg [.int .i64 r_5_2_0.fOp, .int .i64 r_5_2_0.fN, .sl (List.map I r_5_2_0.fType), .sl (List.map GTerm_S r_5_2_0.fKids)]]) (by simp only [List.map_nil, sh_GTerm_O, sh_I]) (laws_eqTerm_s _ _ hr_25_2)) (And.intro bod_23 (And.intro (Or.inr rfl : ([17, 18, 4, 5] : List Nat) = [] ∨ noSh (.bool r_25_2) = true) (And.intro (neF (nT hb_25_0) : (!r_25_2) ≠ false) (And.intro (neF (nT hb_25_0) : (!r_25_2) ≠ false) (And.intro (neF (nT hb_25_0) : (!r_25_2) ≠ false) (And.intro (nT hb_25_0) trivial))))))) (by kernel_rfl) (by kernel_rfl) ?_
                      obtain rfl := Option.some.inj h
                      exact Into.mk
                  · clear hj_12
                    refine seqQ_norm ?_
                    rcases itesome h with ⟨hb_13, h⟩ | ⟨hb_13, h⟩
                    · refine Wp.condT (b := v_11) (by kernel_rfl) (by kernel_rfl) hb_13 ?_
                      refine Wp.seqN (by kernel_rfl) ?_
                      refine Wp.reg tiok mix hc (by kernel_rfl) (ah := none) (rs := [some (.no)]) (kt := [2]) (ko := []) (T' := [(2, .bool false)]) (O' := []) (by kernel_rfl) trivial (by kernel_rfl) (by kernel_rfl) ?_
                      refine seqQ_norm ?_
                      refine Wp.retN (by kernel_rfl) ?_
                      refine seqQ_ret ?_
                      obtain rfl := Option.some.inj h
                      exact RetQ.ret (fl := [true]) (by kernel_rfl)
                    · refine Wp.condF (b := v_11) (by kernel_rfl) (by kernel_rfl) hb_13 ?_
                      refine Wp.skipN (by kernel_rfl) ?_
                      refine seqQ_norm ?_
                      refine Wp.seqN (by kernel_rfl) ?_
                      refine Wp.reg tiok mix hc (by kernel_rfl) (ah := none) (rs := [some (.no)]) (kt := [7, 10, 11]) (ko := [10, 11, 12]) (T' := [(7, .ra 12 0), (10, .int .i64 r_17_2), (11, .int .i64 1)]) (O' := [(10, .arr (List.map I o_17_2_0.fType)), (11, .arr (List.map GTerm_O o_17_2_0.fKids)), (12, .box [.int .i64 r_7_1_0.fOp, .int .i64 r_7_1_0.fN, .rs 10, .rs 11])]) (by kernel_rfl) trivial (by kernel_rfl) (by kernel_rfl) ?_
                      refine seqQ_norm ?_
                      refine Wp.seqN (by kernel_rfl) ?_
                      obtain ⟨r_28_2, hr_28_2, h⟩ := bsome h
                      refine Wp.reg tiok mix hc (by kernel_rfl) (ah := none) (rs := [some (.no), some (.no), some (.call (.int .i64 r_28_2) [] 1), some (.no)]) (kt := [10, 11]) (ko := []) (T' := [(10, .int .i64 r_17_2), (11, .int .i64 r_28_2)]) (O' := []) (by kernel_rfl) (And.intro (FnSound.args (A1 := [.agg [.int .i64 r_7_1_0.fOp, .int .i64 r_7_1_0.fN, .sl (shares (List.map I o_17_2_0.fType)), .sl (shares (List.map GTerm_O o_17_2_0.fKids))], .int .i64 1]) (A2 := [.agg [.int .i64 r_7_1_0.fOp, .int .i64 r_7_1_0.fN, .sl (List.map I o_17_2_0.fType), .sl (List.map GTerm_S o_17_2_0.fKids)], .int .i64 1]) (by simp only [List.map_nil, sh_GTerm_O, sh_I]) (laws_heldTerm_s _ _ hr_28_2)) (And.intro bod_34 (And.intro (Or.inr rfl : ([10, 11] : List Nat) = [] ∨ noSh (.int .i64 r_28_2) = true) trivial))) (by kernel_rfl) (by kernel_rfl) ?_
                      refine seqQ_norm ?_
                      refine Wp.seqN (by kernel_rfl) ?_
                      refine Wp.seqN (by kernel_rfl) ?_
                      refine Wp.reg tiok mix hc (by kernel_rfl) (ah := none) (rs := [some (.no), some (.no)]) (kt := [10, 11, 92]) (ko := []) (T' := [(10, .int .i64 r_17_2), (11, .int .i64 r_28_2), (92, .bool (decide (r_28_2 < 0)))]) (O' := []) (by kernel_rfl) trivial (by kernel_rfl) (by kernel_rfl) ?_
                      refine seqQ_norm ?_
                      rcases itesome h with ⟨hb_14, h⟩ | ⟨hb_14, h⟩
                      · refine Wp.condT (b := (decide (r_28_2 < 0))) (by kernel_rfl) (by kernel_rfl) hb_14 ?_
                        refine Wp.seqN (by kernel_rfl) ?_
                        refine Wp.reg tiok mix hc (by kernel_rfl) (ah := none) (rs := [some (.no)]) (kt := [2]) (ko := []) (T' := [(2, .bool false)]) (O' := []) (by kernel_rfl) trivial (by kernel_rfl) (by kernel_rfl) ?_
                        refine seqQ_norm ?_
                        refine Wp.retN (by kernel_rfl) ?_
                        refine seqQ_ret ?_
                        obtain rfl := Option.some.inj h
                        exact RetQ.ret (fl := [true]) (by kernel_rfl)
                      · refine Wp.condF (b := (decide (r_28_2 < 0))) (by kernel_rfl) (by kernel_rfl) hb_14 ?_
                        refine Wp.skipN (by kernel_rfl) ?_
                        refine seqQ_norm ?_
                        refine Wp.seqN (by kernel_rfl) ?_
                        refine Wp.seqN (by kernel_rfl) ?_
                        refine Wp.reg tiok mix hc (by kernel_rfl) (ah := none) (rs := [some (.no), some (.no), some (.no)]) (kt := [95]) (ko := []) (T' := [(95, .bool (r_28_2 != r_17_2))]) (O' := []) (by kernel_rfl) trivial (by kernel_rfl) (by kernel_rfl) ?_
                        refine seqQ_norm ?_
                        rcases itesome h with ⟨hb_15, h⟩ | ⟨hb_15, h⟩
                        · refine Wp.condT (b := (r_28_2 != r_17_2)) (by kernel_rfl) (by kernel_rfl) hb_15 ?_
                          refine Wp.seqN (by kernel_rfl) ?_
                          refine Wp.reg tiok mix hc (by kernel_rfl) (ah := none) (rs := [some (.no)]) (kt := [2]) (ko := []) (T' := [(2, .bool false)]) (O' := []) (by kernel_rfl) trivial (by kernel_rfl) (by kernel_rfl) ?_
                          refine seqQ_norm ?_
                          refine Wp.retN (by kernel_rfl) ?_
                          refine seqQ_ret ?_
                          obtain rfl := Option.some.inj h
                          exact RetQ.ret (fl := [true]) (by kernel_rfl)
                        · refine Wp.condF (b := (r_28_2 != r_17_2)) (by kernel_rfl) (by kernel_rfl) hb_15 ?_
                          refine Wp.skipN (by kernel_rfl) ?_
                          refine seqQ_norm ?_
                          refine Wp.seqN (by kernel_rfl) ?_
                          refine Wp.reg tiok mix hc (by kernel_rfl) (ah := none) (rs := [some (.no)]) (kt := [2]) (ko := []) (T' := [(2, .bool true)]) (O' := []) (by kernel_rfl) trivial (by kernel_rfl) (by kernel_rfl) ?_
                          refine seqQ_norm ?_
                          refine Wp.retN (by kernel_rfl) ?_
                          obtain rfl := Option.some.inj h
                          exact RetQ.ret (fl := [true]) (by kernel_rfl)
        · refine Wp.condT (b := (!r_10_3)) (by kernel_rfl) (by kernel_rfl) (nT hb_5) ?_
          refine Wp.seqN (by kernel_rfl) ?_
          refine Wp.reg tiok mix hc (by kernel_rfl) (ah := none) (rs := [some (.no)]) (kt := [2]) (ko := []) (T' := [(2, .bool false)]) (O' := []) (by kernel_rfl) trivial (by kernel_rfl) (by kernel_rfl) ?_
          refine seqQ_norm ?_
          refine Wp.retN (by kernel_rfl) ?_
          refine seqQ_ret ?_
          obtain rfl := Option.some.inj h
          exact RetQ.ret (fl := [true]) (by kernel_rfl)
end Go.Am
