/- Functions of the program as pure functions, and that it computes them. Printed by a program of mine (gen.py). -/
import Derived.Test.YtlegifoeekcolaaGCOF1
set_option linter.unusedVariables false
set_option linter.unusedSimpArgs false
set_option maxRecDepth 100000
namespace Go.Am
open Go Go.Proofs
mutual
def impl_check_Kimpl_writtenSize_c1_Kimpl_isWrittenType (p : GTerm × Int × Int) : Option (Int) :=
  match p with
  | (t0, n1, nodes4) =>
    (impl_formOf t0.fOp) >>= fun (r_2_2_0, r_2_2_1) =>
    (
      if r_2_2_1 = true then
        if (decide ((wr (nodes4 + 1)) > 400)) = true then
          some (true)
        else
          some (((t0.fKids.length : Int) != r_2_2_0.fkids))
      else
        some (true)
    ) >>= fun v_1 =>
    if v_1 = true then
      some 401
    else
      (
        if (t0.fOp == 0) = true then
          (impl_within (t0.fN, 0, (wr (n1 - 1)))) >>= fun r_7_4 =>
          some (r_7_4)
        else
          (
            if (t0.fOp == 1) = true then
              (impl_within (t0.fN, 0, 2)) >>= fun r_9_2 =>
              some (r_9_2)
            else
              (
                if r_2_2_0.fgrade = true then
                  (impl_writtenSize_c1 t0.fN) >>= fun r_11_3 =>
                  some (r_11_3)
                else
                  some ((t0.fN == 0))
              ) >>= fun ok_7 =>
              some (ok_7)
          ) >>= fun ok_9 =>
          some (ok_9)
      ) >>= fun ok_11 =>
      (
        if r_2_2_0.ftyped = true then
          (
            if ok_11 = true then
              (impl_isWrittenType t0.fType) >>= fun r_13_5 =>
              some (r_13_5)
            else
              some (false)
          ) >>= fun ok_14 =>
          some (ok_14)
        else
          (
            if ok_11 = true then
              some (((t0.fType.length : Int) == 0))
            else
              some (false)
          ) >>= fun ok_16 =>
          some (ok_16)
      ) >>= fun ok_18 =>
      if ok_18 = true then
        (impl_check_Kimpl_writtenSize_c1_Kimpl_isWrittenType_l0 (t0, n1, (wr (nodes4 + 1)), 0)) >>= fun fl => match fl with
        | .inl nodes_27 =>
          some nodes_27
        | .inr r =>
          some r
      else
        some 401
  partial_fixpoint
def impl_check_Kimpl_writtenSize_c1_Kimpl_isWrittenType_l0 (p : GTerm × Int × Int × Int) : Option ((Int) ⊕ (Int)) :=
  match p with
  | (t0, n1, nodes_23, w_24) =>
    if (decide (w_24 < (t0.fKids.length : Int))) = true then
      (idx t0.fKids w_24) >>= fun e_19_1 =>
      (impl_adds (t0.fOp, w_24)) >>= fun r_20_5 =>
      (impl_check_Kimpl_writtenSize_c1_Kimpl_isWrittenType (e_19_1, (wr (n1 + r_20_5)), nodes_23)) >>= fun r_20_10 =>
      if (decide (r_20_10 > 400)) = true then
        some (.inr 401)
      else
        impl_check_Kimpl_writtenSize_c1_Kimpl_isWrittenType_l0 (t0, n1, r_20_10, (wr (w_24 + 1)))
    else
      some (.inl nodes_23)
  partial_fixpoint
end
def M_impl_check_Kimpl_writtenSize_c1_Kimpl_isWrittenType (p : GTerm × Int × Int) (r : Int) : Prop :=
  match p with
  | (t0, n1, nodes4) => FnSound Try.prog 81 [.agg [.int .i64 t0.fOp, .int .i64 t0.fN, .sl (List.map I t0.fType), .sl (List.map GTerm_S t0.fKids)], .int .i64 n1, .fn 123 [], .fn 124 [], .int .i64 nodes4] (.int .i64 r) []
def M_impl_check_Kimpl_writtenSize_c1_Kimpl_isWrittenType_l0 (p : GTerm × Int × Int × Int) (fl : (Int) ⊕ (Int)) : Prop :=
  match p with
  | (t0, n1, nodes_23, w_24) => ∀ c : Ctx, c.nt = 104 → WpL Try.prog c (cl (cl (cr (cl (cr (cr (cr (cr (cr (cr (cr B81))))))))))) (impl_check_Kimpl_writtenSize_c1_Kimpl_isWrittenType_F1 c fl) (mkS [(1, .int .i64 n1), (2, .fn 123 []), (3, .fn 124 []), (4, .int .i64 nodes_23), (5, .ra 1 0), (82, .sl (List.map GTerm_S t0.fKids)), (83, .int .i64 (t0.fKids.length : Int)), (84, .int .i64 w_24)] [(1, .box [.int .i64 t0.fOp, .int .i64 t0.fN, .sl (List.map I t0.fType), .sl (List.map GTerm_S t0.fKids)])])
theorem impl_check_Kimpl_writtenSize_c1_Kimpl_isWrittenType_all : (∀ p r, impl_check_Kimpl_writtenSize_c1_Kimpl_isWrittenType p = some r → M_impl_check_Kimpl_writtenSize_c1_Kimpl_isWrittenType p r) ∧ (∀ p r, impl_check_Kimpl_writtenSize_c1_Kimpl_isWrittenType_l0 p = some r → M_impl_check_Kimpl_writtenSize_c1_Kimpl_isWrittenType_l0 p r) := by
  refine impl_check_Kimpl_writtenSize_c1_Kimpl_isWrittenType.mutual_partial_correctness M_impl_check_Kimpl_writtenSize_c1_Kimpl_isWrittenType M_impl_check_Kimpl_writtenSize_c1_Kimpl_isWrittenType_l0 ?_ ?_
  · rintro impl_check_Kimpl_writtenSize_c1_Kimpl_isWrittenType_l0_f impl_check_Kimpl_writtenSize_c1_Kimpl_isWrittenType_l0_ih ⟨t0, n1, nodes4⟩ r h
    show FnSound Try.prog 81 [.agg [.int .i64 t0.fOp, .int .i64 t0.fN, .sl (List.map I t0.fType), .sl (List.map GTerm_S t0.fKids)], .int .i64 n1, .fn 123 [], .fn 124 [], .int .i64 nodes4] (.int .i64 r) []
    refine FnSound.body0 tiok (fn := Try.f81) (code := B81) (by kernel_rfl) (by kernel_rfl) (by kernel_rfl) (by kernel_rfl) (nt := 104) (by kernel_rfl) (by kernel_rfl) (T := [(0, .agg [.int .i64 t0.fOp, .int .i64 t0.fN, .sl (List.map I t0.fType), .sl (List.map GTerm_S t0.fKids)]), (1, .int .i64 n1), (2, .fn 123 []), (3, .fn 124 []), (4, .int .i64 nodes4)]) (O := []) (by kernel_rfl) (by kernel_rfl) (fun c hc => ?_)
    refine Wp.seqN (by kernel_rfl) ?_
    refine Wp.reg tiok mix hc (by kernel_rfl) (ah := none) (rs := [some (.new 1), some (.no)]) (kt := [1, 2, 3, 4, 5]) (ko := [1]) (T' := [(1, .int .i64 n1), (2, .fn 123 []), (3, .fn 124 []), (4, .int .i64 nodes4), (5, .ra 1 0)]) (O' := [(1, .box [.int .i64 t0.fOp, .int .i64 t0.fN, .sl (List.map I t0.fType), .sl (List.map GTerm_S t0.fKids)])]) (by kernel_rfl) trivial (by kernel_rfl) (by kernel_rfl) ?_
    refine seqQ_norm ?_
    refine Wp.seqN (by kernel_rfl) ?_
    refine Wp.reg tiok mix hc (by kernel_rfl) (ah := none) (rs := [some (.no), some (.no), some (.no)]) (kt := [1, 2, 3, 4, 5]) (ko := [1]) (T' := [(1, .int .i64 n1), (2, .fn 123 []), (3, .fn 124 []), (4, .int .i64 (wr (nodes4 + 1))), (5, .ra 1 0)]) (O' := [(1, .box [.int .i64 t0.fOp, .int .i64 t0.fN, .sl (List.map I t0.fType), .sl (List.map GTerm_S t0.fKids)])]) (by kernel_rfl) trivial (by kernel_rfl) (by kernel_rfl) ?_
    refine seqQ_norm ?_
    refine Wp.seqN (by kernel_rfl) ?_
    obtain ⟨⟨r_2_2_0, r_2_2_1⟩, hr_2_2, h⟩ := bsome h
    refine Wp.reg tiok mix hc (by kernel_rfl) (ah := none) (rs := [some (.no), some (.no), some (.call (.tup [.agg [.str r_2_2_0.fword, .int .i64 r_2_2_0.fkids, .bool r_2_2_0.fgrade, .bool r_2_2_0.ftyped], .bool r_2_2_1]) [] 1), some (.no), some (.no), some (.no), some (.new 2), some (.no), some (.no)]) (kt := [1, 2, 3, 4, 5, 11, 12]) (ko := [1, 2]) (T' := [(1, .int .i64 n1), (2, .fn 123 []), (3, .fn 124 []), (4, .int .i64 (wr (nodes4 + 1))), (5, .ra 1 0), (11, .ra 2 0), (12, .bool r_2_2_1)]) (O' := [(1, .box [.int .i64 t0.fOp, .int .i64 t0.fN, .sl (List.map I t0.fType), .sl (List.map GTerm_S t0.fKids)]), (2, .box [.str r_2_2_0.fword, .int .i64 r_2_2_0.fkids, .bool r_2_2_0.fgrade, .bool r_2_2_0.ftyped])]) (by kernel_rfl) (And.intro (impl_formOf_s _ _ hr_2_2) (And.intro bod_100 (And.intro (Or.inl rfl : ([] : List Nat) = [] ∨ noSh (.tup [.agg [.str r_2_2_0.fword, .int .i64 r_2_2_0.fkids, .bool r_2_2_0.fgrade, .bool r_2_2_0.ftyped], .bool r_2_2_1]) = true) trivial))) (by kernel_rfl) (by kernel_rfl) ?_
    refine seqQ_norm ?_
    refine Wp.seqN (by kernel_rfl) ?_
    refine Wp.seqN (by kernel_rfl) ?_
    obtain ⟨v_1, hj_2, h⟩ := bsome h
    refine Wp.into (x := .normal) (mkS [(1, .int .i64 n1), (2, .fn 123 []), (3, .fn 124 []), (4, .int .i64 (wr (nodes4 + 1))), (5, .ra 1 0), (11, .ra 2 0), (36, .bool v_1)] [(1, .box [.int .i64 t0.fOp, .int .i64 t0.fN, .sl (List.map I t0.fType), .sl (List.map GTerm_S t0.fKids)]), (2, .box [.str r_2_2_0.fword, .int .i64 r_2_2_0.fkids, .bool r_2_2_0.fgrade, .bool r_2_2_0.ftyped])]) ?_ ?_
    · replace h := hj_2
      rcases itesome h with ⟨hb_3_0, h⟩ | ⟨hb_3_0, h⟩
      · rcases itesome h with ⟨hb_3_1, h⟩ | ⟨hb_3_1, h⟩
        · refine Wp.reg tiok mix hc (by kernel_rfl) (ah := none) (rs := [some (.no), some (.no), some (.no), some (.no), some (.no), some (.cond false), some (.no), none, none, none, none, none, none, some (.cond true)]) (kt := [1, 2, 3, 4, 5, 11, 36]) (ko := [1, 2]) (T' := [(1, .int .i64 n1), (2, .fn 123 []), (3, .fn 124 []), (4, .int .i64 (wr (nodes4 + 1))), (5, .ra 1 0), (11, .ra 2 0), (36, .bool true)]) (O' := [(1, .box [.int .i64 t0.fOp, .int .i64 t0.fN, .sl (List.map I t0.fType), .sl (List.map GTerm_S t0.fKids)]), (2, .box [.str r_2_2_0.fword, .int .i64 r_2_2_0.fkids, .bool r_2_2_0.fgrade, .bool r_2_2_0.ftyped])]) (by kernel_rfl) (And.intro (nF hb_3_0) (And.intro (nF hb_3_0) (And.intro (nF hb_3_0) (And.intro (neF hb_3_1 : (decide ((wr (nodes4 + 1)) > 400)) ≠ false) (And.intro (neF hb_3_1 : (decide ((wr (nodes4 + 1)) > 400)) ≠ false) (And.intro (neF hb_3_1 : (decide ((wr (nodes4 + 1)) > 400)) ≠ false) (And.intro (neF hb_3_1 : (decide ((wr (nodes4 + 1)) > 400)) ≠ false) (And.intro (neF hb_3_1 : (decide ((wr (nodes4 + 1)) > 400)) ≠ false) (And.intro (neF hb_3_1 : (decide ((wr (nodes4 + 1)) > 400)) ≠ false) (And.intro hb_3_1 trivial)))))))))) (by kernel_rfl) (by kernel_rfl) ?_
          obtain rfl := Option.some.inj h
          exact Into.mk
        · refine Wp.reg tiok mix hc (by kernel_rfl) (ah := none) (rs := [some (.no), some (.no), some (.no), some (.no), some (.no), some (.cond false), some (.no), some (.no), some (.no), some (.eqv (.no) ⟨[(32, .int .i64 (t0.fKids.length : Int))], [], []⟩), some (.no), some (.no), some (.no), some (.cond false)]) (kt := [1, 2, 3, 4, 5, 11, 36]) (ko := [1, 2]) (T' := [(1, .int .i64 n1), (2, .fn 123 []), (3, .fn 124 []), (4, .int .i64 (wr (nodes4 + 1))), (5, .ra 1 0), (11, .ra 2 0), (36, .bool ((t0.fKids.length : Int) != r_2_2_0.fkids))]) (O' := [(1, .box [.int .i64 t0.fOp, .int .i64 t0.fN, .sl (List.map I t0.fType), .sl (List.map GTerm_S t0.fKids)]), (2, .box [.str r_2_2_0.fword, .int .i64 r_2_2_0.fkids, .bool r_2_2_0.fgrade, .bool r_2_2_0.ftyped])]) (by kernel_rfl) (And.intro (nF hb_3_0) (And.intro (nF hb_3_0) (And.intro (nF hb_3_0) (And.intro hb_3_1 (And.intro hb_3_1 (And.intro hb_3_1 (And.intro (lenT (d := 32) GTerm_S t0.fKids) (And.intro hb_3_1 (And.intro hb_3_1 (And.intro hb_3_1 (And.intro hb_3_1 trivial))))))))))) (by kernel_rfl) (by kernel_rfl) ?_
          obtain rfl := Option.some.inj h
          exact Into.mk
      · refine Wp.reg tiok mix hc (by kernel_rfl) (ah := none) (rs := [some (.no), some (.no), some (.no), none, none, some (.cond true), some (.no), none, none, none, none, none, none, some (.cond true)]) (kt := [1, 2, 3, 4, 5, 11, 36]) (ko := [1, 2]) (T' := [(1, .int .i64 n1), (2, .fn 123 []), (3, .fn 124 []), (4, .int .i64 (wr (nodes4 + 1))), (5, .ra 1 0), (11, .ra 2 0), (36, .bool true)]) (O' := [(1, .box [.int .i64 t0.fOp, .int .i64 t0.fN, .sl (List.map I t0.fType), .sl (List.map GTerm_S t0.fKids)]), (2, .box [.str r_2_2_0.fword, .int .i64 r_2_2_0.fkids, .bool r_2_2_0.fgrade, .bool r_2_2_0.ftyped])]) (by kernel_rfl) (And.intro (neF (nT hb_3_0) : (!r_2_2_1) ≠ false) (And.intro (neF (nT hb_3_0) : (!r_2_2_1) ≠ false) (And.intro (nT hb_3_0) (And.intro (neF (rfl : true = true) : true ≠ false) (And.intro (neF (rfl : true = true) : true ≠ false) (And.intro (neF (rfl : true = true) : true ≠ false) (And.intro (neF (rfl : true = true) : true ≠ false) (And.intro (neF (rfl : true = true) : true ≠ false) (And.intro (neF (rfl : true = true) : true ≠ false) (And.intro (rfl : true = true) trivial)))))))))) (by kernel_rfl) (by kernel_rfl) ?_
        obtain rfl := Option.some.inj h
        exact Into.mk
    · clear hj_2
      refine seqQ_norm ?_
      rcases itesome h with ⟨hb_3, h⟩ | ⟨hb_3, h⟩
      · refine Wp.condT (b := v_1) (by kernel_rfl) (by kernel_rfl) hb_3 ?_
        refine Wp.seqN (by kernel_rfl) ?_
        refine Wp.reg tiok mix hc (by kernel_rfl) (ah := none) (rs := [some (.no)]) (kt := [10]) (ko := []) (T' := [(10, .int .i64 401)]) (O' := []) (by kernel_rfl) trivial (by kernel_rfl) (by kernel_rfl) ?_
        refine seqQ_norm ?_
        refine Wp.retN (by kernel_rfl) ?_
        refine seqQ_ret ?_
        obtain rfl := Option.some.inj h
        exact RetQ.ret (fl := [true]) (by kernel_rfl)
      · refine Wp.condF (b := v_1) (by kernel_rfl) (by kernel_rfl) hb_3 ?_
        refine Wp.skipN (by kernel_rfl) ?_
        refine seqQ_norm ?_
        refine Wp.seqN (by kernel_rfl) ?_
        refine Wp.blockN (i := 0) (by kernel_rfl) ?_
        refine Wp.seqN (by kernel_rfl) ?_
        refine Wp.reg tiok mix hc (by kernel_rfl) (ah := none) (rs := [some (.no), some (.no), some (.no), some (.no)]) (kt := [1, 2, 3, 4, 5, 11, 40]) (ko := [1, 2]) (T' := [(1, .int .i64 n1), (2, .fn 123 []), (3, .fn 124 []), (4, .int .i64 (wr (nodes4 + 1))), (5, .ra 1 0), (11, .ra 2 0), (40, .bool (t0.fOp == 0))]) (O' := [(1, .box [.int .i64 t0.fOp, .int .i64 t0.fN, .sl (List.map I t0.fType), .sl (List.map GTerm_S t0.fKids)]), (2, .box [.str r_2_2_0.fword, .int .i64 r_2_2_0.fkids, .bool r_2_2_0.fgrade, .bool r_2_2_0.ftyped])]) (by kernel_rfl) trivial (by kernel_rfl) (by kernel_rfl) ?_
        refine seqQ_norm ?_
        obtain ⟨ok_11, hj_12, h⟩ := bsome h
        refine Wp.into (x := .normal) (mkS [(1, .int .i64 n1), (2, .fn 123 []), (3, .fn 124 []), (4, .int .i64 (wr (nodes4 + 1))), (5, .ra 1 0), (11, .ra 2 0), (12, .bool ok_11)] [(1, .box [.int .i64 t0.fOp, .int .i64 t0.fN, .sl (List.map I t0.fType), .sl (List.map GTerm_S t0.fKids)]), (2, .box [.str r_2_2_0.fword, .int .i64 r_2_2_0.fkids, .bool r_2_2_0.fgrade, .bool r_2_2_0.ftyped])]) ?_ ?_
        · replace h := hj_12
          rcases itesome h with ⟨hb_4, h⟩ | ⟨hb_4, h⟩
          · refine Wp.condT (b := (t0.fOp == 0)) (by kernel_rfl) (by kernel_rfl) hb_4 ?_
            obtain ⟨r_7_4, hr_7_4, h⟩ := bsome h
            refine Wp.reg tiok mix hc (by kernel_rfl) (ah := none) (rs := [some (.no), some (.no), some (.no), some (.no), some (.call (.bool r_7_4) [] 1), some (.no)]) (kt := [1, 2, 3, 4, 5, 11, 12]) (ko := [1, 2]) (T' := [(1, .int .i64 n1), (2, .fn 123 []), (3, .fn 124 []), (4, .int .i64 (wr (nodes4 + 1))), (5, .ra 1 0), (11, .ra 2 0), (12, .bool r_7_4)]) (O' := [(1, .box [.int .i64 t0.fOp, .int .i64 t0.fN, .sl (List.map I t0.fType), .sl (List.map GTerm_S t0.fKids)]), (2, .box [.str r_2_2_0.fword, .int .i64 r_2_2_0.fkids, .bool r_2_2_0.fgrade, .bool r_2_2_0.ftyped])]) (by kernel_rfl) (And.intro (impl_within_s _ _ hr_7_4) (And.intro bod_91 (And.intro (Or.inl rfl : ([] : List Nat) = [] ∨ noSh (.bool r_7_4) = true) trivial))) (by kernel_rfl) (by kernel_rfl) ?_
            obtain rfl := Option.some.inj h
            exact Into.mk
          · refine Wp.condF (b := (t0.fOp == 0)) (by kernel_rfl) (by kernel_rfl) hb_4 ?_
            refine Wp.seqN (by kernel_rfl) ?_
            refine Wp.reg tiok mix hc (by kernel_rfl) (ah := none) (rs := [some (.no), some (.no), some (.no), some (.no)]) (kt := [1, 2, 3, 4, 5, 11, 49]) (ko := [1, 2]) (T' := [(1, .int .i64 n1), (2, .fn 123 []), (3, .fn 124 []), (4, .int .i64 (wr (nodes4 + 1))), (5, .ra 1 0), (11, .ra 2 0), (49, .bool (t0.fOp == 1))]) (O' := [(1, .box [.int .i64 t0.fOp, .int .i64 t0.fN, .sl (List.map I t0.fType), .sl (List.map GTerm_S t0.fKids)]), (2, .box [.str r_2_2_0.fword, .int .i64 r_2_2_0.fkids, .bool r_2_2_0.fgrade, .bool r_2_2_0.ftyped])]) (by kernel_rfl) trivial (by kernel_rfl) (by kernel_rfl) ?_
            refine seqQ_norm ?_
            obtain ⟨ok_9, hj_10, h⟩ := bsome h
            refine Wp.into (x := .normal) (mkS [(1, .int .i64 n1), (2, .fn 123 []), (3, .fn 124 []), (4, .int .i64 (wr (nodes4 + 1))), (5, .ra 1 0), (11, .ra 2 0), (12, .bool ok_9)] [(1, .box [.int .i64 t0.fOp, .int .i64 t0.fN, .sl (List.map I t0.fType), .sl (List.map GTerm_S t0.fKids)]), (2, .box [.str r_2_2_0.fword, .int .i64 r_2_2_0.fkids, .bool r_2_2_0.fgrade, .bool r_2_2_0.ftyped])]) ?_ ?_
            · replace h := hj_10
              rcases itesome h with ⟨hb_5, h⟩ | ⟨hb_5, h⟩
              · refine Wp.condT (b := (t0.fOp == 1)) (by kernel_rfl) (by kernel_rfl) hb_5 ?_
                obtain ⟨r_9_2, hr_9_2, h⟩ := bsome h
                refine Wp.reg tiok mix hc (by kernel_rfl) (ah := none) (rs := [some (.no), some (.no), some (.call (.bool r_9_2) [] 1), some (.no)]) (kt := [1, 2, 3, 4, 5, 11, 12]) (ko := [1, 2]) (T' := [(1, .int .i64 n1), (2, .fn 123 []), (3, .fn 124 []), (4, .int .i64 (wr (nodes4 + 1))), (5, .ra 1 0), (11, .ra 2 0), (12, .bool r_9_2)]) (O' := [(1, .box [.int .i64 t0.fOp, .int .i64 t0.fN, .sl (List.map I t0.fType), .sl (List.map GTerm_S t0.fKids)]), (2, .box [.str r_2_2_0.fword, .int .i64 r_2_2_0.fkids, .bool r_2_2_0.fgrade, .bool r_2_2_0.ftyped])]) (by kernel_rfl) (And.intro (impl_within_s _ _ hr_9_2) (And.intro bod_91 (And.intro (Or.inl rfl : ([] : List Nat) = [] ∨ noSh (.bool r_9_2) = true) trivial))) (by kernel_rfl) (by kernel_rfl) ?_
                obtain rfl := Option.some.inj h
                exact Into.mk
              · refine Wp.condF (b := (t0.fOp == 1)) (by kernel_rfl) (by kernel_rfl) hb_5 ?_
                refine Wp.seqN (by kernel_rfl) ?_
                refine Wp.reg tiok mix hc (by kernel_rfl) (ah := none) (rs := [some (.no), some (.no), some (.no)]) (kt := [1, 2, 3, 4, 5, 11, 56]) (ko := [1, 2]) (T' := [(1, .int .i64 n1), (2, .fn 123 []), (3, .fn 124 []), (4, .int .i64 (wr (nodes4 + 1))), (5, .ra 1 0), (11, .ra 2 0), (56, .bool r_2_2_0.fgrade)]) (O' := [(1, .box [.int .i64 t0.fOp, .int .i64 t0.fN, .sl (List.map I t0.fType), .sl (List.map GTerm_S t0.fKids)]), (2, .box [.str r_2_2_0.fword, .int .i64 r_2_2_0.fkids, .bool r_2_2_0.fgrade, .bool r_2_2_0.ftyped])]) (by kernel_rfl) trivial (by kernel_rfl) (by kernel_rfl) ?_
                refine seqQ_norm ?_
                obtain ⟨ok_7, hj_8, h⟩ := bsome h
                refine Wp.into (x := .normal) (mkS [(1, .int .i64 n1), (2, .fn 123 []), (3, .fn 124 []), (4, .int .i64 (wr (nodes4 + 1))), (5, .ra 1 0), (11, .ra 2 0), (12, .bool ok_7)] [(1, .box [.int .i64 t0.fOp, .int .i64 t0.fN, .sl (List.map I t0.fType), .sl (List.map GTerm_S t0.fKids)]), (2, .box [.str r_2_2_0.fword, .int .i64 r_2_2_0.fkids, .bool r_2_2_0.fgrade, .bool r_2_2_0.ftyped])]) ?_ ?_
                · replace h := hj_8
                  rcases itesome h with ⟨hb_6, h⟩ | ⟨hb_6, h⟩
                  · refine Wp.condT (b := r_2_2_0.fgrade) (by kernel_rfl) (by kernel_rfl) hb_6 ?_
                    obtain ⟨r_11_3, hr_11_3, h⟩ := bsome h
                    refine Wp.reg tiok mix hc (by kernel_rfl) (ah := none) (rs := [some (.no), some (.no), some (.no), some (.call (.bool r_11_3) [] 1), some (.no)]) (kt := [1, 2, 3, 4, 5, 11, 12]) (ko := [1, 2]) (T' := [(1, .int .i64 n1), (2, .fn 123 []), (3, .fn 124 []), (4, .int .i64 (wr (nodes4 + 1))), (5, .ra 1 0), (11, .ra 2 0), (12, .bool r_11_3)]) (O' := [(1, .box [.int .i64 t0.fOp, .int .i64 t0.fN, .sl (List.map I t0.fType), .sl (List.map GTerm_S t0.fKids)]), (2, .box [.str r_2_2_0.fword, .int .i64 r_2_2_0.fkids, .bool r_2_2_0.fgrade, .bool r_2_2_0.ftyped])]) (by kernel_rfl) (And.intro (impl_writtenSize_c1_s _ _ hr_11_3) (And.intro bod_123 (And.intro (Or.inl rfl : ([] : List Nat) = [] ∨ noSh (.bool r_11_3) = true) trivial))) (by kernel_rfl) (by kernel_rfl) ?_
                    obtain rfl := Option.some.inj h
                    exact Into.mk
                  · refine Wp.condF (b := r_2_2_0.fgrade) (by kernel_rfl) (by kernel_rfl) hb_6 ?_
                    refine Wp.reg tiok mix hc (by kernel_rfl) (ah := none) (rs := [some (.no), some (.no), some (.no), some (.no)]) (kt := [1, 2, 3, 4, 5, 11, 12]) (ko := [1, 2]) (T' := [(1, .int .i64 n1), (2, .fn 123 []), (3, .fn 124 []), (4, .int .i64 (wr (nodes4 + 1))), (5, .ra 1 0), (11, .ra 2 0), (12, .bool (t0.fN == 0))]) (O' := [(1, .box [.int .i64 t0.fOp, .int .i64 t0.fN, .sl (List.map I t0.fType), .sl (List.map GTerm_S t0.fKids)]), (2, .box [.str r_2_2_0.fword, .int .i64 r_2_2_0.fkids, .bool r_2_2_0.fgrade, .bool r_2_2_0.ftyped])]) (by kernel_rfl) trivial (by kernel_rfl) (by kernel_rfl) ?_
                    obtain rfl := Option.some.inj h
                    exact Into.mk
                · clear hj_8
                  obtain rfl := Option.some.inj h
                  exact Into.mk
            · clear hj_10
              obtain rfl := Option.some.inj h
              exact Into.mk
        · clear hj_12
          refine blockQ_norm ?_
          refine seqQ_norm ?_
          refine Wp.seqN (by kernel_rfl) ?_
          refine Wp.seqN (by kernel_rfl) ?_
          refine Wp.reg tiok mix hc (by kernel_rfl) (ah := none) (rs := [some (.no), some (.no)]) (kt := [1, 2, 3, 4, 5, 12, 64]) (ko := [1]) (T' := [(1, .int .i64 n1), (2, .fn 123 []), (3, .fn 124 []), (4, .int .i64 (wr (nodes4 + 1))), (5, .ra 1 0), (12, .bool ok_11), (64, .bool r_2_2_0.ftyped)]) (O' := [(1, .box [.int .i64 t0.fOp, .int .i64 t0.fN, .sl (List.map I t0.fType), .sl (List.map GTerm_S t0.fKids)])]) (by kernel_rfl) trivial (by kernel_rfl) (by kernel_rfl) ?_
          refine seqQ_norm ?_
          obtain ⟨ok_18, hj_19, h⟩ := bsome h
          refine Wp.into (x := .normal) (mkS [(1, .int .i64 n1), (2, .fn 123 []), (3, .fn 124 []), (4, .int .i64 (wr (nodes4 + 1))), (5, .ra 1 0), (12, .bool ok_18)] [(1, .box [.int .i64 t0.fOp, .int .i64 t0.fN, .sl (List.map I t0.fType), .sl (List.map GTerm_S t0.fKids)])]) ?_ ?_
          · replace h := hj_19
            rcases itesome h with ⟨hb_13, h⟩ | ⟨hb_13, h⟩
            · refine Wp.condT (b := r_2_2_0.ftyped) (by kernel_rfl) (by kernel_rfl) hb_13 ?_
              obtain ⟨ok_14, hj_15, h⟩ := bsome h
              refine Wp.into (x := .normal) (mkS [(1, .int .i64 n1), (2, .fn 123 []), (3, .fn 124 []), (4, .int .i64 (wr (nodes4 + 1))), (5, .ra 1 0), (12, .bool ok_14)] [(1, .box [.int .i64 t0.fOp, .int .i64 t0.fN, .sl (List.map I t0.fType), .sl (List.map GTerm_S t0.fKids)])]) ?_ ?_
              · replace h := hj_15
                rcases itesome h with ⟨hb_13_0, h⟩ | ⟨hb_13_0, h⟩
                · obtain ⟨r_13_5, hr_13_5, h⟩ := bsome h
                  refine Wp.reg tiok mix hc (by kernel_rfl) (ah := none) (rs := [some (.no), some (.no), some (.no), some (.no), some (.no), some (.call (.bool r_13_5) [] 1), some (.cond true), some (.no)]) (kt := [1, 2, 3, 4, 5, 12]) (ko := [1]) (T' := [(1, .int .i64 n1), (2, .fn 123 []), (3, .fn 124 []), (4, .int .i64 (wr (nodes4 + 1))), (5, .ra 1 0), (12, .bool r_13_5)]) (O' := [(1, .box [.int .i64 t0.fOp, .int .i64 t0.fN, .sl (List.map I t0.fType), .sl (List.map GTerm_S t0.fKids)])]) (by kernel_rfl) (And.intro hb_13_0 (And.intro hb_13_0 (And.intro hb_13_0 (And.intro hb_13_0 (And.intro (impl_isWrittenType_s _ _ hr_13_5) (And.intro bod_124 (And.intro (Or.inl rfl : ([] : List Nat) = [] ∨ noSh (.bool r_13_5) = true) (And.intro hb_13_0 trivial)))))))) (by kernel_rfl) (by kernel_rfl) ?_
                  obtain rfl := Option.some.inj h
                  exact Into.mk
                · refine Wp.reg tiok mix hc (by kernel_rfl) (ah := none) (rs := [some (.no), some (.no), none, none, none, none, some (.cond false), some (.no)]) (kt := [1, 2, 3, 4, 5, 12]) (ko := [1]) (T' := [(1, .int .i64 n1), (2, .fn 123 []), (3, .fn 124 []), (4, .int .i64 (wr (nodes4 + 1))), (5, .ra 1 0), (12, .bool false)]) (O' := [(1, .box [.int .i64 t0.fOp, .int .i64 t0.fN, .sl (List.map I t0.fType), .sl (List.map GTerm_S t0.fKids)])]) (by kernel_rfl) (And.intro (neT hb_13_0 : ok_11 ≠ true) (And.intro (neT hb_13_0 : ok_11 ≠ true) (And.intro (neT hb_13_0 : ok_11 ≠ true) (And.intro (neT hb_13_0 : ok_11 ≠ true) (And.intro hb_13_0 trivial))))) (by kernel_rfl) (by kernel_rfl) ?_
                  obtain rfl := Option.some.inj h
                  exact Into.mk
              · clear hj_15
                obtain rfl := Option.some.inj h
                exact Into.mk
            · refine Wp.condF (b := r_2_2_0.ftyped) (by kernel_rfl) (by kernel_rfl) hb_13 ?_
              obtain ⟨ok_16, hj_17, h⟩ := bsome h
              refine Wp.into (x := .normal) (mkS [(1, .int .i64 n1), (2, .fn 123 []), (3, .fn 124 []), (4, .int .i64 (wr (nodes4 + 1))), (5, .ra 1 0), (12, .bool ok_16)] [(1, .box [.int .i64 t0.fOp, .int .i64 t0.fN, .sl (List.map I t0.fType), .sl (List.map GTerm_S t0.fKids)])]) ?_ ?_
              · replace h := hj_17
                rcases itesome h with ⟨hb_14_0, h⟩ | ⟨hb_14_0, h⟩
                · refine Wp.reg tiok mix hc (by kernel_rfl) (ah := none) (rs := [some (.no), some (.no), some (.no), some (.no), some (.eqv (.no) ⟨[(76, .int .i64 (t0.fType.length : Int))], [], []⟩), some (.no), some (.cond true), some (.no)]) (kt := [1, 2, 3, 4, 5, 12]) (ko := [1]) (T' := [(1, .int .i64 n1), (2, .fn 123 []), (3, .fn 124 []), (4, .int .i64 (wr (nodes4 + 1))), (5, .ra 1 0), (12, .bool ((t0.fType.length : Int) == 0))]) (O' := [(1, .box [.int .i64 t0.fOp, .int .i64 t0.fN, .sl (List.map I t0.fType), .sl (List.map GTerm_S t0.fKids)])]) (by kernel_rfl) (And.intro hb_14_0 (And.intro hb_14_0 (And.intro hb_14_0 (And.intro (lenT (d := 76) I t0.fType) (And.intro hb_14_0 (And.intro hb_14_0 trivial)))))) (by kernel_rfl) (by kernel_rfl) ?_
                  obtain rfl := Option.some.inj h
                  exact Into.mk
                · refine Wp.reg tiok mix hc (by kernel_rfl) (ah := none) (rs := [some (.no), some (.no), none, none, none, none, some (.cond false), some (.no)]) (kt := [1, 2, 3, 4, 5, 12]) (ko := [1]) (T' := [(1, .int .i64 n1), (2, .fn 123 []), (3, .fn 124 []), (4, .int .i64 (wr (nodes4 + 1))), (5, .ra 1 0), (12, .bool false)]) (O' := [(1, .box [.int .i64 t0.fOp, .int .i64 t0.fN, .sl (List.map I t0.fType), .sl (List.map GTerm_S t0.fKids)])]) (by kernel_rfl) (And.intro (neT hb_14_0 : ok_11 ≠ true) (And.intro (neT hb_14_0 : ok_11 ≠ true) (And.intro (neT hb_14_0 : ok_11 ≠ true) (And.intro (neT hb_14_0 : ok_11 ≠ true) (And.intro hb_14_0 trivial))))) (by kernel_rfl) (by kernel_rfl) ?_
                  obtain rfl := Option.some.inj h
                  exact Into.mk
              · clear hj_17
                obtain rfl := Option.some.inj h
                exact Into.mk
          · clear hj_19
            refine seqQ_norm ?_
            refine Wp.seqN (by kernel_rfl) ?_
            refine Wp.seqN (by kernel_rfl) ?_
            refine Wp.reg tiok mix hc (by kernel_rfl) (ah := none) (rs := [some (.no), some (.no)]) (kt := [1, 2, 3, 4, 5, 80]) (ko := [1]) (T' := [(1, .int .i64 n1), (2, .fn 123 []), (3, .fn 124 []), (4, .int .i64 (wr (nodes4 + 1))), (5, .ra 1 0), (80, .bool (!ok_18))]) (O' := [(1, .box [.int .i64 t0.fOp, .int .i64 t0.fN, .sl (List.map I t0.fType), .sl (List.map GTerm_S t0.fKids)])]) (by kernel_rfl) trivial (by kernel_rfl) (by kernel_rfl) ?_
            refine seqQ_norm ?_
            rcases itesome h with ⟨hb_20, h⟩ | ⟨hb_20, h⟩
            · refine Wp.condF (b := (!ok_18)) (by kernel_rfl) (by kernel_rfl) (nF hb_20) ?_
              refine Wp.skipN (by kernel_rfl) ?_
              refine seqQ_norm ?_
              refine Wp.seqN (by kernel_rfl) ?_
              refine Wp.seqN (by kernel_rfl) ?_
              refine Wp.reg tiok mix hc (by kernel_rfl) (ah := none) (rs := [some (.no), some (.no), some (.eqv (.no) ⟨[(83, .int .i64 (t0.fKids.length : Int))], [], []⟩), some (.no)]) (kt := [1, 2, 3, 4, 5, 82, 83, 84]) (ko := [1]) (T' := [(1, .int .i64 n1), (2, .fn 123 []), (3, .fn 124 []), (4, .int .i64 (wr (nodes4 + 1))), (5, .ra 1 0), (82, .sl (List.map GTerm_S t0.fKids)), (83, .int .i64 (t0.fKids.length : Int)), (84, .int .i64 0)]) (O' := [(1, .box [.int .i64 t0.fOp, .int .i64 t0.fN, .sl (List.map I t0.fType), .sl (List.map GTerm_S t0.fKids)])]) (by kernel_rfl) (And.intro (lenT (d := 83) GTerm_S t0.fKids) trivial) (by kernel_rfl) (by kernel_rfl) ?_
              refine seqQ_norm ?_
              refine Wp.blockN (i := 1) (by kernel_rfl) ?_
              obtain ⟨fl, hl_28, h⟩ := bsome h
              have hL := impl_check_Kimpl_writtenSize_c1_Kimpl_isWrittenType_l0_ih _ _ hl_28 c hc
              refine Wp.loopN (by kernel_rfl) ?_
              rcases fl with nodes_27 | r
              · refine WpL.into (e := (.exit 1)) (mkS [(4, .int .i64 nodes_27)] []) hL ?_
                refine blockQ_hit ?_
                refine seqQ_norm ?_
                refine Wp.seqN (by kernel_rfl) ?_
                refine Wp.reg tiok mix hc (by kernel_rfl) (ah := none) (rs := [some (.no), some (.no)]) (kt := [10]) (ko := []) (T' := [(10, .int .i64 nodes_27)]) (O' := []) (by kernel_rfl) trivial (by kernel_rfl) (by kernel_rfl) ?_
                refine seqQ_norm ?_
                refine Wp.retN (by kernel_rfl) ?_
                obtain rfl := Option.some.inj h
                exact RetQ.ret (fl := [true]) (by kernel_rfl)
              · refine WpL.mono hL ?_
                rintro _ _ ⟨rfl, hfin⟩
                refine blockQ_ret ?_
                refine seqQ_ret ?_
                obtain rfl := Option.some.inj h
                exact ⟨.inl rfl, hfin⟩
            · refine Wp.condT (b := (!ok_18)) (by kernel_rfl) (by kernel_rfl) (nT hb_20) ?_
              refine Wp.seqN (by kernel_rfl) ?_
              refine Wp.reg tiok mix hc (by kernel_rfl) (ah := none) (rs := [some (.no)]) (kt := [10]) (ko := []) (T' := [(10, .int .i64 401)]) (O' := []) (by kernel_rfl) trivial (by kernel_rfl) (by kernel_rfl) ?_
              refine seqQ_norm ?_
              refine Wp.retN (by kernel_rfl) ?_
              refine seqQ_ret ?_
              obtain rfl := Option.some.inj h
              exact RetQ.ret (fl := [true]) (by kernel_rfl)
  · rintro impl_check_Kimpl_writtenSize_c1_Kimpl_isWrittenType_f impl_check_Kimpl_writtenSize_c1_Kimpl_isWrittenType_l0_f impl_check_Kimpl_writtenSize_c1_Kimpl_isWrittenType_ih impl_check_Kimpl_writtenSize_c1_Kimpl_isWrittenType_l0_ih ⟨t0, n1, nodes_23, w_24⟩ r h
    intro c hc
    show WpL Try.prog c (cl (cl (cr (cl (cr (cr (cr (cr (cr (cr (cr B81))))))))))) (impl_check_Kimpl_writtenSize_c1_Kimpl_isWrittenType_F1 c r) (mkS [(1, .int .i64 n1), (2, .fn 123 []), (3, .fn 124 []), (4, .int .i64 nodes_23), (5, .ra 1 0), (82, .sl (List.map GTerm_S t0.fKids)), (83, .int .i64 (t0.fKids.length : Int)), (84, .int .i64 w_24)] [(1, .box [.int .i64 t0.fOp, .int .i64 t0.fN, .sl (List.map I t0.fType), .sl (List.map GTerm_S t0.fKids)])])
    refine WpL.step ?_
    refine Wp.seqN (by kernel_rfl) ?_
    refine Wp.reg tiok mix hc (by kernel_rfl) (ah := none) (rs := [some (.no)]) (kt := [1, 2, 3, 4, 5, 82, 83, 84, 85]) (ko := [1]) (T' := [(1, .int .i64 n1), (2, .fn 123 []), (3, .fn 124 []), (4, .int .i64 nodes_23), (5, .ra 1 0), (82, .sl (List.map GTerm_S t0.fKids)), (83, .int .i64 (t0.fKids.length : Int)), (84, .int .i64 w_24), (85, .bool (decide (w_24 < (t0.fKids.length : Int))))]) (O' := [(1, .box [.int .i64 t0.fOp, .int .i64 t0.fN, .sl (List.map I t0.fType), .sl (List.map GTerm_S t0.fKids)])]) (by kernel_rfl) trivial (by kernel_rfl) (by kernel_rfl) ?_
    refine seqQ_norm ?_
    refine Wp.seqN (by kernel_rfl) ?_
    rcases itesome h with ⟨hb_25, h⟩ | ⟨hb_25, h⟩
    · refine Wp.condT (b := (decide (w_24 < (t0.fKids.length : Int)))) (by kernel_rfl) (by kernel_rfl) hb_25 ?_
      refine Wp.skipN (by kernel_rfl) ?_
      refine seqQ_norm ?_
      refine Wp.seqN (by kernel_rfl) ?_
      refine Wp.blockN (i := 2) (by kernel_rfl) ?_
      refine Wp.seqN (by kernel_rfl) ?_
      obtain ⟨e_19_1, hi_19_1, h⟩ := bsome h
      refine Wp.reg tiok mix hc (by kernel_rfl) (ah := none) (rs := [some (.no), some (.el (.agg [.int .i64 e_19_1.fOp, .int .i64 e_19_1.fN, .sl (List.map I e_19_1.fType), .sl (List.map GTerm_S e_19_1.fKids)])), some (.no), some (.new 4), some (.no), some (.no)]) (kt := [1, 2, 3, 4, 5, 13, 14, 82, 83, 84]) (ko := [1, 4]) (T' := [(1, .int .i64 n1), (2, .fn 123 []), (3, .fn 124 []), (4, .int .i64 nodes_23), (5, .ra 1 0), (13, .int .i64 w_24), (14, .ra 4 0), (82, .sl (List.map GTerm_S t0.fKids)), (83, .int .i64 (t0.fKids.length : Int)), (84, .int .i64 w_24)]) (O' := [(1, .box [.int .i64 t0.fOp, .int .i64 t0.fN, .sl (List.map I t0.fType), .sl (List.map GTerm_S t0.fKids)]), (4, .box [.int .i64 e_19_1.fOp, .int .i64 e_19_1.fN, .sl (List.map I e_19_1.fType), .sl (List.map GTerm_S e_19_1.fKids)])]) (by kernel_rfl) (And.intro (idx_sl (enc := GTerm_S) (x := .agg [.int .i64 e_19_1.fOp, .int .i64 e_19_1.fN, .sl (List.map I e_19_1.fType), .sl (List.map GTerm_S e_19_1.fKids)]) hi_19_1 (eq_GTerm_S e_19_1)) trivial) (by kernel_rfl) (by kernel_rfl) ?_
      refine seqQ_norm ?_
      refine Wp.seqN (by kernel_rfl) ?_
      obtain ⟨r_20_5, hr_20_5, h⟩ := bsome h
      obtain ⟨r_20_10, hr_20_10, h⟩ := bsome h
      refine Wp.reg tiok mix hc (by kernel_rfl) (ah := (some [[], [], [], [2], [], [2, 3, 4], [1, 2, 3, 4, 5], [], [], [], [0, 1, 2, 3, 4, 5, 6, 7, 8, 9], [0, 1, 2, 3, 4, 5, 6, 7, 8, 9, 10]])) (rs := [some (.no), some (.no), some (.no), some (.no), some (.no), some (.call (.int .i64 r_20_5) [] 1), some (.no), some (.no), some (.no), some (.no), some (.call (.int .i64 r_20_10) [] 1), some (.no)]) (kt := [1, 2, 3, 4, 5, 82, 83, 84]) (ko := [1]) (T' := [(1, .int .i64 n1), (2, .fn 123 []), (3, .fn 124 []), (4, .int .i64 r_20_10), (5, .ra 1 0), (82, .sl (List.map GTerm_S t0.fKids)), (83, .int .i64 (t0.fKids.length : Int)), (84, .int .i64 w_24)]) (O' := [(1, .box [.int .i64 t0.fOp, .int .i64 t0.fN, .sl (List.map I t0.fType), .sl (List.map GTerm_S t0.fKids)])]) (by kernel_rfl) (And.intro (impl_adds_s _ _ hr_20_5) (And.intro bod_117 (And.intro (Or.inl rfl : ([] : List Nat) = [] ∨ noSh (.int .i64 r_20_5) = true) (And.intro (impl_check_Kimpl_writtenSize_c1_Kimpl_isWrittenType_ih _ _ hr_20_10) (And.intro bod_81 (And.intro (Or.inl rfl : ([] : List Nat) = [] ∨ noSh (.int .i64 r_20_10) = true) trivial)))))) (by kernel_rfl) (by kernel_rfl) ?_
      refine seqQ_norm ?_
      refine Wp.seqN (by kernel_rfl) ?_
      refine Wp.reg tiok mix hc (by kernel_rfl) (ah := none) (rs := [some (.no), some (.no)]) (kt := [1, 2, 3, 4, 5, 82, 83, 84, 101]) (ko := [1]) (T' := [(1, .int .i64 n1), (2, .fn 123 []), (3, .fn 124 []), (4, .int .i64 r_20_10), (5, .ra 1 0), (82, .sl (List.map GTerm_S t0.fKids)), (83, .int .i64 (t0.fKids.length : Int)), (84, .int .i64 w_24), (101, .bool (decide (r_20_10 > 400)))]) (O' := [(1, .box [.int .i64 t0.fOp, .int .i64 t0.fN, .sl (List.map I t0.fType), .sl (List.map GTerm_S t0.fKids)])]) (by kernel_rfl) trivial (by kernel_rfl) (by kernel_rfl) ?_
      refine seqQ_norm ?_
      rcases itesome h with ⟨hb_26, h⟩ | ⟨hb_26, h⟩
      · refine Wp.condT (b := (decide (r_20_10 > 400))) (by kernel_rfl) (by kernel_rfl) hb_26 ?_
        refine Wp.seqN (by kernel_rfl) ?_
        refine Wp.reg tiok mix hc (by kernel_rfl) (ah := none) (rs := [some (.no)]) (kt := [10]) (ko := []) (T' := [(10, .int .i64 401)]) (O' := []) (by kernel_rfl) trivial (by kernel_rfl) (by kernel_rfl) ?_
        refine seqQ_norm ?_
        refine Wp.retN (by kernel_rfl) ?_
        refine blockQ_ret ?_
        refine seqQ_ret ?_
        refine loopQ_ret ?_
        obtain rfl := Option.some.inj h
        exact RetE.ret (fl := [true]) (by kernel_rfl)
      · refine Wp.condF (b := (decide (r_20_10 > 400))) (by kernel_rfl) (by kernel_rfl) hb_26 ?_
        refine Wp.skipN (by kernel_rfl) ?_
        refine blockQ_norm ?_
        refine seqQ_norm ?_
        refine Wp.reg tiok mix hc (by kernel_rfl) (ah := none) (rs := [some (.no), some (.no)]) (kt := [1, 2, 3, 4, 5, 82, 83, 84]) (ko := [1]) (T' := [(1, .int .i64 n1), (2, .fn 123 []), (3, .fn 124 []), (4, .int .i64 r_20_10), (5, .ra 1 0), (82, .sl (List.map GTerm_S t0.fKids)), (83, .int .i64 (t0.fKids.length : Int)), (84, .int .i64 (wr (w_24 + 1)))]) (O' := [(1, .box [.int .i64 t0.fOp, .int .i64 t0.fN, .sl (List.map I t0.fType), .sl (List.map GTerm_S t0.fKids)])]) (by kernel_rfl) trivial (by kernel_rfl) (by kernel_rfl) ?_
        refine loopQ_norm ?_
        exact (impl_check_Kimpl_writtenSize_c1_Kimpl_isWrittenType_l0_ih _ _ h c hc)
    · refine Wp.condF (b := (decide (w_24 < (t0.fKids.length : Int)))) (by kernel_rfl) (by kernel_rfl) hb_25 ?_
      refine Wp.exitN (i := 1) (by kernel_rfl) ?_
      refine seqQ_exit ?_
      refine loopQ_exit ?_
      obtain rfl := Option.some.inj h
      exact Into.view (fun a w hv => SRx.renL [] hv (by kernel_rfl) (by kernel_rfl) (by kernel_rfl))
theorem impl_check_Kimpl_writtenSize_c1_Kimpl_isWrittenType_s : ∀ p r, impl_check_Kimpl_writtenSize_c1_Kimpl_isWrittenType p = some r → M_impl_check_Kimpl_writtenSize_c1_Kimpl_isWrittenType p r := impl_check_Kimpl_writtenSize_c1_Kimpl_isWrittenType_all.1
theorem impl_check_Kimpl_writtenSize_c1_Kimpl_isWrittenType_l0_s : ∀ p r, impl_check_Kimpl_writtenSize_c1_Kimpl_isWrittenType_l0 p = some r → M_impl_check_Kimpl_writtenSize_c1_Kimpl_isWrittenType_l0 p r := impl_check_Kimpl_writtenSize_c1_Kimpl_isWrittenType_all.2
def impl_writtenSize (t0 : GTerm) : Option (Int) :=
    (impl_check_Kimpl_writtenSize_c1_Kimpl_isWrittenType (t0, 8, 0)) >>= fun r_1_1 =>
    some r_1_1
def M_impl_writtenSize (t0 : GTerm) (r : Int) : Prop :=
  FnSound Try.prog 99 [.agg [.int .i64 t0.fOp, .int .i64 t0.fN, .sl (List.map I t0.fType), .sl (List.map GTerm_S t0.fKids)]] (.int .i64 r) []
theorem impl_writtenSize_s : ∀ p r, impl_writtenSize p = some r → M_impl_writtenSize p r := by
  rintro t0 r h
  unfold impl_writtenSize at h
  show FnSound Try.prog 99 [.agg [.int .i64 t0.fOp, .int .i64 t0.fN, .sl (List.map I t0.fType), .sl (List.map GTerm_S t0.fKids)]] (.int .i64 r) []
  refine FnSound.body0 tiok (fn := Try.f99) (code := B99) (by kernel_rfl) (by kernel_rfl) (by kernel_rfl) (by kernel_rfl) (nt := 5) (by kernel_rfl) (by kernel_rfl) (T := [(0, .agg [.int .i64 t0.fOp, .int .i64 t0.fN, .sl (List.map I t0.fType), .sl (List.map GTerm_S t0.fKids)])]) (O := []) (by kernel_rfl) (by kernel_rfl) (fun c hc => ?_)
  refine Wp.seqN (by kernel_rfl) ?_
  refine Wp.reg tiok mix hc (by kernel_rfl) (ah := none) (rs := [some (.new 1), some (.no)]) (kt := [1]) (ko := [1]) (T' := [(1, .ra 1 0)]) (O' := [(1, .box [.int .i64 t0.fOp, .int .i64 t0.fN, .sl (List.map I t0.fType), .sl (List.map GTerm_S t0.fKids)])]) (by kernel_rfl) trivial (by kernel_rfl) (by kernel_rfl) ?_
  refine seqQ_norm ?_
  refine Wp.seqN (by kernel_rfl) ?_
  obtain ⟨r_1_1, hr_1_1, h⟩ := bsome h
  refine Wp.reg tiok mix hc (by kernel_rfl) (ah := none) (rs := [some (.no), some (.call (.int .i64 r_1_1) [] 1), some (.no)]) (kt := [2]) (ko := []) (T' := [(2, .int .i64 r_1_1)]) (O' := []) (by kernel_rfl) (And.intro (impl_check_Kimpl_writtenSize_c1_Kimpl_isWrittenType_s _ _ hr_1_1) (And.intro bod_81 (And.intro (Or.inl rfl : ([] : List Nat) = [] ∨ noSh (.int .i64 r_1_1) = true) trivial))) (by kernel_rfl) (by kernel_rfl) ?_
  refine seqQ_norm ?_
  refine Wp.retN (by kernel_rfl) ?_
  obtain rfl := Option.some.inj h
  exact RetQ.ret (fl := [true]) (by kernel_rfl)
def impl_IsWritten (t0 : GTerm) : Option (Bool) :=
    (impl_writtenSize t0) >>= fun r_1_1 =>
    some (decide (r_1_1 ≤ 400))
def M_impl_IsWritten (t0 : GTerm) (r : Bool) : Prop :=
  FnSound Try.prog 61 [.agg [.int .i64 t0.fOp, .int .i64 t0.fN, .sl (List.map I t0.fType), .sl (List.map GTerm_S t0.fKids)]] (.bool r) []
theorem impl_IsWritten_s : ∀ p r, impl_IsWritten p = some r → M_impl_IsWritten p r := by
  rintro t0 r h
  unfold impl_IsWritten at h
  show FnSound Try.prog 61 [.agg [.int .i64 t0.fOp, .int .i64 t0.fN, .sl (List.map I t0.fType), .sl (List.map GTerm_S t0.fKids)]] (.bool r) []
  refine FnSound.body0 tiok (fn := Try.f61) (code := B61) (by kernel_rfl) (by kernel_rfl) (by kernel_rfl) (by kernel_rfl) (nt := 6) (by kernel_rfl) (by kernel_rfl) (T := [(0, .agg [.int .i64 t0.fOp, .int .i64 t0.fN, .sl (List.map I t0.fType), .sl (List.map GTerm_S t0.fKids)])]) (O := []) (by kernel_rfl) (by kernel_rfl) (fun c hc => ?_)
  refine Wp.seqN (by kernel_rfl) ?_
  refine Wp.reg tiok mix hc (by kernel_rfl) (ah := none) (rs := [some (.new 1), some (.no)]) (kt := [1]) (ko := [1]) (T' := [(1, .ra 1 0)]) (O' := [(1, .box [.int .i64 t0.fOp, .int .i64 t0.fN, .sl (List.map I t0.fType), .sl (List.map GTerm_S t0.fKids)])]) (by kernel_rfl) trivial (by kernel_rfl) (by kernel_rfl) ?_
  refine seqQ_norm ?_
  refine Wp.seqN (by kernel_rfl) ?_
  obtain ⟨r_1_1, hr_1_1, h⟩ := bsome h
  refine Wp.reg tiok mix hc (by kernel_rfl) (ah := none) (rs := [some (.no), some (.call (.int .i64 r_1_1) [] 1), some (.no), some (.no)]) (kt := [2]) (ko := []) (T' := [(2, .bool (decide (r_1_1 ≤ 400)))]) (O' := []) (by kernel_rfl) (And.intro (impl_writtenSize_s _ _ hr_1_1) (And.intro bod_99 (And.intro (Or.inl rfl : ([] : List Nat) = [] ∨ noSh (.int .i64 r_1_1) = true) trivial))) (by kernel_rfl) (by kernel_rfl) ?_
  refine seqQ_norm ?_
  refine Wp.retN (by kernel_rfl) ?_
  obtain rfl := Option.some.inj h
  exact RetQ.ret (fl := [true]) (by kernel_rfl)
def impl_openCode (c0 : Int) : Option (Bool) :=
    (
      if (c0 == 35) = true then
        some (true)
      else
        some ((c0 == 36))
    ) >>= fun v_1 =>
    some v_1
def M_impl_openCode (c0 : Int) (r : Bool) : Prop :=
  FnSound Try.prog 101 [.int .i64 c0] (.bool r) []
theorem impl_openCode_s : ∀ p r, impl_openCode p = some r → M_impl_openCode p r := by
  rintro c0 r h
  unfold impl_openCode at h
  show FnSound Try.prog 101 [.int .i64 c0] (.bool r) []
  refine FnSound.body0 tiok (fn := Try.f101) (code := B101) (by kernel_rfl) (by kernel_rfl) (by kernel_rfl) (by kernel_rfl) (nt := 9) (by kernel_rfl) (by kernel_rfl) (T := [(0, .int .i64 c0)]) (O := []) (by kernel_rfl) (by kernel_rfl) (fun c hc => ?_)
  refine Wp.seqN (by kernel_rfl) ?_
  refine Wp.reg tiok mix hc (by kernel_rfl) (ah := none) (rs := [some (.no)]) (kt := [0]) (ko := []) (T' := [(0, .int .i64 c0)]) (O' := []) (by kernel_rfl) trivial (by kernel_rfl) (by kernel_rfl) ?_
  refine seqQ_norm ?_
  refine Wp.seqN (by kernel_rfl) ?_
  obtain ⟨v_1, hj_2, h⟩ := bsome h
  refine Wp.into (x := .normal) (mkS [(2, .bool v_1)] []) ?_ ?_
  · replace h := hj_2
    rcases itesome h with ⟨hb_1_0, h⟩ | ⟨hb_1_0, h⟩
    · refine Wp.reg tiok mix hc (by kernel_rfl) (ah := none) (rs := [some (.no), some (.no), some (.no), none, none, some (.cond true), some (.no)]) (kt := [2]) (ko := []) (T' := [(2, .bool true)]) (O' := []) (by kernel_rfl) (And.intro (neF hb_1_0 : (c0 == 35) ≠ false) (And.intro (neF hb_1_0 : (c0 == 35) ≠ false) (And.intro hb_1_0 trivial))) (by kernel_rfl) (by kernel_rfl) ?_
      obtain rfl := Option.some.inj h
      exact Into.mk
    · refine Wp.reg tiok mix hc (by kernel_rfl) (ah := none) (rs := [some (.no), some (.no), some (.no), some (.no), some (.no), some (.cond false), some (.no)]) (kt := [2]) (ko := []) (T' := [(2, .bool (c0 == 36))]) (O' := []) (by kernel_rfl) (And.intro hb_1_0 (And.intro hb_1_0 (And.intro hb_1_0 trivial))) (by kernel_rfl) (by kernel_rfl) ?_
      obtain rfl := Option.some.inj h
      exact Into.mk
  · clear hj_2
    refine seqQ_norm ?_
    refine Wp.retN (by kernel_rfl) ?_
    obtain rfl := Option.some.inj h
    exact RetQ.ret (fl := [true]) (by kernel_rfl)
def impl_countOpen_F1 (c : Ctx) (t0 : GTerm) : Int → Exit → AState → Prop
  | n_16 => Into c (.exit 0) (mkS [(1, .ra 1 0), (3, .int .i64 n_16)] [(1, .box [.int .i64 t0.fOp, .int .i64 t0.fN, .sl (List.map I t0.fType), .sl (List.map GTerm_S t0.fKids)])])
def impl_countOpen_F2 (c : Ctx) : Int → Exit → AState → Prop
  | n_22 => Into c (.exit 2) (mkS [(3, .int .i64 n_22)] [])
def impl_countOpen_l0 (p : GTerm × Int × Int) : Option (Int) :=
  match p with
  | (t0, n_10, w_11) =>
    if (decide (w_11 < (t0.fType.length : Int))) = true then
      (idx t0.fType w_11) >>= fun e_7_0 =>
      (impl_openCode e_7_0) >>= fun r_8_1 =>
      (
        if r_8_1 = true then
          some ((wr (n_10 + 1)))
        else
          some (n_10)
      ) >>= fun n_14 =>
      impl_countOpen_l0 (t0, n_14, (wr (w_11 + 1)))
    else
      some (n_10)
  partial_fixpoint
def M_impl_countOpen_l0 (p : GTerm × Int × Int) (fl : Int) : Prop :=
  match p with
  | (t0, n_10, w_11) => ∀ c : Ctx, c.nt = 50 → WpL Try.prog c (cl (cl (cr (cl (cr (cr (cr B62))))))) (impl_countOpen_F1 c t0 fl) (mkS [(1, .ra 1 0), (3, .int .i64 n_10), (26, .sl (List.map I t0.fType)), (27, .int .i64 (t0.fType.length : Int)), (28, .int .i64 w_11)] [(1, .box [.int .i64 t0.fOp, .int .i64 t0.fN, .sl (List.map I t0.fType), .sl (List.map GTerm_S t0.fKids)])])
theorem impl_countOpen_l0_s : ∀ p r, impl_countOpen_l0 p = some r → M_impl_countOpen_l0 p r := by
  refine impl_countOpen_l0.partial_correctness M_impl_countOpen_l0 ?_
  rintro impl_countOpen_l0_f impl_countOpen_l0_ih ⟨t0, n_10, w_11⟩ r h
  intro c hc
  show WpL Try.prog c (cl (cl (cr (cl (cr (cr (cr B62))))))) (impl_countOpen_F1 c t0 r) (mkS [(1, .ra 1 0), (3, .int .i64 n_10), (26, .sl (List.map I t0.fType)), (27, .int .i64 (t0.fType.length : Int)), (28, .int .i64 w_11)] [(1, .box [.int .i64 t0.fOp, .int .i64 t0.fN, .sl (List.map I t0.fType), .sl (List.map GTerm_S t0.fKids)])])
  refine WpL.step ?_
  refine Wp.seqN (by kernel_rfl) ?_
  refine Wp.reg tiok mix hc (by kernel_rfl) (ah := none) (rs := [some (.no)]) (kt := [1, 3, 26, 27, 28, 29]) (ko := [1]) (T' := [(1, .ra 1 0), (3, .int .i64 n_10), (26, .sl (List.map I t0.fType)), (27, .int .i64 (t0.fType.length : Int)), (28, .int .i64 w_11), (29, .bool (decide (w_11 < (t0.fType.length : Int))))]) (O' := [(1, .box [.int .i64 t0.fOp, .int .i64 t0.fN, .sl (List.map I t0.fType), .sl (List.map GTerm_S t0.fKids)])]) (by kernel_rfl) trivial (by kernel_rfl) (by kernel_rfl) ?_
  refine seqQ_norm ?_
  refine Wp.seqN (by kernel_rfl) ?_
  rcases itesome h with ⟨hb_12, h⟩ | ⟨hb_12, h⟩
  · refine Wp.condT (b := (decide (w_11 < (t0.fType.length : Int)))) (by kernel_rfl) (by kernel_rfl) hb_12 ?_
    refine Wp.skipN (by kernel_rfl) ?_
    refine seqQ_norm ?_
    refine Wp.seqN (by kernel_rfl) ?_
    refine Wp.blockN (i := 1) (by kernel_rfl) ?_
    refine Wp.seqN (by kernel_rfl) ?_
    obtain ⟨e_7_0, hi_7_0, h⟩ := bsome h
    refine Wp.reg tiok mix hc (by kernel_rfl) (ah := none) (rs := [some (.el (.int .i64 e_7_0)), some (.no), some (.no)]) (kt := [1, 3, 7, 26, 27, 28]) (ko := [1]) (T' := [(1, .ra 1 0), (3, .int .i64 n_10), (7, .int .i64 e_7_0), (26, .sl (List.map I t0.fType)), (27, .int .i64 (t0.fType.length : Int)), (28, .int .i64 w_11)]) (O' := [(1, .box [.int .i64 t0.fOp, .int .i64 t0.fN, .sl (List.map I t0.fType), .sl (List.map GTerm_S t0.fKids)])]) (by kernel_rfl) (And.intro (idx_sl (enc := I) (x := .int .i64 e_7_0) hi_7_0 (eq_I e_7_0)) trivial) (by kernel_rfl) (by kernel_rfl) ?_
    refine seqQ_norm ?_
    refine Wp.seqN (by kernel_rfl) ?_
    obtain ⟨r_8_1, hr_8_1, h⟩ := bsome h
    refine Wp.reg tiok mix hc (by kernel_rfl) (ah := none) (rs := [some (.no), some (.call (.bool r_8_1) [] 1)]) (kt := [1, 3, 26, 27, 28, 33]) (ko := [1]) (T' := [(1, .ra 1 0), (3, .int .i64 n_10), (26, .sl (List.map I t0.fType)), (27, .int .i64 (t0.fType.length : Int)), (28, .int .i64 w_11), (33, .bool r_8_1)]) (O' := [(1, .box [.int .i64 t0.fOp, .int .i64 t0.fN, .sl (List.map I t0.fType), .sl (List.map GTerm_S t0.fKids)])]) (by kernel_rfl) (And.intro (impl_openCode_s _ _ hr_8_1) (And.intro bod_101 (And.intro (Or.inl rfl : ([] : List Nat) = [] ∨ noSh (.bool r_8_1) = true) trivial))) (by kernel_rfl) (by kernel_rfl) ?_
    refine seqQ_norm ?_
    obtain ⟨n_14, hj_15, h⟩ := bsome h
    refine Wp.into (x := .normal) (mkS [(1, .ra 1 0), (3, .int .i64 n_14), (26, .sl (List.map I t0.fType)), (27, .int .i64 (t0.fType.length : Int)), (28, .int .i64 w_11)] [(1, .box [.int .i64 t0.fOp, .int .i64 t0.fN, .sl (List.map I t0.fType), .sl (List.map GTerm_S t0.fKids)])]) ?_ ?_
    · replace h := hj_15
      rcases itesome h with ⟨hb_13, h⟩ | ⟨hb_13, h⟩
      · refine Wp.condT (b := r_8_1) (by kernel_rfl) (by kernel_rfl) hb_13 ?_
        refine Wp.reg tiok mix hc (by kernel_rfl) (ah := none) (rs := [some (.no), some (.no), some (.no)]) (kt := [1, 3, 26, 27, 28]) (ko := [1]) (T' := [(1, .ra 1 0), (3, .int .i64 (wr (n_10 + 1))), (26, .sl (List.map I t0.fType)), (27, .int .i64 (t0.fType.length : Int)), (28, .int .i64 w_11)]) (O' := [(1, .box [.int .i64 t0.fOp, .int .i64 t0.fN, .sl (List.map I t0.fType), .sl (List.map GTerm_S t0.fKids)])]) (by kernel_rfl) trivial (by kernel_rfl) (by kernel_rfl) ?_
        obtain rfl := Option.some.inj h
        exact Into.mk
      · refine Wp.condF (b := r_8_1) (by kernel_rfl) (by kernel_rfl) hb_13 ?_
        refine Wp.skipN (by kernel_rfl) ?_
        obtain rfl := Option.some.inj h
        exact Into.view (fun a w hv => SRx.renL [] hv (by kernel_rfl) (by kernel_rfl) (by kernel_rfl))
    · clear hj_15
      refine blockQ_norm ?_
      refine seqQ_norm ?_
      refine Wp.reg tiok mix hc (by kernel_rfl) (ah := none) (rs := [some (.no), some (.no)]) (kt := [1, 3, 26, 27, 28]) (ko := [1]) (T' := [(1, .ra 1 0), (3, .int .i64 n_14), (26, .sl (List.map I t0.fType)), (27, .int .i64 (t0.fType.length : Int)), (28, .int .i64 (wr (w_11 + 1)))]) (O' := [(1, .box [.int .i64 t0.fOp, .int .i64 t0.fN, .sl (List.map I t0.fType), .sl (List.map GTerm_S t0.fKids)])]) (by kernel_rfl) trivial (by kernel_rfl) (by kernel_rfl) ?_
      refine loopQ_norm ?_
      exact (impl_countOpen_l0_ih _ _ h c hc)
  · refine Wp.condF (b := (decide (w_11 < (t0.fType.length : Int)))) (by kernel_rfl) (by kernel_rfl) hb_12 ?_
    refine Wp.exitN (i := 0) (by kernel_rfl) ?_
    refine seqQ_exit ?_
    refine loopQ_exit ?_
    obtain rfl := Option.some.inj h
    exact Into.view (fun a w hv => SRx.renL [] hv (by kernel_rfl) (by kernel_rfl) (by kernel_rfl))
mutual
def impl_countOpen (t0 : GTerm) : Option (Int) :=
    (impl_formOf t0.fOp) >>= fun (r_2_2_0, r_2_2_1) =>
    (
      if r_2_2_0.fgrade = true then
        some ((decide (t0.fN < 0)))
      else
        some (false)
    ) >>= fun v_1 =>
    (
      if v_1 = true then
        some ((wr (0 + 1)))
      else
        some (0)
    ) >>= fun n_4 =>
    (impl_countOpen_l0 (t0, n_4, 0)) >>= fun n_16 =>
    (impl_countOpen_l1 (t0, n_16, 0)) >>= fun n_22 =>
    some n_22
  partial_fixpoint
def impl_countOpen_l1 (p : GTerm × Int × Int) : Option (Int) :=
  match p with
  | (t0, n_19, w_20) =>
    if (decide (w_20 < (t0.fKids.length : Int))) = true then
      (idx t0.fKids w_20) >>= fun e_13_0 =>
      (impl_countOpen e_13_0) >>= fun r_14_2 =>
      impl_countOpen_l1 (t0, (wr (n_19 + r_14_2)), (wr (w_20 + 1)))
    else
      some (n_19)
  partial_fixpoint
end
def M_impl_countOpen (t0 : GTerm) (r : Int) : Prop :=
  FnSound Try.prog 62 [.agg [.int .i64 t0.fOp, .int .i64 t0.fN, .sl (List.map I t0.fType), .sl (List.map GTerm_S t0.fKids)]] (.int .i64 r) []
def M_impl_countOpen_l1 (p : GTerm × Int × Int) (fl : Int) : Prop :=
  match p with
  | (t0, n_19, w_20) => ∀ c : Ctx, c.nt = 50 → WpL Try.prog c (cl (cl (cr (cl (cr (cr (cr (cr B62)))))))) (impl_countOpen_F2 c fl) (mkS [(3, .int .i64 n_19), (38, .sl (List.map GTerm_S t0.fKids)), (39, .int .i64 (t0.fKids.length : Int)), (40, .int .i64 w_20)] [])
theorem impl_countOpen_all : (∀ p r, impl_countOpen p = some r → M_impl_countOpen p r) ∧ (∀ p r, impl_countOpen_l1 p = some r → M_impl_countOpen_l1 p r) := by
  refine impl_countOpen.mutual_partial_correctness M_impl_countOpen M_impl_countOpen_l1 ?_ ?_
  · rintro impl_countOpen_l1_f impl_countOpen_l1_ih t0 r h
    show FnSound Try.prog 62 [.agg [.int .i64 t0.fOp, .int .i64 t0.fN, .sl (List.map I t0.fType), .sl (List.map GTerm_S t0.fKids)]] (.int .i64 r) []
    refine FnSound.body0 tiok (fn := Try.f62) (code := B62) (by kernel_rfl) (by kernel_rfl) (by kernel_rfl) (by kernel_rfl) (nt := 50) (by kernel_rfl) (by kernel_rfl) (T := [(0, .agg [.int .i64 t0.fOp, .int .i64 t0.fN, .sl (List.map I t0.fType), .sl (List.map GTerm_S t0.fKids)])]) (O := []) (by kernel_rfl) (by kernel_rfl) (fun c hc => ?_)
    refine Wp.seqN (by kernel_rfl) ?_
    refine Wp.reg tiok mix hc (by kernel_rfl) (ah := none) (rs := [some (.new 1), some (.no)]) (kt := [1]) (ko := [1]) (T' := [(1, .ra 1 0)]) (O' := [(1, .box [.int .i64 t0.fOp, .int .i64 t0.fN, .sl (List.map I t0.fType), .sl (List.map GTerm_S t0.fKids)])]) (by kernel_rfl) trivial (by kernel_rfl) (by kernel_rfl) ?_
    refine seqQ_norm ?_
    refine Wp.seqN (by kernel_rfl) ?_
    refine Wp.reg tiok mix hc (by kernel_rfl) (ah := none) (rs := [some (.no)]) (kt := [1, 3]) (ko := [1]) (T' := [(1, .ra 1 0), (3, .int .i64 0)]) (O' := [(1, .box [.int .i64 t0.fOp, .int .i64 t0.fN, .sl (List.map I t0.fType), .sl (List.map GTerm_S t0.fKids)])]) (by kernel_rfl) trivial (by kernel_rfl) (by kernel_rfl) ?_
    refine seqQ_norm ?_
    refine Wp.seqN (by kernel_rfl) ?_
    refine Wp.seqN (by kernel_rfl) ?_
    obtain ⟨⟨r_2_2_0, r_2_2_1⟩, hr_2_2, h⟩ := bsome h
    refine Wp.reg tiok mix hc (by kernel_rfl) (ah := none) (rs := [some (.no), some (.no), some (.call (.tup [.agg [.str r_2_2_0.fword, .int .i64 r_2_2_0.fkids, .bool r_2_2_0.fgrade, .bool r_2_2_0.ftyped], .bool r_2_2_1]) [] 1), some (.no), some (.no), some (.no), some (.new 2), some (.no), some (.no)]) (kt := [1, 3, 4]) (ko := [1, 2]) (T' := [(1, .ra 1 0), (3, .int .i64 0), (4, .ra 2 0)]) (O' := [(1, .box [.int .i64 t0.fOp, .int .i64 t0.fN, .sl (List.map I t0.fType), .sl (List.map GTerm_S t0.fKids)]), (2, .box [.str r_2_2_0.fword, .int .i64 r_2_2_0.fkids, .bool r_2_2_0.fgrade, .bool r_2_2_0.ftyped])]) (by kernel_rfl) (And.intro (impl_formOf_s _ _ hr_2_2) (And.intro bod_100 (And.intro (Or.inl rfl : ([] : List Nat) = [] ∨ noSh (.tup [.agg [.str r_2_2_0.fword, .int .i64 r_2_2_0.fkids, .bool r_2_2_0.fgrade, .bool r_2_2_0.ftyped], .bool r_2_2_1]) = true) trivial))) (by kernel_rfl) (by kernel_rfl) ?_
    refine seqQ_norm ?_
    refine Wp.seqN (by kernel_rfl) ?_
    obtain ⟨v_1, hj_2, h⟩ := bsome h
    refine Wp.into (x := .normal) (mkS [(1, .ra 1 0), (3, .int .i64 0), (22, .bool v_1)] [(1, .box [.int .i64 t0.fOp, .int .i64 t0.fN, .sl (List.map I t0.fType), .sl (List.map GTerm_S t0.fKids)])]) ?_ ?_
    · replace h := hj_2
      rcases itesome h with ⟨hb_3_0, h⟩ | ⟨hb_3_0, h⟩
      · refine Wp.reg tiok mix hc (by kernel_rfl) (ah := none) (rs := [some (.no), some (.no), some (.no), some (.no), some (.no), some (.no), some (.cond true)]) (kt := [1, 3, 22]) (ko := [1]) (T' := [(1, .ra 1 0), (3, .int .i64 0), (22, .bool (decide (t0.fN < 0)))]) (O' := [(1, .box [.int .i64 t0.fOp, .int .i64 t0.fN, .sl (List.map I t0.fType), .sl (List.map GTerm_S t0.fKids)])]) (by kernel_rfl) (And.intro hb_3_0 (And.intro hb_3_0 (And.intro hb_3_0 (And.intro hb_3_0 trivial)))) (by kernel_rfl) (by kernel_rfl) ?_
        obtain rfl := Option.some.inj h
        exact Into.mk
      · refine Wp.reg tiok mix hc (by kernel_rfl) (ah := none) (rs := [some (.no), some (.no), some (.no), none, none, none, some (.cond false)]) (kt := [1, 3, 22]) (ko := [1]) (T' := [(1, .ra 1 0), (3, .int .i64 0), (22, .bool false)]) (O' := [(1, .box [.int .i64 t0.fOp, .int .i64 t0.fN, .sl (List.map I t0.fType), .sl (List.map GTerm_S t0.fKids)])]) (by kernel_rfl) (And.intro (neT hb_3_0 : r_2_2_0.fgrade ≠ true) (And.intro (neT hb_3_0 : r_2_2_0.fgrade ≠ true) (And.intro (neT hb_3_0 : r_2_2_0.fgrade ≠ true) (And.intro hb_3_0 trivial)))) (by kernel_rfl) (by kernel_rfl) ?_
        obtain rfl := Option.some.inj h
        exact Into.mk
    · clear hj_2
      refine seqQ_norm ?_
      obtain ⟨n_4, hj_5, h⟩ := bsome h
      refine Wp.into (x := .normal) (mkS [(1, .ra 1 0), (3, .int .i64 n_4)] [(1, .box [.int .i64 t0.fOp, .int .i64 t0.fN, .sl (List.map I t0.fType), .sl (List.map GTerm_S t0.fKids)])]) ?_ ?_
      · replace h := hj_5
        rcases itesome h with ⟨hb_3, h⟩ | ⟨hb_3, h⟩
        · refine Wp.condT (b := v_1) (by kernel_rfl) (by kernel_rfl) hb_3 ?_
          refine Wp.reg tiok mix hc (by kernel_rfl) (ah := none) (rs := [some (.no), some (.no), some (.no)]) (kt := [1, 3]) (ko := [1]) (T' := [(1, .ra 1 0), (3, .int .i64 (wr (0 + 1)))]) (O' := [(1, .box [.int .i64 t0.fOp, .int .i64 t0.fN, .sl (List.map I t0.fType), .sl (List.map GTerm_S t0.fKids)])]) (by kernel_rfl) trivial (by kernel_rfl) (by kernel_rfl) ?_
          obtain rfl := Option.some.inj h
          exact Into.mk
        · refine Wp.condF (b := v_1) (by kernel_rfl) (by kernel_rfl) hb_3 ?_
          refine Wp.skipN (by kernel_rfl) ?_
          obtain rfl := Option.some.inj h
          exact Into.view (fun a w hv => SRx.renL [] hv (by kernel_rfl) (by kernel_rfl) (by kernel_rfl))
      · clear hj_5
        refine seqQ_norm ?_
        refine Wp.seqN (by kernel_rfl) ?_
        refine Wp.seqN (by kernel_rfl) ?_
        refine Wp.reg tiok mix hc (by kernel_rfl) (ah := none) (rs := [some (.no), some (.no), some (.eqv (.no) ⟨[(27, .int .i64 (t0.fType.length : Int))], [], []⟩), some (.no)]) (kt := [1, 3, 26, 27, 28]) (ko := [1]) (T' := [(1, .ra 1 0), (3, .int .i64 n_4), (26, .sl (List.map I t0.fType)), (27, .int .i64 (t0.fType.length : Int)), (28, .int .i64 0)]) (O' := [(1, .box [.int .i64 t0.fOp, .int .i64 t0.fN, .sl (List.map I t0.fType), .sl (List.map GTerm_S t0.fKids)])]) (by kernel_rfl) (And.intro (lenT (d := 27) I t0.fType) trivial) (by kernel_rfl) (by kernel_rfl) ?_
        refine seqQ_norm ?_
        refine Wp.blockN (i := 0) (by kernel_rfl) ?_
        obtain ⟨n_16, hl_17, h⟩ := bsome h
        have hL := impl_countOpen_l0_s _ _ hl_17 c hc
        refine Wp.loopN (by kernel_rfl) ?_
        · refine WpL.into (e := (.exit 0)) (mkS [(1, .ra 1 0), (3, .int .i64 n_16)] [(1, .box [.int .i64 t0.fOp, .int .i64 t0.fN, .sl (List.map I t0.fType), .sl (List.map GTerm_S t0.fKids)])]) hL ?_
          refine blockQ_hit ?_
          refine seqQ_norm ?_
          refine Wp.seqN (by kernel_rfl) ?_
          refine Wp.seqN (by kernel_rfl) ?_
          refine Wp.reg tiok mix hc (by kernel_rfl) (ah := none) (rs := [some (.no), some (.no), some (.eqv (.no) ⟨[(39, .int .i64 (t0.fKids.length : Int))], [], []⟩), some (.no)]) (kt := [3, 38, 39, 40]) (ko := []) (T' := [(3, .int .i64 n_16), (38, .sl (List.map GTerm_S t0.fKids)), (39, .int .i64 (t0.fKids.length : Int)), (40, .int .i64 0)]) (O' := []) (by kernel_rfl) (And.intro (lenT (d := 39) GTerm_S t0.fKids) trivial) (by kernel_rfl) (by kernel_rfl) ?_
          refine seqQ_norm ?_
          refine Wp.blockN (i := 2) (by kernel_rfl) ?_
          obtain ⟨n_22, hl_23, h⟩ := bsome h
          have hL := impl_countOpen_l1_ih _ _ hl_23 c hc
          refine Wp.loopN (by kernel_rfl) ?_
          · refine WpL.into (e := (.exit 2)) (mkS [(3, .int .i64 n_22)] []) hL ?_
            refine blockQ_hit ?_
            refine seqQ_norm ?_
            refine Wp.seqN (by kernel_rfl) ?_
            refine Wp.reg tiok mix hc (by kernel_rfl) (ah := none) (rs := [some (.no), some (.no)]) (kt := [2]) (ko := []) (T' := [(2, .int .i64 n_22)]) (O' := []) (by kernel_rfl) trivial (by kernel_rfl) (by kernel_rfl) ?_
            refine seqQ_norm ?_
            refine Wp.retN (by kernel_rfl) ?_
            obtain rfl := Option.some.inj h
            exact RetQ.ret (fl := [true]) (by kernel_rfl)
  · rintro impl_countOpen_f impl_countOpen_l1_f impl_countOpen_ih impl_countOpen_l1_ih ⟨t0, n_19, w_20⟩ r h
    intro c hc
    show WpL Try.prog c (cl (cl (cr (cl (cr (cr (cr (cr B62)))))))) (impl_countOpen_F2 c r) (mkS [(3, .int .i64 n_19), (38, .sl (List.map GTerm_S t0.fKids)), (39, .int .i64 (t0.fKids.length : Int)), (40, .int .i64 w_20)] [])
    refine WpL.step ?_
    refine Wp.seqN (by kernel_rfl) ?_
    refine Wp.reg tiok mix hc (by kernel_rfl) (ah := none) (rs := [some (.no)]) (kt := [3, 38, 39, 40, 41]) (ko := []) (T' := [(3, .int .i64 n_19), (38, .sl (List.map GTerm_S t0.fKids)), (39, .int .i64 (t0.fKids.length : Int)), (40, .int .i64 w_20), (41, .bool (decide (w_20 < (t0.fKids.length : Int))))]) (O' := []) (by kernel_rfl) trivial (by kernel_rfl) (by kernel_rfl) ?_
    refine seqQ_norm ?_
    refine Wp.seqN (by kernel_rfl) ?_
    rcases itesome h with ⟨hb_21, h⟩ | ⟨hb_21, h⟩
    · refine Wp.condT (b := (decide (w_20 < (t0.fKids.length : Int)))) (by kernel_rfl) (by kernel_rfl) hb_21 ?_
      refine Wp.skipN (by kernel_rfl) ?_
      refine seqQ_norm ?_
      refine Wp.seqN (by kernel_rfl) ?_
      refine Wp.blockN (i := 3) (by kernel_rfl) ?_
      refine Wp.seqN (by kernel_rfl) ?_
      obtain ⟨e_13_0, hi_13_0, h⟩ := bsome h
      refine Wp.reg tiok mix hc (by kernel_rfl) (ah := none) (rs := [some (.el (.agg [.int .i64 e_13_0.fOp, .int .i64 e_13_0.fN, .sl (List.map I e_13_0.fType), .sl (List.map GTerm_S e_13_0.fKids)])), some (.no), some (.new 4), some (.no)]) (kt := [3, 9, 38, 39, 40]) (ko := [4]) (T' := [(3, .int .i64 n_19), (9, .ra 4 0), (38, .sl (List.map GTerm_S t0.fKids)), (39, .int .i64 (t0.fKids.length : Int)), (40, .int .i64 w_20)]) (O' := [(4, .box [.int .i64 e_13_0.fOp, .int .i64 e_13_0.fN, .sl (List.map I e_13_0.fType), .sl (List.map GTerm_S e_13_0.fKids)])]) (by kernel_rfl) (And.intro (idx_sl (enc := GTerm_S) (x := .agg [.int .i64 e_13_0.fOp, .int .i64 e_13_0.fN, .sl (List.map I e_13_0.fType), .sl (List.map GTerm_S e_13_0.fKids)]) hi_13_0 (eq_GTerm_S e_13_0)) trivial) (by kernel_rfl) (by kernel_rfl) ?_
      refine seqQ_norm ?_
      obtain ⟨r_14_2, hr_14_2, h⟩ := bsome h
      refine Wp.reg tiok mix hc (by kernel_rfl) (ah := none) (rs := [some (.no), some (.no), some (.call (.int .i64 r_14_2) [] 1), some (.no), some (.no)]) (kt := [3, 38, 39, 40]) (ko := []) (T' := [(3, .int .i64 (wr (n_19 + r_14_2))), (38, .sl (List.map GTerm_S t0.fKids)), (39, .int .i64 (t0.fKids.length : Int)), (40, .int .i64 w_20)]) (O' := []) (by kernel_rfl) (And.intro (impl_countOpen_ih _ _ hr_14_2) (And.intro bod_62 (And.intro (Or.inl rfl : ([] : List Nat) = [] ∨ noSh (.int .i64 r_14_2) = true) trivial))) (by kernel_rfl) (by kernel_rfl) ?_
      refine blockQ_norm ?_
      refine seqQ_norm ?_
      refine Wp.reg tiok mix hc (by kernel_rfl) (ah := none) (rs := [some (.no), some (.no)]) (kt := [3, 38, 39, 40]) (ko := []) (T' := [(3, .int .i64 (wr (n_19 + r_14_2))), (38, .sl (List.map GTerm_S t0.fKids)), (39, .int .i64 (t0.fKids.length : Int)), (40, .int .i64 (wr (w_20 + 1)))]) (O' := []) (by kernel_rfl) trivial (by kernel_rfl) (by kernel_rfl) ?_
      refine loopQ_norm ?_
      exact (impl_countOpen_l1_ih _ _ h c hc)
    · refine Wp.condF (b := (decide (w_20 < (t0.fKids.length : Int)))) (by kernel_rfl) (by kernel_rfl) hb_21 ?_
      refine Wp.exitN (i := 2) (by kernel_rfl) ?_
      refine seqQ_exit ?_
      refine loopQ_exit ?_
      obtain rfl := Option.some.inj h
      exact Into.view (fun a w hv => SRx.renL [] hv (by kernel_rfl) (by kernel_rfl) (by kernel_rfl))
theorem impl_countOpen_s : ∀ p r, impl_countOpen p = some r → M_impl_countOpen p r := impl_countOpen_all.1
theorem impl_countOpen_l1_s : ∀ p r, impl_countOpen_l1 p = some r → M_impl_countOpen_l1 p r := impl_countOpen_all.2
def impl_CountOpen (t0 : GTerm) : Option (Int) :=
    (impl_IsWritten t0) >>= fun r_1_1 =>
    if r_1_1 = true then
      (impl_countOpen t0) >>= fun r_3_1 =>
      some r_3_1
    else
      some (-1)
def M_impl_CountOpen (t0 : GTerm) (r : Int) : Prop :=
  FnSound Try.prog 22 [.agg [.int .i64 t0.fOp, .int .i64 t0.fN, .sl (List.map I t0.fType), .sl (List.map GTerm_S t0.fKids)]] (.int .i64 r) []
theorem impl_CountOpen_s : ∀ p r, impl_CountOpen p = some r → M_impl_CountOpen p r := by
  rintro t0 r h
  unfold impl_CountOpen at h
  show FnSound Try.prog 22 [.agg [.int .i64 t0.fOp, .int .i64 t0.fN, .sl (List.map I t0.fType), .sl (List.map GTerm_S t0.fKids)]] (.int .i64 r) []
  refine FnSound.body0 tiok (fn := Try.f22) (code := B22) (by kernel_rfl) (by kernel_rfl) (by kernel_rfl) (by kernel_rfl) (nt := 8) (by kernel_rfl) (by kernel_rfl) (T := [(0, .agg [.int .i64 t0.fOp, .int .i64 t0.fN, .sl (List.map I t0.fType), .sl (List.map GTerm_S t0.fKids)])]) (O := []) (by kernel_rfl) (by kernel_rfl) (fun c hc => ?_)
  refine Wp.seqN (by kernel_rfl) ?_
  refine Wp.reg tiok mix hc (by kernel_rfl) (ah := none) (rs := [some (.new 1), some (.no)]) (kt := [1]) (ko := [1]) (T' := [(1, .ra 1 0)]) (O' := [(1, .box [.int .i64 t0.fOp, .int .i64 t0.fN, .sl (List.map I t0.fType), .sl (List.map GTerm_S t0.fKids)])]) (by kernel_rfl) trivial (by kernel_rfl) (by kernel_rfl) ?_
  refine seqQ_norm ?_
  refine Wp.seqN (by kernel_rfl) ?_
  refine Wp.seqN (by kernel_rfl) ?_
  obtain ⟨r_1_1, hr_1_1, h⟩ := bsome h
  refine Wp.reg tiok mix hc (by kernel_rfl) (ah := none) (rs := [some (.no), some (.call (.bool r_1_1) [] 1), some (.no)]) (kt := [1, 5]) (ko := [1]) (T' := [(1, .ra 1 0), (5, .bool (!r_1_1))]) (O' := [(1, .box [.int .i64 t0.fOp, .int .i64 t0.fN, .sl (List.map I t0.fType), .sl (List.map GTerm_S t0.fKids)])]) (by kernel_rfl) (And.intro (impl_IsWritten_s _ _ hr_1_1) (And.intro bod_61 (And.intro (Or.inl rfl : ([] : List Nat) = [] ∨ noSh (.bool r_1_1) = true) trivial))) (by kernel_rfl) (by kernel_rfl) ?_
  refine seqQ_norm ?_
  rcases itesome h with ⟨hb_1, h⟩ | ⟨hb_1, h⟩
  · refine Wp.condF (b := (!r_1_1)) (by kernel_rfl) (by kernel_rfl) (nF hb_1) ?_
    refine Wp.skipN (by kernel_rfl) ?_
    refine seqQ_norm ?_
    refine Wp.seqN (by kernel_rfl) ?_
    obtain ⟨r_3_1, hr_3_1, h⟩ := bsome h
    refine Wp.reg tiok mix hc (by kernel_rfl) (ah := none) (rs := [some (.no), some (.call (.int .i64 r_3_1) [] 1), some (.no)]) (kt := [2]) (ko := []) (T' := [(2, .int .i64 r_3_1)]) (O' := []) (by kernel_rfl) (And.intro (impl_countOpen_s _ _ hr_3_1) (And.intro bod_62 (And.intro (Or.inl rfl : ([] : List Nat) = [] ∨ noSh (.int .i64 r_3_1) = true) trivial))) (by kernel_rfl) (by kernel_rfl) ?_
    refine seqQ_norm ?_
    refine Wp.retN (by kernel_rfl) ?_
    obtain rfl := Option.some.inj h
    exact RetQ.ret (fl := [true]) (by kernel_rfl)
  · refine Wp.condT (b := (!r_1_1)) (by kernel_rfl) (by kernel_rfl) (nT hb_1) ?_
    refine Wp.seqN (by kernel_rfl) ?_
    refine Wp.reg tiok mix hc (by kernel_rfl) (ah := none) (rs := [some (.no)]) (kt := [2]) (ko := []) (T' := [(2, .int .i64 (-1))]) (O' := []) (by kernel_rfl) trivial (by kernel_rfl) (by kernel_rfl) ?_
    refine seqQ_norm ?_
    refine Wp.retN (by kernel_rfl) ?_
    refine seqQ_ret ?_
    obtain rfl := Option.some.inj h
    exact RetQ.ret (fl := [true]) (by kernel_rfl)
def laws_eqIntS_F1 (c : Ctx) : (Unit) ⊕ (Bool) → Exit → AState → Prop
  | .inl _ => Into c (.exit 0) (mkS [] [])
  | .inr r => RetE TIx Try.f29 [] (.bool r)
def laws_eqIntS_l0 (p : (List Int) × (List Int) × Int) : Option ((Unit) ⊕ (Bool)) :=
  match p with
  | (a0, b1, i_4) =>
    if (decide (i_4 < (a0.length : Int))) = true then
      (idx a0 i_4) >>= fun e_6_2 =>
      (idx b1 i_4) >>= fun e_6_6 =>
      if (e_6_2 != e_6_6) = true then
        some (.inr false)
      else
        laws_eqIntS_l0 (a0, b1, (wr (i_4 + 1)))
    else
      some (.inl ())
  partial_fixpoint
def M_laws_eqIntS_l0 (p : (List Int) × (List Int) × Int) (fl : (Unit) ⊕ (Bool)) : Prop :=
  match p with
  | (a0, b1, i_4) => ∀ c : Ctx, c.nt = 26 → WpL Try.prog c (cl (cl (cr (cl (cr (cr B29)))))) (laws_eqIntS_F1 c fl) (mkS [(0, .sl (List.map I a0)), (1, .sl (List.map I b1)), (5, .int .i64 i_4)] [])
theorem laws_eqIntS_l0_s : ∀ p r, laws_eqIntS_l0 p = some r → M_laws_eqIntS_l0 p r := by
  refine laws_eqIntS_l0.partial_correctness M_laws_eqIntS_l0 ?_
  rintro laws_eqIntS_l0_f laws_eqIntS_l0_ih ⟨a0, b1, i_4⟩ r h
  intro c hc
  show WpL Try.prog c (cl (cl (cr (cl (cr (cr B29)))))) (laws_eqIntS_F1 c r) (mkS [(0, .sl (List.map I a0)), (1, .sl (List.map I b1)), (5, .int .i64 i_4)] [])
  refine WpL.step ?_
  refine Wp.seqN (by kernel_rfl) ?_
  refine Wp.seqN (by kernel_rfl) ?_
  refine Wp.reg tiok mix hc (by kernel_rfl) (ah := none) (rs := [some (.no), some (.no), some (.eqv (.no) ⟨[(13, .int .i64 (a0.length : Int))], [], []⟩), some (.no)]) (kt := [0, 1, 5, 14]) (ko := []) (T' := [(0, .sl (List.map I a0)), (1, .sl (List.map I b1)), (5, .int .i64 i_4), (14, .bool (decide (i_4 < (a0.length : Int))))]) (O' := []) (by kernel_rfl) (And.intro (lenT (d := 13) I a0) trivial) (by kernel_rfl) (by kernel_rfl) ?_
  refine seqQ_norm ?_
  rcases itesome h with ⟨hb_5, h⟩ | ⟨hb_5, h⟩
  · refine Wp.condT (b := (decide (i_4 < (a0.length : Int)))) (by kernel_rfl) (by kernel_rfl) hb_5 ?_
    refine Wp.skipN (by kernel_rfl) ?_
    refine seqQ_norm ?_
    refine Wp.seqN (by kernel_rfl) ?_
    refine Wp.blockN (i := 1) (by kernel_rfl) ?_
    refine Wp.seqN (by kernel_rfl) ?_
    obtain ⟨e_6_2, hi_6_2, h⟩ := bsome h
    obtain ⟨e_6_6, hi_6_6, h⟩ := bsome h
    refine Wp.reg tiok mix hc (by kernel_rfl) (ah := (some [[], [], [0, 1], [0, 1, 2], [], [], [4, 5], [4, 5, 6], [0, 1, 2, 3, 4, 5, 6, 7]])) (rs := [some (.no), some (.no), some (.el (.int .i64 e_6_2)), some (.no), some (.no), some (.no), some (.el (.int .i64 e_6_6)), some (.no), some (.no)]) (kt := [0, 1, 5, 25]) (ko := []) (T' := [(0, .sl (List.map I a0)), (1, .sl (List.map I b1)), (5, .int .i64 i_4), (25, .bool (e_6_2 != e_6_6))]) (O' := []) (by kernel_rfl) (And.intro (idx_sl (enc := I) (x := .int .i64 e_6_2) hi_6_2 (eq_I e_6_2)) (And.intro (idx_sl (enc := I) (x := .int .i64 e_6_6) hi_6_6 (eq_I e_6_6)) trivial)) (by kernel_rfl) (by kernel_rfl) ?_
    refine seqQ_norm ?_
    rcases itesome h with ⟨hb_6, h⟩ | ⟨hb_6, h⟩
    · refine Wp.condT (b := (e_6_2 != e_6_6)) (by kernel_rfl) (by kernel_rfl) hb_6 ?_
      refine Wp.seqN (by kernel_rfl) ?_
      refine Wp.reg tiok mix hc (by kernel_rfl) (ah := none) (rs := [some (.no)]) (kt := [4]) (ko := []) (T' := [(4, .bool false)]) (O' := []) (by kernel_rfl) trivial (by kernel_rfl) (by kernel_rfl) ?_
      refine seqQ_norm ?_
      refine Wp.retN (by kernel_rfl) ?_
      refine blockQ_ret ?_
      refine seqQ_ret ?_
      refine loopQ_ret ?_
      obtain rfl := Option.some.inj h
      exact RetE.ret (fl := [true]) (by kernel_rfl)
    · refine Wp.condF (b := (e_6_2 != e_6_6)) (by kernel_rfl) (by kernel_rfl) hb_6 ?_
      refine Wp.skipN (by kernel_rfl) ?_
      refine blockQ_norm ?_
      refine seqQ_norm ?_
      refine Wp.reg tiok mix hc (by kernel_rfl) (ah := none) (rs := [some (.no), some (.no), some (.no)]) (kt := [0, 1, 5]) (ko := []) (T' := [(0, .sl (List.map I a0)), (1, .sl (List.map I b1)), (5, .int .i64 (wr (i_4 + 1)))]) (O' := []) (by kernel_rfl) trivial (by kernel_rfl) (by kernel_rfl) ?_
      refine loopQ_norm ?_
      exact (laws_eqIntS_l0_ih _ _ h c hc)
  · refine Wp.condF (b := (decide (i_4 < (a0.length : Int)))) (by kernel_rfl) (by kernel_rfl) hb_5 ?_
    refine Wp.exitN (i := 0) (by kernel_rfl) ?_
    refine seqQ_exit ?_
    refine loopQ_exit ?_
    obtain rfl := Option.some.inj h
    exact Into.view (fun a w hv => SRx.renL [] hv (by kernel_rfl) (by kernel_rfl) (by kernel_rfl))
def laws_eqIntS (p : (List Int) × (List Int)) : Option (Bool) :=
  match p with
  | (a0, b1) =>
    if ((a0.length : Int) != (b1.length : Int)) = true then
      some false
    else
      (laws_eqIntS_l0 (a0, b1, 0)) >>= fun fl => match fl with
      | .inl () =>
        some true
      | .inr r =>
        some r
def M_laws_eqIntS (p : (List Int) × (List Int)) (r : Bool) : Prop :=
  match p with
  | (a0, b1) => FnSound Try.prog 29 [.sl (List.map I a0), .sl (List.map I b1)] (.bool r) []
theorem laws_eqIntS_s : ∀ p r, laws_eqIntS p = some r → M_laws_eqIntS p r := by
  rintro ⟨a0, b1⟩ r h
  unfold laws_eqIntS at h
  show FnSound Try.prog 29 [.sl (List.map I a0), .sl (List.map I b1)] (.bool r) []
  refine FnSound.body0 tiok (fn := Try.f29) (code := B29) (by kernel_rfl) (by kernel_rfl) (by kernel_rfl) (by kernel_rfl) (nt := 26) (by kernel_rfl) (by kernel_rfl) (T := [(0, .sl (List.map I a0)), (1, .sl (List.map I b1))]) (O := []) (by kernel_rfl) (by kernel_rfl) (fun c hc => ?_)
  refine Wp.seqN (by kernel_rfl) ?_
  refine Wp.reg tiok mix hc (by kernel_rfl) (ah := none) (rs := [some (.no)]) (kt := [0, 1]) (ko := []) (T' := [(0, .sl (List.map I a0)), (1, .sl (List.map I b1))]) (O' := []) (by kernel_rfl) trivial (by kernel_rfl) (by kernel_rfl) ?_
  refine seqQ_norm ?_
  refine Wp.seqN (by kernel_rfl) ?_
  refine Wp.seqN (by kernel_rfl) ?_
  refine Wp.reg tiok mix hc (by kernel_rfl) (ah := none) (rs := [some (.no), some (.eqv (.no) ⟨[(7, .int .i64 (a0.length : Int))], [], []⟩), some (.no), some (.eqv (.no) ⟨[(9, .int .i64 (b1.length : Int))], [], []⟩), some (.no)]) (kt := [0, 1, 10]) (ko := []) (T' := [(0, .sl (List.map I a0)), (1, .sl (List.map I b1)), (10, .bool ((a0.length : Int) != (b1.length : Int)))]) (O' := []) (by kernel_rfl) (And.intro (lenT (d := 7) I a0) (And.intro (lenT (d := 9) I b1) trivial)) (by kernel_rfl) (by kernel_rfl) ?_
  refine seqQ_norm ?_
  rcases itesome h with ⟨hb_1, h⟩ | ⟨hb_1, h⟩
  · refine Wp.condT (b := ((a0.length : Int) != (b1.length : Int))) (by kernel_rfl) (by kernel_rfl) hb_1 ?_
    refine Wp.seqN (by kernel_rfl) ?_
    refine Wp.reg tiok mix hc (by kernel_rfl) (ah := none) (rs := [some (.no)]) (kt := [4]) (ko := []) (T' := [(4, .bool false)]) (O' := []) (by kernel_rfl) trivial (by kernel_rfl) (by kernel_rfl) ?_
    refine seqQ_norm ?_
    refine Wp.retN (by kernel_rfl) ?_
    refine seqQ_ret ?_
    obtain rfl := Option.some.inj h
    exact RetQ.ret (fl := [true]) (by kernel_rfl)
  · refine Wp.condF (b := ((a0.length : Int) != (b1.length : Int))) (by kernel_rfl) (by kernel_rfl) hb_1 ?_
    refine Wp.skipN (by kernel_rfl) ?_
    refine seqQ_norm ?_
    refine Wp.seqN (by kernel_rfl) ?_
    refine Wp.seqN (by kernel_rfl) ?_
    refine Wp.reg tiok mix hc (by kernel_rfl) (ah := none) (rs := [some (.no)]) (kt := [0, 1, 5]) (ko := []) (T' := [(0, .sl (List.map I a0)), (1, .sl (List.map I b1)), (5, .int .i64 0)]) (O' := []) (by kernel_rfl) trivial (by kernel_rfl) (by kernel_rfl) ?_
    refine seqQ_norm ?_
    refine Wp.blockN (i := 0) (by kernel_rfl) ?_
    obtain ⟨fl, hl_7, h⟩ := bsome h
    have hL := laws_eqIntS_l0_s _ _ hl_7 c hc
    refine Wp.loopN (by kernel_rfl) ?_
    rcases fl with ⟨⟩ | r
    · refine WpL.into (e := (.exit 0)) (mkS [] []) hL ?_
      refine blockQ_hit ?_
      refine seqQ_norm ?_
      refine Wp.seqN (by kernel_rfl) ?_
      refine Wp.reg tiok mix hc (by kernel_rfl) (ah := none) (rs := [some (.no)]) (kt := [4]) (ko := []) (T' := [(4, .bool true)]) (O' := []) (by kernel_rfl) trivial (by kernel_rfl) (by kernel_rfl) ?_
      refine seqQ_norm ?_
      refine Wp.retN (by kernel_rfl) ?_
      obtain rfl := Option.some.inj h
      exact RetQ.ret (fl := [true]) (by kernel_rfl)
    · refine WpL.mono hL ?_
      rintro _ _ ⟨rfl, hfin⟩
      refine blockQ_ret ?_
      refine seqQ_ret ?_
      obtain rfl := Option.some.inj h
      exact ⟨.inl rfl, hfin⟩
def laws_eqTermS_F1 (c : Ctx) : (Unit) ⊕ (Bool) → Exit → AState → Prop
  | .inl _ => Into c (.exit 0) (mkS [] [])
  | .inr r => RetE TIx Try.f63 [] (.bool r)
mutual
def laws_eqTerm (p : GTerm × GTerm) : Option (Bool) :=
  match p with
  | (a0, b1) =>
    if (a0.fOp != b1.fOp) = true then
      some false
    else
      if (a0.fN != b1.fN) = true then
        some false
      else
        (laws_eqIntS (a0.fType, b1.fType)) >>= fun r_5_4 =>
        if r_5_4 = true then
          (laws_eqTermS (a0.fKids, b1.fKids)) >>= fun r_7_4 =>
          if r_7_4 = true then
            some true
          else
            some false
        else
          some false
  partial_fixpoint
def laws_eqTermS (p : (List GTerm) × (List GTerm)) : Option (Bool) :=
  match p with
  | (a0, b1) =>
    if ((a0.length : Int) != (b1.length : Int)) = true then
      some false
    else
      (laws_eqTermS_l0 (a0, b1, 0)) >>= fun fl => match fl with
      | .inl () =>
        some true
      | .inr r =>
        some r
  partial_fixpoint
def laws_eqTermS_l0 (p : (List GTerm) × (List GTerm) × Int) : Option ((Unit) ⊕ (Bool)) :=
  match p with
  | (a0, b1, i_4) =>
    if (decide (i_4 < (a0.length : Int))) = true then
      (idx a0 i_4) >>= fun e_6_2 =>
      (idx b1 i_4) >>= fun e_6_6 =>
      (laws_eqTerm (e_6_2, e_6_6)) >>= fun r_6_8 =>
      if r_6_8 = true then
        laws_eqTermS_l0 (a0, b1, (wr (i_4 + 1)))
      else
        some (.inr false)
    else
      some (.inl ())
  partial_fixpoint
end
def M_laws_eqTerm (p : GTerm × GTerm) (r : Bool) : Prop :=
  match p with
  | (a0, b1) => FnSound Try.prog 23 [.agg [.int .i64 a0.fOp, .int .i64 a0.fN, .sl (List.map I a0.fType), .sl (List.map GTerm_S a0.fKids)], .agg [.int .i64 b1.fOp, .int .i64 b1.fN, .sl (List.map I b1.fType), .sl (List.map GTerm_S b1.fKids)]] (.bool r) []
def M_laws_eqTermS (p : (List GTerm) × (List GTerm)) (r : Bool) : Prop :=
  match p with
  | (a0, b1) => FnSound Try.prog 63 [.sl (List.map GTerm_S a0), .sl (List.map GTerm_S b1)] (.bool r) []
def M_laws_eqTermS_l0 (p : (List GTerm) × (List GTerm) × Int) (fl : (Unit) ⊕ (Bool)) : Prop :=
  match p with
  | (a0, b1, i_4) => ∀ c : Ctx, c.nt = 27 → WpL Try.prog c (cl (cl (cr (cl (cr (cr B63)))))) (laws_eqTermS_F1 c fl) (mkS [(0, .sl (List.map GTerm_S a0)), (1, .sl (List.map GTerm_S b1)), (5, .int .i64 i_4)] [])
theorem laws_eqTerm_all : (∀ p r, laws_eqTerm p = some r → M_laws_eqTerm p r) ∧ (∀ p r, laws_eqTermS p = some r → M_laws_eqTermS p r) ∧ (∀ p r, laws_eqTermS_l0 p = some r → M_laws_eqTermS_l0 p r) := by
  refine laws_eqTerm.mutual_partial_correctness M_laws_eqTerm M_laws_eqTermS M_laws_eqTermS_l0 ?_ ?_ ?_
  · rintro laws_eqTermS_f laws_eqTermS_ih ⟨a0, b1⟩ r h
    show FnSound Try.prog 23 [.agg [.int .i64 a0.fOp, .int .i64 a0.fN, .sl (List.map I a0.fType), .sl (List.map GTerm_S a0.fKids)], .agg [.int .i64 b1.fOp, .int .i64 b1.fN, .sl (List.map I b1.fType), .sl (List.map GTerm_S b1.fKids)]] (.bool r) []
    refine FnSound.body0 tiok (fn := Try.f23) (code := B23) (by kernel_rfl) (by kernel_rfl) (by kernel_rfl) (by kernel_rfl) (nt := 27) (by kernel_rfl) (by kernel_rfl) (T := [(0, .agg [.int .i64 a0.fOp, .int .i64 a0.fN, .sl (List.map I a0.fType), .sl (List.map GTerm_S a0.fKids)]), (1, .agg [.int .i64 b1.fOp, .int .i64 b1.fN, .sl (List.map I b1.fType), .sl (List.map GTerm_S b1.fKids)])]) (O := []) (by kernel_rfl) (by kernel_rfl) (fun c hc => ?_)
    refine Wp.seqN (by kernel_rfl) ?_
    refine Wp.reg tiok mix hc (by kernel_rfl) (ah := none) (rs := [some (.new 1), some (.new 2), some (.no)]) (kt := [2, 3]) (ko := [1, 2]) (T' := [(2, .ra 1 0), (3, .ra 2 0)]) (O' := [(1, .box [.int .i64 a0.fOp, .int .i64 a0.fN, .sl (List.map I a0.fType), .sl (List.map GTerm_S a0.fKids)]), (2, .box [.int .i64 b1.fOp, .int .i64 b1.fN, .sl (List.map I b1.fType), .sl (List.map GTerm_S b1.fKids)])]) (by kernel_rfl) trivial (by kernel_rfl) (by kernel_rfl) ?_
    refine seqQ_norm ?_
    refine Wp.seqN (by kernel_rfl) ?_
    refine Wp.seqN (by kernel_rfl) ?_
    refine Wp.reg tiok mix hc (by kernel_rfl) (ah := none) (rs := [some (.no), some (.no), some (.no), some (.no), some (.no)]) (kt := [2, 3, 9]) (ko := [1, 2]) (T' := [(2, .ra 1 0), (3, .ra 2 0), (9, .bool (a0.fOp != b1.fOp))]) (O' := [(1, .box [.int .i64 a0.fOp, .int .i64 a0.fN, .sl (List.map I a0.fType), .sl (List.map GTerm_S a0.fKids)]), (2, .box [.int .i64 b1.fOp, .int .i64 b1.fN, .sl (List.map I b1.fType), .sl (List.map GTerm_S b1.fKids)])]) (by kernel_rfl) trivial (by kernel_rfl) (by kernel_rfl) ?_
    refine seqQ_norm ?_
    rcases itesome h with ⟨hb_1, h⟩ | ⟨hb_1, h⟩
    · refine Wp.condT (b := (a0.fOp != b1.fOp)) (by kernel_rfl) (by kernel_rfl) hb_1 ?_
      refine Wp.seqN (by kernel_rfl) ?_
      refine Wp.reg tiok mix hc (by kernel_rfl) (ah := none) (rs := [some (.no)]) (kt := [4]) (ko := []) (T' := [(4, .bool false)]) (O' := []) (by kernel_rfl) trivial (by kernel_rfl) (by kernel_rfl) ?_
      refine seqQ_norm ?_
      refine Wp.retN (by kernel_rfl) ?_
      refine seqQ_ret ?_
      obtain rfl := Option.some.inj h
      exact RetQ.ret (fl := [true]) (by kernel_rfl)
    · refine Wp.condF (b := (a0.fOp != b1.fOp)) (by kernel_rfl) (by kernel_rfl) hb_1 ?_
      refine Wp.skipN (by kernel_rfl) ?_
      refine seqQ_norm ?_
      refine Wp.seqN (by kernel_rfl) ?_
      refine Wp.seqN (by kernel_rfl) ?_
      refine Wp.reg tiok mix hc (by kernel_rfl) (ah := none) (rs := [some (.no), some (.no), some (.no), some (.no), some (.no)]) (kt := [2, 3, 14]) (ko := [1, 2]) (T' := [(2, .ra 1 0), (3, .ra 2 0), (14, .bool (a0.fN != b1.fN))]) (O' := [(1, .box [.int .i64 a0.fOp, .int .i64 a0.fN, .sl (List.map I a0.fType), .sl (List.map GTerm_S a0.fKids)]), (2, .box [.int .i64 b1.fOp, .int .i64 b1.fN, .sl (List.map I b1.fType), .sl (List.map GTerm_S b1.fKids)])]) (by kernel_rfl) trivial (by kernel_rfl) (by kernel_rfl) ?_
      refine seqQ_norm ?_
      rcases itesome h with ⟨hb_2, h⟩ | ⟨hb_2, h⟩
      · refine Wp.condT (b := (a0.fN != b1.fN)) (by kernel_rfl) (by kernel_rfl) hb_2 ?_
        refine Wp.seqN (by kernel_rfl) ?_
        refine Wp.reg tiok mix hc (by kernel_rfl) (ah := none) (rs := [some (.no)]) (kt := [4]) (ko := []) (T' := [(4, .bool false)]) (O' := []) (by kernel_rfl) trivial (by kernel_rfl) (by kernel_rfl) ?_
        refine seqQ_norm ?_
        refine Wp.retN (by kernel_rfl) ?_
        refine seqQ_ret ?_
        obtain rfl := Option.some.inj h
        exact RetQ.ret (fl := [true]) (by kernel_rfl)
      · refine Wp.condF (b := (a0.fN != b1.fN)) (by kernel_rfl) (by kernel_rfl) hb_2 ?_
        refine Wp.skipN (by kernel_rfl) ?_
        refine seqQ_norm ?_
        refine Wp.seqN (by kernel_rfl) ?_
        refine Wp.seqN (by kernel_rfl) ?_
        obtain ⟨r_5_4, hr_5_4, h⟩ := bsome h
        refine Wp.reg tiok mix hc (by kernel_rfl) (ah := none) (rs := [some (.no), some (.no), some (.no), some (.no), some (.call (.bool r_5_4) [] 1), some (.no)]) (kt := [2, 3, 20]) (ko := [1, 2]) (T' := [(2, .ra 1 0), (3, .ra 2 0), (20, .bool (!r_5_4))]) (O' := [(1, .box [.int .i64 a0.fOp, .int .i64 a0.fN, .sl (List.map I a0.fType), .sl (List.map GTerm_S a0.fKids)]), (2, .box [.int .i64 b1.fOp, .int .i64 b1.fN, .sl (List.map I b1.fType), .sl (List.map GTerm_S b1.fKids)])]) (by kernel_rfl) (And.intro (laws_eqIntS_s _ _ hr_5_4) (And.intro bod_29 (And.intro (Or.inl rfl : ([] : List Nat) = [] ∨ noSh (.bool r_5_4) = true) trivial))) (by kernel_rfl) (by kernel_rfl) ?_
        refine seqQ_norm ?_
        rcases itesome h with ⟨hb_3, h⟩ | ⟨hb_3, h⟩
        · refine Wp.condF (b := (!r_5_4)) (by kernel_rfl) (by kernel_rfl) (nF hb_3) ?_
          refine Wp.skipN (by kernel_rfl) ?_
          refine seqQ_norm ?_
          refine Wp.seqN (by kernel_rfl) ?_
          refine Wp.seqN (by kernel_rfl) ?_
          obtain ⟨r_7_4, hr_7_4, h⟩ := bsome h
          refine Wp.reg tiok mix hc (by kernel_rfl) (ah := none) (rs := [some (.no), some (.no), some (.no), some (.no), some (.call (.bool r_7_4) [] 1), some (.no)]) (kt := [26]) (ko := []) (T' := [(26, .bool (!r_7_4))]) (O' := []) (by kernel_rfl) (And.intro (laws_eqTermS_ih _ _ hr_7_4) (And.intro bod_63 (And.intro (Or.inl rfl : ([] : List Nat) = [] ∨ noSh (.bool r_7_4) = true) trivial))) (by kernel_rfl) (by kernel_rfl) ?_
          refine seqQ_norm ?_
          rcases itesome h with ⟨hb_4, h⟩ | ⟨hb_4, h⟩
          · refine Wp.condF (b := (!r_7_4)) (by kernel_rfl) (by kernel_rfl) (nF hb_4) ?_
            refine Wp.skipN (by kernel_rfl) ?_
            refine seqQ_norm ?_
            refine Wp.seqN (by kernel_rfl) ?_
            refine Wp.reg tiok mix hc (by kernel_rfl) (ah := none) (rs := [some (.no)]) (kt := [4]) (ko := []) (T' := [(4, .bool true)]) (O' := []) (by kernel_rfl) trivial (by kernel_rfl) (by kernel_rfl) ?_
            refine seqQ_norm ?_
            refine Wp.retN (by kernel_rfl) ?_
            obtain rfl := Option.some.inj h
            exact RetQ.ret (fl := [true]) (by kernel_rfl)
          · refine Wp.condT (b := (!r_7_4)) (by kernel_rfl) (by kernel_rfl) (nT hb_4) ?_
            refine Wp.seqN (by kernel_rfl) ?_
            refine Wp.reg tiok mix hc (by kernel_rfl) (ah := none) (rs := [some (.no)]) (kt := [4]) (ko := []) (T' := [(4, .bool false)]) (O' := []) (by kernel_rfl) trivial (by kernel_rfl) (by kernel_rfl) ?_
            refine seqQ_norm ?_
            refine Wp.retN (by kernel_rfl) ?_
            refine seqQ_ret ?_
            obtain rfl := Option.some.inj h
            exact RetQ.ret (fl := [true]) (by kernel_rfl)
        · refine Wp.condT (b := (!r_5_4)) (by kernel_rfl) (by kernel_rfl) (nT hb_3) ?_
          refine Wp.seqN (by kernel_rfl) ?_
          refine Wp.reg tiok mix hc (by kernel_rfl) (ah := none) (rs := [some (.no)]) (kt := [4]) (ko := []) (T' := [(4, .bool false)]) (O' := []) (by kernel_rfl) trivial (by kernel_rfl) (by kernel_rfl) ?_
          refine seqQ_norm ?_
          refine Wp.retN (by kernel_rfl) ?_
          refine seqQ_ret ?_
          obtain rfl := Option.some.inj h
          exact RetQ.ret (fl := [true]) (by kernel_rfl)
  · rintro laws_eqTermS_l0_f laws_eqTermS_l0_ih ⟨a0, b1⟩ r h
    show FnSound Try.prog 63 [.sl (List.map GTerm_S a0), .sl (List.map GTerm_S b1)] (.bool r) []
    refine FnSound.body0 tiok (fn := Try.f63) (code := B63) (by kernel_rfl) (by kernel_rfl) (by kernel_rfl) (by kernel_rfl) (nt := 27) (by kernel_rfl) (by kernel_rfl) (T := [(0, .sl (List.map GTerm_S a0)), (1, .sl (List.map GTerm_S b1))]) (O := []) (by kernel_rfl) (by kernel_rfl) (fun c hc => ?_)
    refine Wp.seqN (by kernel_rfl) ?_
    refine Wp.reg tiok mix hc (by kernel_rfl) (ah := none) (rs := [some (.no)]) (kt := [0, 1]) (ko := []) (T' := [(0, .sl (List.map GTerm_S a0)), (1, .sl (List.map GTerm_S b1))]) (O' := []) (by kernel_rfl) trivial (by kernel_rfl) (by kernel_rfl) ?_
    refine seqQ_norm ?_
    refine Wp.seqN (by kernel_rfl) ?_
    refine Wp.seqN (by kernel_rfl) ?_
    refine Wp.reg tiok mix hc (by kernel_rfl) (ah := none) (rs := [some (.no), some (.eqv (.no) ⟨[(7, .int .i64 (a0.length : Int))], [], []⟩), some (.no), some (.eqv (.no) ⟨[(9, .int .i64 (b1.length : Int))], [], []⟩), some (.no)]) (kt := [0, 1, 10]) (ko := []) (T' := [(0, .sl (List.map GTerm_S a0)), (1, .sl (List.map GTerm_S b1)), (10, .bool ((a0.length : Int) != (b1.length : Int)))]) (O' := []) (by kernel_rfl) (And.intro (lenT (d := 7) GTerm_S a0) (And.intro (lenT (d := 9) GTerm_S b1) trivial)) (by kernel_rfl) (by kernel_rfl) ?_
    refine seqQ_norm ?_
    rcases itesome h with ⟨hb_1, h⟩ | ⟨hb_1, h⟩
    · refine Wp.condT (b := ((a0.length : Int) != (b1.length : Int))) (by kernel_rfl) (by kernel_rfl) hb_1 ?_
      refine Wp.seqN (by kernel_rfl) ?_
      refine Wp.reg tiok mix hc (by kernel_rfl) (ah := none) (rs := [some (.no)]) (kt := [4]) (ko := []) (T' := [(4, .bool false)]) (O' := []) (by kernel_rfl) trivial (by kernel_rfl) (by kernel_rfl) ?_
      refine seqQ_norm ?_
      refine Wp.retN (by kernel_rfl) ?_
      refine seqQ_ret ?_
      obtain rfl := Option.some.inj h
      exact RetQ.ret (fl := [true]) (by kernel_rfl)
    · refine Wp.condF (b := ((a0.length : Int) != (b1.length : Int))) (by kernel_rfl) (by kernel_rfl) hb_1 ?_
      refine Wp.skipN (by kernel_rfl) ?_
      refine seqQ_norm ?_
      refine Wp.seqN (by kernel_rfl) ?_
      refine Wp.seqN (by kernel_rfl) ?_
      refine Wp.reg tiok mix hc (by kernel_rfl) (ah := none) (rs := [some (.no)]) (kt := [0, 1, 5]) (ko := []) (T' := [(0, .sl (List.map GTerm_S a0)), (1, .sl (List.map GTerm_S b1)), (5, .int .i64 0)]) (O' := []) (by kernel_rfl) trivial (by kernel_rfl) (by kernel_rfl) ?_
      refine seqQ_norm ?_
      refine Wp.blockN (i := 0) (by kernel_rfl) ?_
      obtain ⟨fl, hl_7, h⟩ := bsome h
      have hL := laws_eqTermS_l0_ih _ _ hl_7 c hc
      refine Wp.loopN (by kernel_rfl) ?_
      rcases fl with ⟨⟩ | r
      · refine WpL.into (e := (.exit 0)) (mkS [] []) hL ?_
        refine blockQ_hit ?_
        refine seqQ_norm ?_
        refine Wp.seqN (by kernel_rfl) ?_
        refine Wp.reg tiok mix hc (by kernel_rfl) (ah := none) (rs := [some (.no)]) (kt := [4]) (ko := []) (T' := [(4, .bool true)]) (O' := []) (by kernel_rfl) trivial (by kernel_rfl) (by kernel_rfl) ?_
        refine seqQ_norm ?_
        refine Wp.retN (by kernel_rfl) ?_
        obtain rfl := Option.some.inj h
        exact RetQ.ret (fl := [true]) (by kernel_rfl)
      · refine WpL.mono hL ?_
        rintro _ _ ⟨rfl, hfin⟩
        refine blockQ_ret ?_
        refine seqQ_ret ?_
        obtain rfl := Option.some.inj h
        exact ⟨.inl rfl, hfin⟩
  · rintro laws_eqTerm_f laws_eqTermS_l0_f laws_eqTerm_ih laws_eqTermS_l0_ih ⟨a0, b1, i_4⟩ r h
    intro c hc
    show WpL Try.prog c (cl (cl (cr (cl (cr (cr B63)))))) (laws_eqTermS_F1 c r) (mkS [(0, .sl (List.map GTerm_S a0)), (1, .sl (List.map GTerm_S b1)), (5, .int .i64 i_4)] [])
    refine WpL.step ?_
    refine Wp.seqN (by kernel_rfl) ?_
    refine Wp.seqN (by kernel_rfl) ?_
    refine Wp.reg tiok mix hc (by kernel_rfl) (ah := none) (rs := [some (.no), some (.no), some (.eqv (.no) ⟨[(13, .int .i64 (a0.length : Int))], [], []⟩), some (.no)]) (kt := [0, 1, 5, 14]) (ko := []) (T' := [(0, .sl (List.map GTerm_S a0)), (1, .sl (List.map GTerm_S b1)), (5, .int .i64 i_4), (14, .bool (decide (i_4 < (a0.length : Int))))]) (O' := []) (by kernel_rfl) (And.intro (lenT (d := 13) GTerm_S a0) trivial) (by kernel_rfl) (by kernel_rfl) ?_
    refine seqQ_norm ?_
    rcases itesome h with ⟨hb_5, h⟩ | ⟨hb_5, h⟩
    · refine Wp.condT (b := (decide (i_4 < (a0.length : Int)))) (by kernel_rfl) (by kernel_rfl) hb_5 ?_
      refine Wp.skipN (by kernel_rfl) ?_
      refine seqQ_norm ?_
      refine Wp.seqN (by kernel_rfl) ?_
      refine Wp.blockN (i := 1) (by kernel_rfl) ?_
      refine Wp.seqN (by kernel_rfl) ?_
      obtain ⟨e_6_2, hi_6_2, h⟩ := bsome h
      obtain ⟨e_6_6, hi_6_6, h⟩ := bsome h
      obtain ⟨r_6_8, hr_6_8, h⟩ := bsome h
      refine Wp.reg tiok mix hc (by kernel_rfl) (ah := (some [[], [], [0, 1], [0, 1, 2], [], [], [4, 5], [4, 5, 6], [0, 1, 2, 3, 4, 5, 6, 7], [0, 1, 2, 3, 4, 5, 6, 7, 8]])) (rs := [some (.no), some (.no), some (.el (.agg [.int .i64 e_6_2.fOp, .int .i64 e_6_2.fN, .sl (List.map I e_6_2.fType), .sl (List.map GTerm_S e_6_2.fKids)])), some (.no), some (.no), some (.no), some (.el (.agg [.int .i64 e_6_6.fOp, .int .i64 e_6_6.fN, .sl (List.map I e_6_6.fType), .sl (List.map GTerm_S e_6_6.fKids)])), some (.no), some (.call (.bool r_6_8) [] 1), some (.no)]) (kt := [0, 1, 5, 26]) (ko := []) (T' := [(0, .sl (List.map GTerm_S a0)), (1, .sl (List.map GTerm_S b1)), (5, .int .i64 i_4), (26, .bool (!r_6_8))]) (O' := []) (by kernel_rfl) (And.intro (idx_sl (enc := GTerm_S) (x := .agg [.int .i64 e_6_2.fOp, .int .i64 e_6_2.fN, .sl (List.map I e_6_2.fType), .sl (List.map GTerm_S e_6_2.fKids)]) hi_6_2 (eq_GTerm_S e_6_2)) (And.intro (idx_sl (enc := GTerm_S) (x := .agg [.int .i64 e_6_6.fOp, .int .i64 e_6_6.fN, .sl (List.map I e_6_6.fType), .sl (List.map GTerm_S e_6_6.fKids)]) hi_6_6 (eq_GTerm_S e_6_6)) (And.intro (laws_eqTerm_ih _ _ hr_6_8) (And.intro bod_23 (And.intro (Or.inl rfl : ([] : List Nat) = [] ∨ noSh (.bool r_6_8) = true) trivial))))) (by kernel_rfl) (by kernel_rfl) ?_
      refine seqQ_norm ?_
      rcases itesome h with ⟨hb_6, h⟩ | ⟨hb_6, h⟩
      · refine Wp.condF (b := (!r_6_8)) (by kernel_rfl) (by kernel_rfl) (nF hb_6) ?_
        refine Wp.skipN (by kernel_rfl) ?_
        refine blockQ_norm ?_
        refine seqQ_norm ?_
        refine Wp.reg tiok mix hc (by kernel_rfl) (ah := none) (rs := [some (.no), some (.no), some (.no)]) (kt := [0, 1, 5]) (ko := []) (T' := [(0, .sl (List.map GTerm_S a0)), (1, .sl (List.map GTerm_S b1)), (5, .int .i64 (wr (i_4 + 1)))]) (O' := []) (by kernel_rfl) trivial (by kernel_rfl) (by kernel_rfl) ?_
        refine loopQ_norm ?_
        exact (laws_eqTermS_l0_ih _ _ h c hc)
      · refine Wp.condT (b := (!r_6_8)) (by kernel_rfl) (by kernel_rfl) (nT hb_6) ?_
        refine Wp.seqN (by kernel_rfl) ?_
        refine Wp.reg tiok mix hc (by kernel_rfl) (ah := none) (rs := [some (.no)]) (kt := [4]) (ko := []) (T' := [(4, .bool false)]) (O' := []) (by kernel_rfl) trivial (by kernel_rfl) (by kernel_rfl) ?_
        refine seqQ_norm ?_
        refine Wp.retN (by kernel_rfl) ?_
        refine blockQ_ret ?_
        refine seqQ_ret ?_
        refine loopQ_ret ?_
        obtain rfl := Option.some.inj h
        exact RetE.ret (fl := [true]) (by kernel_rfl)
    · refine Wp.condF (b := (decide (i_4 < (a0.length : Int)))) (by kernel_rfl) (by kernel_rfl) hb_5 ?_
      refine Wp.exitN (i := 0) (by kernel_rfl) ?_
      refine seqQ_exit ?_
      refine loopQ_exit ?_
      obtain rfl := Option.some.inj h
      exact Into.view (fun a w hv => SRx.renL [] hv (by kernel_rfl) (by kernel_rfl) (by kernel_rfl))
theorem laws_eqTerm_s : ∀ p r, laws_eqTerm p = some r → M_laws_eqTerm p r := laws_eqTerm_all.1
theorem laws_eqTermS_s : ∀ p r, laws_eqTermS p = some r → M_laws_eqTermS p r := laws_eqTerm_all.2.1
theorem laws_eqTermS_l0_s : ∀ p r, laws_eqTermS_l0 p = some r → M_laws_eqTermS_l0 p r := laws_eqTerm_all.2.2
def laws_FnExactCountOpen (aT0 : GTerm) : Option (Bool) :=
    (laws_szTerm (aT0, 1048576)) >>= fun r_2_2 =>
    if (decide (r_2_2 < 0)) = true then
      some true
    else
      (laws_toTerm aT0) >>= fun r_5_1 =>
      (spec_CountOpen r_5_1) >>= fun r_5_2 =>
      (laws_toTerm aT0) >>= fun r_6_1 =>
      (impl_CountOpen r_6_1) >>= fun r_7_1 =>
      if (r_7_1 != r_5_2) = true then
        some false
      else
        (laws_toTerm aT0) >>= fun r_10_2 =>
        (laws_eqTerm (r_6_1, r_10_2)) >>= fun r_10_3 =>
        if r_10_3 = true then
          some true
        else
          some false
def M_laws_FnExactCountOpen (aT0 : GTerm) (r : Bool) : Prop :=
  FnSound Try.prog 4 [.agg [.int .i64 aT0.fOp, .int .i64 aT0.fN, .sl (List.map I aT0.fType), .sl (List.map GTerm_S aT0.fKids)]] (.bool r) []
theorem laws_FnExactCountOpen_s : ∀ p r, laws_FnExactCountOpen p = some r → M_laws_FnExactCountOpen p r := by
  rintro aT0 r h
  unfold laws_FnExactCountOpen at h
  show FnSound Try.prog 4 [.agg [.int .i64 aT0.fOp, .int .i64 aT0.fN, .sl (List.map I aT0.fType), .sl (List.map GTerm_S aT0.fKids)]] (.bool r) []
  refine FnSound.body0 tiok (fn := Try.f4) (code := B4) (by kernel_rfl) (by kernel_rfl) (by kernel_rfl) (by kernel_rfl) (nt := 27) (by kernel_rfl) (by kernel_rfl) (T := [(0, .agg [.int .i64 aT0.fOp, .int .i64 aT0.fN, .sl (List.map I aT0.fType), .sl (List.map GTerm_S aT0.fKids)])]) (O := []) (by kernel_rfl) (by kernel_rfl) (fun c hc => ?_)
  refine Wp.seqN (by kernel_rfl) ?_
  refine Wp.reg tiok mix hc (by kernel_rfl) (ah := none) (rs := [some (.new 1), some (.no)]) (kt := [1]) (ko := [1]) (T' := [(1, .ra 1 0)]) (O' := [(1, .box [.int .i64 aT0.fOp, .int .i64 aT0.fN, .sl (List.map I aT0.fType), .sl (List.map GTerm_S aT0.fKids)])]) (by kernel_rfl) trivial (by kernel_rfl) (by kernel_rfl) ?_
  refine seqQ_norm ?_
  refine Wp.seqN (by kernel_rfl) ?_
  refine Wp.reg tiok mix hc (by kernel_rfl) (ah := none) (rs := [some (.no)]) (kt := [1, 3]) (ko := [1]) (T' := [(1, .ra 1 0), (3, .int .i64 1048576)]) (O' := [(1, .box [.int .i64 aT0.fOp, .int .i64 aT0.fN, .sl (List.map I aT0.fType), .sl (List.map GTerm_S aT0.fKids)])]) (by kernel_rfl) trivial (by kernel_rfl) (by kernel_rfl) ?_
  refine seqQ_norm ?_
  refine Wp.seqN (by kernel_rfl) ?_
  obtain ⟨r_2_2, hr_2_2, h⟩ := bsome h
  refine Wp.reg tiok mix hc (by kernel_rfl) (ah := none) (rs := [some (.no), some (.no), some (.call (.int .i64 r_2_2) [] 1), some (.no)]) (kt := [1, 3]) (ko := [1]) (T' := [(1, .ra 1 0), (3, .int .i64 r_2_2)]) (O' := [(1, .box [.int .i64 aT0.fOp, .int .i64 aT0.fN, .sl (List.map I aT0.fType), .sl (List.map GTerm_S aT0.fKids)])]) (by kernel_rfl) (And.intro (laws_szTerm_s _ _ hr_2_2) (And.intro bod_19 (And.intro (Or.inl rfl : ([] : List Nat) = [] ∨ noSh (.int .i64 r_2_2) = true) trivial))) (by kernel_rfl) (by kernel_rfl) ?_
  refine seqQ_norm ?_
  refine Wp.seqN (by kernel_rfl) ?_
  refine Wp.seqN (by kernel_rfl) ?_
  refine Wp.reg tiok mix hc (by kernel_rfl) (ah := none) (rs := [some (.no), some (.no)]) (kt := [1, 11]) (ko := [1]) (T' := [(1, .ra 1 0), (11, .bool (decide (r_2_2 < 0)))]) (O' := [(1, .box [.int .i64 aT0.fOp, .int .i64 aT0.fN, .sl (List.map I aT0.fType), .sl (List.map GTerm_S aT0.fKids)])]) (by kernel_rfl) trivial (by kernel_rfl) (by kernel_rfl) ?_
  refine seqQ_norm ?_
  rcases itesome h with ⟨hb_1, h⟩ | ⟨hb_1, h⟩
  · refine Wp.condT (b := (decide (r_2_2 < 0))) (by kernel_rfl) (by kernel_rfl) hb_1 ?_
    refine Wp.seqN (by kernel_rfl) ?_
    refine Wp.reg tiok mix hc (by kernel_rfl) (ah := none) (rs := [some (.no)]) (kt := [2]) (ko := []) (T' := [(2, .bool true)]) (O' := []) (by kernel_rfl) trivial (by kernel_rfl) (by kernel_rfl) ?_
    refine seqQ_norm ?_
    refine Wp.retN (by kernel_rfl) ?_
    refine seqQ_ret ?_
    obtain rfl := Option.some.inj h
    exact RetQ.ret (fl := [true]) (by kernel_rfl)
  · refine Wp.condF (b := (decide (r_2_2 < 0))) (by kernel_rfl) (by kernel_rfl) hb_1 ?_
    refine Wp.skipN (by kernel_rfl) ?_
    refine seqQ_norm ?_
    refine Wp.seqN (by kernel_rfl) ?_
    obtain ⟨r_5_1, hr_5_1, h⟩ := bsome h
    obtain ⟨r_5_2, hr_5_2, h⟩ := bsome h
    refine Wp.reg tiok mix hc (by kernel_rfl) (ah := none) (rs := [some (.no), some (.call (.agg [.int .i64 r_5_1.fOp, .int .i64 r_5_1.fN, .osl (List.map I r_5_1.fType), .osl (List.map GTerm_O r_5_1.fKids)]) [] 2), some (.call (.int .i64 r_5_2) [] 1), some (.no)]) (kt := [1, 4]) (ko := [1]) (T' := [(1, .ra 1 0), (4, .int .i64 r_5_2)]) (O' := [(1, .box [.int .i64 aT0.fOp, .int .i64 aT0.fN, .sl (List.map I aT0.fType), .sl (List.map GTerm_S aT0.fKids)])]) (by kernel_rfl) (And.intro (laws_toTerm_s _ _ hr_5_1) (And.intro bod_21 (And.intro (Or.inl rfl : ([] : List Nat) = [] ∨ noSh (.agg [.int .i64 r_5_1.fOp, .int .i64 r_5_1.fN, .osl (List.map I r_5_1.fType), .osl (List.map GTerm_O r_5_1.fKids)]) = true) (And.intro (FnSound.args (A1 := [.agg [.int .i64 r_5_1.fOp, .int .i64 r_5_1.fN, .sl (shares (List.map I r_5_1.fType)), .sl (shares (List.map GTerm_O r_5_1.fKids))]]) (A2 := [.agg [.int .i64 r_5_1.fOp, .int .i64 r_5_1.fN, .sl (List.map I r_5_1.fType), .sl (List.map GTerm_S r_5_1.fKids)]]) (by simp only [List.map_nil, sh_GTerm_O, sh_I]) (spec_CountOpen_s _ _ hr_5_2)) (And.intro bod_20 (And.intro (Or.inr rfl : ([2, 3] : List Nat) = [] ∨ noSh (.int .i64 r_5_2) = true) trivial)))))) (by kernel_rfl) (by kernel_rfl) ?_
    refine seqQ_norm ?_
    refine Wp.seqN (by kernel_rfl) ?_
    obtain ⟨r_6_1, hr_6_1, h⟩ := bsome h
    refine Wp.reg tiok mix hc (by kernel_rfl) (ah := none) (rs := [some (.no), some (.call (.agg [.int .i64 r_6_1.fOp, .int .i64 r_6_1.fN, .osl (List.map I r_6_1.fType), .osl (List.map GTerm_O r_6_1.fKids)]) [] 4), some (.new 6), some (.no)]) (kt := [1, 4, 5]) (ko := [1, 4, 5, 6]) (T' := [(1, .ra 1 0), (4, .int .i64 r_5_2), (5, .ra 6 0)]) (O' := [(1, .box [.int .i64 aT0.fOp, .int .i64 aT0.fN, .sl (List.map I aT0.fType), .sl (List.map GTerm_S aT0.fKids)]), (4, .arr (List.map I r_6_1.fType)), (5, .arr (List.map GTerm_O r_6_1.fKids)), (6, .box [.int .i64 r_6_1.fOp, .int .i64 r_6_1.fN, .rs 4, .rs 5])]) (by kernel_rfl) (And.intro (laws_toTerm_s _ _ hr_6_1) (And.intro bod_21 (And.intro (Or.inl rfl : ([] : List Nat) = [] ∨ noSh (.agg [.int .i64 r_6_1.fOp, .int .i64 r_6_1.fN, .osl (List.map I r_6_1.fType), .osl (List.map GTerm_O r_6_1.fKids)]) = true) trivial))) (by kernel_rfl) (by kernel_rfl) ?_
    refine seqQ_norm ?_
    refine Wp.seqN (by kernel_rfl) ?_
    obtain ⟨r_7_1, hr_7_1, h⟩ := bsome h
    refine Wp.reg tiok mix hc (by kernel_rfl) (ah := none) (rs := [some (.no), some (.call (.int .i64 r_7_1) [] 1), some (.no)]) (kt := [1, 4, 5, 6]) (ko := [1, 4, 5, 6]) (T' := [(1, .ra 1 0), (4, .int .i64 r_5_2), (5, .ra 6 0), (6, .int .i64 r_7_1)]) (O' := [(1, .box [.int .i64 aT0.fOp, .int .i64 aT0.fN, .sl (List.map I aT0.fType), .sl (List.map GTerm_S aT0.fKids)]), (4, .arr (List.map I r_6_1.fType)), (5, .arr (List.map GTerm_O r_6_1.fKids)), (6, .box [.int .i64 r_6_1.fOp, .int .i64 r_6_1.fN, .rs 4, .rs 5])]) (by kernel_rfl) (And.intro (FnSound.args (A1 := [.agg [.int .i64 r_6_1.fOp, .int .i64 r_6_1.fN, .sl (shares (List.map I r_6_1.fType)), .sl (shares (List.map GTerm_O r_6_1.fKids))]]) (A2 := [.agg [.int .i64 r_6_1.fOp, .int .i64 r_6_1.fN, .sl (List.map I r_6_1.fType), .sl (List.map GTerm_S r_6_1.fKids)]]) (by simp only [List.map_nil, sh_GTerm_O, sh_I]) (impl_CountOpen_s _ _ hr_7_1)) (And.intro bod_22 (And.intro (Or.inr rfl : ([4, 5] : List Nat) = [] ∨ noSh (.int .i64 r_7_1) = true) trivial))) (by kernel_rfl) (by kernel_rfl) ?_
    refine seqQ_norm ?_
    refine Wp.seqN (by kernel_rfl) ?_
    refine Wp.seqN (by kernel_rfl) ?_
    refine Wp.reg tiok mix hc (by kernel_rfl) (ah := none) (rs := [some (.no), some (.no), some (.no)]) (kt := [1, 5, 21]) (ko := [1, 4, 5, 6]) (T' := [(1, .ra 1 0), (5, .ra 6 0), (21, .bool (r_7_1 != r_5_2))]) (O' := [(1, .box [.int .i64 aT0.fOp, .int .i64 aT0.fN, .sl (List.map I aT0.fType), .sl (List.map GTerm_S aT0.fKids)]), (4, .arr (List.map I r_6_1.fType)), (5, .arr (List.map GTerm_O r_6_1.fKids)), (6, .box [.int .i64 r_6_1.fOp, .int .i64 r_6_1.fN, .rs 4, .rs 5])]) (by kernel_rfl) trivial (by kernel_rfl) (by kernel_rfl) ?_
    refine seqQ_norm ?_
    rcases itesome h with ⟨hb_2, h⟩ | ⟨hb_2, h⟩
    · refine Wp.condT (b := (r_7_1 != r_5_2)) (by kernel_rfl) (by kernel_rfl) hb_2 ?_
      refine Wp.seqN (by kernel_rfl) ?_
      refine Wp.reg tiok mix hc (by kernel_rfl) (ah := none) (rs := [some (.no)]) (kt := [2]) (ko := []) (T' := [(2, .bool false)]) (O' := []) (by kernel_rfl) trivial (by kernel_rfl) (by kernel_rfl) ?_
      refine seqQ_norm ?_
      refine Wp.retN (by kernel_rfl) ?_
      refine seqQ_ret ?_
      obtain rfl := Option.some.inj h
      exact RetQ.ret (fl := [true]) (by kernel_rfl)
    · refine Wp.condF (b := (r_7_1 != r_5_2)) (by kernel_rfl) (by kernel_rfl) hb_2 ?_
      refine Wp.skipN (by kernel_rfl) ?_
      refine seqQ_norm ?_
      refine Wp.seqN (by kernel_rfl) ?_
      refine Wp.seqN (by kernel_rfl) ?_
      obtain ⟨r_10_2, hr_10_2, h⟩ := bsome h
      obtain ⟨r_10_3, hr_10_3, h⟩ := bsome h
      refine Wp.reg tiok mix hc (by kernel_rfl) (ah := (some [[], [], [1], [0, 1, 2], [0, 1, 2, 3]])) (rs := [some (.no), some (.no), some (.call (.agg [.int .i64 r_10_2.fOp, .int .i64 r_10_2.fN, .osl (List.map I r_10_2.fType), .osl (List.map GTerm_O r_10_2.fKids)]) [] 7), some (.call (.bool r_10_3) [] 1), some (.no)]) (kt := [26]) (ko := []) (T' := [(26, .bool (!r_10_3))]) (O' := []) (by kernel_rfl) (And.intro (laws_toTerm_s _ _ hr_10_2) (And.intro bod_21 (And.intro (Or.inl rfl : ([] : List Nat) = [] ∨ noSh (.agg [.int .i64 r_10_2.fOp, .int .i64 r_10_2.fN, .osl (List.map I r_10_2.fType), .osl (List.map GTerm_O r_10_2.fKids)]) = true) (And.intro (FnSound.args (A1 := [.agg [.int .i64 r_6_1.fOp, .int .i64 r_6_1.fN, .sl (shares (List.map I r_6_1.fType)), .sl (shares (List.map GTerm_O r_6_1.fKids))], .agg [.int .i64 r_10_2.fOp, .int .i64 r_10_2.fN, .sl (shares (List.map I r_10_2.fType)), .sl (shares (List.map GTerm_O r_10_2.fKids))]]) (A2 := [.agg [.int .i64 r_6_1.fOp, .int .i64 r_6_1.fN, .sl (List.map I r_6_1.fType), .sl (List.map GTerm_S r_6_1.fKids)], .agg [.int .i64 r_10_2.fOp, .int .i64 r_10_2.fN, .sl (List.map I r_10_2.fType), .sl (List.map GTerm_S r_10_2.fKids)]]) (by simp only [List.map_nil, sh_GTerm_O, sh_I]) (laws_eqTerm_s _ _ hr_10_3)) (And.intro bod_23 (And.intro (Or.inr rfl : ([4, 5, 7, 8] : List Nat) = [] ∨ noSh (.bool r_10_3) = true) trivial)))))) (by kernel_rfl) (by kernel_rfl) ?_
      refine seqQ_norm ?_
      rcases itesome h with ⟨hb_3, h⟩ | ⟨hb_3, h⟩
      · refine Wp.condF (b := (!r_10_3)) (by kernel_rfl) (by kernel_rfl) (nF hb_3) ?_
        refine Wp.skipN (by kernel_rfl) ?_
        refine seqQ_norm ?_
        refine Wp.seqN (by kernel_rfl) ?_
        refine Wp.reg tiok mix hc (by kernel_rfl) (ah := none) (rs := [some (.no)]) (kt := [2]) (ko := []) (T' := [(2, .bool true)]) (O' := []) (by kernel_rfl) trivial (by kernel_rfl) (by kernel_rfl) ?_
        refine seqQ_norm ?_
        refine Wp.retN (by kernel_rfl) ?_
        obtain rfl := Option.some.inj h
        exact RetQ.ret (fl := [true]) (by kernel_rfl)
      · refine Wp.condT (b := (!r_10_3)) (by kernel_rfl) (by kernel_rfl) (nT hb_3) ?_
        refine Wp.seqN (by kernel_rfl) ?_
        refine Wp.reg tiok mix hc (by kernel_rfl) (ah := none) (rs := [some (.no)]) (kt := [2]) (ko := []) (T' := [(2, .bool false)]) (O' := []) (by kernel_rfl) trivial (by kernel_rfl) (by kernel_rfl) ?_
        refine seqQ_norm ?_
        refine Wp.retN (by kernel_rfl) ?_
        refine seqQ_ret ?_
        obtain rfl := Option.some.inj h
        exact RetQ.ret (fl := [true]) (by kernel_rfl)
end Go.Am
