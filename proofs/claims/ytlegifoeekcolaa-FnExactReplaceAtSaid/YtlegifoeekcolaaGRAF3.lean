/- Functions of the program as pure functions, and that it computes them. Printed by a program of mine (gen.py). -/
import Derived.Test.YtlegifoeekcolaaGRAF2
set_option linter.unusedVariables false
set_option linter.unusedSimpArgs false
set_option maxRecDepth 100000
namespace Go.Am
open Go Go.Proofs
mutual
def impl_check_Kimpl_ReplaceAt_c1_Kimpl_ReplaceAt_c2 (p : GTerm × Int × Int) : Option (Int) :=
  match p with
  | (t0, n1, nodes4) =>
    (impl_formOf t0.fOp) >>= fun (r_2_2_0, r_2_2_1) =>
    (
      if r_2_2_1 = true then
        if (decide ((wr (nodes4 + 1)) > 400)) = true then
          some (true)
        else
          some (((t0.fKids.length : Int) != r_2_2_0.fkids))
      else
        some (true)
    ) >>= fun v_1 =>
    if v_1 = true then
      some 401
    else
      (
        if (t0.fOp == 0) = true then
          (impl_within (t0.fN, 0, (wr (n1 - 1)))) >>= fun r_7_4 =>
          some (r_7_4)
        else
          (
            if (t0.fOp == 1) = true then
              (impl_within (t0.fN, 0, 2)) >>= fun r_9_2 =>
              some (r_9_2)
            else
              (
                if r_2_2_0.fgrade = true then
                  (impl_ReplaceAt_c1 t0.fN) >>= fun r_11_3 =>
                  some (r_11_3)
                else
                  some ((t0.fN == 0))
              ) >>= fun ok_7 =>
              some (ok_7)
          ) >>= fun ok_9 =>
          some (ok_9)
      ) >>= fun ok_11 =>
      (
        if r_2_2_0.ftyped = true then
          (
            if ok_11 = true then
              (impl_ReplaceAt_c2 t0.fType) >>= fun r_13_5 =>
              some (r_13_5)
            else
              some (false)
          ) >>= fun ok_14 =>
          some (ok_14)
        else
          (
            if ok_11 = true then
              some (((t0.fType.length : Int) == 0))
            else
              some (false)
          ) >>= fun ok_16 =>
          some (ok_16)
      ) >>= fun ok_18 =>
      if ok_18 = true then
        (impl_check_Kimpl_ReplaceAt_c1_Kimpl_ReplaceAt_c2_l0 (t0, n1, (wr (nodes4 + 1)), 0)) >>= fun fl => match fl with
        | .inl nodes_27 =>
          some nodes_27
        | .inr r =>
          some r
      else
        some 401
  partial_fixpoint
def impl_check_Kimpl_ReplaceAt_c1_Kimpl_ReplaceAt_c2_l0 (p : GTerm × Int × Int × Int) : Option ((Int) ⊕ (Int)) :=
  match p with
  | (t0, n1, nodes_23, w_24) =>
    if (decide (w_24 < (t0.fKids.length : Int))) = true then
      (idx t0.fKids w_24) >>= fun e_19_1 =>
      (impl_adds (t0.fOp, w_24)) >>= fun r_20_5 =>
      (impl_check_Kimpl_ReplaceAt_c1_Kimpl_ReplaceAt_c2 (e_19_1, (wr (n1 + r_20_5)), nodes_23)) >>= fun r_20_10 =>
      if (decide (r_20_10 > 400)) = true then
        some (.inr 401)
      else
        impl_check_Kimpl_ReplaceAt_c1_Kimpl_ReplaceAt_c2_l0 (t0, n1, r_20_10, (wr (w_24 + 1)))
    else
      some (.inl nodes_23)
  partial_fixpoint
end
def M_impl_check_Kimpl_ReplaceAt_c1_Kimpl_ReplaceAt_c2 (p : GTerm × Int × Int) (r : Int) : Prop :=
  match p with
  | (t0, n1, nodes4) => FnSound Try.prog 81 [.agg [.int .i64 t0.fOp, .int .i64 t0.fN, .sl (List.map I t0.fType), .sl (List.map GTerm_S t0.fKids)], .int .i64 n1, .fn 82 [], .fn 83 [], .int .i64 nodes4] (.int .i64 r) []
def M_impl_check_Kimpl_ReplaceAt_c1_Kimpl_ReplaceAt_c2_l0 (p : GTerm × Int × Int × Int) (fl : (Int) ⊕ (Int)) : Prop :=
  match p with
  | (t0, n1, nodes_23, w_24) => ∀ c : Ctx, c.nt = 104 → WpL Try.prog c (cl (cl (cr (cl (cr (cr (cr (cr (cr (cr (cr B81))))))))))) (impl_check_Kimpl_ReplaceAt_c1_Kimpl_ReplaceAt_c2_F1 c fl) (mkS [(1, .int .i64 n1), (2, .fn 82 []), (3, .fn 83 []), (4, .int .i64 nodes_23), (5, .ra 1 0), (82, .sl (List.map GTerm_S t0.fKids)), (83, .int .i64 (t0.fKids.length : Int)), (84, .int .i64 w_24)] [(1, .box [.int .i64 t0.fOp, .int .i64 t0.fN, .sl (List.map I t0.fType), .sl (List.map GTerm_S t0.fKids)])])
theorem impl_check_Kimpl_ReplaceAt_c1_Kimpl_ReplaceAt_c2_all : (∀ p r, impl_check_Kimpl_ReplaceAt_c1_Kimpl_ReplaceAt_c2 p = some r → M_impl_check_Kimpl_ReplaceAt_c1_Kimpl_ReplaceAt_c2 p r) ∧ (∀ p r, impl_check_Kimpl_ReplaceAt_c1_Kimpl_ReplaceAt_c2_l0 p = some r → M_impl_check_Kimpl_ReplaceAt_c1_Kimpl_ReplaceAt_c2_l0 p r) := by
  refine impl_check_Kimpl_ReplaceAt_c1_Kimpl_ReplaceAt_c2.mutual_partial_correctness M_impl_check_Kimpl_ReplaceAt_c1_Kimpl_ReplaceAt_c2 M_impl_check_Kimpl_ReplaceAt_c1_Kimpl_ReplaceAt_c2_l0 ?_ ?_
  · rintro impl_check_Kimpl_ReplaceAt_c1_Kimpl_ReplaceAt_c2_l0_f impl_check_Kimpl_ReplaceAt_c1_Kimpl_ReplaceAt_c2_l0_ih ⟨t0, n1, nodes4⟩ r h
    show FnSound Try.prog 81 [.agg [.int .i64 t0.fOp, .int .i64 t0.fN, .sl (List.map I t0.fType), .sl (List.map GTerm_S t0.fKids)], .int .i64 n1, .fn 82 [], .fn 83 [], .int .i64 nodes4] (.int .i64 r) []
    refine FnSound.body0 tiok (fn := Try.f81) (code := B81) (by kernel_rfl) (by kernel_rfl) (by kernel_rfl) (by kernel_rfl) (nt := 104) (by kernel_rfl) (by kernel_rfl) (T := [(0, .agg [.int .i64 t0.fOp, .int .i64 t0.fN, .sl (List.map I t0.fType), .sl (List.map GTerm_S t0.fKids)]), (1, .int .i64 n1), (2, .fn 82 []), (3, .fn 83 []), (4, .int .i64 nodes4)]) (O := []) (by kernel_rfl) (by kernel_rfl) (fun c hc => ?_)
    refine Wp.seqN (by kernel_rfl) ?_
    refine Wp.reg tiok mix hc (by kernel_rfl) (ah := none) (rs := [some (.new 1), some (.no)]) (kt := [1, 2, 3, 4, 5]) (ko := [1]) (T' := [(1, .int .i64 n1), (2, .fn 82 []), (3, .fn 83 []), (4, .int .i64 nodes4), (5, .ra 1 0)]) (O' := [(1, .box [.int .i64 t0.fOp, .int .i64 t0.fN, .sl (List.map I t0.fType), .sl (List.map GTerm_S t0.fKids)])]) (by kernel_rfl) trivial (by kernel_rfl) (by kernel_rfl) ?_
    refine seqQ_norm ?_
    refine Wp.seqN (by kernel_rfl) ?_
    refine Wp.reg tiok mix hc (by kernel_rfl) (ah := none) (rs := [some (.no), some (.no), some (.no)]) (kt := [1, 2, 3, 4, 5]) (ko := [1]) (T' := [(1, .int .i64 n1), (2, .fn 82 []), (3, .fn 83 []), (4, .int .i64 (wr (nodes4 + 1))), (5, .ra 1 0)]) (O' := [(1, .box [.int .i64 t0.fOp, .int .i64 t0.fN, .sl (List.map I t0.fType), .sl (List.map GTerm_S t0.fKids)])]) (by kernel_rfl) trivial (by kernel_rfl) (by kernel_rfl) ?_
    refine seqQ_norm ?_
    refine Wp.seqN (by kernel_rfl) ?_
    obtain ⟨⟨r_2_2_0, r_2_2_1⟩, hr_2_2, h⟩ := bsome h
    refine Wp.reg tiok mix hc (by kernel_rfl) (ah := none) (rs := [some (.no), some (.no), some (.call (.tup [.agg [.str r_2_2_0.fword, .int .i64 r_2_2_0.fkids, .bool r_2_2_0.fgrade, .bool r_2_2_0.ftyped], .bool r_2_2_1]) [] 1), some (.no), some (.no), some (.no), some (.new 2), some (.no), some (.no)]) (kt := [1, 2, 3, 4, 5, 11, 12]) (ko := [1, 2]) (T' := [(1, .int .i64 n1), (2, .fn 82 []), (3, .fn 83 []), (4, .int .i64 (wr (nodes4 + 1))), (5, .ra 1 0), (11, .ra 2 0), (12, .bool r_2_2_1)]) (O' := [(1, .box [.int .i64 t0.fOp, .int .i64 t0.fN, .sl (List.map I t0.fType), .sl (List.map GTerm_S t0.fKids)]), (2, .box [.str r_2_2_0.fword, .int .i64 r_2_2_0.fkids, .bool r_2_2_0.fgrade, .bool r_2_2_0.ftyped])]) (by kernel_rfl) (And.intro (impl_formOf_s _ _ hr_2_2) (And.intro bod_100 (And.intro (Or.inl rfl : ([] : List Nat) = [] ∨ noSh (.tup [.agg [.str r_2_2_0.fword, .int .i64 r_2_2_0.fkids, .bool r_2_2_0.fgrade, .bool r_2_2_0.ftyped], .bool r_2_2_1]) = true) trivial))) (by kernel_rfl) (by kernel_rfl) ?_
    refine seqQ_norm ?_
    refine Wp.seqN (by kernel_rfl) ?_
    refine Wp.seqN (by kernel_rfl) ?_
    obtain ⟨v_1, hj_2, h⟩ := bsome h
    refine Wp.into (x := .normal) (mkS [(1, .int .i64 n1), (2, .fn 82 []), (3, .fn 83 []), (4, .int .i64 (wr (nodes4 + 1))), (5, .ra 1 0), (11, .ra 2 0), (36, .bool v_1)] [(1, .box [.int .i64 t0.fOp, .int .i64 t0.fN, .sl (List.map I t0.fType), .sl (List.map GTerm_S t0.fKids)]), (2, .box [.str r_2_2_0.fword, .int .i64 r_2_2_0.fkids, .bool r_2_2_0.fgrade, .bool r_2_2_0.ftyped])]) ?_ ?_
    · replace h := hj_2
      rcases itesome h with ⟨hb_3_0, h⟩ | ⟨hb_3_0, h⟩
      · rcases itesome h with ⟨hb_3_1, h⟩ | ⟨hb_3_1, h⟩
        · refine Wp.reg tiok mix hc (by kernel_rfl) (ah := none) (rs := [some (.no), some (.no), some (.no), some (.no), some (.no), some (.cond false), some (.no), none, none, none, none, none, none, some (.cond true)]) (kt := [1, 2, 3, 4, 5, 11, 36]) (ko := [1, 2]) (T' := [(1, .int .i64 n1), (2, .fn 82 []), (3, .fn 83 []), (4, .int .i64 (wr (nodes4 + 1))), (5, .ra 1 0), (11, .ra 2 0), (36, .bool true)]) (O' := [(1, .box [.int .i64 t0.fOp, .int .i64 t0.fN, .sl (List.map I t0.fType), .sl (List.map GTerm_S t0.fKids)]), (2, .box [.str r_2_2_0.fword, .int .i64 r_2_2_0.fkids, .bool r_2_2_0.fgrade, .bool r_2_2_0.ftyped])]) (by kernel_rfl) (And.intro (nF hb_3_0) (And.intro (nF hb_3_0) (And.intro (nF hb_3_0) (And.intro (neF hb_3_1 : (decide ((wr (nodes4 + 1)) > 400)) ≠ false) (And.intro (neF hb_3_1 : (decide ((wr (nodes4 + 1)) > 400)) ≠ false) (And.intro (neF hb_3_1 : (decide ((wr (nodes4 + 1)) > 400)) ≠ false) (And.intro (neF hb_3_1 : (decide ((wr (nodes4 + 1)) > 400)) ≠ false) (And.intro (neF hb_3_1 : (decide ((wr (nodes4 + 1)) > 400)) ≠ false) (And.intro (neF hb_3_1 : (decide ((wr (nodes4 + 1)) > 400)) ≠ false) (And.intro hb_3_1 trivial)))))))))) (by kernel_rfl) (by kernel_rfl) ?_
          obtain rfl := Option.some.inj h
          exact Into.mk
        · refine Wp.reg tiok mix hc (by kernel_rfl) (ah := none) (rs := [some (.no), some (.no), some (.no), some (.no), some (.no), some (.cond false), some (.no), some (.no), some (.no), some (.eqv (.no) ⟨[(32, .int .i64 (t0.fKids.length : Int))], [], []⟩), some (.no), some (.no), some (.no), some (.cond false)]) (kt := [1, 2, 3, 4, 5, 11, 36]) (ko := [1, 2]) (T' := [(1, .int .i64 n1), (2, .fn 82 []), (3, .fn 83 []), (4, .int .i64 (wr (nodes4 + 1))), (5, .ra 1 0), (11, .ra 2 0), (36, .bool ((t0.fKids.length : Int) != r_2_2_0.fkids))]) (O' := [(1, .box [.int .i64 t0.fOp, .int .i64 t0.fN, .sl (List.map I t0.fType), .sl (List.map GTerm_S t0.fKids)]), (2, .box [.str r_2_2_0.fword, .int .i64 r_2_2_0.fkids, .bool r_2_2_0.fgrade, .bool r_2_2_0.ftyped])]) (by kernel_rfl) (And.intro (nF hb_3_0) (And.intro (nF hb_3_0) (And.intro (nF hb_3_0) (And.intro hb_3_1 (And.intro hb_3_1 (And.intro hb_3_1 (And.intro (lenT (d := 32) GTerm_S t0.fKids) (And.intro hb_3_1 (And.intro hb_3_1 (And.intro hb_3_1 (And.intro hb_3_1 trivial))))))))))) (by kernel_rfl) (by kernel_rfl) ?_
          obtain rfl := Option.some.inj h
          exact Into.mk
      · refine Wp.reg tiok mix hc (by kernel_rfl) (ah := none) (rs := [some (.no), some (.no), some (.no), none, none, some (.cond true), some (.no), none, none, none, none, none, none, some (.cond true)]) (kt := [1, 2, 3, 4, 5, 11, 36]) (ko := [1, 2]) (T' := [(1, .int .i64 n1), (2, .fn 82 []), (3, .fn 83 []), (4, .int .i64 (wr (nodes4 + 1))), (5, .ra 1 0), (11, .ra 2 0), (36, .bool true)]) (O' := [(1, .box [.int .i64 t0.fOp, .int .i64 t0.fN, .sl (List.map I t0.fType), .sl (List.map GTerm_S t0.fKids)]), (2, .box [.str r_2_2_0.fword, .int .i64 r_2_2_0.fkids, .bool r_2_2_0.fgrade, .bool r_2_2_0.ftyped])]) (by kernel_rfl) (And.intro (neF (nT hb_3_0) : (!r_2_2_1) ≠ false) (And.intro (neF (nT hb_3_0) : (!r_2_2_1) ≠ false) (And.intro (nT hb_3_0) (And.intro (neF (rfl : true = true) : true ≠ false) (And.intro (neF (rfl : true = true) : true ≠ false) (And.intro (neF (rfl : true = true) : true ≠ false) (And.intro (neF (rfl : true = true) : true ≠ false) (And.intro (neF (rfl : true = true) : true ≠ false) (And.intro (neF (rfl : true = true) : true ≠ false) (And.intro (rfl : true = true) trivial)))))))))) (by kernel_rfl) (by kernel_rfl) ?_
        obtain rfl := Option.some.inj h
        exact Into.mk
    · clear hj_2
      refine seqQ_norm ?_
      rcases itesome h with ⟨hb_3, h⟩ | ⟨hb_3, h⟩
      · refine Wp.condT (b := v_1) (by kernel_rfl) (by kernel_rfl) hb_3 ?_
        refine Wp.seqN (by kernel_rfl) ?_
        refine Wp.reg tiok mix hc (by kernel_rfl) (ah := none) (rs := [some (.no)]) (kt := [10]) (ko := []) (T' := [(10, .int .i64 401)]) (O' := []) (by kernel_rfl) trivial (by kernel_rfl) (by kernel_rfl) ?_
        refine seqQ_norm ?_
        refine Wp.retN (by kernel_rfl) ?_
        refine seqQ_ret ?_
        obtain rfl := Option.some.inj h
        exact RetQ.ret (fl := [true]) (by kernel_rfl)
      · refine Wp.condF (b := v_1) (by kernel_rfl) (by kernel_rfl) hb_3 ?_
        refine Wp.skipN (by kernel_rfl) ?_
        refine seqQ_norm ?_
        refine Wp.seqN (by kernel_rfl) ?_
        refine Wp.blockN (i := 0) (by kernel_rfl) ?_
        refine Wp.seqN (by kernel_rfl) ?_
        refine Wp.reg tiok mix hc (by kernel_rfl) (ah := none) (rs := [some (.no), some (.no), some (.no), some (.no)]) (kt := [1, 2, 3, 4, 5, 11, 40]) (ko := [1, 2]) (T' := [(1, .int .i64 n1), (2, .fn 82 []), (3, .fn 83 []), (4, .int .i64 (wr (nodes4 + 1))), (5, .ra 1 0), (11, .ra 2 0), (40, .bool (t0.fOp == 0))]) (O' := [(1, .box [.int .i64 t0.fOp, .int .i64 t0.fN, .sl (List.map I t0.fType), .sl (List.map GTerm_S t0.fKids)]), (2, .box [.str r_2_2_0.fword, .int .i64 r_2_2_0.fkids, .bool r_2_2_0.fgrade, .bool r_2_2_0.ftyped])]) (by kernel_rfl) trivial (by kernel_rfl) (by kernel_rfl) ?_
        refine seqQ_norm ?_
        obtain ⟨ok_11, hj_12, h⟩ := bsome h
        refine Wp.into (x := .normal) (mkS [(1, .int .i64 n1), (2, .fn 82 []), (3, .fn 83 []), (4, .int .i64 (wr (nodes4 + 1))), (5, .ra 1 0), (11, .ra 2 0), (12, .bool ok_11)] [(1, .box [.int .i64 t0.fOp, .int .i64 t0.fN, .sl (List.map I t0.fType), .sl (List.map GTerm_S t0.fKids)]), (2, .box [.str r_2_2_0.fword, .int .i64 r_2_2_0.fkids, .bool r_2_2_0.fgrade, .bool r_2_2_0.ftyped])]) ?_ ?_
        · replace h := hj_12
          rcases itesome h with ⟨hb_4, h⟩ | ⟨hb_4, h⟩
          · refine Wp.condT (b := (t0.fOp == 0)) (by kernel_rfl) (by kernel_rfl) hb_4 ?_
            obtain ⟨r_7_4, hr_7_4, h⟩ := bsome h
            refine Wp.reg tiok mix hc (by kernel_rfl) (ah := none) (rs := [some (.no), some (.no), some (.no), some (.no), some (.call (.bool r_7_4) [] 1), some (.no)]) (kt := [1, 2, 3, 4, 5, 11, 12]) (ko := [1, 2]) (T' := [(1, .int .i64 n1), (2, .fn 82 []), (3, .fn 83 []), (4, .int .i64 (wr (nodes4 + 1))), (5, .ra 1 0), (11, .ra 2 0), (12, .bool r_7_4)]) (O' := [(1, .box [.int .i64 t0.fOp, .int .i64 t0.fN, .sl (List.map I t0.fType), .sl (List.map GTerm_S t0.fKids)]), (2, .box [.str r_2_2_0.fword, .int .i64 r_2_2_0.fkids, .bool r_2_2_0.fgrade, .bool r_2_2_0.ftyped])]) (by kernel_rfl) (And.intro (impl_within_s _ _ hr_7_4) (And.intro bod_91 (And.intro (Or.inl rfl : ([] : List Nat) = [] ∨ noSh (.bool r_7_4) = true) trivial))) (by kernel_rfl) (by kernel_rfl) ?_
            obtain rfl := Option.some.inj h
            exact Into.mk
          · refine Wp.condF (b := (t0.fOp == 0)) (by kernel_rfl) (by kernel_rfl) hb_4 ?_
            refine Wp.seqN (by kernel_rfl) ?_
            refine Wp.reg tiok mix hc (by kernel_rfl) (ah := none) (rs := [some (.no), some (.no), some (.no), some (.no)]) (kt := [1, 2, 3, 4, 5, 11, 49]) (ko := [1, 2]) (T' := [(1, .int .i64 n1), (2, .fn 82 []), (3, .fn 83 []), (4, .int .i64 (wr (nodes4 + 1))), (5, .ra 1 0), (11, .ra 2 0), (49, .bool (t0.fOp == 1))]) (O' := [(1, .box [.int .i64 t0.fOp, .int .i64 t0.fN, .sl (List.map I t0.fType), .sl (List.map GTerm_S t0.fKids)]), (2, .box [.str r_2_2_0.fword, .int .i64 r_2_2_0.fkids, .bool r_2_2_0.fgrade, .bool r_2_2_0.ftyped])]) (by kernel_rfl) trivial (by kernel_rfl) (by kernel_rfl) ?_
            refine seqQ_norm ?_
            obtain ⟨ok_9, hj_10, h⟩ := bsome h
            refine Wp.into (x := .normal) (mkS [(1, .int .i64 n1), (2, .fn 82 []), (3, .fn 83 []), (4, .int .i64 (wr (nodes4 + 1))), (5, .ra 1 0), (11, .ra 2 0), (12, .bool ok_9)] [(1, .box [.int .i64 t0.fOp, .int .i64 t0.fN, .sl (List.map I t0.fType), .sl (List.map GTerm_S t0.fKids)]), (2, .box [.str r_2_2_0.fword, .int .i64 r_2_2_0.fkids, .bool r_2_2_0.fgrade, .bool r_2_2_0.ftyped])]) ?_ ?_
            · replace h := hj_10
              rcases itesome h with ⟨hb_5, h⟩ | ⟨hb_5, h⟩
              · refine Wp.condT (b := (t0.fOp == 1)) (by kernel_rfl) (by kernel_rfl) hb_5 ?_
                obtain ⟨r_9_2, hr_9_2, h⟩ := bsome h
                refine Wp.reg tiok mix hc (by kernel_rfl) (ah := none) (rs := [some (.no), some (.no), some (.call (.bool r_9_2) [] 1), some (.no)]) (kt := [1, 2, 3, 4, 5, 11, 12]) (ko := [1, 2]) (T' := [(1, .int .i64 n1), (2, .fn 82 []), (3, .fn 83 []), (4, .int .i64 (wr (nodes4 + 1))), (5, .ra 1 0), (11, .ra 2 0), (12, .bool r_9_2)]) (O' := [(1, .box [.int .i64 t0.fOp, .int .i64 t0.fN, .sl (List.map I t0.fType), .sl (List.map GTerm_S t0.fKids)]), (2, .box [.str r_2_2_0.fword, .int .i64 r_2_2_0.fkids, .bool r_2_2_0.fgrade, .bool r_2_2_0.ftyped])]) (by kernel_rfl) (And.intro (impl_within_s _ _ hr_9_2) (And.intro bod_91 (And.intro (Or.inl rfl : ([] : List Nat) = [] ∨ noSh (.bool r_9_2) = true) trivial))) (by kernel_rfl) (by kernel_rfl) ?_
                obtain rfl := Option.some.inj h
                exact Into.mk
              · refine Wp.condF (b := (t0.fOp == 1)) (by kernel_rfl) (by kernel_rfl) hb_5 ?_
                refine Wp.seqN (by kernel_rfl) ?_
                refine Wp.reg tiok mix hc (by kernel_rfl) (ah := none) (rs := [some (.no), some (.no), some (.no)]) (kt := [1, 2, 3, 4, 5, 11, 56]) (ko := [1, 2]) (T' := [(1, .int .i64 n1), (2, .fn 82 []), (3, .fn 83 []), (4, .int .i64 (wr (nodes4 + 1))), (5, .ra 1 0), (11, .ra 2 0), (56, .bool r_2_2_0.fgrade)]) (O' := [(1, .box [.int .i64 t0.fOp, .int .i64 t0.fN, .sl (List.map I t0.fType), .sl (List.map GTerm_S t0.fKids)]), (2, .box [.str r_2_2_0.fword, .int .i64 r_2_2_0.fkids, .bool r_2_2_0.fgrade, .bool r_2_2_0.ftyped])]) (by kernel_rfl) trivial (by kernel_rfl) (by kernel_rfl) ?_
                refine seqQ_norm ?_
                obtain ⟨ok_7, hj_8, h⟩ := bsome h
                refine Wp.into (x := .normal) (mkS [(1, .int .i64 n1), (2, .fn 82 []), (3, .fn 83 []), (4, .int .i64 (wr (nodes4 + 1))), (5, .ra 1 0), (11, .ra 2 0), (12, .bool ok_7)] [(1, .box [.int .i64 t0.fOp, .int .i64 t0.fN, .sl (List.map I t0.fType), .sl (List.map GTerm_S t0.fKids)]), (2, .box [.str r_2_2_0.fword, .int .i64 r_2_2_0.fkids, .bool r_2_2_0.fgrade, .bool r_2_2_0.ftyped])]) ?_ ?_
                · replace h := hj_8
                  rcases itesome h with ⟨hb_6, h⟩ | ⟨hb_6, h⟩
                  · refine Wp.condT (b := r_2_2_0.fgrade) (by kernel_rfl) (by kernel_rfl) hb_6 ?_
                    obtain ⟨r_11_3, hr_11_3, h⟩ := bsome h
                    refine Wp.reg tiok mix hc (by kernel_rfl) (ah := none) (rs := [some (.no), some (.no), some (.no), some (.call (.bool r_11_3) [] 1), some (.no)]) (kt := [1, 2, 3, 4, 5, 11, 12]) (ko := [1, 2]) (T' := [(1, .int .i64 n1), (2, .fn 82 []), (3, .fn 83 []), (4, .int .i64 (wr (nodes4 + 1))), (5, .ra 1 0), (11, .ra 2 0), (12, .bool r_11_3)]) (O' := [(1, .box [.int .i64 t0.fOp, .int .i64 t0.fN, .sl (List.map I t0.fType), .sl (List.map GTerm_S t0.fKids)]), (2, .box [.str r_2_2_0.fword, .int .i64 r_2_2_0.fkids, .bool r_2_2_0.fgrade, .bool r_2_2_0.ftyped])]) (by kernel_rfl) (And.intro (impl_ReplaceAt_c1_s _ _ hr_11_3) (And.intro bod_82 (And.intro (Or.inl rfl : ([] : List Nat) = [] ∨ noSh (.bool r_11_3) = true) trivial))) (by kernel_rfl) (by kernel_rfl) ?_
                    obtain rfl := Option.some.inj h
                    exact Into.mk
                  · refine Wp.condF (b := r_2_2_0.fgrade) (by kernel_rfl) (by kernel_rfl) hb_6 ?_
                    refine Wp.reg tiok mix hc (by kernel_rfl) (ah := none) (rs := [some (.no), some (.no), some (.no), some (.no)]) (kt := [1, 2, 3, 4, 5, 11, 12]) (ko := [1, 2]) (T' := [(1, .int .i64 n1), (2, .fn 82 []), (3, .fn 83 []), (4, .int .i64 (wr (nodes4 + 1))), (5, .ra 1 0), (11, .ra 2 0), (12, .bool (t0.fN == 0))]) (O' := [(1, .box [.int .i64 t0.fOp, .int .i64 t0.fN, .sl (List.map I t0.fType), .sl (List.map GTerm_S t0.fKids)]), (2, .box [.str r_2_2_0.fword, .int .i64 r_2_2_0.fkids, .bool r_2_2_0.fgrade, .bool r_2_2_0.ftyped])]) (by kernel_rfl) trivial (by kernel_rfl) (by kernel_rfl) ?_
                    obtain rfl := Option.some.inj h
                    exact Into.mk
                · clear hj_8
                  obtain rfl := Option.some.inj h
                  exact Into.mk
            · clear hj_10
              obtain rfl := Option.some.inj h
              exact Into.mk
        · clear hj_12
          refine blockQ_norm ?_
          refine seqQ_norm ?_
          refine Wp.seqN (by kernel_rfl) ?_
          refine Wp.seqN (by kernel_rfl) ?_
          refine Wp.reg tiok mix hc (by kernel_rfl) (ah := none) (rs := [some (.no), some (.no)]) (kt := [1, 2, 3, 4, 5, 12, 64]) (ko := [1]) (T' := [(1, .int .i64 n1), (2, .fn 82 []), (3, .fn 83 []), (4, .int .i64 (wr (nodes4 + 1))), (5, .ra 1 0), (12, .bool ok_11), (64, .bool r_2_2_0.ftyped)]) (O' := [(1, .box [.int .i64 t0.fOp, .int .i64 t0.fN, .sl (List.map I t0.fType), .sl (List.map GTerm_S t0.fKids)])]) (by kernel_rfl) trivial (by kernel_rfl) (by kernel_rfl) ?_
          refine seqQ_norm ?_
          obtain ⟨ok_18, hj_19, h⟩ := bsome h
          refine Wp.into (x := .normal) (mkS [(1, .int .i64 n1), (2, .fn 82 []), (3, .fn 83 []), (4, .int .i64 (wr (nodes4 + 1))), (5, .ra 1 0), (12, .bool ok_18)] [(1, .box [.int .i64 t0.fOp, .int .i64 t0.fN, .sl (List.map I t0.fType), .sl (List.map GTerm_S t0.fKids)])]) ?_ ?_
          · replace h := hj_19
            rcases itesome h with ⟨hb_13, h⟩ | ⟨hb_13, h⟩
            · refine Wp.condT (b := r_2_2_0.ftyped) (by kernel_rfl) (by kernel_rfl) hb_13 ?_
              obtain ⟨ok_14, hj_15, h⟩ := bsome h
              refine Wp.into (x := .normal) (mkS [(1, .int .i64 n1), (2, .fn 82 []), (3, .fn 83 []), (4, .int .i64 (wr (nodes4 + 1))), (5, .ra 1 0), (12, .bool ok_14)] [(1, .box [.int .i64 t0.fOp, .int .i64 t0.fN, .sl (List.map I t0.fType), .sl (List.map GTerm_S t0.fKids)])]) ?_ ?_
              · replace h := hj_15
                rcases itesome h with ⟨hb_13_0, h⟩ | ⟨hb_13_0, h⟩
                · obtain ⟨r_13_5, hr_13_5, h⟩ := bsome h
                  refine Wp.reg tiok mix hc (by kernel_rfl) (ah := none) (rs := [some (.no), some (.no), some (.no), some (.no), some (.no), some (.call (.bool r_13_5) [] 1), some (.cond true), some (.no)]) (kt := [1, 2, 3, 4, 5, 12]) (ko := [1]) (T' := [(1, .int .i64 n1), (2, .fn 82 []), (3, .fn 83 []), (4, .int .i64 (wr (nodes4 + 1))), (5, .ra 1 0), (12, .bool r_13_5)]) (O' := [(1, .box [.int .i64 t0.fOp, .int .i64 t0.fN, .sl (List.map I t0.fType), .sl (List.map GTerm_S t0.fKids)])]) (by kernel_rfl) (And.intro hb_13_0 (And.intro hb_13_0 (And.intro hb_13_0 (And.intro hb_13_0 (And.intro (impl_ReplaceAt_c2_s _ _ hr_13_5) (And.intro bod_83 (And.intro (Or.inl rfl : ([] : List Nat) = [] ∨ noSh (.bool r_13_5) = true) (And.intro hb_13_0 trivial)))))))) (by kernel_rfl) (by kernel_rfl) ?_
                  obtain rfl := Option.some.inj h
                  exact Into.mk
                · refine Wp.reg tiok mix hc (by kernel_rfl) (ah := none) (rs := [some (.no), some (.no), none, none, none, none, some (.cond false), some (.no)]) (kt := [1, 2, 3, 4, 5, 12]) (ko := [1]) (T' := [(1, .int .i64 n1), (2, .fn 82 []), (3, .fn 83 []), (4, .int .i64 (wr (nodes4 + 1))), (5, .ra 1 0), (12, .bool false)]) (O' := [(1, .box [.int .i64 t0.fOp, .int .i64 t0.fN, .sl (List.map I t0.fType), .sl (List.map GTerm_S t0.fKids)])]) (by kernel_rfl) (And.intro (neT hb_13_0 : ok_11 ≠ true) (And.intro (neT hb_13_0 : ok_11 ≠ true) (And.intro (neT hb_13_0 : ok_11 ≠ true) (And.intro (neT hb_13_0 : ok_11 ≠ true) (And.intro hb_13_0 trivial))))) (by kernel_rfl) (by kernel_rfl) ?_
                  obtain rfl := Option.some.inj h
                  exact Into.mk
              · clear hj_15
                obtain rfl := Option.some.inj h
                exact Into.mk
            · refine Wp.condF (b := r_2_2_0.ftyped) (by kernel_rfl) (by kernel_rfl) hb_13 ?_
              obtain ⟨ok_16, hj_17, h⟩ := bsome h
              refine Wp.into (x := .normal) (mkS [(1, .int .i64 n1), (2, .fn 82 []), (3, .fn 83 []), (4, .int .i64 (wr (nodes4 + 1))), (5, .ra 1 0), (12, .bool ok_16)] [(1, .box [.int .i64 t0.fOp, .int .i64 t0.fN, .sl (List.map I t0.fType), .sl (List.map GTerm_S t0.fKids)])]) ?_ ?_
              · replace h := hj_17
                rcases itesome h with ⟨hb_14_0, h⟩ | ⟨hb_14_0, h⟩
                · refine Wp.reg tiok mix hc (by kernel_rfl) (ah := none) (rs := [some (.no), some (.no), some (.no), some (.no), some (.eqv (.no) ⟨[(76, .int .i64 (t0.fType.length : Int))], [], []⟩), some (.no), some (.cond true), some (.no)]) (kt := [1, 2, 3, 4, 5, 12]) (ko := [1]) (T' := [(1, .int .i64 n1), (2, .fn 82 []), (3, .fn 83 []), (4, .int .i64 (wr (nodes4 + 1))), (5, .ra 1 0), (12, .bool ((t0.fType.length : Int) == 0))]) (O' := [(1, .box [.int .i64 t0.fOp, .int .i64 t0.fN, .sl (List.map I t0.fType), .sl (List.map GTerm_S t0.fKids)])]) (by kernel_rfl) (And.intro hb_14_0 (And.intro hb_14_0 (And.intro hb_14_0 (And.intro (lenT (d := 76) I t0.fType) (And.intro hb_14_0 (And.intro hb_14_0 trivial)))))) (by kernel_rfl) (by kernel_rfl) ?_
                  obtain rfl := Option.some.inj h
                  exact Into.mk
                · refine Wp.reg tiok mix hc (by kernel_rfl) (ah := none) (rs := [some (.no), some (.no), none, none, none, none, some (.cond false), some (.no)]) (kt := [1, 2, 3, 4, 5, 12]) (ko := [1]) (T' := [(1, .int .i64 n1), (2, .fn 82 []), (3, .fn 83 []), (4, .int .i64 (wr (nodes4 + 1))), (5, .ra 1 0), (12, .bool false)]) (O' := [(1, .box [.int .i64 t0.fOp, .int .i64 t0.fN, .sl (List.map I t0.fType), .sl (List.map GTerm_S t0.fKids)])]) (by kernel_rfl) (And.intro (neT hb_14_0 : ok_11 ≠ true) (And.intro (neT hb_14_0 : ok_11 ≠ true) (And.intro (neT hb_14_0 : ok_11 ≠ true) (And.intro (neT hb_14_0 : ok_11 ≠ true) (And.intro hb_14_0 trivial))))) (by kernel_rfl) (by kernel_rfl) ?_
                  obtain rfl := Option.some.inj h
                  exact Into.mk
              · clear hj_17
                obtain rfl := Option.some.inj h
                exact Into.mk
          · clear hj_19
            refine seqQ_norm ?_
            refine Wp.seqN (by kernel_rfl) ?_
            refine Wp.seqN (by kernel_rfl) ?_
            refine Wp.reg tiok mix hc (by kernel_rfl) (ah := none) (rs := [some (.no), some (.no)]) (kt := [1, 2, 3, 4, 5, 80]) (ko := [1]) (T' := [(1, .int .i64 n1), (2, .fn 82 []), (3, .fn 83 []), (4, .int .i64 (wr (nodes4 + 1))), (5, .ra 1 0), (80, .bool (!ok_18))]) (O' := [(1, .box [.int .i64 t0.fOp, .int .i64 t0.fN, .sl (List.map I t0.fType), .sl (List.map GTerm_S t0.fKids)])]) (by kernel_rfl) trivial (by kernel_rfl) (by kernel_rfl) ?_
            refine seqQ_norm ?_
            rcases itesome h with ⟨hb_20, h⟩ | ⟨hb_20, h⟩
            · refine Wp.condF (b := (!ok_18)) (by kernel_rfl) (by kernel_rfl) (nF hb_20) ?_
              refine Wp.skipN (by kernel_rfl) ?_
              refine seqQ_norm ?_
              refine Wp.seqN (by kernel_rfl) ?_
              refine Wp.seqN (by kernel_rfl) ?_
              refine Wp.reg tiok mix hc (by kernel_rfl) (ah := none) (rs := [some (.no), some (.no), some (.eqv (.no) ⟨[(83, .int .i64 (t0.fKids.length : Int))], [], []⟩), some (.no)]) (kt := [1, 2, 3, 4, 5, 82, 83, 84]) (ko := [1]) (T' := [(1, .int .i64 n1), (2, .fn 82 []), (3, .fn 83 []), (4, .int .i64 (wr (nodes4 + 1))), (5, .ra 1 0), (82, .sl (List.map GTerm_S t0.fKids)), (83, .int .i64 (t0.fKids.length : Int)), (84, .int .i64 0)]) (O' := [(1, .box [.int .i64 t0.fOp, .int .i64 t0.fN, .sl (List.map I t0.fType), .sl (List.map GTerm_S t0.fKids)])]) (by kernel_rfl) (And.intro (lenT (d := 83) GTerm_S t0.fKids) trivial) (by kernel_rfl) (by kernel_rfl) ?_
              refine seqQ_norm ?_
              refine Wp.blockN (i := 1) (by kernel_rfl) ?_
              obtain ⟨fl, hl_28, h⟩ := bsome h
              have hL := impl_check_Kimpl_ReplaceAt_c1_Kimpl_ReplaceAt_c2_l0_ih _ _ hl_28 c hc
              refine Wp.loopN (by kernel_rfl) ?_
              rcases fl with nodes_27 | r
              · refine WpL.into (e := (.exit 1)) (mkS [(4, .int .i64 nodes_27)] []) hL ?_
                refine blockQ_hit ?_
                refine seqQ_norm ?_
                refine Wp.seqN (by kernel_rfl) ?_
                refine Wp.reg tiok mix hc (by kernel_rfl) (ah := none) (rs := [some (.no), some (.no)]) (kt := [10]) (ko := []) (T' := [(10, .int .i64 nodes_27)]) (O' := []) (by kernel_rfl) trivial (by kernel_rfl) (by kernel_rfl) ?_
                refine seqQ_norm ?_
                refine Wp.retN (by kernel_rfl) ?_
                obtain rfl := Option.some.inj h
                exact RetQ.ret (fl := [true]) (by kernel_rfl)
              · refine WpL.mono hL ?_
                rintro _ _ ⟨rfl, hfin⟩
                refine blockQ_ret ?_
                refine seqQ_ret ?_
                obtain rfl := Option.some.inj h
                exact ⟨.inl rfl, hfin⟩
            · refine Wp.condT (b := (!ok_18)) (by kernel_rfl) (by kernel_rfl) (nT hb_20) ?_
              refine Wp.seqN (by kernel_rfl) ?_
              refine Wp.reg tiok mix hc (by kernel_rfl) (ah := none) (rs := [some (.no)]) (kt := [10]) (ko := []) (T' := [(10, .int .i64 401)]) (O' := []) (by kernel_rfl) trivial (by kernel_rfl) (by kernel_rfl) ?_
              refine seqQ_norm ?_
              refine Wp.retN (by kernel_rfl) ?_
              refine seqQ_ret ?_
              obtain rfl := Option.some.inj h
              exact RetQ.ret (fl := [true]) (by kernel_rfl)
  · rintro impl_check_Kimpl_ReplaceAt_c1_Kimpl_ReplaceAt_c2_f impl_check_Kimpl_ReplaceAt_c1_Kimpl_ReplaceAt_c2_l0_f impl_check_Kimpl_ReplaceAt_c1_Kimpl_ReplaceAt_c2_ih impl_check_Kimpl_ReplaceAt_c1_Kimpl_ReplaceAt_c2_l0_ih ⟨t0, n1, nodes_23, w_24⟩ r h
    intro c hc
    show WpL Try.prog c (cl (cl (cr (cl (cr (cr (cr (cr (cr (cr (cr B81))))))))))) (impl_check_Kimpl_ReplaceAt_c1_Kimpl_ReplaceAt_c2_F1 c r) (mkS [(1, .int .i64 n1), (2, .fn 82 []), (3, .fn 83 []), (4, .int .i64 nodes_23), (5, .ra 1 0), (82, .sl (List.map GTerm_S t0.fKids)), (83, .int .i64 (t0.fKids.length : Int)), (84, .int .i64 w_24)] [(1, .box [.int .i64 t0.fOp, .int .i64 t0.fN, .sl (List.map I t0.fType), .sl (List.map GTerm_S t0.fKids)])])
    refine WpL.step ?_
    refine Wp.seqN (by kernel_rfl) ?_
    refine Wp.reg tiok mix hc (by kernel_rfl) (ah := none) (rs := [some (.no)]) (kt := [1, 2, 3, 4, 5, 82, 83, 84, 85]) (ko := [1]) (T' := [(1, .int .i64 n1), (2, .fn 82 []), (3, .fn 83 []), (4, .int .i64 nodes_23), (5, .ra 1 0), (82, .sl (List.map GTerm_S t0.fKids)), (83, .int .i64 (t0.fKids.length : Int)), (84, .int .i64 w_24), (85, .bool (decide (w_24 < (t0.fKids.length : Int))))]) (O' := [(1, .box [.int .i64 t0.fOp, .int .i64 t0.fN, .sl (List.map I t0.fType), .sl (List.map GTerm_S t0.fKids)])]) (by kernel_rfl) trivial (by kernel_rfl) (by kernel_rfl) ?_
    refine seqQ_norm ?_
    refine Wp.seqN (by kernel_rfl) ?_
    rcases itesome h with ⟨hb_25, h⟩ | ⟨hb_25, h⟩
    · refine Wp.condT (b := (decide (w_24 < (t0.fKids.length : Int)))) (by kernel_rfl) (by kernel_rfl) hb_25 ?_
      refine Wp.skipN (by kernel_rfl) ?_
      refine seqQ_norm ?_
      refine Wp.seqN (by kernel_rfl) ?_
      refine Wp.blockN (i := 2) (by kernel_rfl) ?_
      refine Wp.seqN (by kernel_rfl) ?_
      obtain ⟨e_19_1, hi_19_1, h⟩ := bsome h
      refine Wp.reg tiok mix hc (by kernel_rfl) (ah := none) (rs := [some (.no), some (.el (.agg [.int .i64 e_19_1.fOp, .int .i64 e_19_1.fN, .sl (List.map I e_19_1.fType), .sl (List.map GTerm_S e_19_1.fKids)])), some (.no), some (.new 4), some (.no), some (.no)]) (kt := [1, 2, 3, 4, 5, 13, 14, 82, 83, 84]) (ko := [1, 4]) (T' := [(1, .int .i64 n1), (2, .fn 82 []), (3, .fn 83 []), (4, .int .i64 nodes_23), (5, .ra 1 0), (13, .int .i64 w_24), (14, .ra 4 0), (82, .sl (List.map GTerm_S t0.fKids)), (83, .int .i64 (t0.fKids.length : Int)), (84, .int .i64 w_24)]) (O' := [(1, .box [.int .i64 t0.fOp, .int .i64 t0.fN, .sl (List.map I t0.fType), .sl (List.map GTerm_S t0.fKids)]), (4, .box [.int .i64 e_19_1.fOp, .int .i64 e_19_1.fN, .sl (List.map I e_19_1.fType), .sl (List.map GTerm_S e_19_1.fKids)])]) (by kernel_rfl) (And.intro (idx_sl (enc := GTerm_S) (x := .agg [.int .i64 e_19_1.fOp, .int .i64 e_19_1.fN, .sl (List.map I e_19_1.fType), .sl (List.map GTerm_S e_19_1.fKids)]) hi_19_1 (eq_GTerm_S e_19_1)) trivial) (by kernel_rfl) (by kernel_rfl) ?_
      refine seqQ_norm ?_
      refine Wp.seqN (by kernel_rfl) ?_
      obtain ⟨r_20_5, hr_20_5, h⟩ := bsome h
      obtain ⟨r_20_10, hr_20_10, h⟩ := bsome h
      refine Wp.reg tiok mix hc (by kernel_rfl) (ah := (some [[], [], [], [2], [], [2, 3, 4], [1, 2, 3, 4, 5], [], [], [], [0, 1, 2, 3, 4, 5, 6, 7, 8, 9], [0, 1, 2, 3, 4, 5, 6, 7, 8, 9, 10]])) (rs := [some (.no), some (.no), some (.no), some (.no), some (.no), some (.call (.int .i64 r_20_5) [] 1), some (.no), some (.no), some (.no), some (.no), some (.call (.int .i64 r_20_10) [] 1), some (.no)]) (kt := [1, 2, 3, 4, 5, 82, 83, 84]) (ko := [1]) (T' := [(1, .int .i64 n1), (2, .fn 82 []), (3, .fn 83 []), (4, .int .i64 r_20_10), (5, .ra 1 0), (82, .sl (List.map GTerm_S t0.fKids)), (83, .int .i64 (t0.fKids.length : Int)), (84, .int .i64 w_24)]) (O' := [(1, .box [.int .i64 t0.fOp, .int .i64 t0.fN, .sl (List.map I t0.fType), .sl (List.map GTerm_S t0.fKids)])]) (by kernel_rfl) (And.intro (impl_adds_s _ _ hr_20_5) (And.intro bod_117 (And.intro (Or.inl rfl : ([] : List Nat) = [] ∨ noSh (.int .i64 r_20_5) = true) (And.intro (impl_check_Kimpl_ReplaceAt_c1_Kimpl_ReplaceAt_c2_ih _ _ hr_20_10) (And.intro bod_81 (And.intro (Or.inl rfl : ([] : List Nat) = [] ∨ noSh (.int .i64 r_20_10) = true) trivial)))))) (by kernel_rfl) (by kernel_rfl) ?_
      refine seqQ_norm ?_
      refine Wp.seqN (by kernel_rfl) ?_
      refine Wp.reg tiok mix hc (by kernel_rfl) (ah := none) (rs := [some (.no), some (.no)]) (kt := [1, 2, 3, 4, 5, 82, 83, 84, 101]) (ko := [1]) (T' := [(1, .int .i64 n1), (2, .fn 82 []), (3, .fn 83 []), (4, .int .i64 r_20_10), (5, .ra 1 0), (82, .sl (List.map GTerm_S t0.fKids)), (83, .int .i64 (t0.fKids.length : Int)), (84, .int .i64 w_24), (101, .bool (decide (r_20_10 > 400)))]) (O' := [(1, .box [.int .i64 t0.fOp, .int .i64 t0.fN, .sl (List.map I t0.fType), .sl (List.map GTerm_S t0.fKids)])]) (by kernel_rfl) trivial (by kernel_rfl) (by kernel_rfl) ?_
      refine seqQ_norm ?_
      rcases itesome h with ⟨hb_26, h⟩ | ⟨hb_26, h⟩
      · refine Wp.condT (b := (decide (r_20_10 > 400))) (by kernel_rfl) (by kernel_rfl) hb_26 ?_
        refine Wp.seqN (by kernel_rfl) ?_
        refine Wp.reg tiok mix hc (by kernel_rfl) (ah := none) (rs := [some (.no)]) (kt := [10]) (ko := []) (T' := [(10, .int .i64 401)]) (O' := []) (by kernel_rfl) trivial (by kernel_rfl) (by kernel_rfl) ?_
        refine seqQ_norm ?_
        refine Wp.retN (by kernel_rfl) ?_
        refine blockQ_ret ?_
        refine seqQ_ret ?_
        refine loopQ_ret ?_
        obtain rfl := Option.some.inj h
        exact RetE.ret (fl := [true]) (by kernel_rfl)
      · refine Wp.condF (b := (decide (r_20_10 > 400))) (by kernel_rfl) (by kernel_rfl) hb_26 ?_
        refine Wp.skipN (by kernel_rfl) ?_
        refine blockQ_norm ?_
        refine seqQ_norm ?_
        refine Wp.reg tiok mix hc (by kernel_rfl) (ah := none) (rs := [some (.no), some (.no)]) (kt := [1, 2, 3, 4, 5, 82, 83, 84]) (ko := [1]) (T' := [(1, .int .i64 n1), (2, .fn 82 []), (3, .fn 83 []), (4, .int .i64 r_20_10), (5, .ra 1 0), (82, .sl (List.map GTerm_S t0.fKids)), (83, .int .i64 (t0.fKids.length : Int)), (84, .int .i64 (wr (w_24 + 1)))]) (O' := [(1, .box [.int .i64 t0.fOp, .int .i64 t0.fN, .sl (List.map I t0.fType), .sl (List.map GTerm_S t0.fKids)])]) (by kernel_rfl) trivial (by kernel_rfl) (by kernel_rfl) ?_
        refine loopQ_norm ?_
        exact (impl_check_Kimpl_ReplaceAt_c1_Kimpl_ReplaceAt_c2_l0_ih _ _ h c hc)
    · refine Wp.condF (b := (decide (w_24 < (t0.fKids.length : Int)))) (by kernel_rfl) (by kernel_rfl) hb_25 ?_
      refine Wp.exitN (i := 1) (by kernel_rfl) ?_
      refine seqQ_exit ?_
      refine loopQ_exit ?_
      obtain rfl := Option.some.inj h
      exact Into.view (fun a w hv => SRx.renL [] hv (by kernel_rfl) (by kernel_rfl) (by kernel_rfl))
theorem impl_check_Kimpl_ReplaceAt_c1_Kimpl_ReplaceAt_c2_s : ∀ p r, impl_check_Kimpl_ReplaceAt_c1_Kimpl_ReplaceAt_c2 p = some r → M_impl_check_Kimpl_ReplaceAt_c1_Kimpl_ReplaceAt_c2 p r := impl_check_Kimpl_ReplaceAt_c1_Kimpl_ReplaceAt_c2_all.1
theorem impl_check_Kimpl_ReplaceAt_c1_Kimpl_ReplaceAt_c2_l0_s : ∀ p r, impl_check_Kimpl_ReplaceAt_c1_Kimpl_ReplaceAt_c2_l0 p = some r → M_impl_check_Kimpl_ReplaceAt_c1_Kimpl_ReplaceAt_c2_l0 p r := impl_check_Kimpl_ReplaceAt_c1_Kimpl_ReplaceAt_c2_all.2
def slices_Clone_int (s0 : (List Int)) : Option ((List Int)) :=
    (fits (([] : List Int).length + s0.length) 8) >>= fun _ =>
    some s0
def M_slices_Clone_int (s0 : (List Int)) (r : (List Int)) : Prop :=
  FnSound Try.prog 105 [.sl (List.map I s0)] (.osl (List.map I r)) []
theorem slices_Clone_int_s : ∀ p r, slices_Clone_int p = some r → M_slices_Clone_int p r := by
  rintro s0 r h
  unfold slices_Clone_int at h
  show FnSound Try.prog 105 [.sl (List.map I s0)] (.osl (List.map I r)) []
  refine FnSound.body0 tiok (fn := Try.f105) (code := B105) (by kernel_rfl) (by kernel_rfl) (by kernel_rfl) (by kernel_rfl) (nt := 8) (by kernel_rfl) (by kernel_rfl) (T := [(0, .sl (List.map I s0))]) (O := []) (by kernel_rfl) (by kernel_rfl) (fun c hc => ?_)
  refine Wp.seqN (by kernel_rfl) ?_
  refine Wp.reg tiok mix hc (by kernel_rfl) (ah := none) (rs := [some (.no)]) (kt := [0]) (ko := []) (T' := [(0, .sl (List.map I s0))]) (O' := []) (by kernel_rfl) trivial (by kernel_rfl) (by kernel_rfl) ?_
  refine seqQ_norm ?_
  refine Wp.seqN (by kernel_rfl) ?_
  refine Wp.seqN (by kernel_rfl) ?_
  refine Wp.reg tiok mix hc (by kernel_rfl) (ah := none) (rs := [some (.no), some (.no)]) (kt := [0, 4]) (ko := []) (T' := [(0, .sl (List.map I s0)), (4, .nilq (List.map I s0))]) (O' := []) (by kernel_rfl) trivial (by kernel_rfl) (by kernel_rfl) ?_
  refine seqQ_norm ?_
  refine Wp.condNil (xs := List.map I s0) (by kernel_rfl) (by kernel_rfl) (fun hn => ?_) ?_
  · replace hn := List.map_eq_nil_iff.1 hn
    replace h : (some []) = some r := by rw [hn] at h; simpa [fits, chk] using h
    refine Wp.seqN (by kernel_rfl) ?_
    refine Wp.reg tiok mix hc (by kernel_rfl) (ah := none) (rs := [some (.no)]) (kt := [2]) (ko := []) (T' := [(2, .nils)]) (O' := []) (by kernel_rfl) trivial (by kernel_rfl) (by kernel_rfl) ?_
    refine seqQ_norm ?_
    refine Wp.retN (by kernel_rfl) ?_
    refine seqQ_ret ?_
    obtain rfl := Option.some.inj h
    exact RetQ.ret (fl := [true]) (by kernel_rfl)
  · refine Wp.skipN (by kernel_rfl) ?_
    refine seqQ_norm ?_
    refine Wp.seqN (by kernel_rfl) ?_
    obtain ⟨_, hk_3_2, h⟩ := bsome h
    refine Wp.reg tiok mix hc (by kernel_rfl) (ah := none) (rs := [some (.mk 1 true), some (.no), some (.eqv (.mk 2 true) ⟨[(7, .rs 2)], [(2, some (.arr (List.map I s0))), (1, none)], [2]⟩), some (.no)]) (kt := [2]) (ko := [2]) (T' := [(2, .rs 2)]) (O' := [(2, .arr (List.map I s0))]) (by kernel_rfl) (And.intro (congrArg (fun z => (⟨[(7, .rs 2)], [(2, some (.arr z)), (1, none)], [2]⟩ : Wr)) (List.nil_append _ : [] ++ (List.map I s0) = List.map I s0)) (And.intro (app_ob (enc1 := I) (enc2 := I) (e1 := []) (e2 := s0) (sz := 1) ek_I ek_I hk_3_2) trivial)) (by kernel_rfl) (by kernel_rfl) ?_
    refine seqQ_norm ?_
    refine Wp.retN (by kernel_rfl) ?_
    obtain rfl := Option.some.inj h
    exact RetQ.ret (fl := [true]) (by kernel_rfl)
def impl_copyTerm_F1 (c : Ctx) (t0 : GTerm) (r_1_6 : List Int) : (List GTerm) → Exit → AState → Prop
  | out_6 => Into c (.exit 0) (mkS [(2, .ra 2 0), (3, .ra 4 0)] [(2, .box [.int .i64 0, .int .i64 0, .nils, .nils]), (3, .arr (List.map I r_1_6)), (4, .box [.int .i64 t0.fOp, .int .i64 t0.fN, .rs 3, .rs 10]), (10, .arr (List.map GTerm_O out_6))])
mutual
def impl_copyTerm (t0 : GTerm) : Option (GTerm) :=
    (slices_Clone_int t0.fType) >>= fun r_1_6 =>
    (impl_copyTerm_l0 (t0, r_1_6, [], 0)) >>= fun out_6 =>
    some (GTerm.mk t0.fOp t0.fN r_1_6 out_6)
  partial_fixpoint
def impl_copyTerm_l0 (p : GTerm × (List Int) × (List GTerm) × Int) : Option ((List GTerm)) :=
  match p with
  | (t0, r_1_6, out_4, w_2) =>
    if (decide (w_2 < (t0.fKids.length : Int))) = true then
      (idx t0.fKids w_2) >>= fun e_4_0 =>
      (impl_copyTerm e_4_0) >>= fun r_5_3 =>
      (fits (out_4.length + [r_5_3].length) 64) >>= fun _ =>
      impl_copyTerm_l0 (t0, r_1_6, (out_4 ++ [r_5_3]), (wr (w_2 + 1)))
    else
      some (out_4)
  partial_fixpoint
end
def M_impl_copyTerm (t0 : GTerm) (r : GTerm) : Prop :=
  FnSound Try.prog 73 [.agg [.int .i64 t0.fOp, .int .i64 t0.fN, .sl (List.map I t0.fType), .sl (List.map GTerm_S t0.fKids)]] (.agg [.int .i64 r.fOp, .int .i64 r.fN, .osl (List.map I r.fType), .osl (List.map GTerm_O r.fKids)]) []
def M_impl_copyTerm_l0 (p : GTerm × (List Int) × (List GTerm) × Int) (fl : (List GTerm)) : Prop :=
  match p with
  | (t0, r_1_6, out_4, w_2) => ∀ c : Ctx, c.nt = 30 → WpL Try.prog c (cl (cl (cr (cl (cr (cr B73)))))) (impl_copyTerm_F1 c t0 r_1_6 fl) (mkS [(2, .ra 2 0), (3, .ra 4 0), (15, .sl (List.map GTerm_S t0.fKids)), (16, .int .i64 (t0.fKids.length : Int)), (17, .int .i64 w_2)] [(2, .box [.int .i64 0, .int .i64 0, .nils, .nils]), (3, .arr (List.map I r_1_6)), (4, .box [.int .i64 t0.fOp, .int .i64 t0.fN, .rs 3, .rs 10]), (10, .arr (List.map GTerm_O out_4))])
theorem impl_copyTerm_all : (∀ p r, impl_copyTerm p = some r → M_impl_copyTerm p r) ∧ (∀ p r, impl_copyTerm_l0 p = some r → M_impl_copyTerm_l0 p r) := by
  refine impl_copyTerm.mutual_partial_correctness M_impl_copyTerm M_impl_copyTerm_l0 ?_ ?_
  · rintro impl_copyTerm_l0_f impl_copyTerm_l0_ih t0 r h
    show FnSound Try.prog 73 [.agg [.int .i64 t0.fOp, .int .i64 t0.fN, .sl (List.map I t0.fType), .sl (List.map GTerm_S t0.fKids)]] (.agg [.int .i64 r.fOp, .int .i64 r.fN, .osl (List.map I r.fType), .osl (List.map GTerm_O r.fKids)]) []
    refine FnSound.body0 tiok (fn := Try.f73) (code := B73) (by kernel_rfl) (by kernel_rfl) (by kernel_rfl) (by kernel_rfl) (nt := 30) (by kernel_rfl) (by kernel_rfl) (T := [(0, .agg [.int .i64 t0.fOp, .int .i64 t0.fN, .sl (List.map I t0.fType), .sl (List.map GTerm_S t0.fKids)])]) (O := []) (by kernel_rfl) (by kernel_rfl) (fun c hc => ?_)
    refine Wp.seqN (by kernel_rfl) ?_
    refine Wp.reg tiok mix hc (by kernel_rfl) (ah := none) (rs := [some (.new 1), some (.new 2)]) (kt := [1, 2]) (ko := [1, 2]) (T' := [(1, .ra 1 0), (2, .ra 2 0)]) (O' := [(1, .box [.int .i64 t0.fOp, .int .i64 t0.fN, .sl (List.map I t0.fType), .sl (List.map GTerm_S t0.fKids)]), (2, .box [.int .i64 0, .int .i64 0, .nils, .nils])]) (by kernel_rfl) trivial (by kernel_rfl) (by kernel_rfl) ?_
    refine seqQ_norm ?_
    refine Wp.seqN (by kernel_rfl) ?_
    obtain ⟨r_1_6, hr_1_6, h⟩ := bsome h
    refine Wp.reg tiok mix hc (by kernel_rfl) (ah := (some [[], [0], [], [2], [], [4], [4, 5], [0, 1, 2, 3, 4, 5, 6], [], [0, 1, 2, 3, 4, 5, 6, 7, 8]])) (rs := [some (.no), some (.no), some (.no), some (.no), some (.no), some (.no), some (.call (.osl (List.map I r_1_6)) [] 3), some (.no), some (.new 4), some (.no)]) (kt := [1, 2, 3]) (ko := [1, 2, 3, 4]) (T' := [(1, .ra 1 0), (2, .ra 2 0), (3, .ra 4 0)]) (O' := [(1, .box [.int .i64 t0.fOp, .int .i64 t0.fN, .sl (List.map I t0.fType), .sl (List.map GTerm_S t0.fKids)]), (2, .box [.int .i64 0, .int .i64 0, .nils, .nils]), (3, .arr (List.map I r_1_6)), (4, .box [.int .i64 t0.fOp, .int .i64 t0.fN, .rs 3, .nils])]) (by kernel_rfl) (And.intro (slices_Clone_int_s _ _ hr_1_6) (And.intro bod_105 (And.intro (Or.inl rfl : ([] : List Nat) = [] ∨ noSh (.osl (List.map I r_1_6)) = true) trivial))) (by kernel_rfl) (by kernel_rfl) ?_
    refine seqQ_norm ?_
    refine Wp.seqN (by kernel_rfl) ?_
    refine Wp.seqN (by kernel_rfl) ?_
    refine Wp.reg tiok mix hc (by kernel_rfl) (ah := none) (rs := [some (.no), some (.no), some (.eqv (.no) ⟨[(16, .int .i64 (t0.fKids.length : Int))], [], []⟩), some (.no)]) (kt := [2, 3, 15, 16, 17]) (ko := [2, 3, 4]) (T' := [(2, .ra 2 0), (3, .ra 4 0), (15, .sl (List.map GTerm_S t0.fKids)), (16, .int .i64 (t0.fKids.length : Int)), (17, .int .i64 0)]) (O' := [(2, .box [.int .i64 0, .int .i64 0, .nils, .nils]), (3, .arr (List.map I r_1_6)), (4, .box [.int .i64 t0.fOp, .int .i64 t0.fN, .rs 3, .nils])]) (by kernel_rfl) (And.intro (lenT (d := 16) GTerm_S t0.fKids) trivial) (by kernel_rfl) (by kernel_rfl) ?_
    refine seqQ_norm ?_
    refine Wp.blockN (i := 0) (by kernel_rfl) ?_
    obtain ⟨out_6, hl_7, h⟩ := bsome h
    have hL := impl_copyTerm_l0_ih _ _ hl_7 c hc
    refine Wp.loopN (by kernel_rfl) (WpL.view (fun a w hv => SRx.renL [(10, 21)] (SRx.nilBL 4 3 21 [.int .i64 t0.fOp, .int .i64 t0.fN, .rs 3, .nils] hv (by kernel_rfl) (by kernel_rfl) (by kernel_rfl)) (by kernel_rfl) (by kernel_rfl) (by kernel_rfl)) (?_ : WpL _ c _ _ (mkS [(2, .ra 2 0), (3, .ra 4 0), (15, .sl (List.map GTerm_S t0.fKids)), (16, .int .i64 (t0.fKids.length : Int)), (17, .int .i64 0)] [(2, .box [.int .i64 0, .int .i64 0, .nils, .nils]), (3, .arr (List.map I r_1_6)), (4, .box [.int .i64 t0.fOp, .int .i64 t0.fN, .rs 3, .rs 10]), (10, .arr (List.map GTerm_O []))])))
    · refine WpL.into (e := (.exit 0)) (mkS [(2, .ra 2 0), (3, .ra 4 0)] [(2, .box [.int .i64 0, .int .i64 0, .nils, .nils]), (3, .arr (List.map I r_1_6)), (4, .box [.int .i64 t0.fOp, .int .i64 t0.fN, .rs 3, .rs 10]), (10, .arr (List.map GTerm_O out_6))]) hL ?_
      refine blockQ_hit ?_
      refine seqQ_norm ?_
      refine Wp.seqN (by kernel_rfl) ?_
      refine Wp.reg tiok mix hc (by kernel_rfl) (ah := none) (rs := [some (.no), some (.no)]) (kt := [2]) (ko := [2, 3, 10]) (T' := [(2, .ra 2 0)]) (O' := [(2, .box [.int .i64 t0.fOp, .int .i64 t0.fN, .rs 3, .rs 10]), (3, .arr (List.map I r_1_6)), (10, .arr (List.map GTerm_O out_6))]) (by kernel_rfl) trivial (by kernel_rfl) (by kernel_rfl) ?_
      refine seqQ_norm ?_
      refine Wp.retN (by kernel_rfl) ?_
      obtain rfl := Option.some.inj h
      exact RetQ.ret (fl := [true]) (by kernel_rfl)
  · rintro impl_copyTerm_f impl_copyTerm_l0_f impl_copyTerm_ih impl_copyTerm_l0_ih ⟨t0, r_1_6, out_4, w_2⟩ r h
    intro c hc
    show WpL Try.prog c (cl (cl (cr (cl (cr (cr B73)))))) (impl_copyTerm_F1 c t0 r_1_6 r) (mkS [(2, .ra 2 0), (3, .ra 4 0), (15, .sl (List.map GTerm_S t0.fKids)), (16, .int .i64 (t0.fKids.length : Int)), (17, .int .i64 w_2)] [(2, .box [.int .i64 0, .int .i64 0, .nils, .nils]), (3, .arr (List.map I r_1_6)), (4, .box [.int .i64 t0.fOp, .int .i64 t0.fN, .rs 3, .rs 10]), (10, .arr (List.map GTerm_O out_4))])
    refine WpL.step ?_
    refine Wp.seqN (by kernel_rfl) ?_
    refine Wp.reg tiok mix hc (by kernel_rfl) (ah := none) (rs := [some (.no)]) (kt := [2, 3, 15, 16, 17, 18]) (ko := [2, 3, 4, 10]) (T' := [(2, .ra 2 0), (3, .ra 4 0), (15, .sl (List.map GTerm_S t0.fKids)), (16, .int .i64 (t0.fKids.length : Int)), (17, .int .i64 w_2), (18, .bool (decide (w_2 < (t0.fKids.length : Int))))]) (O' := [(2, .box [.int .i64 0, .int .i64 0, .nils, .nils]), (3, .arr (List.map I r_1_6)), (4, .box [.int .i64 t0.fOp, .int .i64 t0.fN, .rs 3, .rs 10]), (10, .arr (List.map GTerm_O out_4))]) (by kernel_rfl) trivial (by kernel_rfl) (by kernel_rfl) ?_
    refine seqQ_norm ?_
    refine Wp.seqN (by kernel_rfl) ?_
    rcases itesome h with ⟨hb_5, h⟩ | ⟨hb_5, h⟩
    · refine Wp.condT (b := (decide (w_2 < (t0.fKids.length : Int)))) (by kernel_rfl) (by kernel_rfl) hb_5 ?_
      refine Wp.skipN (by kernel_rfl) ?_
      refine seqQ_norm ?_
      refine Wp.seqN (by kernel_rfl) ?_
      refine Wp.blockN (i := 1) (by kernel_rfl) ?_
      refine Wp.seqN (by kernel_rfl) ?_
      obtain ⟨e_4_0, hi_4_0, h⟩ := bsome h
      refine Wp.reg tiok mix hc (by kernel_rfl) (ah := none) (rs := [some (.el (.agg [.int .i64 e_4_0.fOp, .int .i64 e_4_0.fN, .sl (List.map I e_4_0.fType), .sl (List.map GTerm_S e_4_0.fKids)])), some (.no), some (.new 16), some (.no)]) (kt := [2, 3, 5, 15, 16, 17]) (ko := [2, 3, 4, 10, 16]) (T' := [(2, .ra 2 0), (3, .ra 4 0), (5, .ra 16 0), (15, .sl (List.map GTerm_S t0.fKids)), (16, .int .i64 (t0.fKids.length : Int)), (17, .int .i64 w_2)]) (O' := [(2, .box [.int .i64 0, .int .i64 0, .nils, .nils]), (3, .arr (List.map I r_1_6)), (4, .box [.int .i64 t0.fOp, .int .i64 t0.fN, .rs 3, .rs 10]), (10, .arr (List.map GTerm_O out_4)), (16, .box [.int .i64 e_4_0.fOp, .int .i64 e_4_0.fN, .sl (List.map I e_4_0.fType), .sl (List.map GTerm_S e_4_0.fKids)])]) (by kernel_rfl) (And.intro (idx_sl (enc := GTerm_S) (x := .agg [.int .i64 e_4_0.fOp, .int .i64 e_4_0.fN, .sl (List.map I e_4_0.fType), .sl (List.map GTerm_S e_4_0.fKids)]) hi_4_0 (eq_GTerm_S e_4_0)) trivial) (by kernel_rfl) (by kernel_rfl) ?_
      refine seqQ_norm ?_
      obtain ⟨r_5_3, hr_5_3, h⟩ := bsome h
      obtain ⟨_, hk_5_5, h⟩ := bsome h
      refine Wp.reg tiok mix hc (by kernel_rfl) (ah := (some [[], [0], [], [2], [2, 3], [0, 1, 2, 3, 4], [0, 1, 2, 3, 4, 5], [0, 1, 2, 3, 4, 5, 6]])) (rs := [some (.no), some (.no), some (.no), some (.call (.agg [.int .i64 r_5_3.fOp, .int .i64 r_5_3.fN, .osl (List.map I r_5_3.fType), .osl (List.map GTerm_O r_5_3.fKids)]) [] 17), some (.eqv (.mk 19 true) ⟨[(25, .rs 19)], [(19, some (.arr (List.map GTerm_O [r_5_3]))), (17, none), (18, none)], [19]⟩), some (.eqv (.mk 20 true) ⟨[(26, .rs 20)], [(20, some (.arr (List.map GTerm_O (out_4 ++ [r_5_3])))), (10, none), (19, none)], [20]⟩), some (.no), some (.no)]) (kt := [2, 3, 15, 16, 17]) (ko := [2, 3, 4, 20]) (T' := [(2, .ra 2 0), (3, .ra 4 0), (15, .sl (List.map GTerm_S t0.fKids)), (16, .int .i64 (t0.fKids.length : Int)), (17, .int .i64 w_2)]) (O' := [(2, .box [.int .i64 0, .int .i64 0, .nils, .nils]), (3, .arr (List.map I r_1_6)), (4, .box [.int .i64 t0.fOp, .int .i64 t0.fN, .rs 3, .rs 20]), (20, .arr (List.map GTerm_O (out_4 ++ [r_5_3])))]) (by kernel_rfl) (And.intro (impl_copyTerm_ih _ _ hr_5_3) (And.intro bod_73 (And.intro (Or.inl rfl : ([] : List Nat) = [] ∨ noSh (.agg [.int .i64 r_5_3.fOp, .int .i64 r_5_3.fN, .osl (List.map I r_5_3.fType), .osl (List.map GTerm_O r_5_3.fKids)]) = true) (And.intro (congrArg (fun z => (⟨[(25, .rs 19)], [(19, some (.arr z)), (17, none), (18, none)], [19]⟩ : Wr)) ((rows1 (eq_GTerm_O r_5_3) rows0) : [AV.agg [.int .i64 r_5_3.fOp, .int .i64 r_5_3.fN, AV.osl (List.map I r_5_3.fType), AV.osl (List.map GTerm_O r_5_3.fKids)]] = List.map GTerm_O [r_5_3])) (And.intro (congrArg (fun z => (⟨[(26, .rs 20)], [(20, some (.arr z)), (10, none), (19, none)], [20]⟩ : Wr)) ((List.map_append).symm : (List.map GTerm_O out_4) ++ (List.map GTerm_O [r_5_3]) = List.map GTerm_O (out_4 ++ [r_5_3]))) (And.intro (app_ob (enc1 := GTerm_O) (enc2 := GTerm_O) (e1 := out_4) (e2 := [r_5_3]) (sz := 4) ek_GTerm_O ek_GTerm_O hk_5_5) trivial)))))) (by kernel_rfl) (by kernel_rfl) ?_
      refine blockQ_norm ?_
      refine seqQ_norm ?_
      refine Wp.reg tiok mix hc (by kernel_rfl) (ah := none) (rs := [some (.no), some (.no)]) (kt := [2, 3, 15, 16, 17]) (ko := [2, 3, 4, 20]) (T' := [(2, .ra 2 0), (3, .ra 4 0), (15, .sl (List.map GTerm_S t0.fKids)), (16, .int .i64 (t0.fKids.length : Int)), (17, .int .i64 (wr (w_2 + 1)))]) (O' := [(2, .box [.int .i64 0, .int .i64 0, .nils, .nils]), (3, .arr (List.map I r_1_6)), (4, .box [.int .i64 t0.fOp, .int .i64 t0.fN, .rs 3, .rs 20]), (20, .arr (List.map GTerm_O (out_4 ++ [r_5_3])))]) (by kernel_rfl) trivial (by kernel_rfl) (by kernel_rfl) ?_
      refine loopQ_norm ?_
      exact WpL.view (fun a w hv => SRx.renL [(10, 20)] hv (by kernel_rfl) (by kernel_rfl) (by kernel_rfl)) (impl_copyTerm_l0_ih _ _ h c hc)
    · refine Wp.condF (b := (decide (w_2 < (t0.fKids.length : Int)))) (by kernel_rfl) (by kernel_rfl) hb_5 ?_
      refine Wp.exitN (i := 0) (by kernel_rfl) ?_
      refine seqQ_exit ?_
      refine loopQ_exit ?_
      obtain rfl := Option.some.inj h
      exact Into.view (fun a w hv => SRx.renL [] hv (by kernel_rfl) (by kernel_rfl) (by kernel_rfl))
theorem impl_copyTerm_s : ∀ p r, impl_copyTerm p = some r → M_impl_copyTerm p r := impl_copyTerm_all.1
theorem impl_copyTerm_l0_s : ∀ p r, impl_copyTerm_l0 p = some r → M_impl_copyTerm_l0 p r := impl_copyTerm_all.2
def impl_replaced (p : GTerm × (List Int) × GTerm) : Option (GTerm) :=
  match p with
  | (t0, path1, u2) =>
    if ((path1.length : Int) == 0) = true then
      (impl_copyTerm u2) >>= fun r_2_1 =>
      some r_2_1
    else
      (impl_copyTerm t0) >>= fun r_3_1 =>
      (idx path1 0) >>= fun e_4_3 =>
      (idx path1 0) >>= fun e_4_8 =>
      (idx t0.fKids e_4_8) >>= fun e_4_10 =>
      (cut path1 (some 1) none none) >>= fun c_4_13 =>
      (impl_replaced (e_4_10, c_4_13, u2)) >>= fun r_4_15 =>
      (idx r_3_1.fKids e_4_3) >>= fun e_4_16 =>
      some (GTerm.mk r_3_1.fOp r_3_1.fN r_3_1.fType (List.set r_3_1.fKids (Int.toNat e_4_3) r_4_15))
  partial_fixpoint
def M_impl_replaced (p : GTerm × (List Int) × GTerm) (r : GTerm) : Prop :=
  match p with
  | (t0, path1, u2) => FnSound Try.prog 84 [.agg [.int .i64 t0.fOp, .int .i64 t0.fN, .sl (List.map I t0.fType), .sl (List.map GTerm_S t0.fKids)], .sl (List.map I path1), .agg [.int .i64 u2.fOp, .int .i64 u2.fN, .sl (List.map I u2.fType), .sl (List.map GTerm_S u2.fKids)]] (.agg [.int .i64 r.fOp, .int .i64 r.fN, .osl (List.map I r.fType), .osl (List.map GTerm_O r.fKids)]) []
theorem impl_replaced_s : ∀ p r, impl_replaced p = some r → M_impl_replaced p r := by
  refine impl_replaced.partial_correctness M_impl_replaced ?_
  rintro impl_replaced_f impl_replaced_ih ⟨t0, path1, u2⟩ r h
  show FnSound Try.prog 84 [.agg [.int .i64 t0.fOp, .int .i64 t0.fN, .sl (List.map I t0.fType), .sl (List.map GTerm_S t0.fKids)], .sl (List.map I path1), .agg [.int .i64 u2.fOp, .int .i64 u2.fN, .sl (List.map I u2.fType), .sl (List.map GTerm_S u2.fKids)]] (.agg [.int .i64 r.fOp, .int .i64 r.fN, .osl (List.map I r.fType), .osl (List.map GTerm_O r.fKids)]) []
  refine FnSound.body0 tiok (fn := Try.f84) (code := B84) (by kernel_rfl) (by kernel_rfl) (by kernel_rfl) (by kernel_rfl) (nt := 33) (by kernel_rfl) (by kernel_rfl) (T := [(0, .agg [.int .i64 t0.fOp, .int .i64 t0.fN, .sl (List.map I t0.fType), .sl (List.map GTerm_S t0.fKids)]), (1, .sl (List.map I path1)), (2, .agg [.int .i64 u2.fOp, .int .i64 u2.fN, .sl (List.map I u2.fType), .sl (List.map GTerm_S u2.fKids)])]) (O := []) (by kernel_rfl) (by kernel_rfl) (fun c hc => ?_)
  refine Wp.seqN (by kernel_rfl) ?_
  refine Wp.reg tiok mix hc (by kernel_rfl) (ah := none) (rs := [some (.new 1), some (.new 2), some (.new 3)]) (kt := [1, 3, 5, 6]) (ko := [1, 2, 3]) (T' := [(1, .sl (List.map I path1)), (3, .ra 1 0), (5, .ra 2 0), (6, .ra 3 0)]) (O' := [(1, .box [.int .i64 t0.fOp, .int .i64 t0.fN, .sl (List.map I t0.fType), .sl (List.map GTerm_S t0.fKids)]), (2, .box [.int .i64 u2.fOp, .int .i64 u2.fN, .sl (List.map I u2.fType), .sl (List.map GTerm_S u2.fKids)]), (3, .box [.int .i64 0, .int .i64 0, .nils, .nils])]) (by kernel_rfl) trivial (by kernel_rfl) (by kernel_rfl) ?_
  refine seqQ_norm ?_
  refine Wp.seqN (by kernel_rfl) ?_
  refine Wp.seqN (by kernel_rfl) ?_
  refine Wp.reg tiok mix hc (by kernel_rfl) (ah := none) (rs := [some (.no), some (.eqv (.no) ⟨[(9, .int .i64 (path1.length : Int))], [], []⟩), some (.no)]) (kt := [1, 3, 5, 6, 10]) (ko := [1, 2, 3]) (T' := [(1, .sl (List.map I path1)), (3, .ra 1 0), (5, .ra 2 0), (6, .ra 3 0), (10, .bool ((path1.length : Int) == 0))]) (O' := [(1, .box [.int .i64 t0.fOp, .int .i64 t0.fN, .sl (List.map I t0.fType), .sl (List.map GTerm_S t0.fKids)]), (2, .box [.int .i64 u2.fOp, .int .i64 u2.fN, .sl (List.map I u2.fType), .sl (List.map GTerm_S u2.fKids)]), (3, .box [.int .i64 0, .int .i64 0, .nils, .nils])]) (by kernel_rfl) (And.intro (lenT (d := 9) I path1) trivial) (by kernel_rfl) (by kernel_rfl) ?_
  refine seqQ_norm ?_
  rcases itesome h with ⟨hb_1, h⟩ | ⟨hb_1, h⟩
  · refine Wp.condT (b := ((path1.length : Int) == 0)) (by kernel_rfl) (by kernel_rfl) hb_1 ?_
    refine Wp.seqN (by kernel_rfl) ?_
    obtain ⟨r_2_1, hr_2_1, h⟩ := bsome h
    refine Wp.reg tiok mix hc (by kernel_rfl) (ah := none) (rs := [some (.no), some (.call (.agg [.int .i64 r_2_1.fOp, .int .i64 r_2_1.fN, .osl (List.map I r_2_1.fType), .osl (List.map GTerm_O r_2_1.fKids)]) [] 4), some (.no)]) (kt := [6]) (ko := [3, 4, 5]) (T' := [(6, .ra 3 0)]) (O' := [(3, .box [.int .i64 r_2_1.fOp, .int .i64 r_2_1.fN, .rs 4, .rs 5]), (4, .arr (List.map I r_2_1.fType)), (5, .arr (List.map GTerm_O r_2_1.fKids))]) (by kernel_rfl) (And.intro (impl_copyTerm_s _ _ hr_2_1) (And.intro bod_73 (And.intro (Or.inl rfl : ([] : List Nat) = [] ∨ noSh (.agg [.int .i64 r_2_1.fOp, .int .i64 r_2_1.fN, .osl (List.map I r_2_1.fType), .osl (List.map GTerm_O r_2_1.fKids)]) = true) trivial))) (by kernel_rfl) (by kernel_rfl) ?_
    refine seqQ_norm ?_
    refine Wp.retN (by kernel_rfl) ?_
    refine seqQ_ret ?_
    obtain rfl := Option.some.inj h
    exact RetQ.ret (fl := [true]) (by kernel_rfl)
  · refine Wp.condF (b := ((path1.length : Int) == 0)) (by kernel_rfl) (by kernel_rfl) hb_1 ?_
    refine Wp.skipN (by kernel_rfl) ?_
    refine seqQ_norm ?_
    refine Wp.seqN (by kernel_rfl) ?_
    obtain ⟨r_3_1, hr_3_1, h⟩ := bsome h
    refine Wp.reg tiok mix hc (by kernel_rfl) (ah := none) (rs := [some (.no), some (.call (.agg [.int .i64 r_3_1.fOp, .int .i64 r_3_1.fN, .osl (List.map I r_3_1.fType), .osl (List.map GTerm_O r_3_1.fKids)]) [] 6), some (.new 8), some (.no)]) (kt := [1, 3, 5, 6, 7]) (ko := [1, 2, 3, 6, 7, 8]) (T' := [(1, .sl (List.map I path1)), (3, .ra 1 0), (5, .ra 2 0), (6, .ra 3 0), (7, .ra 8 0)]) (O' := [(1, .box [.int .i64 t0.fOp, .int .i64 t0.fN, .sl (List.map I t0.fType), .sl (List.map GTerm_S t0.fKids)]), (2, .box [.int .i64 u2.fOp, .int .i64 u2.fN, .sl (List.map I u2.fType), .sl (List.map GTerm_S u2.fKids)]), (3, .box [.int .i64 0, .int .i64 0, .nils, .nils]), (6, .arr (List.map I r_3_1.fType)), (7, .arr (List.map GTerm_O r_3_1.fKids)), (8, .box [.int .i64 r_3_1.fOp, .int .i64 r_3_1.fN, .rs 6, .rs 7])]) (by kernel_rfl) (And.intro (impl_copyTerm_s _ _ hr_3_1) (And.intro bod_73 (And.intro (Or.inl rfl : ([] : List Nat) = [] ∨ noSh (.agg [.int .i64 r_3_1.fOp, .int .i64 r_3_1.fN, .osl (List.map I r_3_1.fType), .osl (List.map GTerm_O r_3_1.fKids)]) = true) trivial))) (by kernel_rfl) (by kernel_rfl) ?_
    refine seqQ_norm ?_
    refine Wp.seqN (by kernel_rfl) ?_
    obtain ⟨e_4_3, hi_4_3, h⟩ := bsome h
    obtain ⟨e_4_8, hi_4_8, h⟩ := bsome h
    obtain ⟨e_4_10, hi_4_10, h⟩ := bsome h
    obtain ⟨c_4_13, hs_4_13, h⟩ := bsome h
    obtain ⟨r_4_15, hr_4_15, h⟩ := bsome h
    obtain ⟨e_4_16, hi_4_16, h⟩ := bsome h
    refine Wp.reg tiok mix hc (by kernel_rfl) (ah := (some [[], [0], [], [2], [2, 3], [], [5], [], [7], [7, 8], [5, 6, 7, 8, 9], [5, 6, 7, 8, 9, 10], [], [12], [], [5, 6, 7, 8, 9, 10, 11, 12, 13, 14], [0, 1, 2, 3, 4, 5, 6, 7, 8, 9, 10, 11, 12, 13, 14, 15], [0, 1, 2, 3, 4, 5, 6, 7, 8, 9, 10, 11, 12, 13, 14, 15, 16]])) (rs := [some (.no), some (.no), some (.no), some (.el (.int .i64 e_4_3)), some (.no), some (.no), some (.no), some (.no), some (.el (.int .i64 e_4_8)), some (.no), some (.el (.agg [.int .i64 e_4_10.fOp, .int .i64 e_4_10.fN, .sl (List.map I e_4_10.fType), .sl (List.map GTerm_S e_4_10.fKids)])), some (.no), some (.no), some (.eqv (.no) ⟨[(28, .sl (List.map I c_4_13))], [], []⟩), some (.no), some (.call (.agg [.int .i64 r_4_15.fOp, .int .i64 r_4_15.fN, .osl (List.map I r_4_15.fType), .osl (List.map GTerm_O r_4_15.fKids)]) [] 9), some (.no), some (.eqv (.mk 0 true) ⟨[], [(7, some (.arr (List.map GTerm_O (List.set r_3_1.fKids (Int.toNat e_4_3) r_4_15)))), (9, none), (10, none)], []⟩)]) (kt := [6, 7]) (ko := [3, 6, 7, 8]) (T' := [(6, .ra 3 0), (7, .ra 8 0)]) (O' := [(3, .box [.int .i64 0, .int .i64 0, .nils, .nils]), (6, .arr (List.map I r_3_1.fType)), (7, .arr (List.map GTerm_O (List.set r_3_1.fKids (Int.toNat e_4_3) r_4_15))), (8, .box [.int .i64 r_3_1.fOp, .int .i64 r_3_1.fN, .rs 6, .rs 7])]) (by kernel_rfl) (And.intro (idx_sl (enc := I) (x := .int .i64 e_4_3) hi_4_3 (eq_I e_4_3)) (And.intro (idx_sl (enc := I) (x := .int .i64 e_4_8) hi_4_8 (eq_I e_4_8)) (And.intro (idx_sl (enc := GTerm_S) (x := .agg [.int .i64 e_4_10.fOp, .int .i64 e_4_10.fN, .sl (List.map I e_4_10.fType), .sl (List.map GTerm_S e_4_10.fKids)]) hi_4_10 (eq_GTerm_S e_4_10)) (And.intro (cut_wr (d := 28) I hs_4_13) (And.intro (cut_ob (enc := I) (sz := 1) sz_I hs_4_13) (And.intro (impl_replaced_ih _ _ hr_4_15) (And.intro bod_84 (And.intro (Or.inl rfl : ([] : List Nat) = [] ∨ noSh (.agg [.int .i64 r_4_15.fOp, .int .i64 r_4_15.fN, .osl (List.map I r_4_15.fType), .osl (List.map GTerm_O r_4_15.fKids)]) = true) (And.intro (idx_own (enc := GTerm_O) hi_4_16) (And.intro (congrArg (fun z => (⟨[], [(7, some (.arr z)), (9, none), (10, none)], []⟩ : Wr)) (set_row (enc := GTerm_O) (i := Int.toNat e_4_3) (l := r_3_1.fKids) (v := r_4_15) (x := AV.agg [.int .i64 r_4_15.fOp, .int .i64 r_4_15.fN, AV.osl (List.map I r_4_15.fType), AV.osl (List.map GTerm_O r_4_15.fKids)]) (eq_GTerm_O r_4_15))) (And.intro (own_set (enc := GTerm_O) (sz := 4) sz_GTerm_O hi_4_16) trivial))))))))))) (by kernel_rfl) (by kernel_rfl) ?_
    refine seqQ_norm ?_
    refine Wp.seqN (by kernel_rfl) ?_
    refine Wp.reg tiok mix hc (by kernel_rfl) (ah := none) (rs := [some (.no), some (.no)]) (kt := [6]) (ko := [3, 6, 7]) (T' := [(6, .ra 3 0)]) (O' := [(3, .box [.int .i64 r_3_1.fOp, .int .i64 r_3_1.fN, .rs 6, .rs 7]), (6, .arr (List.map I r_3_1.fType)), (7, .arr (List.map GTerm_O (List.set r_3_1.fKids (Int.toNat e_4_3) r_4_15)))]) (by kernel_rfl) trivial (by kernel_rfl) (by kernel_rfl) ?_
    refine seqQ_norm ?_
    refine Wp.retN (by kernel_rfl) ?_
    obtain rfl := Option.some.inj h
    exact RetQ.ret (fl := [true]) (by kernel_rfl)
def impl_ReplaceAt (p : GTerm × (List Int) × GTerm) : Option (GTerm × Bool) :=
  match p with
  | (t0, path1, u2) =>
    (impl_IsWritten t0) >>= fun r_1_1 =>
    if r_1_1 = true then
      (impl_at (t0, path1)) >>= fun (r_3_2_0, r_3_2_1) =>
      (
        if r_3_2_1 = true then
          (impl_check_Kimpl_ReplaceAt_c1_Kimpl_ReplaceAt_c2 (u2, 1048576, 0)) >>= fun r_4_4 =>
          some ((decide (r_4_4 > 400)))
        else
          some (true)
      ) >>= fun v_2 =>
      if v_2 = true then
        some ((GTerm.mk 0 0 [] []), false)
      else
        (impl_replaced (t0, path1, u2)) >>= fun r_6_3 =>
        (impl_IsWritten r_6_3) >>= fun r_7_1 =>
        if r_7_1 = true then
          some (r_6_3, true)
        else
          some ((GTerm.mk 0 0 [] []), false)
    else
      some ((GTerm.mk 0 0 [] []), false)
def M_impl_ReplaceAt (p : GTerm × (List Int) × GTerm) (r : GTerm × Bool) : Prop :=
  match p with
  | (t0, path1, u2) => FnSound Try.prog 43 [.agg [.int .i64 t0.fOp, .int .i64 t0.fN, .sl (List.map I t0.fType), .sl (List.map GTerm_S t0.fKids)], .sl (List.map I path1), .agg [.int .i64 u2.fOp, .int .i64 u2.fN, .sl (List.map I u2.fType), .sl (List.map GTerm_S u2.fKids)]] (.tup [.agg [.int .i64 r.1.fOp, .int .i64 r.1.fN, .osl (List.map I r.1.fType), .osl (List.map GTerm_O r.1.fKids)], .bool r.2]) []
theorem impl_ReplaceAt_s : ∀ p r, impl_ReplaceAt p = some r → M_impl_ReplaceAt p r := by
  rintro ⟨t0, path1, u2⟩ r h
  unfold impl_ReplaceAt at h
  show FnSound Try.prog 43 [.agg [.int .i64 t0.fOp, .int .i64 t0.fN, .sl (List.map I t0.fType), .sl (List.map GTerm_S t0.fKids)], .sl (List.map I path1), .agg [.int .i64 u2.fOp, .int .i64 u2.fN, .sl (List.map I u2.fType), .sl (List.map GTerm_S u2.fKids)]] (.tup [.agg [.int .i64 r.1.fOp, .int .i64 r.1.fN, .osl (List.map I r.1.fType), .osl (List.map GTerm_O r.1.fKids)], .bool r.2]) []
  refine FnSound.body0 tiok (fn := Try.f43) (code := B43) (by kernel_rfl) (by kernel_rfl) (by kernel_rfl) (by kernel_rfl) (nt := 38) (by kernel_rfl) (by kernel_rfl) (T := [(0, .agg [.int .i64 t0.fOp, .int .i64 t0.fN, .sl (List.map I t0.fType), .sl (List.map GTerm_S t0.fKids)]), (1, .sl (List.map I path1)), (2, .agg [.int .i64 u2.fOp, .int .i64 u2.fN, .sl (List.map I u2.fType), .sl (List.map GTerm_S u2.fKids)])]) (O := []) (by kernel_rfl) (by kernel_rfl) (fun c hc => ?_)
  refine Wp.seqN (by kernel_rfl) ?_
  refine Wp.reg tiok mix hc (by kernel_rfl) (ah := none) (rs := [some (.new 1), some (.new 2), some (.new 3), some (.no)]) (kt := [1, 3, 5, 6]) (ko := [1, 2, 3]) (T' := [(1, .sl (List.map I path1)), (3, .ra 1 0), (5, .ra 2 0), (6, .ra 3 0)]) (O' := [(1, .box [.int .i64 t0.fOp, .int .i64 t0.fN, .sl (List.map I t0.fType), .sl (List.map GTerm_S t0.fKids)]), (2, .box [.int .i64 u2.fOp, .int .i64 u2.fN, .sl (List.map I u2.fType), .sl (List.map GTerm_S u2.fKids)]), (3, .box [.int .i64 0, .int .i64 0, .nils, .nils])]) (by kernel_rfl) trivial (by kernel_rfl) (by kernel_rfl) ?_
  refine seqQ_norm ?_
  refine Wp.seqN (by kernel_rfl) ?_
  refine Wp.seqN (by kernel_rfl) ?_
  obtain ⟨r_1_1, hr_1_1, h⟩ := bsome h
  refine Wp.reg tiok mix hc (by kernel_rfl) (ah := none) (rs := [some (.no), some (.call (.bool r_1_1) [] 1), some (.no)]) (kt := [1, 3, 5, 6, 13]) (ko := [1, 2, 3]) (T' := [(1, .sl (List.map I path1)), (3, .ra 1 0), (5, .ra 2 0), (6, .ra 3 0), (13, .bool (!r_1_1))]) (O' := [(1, .box [.int .i64 t0.fOp, .int .i64 t0.fN, .sl (List.map I t0.fType), .sl (List.map GTerm_S t0.fKids)]), (2, .box [.int .i64 u2.fOp, .int .i64 u2.fN, .sl (List.map I u2.fType), .sl (List.map GTerm_S u2.fKids)]), (3, .box [.int .i64 0, .int .i64 0, .nils, .nils])]) (by kernel_rfl) (And.intro (impl_IsWritten_s _ _ hr_1_1) (And.intro bod_61 (And.intro (Or.inl rfl : ([] : List Nat) = [] ∨ noSh (.bool r_1_1) = true) trivial))) (by kernel_rfl) (by kernel_rfl) ?_
  refine seqQ_norm ?_
  rcases itesome h with ⟨hb_1, h⟩ | ⟨hb_1, h⟩
  · refine Wp.condF (b := (!r_1_1)) (by kernel_rfl) (by kernel_rfl) (nF hb_1) ?_
    refine Wp.skipN (by kernel_rfl) ?_
    refine seqQ_norm ?_
    refine Wp.seqN (by kernel_rfl) ?_
    refine Wp.seqN (by kernel_rfl) ?_
    obtain ⟨⟨r_3_2_0, r_3_2_1⟩, hr_3_2, h⟩ := bsome h
    refine Wp.reg tiok mix hc (by kernel_rfl) (ah := none) (rs := [some (.no), some (.no), some (.call (.tup [.agg [.int .i64 r_3_2_0.fOp, .int .i64 r_3_2_0.fN, .sl (List.map I r_3_2_0.fType), .sl (List.map GTerm_S r_3_2_0.fKids)], .bool r_3_2_1]) [] 1), some (.no), some (.no), some (.no), some (.new 4), some (.no), some (.no)]) (kt := [1, 3, 5, 6, 9]) (ko := [1, 2, 3]) (T' := [(1, .sl (List.map I path1)), (3, .ra 1 0), (5, .ra 2 0), (6, .ra 3 0), (9, .bool r_3_2_1)]) (O' := [(1, .box [.int .i64 t0.fOp, .int .i64 t0.fN, .sl (List.map I t0.fType), .sl (List.map GTerm_S t0.fKids)]), (2, .box [.int .i64 u2.fOp, .int .i64 u2.fN, .sl (List.map I u2.fType), .sl (List.map GTerm_S u2.fKids)]), (3, .box [.int .i64 0, .int .i64 0, .nils, .nils])]) (by kernel_rfl) (And.intro (impl_at_s _ _ hr_3_2) (And.intro bod_72 (And.intro (Or.inl rfl : ([] : List Nat) = [] ∨ noSh (.tup [.agg [.int .i64 r_3_2_0.fOp, .int .i64 r_3_2_0.fN, .sl (List.map I r_3_2_0.fType), .sl (List.map GTerm_S r_3_2_0.fKids)], .bool r_3_2_1]) = true) trivial))) (by kernel_rfl) (by kernel_rfl) ?_
    refine seqQ_norm ?_
    refine Wp.seqN (by kernel_rfl) ?_
    obtain ⟨v_2, hj_3, h⟩ := bsome h
    refine Wp.into (x := .normal) (mkS [(1, .sl (List.map I path1)), (3, .ra 1 0), (5, .ra 2 0), (6, .ra 3 0), (27, .bool v_2)] [(1, .box [.int .i64 t0.fOp, .int .i64 t0.fN, .sl (List.map I t0.fType), .sl (List.map GTerm_S t0.fKids)]), (2, .box [.int .i64 u2.fOp, .int .i64 u2.fN, .sl (List.map I u2.fType), .sl (List.map GTerm_S u2.fKids)]), (3, .box [.int .i64 0, .int .i64 0, .nils, .nils])]) ?_ ?_
    · replace h := hj_3
      rcases itesome h with ⟨hb_4_0, h⟩ | ⟨hb_4_0, h⟩
      · obtain ⟨r_4_4, hr_4_4, h⟩ := bsome h
        refine Wp.reg tiok mix hc (by kernel_rfl) (ah := none) (rs := [some (.no), some (.no), some (.no), some (.no), some (.call (.int .i64 r_4_4) [] 1), some (.no), some (.cond false)]) (kt := [1, 3, 5, 6, 27]) (ko := [1, 2, 3]) (T' := [(1, .sl (List.map I path1)), (3, .ra 1 0), (5, .ra 2 0), (6, .ra 3 0), (27, .bool (decide (r_4_4 > 400)))]) (O' := [(1, .box [.int .i64 t0.fOp, .int .i64 t0.fN, .sl (List.map I t0.fType), .sl (List.map GTerm_S t0.fKids)]), (2, .box [.int .i64 u2.fOp, .int .i64 u2.fN, .sl (List.map I u2.fType), .sl (List.map GTerm_S u2.fKids)]), (3, .box [.int .i64 0, .int .i64 0, .nils, .nils])]) (by kernel_rfl) (And.intro (nF hb_4_0) (And.intro (nF hb_4_0) (And.intro (impl_check_Kimpl_ReplaceAt_c1_Kimpl_ReplaceAt_c2_s _ _ hr_4_4) (And.intro bod_81 (And.intro (Or.inl rfl : ([] : List Nat) = [] ∨ noSh (.int .i64 r_4_4) = true) (And.intro (nF hb_4_0) (And.intro (nF hb_4_0) trivial))))))) (by kernel_rfl) (by kernel_rfl) ?_
        obtain rfl := Option.some.inj h
        exact Into.mk
      · refine Wp.reg tiok mix hc (by kernel_rfl) (ah := none) (rs := [some (.no), some (.no), some (.no), none, none, none, some (.cond true)]) (kt := [1, 3, 5, 6, 27]) (ko := [1, 2, 3]) (T' := [(1, .sl (List.map I path1)), (3, .ra 1 0), (5, .ra 2 0), (6, .ra 3 0), (27, .bool true)]) (O' := [(1, .box [.int .i64 t0.fOp, .int .i64 t0.fN, .sl (List.map I t0.fType), .sl (List.map GTerm_S t0.fKids)]), (2, .box [.int .i64 u2.fOp, .int .i64 u2.fN, .sl (List.map I u2.fType), .sl (List.map GTerm_S u2.fKids)]), (3, .box [.int .i64 0, .int .i64 0, .nils, .nils])]) (by kernel_rfl) (And.intro (neF (nT hb_4_0) : (!r_3_2_1) ≠ false) (And.intro (neF (nT hb_4_0) : (!r_3_2_1) ≠ false) (And.intro (neF (nT hb_4_0) : (!r_3_2_1) ≠ false) (And.intro (nT hb_4_0) trivial)))) (by kernel_rfl) (by kernel_rfl) ?_
        obtain rfl := Option.some.inj h
        exact Into.mk
    · clear hj_3
      refine seqQ_norm ?_
      rcases itesome h with ⟨hb_4, h⟩ | ⟨hb_4, h⟩
      · refine Wp.condT (b := v_2) (by kernel_rfl) (by kernel_rfl) hb_4 ?_
        refine Wp.seqN (by kernel_rfl) ?_
        refine Wp.reg tiok mix hc (by kernel_rfl) (ah := none) (rs := [some (.no), some (.no), some (.no)]) (kt := [6, 7]) (ko := [3]) (T' := [(6, .ra 3 0), (7, .bool false)]) (O' := [(3, .box [.int .i64 0, .int .i64 0, .nils, .nils])]) (by kernel_rfl) trivial (by kernel_rfl) (by kernel_rfl) ?_
        refine seqQ_norm ?_
        refine Wp.retN (by kernel_rfl) ?_
        refine seqQ_ret ?_
        obtain rfl := Option.some.inj h
        exact RetQ.ret (fl := [true, true]) (by kernel_rfl)
      · refine Wp.condF (b := v_2) (by kernel_rfl) (by kernel_rfl) hb_4 ?_
        refine Wp.skipN (by kernel_rfl) ?_
        refine seqQ_norm ?_
        refine Wp.seqN (by kernel_rfl) ?_
        obtain ⟨r_6_3, hr_6_3, h⟩ := bsome h
        refine Wp.reg tiok mix hc (by kernel_rfl) (ah := none) (rs := [some (.no), some (.no), some (.no), some (.call (.agg [.int .i64 r_6_3.fOp, .int .i64 r_6_3.fN, .osl (List.map I r_6_3.fType), .osl (List.map GTerm_O r_6_3.fKids)]) [] 5), some (.new 7), some (.no)]) (kt := [6, 10]) (ko := [3, 5, 6, 7]) (T' := [(6, .ra 3 0), (10, .ra 7 0)]) (O' := [(3, .box [.int .i64 0, .int .i64 0, .nils, .nils]), (5, .arr (List.map I r_6_3.fType)), (6, .arr (List.map GTerm_O r_6_3.fKids)), (7, .box [.int .i64 r_6_3.fOp, .int .i64 r_6_3.fN, .rs 5, .rs 6])]) (by kernel_rfl) (And.intro (impl_replaced_s _ _ hr_6_3) (And.intro bod_84 (And.intro (Or.inl rfl : ([] : List Nat) = [] ∨ noSh (.agg [.int .i64 r_6_3.fOp, .int .i64 r_6_3.fN, .osl (List.map I r_6_3.fType), .osl (List.map GTerm_O r_6_3.fKids)]) = true) trivial))) (by kernel_rfl) (by kernel_rfl) ?_
        refine seqQ_norm ?_
        refine Wp.seqN (by kernel_rfl) ?_
        refine Wp.seqN (by kernel_rfl) ?_
        obtain ⟨r_7_1, hr_7_1, h⟩ := bsome h
        refine Wp.reg tiok mix hc (by kernel_rfl) (ah := none) (rs := [some (.no), some (.call (.bool r_7_1) [] 1), some (.no)]) (kt := [6, 10, 35]) (ko := [3, 5, 6, 7]) (T' := [(6, .ra 3 0), (10, .ra 7 0), (35, .bool (!r_7_1))]) (O' := [(3, .box [.int .i64 0, .int .i64 0, .nils, .nils]), (5, .arr (List.map I r_6_3.fType)), (6, .arr (List.map GTerm_O r_6_3.fKids)), (7, .box [.int .i64 r_6_3.fOp, .int .i64 r_6_3.fN, .rs 5, .rs 6])]) (by kernel_rfl) (And.intro (FnSound.args (A1 := [.agg [.int .i64 r_6_3.fOp, .int .i64 r_6_3.fN, .sl (shares (List.map I r_6_3.fType)), .sl (shares (List.map GTerm_O r_6_3.fKids))]]) (A2 := [.agg [.int .i64 r_6_3.fOp, .int .i64 r_6_3.fN, .sl (List.map I r_6_3.fType), .sl (List.map GTerm_S r_6_3.fKids)]]) (by simp only [List.map_nil, sh_GTerm_O, sh_I]) (impl_IsWritten_s _ _ hr_7_1)) (And.intro bod_61 (And.intro (Or.inr rfl : ([5, 6] : List Nat) = [] ∨ noSh (.bool r_7_1) = true) trivial))) (by kernel_rfl) (by kernel_rfl) ?_
        refine seqQ_norm ?_
        rcases itesome h with ⟨hb_5, h⟩ | ⟨hb_5, h⟩
        · refine Wp.condF (b := (!r_7_1)) (by kernel_rfl) (by kernel_rfl) (nF hb_5) ?_
          refine Wp.skipN (by kernel_rfl) ?_
          refine seqQ_norm ?_
          refine Wp.seqN (by kernel_rfl) ?_
          refine Wp.reg tiok mix hc (by kernel_rfl) (ah := none) (rs := [some (.no), some (.no), some (.no)]) (kt := [6, 7]) (ko := [3, 5, 6]) (T' := [(6, .ra 3 0), (7, .bool true)]) (O' := [(3, .box [.int .i64 r_6_3.fOp, .int .i64 r_6_3.fN, .rs 5, .rs 6]), (5, .arr (List.map I r_6_3.fType)), (6, .arr (List.map GTerm_O r_6_3.fKids))]) (by kernel_rfl) trivial (by kernel_rfl) (by kernel_rfl) ?_
          refine seqQ_norm ?_
          refine Wp.retN (by kernel_rfl) ?_
          obtain rfl := Option.some.inj h
          exact RetQ.ret (fl := [true, true]) (by kernel_rfl)
        · refine Wp.condT (b := (!r_7_1)) (by kernel_rfl) (by kernel_rfl) (nT hb_5) ?_
          refine Wp.seqN (by kernel_rfl) ?_
          refine Wp.reg tiok mix hc (by kernel_rfl) (ah := none) (rs := [some (.no), some (.no), some (.no)]) (kt := [6, 7]) (ko := [3]) (T' := [(6, .ra 3 0), (7, .bool false)]) (O' := [(3, .box [.int .i64 0, .int .i64 0, .nils, .nils])]) (by kernel_rfl) trivial (by kernel_rfl) (by kernel_rfl) ?_
          refine seqQ_norm ?_
          refine Wp.retN (by kernel_rfl) ?_
          refine seqQ_ret ?_
          obtain rfl := Option.some.inj h
          exact RetQ.ret (fl := [true, true]) (by kernel_rfl)
  · refine Wp.condT (b := (!r_1_1)) (by kernel_rfl) (by kernel_rfl) (nT hb_1) ?_
    refine Wp.seqN (by kernel_rfl) ?_
    refine Wp.reg tiok mix hc (by kernel_rfl) (ah := none) (rs := [some (.no), some (.no), some (.no)]) (kt := [6, 7]) (ko := [3]) (T' := [(6, .ra 3 0), (7, .bool false)]) (O' := [(3, .box [.int .i64 0, .int .i64 0, .nils, .nils])]) (by kernel_rfl) trivial (by kernel_rfl) (by kernel_rfl) ?_
    refine seqQ_norm ?_
    refine Wp.retN (by kernel_rfl) ?_
    refine seqQ_ret ?_
    obtain rfl := Option.some.inj h
    exact RetQ.ret (fl := [true, true]) (by kernel_rfl)
def laws_eqIntS_F1 (c : Ctx) : (Unit) ⊕ (Bool) → Exit → AState → Prop
  | .inl _ => Into c (.exit 0) (mkS [] [])
  | .inr r => RetE TIx Try.f29 [] (.bool r)
def laws_eqIntS_l0 (p : (List Int) × (List Int) × Int) : Option ((Unit) ⊕ (Bool)) :=
  match p with
  | (a0, b1, i_4) =>
    if (decide (i_4 < (a0.length : Int))) = true then
      (idx a0 i_4) >>= fun e_6_2 =>
      (idx b1 i_4) >>= fun e_6_6 =>
      if (e_6_2 != e_6_6) = true then
        some (.inr false)
      else
        laws_eqIntS_l0 (a0, b1, (wr (i_4 + 1)))
    else
      some (.inl ())
  partial_fixpoint
def M_laws_eqIntS_l0 (p : (List Int) × (List Int) × Int) (fl : (Unit) ⊕ (Bool)) : Prop :=
  match p with
  | (a0, b1, i_4) => ∀ c : Ctx, c.nt = 26 → WpL Try.prog c (cl (cl (cr (cl (cr (cr B29)))))) (laws_eqIntS_F1 c fl) (mkS [(0, .sl (List.map I a0)), (1, .sl (List.map I b1)), (5, .int .i64 i_4)] [])
theorem laws_eqIntS_l0_s : ∀ p r, laws_eqIntS_l0 p = some r → M_laws_eqIntS_l0 p r := by
  refine laws_eqIntS_l0.partial_correctness M_laws_eqIntS_l0 ?_
  rintro laws_eqIntS_l0_f laws_eqIntS_l0_ih ⟨a0, b1, i_4⟩ r h
  intro c hc
  show WpL Try.prog c (cl (cl (cr (cl (cr (cr B29)))))) (laws_eqIntS_F1 c r) (mkS [(0, .sl (List.map I a0)), (1, .sl (List.map I b1)), (5, .int .i64 i_4)] [])
  refine WpL.step ?_
  refine Wp.seqN (by kernel_rfl) ?_
  refine Wp.seqN (by kernel_rfl) ?_
  refine Wp.reg tiok mix hc (by kernel_rfl) (ah := none) (rs := [some (.no), some (.no), some (.eqv (.no) ⟨[(13, .int .i64 (a0.length : Int))], [], []⟩), some (.no)]) (kt := [0, 1, 5, 14]) (ko := []) (T' := [(0, .sl (List.map I a0)), (1, .sl (List.map I b1)), (5, .int .i64 i_4), (14, .bool (decide (i_4 < (a0.length : Int))))]) (O' := []) (by kernel_rfl) (And.intro (lenT (d := 13) I a0) trivial) (by kernel_rfl) (by kernel_rfl) ?_
  refine seqQ_norm ?_
  rcases itesome h with ⟨hb_5, h⟩ | ⟨hb_5, h⟩
  · refine Wp.condT (b := (decide (i_4 < (a0.length : Int)))) (by kernel_rfl) (by kernel_rfl) hb_5 ?_
    refine Wp.skipN (by kernel_rfl) ?_
    refine seqQ_norm ?_
    refine Wp.seqN (by kernel_rfl) ?_
    refine Wp.blockN (i := 1) (by kernel_rfl) ?_
    refine Wp.seqN (by kernel_rfl) ?_
    obtain ⟨e_6_2, hi_6_2, h⟩ := bsome h
    obtain ⟨e_6_6, hi_6_6, h⟩ := bsome h
    refine Wp.reg tiok mix hc (by kernel_rfl) (ah := (some [[], [], [0, 1], [0, 1, 2], [], [], [4, 5], [4, 5, 6], [0, 1, 2, 3, 4, 5, 6, 7]])) (rs := [some (.no), some (.no), some (.el (.int .i64 e_6_2)), some (.no), some (.no), some (.no), some (.el (.int .i64 e_6_6)), some (.no), some (.no)]) (kt := [0, 1, 5, 25]) (ko := []) (T' := [(0, .sl (List.map I a0)), (1, .sl (List.map I b1)), (5, .int .i64 i_4), (25, .bool (e_6_2 != e_6_6))]) (O' := []) (by kernel_rfl) (And.intro (idx_sl (enc := I) (x := .int .i64 e_6_2) hi_6_2 (eq_I e_6_2)) (And.intro (idx_sl (enc := I) (x := .int .i64 e_6_6) hi_6_6 (eq_I e_6_6)) trivial)) (by kernel_rfl) (by kernel_rfl) ?_
    refine seqQ_norm ?_
    rcases itesome h with ⟨hb_6, h⟩ | ⟨hb_6, h⟩
    · refine Wp.condT (b := (e_6_2 != e_6_6)) (by kernel_rfl) (by kernel_rfl) hb_6 ?_
      refine Wp.seqN (by kernel_rfl) ?_
      refine Wp.reg tiok mix hc (by kernel_rfl) (ah := none) (rs := [some (.no)]) (kt := [4]) (ko := []) (T' := [(4, .bool false)]) (O' := []) (by kernel_rfl) trivial (by kernel_rfl) (by kernel_rfl) ?_
      refine seqQ_norm ?_
      refine Wp.retN (by kernel_rfl) ?_
      refine blockQ_ret ?_
      refine seqQ_ret ?_
      refine loopQ_ret ?_
      obtain rfl := Option.some.inj h
      exact RetE.ret (fl := [true]) (by kernel_rfl)
    · refine Wp.condF (b := (e_6_2 != e_6_6)) (by kernel_rfl) (by kernel_rfl) hb_6 ?_
      refine Wp.skipN (by kernel_rfl) ?_
      refine blockQ_norm ?_
      refine seqQ_norm ?_
      refine Wp.reg tiok mix hc (by kernel_rfl) (ah := none) (rs := [some (.no), some (.no), some (.no)]) (kt := [0, 1, 5]) (ko := []) (T' := [(0, .sl (List.map I a0)), (1, .sl (List.map I b1)), (5, .int .i64 (wr (i_4 + 1)))]) (O' := []) (by kernel_rfl) trivial (by kernel_rfl) (by kernel_rfl) ?_
      refine loopQ_norm ?_
      exact (laws_eqIntS_l0_ih _ _ h c hc)
  · refine Wp.condF (b := (decide (i_4 < (a0.length : Int)))) (by kernel_rfl) (by kernel_rfl) hb_5 ?_
    refine Wp.exitN (i := 0) (by kernel_rfl) ?_
    refine seqQ_exit ?_
    refine loopQ_exit ?_
    obtain rfl := Option.some.inj h
    exact Into.view (fun a w hv => SRx.renL [] hv (by kernel_rfl) (by kernel_rfl) (by kernel_rfl))
def laws_eqIntS (p : (List Int) × (List Int)) : Option (Bool) :=
  match p with
  | (a0, b1) =>
    if ((a0.length : Int) != (b1.length : Int)) = true then
      some false
    else
      (laws_eqIntS_l0 (a0, b1, 0)) >>= fun fl => match fl with
      | .inl () =>
        some true
      | .inr r =>
        some r
def M_laws_eqIntS (p : (List Int) × (List Int)) (r : Bool) : Prop :=
  match p with
  | (a0, b1) => FnSound Try.prog 29 [.sl (List.map I a0), .sl (List.map I b1)] (.bool r) []
theorem laws_eqIntS_s : ∀ p r, laws_eqIntS p = some r → M_laws_eqIntS p r := by
  rintro ⟨a0, b1⟩ r h
  unfold laws_eqIntS at h
  show FnSound Try.prog 29 [.sl (List.map I a0), .sl (List.map I b1)] (.bool r) []
  refine FnSound.body0 tiok (fn := Try.f29) (code := B29) (by kernel_rfl) (by kernel_rfl) (by kernel_rfl) (by kernel_rfl) (nt := 26) (by kernel_rfl) (by kernel_rfl) (T := [(0, .sl (List.map I a0)), (1, .sl (List.map I b1))]) (O := []) (by kernel_rfl) (by kernel_rfl) (fun c hc => ?_)
  refine Wp.seqN (by kernel_rfl) ?_
  refine Wp.reg tiok mix hc (by kernel_rfl) (ah := none) (rs := [some (.no)]) (kt := [0, 1]) (ko := []) (T' := [(0, .sl (List.map I a0)), (1, .sl (List.map I b1))]) (O' := []) (by kernel_rfl) trivial (by kernel_rfl) (by kernel_rfl) ?_
  refine seqQ_norm ?_
  refine Wp.seqN (by kernel_rfl) ?_
  refine Wp.seqN (by kernel_rfl) ?_
  refine Wp.reg tiok mix hc (by kernel_rfl) (ah := none) (rs := [some (.no), some (.eqv (.no) ⟨[(7, .int .i64 (a0.length : Int))], [], []⟩), some (.no), some (.eqv (.no) ⟨[(9, .int .i64 (b1.length : Int))], [], []⟩), some (.no)]) (kt := [0, 1, 10]) (ko := []) (T' := [(0, .sl (List.map I a0)), (1, .sl (List.map I b1)), (10, .bool ((a0.length : Int) != (b1.length : Int)))]) (O' := []) (by kernel_rfl) (And.intro (lenT (d := 7) I a0) (And.intro (lenT (d := 9) I b1) trivial)) (by kernel_rfl) (by kernel_rfl) ?_
  refine seqQ_norm ?_
  rcases itesome h with ⟨hb_1, h⟩ | ⟨hb_1, h⟩
  · refine Wp.condT (b := ((a0.length : Int) != (b1.length : Int))) (by kernel_rfl) (by kernel_rfl) hb_1 ?_
    refine Wp.seqN (by kernel_rfl) ?_
    refine Wp.reg tiok mix hc (by kernel_rfl) (ah := none) (rs := [some (.no)]) (kt := [4]) (ko := []) (T' := [(4, .bool false)]) (O' := []) (by kernel_rfl) trivial (by kernel_rfl) (by kernel_rfl) ?_
    refine seqQ_norm ?_
    refine Wp.retN (by kernel_rfl) ?_
    refine seqQ_ret ?_
    obtain rfl := Option.some.inj h
    exact RetQ.ret (fl := [true]) (by kernel_rfl)
  · refine Wp.condF (b := ((a0.length : Int) != (b1.length : Int))) (by kernel_rfl) (by kernel_rfl) hb_1 ?_
    refine Wp.skipN (by kernel_rfl) ?_
    refine seqQ_norm ?_
    refine Wp.seqN (by kernel_rfl) ?_
    refine Wp.seqN (by kernel_rfl) ?_
    refine Wp.reg tiok mix hc (by kernel_rfl) (ah := none) (rs := [some (.no)]) (kt := [0, 1, 5]) (ko := []) (T' := [(0, .sl (List.map I a0)), (1, .sl (List.map I b1)), (5, .int .i64 0)]) (O' := []) (by kernel_rfl) trivial (by kernel_rfl) (by kernel_rfl) ?_
    refine seqQ_norm ?_
    refine Wp.blockN (i := 0) (by kernel_rfl) ?_
    obtain ⟨fl, hl_7, h⟩ := bsome h
    have hL := laws_eqIntS_l0_s _ _ hl_7 c hc
    refine Wp.loopN (by kernel_rfl) ?_
    rcases fl with ⟨⟩ | r
    · refine WpL.into (e := (.exit 0)) (mkS [] []) hL ?_
      refine blockQ_hit ?_
      refine seqQ_norm ?_
      refine Wp.seqN (by kernel_rfl) ?_
      refine Wp.reg tiok mix hc (by kernel_rfl) (ah := none) (rs := [some (.no)]) (kt := [4]) (ko := []) (T' := [(4, .bool true)]) (O' := []) (by kernel_rfl) trivial (by kernel_rfl) (by kernel_rfl) ?_
      refine seqQ_norm ?_
      refine Wp.retN (by kernel_rfl) ?_
      obtain rfl := Option.some.inj h
      exact RetQ.ret (fl := [true]) (by kernel_rfl)
    · refine WpL.mono hL ?_
      rintro _ _ ⟨rfl, hfin⟩
      refine blockQ_ret ?_
      refine seqQ_ret ?_
      obtain rfl := Option.some.inj h
      exact ⟨.inl rfl, hfin⟩
def laws_eqTermS_F1 (c : Ctx) : (Unit) ⊕ (Bool) → Exit → AState → Prop
  | .inl _ => Into c (.exit 0) (mkS [] [])
  | .inr r => RetE TIx Try.f63 [] (.bool r)
mutual
def laws_eqTerm (p : GTerm × GTerm) : Option (Bool) :=
  match p with
  | (a0, b1) =>
    if (a0.fOp != b1.fOp) = true then
      some false
    else
      if (a0.fN != b1.fN) = true then
        some false
      else
        (laws_eqIntS (a0.fType, b1.fType)) >>= fun r_5_4 =>
        if r_5_4 = true then
          (laws_eqTermS (a0.fKids, b1.fKids)) >>= fun r_7_4 =>
          if r_7_4 = true then
            some true
          else
            some false
        else
          some false
  partial_fixpoint
def laws_eqTermS (p : (List GTerm) × (List GTerm)) : Option (Bool) :=
  match p with
  | (a0, b1) =>
    if ((a0.length : Int) != (b1.length : Int)) = true then
      some false
    else
      (laws_eqTermS_l0 (a0, b1, 0)) >>= fun fl => match fl with
      | .inl () =>
        some true
      | .inr r =>
        some r
  partial_fixpoint
def laws_eqTermS_l0 (p : (List GTerm) × (List GTerm) × Int) : Option ((Unit) ⊕ (Bool)) :=
  match p with
  | (a0, b1, i_4) =>
    if (decide (i_4 < (a0.length : Int))) = true then
      (idx a0 i_4) >>= fun e_6_2 =>
      (idx b1 i_4) >>= fun e_6_6 =>
      (laws_eqTerm (e_6_2, e_6_6)) >>= fun r_6_8 =>
      if r_6_8 = true then
        laws_eqTermS_l0 (a0, b1, (wr (i_4 + 1)))
      else
        some (.inr false)
    else
      some (.inl ())
  partial_fixpoint
end
def M_laws_eqTerm (p : GTerm × GTerm) (r : Bool) : Prop :=
  match p with
  | (a0, b1) => FnSound Try.prog 23 [.agg [.int .i64 a0.fOp, .int .i64 a0.fN, .sl (List.map I a0.fType), .sl (List.map GTerm_S a0.fKids)], .agg [.int .i64 b1.fOp, .int .i64 b1.fN, .sl (List.map I b1.fType), .sl (List.map GTerm_S b1.fKids)]] (.bool r) []
def M_laws_eqTermS (p : (List GTerm) × (List GTerm)) (r : Bool) : Prop :=
  match p with
  | (a0, b1) => FnSound Try.prog 63 [.sl (List.map GTerm_S a0), .sl (List.map GTerm_S b1)] (.bool r) []
def M_laws_eqTermS_l0 (p : (List GTerm) × (List GTerm) × Int) (fl : (Unit) ⊕ (Bool)) : Prop :=
  match p with
  | (a0, b1, i_4) => ∀ c : Ctx, c.nt = 27 → WpL Try.prog c (cl (cl (cr (cl (cr (cr B63)))))) (laws_eqTermS_F1 c fl) (mkS [(0, .sl (List.map GTerm_S a0)), (1, .sl (List.map GTerm_S b1)), (5, .int .i64 i_4)] [])
theorem laws_eqTerm_all : (∀ p r, laws_eqTerm p = some r → M_laws_eqTerm p r) ∧ (∀ p r, laws_eqTermS p = some r → M_laws_eqTermS p r) ∧ (∀ p r, laws_eqTermS_l0 p = some r → M_laws_eqTermS_l0 p r) := by
  refine laws_eqTerm.mutual_partial_correctness M_laws_eqTerm M_laws_eqTermS M_laws_eqTermS_l0 ?_ ?_ ?_
  · rintro laws_eqTermS_f laws_eqTermS_ih ⟨a0, b1⟩ r h
    show FnSound Try.prog 23 [.agg [.int .i64 a0.fOp, .int .i64 a0.fN, .sl (List.map I a0.fType), .sl (List.map GTerm_S a0.fKids)], .agg [.int .i64 b1.fOp, .int .i64 b1.fN, .sl (List.map I b1.fType), .sl (List.map GTerm_S b1.fKids)]] (.bool r) []
    refine FnSound.body0 tiok (fn := Try.f23) (code := B23) (by kernel_rfl) (by kernel_rfl) (by kernel_rfl) (by kernel_rfl) (nt := 27) (by kernel_rfl) (by kernel_rfl) (T := [(0, .agg [.int .i64 a0.fOp, .int .i64 a0.fN, .sl (List.map I a0.fType), .sl (List.map GTerm_S a0.fKids)]), (1, .agg [.int .i64 b1.fOp, .int .i64 b1.fN, .sl (List.map I b1.fType), .sl (List.map GTerm_S b1.fKids)])]) (O := []) (by kernel_rfl) (by kernel_rfl) (fun c hc => ?_)
    refine Wp.seqN (by kernel_rfl) ?_
    refine Wp.reg tiok mix hc (by kernel_rfl) (ah := none) (rs := [some (.new 1), some (.new 2), some (.no)]) (kt := [2, 3]) (ko := [1, 2]) (T' := [(2, .ra 1 0), (3, .ra 2 0)]) (O' := [(1, .box [.int .i64 a0.fOp, .int .i64 a0.fN, .sl (List.map I a0.fType), .sl (List.map GTerm_S a0.fKids)]), (2, .box [.int .i64 b1.fOp, .int .i64 b1.fN, .sl (List.map I b1.fType), .sl (List.map GTerm_S b1.fKids)])]) (by kernel_rfl) trivial (by kernel_rfl) (by kernel_rfl) ?_
    refine seqQ_norm ?_
    refine Wp.seqN (by kernel_rfl) ?_
    refine Wp.seqN (by kernel_rfl) ?_
    refine Wp.reg tiok mix hc (by kernel_rfl) (ah := none) (rs := [some (.no), some (.no), some (.no), some (.no), some (.no)]) (kt := [2, 3, 9]) (ko := [1, 2]) (T' := [(2, .ra 1 0), (3, .ra 2 0), (9, .bool (a0.fOp != b1.fOp))]) (O' := [(1, .box [.int .i64 a0.fOp, .int .i64 a0.fN, .sl (List.map I a0.fType), .sl (List.map GTerm_S a0.fKids)]), (2, .box [.int .i64 b1.fOp, .int .i64 b1.fN, .sl (List.map I b1.fType), .sl (List.map GTerm_S b1.fKids)])]) (by kernel_rfl) trivial (by kernel_rfl) (by kernel_rfl) ?_
    refine seqQ_norm ?_
    rcases itesome h with ⟨hb_1, h⟩ | ⟨hb_1, h⟩
    · refine Wp.condT (b := (a0.fOp != b1.fOp)) (by kernel_rfl) (by kernel_rfl) hb_1 ?_
      refine Wp.seqN (by kernel_rfl) ?_
      refine Wp.reg tiok mix hc (by kernel_rfl) (ah := none) (rs := [some (.no)]) (kt := [4]) (ko := []) (T' := [(4, .bool false)]) (O' := []) (by kernel_rfl) trivial (by kernel_rfl) (by kernel_rfl) ?_
      refine seqQ_norm ?_
      refine Wp.retN (by kernel_rfl) ?_
      refine seqQ_ret ?_
      obtain rfl := Option.some.inj h
      exact RetQ.ret (fl := [true]) (by kernel_rfl)
    · refine Wp.condF (b := (a0.fOp != b1.fOp)) (by kernel_rfl) (by kernel_rfl) hb_1 ?_
      refine Wp.skipN (by kernel_rfl) ?_
      refine seqQ_norm ?_
      refine Wp.seqN (by kernel_rfl) ?_
      refine Wp.seqN (by kernel_rfl) ?_
      refine Wp.reg tiok mix hc (by kernel_rfl) (ah := none) (rs := [some (.no), some (.no), some (.no), some (.no), some (.no)]) (kt := [2, 3, 14]) (ko := [1, 2]) (T' := [(2, .ra 1 0), (3, .ra 2 0), (14, .bool (a0.fN != b1.fN))]) (O' := [(1, .box [.int .i64 a0.fOp, .int .i64 a0.fN, .sl (List.map I a0.fType), .sl (List.map GTerm_S a0.fKids)]), (2, .box [.int .i64 b1.fOp, .int .i64 b1.fN, .sl (List.map I b1.fType), .sl (List.map GTerm_S b1.fKids)])]) (by kernel_rfl) trivial (by kernel_rfl) (by kernel_rfl) ?_
      refine seqQ_norm ?_
      rcases itesome h with ⟨hb_2, h⟩ | ⟨hb_2, h⟩
      · refine Wp.condT (b := (a0.fN != b1.fN)) (by kernel_rfl) (by kernel_rfl) hb_2 ?_
        refine Wp.seqN (by kernel_rfl) ?_
        refine Wp.reg tiok mix hc (by kernel_rfl) (ah := none) (rs := [some (.no)]) (kt := [4]) (ko := []) (T' := [(4, .bool false)]) (O' := []) (by kernel_rfl) trivial (by kernel_rfl) (by kernel_rfl) ?_
        refine seqQ_norm ?_
        refine Wp.retN (by kernel_rfl) ?_
        refine seqQ_ret ?_
        obtain rfl := Option.some.inj h
        exact RetQ.ret (fl := [true]) (by kernel_rfl)
      · refine Wp.condF (b := (a0.fN != b1.fN)) (by kernel_rfl) (by kernel_rfl) hb_2 ?_
        refine Wp.skipN (by kernel_rfl) ?_
        refine seqQ_norm ?_
        refine Wp.seqN (by kernel_rfl) ?_
        refine Wp.seqN (by kernel_rfl) ?_
        obtain ⟨r_5_4, hr_5_4, h⟩ := bsome h
        refine Wp.reg tiok mix hc (by kernel_rfl) (ah := none) (rs := [some (.no), some (.no), some (.no), some (.no), some (.call (.bool r_5_4) [] 1), some (.no)]) (kt := [2, 3, 20]) (ko := [1, 2]) (T' := [(2, .ra 1 0), (3, .ra 2 0), (20, .bool (!r_5_4))]) (O' := [(1, .box [.int .i64 a0.fOp, .int .i64 a0.fN, .sl (List.map I a0.fType), .sl (List.map GTerm_S a0.fKids)]), (2, .box [.int .i64 b1.fOp, .int .i64 b1.fN, .sl (List.map I b1.fType), .sl (List.map GTerm_S b1.fKids)])]) (by kernel_rfl) (And.intro (laws_eqIntS_s _ _ hr_5_4) (And.intro bod_29 (And.intro (Or.inl rfl : ([] : List Nat) = [] ∨ noSh (.bool r_5_4) = true) trivial))) (by kernel_rfl) (by kernel_rfl) ?_
        refine seqQ_norm ?_
        rcases itesome h with ⟨hb_3, h⟩ | ⟨hb_3, h⟩
        · refine Wp.condF (b := (!r_5_4)) (by kernel_rfl) (by kernel_rfl) (nF hb_3) ?_
          refine Wp.skipN (by kernel_rfl) ?_
          refine seqQ_norm ?_
          refine Wp.seqN (by kernel_rfl) ?_
          refine Wp.seqN (by kernel_rfl) ?_
          obtain ⟨r_7_4, hr_7_4, h⟩ := bsome h
          refine Wp.reg tiok mix hc (by kernel_rfl) (ah := none) (rs := [some (.no), some (.no), some (.no), some (.no), some (.call (.bool r_7_4) [] 1), some (.no)]) (kt := [26]) (ko := []) (T' := [(26, .bool (!r_7_4))]) (O' := []) (by kernel_rfl) (And.intro (laws_eqTermS_ih _ _ hr_7_4) (And.intro bod_63 (And.intro (Or.inl rfl : ([] : List Nat) = [] ∨ noSh (.bool r_7_4) = true) trivial))) (by kernel_rfl) (by kernel_rfl) ?_
          refine seqQ_norm ?_
          rcases itesome h with ⟨hb_4, h⟩ | ⟨hb_4, h⟩
          · refine Wp.condF (b := (!r_7_4)) (by kernel_rfl) (by kernel_rfl) (nF hb_4) ?_
            refine Wp.skipN (by kernel_rfl) ?_
            refine seqQ_norm ?_
            refine Wp.seqN (by kernel_rfl) ?_
            refine Wp.reg tiok mix hc (by kernel_rfl) (ah := none) (rs := [some (.no)]) (kt := [4]) (ko := []) (T' := [(4, .bool true)]) (O' := []) (by kernel_rfl) trivial (by kernel_rfl) (by kernel_rfl) ?_
            refine seqQ_norm ?_
            refine Wp.retN (by kernel_rfl) ?_
            obtain rfl := Option.some.inj h
            exact RetQ.ret (fl := [true]) (by kernel_rfl)
          · refine Wp.condT (b := (!r_7_4)) (by kernel_rfl) (by kernel_rfl) (nT hb_4) ?_
            refine Wp.seqN (by kernel_rfl) ?_
            refine Wp.reg tiok mix hc (by kernel_rfl) (ah := none) (rs := [some (.no)]) (kt := [4]) (ko := []) (T' := [(4, .bool false)]) (O' := []) (by kernel_rfl) trivial (by kernel_rfl) (by kernel_rfl) ?_
            refine seqQ_norm ?_
            refine Wp.retN (by kernel_rfl) ?_
            refine seqQ_ret ?_
            obtain rfl := Option.some.inj h
            exact RetQ.ret (fl := [true]) (by kernel_rfl)
        · refine Wp.condT (b := (!r_5_4)) (by kernel_rfl) (by kernel_rfl) (nT hb_3) ?_
          refine Wp.seqN (by kernel_rfl) ?_
          refine Wp.reg tiok mix hc (by kernel_rfl) (ah := none) (rs := [some (.no)]) (kt := [4]) (ko := []) (T' := [(4, .bool false)]) (O' := []) (by kernel_rfl) trivial (by kernel_rfl) (by kernel_rfl) ?_
          refine seqQ_norm ?_
          refine Wp.retN (by kernel_rfl) ?_
          refine seqQ_ret ?_
          obtain rfl := Option.some.inj h
          exact RetQ.ret (fl := [true]) (by kernel_rfl)
  · rintro laws_eqTermS_l0_f laws_eqTermS_l0_ih ⟨a0, b1⟩ r h
    show FnSound Try.prog 63 [.sl (List.map GTerm_S a0), .sl (List.map GTerm_S b1)] (.bool r) []
    refine FnSound.body0 tiok (fn := Try.f63) (code := B63) (by kernel_rfl) (by kernel_rfl) (by kernel_rfl) (by kernel_rfl) (nt := 27) (by kernel_rfl) (by kernel_rfl) (T := [(0, .sl (List.map GTerm_S a0)), (1, .sl (List.map GTerm_S b1))]) (O := []) (by kernel_rfl) (by kernel_rfl) (fun c hc => ?_)
    refine Wp.seqN (by kernel_rfl) ?_
    refine Wp.reg tiok mix hc (by kernel_rfl) (ah := none) (rs := [some (.no)]) (kt := [0, 1]) (ko := []) (T' := [(0, .sl (List.map GTerm_S a0)), (1, .sl (List.map GTerm_S b1))]) (O' := []) (by kernel_rfl) trivial (by kernel_rfl) (by kernel_rfl) ?_
    refine seqQ_norm ?_
    refine Wp.seqN (by kernel_rfl) ?_
    refine Wp.seqN (by kernel_rfl) ?_
    refine Wp.reg tiok mix hc (by kernel_rfl) (ah := none) (rs := [some (.no), some (.eqv (.no) ⟨[(7, .int .i64 (a0.length : Int))], [], []⟩), some (.no), some (.eqv (.no) ⟨[(9, .int .i64 (b1.length : Int))], [], []⟩), some (.no)]) (kt := [0, 1, 10]) (ko := []) (T' := [(0, .sl (List.map GTerm_S a0)), (1, .sl (List.map GTerm_S b1)), (10, .bool ((a0.length : Int) != (b1.length : Int)))]) (O' := []) (by kernel_rfl) (And.intro (lenT (d := 7) GTerm_S a0) (And.intro (lenT (d := 9) GTerm_S b1) trivial)) (by kernel_rfl) (by kernel_rfl) ?_
    refine seqQ_norm ?_
    rcases itesome h with ⟨hb_1, h⟩ | ⟨hb_1, h⟩
    · refine Wp.condT (b := ((a0.length : Int) != (b1.length : Int))) (by kernel_rfl) (by kernel_rfl) hb_1 ?_
      refine Wp.seqN (by kernel_rfl) ?_
      refine Wp.reg tiok mix hc (by kernel_rfl) (ah := none) (rs := [some (.no)]) (kt := [4]) (ko := []) (T' := [(4, .bool false)]) (O' := []) (by kernel_rfl) trivial (by kernel_rfl) (by kernel_rfl) ?_
      refine seqQ_norm ?_
      refine Wp.retN (by kernel_rfl) ?_
      refine seqQ_ret ?_
      obtain rfl := Option.some.inj h
      exact RetQ.ret (fl := [true]) (by kernel_rfl)
    · refine Wp.condF (b := ((a0.length : Int) != (b1.length : Int))) (by kernel_rfl) (by kernel_rfl) hb_1 ?_
      refine Wp.skipN (by kernel_rfl) ?_
      refine seqQ_norm ?_
      refine Wp.seqN (by kernel_rfl) ?_
      refine Wp.seqN (by kernel_rfl) ?_
      refine Wp.reg tiok mix hc (by kernel_rfl) (ah := none) (rs := [some (.no)]) (kt := [0, 1, 5]) (ko := []) (T' := [(0, .sl (List.map GTerm_S a0)), (1, .sl (List.map GTerm_S b1)), (5, .int .i64 0)]) (O' := []) (by kernel_rfl) trivial (by kernel_rfl) (by kernel_rfl) ?_
      refine seqQ_norm ?_
      refine Wp.blockN (i := 0) (by kernel_rfl) ?_
      obtain ⟨fl, hl_7, h⟩ := bsome h
      have hL := laws_eqTermS_l0_ih _ _ hl_7 c hc
      refine Wp.loopN (by kernel_rfl) ?_
      rcases fl with ⟨⟩ | r
      · refine WpL.into (e := (.exit 0)) (mkS [] []) hL ?_
        refine blockQ_hit ?_
        refine seqQ_norm ?_
        refine Wp.seqN (by kernel_rfl) ?_
        refine Wp.reg tiok mix hc (by kernel_rfl) (ah := none) (rs := [some (.no)]) (kt := [4]) (ko := []) (T' := [(4, .bool true)]) (O' := []) (by kernel_rfl) trivial (by kernel_rfl) (by kernel_rfl) ?_
        refine seqQ_norm ?_
        refine Wp.retN (by kernel_rfl) ?_
        obtain rfl := Option.some.inj h
        exact RetQ.ret (fl := [true]) (by kernel_rfl)
      · refine WpL.mono hL ?_
        rintro _ _ ⟨rfl, hfin⟩
        refine blockQ_ret ?_
        refine seqQ_ret ?_
        obtain rfl := Option.some.inj h
        exact ⟨.inl rfl, hfin⟩
  · rintro laws_eqTerm_f laws_eqTermS_l0_f laws_eqTerm_ih laws_eqTermS_l0_ih ⟨a0, b1, i_4⟩ r h
    intro c hc
    show WpL Try.prog c (cl (cl (cr (cl (cr (cr B63)))))) (laws_eqTermS_F1 c r) (mkS [(0, .sl (List.map GTerm_S a0)), (1, .sl (List.map GTerm_S b1)), (5, .int .i64 i_4)] [])
    refine WpL.step ?_
    refine Wp.seqN (by kernel_rfl) ?_
    refine Wp.seqN (by kernel_rfl) ?_
    refine Wp.reg tiok mix hc (by kernel_rfl) (ah := none) (rs := [some (.no), some (.no), some (.eqv (.no) ⟨[(13, .int .i64 (a0.length : Int))], [], []⟩), some (.no)]) (kt := [0, 1, 5, 14]) (ko := []) (T' := [(0, .sl (List.map GTerm_S a0)), (1, .sl (List.map GTerm_S b1)), (5, .int .i64 i_4), (14, .bool (decide (i_4 < (a0.length : Int))))]) (O' := []) (by kernel_rfl) (And.intro (lenT (d := 13) GTerm_S a0) trivial) (by kernel_rfl) (by kernel_rfl) ?_
    refine seqQ_norm ?_
    rcases itesome h with ⟨hb_5, h⟩ | ⟨hb_5, h⟩
    · refine Wp.condT (b := (decide (i_4 < (a0.length : Int)))) (by kernel_rfl) (by kernel_rfl) hb_5 ?_
      refine Wp.skipN (by kernel_rfl) ?_
      refine seqQ_norm ?_
      refine Wp.seqN (by kernel_rfl) ?_
      refine Wp.blockN (i := 1) (by kernel_rfl) ?_
      refine Wp.seqN (by kernel_rfl) ?_
      obtain ⟨e_6_2, hi_6_2, h⟩ := bsome h
      obtain ⟨e_6_6, hi_6_6, h⟩ := bsome h
      obtain ⟨r_6_8, hr_6_8, h⟩ := bsome h
      refine Wp.reg tiok mix hc (by kernel_rfl) (ah := (some [[], [], [0, 1], [0, 1, 2], [], [], [4, 5], [4, 5, 6], [0, 1, 2, 3, 4, 5, 6, 7], [0, 1, 2, 3, 4, 5, 6, 7, 8]])) (rs := [some (.no), some (.no), some (.el (.agg [.int .i64 e_6_2.fOp, .int .i64 e_6_2.fN, .sl (List.map I e_6_2.fType), .sl (List.map GTerm_S e_6_2.fKids)])), some (.no), some (.no), some (.no), some (.el (.agg [.int .i64 e_6_6.fOp, .int .i64 e_6_6.fN, .sl (List.map I e_6_6.fType), .sl (List.map GTerm_S e_6_6.fKids)])), some (.no), some (.call (.bool r_6_8) [] 1), some (.no)]) (kt := [0, 1, 5, 26]) (ko := []) (T' := [(0, .sl (List.map GTerm_S a0)), (1, .sl (List.map GTerm_S b1)), (5, .int .i64 i_4), (26, .bool (!r_6_8))]) (O' := []) (by kernel_rfl) (And.intro (idx_sl (enc := GTerm_S) (x := .agg [.int .i64 e_6_2.fOp, .int .i64 e_6_2.fN, .sl (List.map I e_6_2.fType), .sl (List.map GTerm_S e_6_2.fKids)]) hi_6_2 (eq_GTerm_S e_6_2)) (And.intro (idx_sl (enc := GTerm_S) (x := .agg [.int .i64 e_6_6.fOp, .int .i64 e_6_6.fN, .sl (List.map I e_6_6.fType), .sl (List.map GTerm_S e_6_6.fKids)]) hi_6_6 (eq_GTerm_S e_6_6)) (And.intro (laws_eqTerm_ih _ _ hr_6_8) (And.intro bod_23 (And.intro (Or.inl rfl : ([] : List Nat) = [] ∨ noSh (.bool r_6_8) = true) trivial))))) (by kernel_rfl) (by kernel_rfl) ?_
      refine seqQ_norm ?_
      rcases itesome h with ⟨hb_6, h⟩ | ⟨hb_6, h⟩
      · refine Wp.condF (b := (!r_6_8)) (by kernel_rfl) (by kernel_rfl) (nF hb_6) ?_
        refine Wp.skipN (by kernel_rfl) ?_
        refine blockQ_norm ?_
        refine seqQ_norm ?_
        refine Wp.reg tiok mix hc (by kernel_rfl) (ah := none) (rs := [some (.no), some (.no), some (.no)]) (kt := [0, 1, 5]) (ko := []) (T' := [(0, .sl (List.map GTerm_S a0)), (1, .sl (List.map GTerm_S b1)), (5, .int .i64 (wr (i_4 + 1)))]) (O' := []) (by kernel_rfl) trivial (by kernel_rfl) (by kernel_rfl) ?_
        refine loopQ_norm ?_
        exact (laws_eqTermS_l0_ih _ _ h c hc)
      · refine Wp.condT (b := (!r_6_8)) (by kernel_rfl) (by kernel_rfl) (nT hb_6) ?_
        refine Wp.seqN (by kernel_rfl) ?_
        refine Wp.reg tiok mix hc (by kernel_rfl) (ah := none) (rs := [some (.no)]) (kt := [4]) (ko := []) (T' := [(4, .bool false)]) (O' := []) (by kernel_rfl) trivial (by kernel_rfl) (by kernel_rfl) ?_
        refine seqQ_norm ?_
        refine Wp.retN (by kernel_rfl) ?_
        refine blockQ_ret ?_
        refine seqQ_ret ?_
        refine loopQ_ret ?_
        obtain rfl := Option.some.inj h
        exact RetE.ret (fl := [true]) (by kernel_rfl)
    · refine Wp.condF (b := (decide (i_4 < (a0.length : Int)))) (by kernel_rfl) (by kernel_rfl) hb_5 ?_
      refine Wp.exitN (i := 0) (by kernel_rfl) ?_
      refine seqQ_exit ?_
      refine loopQ_exit ?_
      obtain rfl := Option.some.inj h
      exact Into.view (fun a w hv => SRx.renL [] hv (by kernel_rfl) (by kernel_rfl) (by kernel_rfl))
theorem laws_eqTerm_s : ∀ p r, laws_eqTerm p = some r → M_laws_eqTerm p r := laws_eqTerm_all.1
theorem laws_eqTermS_s : ∀ p r, laws_eqTermS p = some r → M_laws_eqTermS p r := laws_eqTerm_all.2.1
theorem laws_eqTermS_l0_s : ∀ p r, laws_eqTermS_l0 p = some r → M_laws_eqTermS_l0 p r := laws_eqTerm_all.2.2
def laws_markIntS_F1 (c : Ctx) : Int × (List Int) → Exit → AState → Prop
  | (k_6, x_7) => Into c (.exit 0) (mkS [(1, .int .i64 k_6)] [(1000, .arr (List.map I x_7))])
def laws_markIntS_l0 (p : (List Int) × Int × Int) : Option (Int × (List Int)) :=
  match p with
  | (a_2, k_3, i_4) =>
    if (decide (i_4 < (a_2.length : Int))) = true then
      (idx a_2 i_4) >>= fun e_4_3 =>
      laws_markIntS_l0 ((List.set a_2 (Int.toNat i_4) k_3), (wr (k_3 + 1)), (wr (i_4 + 1)))
    else
      some ((k_3, a_2))
  partial_fixpoint
def M_laws_markIntS_l0 (p : (List Int) × Int × Int) (fl : Int × (List Int)) : Prop :=
  match p with
  | (a_2, k_3, i_4) => ∀ c : Ctx, c.nt = 19 → WpL Try.prog c (cl (cl (cr (cl (cr B33))))) (laws_markIntS_F1 c fl) (mkS [(0, .rs 1000), (1, .int .i64 k_3), (5, .int .i64 i_4)] [(1000, .arr (List.map I a_2))])
theorem laws_markIntS_l0_s : ∀ p r, laws_markIntS_l0 p = some r → M_laws_markIntS_l0 p r := by
  refine laws_markIntS_l0.partial_correctness M_laws_markIntS_l0 ?_
  rintro laws_markIntS_l0_f laws_markIntS_l0_ih ⟨a_2, k_3, i_4⟩ r h
  intro c hc
  show WpL Try.prog c (cl (cl (cr (cl (cr B33))))) (laws_markIntS_F1 c r) (mkS [(0, .rs 1000), (1, .int .i64 k_3), (5, .int .i64 i_4)] [(1000, .arr (List.map I a_2))])
  refine WpL.step ?_
  refine Wp.seqN (by kernel_rfl) ?_
  refine Wp.seqN (by kernel_rfl) ?_
  refine Wp.reg tiok mix hc (by kernel_rfl) (ah := none) (rs := [some (.no), some (.no), some (.eqv (.no) ⟨[(8, .int .i64 (a_2.length : Int))], [], []⟩), some (.no)]) (kt := [0, 1, 5, 9]) (ko := [1000]) (T' := [(0, .rs 1000), (1, .int .i64 k_3), (5, .int .i64 i_4), (9, .bool (decide (i_4 < (a_2.length : Int))))]) (O' := [(1000, .arr (List.map I a_2))]) (by kernel_rfl) (And.intro (lenT (d := 8) I a_2) trivial) (by kernel_rfl) (by kernel_rfl) ?_
  refine seqQ_norm ?_
  rcases itesome h with ⟨hb_5, h⟩ | ⟨hb_5, h⟩
  · refine Wp.condT (b := (decide (i_4 < (a_2.length : Int)))) (by kernel_rfl) (by kernel_rfl) hb_5 ?_
    refine Wp.skipN (by kernel_rfl) ?_
    refine seqQ_norm ?_
    refine Wp.seqN (by kernel_rfl) ?_
    refine Wp.blockN (i := 1) (by kernel_rfl) ?_
    refine Wp.seqN (by kernel_rfl) ?_
    obtain ⟨e_4_3, hi_4_3, h⟩ := bsome h
    refine Wp.reg tiok mix hc (by kernel_rfl) (ah := none) (rs := [some (.no), some (.no), some (.no), some (.no), some (.eqv (.mk 0 true) ⟨[], [(1000, some (.arr (List.map I (List.set a_2 (Int.toNat i_4) k_3))))], []⟩)]) (kt := [0, 1, 5]) (ko := [1000]) (T' := [(0, .rs 1000), (1, .int .i64 k_3), (5, .int .i64 i_4)]) (O' := [(1000, .arr (List.map I (List.set a_2 (Int.toNat i_4) k_3)))]) (by kernel_rfl) (And.intro (idx_own (enc := I) hi_4_3) (And.intro (congrArg (fun z => (⟨[], [(1000, some (.arr z))], []⟩ : Wr)) (set_row (enc := I) (i := Int.toNat i_4) (l := a_2) (v := k_3) (x := AV.int .i64 k_3) (eq_I k_3))) (And.intro (own_set (enc := I) (sz := 1) sz_I hi_4_3) trivial))) (by kernel_rfl) (by kernel_rfl) ?_
    refine seqQ_norm ?_
    refine Wp.reg tiok mix hc (by kernel_rfl) (ah := none) (rs := [some (.no), some (.no), some (.no)]) (kt := [0, 1, 5]) (ko := [1000]) (T' := [(0, .rs 1000), (1, .int .i64 (wr (k_3 + 1))), (5, .int .i64 i_4)]) (O' := [(1000, .arr (List.map I (List.set a_2 (Int.toNat i_4) k_3)))]) (by kernel_rfl) trivial (by kernel_rfl) (by kernel_rfl) ?_
    refine blockQ_norm ?_
    refine seqQ_norm ?_
    refine Wp.reg tiok mix hc (by kernel_rfl) (ah := none) (rs := [some (.no), some (.no), some (.no)]) (kt := [0, 1, 5]) (ko := [1000]) (T' := [(0, .rs 1000), (1, .int .i64 (wr (k_3 + 1))), (5, .int .i64 (wr (i_4 + 1)))]) (O' := [(1000, .arr (List.map I (List.set a_2 (Int.toNat i_4) k_3)))]) (by kernel_rfl) trivial (by kernel_rfl) (by kernel_rfl) ?_
    refine loopQ_norm ?_
    exact (laws_markIntS_l0_ih _ _ h c hc)
  · refine Wp.condF (b := (decide (i_4 < (a_2.length : Int)))) (by kernel_rfl) (by kernel_rfl) hb_5 ?_
    refine Wp.exitN (i := 0) (by kernel_rfl) ?_
    refine seqQ_exit ?_
    refine loopQ_exit ?_
    obtain ⟨rfl, rfl⟩ := Prod.mk.inj (Option.some.inj h)
    exact Into.view (fun a w hv => SRx.renL [] hv (by kernel_rfl) (by kernel_rfl) (by kernel_rfl))
def laws_markIntS (p : (List Int) × Int) : Option (Int × (List Int)) :=
  match p with
  | (a0, k1) =>
    (laws_markIntS_l0 (a0, k1, 0)) >>= fun (k_6, x_7) =>
    some (k_6, x_7)
def M_laws_markIntS (p : (List Int) × Int) (r : Int × (List Int)) : Prop :=
  match p with
  | (a0, k1) => FnSound Try.prog 33 [.osl (List.map I a0), .int .i64 k1] (.int .i64 r.1) [.osl (List.map I r.2), .undef]
theorem laws_markIntS_s : ∀ p r, laws_markIntS p = some r → M_laws_markIntS p r := by
  rintro ⟨a0, k1⟩ r h
  unfold laws_markIntS at h
  show FnSound Try.prog 33 [.osl (List.map I a0), .int .i64 k1] (.int .i64 r.1) [.osl (List.map I r.2), .undef]
  refine FnSound.bodyO tiok (fn := Try.f33) (code := B33) (by kernel_rfl) (by kernel_rfl) (by kernel_rfl) (nt := 19) (by kernel_rfl) (by kernel_rfl) (T := [(0, .rs 1000), (1, .int .i64 k1)]) (O := [(1000, .arr (List.map I a0))]) (by kernel_rfl) (by kernel_rfl) (fun c hc => ?_)
  refine Wp.seqN (by kernel_rfl) ?_
  refine Wp.reg tiok mix hc (by kernel_rfl) (ah := none) (rs := [some (.no)]) (kt := [0, 1]) (ko := [1000]) (T' := [(0, .rs 1000), (1, .int .i64 k1)]) (O' := [(1000, .arr (List.map I a0))]) (by kernel_rfl) trivial (by kernel_rfl) (by kernel_rfl) ?_
  refine seqQ_norm ?_
  refine Wp.seqN (by kernel_rfl) ?_
  refine Wp.seqN (by kernel_rfl) ?_
  refine Wp.reg tiok mix hc (by kernel_rfl) (ah := none) (rs := [some (.no)]) (kt := [0, 1, 5]) (ko := [1000]) (T' := [(0, .rs 1000), (1, .int .i64 k1), (5, .int .i64 0)]) (O' := [(1000, .arr (List.map I a0))]) (by kernel_rfl) trivial (by kernel_rfl) (by kernel_rfl) ?_
  refine seqQ_norm ?_
  refine Wp.blockN (i := 0) (by kernel_rfl) ?_
  obtain ⟨⟨k_6, x_7⟩, hl_8, h⟩ := bsome h
  have hL := laws_markIntS_l0_s _ _ hl_8 c hc
  refine Wp.loopN (by kernel_rfl) ?_
  · refine WpL.into (e := (.exit 0)) (mkS [(1, .int .i64 k_6)] [(1000, .arr (List.map I x_7))]) hL ?_
    refine blockQ_hit ?_
    refine seqQ_norm ?_
    refine Wp.seqN (by kernel_rfl) ?_
    refine Wp.reg tiok mix hc (by kernel_rfl) (ah := none) (rs := [some (.no), some (.no)]) (kt := [4]) (ko := [1000]) (T' := [(4, .int .i64 k_6)]) (O' := [(1000, .arr (List.map I x_7))]) (by kernel_rfl) trivial (by kernel_rfl) (by kernel_rfl) ?_
    refine seqQ_norm ?_
    refine Wp.retN (by kernel_rfl) ?_
    obtain rfl := Option.some.inj h
    exact RetOQ.ret (fl := [true]) (by kernel_rfl)
def laws_markTermS_F1 (c : Ctx) : Int × (List GTerm) → Exit → AState → Prop
  | (k_6, x_7) => Into c (.exit 0) (mkS [(1, .int .i64 k_6)] [(1000, .arr (List.map GTerm_O x_7))])
end Go.Am
