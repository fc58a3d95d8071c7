/- Functions of the program as pure functions, and that it computes them. Printed by a program of mine (gen.py). -/
import Derived.Test.YtlegifoeekcolaaGROF1
set_option linter.unusedVariables false
set_option linter.unusedSimpArgs false
set_option maxRecDepth 100000
namespace Go.Am
open Go Go.Proofs
def impl_adds (p : Int × Int) : Option (Int) :=
  match p with
  | (op0, kid1) =>
    (
      if (op0 == 5) = true then
        some ((kid1 == 1))
      else
        some (false)
    ) >>= fun v_1 =>
    if v_1 = true then
      some 2
    else
      (
        if (op0 == 8) = true then
          some ((decide (kid1 > 0)))
        else
          some (false)
      ) >>= fun v_4 =>
      (
        if v_4 = true then
          some (v_4)
        else
          (
            if (op0 == 9) = true then
              some ((op0 == 9))
            else
              (
                if (op0 == 12) = true then
                  some ((kid1 == 1))
                else
                  some (false)
              ) >>= fun v_8 =>
              some (v_8)
          ) >>= fun j_10 =>
          some (j_10)
      ) >>= fun j_12 =>
      if j_12 = true then
        some 1
      else
        some 0
def M_impl_adds (p : Int × Int) (r : Int) : Prop :=
  match p with
  | (op0, kid1) => FnSound Try.prog 117 [.int .i64 op0, .int .i64 kid1] (.int .i64 r) []
theorem impl_adds_s : ∀ p r, impl_adds p = some r → M_impl_adds p r := by
  rintro ⟨op0, kid1⟩ r h
  unfold impl_adds at h
  show FnSound Try.prog 117 [.int .i64 op0, .int .i64 kid1] (.int .i64 r) []
  refine FnSound.body0 tiok (fn := Try.f117) (code := B117) (by kernel_rfl) (by kernel_rfl) (by kernel_rfl) (by kernel_rfl) (nt := 27) (by kernel_rfl) (by kernel_rfl) (T := [(0, .int .i64 op0), (1, .int .i64 kid1)]) (O := []) (by kernel_rfl) (by kernel_rfl) (fun c hc => ?_)
  refine Wp.seqN (by kernel_rfl) ?_
  refine Wp.reg tiok mix hc (by kernel_rfl) (ah := none) (rs := [some (.no)]) (kt := [0, 1]) (ko := []) (T' := [(0, .int .i64 op0), (1, .int .i64 kid1)]) (O' := []) (by kernel_rfl) trivial (by kernel_rfl) (by kernel_rfl) ?_
  refine seqQ_norm ?_
  refine Wp.seqN (by kernel_rfl) ?_
  refine Wp.blockN (i := 0) (by kernel_rfl) ?_
  refine Wp.seqN (by kernel_rfl) ?_
  obtain ⟨v_1, hj_2, h⟩ := bsome h
  refine Wp.into (x := .normal) (mkS [(0, .int .i64 op0), (1, .int .i64 kid1), (5, .bool v_1)] []) ?_ ?_
  · replace h := hj_2
    rcases itesome h with ⟨hb_1_0, h⟩ | ⟨hb_1_0, h⟩
    · refine Wp.reg tiok mix hc (by kernel_rfl) (ah := none) (rs := [some (.no), some (.no), some (.no), some (.no), some (.no), some (.cond true), some (.no)]) (kt := [0, 1, 5]) (ko := []) (T' := [(0, .int .i64 op0), (1, .int .i64 kid1), (5, .bool (kid1 == 1))]) (O' := []) (by kernel_rfl) (And.intro hb_1_0 (And.intro hb_1_0 (And.intro hb_1_0 trivial))) (by kernel_rfl) (by kernel_rfl) ?_
      obtain rfl := Option.some.inj h
      exact Into.mk
    · refine Wp.reg tiok mix hc (by kernel_rfl) (ah := none) (rs := [some (.no), some (.no), some (.no), none, none, some (.cond false), some (.no)]) (kt := [0, 1, 5]) (ko := []) (T' := [(0, .int .i64 op0), (1, .int .i64 kid1), (5, .bool false)]) (O' := []) (by kernel_rfl) (And.intro (neT hb_1_0 : (op0 == 5) ≠ true) (And.intro (neT hb_1_0 : (op0 == 5) ≠ true) (And.intro hb_1_0 trivial))) (by kernel_rfl) (by kernel_rfl) ?_
      obtain rfl := Option.some.inj h
      exact Into.mk
  · clear hj_2
    refine seqQ_norm ?_
    rcases itesome h with ⟨hb_3, h⟩ | ⟨hb_3, h⟩
    · refine Wp.condT (b := v_1) (by kernel_rfl) (by kernel_rfl) hb_3 ?_
      refine Wp.seqN (by kernel_rfl) ?_
      refine Wp.reg tiok mix hc (by kernel_rfl) (ah := none) (rs := [some (.no)]) (kt := [4]) (ko := []) (T' := [(4, .int .i64 2)]) (O' := []) (by kernel_rfl) trivial (by kernel_rfl) (by kernel_rfl) ?_
      refine seqQ_norm ?_
      refine Wp.retN (by kernel_rfl) ?_
      refine blockQ_ret ?_
      refine seqQ_ret ?_
      obtain rfl := Option.some.inj h
      exact RetQ.ret (fl := [true]) (by kernel_rfl)
    · refine Wp.condF (b := v_1) (by kernel_rfl) (by kernel_rfl) hb_3 ?_
      refine Wp.seqN (by kernel_rfl) ?_
      refine Wp.seqN (by kernel_rfl) ?_
      obtain ⟨v_4, hj_5, h⟩ := bsome h
      refine Wp.into (x := .normal) (mkS [(0, .int .i64 op0), (1, .int .i64 kid1), (12, .bool v_4)] []) ?_ ?_
      · replace h := hj_5
        rcases itesome h with ⟨hb_3_0, h⟩ | ⟨hb_3_0, h⟩
        · refine Wp.reg tiok mix hc (by kernel_rfl) (ah := none) (rs := [some (.no), some (.no), some (.no), some (.no), some (.no), some (.cond true), some (.no)]) (kt := [0, 1, 12]) (ko := []) (T' := [(0, .int .i64 op0), (1, .int .i64 kid1), (12, .bool (decide (kid1 > 0)))]) (O' := []) (by kernel_rfl) (And.intro hb_3_0 (And.intro hb_3_0 (And.intro hb_3_0 trivial))) (by kernel_rfl) (by kernel_rfl) ?_
          obtain rfl := Option.some.inj h
          exact Into.mk
        · refine Wp.reg tiok mix hc (by kernel_rfl) (ah := none) (rs := [some (.no), some (.no), some (.no), none, none, some (.cond false), some (.no)]) (kt := [0, 1, 12]) (ko := []) (T' := [(0, .int .i64 op0), (1, .int .i64 kid1), (12, .bool false)]) (O' := []) (by kernel_rfl) (And.intro (neT hb_3_0 : (op0 == 8) ≠ true) (And.intro (neT hb_3_0 : (op0 == 8) ≠ true) (And.intro hb_3_0 trivial))) (by kernel_rfl) (by kernel_rfl) ?_
          obtain rfl := Option.some.inj h
          exact Into.mk
      · clear hj_5
        refine seqQ_norm ?_
        obtain ⟨j_12, hj_13, h⟩ := bsome h
        refine Wp.into (x := .normal) (mkS [(12, .bool j_12)] []) ?_ ?_
        · replace h := hj_13
          rcases itesome h with ⟨hb_6, h⟩ | ⟨hb_6, h⟩
          · refine Wp.condT (b := v_4) (by kernel_rfl) (by kernel_rfl) hb_6 ?_
            refine Wp.skipN (by kernel_rfl) ?_
            obtain rfl := Option.some.inj h
            exact Into.view (fun a w hv => SRx.renL [] hv (by kernel_rfl) (by kernel_rfl) (by kernel_rfl))
          · refine Wp.condF (b := v_4) (by kernel_rfl) (by kernel_rfl) hb_6 ?_
            refine Wp.seqN (by kernel_rfl) ?_
            refine Wp.reg tiok mix hc (by kernel_rfl) (ah := none) (rs := [some (.no), some (.no), some (.no)]) (kt := [0, 1, 12]) (ko := []) (T' := [(0, .int .i64 op0), (1, .int .i64 kid1), (12, .bool (op0 == 9))]) (O' := []) (by kernel_rfl) trivial (by kernel_rfl) (by kernel_rfl) ?_
            refine seqQ_norm ?_
            obtain ⟨j_10, hj_11, h⟩ := bsome h
            refine Wp.into (x := .normal) (mkS [(12, .bool j_10)] []) ?_ ?_
            · replace h := hj_11
              rcases itesome h with ⟨hb_7, h⟩ | ⟨hb_7, h⟩
              · refine Wp.condT (b := (op0 == 9)) (by kernel_rfl) (by kernel_rfl) hb_7 ?_
                refine Wp.skipN (by kernel_rfl) ?_
                obtain rfl := Option.some.inj h
                exact Into.view (fun a w hv => SRx.renL [] hv (by kernel_rfl) (by kernel_rfl) (by kernel_rfl))
              · refine Wp.condF (b := (op0 == 9)) (by kernel_rfl) (by kernel_rfl) hb_7 ?_
                obtain ⟨v_8, hj_9, h⟩ := bsome h
                refine Wp.into (x := .normal) (mkS [(12, .bool v_8)] []) ?_ ?_
                · replace h := hj_9
                  rcases itesome h with ⟨hb_5_0, h⟩ | ⟨hb_5_0, h⟩
                  · refine Wp.reg tiok mix hc (by kernel_rfl) (ah := none) (rs := [some (.no), some (.no), some (.no), some (.no), some (.no), some (.cond true), some (.no)]) (kt := [12]) (ko := []) (T' := [(12, .bool (kid1 == 1))]) (O' := []) (by kernel_rfl) (And.intro hb_5_0 (And.intro hb_5_0 (And.intro hb_5_0 trivial))) (by kernel_rfl) (by kernel_rfl) ?_
                    obtain rfl := Option.some.inj h
                    exact Into.mk
                  · refine Wp.reg tiok mix hc (by kernel_rfl) (ah := none) (rs := [some (.no), some (.no), some (.no), none, none, some (.cond false), some (.no)]) (kt := [12]) (ko := []) (T' := [(12, .bool false)]) (O' := []) (by kernel_rfl) (And.intro (neT hb_5_0 : (op0 == 12) ≠ true) (And.intro (neT hb_5_0 : (op0 == 12) ≠ true) (And.intro hb_5_0 trivial))) (by kernel_rfl) (by kernel_rfl) ?_
                    obtain rfl := Option.some.inj h
                    exact Into.mk
                · clear hj_9
                  obtain rfl := Option.some.inj h
                  exact Into.mk
            · clear hj_11
              obtain rfl := Option.some.inj h
              exact Into.mk
        · clear hj_13
          refine seqQ_norm ?_
          rcases itesome h with ⟨hb_14, h⟩ | ⟨hb_14, h⟩
          · refine Wp.condT (b := j_12) (by kernel_rfl) (by kernel_rfl) hb_14 ?_
            refine Wp.seqN (by kernel_rfl) ?_
            refine Wp.reg tiok mix hc (by kernel_rfl) (ah := none) (rs := [some (.no)]) (kt := [4]) (ko := []) (T' := [(4, .int .i64 1)]) (O' := []) (by kernel_rfl) trivial (by kernel_rfl) (by kernel_rfl) ?_
            refine seqQ_norm ?_
            refine Wp.retN (by kernel_rfl) ?_
            refine blockQ_ret ?_
            refine seqQ_ret ?_
            obtain rfl := Option.some.inj h
            exact RetQ.ret (fl := [true]) (by kernel_rfl)
          · refine Wp.condF (b := j_12) (by kernel_rfl) (by kernel_rfl) hb_14 ?_
            refine Wp.skipN (by kernel_rfl) ?_
            refine blockQ_norm ?_
            refine seqQ_norm ?_
            refine Wp.seqN (by kernel_rfl) ?_
            refine Wp.reg tiok mix hc (by kernel_rfl) (ah := none) (rs := [some (.no)]) (kt := [4]) (ko := []) (T' := [(4, .int .i64 0)]) (O' := []) (by kernel_rfl) trivial (by kernel_rfl) (by kernel_rfl) ?_
            refine seqQ_norm ?_
            refine Wp.retN (by kernel_rfl) ?_
            obtain rfl := Option.some.inj h
            exact RetQ.ret (fl := [true]) (by kernel_rfl)
def impl_check_Kimpl_writtenSize_c1_Kimpl_isWrittenType_F1 (c : Ctx) : (Int) ⊕ (Int) → Exit → AState → Prop
  | .inl nodes_27 => Into c (.exit 1) (mkS [(4, .int .i64 nodes_27)] [])
  | .inr r => RetE TIx Try.f81 [] (.int .i64 r)
mutual
def impl_check_Kimpl_writtenSize_c1_Kimpl_isWrittenType (p : GTerm × Int × Int) : Option (Int) :=
  match p with
  | (t0, n1, nodes4) =>
    (impl_formOf t0.fOp) >>= fun (r_2_2_0, r_2_2_1) =>
    (
      if r_2_2_1 = true then
        if (decide ((wr (nodes4 + 1)) > 400)) = true then
          some (true)
        else
          some (((t0.fKids.length : Int) != r_2_2_0.fkids))
      else
        some (true)
    ) >>= fun v_1 =>
    if v_1 = true then
      some 401
    else
      (
        if (t0.fOp == 0) = true then
          (impl_within (t0.fN, 0, (wr (n1 - 1)))) >>= fun r_7_4 =>
          some (r_7_4)
        else
          (
            if (t0.fOp == 1) = true then
              (impl_within (t0.fN, 0, 2)) >>= fun r_9_2 =>
              some (r_9_2)
            else
              (
                if r_2_2_0.fgrade = true then
                  (impl_writtenSize_c1 t0.fN) >>= fun r_11_3 =>
                  some (r_11_3)
                else
                  some ((t0.fN == 0))
              ) >>= fun ok_7 =>
              some (ok_7)
          ) >>= fun ok_9 =>
          some (ok_9)
      ) >>= fun ok_11 =>
      (
        if r_2_2_0.ftyped = true then
          (
            if ok_11 = true then
              (impl_isWrittenType t0.fType) >>= fun r_13_5 =>
              some (r_13_5)
            else
              some (false)
          ) >>= fun ok_14 =>
          some (ok_14)
        else
          (
            if ok_11 = true then
              some (((t0.fType.length : Int) == 0))
            else
              some (false)
          ) >>= fun ok_16 =>
          some (ok_16)
      ) >>= fun ok_18 =>
      if ok_18 = true then
        (impl_check_Kimpl_writtenSize_c1_Kimpl_isWrittenType_l0 (t0, n1, (wr (nodes4 + 1)), 0)) >>= fun fl => match fl with
        | .inl nodes_27 =>
          some nodes_27
        | .inr r =>
          some r
      else
        some 401
  partial_fixpoint
def impl_check_Kimpl_writtenSize_c1_Kimpl_isWrittenType_l0 (p : GTerm × Int × Int × Int) : Option ((Int) ⊕ (Int)) :=
  match p with
  | (t0, n1, nodes_23, w_24) =>
    if (decide (w_24 < (t0.fKids.length : Int))) = true then
      (idx t0.fKids w_24) >>= fun e_19_1 =>
      (impl_adds (t0.fOp, w_24)) >>= fun r_20_5 =>
      (impl_check_Kimpl_writtenSize_c1_Kimpl_isWrittenType (e_19_1, (wr (n1 + r_20_5)), nodes_23)) >>= fun r_20_10 =>
      if (decide (r_20_10 > 400)) = true then
        some (.inr 401)
      else
        impl_check_Kimpl_writtenSize_c1_Kimpl_isWrittenType_l0 (t0, n1, r_20_10, (wr (w_24 + 1)))
    else
      some (.inl nodes_23)
  partial_fixpoint
end
def M_impl_check_Kimpl_writtenSize_c1_Kimpl_isWrittenType (p : GTerm × Int × Int) (r : Int) : Prop :=
  match p with
  | (t0, n1, nodes4) => FnSound Try.prog 81 [.agg [.int .i64 t0.fOp, .int .i64 t0.fN, .sl (List.map I t0.fType), .sl (List.map GTerm_S t0.fKids)], .int .i64 n1, .fn 123 [], .fn 124 [], .int .i64 nodes4] (.int .i64 r) []
def M_impl_check_Kimpl_writtenSize_c1_Kimpl_isWrittenType_l0 (p : GTerm × Int × Int × Int) (fl : (Int) ⊕ (Int)) : Prop :=
  match p with
  | (t0, n1, nodes_23, w_24) => ∀ c : Ctx, c.nt = 104 → WpL Try.prog c (cl (cl (cr (cl (cr (cr (cr (cr (cr (cr (cr B81))))))))))) (impl_check_Kimpl_writtenSize_c1_Kimpl_isWrittenType_F1 c fl) (mkS [(1, .int .i64 n1), (2, .fn 123 []), (3, .fn 124 []), (4, .int .i64 nodes_23), (5, .ra 1 0), (82, .sl (List.map GTerm_S t0.fKids)), (83, .int .i64 (t0.fKids.length : Int)), (84, .int .i64 w_24)] [(1, .box [.int .i64 t0.fOp, .int .i64 t0.fN, .sl (List.map I t0.fType), .sl (List.map GTerm_S t0.fKids)])])
theorem impl_check_Kimpl_writtenSize_c1_Kimpl_isWrittenType_all : (∀ p r, impl_check_Kimpl_writtenSize_c1_Kimpl_isWrittenType p = some r → M_impl_check_Kimpl_writtenSize_c1_Kimpl_isWrittenType p r) ∧ (∀ p r, impl_check_Kimpl_writtenSize_c1_Kimpl_isWrittenType_l0 p = some r → M_impl_check_Kimpl_writtenSize_c1_Kimpl_isWrittenType_l0 p r) := by
  refine impl_check_Kimpl_writtenSize_c1_Kimpl_isWrittenType.mutual_partial_correctness M_impl_check_Kimpl_writtenSize_c1_Kimpl_isWrittenType M_impl_check_Kimpl_writtenSize_c1_Kimpl_isWrittenType_l0 ?_ ?_
  · rintro impl_check_Kimpl_writtenSize_c1_Kimpl_isWrittenType_l0_f impl_check_Kimpl_writtenSize_c1_Kimpl_isWrittenType_l0_ih ⟨t0, n1, nodes4⟩ r h
    show FnSound Try.prog 81 [.agg [.int .i64 t0.fOp, .int .i64 t0.fN, .sl (List.map I t0.fType), .sl (List.map GTerm_S t0.fKids)], .int .i64 n1, .fn 123 [], .fn 124 [], .int .i64 nodes4] (.int .i64 r) []
    refine FnSound.body0 tiok (fn := Try.f81) (code := B81) (by kernel_rfl) (by kernel_rfl) (by kernel_rfl) (by kernel_rfl) (nt := 104) (by kernel_rfl) (by kernel_rfl) (T := [(0, .agg [.int .i64 t0.fOp, .int .i64 t0.fN, .sl (List.map I t0.fType), .sl (List.map GTerm_S t0.fKids)]), (1, .int .i64 n1), (2, .fn 123 []), (3, .fn 124 []), (4, .int .i64 nodes4)]) (O := []) (by kernel_rfl) (by kernel_rfl) (fun c hc => ?_)
    refine Wp.seqN (by kernel_rfl) ?_
    refine Wp.reg tiok mix hc (by kernel_rfl) (ah := none) (rs := [some (.new 1), some (.no)]) (kt := [1, 2, 3, 4, 5]) (ko := [1]) (T' := [(1, .int .i64 n1), (2, .fn 123 []), (3, .fn 124 []), (4, .int .i64 nodes4), (5, .ra 1 0)]) (O' := [(1, .box [.int .i64 t0.fOp, .int .i64 t0.fN, .sl (List.map I t0.fType), .sl (List.map GTerm_S t0.fKids)])]) (by kernel_rfl) trivial (by kernel_rfl) (by kernel_rfl) ?_
    refine seqQ_norm ?_
    refine Wp.seqN (by kernel_rfl) ?_
    refine Wp.reg tiok mix hc (by kernel_rfl) (ah := none) (rs := [some (.no), some (.no), some (.no)]) (kt := [1, 2, 3, 4, 5]) (ko := [1]) (T' := [(1, .int .i64 n1), (2, .fn 123 []), (3, .fn 124 []), (4, .int .i64 (wr (nodes4 + 1))), (5, .ra 1 0)]) (O' := [(1, .box [.int .i64 t0.fOp, .int .i64 t0.fN, .sl (List.map I t0.fType), .sl (List.map GTerm_S t0.fKids)])]) (by kernel_rfl) trivial (by kernel_rfl) (by kernel_rfl) ?_
    refine seqQ_norm ?_
    refine Wp.seqN (by kernel_rfl) ?_
    obtain ⟨⟨r_2_2_0, r_2_2_1⟩, hr_2_2, h⟩ := bsome h
    refine Wp.reg tiok mix hc (by kernel_rfl) (ah := none) (rs := [some (.no), some (.no), some (.call (.tup [.agg [.str r_2_2_0.fword, .int .i64 r_2_2_0.fkids, .bool r_2_2_0.fgrade, .bool r_2_2_0.ftyped], .bool r_2_2_1]) [] 1), some (.no), some (.no), some (.no), some (.new 2), some (.no), some (.no)]) (kt := [1, 2, 3, 4, 5, 11, 12]) (ko := [1, 2]) (T' := [(1, .int .i64 n1), (2, .fn 123 []), (3, .fn 124 []), (4, .int .i64 (wr (nodes4 + 1))), (5, .ra 1 0), (11, .ra 2 0), (12, .bool r_2_2_1)]) (O' := [(1, .box [.int .i64 t0.fOp, .int .i64 t0.fN, .sl (List.map I t0.fType), .sl (List.map GTerm_S t0.fKids)]), (2, .box [.str r_2_2_0.fword, .int .i64 r_2_2_0.fkids, .bool r_2_2_0.fgrade, .bool r_2_2_0.ftyped])]) (by kernel_rfl) (And.intro (impl_formOf_s _ _ hr_2_2) (And.intro bod_100 (And.intro (Or.inl rfl : ([] : List Nat) = [] ∨ noSh (.tup [.agg [.str r_2_2_0.fword, .int .i64 r_2_2_0.fkids, .bool r_2_2_0.fgrade, .bool r_2_2_0.ftyped], .bool r_2_2_1]) = true) trivial))) (by kernel_rfl) (by kernel_rfl) ?_
    refine seqQ_norm ?_
    refine Wp.seqN (by kernel_rfl) ?_
    refine Wp.seqN (by kernel_rfl) ?_
    obtain ⟨v_1, hj_2, h⟩ := bsome h
    refine Wp.into (x := .normal) (mkS [(1, .int .i64 n1), (2, .fn 123 []), (3, .fn 124 []), (4, .int .i64 (wr (nodes4 + 1))), (5, .ra 1 0), (11, .ra 2 0), (36, .bool v_1)] [(1, .box [.int .i64 t0.fOp, .int .i64 t0.fN, .sl (List.map I t0.fType), .sl (List.map GTerm_S t0.fKids)]), (2, .box [.str r_2_2_0.fword, .int .i64 r_2_2_0.fkids, .bool r_2_2_0.fgrade, .bool r_2_2_0.ftyped])]) ?_ ?_
    · replace h := hj_2
      rcases itesome h with ⟨hb_3_0, h⟩ | ⟨hb_3_0, h⟩
      · rcases itesome h with ⟨hb_3_1, h⟩ | ⟨hb_3_1, h⟩
        · refine Wp.reg tiok mix hc (by kernel_rfl) (ah := none) (rs := [some (.no), some (.no), some (.no), some (.no), some (.no), some (.cond false), some (.no), none, none, none, none, none, none, some (.cond true)]) (kt := [1, 2, 3, 4, 5, 11, 36]) (ko := [1, 2]) (T' := [(1, .int .i64 n1), (2, .fn 123 []), (3, .fn 124 []), (4, .int .i64 (wr (nodes4 + 1))), (5, .ra 1 0), (11, .ra 2 0), (36, .bool true)]) (O' := [(1, .box [.int .i64 t0.fOp, .int .i64 t0.fN, .sl (List.map I t0.fType), .sl (List.map GTerm_S t0.fKids)]), (2, .box [.str r_2_2_0.fword, .int .i64 r_2_2_0.fkids, .bool r_2_2_0.fgrade, .bool r_2_2_0.ftyped])]) (by kernel_rfl) (And.intro (nF hb_3_0) (And.intro (nF hb_3_0) (And.intro (nF hb_3_0) (And.intro (neF hb_3_1 : (decide ((wr (nodes4 + 1)) > 400)) ≠ false) (And.intro (neF hb_3_1 : (decide ((wr (nodes4 + 1)) > 400)) ≠ false) (And.intro (neF hb_3_1 : (decide ((wr (nodes4 + 1)) > 400)) ≠ false) (And.intro (neF hb_3_1 : (decide ((wr (nodes4 + 1)) > 400)) ≠ false) (And.intro (neF hb_3_1 : (decide ((wr (nodes4 + 1)) > 400)) ≠ false) (And.intro (neF hb_3_1 : (decide ((wr (nodes4 + 1)) > 400)) ≠ false) (And.intro hb_3_1 trivial)))))))))) (by kernel_rfl) (by kernel_rfl) ?_
          obtain rfl := Option.some.inj h
          exact Into.mk
        · refine Wp.reg tiok mix hc (by kernel_rfl) (ah := none) (rs := [some (.no), some (.no), some (.no), some (.no), some (.no), some (.cond false), some (.no), some (.no), some (.no), some (.eqv (.no) ⟨[(32, .int .i64 (t0.fKids.length : Int))], [], []⟩), some (.no), some (.no), some (.no), some (.cond false)]) (kt := [1, 2, 3, 4, 5, 11, 36]) (ko := [1, 2]) (T' := [(1, .int .i64 n1), (2, .fn 123 []), (3, .fn 124 []), (4, .int .i64 (wr (nodes4 + 1))), (5, .ra 1 0), (11, .ra 2 0), (36, .bool ((t0.fKids.length : Int) != r_2_2_0.fkids))]) (O' := [(1, .box [.int .i64 t0.fOp, .int .i64 t0.fN, .sl (List.map I t0.fType), .sl (List.map GTerm_S t0.fKids)]), (2, .box [.str r_2_2_0.fword, .int .i64 r_2_2_0.fkids, .bool r_2_2_0.fgrade, .bool r_2_2_0.ftyped])]) (by kernel_rfl) (And.intro (nF hb_3_0) (And.intro (nF hb_3_0) (And.intro (nF hb_3_0) (And.intro hb_3_1 (And.intro hb_3_1 (And.intro hb_3_1 (And.intro (lenT (d := 32) GTerm_S t0.fKids) (And.intro hb_3_1 (And.intro hb_3_1 (And.intro hb_3_1 (And.intro hb_3_1 trivial))))))))))) (by kernel_rfl) (by kernel_rfl) ?_
          obtain rfl := Option.some.inj h
          exact Into.mk
      · refine Wp.reg tiok mix hc (by kernel_rfl) (ah := none) (rs := [some (.no), some (.no), some (.no), none, none, some (.cond true), some (.no), none, none, none, none, none, none, some (.cond true)]) (kt := [1, 2, 3, 4, 5, 11, 36]) (ko := [1, 2]) (T' := [(1, .int .i64 n1), (2, .fn 123 []), (3, .fn 124 []), (4, .int .i64 (wr (nodes4 + 1))), (5, .ra 1 0), (11, .ra 2 0), (36, .bool true)]) (O' := [(1, .box [.int .i64 t0.fOp, .int .i64 t0.fN, .sl (List.map I t0.fType), .sl (List.map GTerm_S t0.fKids)]), (2, .box [.str r_2_2_0.fword, .int .i64 r_2_2_0.fkids, .bool r_2_2_0.fgrade, .bool r_2_2_0.ftyped])]) (by kernel_rfl) (And.intro (neF (nT hb_3_0) : (!r_2_2_1) ≠ false) (And.intro (neF (nT hb_3_0) : (!r_2_2_1) ≠ false) (And.intro (nT hb_3_0) (And.intro (neF (rfl : true = true) : true ≠ false) (And.intro (neF (rfl : true = true) : true ≠ false) (And.intro (neF (rfl : true = true) : true ≠ false) (And.intro (neF (rfl : true = true) : true ≠ false) (And.intro (neF (rfl : true = true) : true ≠ false) (And.intro (neF (rfl : true = true) : true ≠ false) (And.intro (rfl : true = true) trivial)))))))))) (by kernel_rfl) (by kernel_rfl) ?_
        obtain rfl := Option.some.inj h
        exact Into.mk
    · clear hj_2
      refine seqQ_norm ?_
      rcases itesome h with ⟨hb_3, h⟩ | ⟨hb_3, h⟩
      · refine Wp.condT (b := v_1) (by kernel_rfl) (by kernel_rfl) hb_3 ?_
        refine Wp.seqN (by kernel_rfl) ?_
        refine Wp.reg tiok mix hc (by kernel_rfl) (ah := none) (rs := [some (.no)]) (kt := [10]) (ko := []) (T' := [(10, .int .i64 401)]) (O' := []) (by kernel_rfl) trivial (by kernel_rfl) (by kernel_rfl) ?_
        refine seqQ_norm ?_
        refine Wp.retN (by kernel_rfl) ?_
        refine seqQ_ret ?_
        obtain rfl := Option.some.inj h
        exact RetQ.ret (fl := [true]) (by kernel_rfl)
      · refine Wp.condF (b := v_1) (by kernel_rfl) (by kernel_rfl) hb_3 ?_
        refine Wp.skipN (by kernel_rfl) ?_
        refine seqQ_norm ?_
        refine Wp.seqN (by kernel_rfl) ?_
        refine Wp.blockN (i := 0) (by kernel_rfl) ?_
        refine Wp.seqN (by kernel_rfl) ?_
        refine Wp.reg tiok mix hc (by kernel_rfl) (ah := none) (rs := [some (.no), some (.no), some (.no), some (.no)]) (kt := [1, 2, 3, 4, 5, 11, 40]) (ko := [1, 2]) (T' := [(1, .int .i64 n1), (2, .fn 123 []), (3, .fn 124 []), (4, .int .i64 (wr (nodes4 + 1))), (5, .ra 1 0), (11, .ra 2 0), (40, .bool (t0.fOp == 0))]) (O' := [(1, .box [.int .i64 t0.fOp, .int .i64 t0.fN, .sl (List.map I t0.fType), .sl (List.map GTerm_S t0.fKids)]), (2, .box [.str r_2_2_0.fword, .int .i64 r_2_2_0.fkids, .bool r_2_2_0.fgrade, .bool r_2_2_0.ftyped])]) (by kernel_rfl) trivial (by kernel_rfl) (by kernel_rfl) ?_
        refine seqQ_norm ?_
        obtain ⟨ok_11, hj_12, h⟩ := bsome h
        refine Wp.into (x := .normal) (mkS [(1, .int .i64 n1), (2, .fn 123 []), (3, .fn 124 []), (4, .int .i64 (wr (nodes4 + 1))), (5, .ra 1 0), (11, .ra 2 0), (12, .bool ok_11)] [(1, .box [.int .i64 t0.fOp, .int .i64 t0.fN, .sl (List.map I t0.fType), .sl (List.map GTerm_S t0.fKids)]), (2, .box [.str r_2_2_0.fword, .int .i64 r_2_2_0.fkids, .bool r_2_2_0.fgrade, .bool r_2_2_0.ftyped])]) ?_ ?_
        · replace h := hj_12
          rcases itesome h with ⟨hb_4, h⟩ | ⟨hb_4, h⟩
          · refine Wp.condT (b := (t0.fOp == 0)) (by kernel_rfl) (by kernel_rfl) hb_4 ?_
            obtain ⟨r_7_4, hr_7_4, h⟩ := bsome h
            refine Wp.reg tiok mix hc (by kernel_rfl) (ah := none) (rs := [some (.no), some (.no), some (.no), some (.no), some (.call (.bool r_7_4) [] 1), some (.no)]) (kt := [1, 2, 3, 4, 5, 11, 12]) (ko := [1, 2]) (T' := [(1, .int .i64 n1), (2, .fn 123 []), (3, .fn 124 []), (4, .int .i64 (wr (nodes4 + 1))), (5, .ra 1 0), (11, .ra 2 0), (12, .bool r_7_4)]) (O' := [(1, .box [.int .i64 t0.fOp, .int .i64 t0.fN, .sl (List.map I t0.fType), .sl (List.map GTerm_S t0.fKids)]), (2, .box [.str r_2_2_0.fword, .int .i64 r_2_2_0.fkids, .bool r_2_2_0.fgrade, .bool r_2_2_0.ftyped])]) (by kernel_rfl) (And.intro (impl_within_s _ _ hr_7_4) (And.intro bod_91 (And.intro (Or.inl rfl : ([] : List Nat) = [] ∨ noSh (.bool r_7_4) = true) trivial))) (by kernel_rfl) (by kernel_rfl) ?_
            obtain rfl := Option.some.inj h
            exact Into.mk
          · refine Wp.condF (b := (t0.fOp == 0)) (by kernel_rfl) (by kernel_rfl) hb_4 ?_
            refine Wp.seqN (by kernel_rfl) ?_
            refine Wp.reg tiok mix hc (by kernel_rfl) (ah := none) (rs := [some (.no), some (.no), some (.no), some (.no)]) (kt := [1, 2, 3, 4, 5, 11, 49]) (ko := [1, 2]) (T' := [(1, .int .i64 n1), (2, .fn 123 []), (3, .fn 124 []), (4, .int .i64 (wr (nodes4 + 1))), (5, .ra 1 0), (11, .ra 2 0), (49, .bool (t0.fOp == 1))]) (O' := [(1, .box [.int .i64 t0.fOp, .int .i64 t0.fN, .sl (List.map I t0.fType), .sl (List.map GTerm_S t0.fKids)]), (2, .box [.str r_2_2_0.fword, .int .i64 r_2_2_0.fkids, .bool r_2_2_0.fgrade, .bool r_2_2_0.ftyped])]) (by kernel_rfl) trivial (by kernel_rfl) (by kernel_rfl) ?_
            refine seqQ_norm ?_
            obtain ⟨ok_9, hj_10, h⟩ := bsome h
            refine Wp.into (x := .normal) (mkS [(1, .int .i64 n1), (2, .fn 123 []), (3, .fn 124 []), (4, .int .i64 (wr (nodes4 + 1))), (5, .ra 1 0), (11, .ra 2 0), (12, .bool ok_9)] [(1, .box [.int .i64 t0.fOp, .int .i64 t0.fN, .sl (List.map I t0.fType), .sl (List.map GTerm_S t0.fKids)]), (2, .box [.str r_2_2_0.fword, .int .i64 r_2_2_0.fkids, .bool r_2_2_0.fgrade, .bool r_2_2_0.ftyped])]) ?_ ?_
            · replace h := hj_10
              rcases itesome h with ⟨hb_5, h⟩ | ⟨hb_5, h⟩
              · refine Wp.condT (b := (t0.fOp == 1)) (by kernel_rfl) (by kernel_rfl) hb_5 ?_
                obtain ⟨r_9_2, hr_9_2, h⟩ := bsome h
                refine Wp.reg tiok mix hc (by kernel_rfl) (ah := none) (rs := [some (.no), some (.no), some (.call (.bool r_9_2) [] 1), some (.no)]) (kt := [1, 2, 3, 4, 5, 11, 12]) (ko := [1, 2]) (T' := [(1, .int .i64 n1), (2, .fn 123 []), (3, .fn 124 []), (4, .int .i64 (wr (nodes4 + 1))), (5, .ra 1 0), (11, .ra 2 0), (12, .bool r_9_2)]) (O' := [(1, .box [.int .i64 t0.fOp, .int .i64 t0.fN, .sl (List.map I t0.fType), .sl (List.map GTerm_S t0.fKids)]), (2, .box [.str r_2_2_0.fword, .int .i64 r_2_2_0.fkids, .bool r_2_2_0.fgrade, .bool r_2_2_0.ftyped])]) (by kernel_rfl) (And.intro (impl_within_s _ _ hr_9_2) (And.intro bod_91 (And.intro (Or.inl rfl : ([] : List Nat) = [] ∨ noSh (.bool r_9_2) = true) trivial))) (by kernel_rfl) (by kernel_rfl) ?_
                obtain rfl := Option.some.inj h
                exact Into.mk
              · refine Wp.condF (b := (t0.fOp == 1)) (by kernel_rfl) (by kernel_rfl) hb_5 ?_
                refine Wp.seqN (by kernel_rfl) ?_
                refine Wp.reg tiok mix hc (by kernel_rfl) (ah := none) (rs := [some (.no), some (.no), some (.no)]) (kt := [1, 2, 3, 4, 5, 11, 56]) (ko := [1, 2]) (T' := [(1, .int .i64 n1), (2, .fn 123 []), (3, .fn 124 []), (4, .int .i64 (wr (nodes4 + 1))), (5, .ra 1 0), (11, .ra 2 0), (56, .bool r_2_2_0.fgrade)]) (O' := [(1, .box [.int .i64 t0.fOp, .int .i64 t0.fN, .sl (List.map I t0.fType), .sl (List.map GTerm_S t0.fKids)]), (2, .box [.str r_2_2_0.fword, .int .i64 r_2_2_0.fkids, .bool r_2_2_0.fgrade, .bool r_2_2_0.ftyped])]) (by kernel_rfl) trivial (by kernel_rfl) (by kernel_rfl) ?_
                refine seqQ_norm ?_
                obtain ⟨ok_7, hj_8, h⟩ := bsome h
                refine Wp.into (x := .normal) (mkS [(1, .int .i64 n1), (2, .fn 123 []), (3, .fn 124 []), (4, .int .i64 (wr (nodes4 + 1))), (5, .ra 1 0), (11, .ra 2 0), (12, .bool ok_7)] [(1, .box [.int .i64 t0.fOp, .int .i64 t0.fN, .sl (List.map I t0.fType), .sl (List.map GTerm_S t0.fKids)]), (2, .box [.str r_2_2_0.fword, .int .i64 r_2_2_0.fkids, .bool r_2_2_0.fgrade, .bool r_2_2_0.ftyped])]) ?_ ?_
                · replace h := hj_8
                  rcases itesome h with ⟨hb_6, h⟩ | ⟨hb_6, h⟩
                  · refine Wp.condT (b := r_2_2_0.fgrade) (by kernel_rfl) (by kernel_rfl) hb_6 ?_
                    obtain ⟨r_11_3, hr_11_3, h⟩ := bsome h
                    refine Wp.reg tiok mix hc (by kernel_rfl) (ah := none) (rs := [some (.no), some (.no), some (.no), some (.call (.bool r_11_3) [] 1), some (.no)]) (kt := [1, 2, 3, 4, 5, 11, 12]) (ko := [1, 2]) (T' := [(1, .int .i64 n1), (2, .fn 123 []), (3, .fn 124 []), (4, .int .i64 (wr (nodes4 + 1))), (5, .ra 1 0), (11, .ra 2 0), (12, .bool r_11_3)]) (O' := [(1, .box [.int .i64 t0.fOp, .int .i64 t0.fN, .sl (List.map I t0.fType), .sl (List.map GTerm_S t0.fKids)]), (2, .box [.str r_2_2_0.fword, .int .i64 r_2_2_0.fkids, .bool r_2_2_0.fgrade, .bool r_2_2_0.ftyped])]) (by kernel_rfl) (And.intro (impl_writtenSize_c1_s _ _ hr_11_3) (And.intro bod_123 (And.intro (Or.inl rfl : ([] : List Nat) = [] ∨ noSh (.bool r_11_3) = true) trivial))) (by kernel_rfl) (by kernel_rfl) ?_
                    obtain rfl := Option.some.inj h
                    exact Into.mk
                  · refine Wp.condF (b := r_2_2_0.fgrade) (by kernel_rfl) (by kernel_rfl) hb_6 ?_
                    refine Wp.reg tiok mix hc (by kernel_rfl) (ah := none) (rs := [some (.no), some (.no), some (.no), some (.no)]) (kt := [1, 2, 3, 4, 5, 11, 12]) (ko := [1, 2]) (T' := [(1, .int .i64 n1), (2, .fn 123 []), (3, .fn 124 []), (4, .int .i64 (wr (nodes4 + 1))), (5, .ra 1 0), (11, .ra 2 0), (12, .bool (t0.fN == 0))]) (O' := [(1, .box [.int .i64 t0.fOp, .int .i64 t0.fN, .sl (List.map I t0.fType), .sl (List.map GTerm_S t0.fKids)]), (2, .box [.str r_2_2_0.fword, .int .i64 r_2_2_0.fkids, .bool r_2_2_0.fgrade, .bool r_2_2_0.ftyped])]) (by kernel_rfl) trivial (by kernel_rfl) (by kernel_rfl) ?_
                    obtain rfl := Option.some.inj h
                    exact Into.mk
                · clear hj_8
                  obtain rfl := Option.some.inj h
                  exact Into.mk
            · clear hj_10
              obtain rfl := Option.some.inj h
              exact Into.mk
        · clear hj_12
          refine blockQ_norm ?_
          refine seqQ_norm ?_
          refine Wp.seqN (by kernel_rfl) ?_
          refine Wp.seqN (by kernel_rfl) ?_
          refine Wp.reg tiok mix hc (by kernel_rfl) (ah := none) (rs := [some (.no), some (.no)]) (kt := [1, 2, 3, 4, 5, 12, 64]) (ko := [1]) (T' := [(1, .int .i64 n1), (2, .fn 123 []), (3, .fn 124 []), (4, .int .i64 (wr (nodes4 + 1))), (5, .ra 1 0), (12, .bool ok_11), (64, .bool r_2_2_0.ftyped)]) (O' := [(1, .box [.int .i64 t0.fOp, .int .i64 t0.fN, .sl (List.map I t0.fType), .sl (List.map GTerm_S t0.fKids)])]) (by kernel_rfl) trivial (by kernel_rfl) (by kernel_rfl) ?_
          refine seqQ_norm ?_
          obtain ⟨ok_18, hj_19, h⟩ := bsome h
          refine Wp.into (x := .normal) (mkS [(1, .int .i64 n1), (2, .fn 123 []), (3, .fn 124 []), (4, .int .i64 (wr (nodes4 + 1))), (5, .ra 1 0), (12, .bool ok_18)] [(1, .box [.int .i64 t0.fOp, .int .i64 t0.fN, .sl (List.map I t0.fType), .sl (List.map GTerm_S t0.fKids)])]) ?_ ?_
          · replace h := hj_19
            rcases itesome h with ⟨hb_13, h⟩ | ⟨hb_13, h⟩
            · refine Wp.condT (b := r_2_2_0.ftyped) (by kernel_rfl) (by kernel_rfl) hb_13 ?_
              obtain ⟨ok_14, hj_15, h⟩ := bsome h
              refine Wp.into (x := .normal) (mkS [(1, .int .i64 n1), (2, .fn 123 []), (3, .fn 124 []), (4, .int .i64 (wr (nodes4 + 1))), (5, .ra 1 0), (12, .bool ok_14)] [(1, .box [.int .i64 t0.fOp, .int .i64 t0.fN, .sl (List.map I t0.fType), .sl (List.map GTerm_S t0.fKids)])]) ?_ ?_
              · replace h := hj_15
                rcases itesome h with ⟨hb_13_0, h⟩ | ⟨hb_13_0, h⟩
                · obtain ⟨r_13_5, hr_13_5, h⟩ := bsome h
                  refine Wp.reg tiok mix hc (by kernel_rfl) (ah := none) (rs := [some (.no), some (.no), some (.no), some (.no), some (.no), some (.call (.bool r_13_5) [] 1), some (.cond true), some (.no)]) (kt := [1, 2, 3, 4, 5, 12]) (ko := [1]) (T' := [(1, .int .i64 n1), (2, .fn 123 []), (3, .fn 124 []), (4, .int .i64 (wr (nodes4 + 1))), (5, .ra 1 0), (12, .bool r_13_5)]) (O' := [(1, .box [.int .i64 t0.fOp, .int .i64 t0.fN, .sl (List.map I t0.fType), .sl (List.map GTerm_S t0.fKids)])]) (by kernel_rfl) (And.intro hb_13_0 (And.intro hb_13_0 (And.intro hb_13_0 (And.intro hb_13_0 (And.intro (impl_isWrittenType_s _ _ hr_13_5) (And.intro bod_124 (And.intro (Or.inl rfl : ([] : List Nat) = [] ∨ noSh (.bool r_13_5) = true) (And.intro hb_13_0 trivial)))))))) (by kernel_rfl) (by kernel_rfl) ?_
                  obtain rfl := Option.some.inj h
                  exact Into.mk
                · refine Wp.reg tiok mix hc (by kernel_rfl) (ah := none) (rs := [some (.no), some (.no), none, none, none, none, some (.cond false), some (.no)]) (kt := [1, 2, 3, 4, 5, 12]) (ko := [1]) (T' := [(1, .int .i64 n1), (2, .fn 123 []), (3, .fn 124 []), (4, .int .i64 (wr (nodes4 + 1))), (5, .ra 1 0), (12, .bool false)]) (O' := [(1, .box [.int .i64 t0.fOp, .int .i64 t0.fN, .sl (List.map I t0.fType), .sl (List.map GTerm_S t0.fKids)])]) (by kernel_rfl) (And.intro (neT hb_13_0 : ok_11 ≠ true) (And.intro (neT hb_13_0 : ok_11 ≠ true) (And.intro (neT hb_13_0 : ok_11 ≠ true) (And.intro (neT hb_13_0 : ok_11 ≠ true) (And.intro hb_13_0 trivial))))) (by kernel_rfl) (by kernel_rfl) ?_
                  obtain rfl := Option.some.inj h
                  exact Into.mk
              · clear hj_15
                obtain rfl := Option.some.inj h
                exact Into.mk
            · refine Wp.condF (b := r_2_2_0.ftyped) (by kernel_rfl) (by kernel_rfl) hb_13 ?_
              obtain ⟨ok_16, hj_17, h⟩ := bsome h
              refine Wp.into (x := .normal) (mkS [(1, .int .i64 n1), (2, .fn 123 []), (3, .fn 124 []), (4, .int .i64 (wr (nodes4 + 1))), (5, .ra 1 0), (12, .bool ok_16)] [(1, .box [.int .i64 t0.fOp, .int .i64 t0.fN, .sl (List.map I t0.fType), .sl (List.map GTerm_S t0.fKids)])]) ?_ ?_
              · replace h := hj_17
                rcases itesome h with ⟨hb_14_0, h⟩ | ⟨hb_14_0, h⟩
                · refine Wp.reg tiok mix hc (by kernel_rfl) (ah := none) (rs := [some (.no), some (.no), some (.no), some (.no), some (.eqv (.no) ⟨[(76, .int .i64 (t0.fType.length : Int))], [], []⟩), some (.no), some (.cond true), some (.no)]) (kt := [1, 2, 3, 4, 5, 12]) (ko := [1]) (T' := [(1, .int .i64 n1), (2, .fn 123 []), (3, .fn 124 []), (4, .int .i64 (wr (nodes4 + 1))), (5, .ra 1 0), (12, .bool ((t0.fType.length : Int) == 0))]) (O' := [(1, .box [.int .i64 t0.fOp, .int .i64 t0.fN, .sl (List.map I t0.fType), .sl (List.map GTerm_S t0.fKids)])]) (by kernel_rfl) (And.intro hb_14_0 (And.intro hb_14_0 (And.intro hb_14_0 (And.intro (lenT (d := 76) I t0.fType) (And.intro hb_14_0 (And.intro hb_14_0 trivial)))))) (by kernel_rfl) (by kernel_rfl) ?_
                  obtain rfl := Option.some.inj h
                  exact Into.mk
                · refine Wp.reg tiok mix hc (by kernel_rfl) (ah := none) (rs := [some (.no), some (.no), none, none, none, none, some (.cond false), some (.no)]) (kt := [1, 2, 3, 4, 5, 12]) (ko := [1]) (T' := [(1, .int .i64 n1), (2, .fn 123 []), (3, .fn 124 []), (4, .int .i64 (wr (nodes4 + 1))), (5, .ra 1 0), (12, .bool false)]) (O' := [(1, .box [.int .i64 t0.fOp, .int .i64 t0.fN, .sl (List.map I t0.fType), .sl (List.map GTerm_S t0.fKids)])]) (by kernel_rfl) (And.intro (neT hb_14_0 : ok_11 ≠ true) (And.intro (neT hb_14_0 : ok_11 ≠ true) (And.intro (neT hb_14_0 : ok_11 ≠ true) (And.intro (neT hb_14_0 : ok_11 ≠ true) (And.intro hb_14_0 trivial))))) (by kernel_rfl) (by kernel_rfl) ?_
                  obtain rfl := Option.some.inj h
                  exact Into.mk
              · clear hj_17
                obtain rfl := Option.some.inj h
                exact Into.mk
          · clear hj_19
            refine seqQ_norm ?_
            refine Wp.seqN (by kernel_rfl) ?_
            refine Wp.seqN (by kernel_rfl) ?_
            refine Wp.reg tiok mix hc (by kernel_rfl) (ah := none) (rs := [some (.no), some (.no)]) (kt := [1, 2, 3, 4, 5, 80]) (ko := [1]) (T' := [(1, .int .i64 n1), (2, .fn 123 []), (3, .fn 124 []), (4, .int .i64 (wr (nodes4 + 1))), (5, .ra 1 0), (80, .bool (!ok_18))]) (O' := [(1, .box [.int .i64 t0.fOp, .int .i64 t0.fN, .sl (List.map I t0.fType), .sl (List.map GTerm_S t0.fKids)])]) (by kernel_rfl) trivial (by kernel_rfl) (by kernel_rfl) ?_
            refine seqQ_norm ?_
            rcases itesome h with ⟨hb_20, h⟩ | ⟨hb_20, h⟩
            · refine Wp.condF (b := (!ok_18)) (by kernel_rfl) (by kernel_rfl) (nF hb_20) ?_
              refine Wp.skipN (by kernel_rfl) ?_
              refine seqQ_norm ?_
              refine Wp.seqN (by kernel_rfl) ?_
              refine Wp.seqN (by kernel_rfl) ?_
              refine Wp.reg tiok mix hc (by kernel_rfl) (ah := none) (rs := [some (.no), some (.no), some (.eqv (.no) ⟨[(83, .int .i64 (t0.fKids.length : Int))], [], []⟩), some (.no)]) (kt := [1, 2, 3, 4, 5, 82, 83, 84]) (ko := [1]) (T' := [(1, .int .i64 n1), (2, .fn 123 []), (3, .fn 124 []), (4, .int .i64 (wr (nodes4 + 1))), (5, .ra 1 0), (82, .sl (List.map GTerm_S t0.fKids)), (83, .int .i64 (t0.fKids.length : Int)), (84, .int .i64 0)]) (O' := [(1, .box [.int .i64 t0.fOp, .int .i64 t0.fN, .sl (List.map I t0.fType), .sl (List.map GTerm_S t0.fKids)])]) (by kernel_rfl) (And.intro (lenT (d := 83) GTerm_S t0.fKids) trivial) (by kernel_rfl) (by kernel_rfl) ?_
              refine seqQ_norm ?_
              refine Wp.blockN (i := 1) (by kernel_rfl) ?_
              obtain ⟨fl, hl_28, h⟩ := bsome h
              have hL := impl_check_Kimpl_writtenSize_c1_Kimpl_isWrittenType_l0_ih _ _ hl_28 c hc
              refine Wp.loopN (by kernel_rfl) ?_
              rcases fl with nodes_27 | r
              · refine WpL.into (e := (.exit 1)) (mkS [(4, .int .i64 nodes_27)] []) hL ?_
                refine blockQ_hit ?_
                refine seqQ_norm ?_
                refine Wp.seqN (by kernel_rfl) ?_
                refine Wp.reg tiok mix hc (by kernel_rfl) (ah := none) (rs := [some (.no), some (.no)]) (kt := [10]) (ko := []) (T' := [(10, .int .i64 nodes_27)]) (O' := []) (by kernel_rfl) trivial (by kernel_rfl) (by kernel_rfl) ?_
                refine seqQ_norm ?_
                refine Wp.retN (by kernel_rfl) ?_
                obtain rfl := Option.some.inj h
                exact RetQ.ret (fl := [true]) (by kernel_rfl)
              · refine WpL.mono hL ?_
                rintro _ _ ⟨rfl, hfin⟩
                refine blockQ_ret ?_
                refine seqQ_ret ?_
                obtain rfl := Option.some.inj h
                exact ⟨.inl rfl, hfin⟩
            · refine Wp.condT (b := (!ok_18)) (by kernel_rfl) (by kernel_rfl) (nT hb_20) ?_
              refine Wp.seqN (by kernel_rfl) ?_
              refine Wp.reg tiok mix hc (by kernel_rfl) (ah := none) (rs := [some (.no)]) (kt := [10]) (ko := []) (T' := [(10, .int .i64 401)]) (O' := []) (by kernel_rfl) trivial (by kernel_rfl) (by kernel_rfl) ?_
              refine seqQ_norm ?_
              refine Wp.retN (by kernel_rfl) ?_
              refine seqQ_ret ?_
              obtain rfl := Option.some.inj h
              exact RetQ.ret (fl := [true]) (by kernel_rfl)
  · rintro impl_check_Kimpl_writtenSize_c1_Kimpl_isWrittenType_f impl_check_Kimpl_writtenSize_c1_Kimpl_isWrittenType_l0_f impl_check_Kimpl_writtenSize_c1_Kimpl_isWrittenType_ih impl_check_Kimpl_writtenSize_c1_Kimpl_isWrittenType_l0_ih ⟨t0, n1, nodes_23, w_24⟩ r h
    intro c hc
    show WpL Try.prog c (cl (cl (cr (cl (cr (cr (cr (cr (cr (cr (cr B81))))))))))) (impl_check_Kimpl_writtenSize_c1_Kimpl_isWrittenType_F1 c r) (mkS [(1, .int .i64 n1), (2, .fn 123 []), (3, .fn 124 []), (4, .int .i64 nodes_23), (5, .ra 1 0), (82, .sl (List.map GTerm_S t0.fKids)), (83, .int .i64 (t0.fKids.length : Int)), (84, .int .i64 w_24)] [(1, .box [.int .i64 t0.fOp, .int .i64 t0.fN, .sl (List.map I t0.fType), .sl (List.map GTerm_S t0.fKids)])])
    refine WpL.step ?_
    refine Wp.seqN (by kernel_rfl) ?_
    refine Wp.reg tiok mix hc (by kernel_rfl) (ah := none) (rs := [some (.no)]) (kt := [1, 2, 3, 4, 5, 82, 83, 84, 85]) (ko := [1]) (T' := [(1, .int .i64 n1), (2, .fn 123 []), (3, .fn 124 []), (4, .int .i64 nodes_23), (5, .ra 1 0), (82, .sl (List.map GTerm_S t0.fKids)), (83, .int .i64 (t0.fKids.length : Int)), (84, .int .i64 w_24), (85, .bool (decide (w_24 < (t0.fKids.length : Int))))]) (O' := [(1, .box [.int .i64 t0.fOp, .int .i64 t0.fN, .sl (List.map I t0.fType), .sl (List.map GTerm_S t0.fKids)])]) (by kernel_rfl) trivial (by kernel_rfl) (by kernel_rfl) ?_
    refine seqQ_norm ?_
    refine Wp.seqN (by kernel_rfl) ?_
    rcases itesome h with ⟨hb_25, h⟩ | ⟨hb_25, h⟩
    · refine Wp.condT (b := (decide (w_24 < (t0.fKids.length : Int)))) (by kernel_rfl) (by kernel_rfl) hb_25 ?_
      refine Wp.skipN (by kernel_rfl) ?_
      refine seqQ_norm ?_
      refine Wp.seqN (by kernel_rfl) ?_
      refine Wp.blockN (i := 2) (by kernel_rfl) ?_
      refine Wp.seqN (by kernel_rfl) ?_
      obtain ⟨e_19_1, hi_19_1, h⟩ := bsome h
      refine Wp.reg tiok mix hc (by kernel_rfl) (ah := none) (rs := [some (.no), some (.el (.agg [.int .i64 e_19_1.fOp, .int .i64 e_19_1.fN, .sl (List.map I e_19_1.fType), .sl (List.map GTerm_S e_19_1.fKids)])), some (.no), some (.new 4), some (.no), some (.no)]) (kt := [1, 2, 3, 4, 5, 13, 14, 82, 83, 84]) (ko := [1, 4]) (T' := [(1, .int .i64 n1), (2, .fn 123 []), (3, .fn 124 []), (4, .int .i64 nodes_23), (5, .ra 1 0), (13, .int .i64 w_24), (14, .ra 4 0), (82, .sl (List.map GTerm_S t0.fKids)), (83, .int .i64 (t0.fKids.length : Int)), (84, .int .i64 w_24)]) (O' := [(1, .box [.int .i64 t0.fOp, .int .i64 t0.fN, .sl (List.map I t0.fType), .sl (List.map GTerm_S t0.fKids)]), (4, .box [.int .i64 e_19_1.fOp, .int .i64 e_19_1.fN, .sl (List.map I e_19_1.fType), .sl (List.map GTerm_S e_19_1.fKids)])]) (by kernel_rfl) (And.intro (idx_sl (enc := GTerm_S) (x := .agg [.int .i64 e_19_1.fOp, .int .i64 e_19_1.fN, .sl (List.map I e_19_1.fType), .sl (List.map GTerm_S e_19_1.fKids)]) hi_19_1 (eq_GTerm_S e_19_1)) trivial) (by kernel_rfl) (by kernel_rfl) ?_
      refine seqQ_norm ?_
      refine Wp.seqN (by kernel_rfl) ?_
      obtain ⟨r_20_5, hr_20_5, h⟩ := bsome h
      obtain ⟨r_20_10, hr_20_10, h⟩ := bsome h
      refine Wp.reg tiok mix hc (by kernel_rfl) (ah := (some [[], [], [], [2], [], [2, 3, 4], [1, 2, 3, 4, 5], [], [], [], [0, 1, 2, 3, 4, 5, 6, 7, 8, 9], [0, 1, 2, 3, 4, 5, 6, 7, 8, 9, 10]])) (rs := [some (.no), some (.no), some (.no), some (.no), some (.no), some (.call (.int .i64 r_20_5) [] 1), some (.no), some (.no), some (.no), some (.no), some (.call (.int .i64 r_20_10) [] 1), some (.no)]) (kt := [1, 2, 3, 4, 5, 82, 83, 84]) (ko := [1]) (T' := [(1, .int .i64 n1), (2, .fn 123 []), (3, .fn 124 []), (4, .int .i64 r_20_10), (5, .ra 1 0), (82, .sl (List.map GTerm_S t0.fKids)), (83, .int .i64 (t0.fKids.length : Int)), (84, .int .i64 w_24)]) (O' := [(1, .box [.int .i64 t0.fOp, .int .i64 t0.fN, .sl (List.map I t0.fType), .sl (List.map GTerm_S t0.fKids)])]) (by kernel_rfl) (And.intro (impl_adds_s _ _ hr_20_5) (And.intro bod_117 (And.intro (Or.inl rfl : ([] : List Nat) = [] ∨ noSh (.int .i64 r_20_5) = true) (And.intro (impl_check_Kimpl_writtenSize_c1_Kimpl_isWrittenType_ih _ _ hr_20_10) (And.intro bod_81 (And.intro (Or.inl rfl : ([] : List Nat) = [] ∨ noSh (.int .i64 r_20_10) = true) trivial)))))) (by kernel_rfl) (by kernel_rfl) ?_
      refine seqQ_norm ?_
      refine Wp.seqN (by kernel_rfl) ?_
      refine Wp.reg tiok mix hc (by kernel_rfl) (ah := none) (rs := [some (.no), some (.no)]) (kt := [1, 2, 3, 4, 5, 82, 83, 84, 101]) (ko := [1]) (T' := [(1, .int .i64 n1), (2, .fn 123 []), (3, .fn 124 []), (4, .int .i64 r_20_10), (5, .ra 1 0), (82, .sl (List.map GTerm_S t0.fKids)), (83, .int .i64 (t0.fKids.length : Int)), (84, .int .i64 w_24), (101, .bool (decide (r_20_10 > 400)))]) (O' := [(1, .box [.int .i64 t0.fOp, .int .i64 t0.fN, .sl (List.map I t0.fType), .sl (List.map GTerm_S t0.fKids)])]) (by kernel_rfl) trivial (by kernel_rfl) (by kernel_rfl) ?_
      refine seqQ_norm ?_
      rcases itesome h with ⟨hb_26, h⟩ | ⟨hb_26, h⟩
      · refine Wp.condT (b := (decide (r_20_10 > 400))) (by kernel_rfl) (by kernel_rfl) hb_26 ?_
        refine Wp.seqN (by kernel_rfl) ?_
        refine Wp.reg tiok mix hc (by kernel_rfl) (ah := none) (rs := [some (.no)]) (kt := [10]) (ko := []) (T' := [(10, .int .i64 401)]) (O' := []) (by kernel_rfl) trivial (by kernel_rfl) (by kernel_rfl) ?_
        refine seqQ_norm ?_
        refine Wp.retN (by kernel_rfl) ?_
        refine blockQ_ret ?_
        refine seqQ_ret ?_
        refine loopQ_ret ?_
        obtain rfl := Option.some.inj h
        exact RetE.ret (fl := [true]) (by kernel_rfl)
      · refine Wp.condF (b := (decide (r_20_10 > 400))) (by kernel_rfl) (by kernel_rfl) hb_26 ?_
        refine Wp.skipN (by kernel_rfl) ?_
        refine blockQ_norm ?_
        refine seqQ_norm ?_
        refine Wp.reg tiok mix hc (by kernel_rfl) (ah := none) (rs := [some (.no), some (.no)]) (kt := [1, 2, 3, 4, 5, 82, 83, 84]) (ko := [1]) (T' := [(1, .int .i64 n1), (2, .fn 123 []), (3, .fn 124 []), (4, .int .i64 r_20_10), (5, .ra 1 0), (82, .sl (List.map GTerm_S t0.fKids)), (83, .int .i64 (t0.fKids.length : Int)), (84, .int .i64 (wr (w_24 + 1)))]) (O' := [(1, .box [.int .i64 t0.fOp, .int .i64 t0.fN, .sl (List.map I t0.fType), .sl (List.map GTerm_S t0.fKids)])]) (by kernel_rfl) trivial (by kernel_rfl) (by kernel_rfl) ?_
        refine loopQ_norm ?_
        exact (impl_check_Kimpl_writtenSize_c1_Kimpl_isWrittenType_l0_ih _ _ h c hc)
    · refine Wp.condF (b := (decide (w_24 < (t0.fKids.length : Int)))) (by kernel_rfl) (by kernel_rfl) hb_25 ?_
      refine Wp.exitN (i := 1) (by kernel_rfl) ?_
      refine seqQ_exit ?_
      refine loopQ_exit ?_
      obtain rfl := Option.some.inj h
      exact Into.view (fun a w hv => SRx.renL [] hv (by kernel_rfl) (by kernel_rfl) (by kernel_rfl))
theorem impl_check_Kimpl_writtenSize_c1_Kimpl_isWrittenType_s : ∀ p r, impl_check_Kimpl_writtenSize_c1_Kimpl_isWrittenType p = some r → M_impl_check_Kimpl_writtenSize_c1_Kimpl_isWrittenType p r := impl_check_Kimpl_writtenSize_c1_Kimpl_isWrittenType_all.1
theorem impl_check_Kimpl_writtenSize_c1_Kimpl_isWrittenType_l0_s : ∀ p r, impl_check_Kimpl_writtenSize_c1_Kimpl_isWrittenType_l0 p = some r → M_impl_check_Kimpl_writtenSize_c1_Kimpl_isWrittenType_l0 p r := impl_check_Kimpl_writtenSize_c1_Kimpl_isWrittenType_all.2
def impl_writtenSize (t0 : GTerm) : Option (Int) :=
    (impl_check_Kimpl_writtenSize_c1_Kimpl_isWrittenType (t0, 8, 0)) >>= fun r_1_1 =>
    some r_1_1
def M_impl_writtenSize (t0 : GTerm) (r : Int) : Prop :=
  FnSound Try.prog 99 [.agg [.int .i64 t0.fOp, .int .i64 t0.fN, .sl (List.map I t0.fType), .sl (List.map GTerm_S t0.fKids)]] (.int .i64 r) []
theorem impl_writtenSize_s : ∀ p r, impl_writtenSize p = some r → M_impl_writtenSize p r := by
  rintro t0 r h
  unfold impl_writtenSize at h
  show FnSound Try.prog 99 [.agg [.int .i64 t0.fOp, .int .i64 t0.fN, .sl (List.map I t0.fType), .sl (List.map GTerm_S t0.fKids)]] (.int .i64 r) []
  refine FnSound.body0 tiok (fn := Try.f99) (code := B99) (by kernel_rfl) (by kernel_rfl) (by kernel_rfl) (by kernel_rfl) (nt := 5) (by kernel_rfl) (by kernel_rfl) (T := [(0, .agg [.int .i64 t0.fOp, .int .i64 t0.fN, .sl (List.map I t0.fType), .sl (List.map GTerm_S t0.fKids)])]) (O := []) (by kernel_rfl) (by kernel_rfl) (fun c hc => ?_)
  refine Wp.seqN (by kernel_rfl) ?_
  refine Wp.reg tiok mix hc (by kernel_rfl) (ah := none) (rs := [some (.new 1), some (.no)]) (kt := [1]) (ko := [1]) (T' := [(1, .ra 1 0)]) (O' := [(1, .box [.int .i64 t0.fOp, .int .i64 t0.fN, .sl (List.map I t0.fType), .sl (List.map GTerm_S t0.fKids)])]) (by kernel_rfl) trivial (by kernel_rfl) (by kernel_rfl) ?_
  refine seqQ_norm ?_
  refine Wp.seqN (by kernel_rfl) ?_
  obtain ⟨r_1_1, hr_1_1, h⟩ := bsome h
  refine Wp.reg tiok mix hc (by kernel_rfl) (ah := none) (rs := [some (.no), some (.call (.int .i64 r_1_1) [] 1), some (.no)]) (kt := [2]) (ko := []) (T' := [(2, .int .i64 r_1_1)]) (O' := []) (by kernel_rfl) (And.intro (impl_check_Kimpl_writtenSize_c1_Kimpl_isWrittenType_s _ _ hr_1_1) (And.intro bod_81 (And.intro (Or.inl rfl : ([] : List Nat) = [] ∨ noSh (.int .i64 r_1_1) = true) trivial))) (by kernel_rfl) (by kernel_rfl) ?_
  refine seqQ_norm ?_
  refine Wp.retN (by kernel_rfl) ?_
  obtain rfl := Option.some.inj h
  exact RetQ.ret (fl := [true]) (by kernel_rfl)
def impl_IsWritten (t0 : GTerm) : Option (Bool) :=
    (impl_writtenSize t0) >>= fun r_1_1 =>
    some (decide (r_1_1 ≤ 400))
def M_impl_IsWritten (t0 : GTerm) (r : Bool) : Prop :=
  FnSound Try.prog 61 [.agg [.int .i64 t0.fOp, .int .i64 t0.fN, .sl (List.map I t0.fType), .sl (List.map GTerm_S t0.fKids)]] (.bool r) []
theorem impl_IsWritten_s : ∀ p r, impl_IsWritten p = some r → M_impl_IsWritten p r := by
  rintro t0 r h
  unfold impl_IsWritten at h
  show FnSound Try.prog 61 [.agg [.int .i64 t0.fOp, .int .i64 t0.fN, .sl (List.map I t0.fType), .sl (List.map GTerm_S t0.fKids)]] (.bool r) []
  refine FnSound.body0 tiok (fn := Try.f61) (code := B61) (by kernel_rfl) (by kernel_rfl) (by kernel_rfl) (by kernel_rfl) (nt := 6) (by kernel_rfl) (by kernel_rfl) (T := [(0, .agg [.int .i64 t0.fOp, .int .i64 t0.fN, .sl (List.map I t0.fType), .sl (List.map GTerm_S t0.fKids)])]) (O := []) (by kernel_rfl) (by kernel_rfl) (fun c hc => ?_)
  refine Wp.seqN (by kernel_rfl) ?_
  refine Wp.reg tiok mix hc (by kernel_rfl) (ah := none) (rs := [some (.new 1), some (.no)]) (kt := [1]) (ko := [1]) (T' := [(1, .ra 1 0)]) (O' := [(1, .box [.int .i64 t0.fOp, .int .i64 t0.fN, .sl (List.map I t0.fType), .sl (List.map GTerm_S t0.fKids)])]) (by kernel_rfl) trivial (by kernel_rfl) (by kernel_rfl) ?_
  refine seqQ_norm ?_
  refine Wp.seqN (by kernel_rfl) ?_
  obtain ⟨r_1_1, hr_1_1, h⟩ := bsome h
  refine Wp.reg tiok mix hc (by kernel_rfl) (ah := none) (rs := [some (.no), some (.call (.int .i64 r_1_1) [] 1), some (.no), some (.no)]) (kt := [2]) (ko := []) (T' := [(2, .bool (decide (r_1_1 ≤ 400)))]) (O' := []) (by kernel_rfl) (And.intro (impl_writtenSize_s _ _ hr_1_1) (And.intro bod_99 (And.intro (Or.inl rfl : ([] : List Nat) = [] ∨ noSh (.int .i64 r_1_1) = true) trivial))) (by kernel_rfl) (by kernel_rfl) ?_
  refine seqQ_norm ?_
  refine Wp.retN (by kernel_rfl) ?_
  obtain rfl := Option.some.inj h
  exact RetQ.ret (fl := [true]) (by kernel_rfl)
def impl_isRedex (t0 : GTerm) : Option (Bool) :=
    if ((t0.fKids.length : Int) == 0) = true then
      some false
    else
      (idx t0.fKids 0) >>= fun e_3_2 =>
      if (t0.fOp == 2) = true then
        (
          if (e_3_2.fOp == 1) = true then
            (idx t0.fKids 1) >>= fun e_6_5 =>
            some ((e_6_5.fOp == 1))
          else
            some (false)
        ) >>= fun v_3 =>
        some v_3
      else
        if (t0.fOp == 3) = true then
          some (e_3_2.fOp == 1)
        else
          if (t0.fOp == 10) = true then
            some (e_3_2.fOp == 9)
          else
            if (t0.fOp == 5) = true then
              some (e_3_2.fOp == 4)
            else
              if (t0.fOp == 8) = true then
                (
                  if (e_3_2.fOp == 6) = true then
                    some (true)
                  else
                    some ((e_3_2.fOp == 7))
                ) >>= fun v_9 =>
                some v_9
              else
                if (t0.fOp == 12) = true then
                  some (e_3_2.fOp == 11)
                else
                  some false
def M_impl_isRedex (t0 : GTerm) (r : Bool) : Prop :=
  FnSound Try.prog 104 [.agg [.int .i64 t0.fOp, .int .i64 t0.fN, .sl (List.map I t0.fType), .sl (List.map GTerm_S t0.fKids)]] (.bool r) []
theorem impl_isRedex_s : ∀ p r, impl_isRedex p = some r → M_impl_isRedex p r := by
  rintro t0 r h
  unfold impl_isRedex at h
  show FnSound Try.prog 104 [.agg [.int .i64 t0.fOp, .int .i64 t0.fN, .sl (List.map I t0.fType), .sl (List.map GTerm_S t0.fKids)]] (.bool r) []
  refine FnSound.body0 tiok (fn := Try.f104) (code := B104) (by kernel_rfl) (by kernel_rfl) (by kernel_rfl) (by kernel_rfl) (nt := 51) (by kernel_rfl) (by kernel_rfl) (T := [(0, .agg [.int .i64 t0.fOp, .int .i64 t0.fN, .sl (List.map I t0.fType), .sl (List.map GTerm_S t0.fKids)])]) (O := []) (by kernel_rfl) (by kernel_rfl) (fun c hc => ?_)
  refine Wp.seqN (by kernel_rfl) ?_
  refine Wp.reg tiok mix hc (by kernel_rfl) (ah := none) (rs := [some (.new 1), some (.no)]) (kt := [1]) (ko := [1]) (T' := [(1, .ra 1 0)]) (O' := [(1, .box [.int .i64 t0.fOp, .int .i64 t0.fN, .sl (List.map I t0.fType), .sl (List.map GTerm_S t0.fKids)])]) (by kernel_rfl) trivial (by kernel_rfl) (by kernel_rfl) ?_
  refine seqQ_norm ?_
  refine Wp.seqN (by kernel_rfl) ?_
  refine Wp.seqN (by kernel_rfl) ?_
  refine Wp.reg tiok mix hc (by kernel_rfl) (ah := none) (rs := [some (.no), some (.no), some (.eqv (.no) ⟨[(6, .int .i64 (t0.fKids.length : Int))], [], []⟩), some (.no)]) (kt := [1, 7]) (ko := [1]) (T' := [(1, .ra 1 0), (7, .bool ((t0.fKids.length : Int) == 0))]) (O' := [(1, .box [.int .i64 t0.fOp, .int .i64 t0.fN, .sl (List.map I t0.fType), .sl (List.map GTerm_S t0.fKids)])]) (by kernel_rfl) (And.intro (lenT (d := 6) GTerm_S t0.fKids) trivial) (by kernel_rfl) (by kernel_rfl) ?_
  refine seqQ_norm ?_
  rcases itesome h with ⟨hb_1, h⟩ | ⟨hb_1, h⟩
  · refine Wp.condT (b := ((t0.fKids.length : Int) == 0)) (by kernel_rfl) (by kernel_rfl) hb_1 ?_
    refine Wp.seqN (by kernel_rfl) ?_
    refine Wp.reg tiok mix hc (by kernel_rfl) (ah := none) (rs := [some (.no)]) (kt := [2]) (ko := []) (T' := [(2, .bool false)]) (O' := []) (by kernel_rfl) trivial (by kernel_rfl) (by kernel_rfl) ?_
    refine seqQ_norm ?_
    refine Wp.retN (by kernel_rfl) ?_
    refine seqQ_ret ?_
    obtain rfl := Option.some.inj h
    exact RetQ.ret (fl := [true]) (by kernel_rfl)
  · refine Wp.condF (b := ((t0.fKids.length : Int) == 0)) (by kernel_rfl) (by kernel_rfl) hb_1 ?_
    refine Wp.skipN (by kernel_rfl) ?_
    refine seqQ_norm ?_
    refine Wp.seqN (by kernel_rfl) ?_
    obtain ⟨e_3_2, hi_3_2, h⟩ := bsome h
    refine Wp.reg tiok mix hc (by kernel_rfl) (ah := none) (rs := [some (.no), some (.no), some (.el (.agg [.int .i64 e_3_2.fOp, .int .i64 e_3_2.fN, .sl (List.map I e_3_2.fType), .sl (List.map GTerm_S e_3_2.fKids)])), some (.no), some (.no), some (.no)]) (kt := [1, 3]) (ko := [1]) (T' := [(1, .ra 1 0), (3, .int .i64 e_3_2.fOp)]) (O' := [(1, .box [.int .i64 t0.fOp, .int .i64 t0.fN, .sl (List.map I t0.fType), .sl (List.map GTerm_S t0.fKids)])]) (by kernel_rfl) (And.intro (idx_sl (enc := GTerm_S) (x := .agg [.int .i64 e_3_2.fOp, .int .i64 e_3_2.fN, .sl (List.map I e_3_2.fType), .sl (List.map GTerm_S e_3_2.fKids)]) hi_3_2 (eq_GTerm_S e_3_2)) trivial) (by kernel_rfl) (by kernel_rfl) ?_
    refine seqQ_norm ?_
    refine Wp.seqN (by kernel_rfl) ?_
    refine Wp.seqN (by kernel_rfl) ?_
    refine Wp.reg tiok mix hc (by kernel_rfl) (ah := none) (rs := [some (.no), some (.no)]) (kt := [1, 3, 14]) (ko := [1]) (T' := [(1, .ra 1 0), (3, .int .i64 e_3_2.fOp), (14, .int .i64 t0.fOp)]) (O' := [(1, .box [.int .i64 t0.fOp, .int .i64 t0.fN, .sl (List.map I t0.fType), .sl (List.map GTerm_S t0.fKids)])]) (by kernel_rfl) trivial (by kernel_rfl) (by kernel_rfl) ?_
    refine seqQ_norm ?_
    refine Wp.blockN (i := 0) (by kernel_rfl) ?_
    refine Wp.seqN (by kernel_rfl) ?_
    refine Wp.reg tiok mix hc (by kernel_rfl) (ah := none) (rs := [some (.no), some (.no)]) (kt := [1, 3, 14, 15]) (ko := [1]) (T' := [(1, .ra 1 0), (3, .int .i64 e_3_2.fOp), (14, .int .i64 t0.fOp), (15, .bool (t0.fOp == 2))]) (O' := [(1, .box [.int .i64 t0.fOp, .int .i64 t0.fN, .sl (List.map I t0.fType), .sl (List.map GTerm_S t0.fKids)])]) (by kernel_rfl) trivial (by kernel_rfl) (by kernel_rfl) ?_
    refine seqQ_norm ?_
    rcases itesome h with ⟨hb_2, h⟩ | ⟨hb_2, h⟩
    · refine Wp.condT (b := (t0.fOp == 2)) (by kernel_rfl) (by kernel_rfl) hb_2 ?_
      refine Wp.seqN (by kernel_rfl) ?_
      obtain ⟨v_3, hj_4, h⟩ := bsome h
      refine Wp.into (x := .normal) (mkS [(2, .bool v_3)] []) ?_ ?_
      · replace h := hj_4
        rcases itesome h with ⟨hb_6_0, h⟩ | ⟨hb_6_0, h⟩
        · obtain ⟨e_6_5, hi_6_5, h⟩ := bsome h
          refine Wp.reg tiok mix hc (by kernel_rfl) (ah := none) (rs := [some (.no), some (.no), some (.no), some (.no), some (.no), some (.el (.agg [.int .i64 e_6_5.fOp, .int .i64 e_6_5.fN, .sl (List.map I e_6_5.fType), .sl (List.map GTerm_S e_6_5.fKids)])), some (.no), some (.no), some (.no), some (.cond true), some (.no)]) (kt := [2]) (ko := []) (T' := [(2, .bool (e_6_5.fOp == 1))]) (O' := []) (by kernel_rfl) (And.intro hb_6_0 (And.intro hb_6_0 (And.intro hb_6_0 (And.intro (idx_sl (enc := GTerm_S) (x := .agg [.int .i64 e_6_5.fOp, .int .i64 e_6_5.fN, .sl (List.map I e_6_5.fType), .sl (List.map GTerm_S e_6_5.fKids)]) hi_6_5 (eq_GTerm_S e_6_5)) (And.intro hb_6_0 (And.intro hb_6_0 (And.intro hb_6_0 (And.intro hb_6_0 trivial)))))))) (by kernel_rfl) (by kernel_rfl) ?_
          obtain rfl := Option.some.inj h
          exact Into.mk
        · refine Wp.reg tiok mix hc (by kernel_rfl) (ah := none) (rs := [some (.no), some (.no), some (.no), none, none, none, none, none, none, some (.cond false), some (.no)]) (kt := [2]) (ko := []) (T' := [(2, .bool false)]) (O' := []) (by kernel_rfl) (And.intro (neT hb_6_0 : (e_3_2.fOp == 1) ≠ true) (And.intro (neT hb_6_0 : (e_3_2.fOp == 1) ≠ true) (And.intro (neT hb_6_0 : (e_3_2.fOp == 1) ≠ true) (And.intro (neT hb_6_0 : (e_3_2.fOp == 1) ≠ true) (And.intro (neT hb_6_0 : (e_3_2.fOp == 1) ≠ true) (And.intro (neT hb_6_0 : (e_3_2.fOp == 1) ≠ true) (And.intro hb_6_0 trivial))))))) (by kernel_rfl) (by kernel_rfl) ?_
          obtain rfl := Option.some.inj h
          exact Into.mk
      · clear hj_4
        refine seqQ_norm ?_
        refine Wp.retN (by kernel_rfl) ?_
        refine blockQ_ret ?_
        refine seqQ_ret ?_
        obtain rfl := Option.some.inj h
        exact RetQ.ret (fl := [true]) (by kernel_rfl)
    · refine Wp.condF (b := (t0.fOp == 2)) (by kernel_rfl) (by kernel_rfl) hb_2 ?_
      refine Wp.seqN (by kernel_rfl) ?_
      refine Wp.reg tiok mix hc (by kernel_rfl) (ah := none) (rs := [some (.no), some (.no)]) (kt := [3, 14, 27]) (ko := []) (T' := [(3, .int .i64 e_3_2.fOp), (14, .int .i64 t0.fOp), (27, .bool (t0.fOp == 3))]) (O' := []) (by kernel_rfl) trivial (by kernel_rfl) (by kernel_rfl) ?_
      refine seqQ_norm ?_
      rcases itesome h with ⟨hb_5, h⟩ | ⟨hb_5, h⟩
      · refine Wp.condT (b := (t0.fOp == 3)) (by kernel_rfl) (by kernel_rfl) hb_5 ?_
        refine Wp.seqN (by kernel_rfl) ?_
        refine Wp.reg tiok mix hc (by kernel_rfl) (ah := none) (rs := [some (.no), some (.no), some (.no)]) (kt := [2]) (ko := []) (T' := [(2, .bool (e_3_2.fOp == 1))]) (O' := []) (by kernel_rfl) trivial (by kernel_rfl) (by kernel_rfl) ?_
        refine seqQ_norm ?_
        refine Wp.retN (by kernel_rfl) ?_
        refine blockQ_ret ?_
        refine seqQ_ret ?_
        obtain rfl := Option.some.inj h
        exact RetQ.ret (fl := [true]) (by kernel_rfl)
      · refine Wp.condF (b := (t0.fOp == 3)) (by kernel_rfl) (by kernel_rfl) hb_5 ?_
        refine Wp.seqN (by kernel_rfl) ?_
        refine Wp.reg tiok mix hc (by kernel_rfl) (ah := none) (rs := [some (.no), some (.no)]) (kt := [3, 14, 31]) (ko := []) (T' := [(3, .int .i64 e_3_2.fOp), (14, .int .i64 t0.fOp), (31, .bool (t0.fOp == 10))]) (O' := []) (by kernel_rfl) trivial (by kernel_rfl) (by kernel_rfl) ?_
        refine seqQ_norm ?_
        rcases itesome h with ⟨hb_6, h⟩ | ⟨hb_6, h⟩
        · refine Wp.condT (b := (t0.fOp == 10)) (by kernel_rfl) (by kernel_rfl) hb_6 ?_
          refine Wp.seqN (by kernel_rfl) ?_
          refine Wp.reg tiok mix hc (by kernel_rfl) (ah := none) (rs := [some (.no), some (.no), some (.no)]) (kt := [2]) (ko := []) (T' := [(2, .bool (e_3_2.fOp == 9))]) (O' := []) (by kernel_rfl) trivial (by kernel_rfl) (by kernel_rfl) ?_
          refine seqQ_norm ?_
          refine Wp.retN (by kernel_rfl) ?_
          refine blockQ_ret ?_
          refine seqQ_ret ?_
          obtain rfl := Option.some.inj h
          exact RetQ.ret (fl := [true]) (by kernel_rfl)
        · refine Wp.condF (b := (t0.fOp == 10)) (by kernel_rfl) (by kernel_rfl) hb_6 ?_
          refine Wp.seqN (by kernel_rfl) ?_
          refine Wp.reg tiok mix hc (by kernel_rfl) (ah := none) (rs := [some (.no), some (.no)]) (kt := [3, 14, 35]) (ko := []) (T' := [(3, .int .i64 e_3_2.fOp), (14, .int .i64 t0.fOp), (35, .bool (t0.fOp == 5))]) (O' := []) (by kernel_rfl) trivial (by kernel_rfl) (by kernel_rfl) ?_
          refine seqQ_norm ?_
          rcases itesome h with ⟨hb_7, h⟩ | ⟨hb_7, h⟩
          · refine Wp.condT (b := (t0.fOp == 5)) (by kernel_rfl) (by kernel_rfl) hb_7 ?_
            refine Wp.seqN (by kernel_rfl) ?_
            refine Wp.reg tiok mix hc (by kernel_rfl) (ah := none) (rs := [some (.no), some (.no), some (.no)]) (kt := [2]) (ko := []) (T' := [(2, .bool (e_3_2.fOp == 4))]) (O' := []) (by kernel_rfl) trivial (by kernel_rfl) (by kernel_rfl) ?_
            refine seqQ_norm ?_
            refine Wp.retN (by kernel_rfl) ?_
            refine blockQ_ret ?_
            refine seqQ_ret ?_
            obtain rfl := Option.some.inj h
            exact RetQ.ret (fl := [true]) (by kernel_rfl)
          · refine Wp.condF (b := (t0.fOp == 5)) (by kernel_rfl) (by kernel_rfl) hb_7 ?_
            refine Wp.seqN (by kernel_rfl) ?_
            refine Wp.reg tiok mix hc (by kernel_rfl) (ah := none) (rs := [some (.no), some (.no)]) (kt := [3, 14, 39]) (ko := []) (T' := [(3, .int .i64 e_3_2.fOp), (14, .int .i64 t0.fOp), (39, .bool (t0.fOp == 8))]) (O' := []) (by kernel_rfl) trivial (by kernel_rfl) (by kernel_rfl) ?_
            refine seqQ_norm ?_
            rcases itesome h with ⟨hb_8, h⟩ | ⟨hb_8, h⟩
            · refine Wp.condT (b := (t0.fOp == 8)) (by kernel_rfl) (by kernel_rfl) hb_8 ?_
              refine Wp.seqN (by kernel_rfl) ?_
              obtain ⟨v_9, hj_10, h⟩ := bsome h
              refine Wp.into (x := .normal) (mkS [(2, .bool v_9)] []) ?_ ?_
              · replace h := hj_10
                rcases itesome h with ⟨hb_14_0, h⟩ | ⟨hb_14_0, h⟩
                · refine Wp.reg tiok mix hc (by kernel_rfl) (ah := none) (rs := [some (.no), some (.no), some (.no), none, none, some (.cond true), some (.no)]) (kt := [2]) (ko := []) (T' := [(2, .bool true)]) (O' := []) (by kernel_rfl) (And.intro (neF hb_14_0 : (e_3_2.fOp == 6) ≠ false) (And.intro (neF hb_14_0 : (e_3_2.fOp == 6) ≠ false) (And.intro hb_14_0 trivial))) (by kernel_rfl) (by kernel_rfl) ?_
                  obtain rfl := Option.some.inj h
                  exact Into.mk
                · refine Wp.reg tiok mix hc (by kernel_rfl) (ah := none) (rs := [some (.no), some (.no), some (.no), some (.no), some (.no), some (.cond false), some (.no)]) (kt := [2]) (ko := []) (T' := [(2, .bool (e_3_2.fOp == 7))]) (O' := []) (by kernel_rfl) (And.intro hb_14_0 (And.intro hb_14_0 (And.intro hb_14_0 trivial))) (by kernel_rfl) (by kernel_rfl) ?_
                  obtain rfl := Option.some.inj h
                  exact Into.mk
              · clear hj_10
                refine seqQ_norm ?_
                refine Wp.retN (by kernel_rfl) ?_
                refine blockQ_ret ?_
                refine seqQ_ret ?_
                obtain rfl := Option.some.inj h
                exact RetQ.ret (fl := [true]) (by kernel_rfl)
            · refine Wp.condF (b := (t0.fOp == 8)) (by kernel_rfl) (by kernel_rfl) hb_8 ?_
              refine Wp.seqN (by kernel_rfl) ?_
              refine Wp.reg tiok mix hc (by kernel_rfl) (ah := none) (rs := [some (.no), some (.no)]) (kt := [3, 47]) (ko := []) (T' := [(3, .int .i64 e_3_2.fOp), (47, .bool (t0.fOp == 12))]) (O' := []) (by kernel_rfl) trivial (by kernel_rfl) (by kernel_rfl) ?_
              refine seqQ_norm ?_
              rcases itesome h with ⟨hb_11, h⟩ | ⟨hb_11, h⟩
              · refine Wp.condT (b := (t0.fOp == 12)) (by kernel_rfl) (by kernel_rfl) hb_11 ?_
                refine Wp.seqN (by kernel_rfl) ?_
                refine Wp.reg tiok mix hc (by kernel_rfl) (ah := none) (rs := [some (.no), some (.no), some (.no)]) (kt := [2]) (ko := []) (T' := [(2, .bool (e_3_2.fOp == 11))]) (O' := []) (by kernel_rfl) trivial (by kernel_rfl) (by kernel_rfl) ?_
                refine seqQ_norm ?_
                refine Wp.retN (by kernel_rfl) ?_
                refine blockQ_ret ?_
                refine seqQ_ret ?_
                obtain rfl := Option.some.inj h
                exact RetQ.ret (fl := [true]) (by kernel_rfl)
              · refine Wp.condF (b := (t0.fOp == 12)) (by kernel_rfl) (by kernel_rfl) hb_11 ?_
                refine Wp.skipN (by kernel_rfl) ?_
                refine blockQ_norm ?_
                refine seqQ_norm ?_
                refine Wp.seqN (by kernel_rfl) ?_
                refine Wp.reg tiok mix hc (by kernel_rfl) (ah := none) (rs := [some (.no)]) (kt := [2]) (ko := []) (T' := [(2, .bool false)]) (O' := []) (by kernel_rfl) trivial (by kernel_rfl) (by kernel_rfl) ?_
                refine seqQ_norm ?_
                refine Wp.retN (by kernel_rfl) ?_
                obtain rfl := Option.some.inj h
                exact RetQ.ret (fl := [true]) (by kernel_rfl)
def slices_Clone_int (s0 : (List Int)) : Option ((List Int)) :=
    (fits (([] : List Int).length + s0.length) 8) >>= fun _ =>
    some s0
def M_slices_Clone_int (s0 : (List Int)) (r : (List Int)) : Prop :=
  FnSound Try.prog 105 [.sl (List.map I s0)] (.osl (List.map I r)) []
theorem slices_Clone_int_s : ∀ p r, slices_Clone_int p = some r → M_slices_Clone_int p r := by
  rintro s0 r h
  unfold slices_Clone_int at h
  show FnSound Try.prog 105 [.sl (List.map I s0)] (.osl (List.map I r)) []
  refine FnSound.body0 tiok (fn := Try.f105) (code := B105) (by kernel_rfl) (by kernel_rfl) (by kernel_rfl) (by kernel_rfl) (nt := 8) (by kernel_rfl) (by kernel_rfl) (T := [(0, .sl (List.map I s0))]) (O := []) (by kernel_rfl) (by kernel_rfl) (fun c hc => ?_)
  refine Wp.seqN (by kernel_rfl) ?_
  refine Wp.reg tiok mix hc (by kernel_rfl) (ah := none) (rs := [some (.no)]) (kt := [0]) (ko := []) (T' := [(0, .sl (List.map I s0))]) (O' := []) (by kernel_rfl) trivial (by kernel_rfl) (by kernel_rfl) ?_
  refine seqQ_norm ?_
  refine Wp.seqN (by kernel_rfl) ?_
  refine Wp.seqN (by kernel_rfl) ?_
  refine Wp.reg tiok mix hc (by kernel_rfl) (ah := none) (rs := [some (.no), some (.no)]) (kt := [0, 4]) (ko := []) (T' := [(0, .sl (List.map I s0)), (4, .nilq (List.map I s0))]) (O' := []) (by kernel_rfl) trivial (by kernel_rfl) (by kernel_rfl) ?_
  refine seqQ_norm ?_
  refine Wp.condNil (xs := List.map I s0) (by kernel_rfl) (by kernel_rfl) (fun hn => ?_) ?_
  · replace hn := List.map_eq_nil_iff.1 hn
    replace h : (some []) = some r := by rw [hn] at h; simpa [fits, chk] using h
    refine Wp.seqN (by kernel_rfl) ?_
    refine Wp.reg tiok mix hc (by kernel_rfl) (ah := none) (rs := [some (.no)]) (kt := [2]) (ko := []) (T' := [(2, .nils)]) (O' := []) (by kernel_rfl) trivial (by kernel_rfl) (by kernel_rfl) ?_
    refine seqQ_norm ?_
    refine Wp.retN (by kernel_rfl) ?_
    refine seqQ_ret ?_
    obtain rfl := Option.some.inj h
    exact RetQ.ret (fl := [true]) (by kernel_rfl)
  · refine Wp.skipN (by kernel_rfl) ?_
    refine seqQ_norm ?_
    refine Wp.seqN (by kernel_rfl) ?_
    obtain ⟨_, hk_3_2, h⟩ := bsome h
    refine Wp.reg tiok mix hc (by kernel_rfl) (ah := none) (rs := [some (.mk 1 true), some (.no), some (.eqv (.mk 2 true) ⟨[(7, .rs 2)], [(2, some (.arr (List.map I s0))), (1, none)], [2]⟩), some (.no)]) (kt := [2]) (ko := [2]) (T' := [(2, .rs 2)]) (O' := [(2, .arr (List.map I s0))]) (by kernel_rfl) (And.intro (congrArg (fun z => (⟨[(7, .rs 2)], [(2, some (.arr z)), (1, none)], [2]⟩ : Wr)) (List.nil_append _ : [] ++ (List.map I s0) = List.map I s0)) (And.intro (app_ob (enc1 := I) (enc2 := I) (e1 := []) (e2 := s0) (sz := 1) ek_I ek_I hk_3_2) trivial)) (by kernel_rfl) (by kernel_rfl) ?_
    refine seqQ_norm ?_
    refine Wp.retN (by kernel_rfl) ?_
    obtain rfl := Option.some.inj h
    exact RetQ.ret (fl := [true]) (by kernel_rfl)
def impl_redexes_F1 (c : Ctx) : (List (List Int)) → Exit → AState → Prop
  | out_8 => Into c (.exit 0) (mkS [(5, .rs 4)] [(4, .arr (List.map LI_o out_8))])
mutual
def impl_redexes (p : GTerm × (List Int)) : Option ((List (List Int))) :=
  match p with
  | (t0, path1) =>
    (impl_isRedex t0) >>= fun r_2_1 =>
    (
      if r_2_1 = true then
        (slices_Clone_int path1) >>= fun r_3_2 =>
        (fits (([] : List (List Int)).length + [r_3_2].length) 24) >>= fun _ =>
        some ([r_3_2])
      else
        some ([])
    ) >>= fun out_2 =>
    (impl_redexes_l0 (t0, path1, out_2, 0)) >>= fun out_8 =>
    some out_8
  partial_fixpoint
def impl_redexes_l0 (p : GTerm × (List Int) × (List (List Int)) × Int) : Option ((List (List Int))) :=
  match p with
  | (t0, path1, out_5, w_6) =>
    if (decide (w_6 < (t0.fKids.length : Int))) = true then
      (idx t0.fKids w_6) >>= fun e_6_1 =>
      (slices_Clone_int path1) >>= fun r_7_3 =>
      (fits (r_7_3.length + [w_6].length) 8) >>= fun _ =>
      (impl_redexes (e_6_1, (r_7_3 ++ [w_6]))) >>= fun r_7_7 =>
      (fits (out_5.length + r_7_7.length) 24) >>= fun _ =>
      impl_redexes_l0 (t0, path1, (out_5 ++ r_7_7), (wr (w_6 + 1)))
    else
      some (out_5)
  partial_fixpoint
end
def M_impl_redexes (p : GTerm × (List Int)) (r : (List (List Int))) : Prop :=
  match p with
  | (t0, path1) => FnSound Try.prog 65 [.agg [.int .i64 t0.fOp, .int .i64 t0.fN, .sl (List.map I t0.fType), .sl (List.map GTerm_S t0.fKids)], .sl (List.map I path1)] (.osl (List.map LI_o r)) []
def M_impl_redexes_l0 (p : GTerm × (List Int) × (List (List Int)) × Int) (fl : (List (List Int))) : Prop :=
  match p with
  | (t0, path1, out_5, w_6) => ∀ c : Ctx, c.nt = 34 → WpL Try.prog c (cl (cl (cr (cl (cr (cr (cr B65))))))) (impl_redexes_F1 c fl) (mkS [(1, .sl (List.map I path1)), (5, .rs 4), (16, .sl (List.map GTerm_S t0.fKids)), (17, .int .i64 (t0.fKids.length : Int)), (18, .int .i64 w_6)] [(4, .arr (List.map LI_o out_5))])
theorem impl_redexes_all : (∀ p r, impl_redexes p = some r → M_impl_redexes p r) ∧ (∀ p r, impl_redexes_l0 p = some r → M_impl_redexes_l0 p r) := by
  refine impl_redexes.mutual_partial_correctness M_impl_redexes M_impl_redexes_l0 ?_ ?_
  · rintro impl_redexes_l0_f impl_redexes_l0_ih ⟨t0, path1⟩ r h
    show FnSound Try.prog 65 [.agg [.int .i64 t0.fOp, .int .i64 t0.fN, .sl (List.map I t0.fType), .sl (List.map GTerm_S t0.fKids)], .sl (List.map I path1)] (.osl (List.map LI_o r)) []
    refine FnSound.body0 tiok (fn := Try.f65) (code := B65) (by kernel_rfl) (by kernel_rfl) (by kernel_rfl) (by kernel_rfl) (nt := 34) (by kernel_rfl) (by kernel_rfl) (T := [(0, .agg [.int .i64 t0.fOp, .int .i64 t0.fN, .sl (List.map I t0.fType), .sl (List.map GTerm_S t0.fKids)]), (1, .sl (List.map I path1))]) (O := []) (by kernel_rfl) (by kernel_rfl) (fun c hc => ?_)
    refine Wp.seqN (by kernel_rfl) ?_
    refine Wp.reg tiok mix hc (by kernel_rfl) (ah := none) (rs := [some (.new 1), some (.no)]) (kt := [1, 2]) (ko := [1]) (T' := [(1, .sl (List.map I path1)), (2, .ra 1 0)]) (O' := [(1, .box [.int .i64 t0.fOp, .int .i64 t0.fN, .sl (List.map I t0.fType), .sl (List.map GTerm_S t0.fKids)])]) (by kernel_rfl) trivial (by kernel_rfl) (by kernel_rfl) ?_
    refine seqQ_norm ?_
    refine Wp.seqN (by kernel_rfl) ?_
    refine Wp.reg tiok mix hc (by kernel_rfl) (ah := none) (rs := [some (.no)]) (kt := [1, 2, 5]) (ko := [1]) (T' := [(1, .sl (List.map I path1)), (2, .ra 1 0), (5, .nils)]) (O' := [(1, .box [.int .i64 t0.fOp, .int .i64 t0.fN, .sl (List.map I t0.fType), .sl (List.map GTerm_S t0.fKids)])]) (by kernel_rfl) trivial (by kernel_rfl) (by kernel_rfl) ?_
    refine seqQ_norm ?_
    refine Wp.seqN (by kernel_rfl) ?_
    refine Wp.seqN (by kernel_rfl) ?_
    obtain ⟨r_2_1, hr_2_1, h⟩ := bsome h
    refine Wp.reg tiok mix hc (by kernel_rfl) (ah := none) (rs := [some (.no), some (.call (.bool r_2_1) [] 1)]) (kt := [1, 2, 5, 9]) (ko := [1]) (T' := [(1, .sl (List.map I path1)), (2, .ra 1 0), (5, .nils), (9, .bool r_2_1)]) (O' := [(1, .box [.int .i64 t0.fOp, .int .i64 t0.fN, .sl (List.map I t0.fType), .sl (List.map GTerm_S t0.fKids)])]) (by kernel_rfl) (And.intro (impl_isRedex_s _ _ hr_2_1) (And.intro bod_104 (And.intro (Or.inl rfl : ([] : List Nat) = [] ∨ noSh (.bool r_2_1) = true) trivial))) (by kernel_rfl) (by kernel_rfl) ?_
    refine seqQ_norm ?_
    obtain ⟨out_2, hj_3, h⟩ := bsome h
    refine Wp.into (x := .normal) (mkS [(1, .sl (List.map I path1)), (2, .ra 1 0), (5, .rs 4)] [(1, .box [.int .i64 t0.fOp, .int .i64 t0.fN, .sl (List.map I t0.fType), .sl (List.map GTerm_S t0.fKids)]), (4, .arr (List.map LI_o out_2))]) ?_ ?_
    · replace h := hj_3
      rcases itesome h with ⟨hb_1, h⟩ | ⟨hb_1, h⟩
      · refine Wp.condT (b := r_2_1) (by kernel_rfl) (by kernel_rfl) hb_1 ?_
        obtain ⟨r_3_2, hr_3_2, h⟩ := bsome h
        obtain ⟨_, hk_3_4, h⟩ := bsome h
        refine Wp.reg tiok mix hc (by kernel_rfl) (ah := none) (rs := [some (.no), some (.no), some (.call (.osl (List.map I r_3_2)) [] 2), some (.mk 3 true), some (.eqv (.mk 4 true) ⟨[(14, .rs 4)], [(4, some (.arr (List.map LI_o [r_3_2]))), (3, none)], [4]⟩), some (.no)]) (kt := [1, 2, 5]) (ko := [1, 4]) (T' := [(1, .sl (List.map I path1)), (2, .ra 1 0), (5, .rs 4)]) (O' := [(1, .box [.int .i64 t0.fOp, .int .i64 t0.fN, .sl (List.map I t0.fType), .sl (List.map GTerm_S t0.fKids)]), (4, .arr (List.map LI_o [r_3_2]))]) (by kernel_rfl) (And.intro (slices_Clone_int_s _ _ hr_3_2) (And.intro bod_105 (And.intro (Or.inl rfl : ([] : List Nat) = [] ∨ noSh (.osl (List.map I r_3_2)) = true) (And.intro (congrArg (fun z => (⟨[(14, .rs 4)], [(4, some (.arr z)), (3, none)], [4]⟩ : Wr)) (List.nil_append _ : [] ++ (List.map LI_o [r_3_2]) = List.map LI_o [r_3_2])) (And.intro (app_ob (enc1 := LI_o) (enc2 := LI_o) (e1 := []) (e2 := [r_3_2]) (sz := 1) ek_LI_o ek_LI_o hk_3_4) trivial))))) (by kernel_rfl) (by kernel_rfl) ?_
        obtain rfl := Option.some.inj h
        exact Into.mk
      · refine Wp.condF (b := r_2_1) (by kernel_rfl) (by kernel_rfl) hb_1 ?_
        refine Wp.skipN (by kernel_rfl) ?_
        obtain rfl := Option.some.inj h
        exact Into.view (fun a w hv => SRx.renL [(4, 5)] (SRx.nilTL 5 5 hv (by kernel_rfl) (by kernel_rfl)) (by kernel_rfl) (by kernel_rfl) (by kernel_rfl))
    · clear hj_3
      refine seqQ_norm ?_
      refine Wp.seqN (by kernel_rfl) ?_
      refine Wp.seqN (by kernel_rfl) ?_
      refine Wp.reg tiok mix hc (by kernel_rfl) (ah := none) (rs := [some (.no), some (.no), some (.eqv (.no) ⟨[(17, .int .i64 (t0.fKids.length : Int))], [], []⟩), some (.no)]) (kt := [1, 5, 16, 17, 18]) (ko := [4]) (T' := [(1, .sl (List.map I path1)), (5, .rs 4), (16, .sl (List.map GTerm_S t0.fKids)), (17, .int .i64 (t0.fKids.length : Int)), (18, .int .i64 0)]) (O' := [(4, .arr (List.map LI_o out_2))]) (by kernel_rfl) (And.intro (lenT (d := 17) GTerm_S t0.fKids) trivial) (by kernel_rfl) (by kernel_rfl) ?_
      refine seqQ_norm ?_
      refine Wp.blockN (i := 0) (by kernel_rfl) ?_
      obtain ⟨out_8, hl_9, h⟩ := bsome h
      have hL := impl_redexes_l0_ih _ _ hl_9 c hc
      refine Wp.loopN (by kernel_rfl) ?_
      · refine WpL.into (e := (.exit 0)) (mkS [(5, .rs 4)] [(4, .arr (List.map LI_o out_8))]) hL ?_
        refine blockQ_hit ?_
        refine seqQ_norm ?_
        refine Wp.seqN (by kernel_rfl) ?_
        refine Wp.reg tiok mix hc (by kernel_rfl) (ah := none) (rs := [some (.no), some (.no)]) (kt := [4]) (ko := [4]) (T' := [(4, .rs 4)]) (O' := [(4, .arr (List.map LI_o out_8))]) (by kernel_rfl) trivial (by kernel_rfl) (by kernel_rfl) ?_
        refine seqQ_norm ?_
        refine Wp.retN (by kernel_rfl) ?_
        obtain rfl := Option.some.inj h
        exact RetQ.ret (fl := [true]) (by kernel_rfl)
  · rintro impl_redexes_f impl_redexes_l0_f impl_redexes_ih impl_redexes_l0_ih ⟨t0, path1, out_5, w_6⟩ r h
    intro c hc
    show WpL Try.prog c (cl (cl (cr (cl (cr (cr (cr B65))))))) (impl_redexes_F1 c r) (mkS [(1, .sl (List.map I path1)), (5, .rs 4), (16, .sl (List.map GTerm_S t0.fKids)), (17, .int .i64 (t0.fKids.length : Int)), (18, .int .i64 w_6)] [(4, .arr (List.map LI_o out_5))])
    refine WpL.step ?_
    refine Wp.seqN (by kernel_rfl) ?_
    refine Wp.reg tiok mix hc (by kernel_rfl) (ah := none) (rs := [some (.no)]) (kt := [1, 5, 16, 17, 18, 19]) (ko := [4]) (T' := [(1, .sl (List.map I path1)), (5, .rs 4), (16, .sl (List.map GTerm_S t0.fKids)), (17, .int .i64 (t0.fKids.length : Int)), (18, .int .i64 w_6), (19, .bool (decide (w_6 < (t0.fKids.length : Int))))]) (O' := [(4, .arr (List.map LI_o out_5))]) (by kernel_rfl) trivial (by kernel_rfl) (by kernel_rfl) ?_
    refine seqQ_norm ?_
    refine Wp.seqN (by kernel_rfl) ?_
    rcases itesome h with ⟨hb_7, h⟩ | ⟨hb_7, h⟩
    · refine Wp.condT (b := (decide (w_6 < (t0.fKids.length : Int)))) (by kernel_rfl) (by kernel_rfl) hb_7 ?_
      refine Wp.skipN (by kernel_rfl) ?_
      refine seqQ_norm ?_
      refine Wp.seqN (by kernel_rfl) ?_
      refine Wp.blockN (i := 1) (by kernel_rfl) ?_
      refine Wp.seqN (by kernel_rfl) ?_
      obtain ⟨e_6_1, hi_6_1, h⟩ := bsome h
      refine Wp.reg tiok mix hc (by kernel_rfl) (ah := none) (rs := [some (.no), some (.el (.agg [.int .i64 e_6_1.fOp, .int .i64 e_6_1.fN, .sl (List.map I e_6_1.fType), .sl (List.map GTerm_S e_6_1.fKids)])), some (.no), some (.new 12), some (.no), some (.no)]) (kt := [1, 5, 6, 7, 16, 17, 18]) (ko := [4, 12]) (T' := [(1, .sl (List.map I path1)), (5, .rs 4), (6, .int .i64 w_6), (7, .ra 12 0), (16, .sl (List.map GTerm_S t0.fKids)), (17, .int .i64 (t0.fKids.length : Int)), (18, .int .i64 w_6)]) (O' := [(4, .arr (List.map LI_o out_5)), (12, .box [.int .i64 e_6_1.fOp, .int .i64 e_6_1.fN, .sl (List.map I e_6_1.fType), .sl (List.map GTerm_S e_6_1.fKids)])]) (by kernel_rfl) (And.intro (idx_sl (enc := GTerm_S) (x := .agg [.int .i64 e_6_1.fOp, .int .i64 e_6_1.fN, .sl (List.map I e_6_1.fType), .sl (List.map GTerm_S e_6_1.fKids)]) hi_6_1 (eq_GTerm_S e_6_1)) trivial) (by kernel_rfl) (by kernel_rfl) ?_
      refine seqQ_norm ?_
      obtain ⟨r_7_3, hr_7_3, h⟩ := bsome h
      obtain ⟨_, hk_7_6, h⟩ := bsome h
      obtain ⟨r_7_7, hr_7_7, h⟩ := bsome h
      obtain ⟨_, hk_7_8, h⟩ := bsome h
      refine Wp.reg tiok mix hc (by kernel_rfl) (ah := (some [[], [], [], [2], [], [4], [2, 3, 4, 5], [1, 2, 3, 4, 5, 6], [0, 1, 2, 3, 4, 5, 6, 7], [0, 1, 2, 3, 4, 5, 6, 7, 8]])) (rs := [some (.no), some (.no), some (.no), some (.call (.osl (List.map I r_7_3)) [] 13), some (.no), some (.mk 14 true), some (.eqv (.mk 15 true) ⟨[(29, .rs 15)], [(15, some (.arr (List.map I (r_7_3 ++ [w_6])))), (13, none), (14, none)], [15]⟩), some (.call (.osl (List.map LI_o r_7_7)) [] 16), some (.eqv (.mk 17 true) ⟨[(31, .rs 17)], [(17, some (.arr (List.map LI_o (out_5 ++ r_7_7)))), (4, none), (16, none)], [17]⟩), some (.no)]) (kt := [1, 5, 16, 17, 18]) (ko := [17]) (T' := [(1, .sl (List.map I path1)), (5, .rs 17), (16, .sl (List.map GTerm_S t0.fKids)), (17, .int .i64 (t0.fKids.length : Int)), (18, .int .i64 w_6)]) (O' := [(17, .arr (List.map LI_o (out_5 ++ r_7_7)))]) (by kernel_rfl) (And.intro (slices_Clone_int_s _ _ hr_7_3) (And.intro bod_105 (And.intro (Or.inl rfl : ([] : List Nat) = [] ∨ noSh (.osl (List.map I r_7_3)) = true) (And.intro (congrArg (fun z => (⟨[(29, .rs 15)], [(15, some (.arr z)), (13, none), (14, none)], [15]⟩ : Wr)) ((List.map_append).symm : (List.map I r_7_3) ++ (List.map I [w_6]) = List.map I (r_7_3 ++ [w_6]))) (And.intro (app_ob (enc1 := I) (enc2 := I) (e1 := r_7_3) (e2 := [w_6]) (sz := 1) ek_I ek_I hk_7_6) (And.intro (FnSound.args (A1 := [.agg [.int .i64 e_6_1.fOp, .int .i64 e_6_1.fN, .sl (List.map I e_6_1.fType), .sl (List.map GTerm_S e_6_1.fKids)], .sl (shares (List.map I (r_7_3 ++ [w_6])))]) (A2 := [.agg [.int .i64 e_6_1.fOp, .int .i64 e_6_1.fN, .sl (List.map I e_6_1.fType), .sl (List.map GTerm_S e_6_1.fKids)], .sl (List.map I (r_7_3 ++ [w_6]))]) (by simp only [List.map_nil, sh_I]) (impl_redexes_ih _ _ hr_7_7)) (And.intro bod_65 (And.intro (Or.inr (nsh_row nsh_LI_o r_7_7) : ([15] : List Nat) = [] ∨ noSh (.osl (List.map LI_o r_7_7)) = true) (And.intro (congrArg (fun z => (⟨[(31, .rs 17)], [(17, some (.arr z)), (4, none), (16, none)], [17]⟩ : Wr)) ((List.map_append).symm : (List.map LI_o out_5) ++ (List.map LI_o r_7_7) = List.map LI_o (out_5 ++ r_7_7))) (And.intro (app_ob (enc1 := LI_o) (enc2 := LI_o) (e1 := out_5) (e2 := r_7_7) (sz := 1) ek_LI_o ek_LI_o hk_7_8) trivial)))))))))) (by kernel_rfl) (by kernel_rfl) ?_
      refine blockQ_norm ?_
      refine seqQ_norm ?_
      refine Wp.reg tiok mix hc (by kernel_rfl) (ah := none) (rs := [some (.no), some (.no)]) (kt := [1, 5, 16, 17, 18]) (ko := [17]) (T' := [(1, .sl (List.map I path1)), (5, .rs 17), (16, .sl (List.map GTerm_S t0.fKids)), (17, .int .i64 (t0.fKids.length : Int)), (18, .int .i64 (wr (w_6 + 1)))]) (O' := [(17, .arr (List.map LI_o (out_5 ++ r_7_7)))]) (by kernel_rfl) trivial (by kernel_rfl) (by kernel_rfl) ?_
      refine loopQ_norm ?_
      exact WpL.view (fun a w hv => SRx.renL [(4, 17)] hv (by kernel_rfl) (by kernel_rfl) (by kernel_rfl)) (impl_redexes_l0_ih _ _ h c hc)
    · refine Wp.condF (b := (decide (w_6 < (t0.fKids.length : Int)))) (by kernel_rfl) (by kernel_rfl) hb_7 ?_
      refine Wp.exitN (i := 0) (by kernel_rfl) ?_
      refine seqQ_exit ?_
      refine loopQ_exit ?_
      obtain rfl := Option.some.inj h
      exact Into.view (fun a w hv => SRx.renL [] hv (by kernel_rfl) (by kernel_rfl) (by kernel_rfl))
theorem impl_redexes_s : ∀ p r, impl_redexes p = some r → M_impl_redexes p r := impl_redexes_all.1
theorem impl_redexes_l0_s : ∀ p r, impl_redexes_l0 p = some r → M_impl_redexes_l0 p r := impl_redexes_all.2
def impl_RedexesOf (t0 : GTerm) : Option ((List (List Int))) :=
    (impl_IsWritten t0) >>= fun r_1_1 =>
    if r_1_1 = true then
      (impl_redexes (t0, [])) >>= fun r_3_1 =>
      some r_3_1
    else
      some []
def M_impl_RedexesOf (t0 : GTerm) (r : (List (List Int))) : Prop :=
  FnSound Try.prog 38 [.agg [.int .i64 t0.fOp, .int .i64 t0.fN, .sl (List.map I t0.fType), .sl (List.map GTerm_S t0.fKids)]] (.osl (List.map LI_o r)) []
theorem impl_RedexesOf_s : ∀ p r, impl_RedexesOf p = some r → M_impl_RedexesOf p r := by
  rintro t0 r h
  unfold impl_RedexesOf at h
  show FnSound Try.prog 38 [.agg [.int .i64 t0.fOp, .int .i64 t0.fN, .sl (List.map I t0.fType), .sl (List.map GTerm_S t0.fKids)]] (.osl (List.map LI_o r)) []
  refine FnSound.body0 tiok (fn := Try.f38) (code := B38) (by kernel_rfl) (by kernel_rfl) (by kernel_rfl) (by kernel_rfl) (nt := 8) (by kernel_rfl) (by kernel_rfl) (T := [(0, .agg [.int .i64 t0.fOp, .int .i64 t0.fN, .sl (List.map I t0.fType), .sl (List.map GTerm_S t0.fKids)])]) (O := []) (by kernel_rfl) (by kernel_rfl) (fun c hc => ?_)
  refine Wp.seqN (by kernel_rfl) ?_
  refine Wp.reg tiok mix hc (by kernel_rfl) (ah := none) (rs := [some (.new 1), some (.no)]) (kt := [1]) (ko := [1]) (T' := [(1, .ra 1 0)]) (O' := [(1, .box [.int .i64 t0.fOp, .int .i64 t0.fN, .sl (List.map I t0.fType), .sl (List.map GTerm_S t0.fKids)])]) (by kernel_rfl) trivial (by kernel_rfl) (by kernel_rfl) ?_
  refine seqQ_norm ?_
  refine Wp.seqN (by kernel_rfl) ?_
  refine Wp.seqN (by kernel_rfl) ?_
  obtain ⟨r_1_1, hr_1_1, h⟩ := bsome h
  refine Wp.reg tiok mix hc (by kernel_rfl) (ah := none) (rs := [some (.no), some (.call (.bool r_1_1) [] 1), some (.no)]) (kt := [1, 5]) (ko := [1]) (T' := [(1, .ra 1 0), (5, .bool (!r_1_1))]) (O' := [(1, .box [.int .i64 t0.fOp, .int .i64 t0.fN, .sl (List.map I t0.fType), .sl (List.map GTerm_S t0.fKids)])]) (by kernel_rfl) (And.intro (impl_IsWritten_s _ _ hr_1_1) (And.intro bod_61 (And.intro (Or.inl rfl : ([] : List Nat) = [] ∨ noSh (.bool r_1_1) = true) trivial))) (by kernel_rfl) (by kernel_rfl) ?_
  refine seqQ_norm ?_
  rcases itesome h with ⟨hb_1, h⟩ | ⟨hb_1, h⟩
  · refine Wp.condF (b := (!r_1_1)) (by kernel_rfl) (by kernel_rfl) (nF hb_1) ?_
    refine Wp.skipN (by kernel_rfl) ?_
    refine seqQ_norm ?_
    refine Wp.seqN (by kernel_rfl) ?_
    obtain ⟨r_3_1, hr_3_1, h⟩ := bsome h
    refine Wp.reg tiok mix hc (by kernel_rfl) (ah := none) (rs := [some (.no), some (.call (.osl (List.map LI_o r_3_1)) [] 2), some (.no)]) (kt := [2]) (ko := [2]) (T' := [(2, .rs 2)]) (O' := [(2, .arr (List.map LI_o r_3_1))]) (by kernel_rfl) (And.intro (FnSound.args (A1 := [.agg [.int .i64 t0.fOp, .int .i64 t0.fN, .sl (List.map I t0.fType), .sl (List.map GTerm_S t0.fKids)], .sl []]) (A2 := [.agg [.int .i64 t0.fOp, .int .i64 t0.fN, .sl (List.map I t0.fType), .sl (List.map GTerm_S t0.fKids)], .sl (List.map I [])]) (by simp only [List.map_nil]) (impl_redexes_s _ _ hr_3_1)) (And.intro bod_65 (And.intro (Or.inl rfl : ([] : List Nat) = [] ∨ noSh (.osl (List.map LI_o r_3_1)) = true) trivial))) (by kernel_rfl) (by kernel_rfl) ?_
    refine seqQ_norm ?_
    refine Wp.retN (by kernel_rfl) ?_
    obtain rfl := Option.some.inj h
    exact RetQ.ret (fl := [true]) (by kernel_rfl)
  · refine Wp.condT (b := (!r_1_1)) (by kernel_rfl) (by kernel_rfl) (nT hb_1) ?_
    refine Wp.seqN (by kernel_rfl) ?_
    refine Wp.reg tiok mix hc (by kernel_rfl) (ah := none) (rs := [some (.no)]) (kt := [2]) (ko := []) (T' := [(2, .nils)]) (O' := []) (by kernel_rfl) trivial (by kernel_rfl) (by kernel_rfl) ?_
    refine seqQ_norm ?_
    refine Wp.retN (by kernel_rfl) ?_
    refine seqQ_ret ?_
    obtain rfl := Option.some.inj h
    exact RetQ.ret (fl := [true]) (by kernel_rfl)
def laws_eqIntS_F1 (c : Ctx) : (Unit) ⊕ (Bool) → Exit → AState → Prop
  | .inl _ => Into c (.exit 0) (mkS [] [])
  | .inr r => RetE TIx Try.f29 [] (.bool r)
def laws_eqIntS_l0 (p : (List Int) × (List Int) × Int) : Option ((Unit) ⊕ (Bool)) :=
  match p with
  | (a0, b1, i_4) =>
    if (decide (i_4 < (a0.length : Int))) = true then
      (idx a0 i_4) >>= fun e_6_2 =>
      (idx b1 i_4) >>= fun e_6_6 =>
      if (e_6_2 != e_6_6) = true then
        some (.inr false)
      else
        laws_eqIntS_l0 (a0, b1, (wr (i_4 + 1)))
    else
      some (.inl ())
  partial_fixpoint
def M_laws_eqIntS_l0 (p : (List Int) × (List Int) × Int) (fl : (Unit) ⊕ (Bool)) : Prop :=
  match p with
  | (a0, b1, i_4) => ∀ c : Ctx, c.nt = 26 → WpL Try.prog c (cl (cl (cr (cl (cr (cr B29)))))) (laws_eqIntS_F1 c fl) (mkS [(0, .sl (List.map I a0)), (1, .sl (List.map I b1)), (5, .int .i64 i_4)] [])
theorem laws_eqIntS_l0_s : ∀ p r, laws_eqIntS_l0 p = some r → M_laws_eqIntS_l0 p r := by
  refine laws_eqIntS_l0.partial_correctness M_laws_eqIntS_l0 ?_
  rintro laws_eqIntS_l0_f laws_eqIntS_l0_ih ⟨a0, b1, i_4⟩ r h
  intro c hc
  show WpL Try.prog c (cl (cl (cr (cl (cr (cr B29)))))) (laws_eqIntS_F1 c r) (mkS [(0, .sl (List.map I a0)), (1, .sl (List.map I b1)), (5, .int .i64 i_4)] [])
  refine WpL.step ?_
  refine Wp.seqN (by kernel_rfl) ?_
  refine Wp.seqN (by kernel_rfl) ?_
  refine Wp.reg tiok mix hc (by kernel_rfl) (ah := none) (rs := [some (.no), some (.no), some (.eqv (.no) ⟨[(13, .int .i64 (a0.length : Int))], [], []⟩), some (.no)]) (kt := [0, 1, 5, 14]) (ko := []) (T' := [(0, .sl (List.map I a0)), (1, .sl (List.map I b1)), (5, .int .i64 i_4), (14, .bool (decide (i_4 < (a0.length : Int))))]) (O' := []) (by kernel_rfl) (And.intro (lenT (d := 13) I a0) trivial) (by kernel_rfl) (by kernel_rfl) ?_
  refine seqQ_norm ?_
  rcases itesome h with ⟨hb_5, h⟩ | ⟨hb_5, h⟩
  · refine Wp.condT (b := (decide (i_4 < (a0.length : Int)))) (by kernel_rfl) (by kernel_rfl) hb_5 ?_
    refine Wp.skipN (by kernel_rfl) ?_
    refine seqQ_norm ?_
    refine Wp.seqN (by kernel_rfl) ?_
    refine Wp.blockN (i := 1) (by kernel_rfl) ?_
    refine Wp.seqN (by kernel_rfl) ?_
    obtain ⟨e_6_2, hi_6_2, h⟩ := bsome h
    obtain ⟨e_6_6, hi_6_6, h⟩ := bsome h
    refine Wp.reg tiok mix hc (by kernel_rfl) (ah := (some [[], [], [0, 1], [0, 1, 2], [], [], [4, 5], [4, 5, 6], [0, 1, 2, 3, 4, 5, 6, 7]])) (rs := [some (.no), some (.no), some (.el (.int .i64 e_6_2)), some (.no), some (.no), some (.no), some (.el (.int .i64 e_6_6)), some (.no), some (.no)]) (kt := [0, 1, 5, 25]) (ko := []) (T' := [(0, .sl (List.map I a0)), (1, .sl (List.map I b1)), (5, .int .i64 i_4), (25, .bool (e_6_2 != e_6_6))]) (O' := []) (by kernel_rfl) (And.intro (idx_sl (enc := I) (x := .int .i64 e_6_2) hi_6_2 (eq_I e_6_2)) (And.intro (idx_sl (enc := I) (x := .int .i64 e_6_6) hi_6_6 (eq_I e_6_6)) trivial)) (by kernel_rfl) (by kernel_rfl) ?_
    refine seqQ_norm ?_
    rcases itesome h with ⟨hb_6, h⟩ | ⟨hb_6, h⟩
    · refine Wp.condT (b := (e_6_2 != e_6_6)) (by kernel_rfl) (by kernel_rfl) hb_6 ?_
      refine Wp.seqN (by kernel_rfl) ?_
      refine Wp.reg tiok mix hc (by kernel_rfl) (ah := none) (rs := [some (.no)]) (kt := [4]) (ko := []) (T' := [(4, .bool false)]) (O' := []) (by kernel_rfl) trivial (by kernel_rfl) (by kernel_rfl) ?_
      refine seqQ_norm ?_
      refine Wp.retN (by kernel_rfl) ?_
      refine blockQ_ret ?_
      refine seqQ_ret ?_
      refine loopQ_ret ?_
      obtain rfl := Option.some.inj h
      exact RetE.ret (fl := [true]) (by kernel_rfl)
    · refine Wp.condF (b := (e_6_2 != e_6_6)) (by kernel_rfl) (by kernel_rfl) hb_6 ?_
      refine Wp.skipN (by kernel_rfl) ?_
      refine blockQ_norm ?_
      refine seqQ_norm ?_
      refine Wp.reg tiok mix hc (by kernel_rfl) (ah := none) (rs := [some (.no), some (.no), some (.no)]) (kt := [0, 1, 5]) (ko := []) (T' := [(0, .sl (List.map I a0)), (1, .sl (List.map I b1)), (5, .int .i64 (wr (i_4 + 1)))]) (O' := []) (by kernel_rfl) trivial (by kernel_rfl) (by kernel_rfl) ?_
      refine loopQ_norm ?_
      exact (laws_eqIntS_l0_ih _ _ h c hc)
  · refine Wp.condF (b := (decide (i_4 < (a0.length : Int)))) (by kernel_rfl) (by kernel_rfl) hb_5 ?_
    refine Wp.exitN (i := 0) (by kernel_rfl) ?_
    refine seqQ_exit ?_
    refine loopQ_exit ?_
    obtain rfl := Option.some.inj h
    exact Into.view (fun a w hv => SRx.renL [] hv (by kernel_rfl) (by kernel_rfl) (by kernel_rfl))
def laws_eqIntS (p : (List Int) × (List Int)) : Option (Bool) :=
  match p with
  | (a0, b1) =>
    if ((a0.length : Int) != (b1.length : Int)) = true then
      some false
    else
      (laws_eqIntS_l0 (a0, b1, 0)) >>= fun fl => match fl with
      | .inl () =>
        some true
      | .inr r =>
        some r
def M_laws_eqIntS (p : (List Int) × (List Int)) (r : Bool) : Prop :=
  match p with
  | (a0, b1) => FnSound Try.prog 29 [.sl (List.map I a0), .sl (List.map I b1)] (.bool r) []
theorem laws_eqIntS_s : ∀ p r, laws_eqIntS p = some r → M_laws_eqIntS p r := by
  rintro ⟨a0, b1⟩ r h
  unfold laws_eqIntS at h
  show FnSound Try.prog 29 [.sl (List.map I a0), .sl (List.map I b1)] (.bool r) []
  refine FnSound.body0 tiok (fn := Try.f29) (code := B29) (by kernel_rfl) (by kernel_rfl) (by kernel_rfl) (by kernel_rfl) (nt := 26) (by kernel_rfl) (by kernel_rfl) (T := [(0, .sl (List.map I a0)), (1, .sl (List.map I b1))]) (O := []) (by kernel_rfl) (by kernel_rfl) (fun c hc => ?_)
  refine Wp.seqN (by kernel_rfl) ?_
  refine Wp.reg tiok mix hc (by kernel_rfl) (ah := none) (rs := [some (.no)]) (kt := [0, 1]) (ko := []) (T' := [(0, .sl (List.map I a0)), (1, .sl (List.map I b1))]) (O' := []) (by kernel_rfl) trivial (by kernel_rfl) (by kernel_rfl) ?_
  refine seqQ_norm ?_
  refine Wp.seqN (by kernel_rfl) ?_
  refine Wp.seqN (by kernel_rfl) ?_
  refine Wp.reg tiok mix hc (by kernel_rfl) (ah := none) (rs := [some (.no), some (.eqv (.no) ⟨[(7, .int .i64 (a0.length : Int))], [], []⟩), some (.no), some (.eqv (.no) ⟨[(9, .int .i64 (b1.length : Int))], [], []⟩), some (.no)]) (kt := [0, 1, 10]) (ko := []) (T' := [(0, .sl (List.map I a0)), (1, .sl (List.map I b1)), (10, .bool ((a0.length : Int) != (b1.length : Int)))]) (O' := []) (by kernel_rfl) (And.intro (lenT (d := 7) I a0) (And.intro (lenT (d := 9) I b1) trivial)) (by kernel_rfl) (by kernel_rfl) ?_
  refine seqQ_norm ?_
  rcases itesome h with ⟨hb_1, h⟩ | ⟨hb_1, h⟩
  · refine Wp.condT (b := ((a0.length : Int) != (b1.length : Int))) (by kernel_rfl) (by kernel_rfl) hb_1 ?_
    refine Wp.seqN (by kernel_rfl) ?_
    refine Wp.reg tiok mix hc (by kernel_rfl) (ah := none) (rs := [some (.no)]) (kt := [4]) (ko := []) (T' := [(4, .bool false)]) (O' := []) (by kernel_rfl) trivial (by kernel_rfl) (by kernel_rfl) ?_
    refine seqQ_norm ?_
    refine Wp.retN (by kernel_rfl) ?_
    refine seqQ_ret ?_
    obtain rfl := Option.some.inj h
    exact RetQ.ret (fl := [true]) (by kernel_rfl)
  · refine Wp.condF (b := ((a0.length : Int) != (b1.length : Int))) (by kernel_rfl) (by kernel_rfl) hb_1 ?_
    refine Wp.skipN (by kernel_rfl) ?_
    refine seqQ_norm ?_
    refine Wp.seqN (by kernel_rfl) ?_
    refine Wp.seqN (by kernel_rfl) ?_
    refine Wp.reg tiok mix hc (by kernel_rfl) (ah := none) (rs := [some (.no)]) (kt := [0, 1, 5]) (ko := []) (T' := [(0, .sl (List.map I a0)), (1, .sl (List.map I b1)), (5, .int .i64 0)]) (O' := []) (by kernel_rfl) trivial (by kernel_rfl) (by kernel_rfl) ?_
    refine seqQ_norm ?_
    refine Wp.blockN (i := 0) (by kernel_rfl) ?_
    obtain ⟨fl, hl_7, h⟩ := bsome h
    have hL := laws_eqIntS_l0_s _ _ hl_7 c hc
    refine Wp.loopN (by kernel_rfl) ?_
    rcases fl with ⟨⟩ | r
    · refine WpL.into (e := (.exit 0)) (mkS [] []) hL ?_
      refine blockQ_hit ?_
      refine seqQ_norm ?_
      refine Wp.seqN (by kernel_rfl) ?_
      refine Wp.reg tiok mix hc (by kernel_rfl) (ah := none) (rs := [some (.no)]) (kt := [4]) (ko := []) (T' := [(4, .bool true)]) (O' := []) (by kernel_rfl) trivial (by kernel_rfl) (by kernel_rfl) ?_
      refine seqQ_norm ?_
      refine Wp.retN (by kernel_rfl) ?_
      obtain rfl := Option.some.inj h
      exact RetQ.ret (fl := [true]) (by kernel_rfl)
    · refine WpL.mono hL ?_
      rintro _ _ ⟨rfl, hfin⟩
      refine blockQ_ret ?_
      refine seqQ_ret ?_
      obtain rfl := Option.some.inj h
      exact ⟨.inl rfl, hfin⟩
def laws_eqIntSS_F1 (c : Ctx) : (Unit) ⊕ (Bool) → Exit → AState → Prop
  | .inl _ => Into c (.exit 0) (mkS [] [])
  | .inr r => RetE TIx Try.f39 [] (.bool r)
def laws_eqIntSS_l0 (p : (List (List Int)) × (List (List Int)) × Int) : Option ((Unit) ⊕ (Bool)) :=
  match p with
  | (a0, b1, i_4) =>
    if (decide (i_4 < (a0.length : Int))) = true then
      (idx a0 i_4) >>= fun e_6_2 =>
      (idx b1 i_4) >>= fun e_6_6 =>
      (laws_eqIntS (e_6_2, e_6_6)) >>= fun r_6_8 =>
      if r_6_8 = true then
        laws_eqIntSS_l0 (a0, b1, (wr (i_4 + 1)))
      else
        some (.inr false)
    else
      some (.inl ())
  partial_fixpoint
def M_laws_eqIntSS_l0 (p : (List (List Int)) × (List (List Int)) × Int) (fl : (Unit) ⊕ (Bool)) : Prop :=
  match p with
  | (a0, b1, i_4) => ∀ c : Ctx, c.nt = 27 → WpL Try.prog c (cl (cl (cr (cl (cr (cr B39)))))) (laws_eqIntSS_F1 c fl) (mkS [(0, .sl (List.map LI_s a0)), (1, .sl (List.map LI_s b1)), (5, .int .i64 i_4)] [])
theorem laws_eqIntSS_l0_s : ∀ p r, laws_eqIntSS_l0 p = some r → M_laws_eqIntSS_l0 p r := by
  refine laws_eqIntSS_l0.partial_correctness M_laws_eqIntSS_l0 ?_
  rintro laws_eqIntSS_l0_f laws_eqIntSS_l0_ih ⟨a0, b1, i_4⟩ r h
  intro c hc
  show WpL Try.prog c (cl (cl (cr (cl (cr (cr B39)))))) (laws_eqIntSS_F1 c r) (mkS [(0, .sl (List.map LI_s a0)), (1, .sl (List.map LI_s b1)), (5, .int .i64 i_4)] [])
  refine WpL.step ?_
  refine Wp.seqN (by kernel_rfl) ?_
  refine Wp.seqN (by kernel_rfl) ?_
  refine Wp.reg tiok mix hc (by kernel_rfl) (ah := none) (rs := [some (.no), some (.no), some (.eqv (.no) ⟨[(13, .int .i64 (a0.length : Int))], [], []⟩), some (.no)]) (kt := [0, 1, 5, 14]) (ko := []) (T' := [(0, .sl (List.map LI_s a0)), (1, .sl (List.map LI_s b1)), (5, .int .i64 i_4), (14, .bool (decide (i_4 < (a0.length : Int))))]) (O' := []) (by kernel_rfl) (And.intro (lenT (d := 13) LI_s a0) trivial) (by kernel_rfl) (by kernel_rfl) ?_
  refine seqQ_norm ?_
  rcases itesome h with ⟨hb_5, h⟩ | ⟨hb_5, h⟩
  · refine Wp.condT (b := (decide (i_4 < (a0.length : Int)))) (by kernel_rfl) (by kernel_rfl) hb_5 ?_
    refine Wp.skipN (by kernel_rfl) ?_
    refine seqQ_norm ?_
    refine Wp.seqN (by kernel_rfl) ?_
    refine Wp.blockN (i := 1) (by kernel_rfl) ?_
    refine Wp.seqN (by kernel_rfl) ?_
    obtain ⟨e_6_2, hi_6_2, h⟩ := bsome h
    obtain ⟨e_6_6, hi_6_6, h⟩ := bsome h
    obtain ⟨r_6_8, hr_6_8, h⟩ := bsome h
    refine Wp.reg tiok mix hc (by kernel_rfl) (ah := (some [[], [], [0, 1], [0, 1, 2], [], [], [4, 5], [4, 5, 6], [0, 1, 2, 3, 4, 5, 6, 7], [0, 1, 2, 3, 4, 5, 6, 7, 8]])) (rs := [some (.no), some (.no), some (.el (.sl (List.map I e_6_2))), some (.no), some (.no), some (.no), some (.el (.sl (List.map I e_6_6))), some (.no), some (.call (.bool r_6_8) [] 1), some (.no)]) (kt := [0, 1, 5, 26]) (ko := []) (T' := [(0, .sl (List.map LI_s a0)), (1, .sl (List.map LI_s b1)), (5, .int .i64 i_4), (26, .bool (!r_6_8))]) (O' := []) (by kernel_rfl) (And.intro (idx_sl (enc := LI_s) (x := .sl (List.map I e_6_2)) hi_6_2 (eq_LI_s e_6_2)) (And.intro (idx_sl (enc := LI_s) (x := .sl (List.map I e_6_6)) hi_6_6 (eq_LI_s e_6_6)) (And.intro (laws_eqIntS_s _ _ hr_6_8) (And.intro bod_29 (And.intro (Or.inl rfl : ([] : List Nat) = [] ∨ noSh (.bool r_6_8) = true) trivial))))) (by kernel_rfl) (by kernel_rfl) ?_
    refine seqQ_norm ?_
    rcases itesome h with ⟨hb_6, h⟩ | ⟨hb_6, h⟩
    · refine Wp.condF (b := (!r_6_8)) (by kernel_rfl) (by kernel_rfl) (nF hb_6) ?_
      refine Wp.skipN (by kernel_rfl) ?_
      refine blockQ_norm ?_
      refine seqQ_norm ?_
      refine Wp.reg tiok mix hc (by kernel_rfl) (ah := none) (rs := [some (.no), some (.no), some (.no)]) (kt := [0, 1, 5]) (ko := []) (T' := [(0, .sl (List.map LI_s a0)), (1, .sl (List.map LI_s b1)), (5, .int .i64 (wr (i_4 + 1)))]) (O' := []) (by kernel_rfl) trivial (by kernel_rfl) (by kernel_rfl) ?_
      refine loopQ_norm ?_
      exact (laws_eqIntSS_l0_ih _ _ h c hc)
    · refine Wp.condT (b := (!r_6_8)) (by kernel_rfl) (by kernel_rfl) (nT hb_6) ?_
      refine Wp.seqN (by kernel_rfl) ?_
      refine Wp.reg tiok mix hc (by kernel_rfl) (ah := none) (rs := [some (.no)]) (kt := [4]) (ko := []) (T' := [(4, .bool false)]) (O' := []) (by kernel_rfl) trivial (by kernel_rfl) (by kernel_rfl) ?_
      refine seqQ_norm ?_
      refine Wp.retN (by kernel_rfl) ?_
      refine blockQ_ret ?_
      refine seqQ_ret ?_
      refine loopQ_ret ?_
      obtain rfl := Option.some.inj h
      exact RetE.ret (fl := [true]) (by kernel_rfl)
  · refine Wp.condF (b := (decide (i_4 < (a0.length : Int)))) (by kernel_rfl) (by kernel_rfl) hb_5 ?_
    refine Wp.exitN (i := 0) (by kernel_rfl) ?_
    refine seqQ_exit ?_
    refine loopQ_exit ?_
    obtain rfl := Option.some.inj h
    exact Into.view (fun a w hv => SRx.renL [] hv (by kernel_rfl) (by kernel_rfl) (by kernel_rfl))
def laws_eqIntSS (p : (List (List Int)) × (List (List Int))) : Option (Bool) :=
  match p with
  | (a0, b1) =>
    if ((a0.length : Int) != (b1.length : Int)) = true then
      some false
    else
      (laws_eqIntSS_l0 (a0, b1, 0)) >>= fun fl => match fl with
      | .inl () =>
        some true
      | .inr r =>
        some r
def M_laws_eqIntSS (p : (List (List Int)) × (List (List Int))) (r : Bool) : Prop :=
  match p with
  | (a0, b1) => FnSound Try.prog 39 [.sl (List.map LI_s a0), .sl (List.map LI_s b1)] (.bool r) []
theorem laws_eqIntSS_s : ∀ p r, laws_eqIntSS p = some r → M_laws_eqIntSS p r := by
  rintro ⟨a0, b1⟩ r h
  unfold laws_eqIntSS at h
  show FnSound Try.prog 39 [.sl (List.map LI_s a0), .sl (List.map LI_s b1)] (.bool r) []
  refine FnSound.body0 tiok (fn := Try.f39) (code := B39) (by kernel_rfl) (by kernel_rfl) (by kernel_rfl) (by kernel_rfl) (nt := 27) (by kernel_rfl) (by kernel_rfl) (T := [(0, .sl (List.map LI_s a0)), (1, .sl (List.map LI_s b1))]) (O := []) (by kernel_rfl) (by kernel_rfl) (fun c hc => ?_)
  refine Wp.seqN (by kernel_rfl) ?_
  refine Wp.reg tiok mix hc (by kernel_rfl) (ah := none) (rs := [some (.no)]) (kt := [0, 1]) (ko := []) (T' := [(0, .sl (List.map LI_s a0)), (1, .sl (List.map LI_s b1))]) (O' := []) (by kernel_rfl) trivial (by kernel_rfl) (by kernel_rfl) ?_
  refine seqQ_norm ?_
  refine Wp.seqN (by kernel_rfl) ?_
  refine Wp.seqN (by kernel_rfl) ?_
  refine Wp.reg tiok mix hc (by kernel_rfl) (ah := none) (rs := [some (.no), some (.eqv (.no) ⟨[(7, .int .i64 (a0.length : Int))], [], []⟩), some (.no), some (.eqv (.no) ⟨[(9, .int .i64 (b1.length : Int))], [], []⟩), some (.no)]) (kt := [0, 1, 10]) (ko := []) (T' := [(0, .sl (List.map LI_s a0)), (1, .sl (List.map LI_s b1)), (10, .bool ((a0.length : Int) != (b1.length : Int)))]) (O' := []) (by kernel_rfl) (And.intro (lenT (d := 7) LI_s a0) (And.intro (lenT (d := 9) LI_s b1) trivial)) (by kernel_rfl) (by kernel_rfl) ?_
  refine seqQ_norm ?_
  rcases itesome h with ⟨hb_1, h⟩ | ⟨hb_1, h⟩
  · refine Wp.condT (b := ((a0.length : Int) != (b1.length : Int))) (by kernel_rfl) (by kernel_rfl) hb_1 ?_
    refine Wp.seqN (by kernel_rfl) ?_
    refine Wp.reg tiok mix hc (by kernel_rfl) (ah := none) (rs := [some (.no)]) (kt := [4]) (ko := []) (T' := [(4, .bool false)]) (O' := []) (by kernel_rfl) trivial (by kernel_rfl) (by kernel_rfl) ?_
    refine seqQ_norm ?_
    refine Wp.retN (by kernel_rfl) ?_
    refine seqQ_ret ?_
    obtain rfl := Option.some.inj h
    exact RetQ.ret (fl := [true]) (by kernel_rfl)
  · refine Wp.condF (b := ((a0.length : Int) != (b1.length : Int))) (by kernel_rfl) (by kernel_rfl) hb_1 ?_
    refine Wp.skipN (by kernel_rfl) ?_
    refine seqQ_norm ?_
    refine Wp.seqN (by kernel_rfl) ?_
    refine Wp.seqN (by kernel_rfl) ?_
    refine Wp.reg tiok mix hc (by kernel_rfl) (ah := none) (rs := [some (.no)]) (kt := [0, 1, 5]) (ko := []) (T' := [(0, .sl (List.map LI_s a0)), (1, .sl (List.map LI_s b1)), (5, .int .i64 0)]) (O' := []) (by kernel_rfl) trivial (by kernel_rfl) (by kernel_rfl) ?_
    refine seqQ_norm ?_
    refine Wp.blockN (i := 0) (by kernel_rfl) ?_
    obtain ⟨fl, hl_7, h⟩ := bsome h
    have hL := laws_eqIntSS_l0_s _ _ hl_7 c hc
    refine Wp.loopN (by kernel_rfl) ?_
    rcases fl with ⟨⟩ | r
    · refine WpL.into (e := (.exit 0)) (mkS [] []) hL ?_
      refine blockQ_hit ?_
      refine seqQ_norm ?_
      refine Wp.seqN (by kernel_rfl) ?_
      refine Wp.reg tiok mix hc (by kernel_rfl) (ah := none) (rs := [some (.no)]) (kt := [4]) (ko := []) (T' := [(4, .bool true)]) (O' := []) (by kernel_rfl) trivial (by kernel_rfl) (by kernel_rfl) ?_
      refine seqQ_norm ?_
      refine Wp.retN (by kernel_rfl) ?_
      obtain rfl := Option.some.inj h
      exact RetQ.ret (fl := [true]) (by kernel_rfl)
    · refine WpL.mono hL ?_
      rintro _ _ ⟨rfl, hfin⟩
      refine blockQ_ret ?_
      refine seqQ_ret ?_
      obtain rfl := Option.some.inj h
      exact ⟨.inl rfl, hfin⟩
def laws_eqTermS_F1 (c : Ctx) : (Unit) ⊕ (Bool) → Exit → AState → Prop
  | .inl _ => Into c (.exit 0) (mkS [] [])
  | .inr r => RetE TIx Try.f63 [] (.bool r)
end Go.Am
