/- Functions of the program as pure functions, and that it computes them. Printed by a program of mine (gen.py). -/
import Derived.Test.YtfakfcaegabgaaaGIJF5
set_option linter.unusedVariables false
set_option linter.unusedSimpArgs false
set_option maxRecDepth 100000
namespace Go.Am
open Go Go.Proofs
def ah6_0 : Option (List (List Nat)) := rx [[0], [0], [2], [3], [4], [5], [5], [5, 6], [5], [5, 6, 7, 8], [5, 6, 7, 8, 9], [11], [12], [13]]
def ah6_1 : Option (List (List Nat)) := rx [[0], [0], [2], [3], [0], [0], [0, 4, 5], [0, 4, 5, 6], [8]]
mutual
def impl_check_Kimpl_Systemhas_Kimpl_isJudgment_c1 (p : GTerm × Int × GSystem × GSystem × Int) : Option (Int) :=
 match p with
 | (t0, n1, clo2_0, clo3_0, nodes4) =>
  (impl_formOf t0.fOp) >>= fun (r_2_2_0, r_2_2_1) =>
  (
   if r_2_2_1 = true then
    if (decide ((wr (nodes4 + 1)) > 400)) = true then
     some (true)
    else
     some (((t0.fKids.length : Int) != r_2_2_0.fkids))
   else
    some (true)
  ) >>= fun v_1 =>
  if v_1 = true then
   some 401
  else
   (
    if (t0.fOp == 0) = true then
     (impl_within (t0.fN, 0, (wr (n1 - 1)))) >>= fun r_7_4 =>
     some (r_7_4)
    else
     (
      if (t0.fOp == 1) = true then
       (impl_within (t0.fN, 0, 2)) >>= fun r_9_2 =>
       some (r_9_2)
      else
       (
        if r_2_2_0.fgrade = true then
         (impl_Systemhas (clo2_0, t0.fN)) >>= fun r_11_3 =>
         some (r_11_3)
        else
         some ((t0.fN == 0))
       ) >>= fun ok_7 =>
       some (ok_7)
     ) >>= fun ok_9 =>
     some (ok_9)
   ) >>= fun ok_11 =>
   (
    if r_2_2_0.ftyped = true then
     (
      if ok_11 = true then
       (impl_isJudgment_c1 (t0.fType, clo3_0)) >>= fun r_13_5 =>
       some (r_13_5)
      else
       some (false)
     ) >>= fun ok_14 =>
     some (ok_14)
    else
     (
      if ok_11 = true then
       some (((t0.fType.length : Int) == 0))
      else
       some (false)
     ) >>= fun ok_16 =>
     some (ok_16)
   ) >>= fun ok_18 =>
   if ok_18 = true then
    (impl_check_Kimpl_Systemhas_Kimpl_isJudgment_c1_l0 (t0, n1, clo2_0, clo3_0, (wr (nodes4 + 1)), 0)) >>= fun fl => match fl with
    | .inl nodes_27 =>
     some nodes_27
    | .inr r =>
     some r
   else
    some 401
 partial_fixpoint
def impl_check_Kimpl_Systemhas_Kimpl_isJudgment_c1_l0 (p : GTerm × Int × GSystem × GSystem × Int × Int) : Option ((Int) ⊕ (Int)) :=
 match p with
 | (t0, n1, clo2_0, clo3_0, nodes_23, w_24) =>
  if (decide (w_24 < (t0.fKids.length : Int))) = true then
   (idx t0.fKids w_24) >>= fun e_19_1 =>
   (impl_adds (t0.fOp, w_24)) >>= fun r_20_5 =>
   (impl_check_Kimpl_Systemhas_Kimpl_isJudgment_c1 (e_19_1, (wr (n1 + r_20_5)), clo2_0, clo3_0, nodes_23)) >>= fun r_20_10 =>
   if (decide (r_20_10 > 400)) = true then
    some (.inr 401)
   else
    impl_check_Kimpl_Systemhas_Kimpl_isJudgment_c1_l0 (t0, n1, clo2_0, clo3_0, r_20_10, (wr (w_24 + 1)))
  else
   some (.inl nodes_23)
 partial_fixpoint
end
def M_impl_check_Kimpl_Systemhas_Kimpl_isJudgment_c1 (p : GTerm × Int × GSystem × GSystem × Int) (r : Int) : Prop :=
 match p with
 | (t0, n1, clo2_0, clo3_0, nodes4) => FnSound Try.prog 142 [aTerm t0, I n1, .fnb 117 [aSystem clo2_0], .fn 143 [.ptr [I clo3_0.fSize, sI clo3_0.fPlus, sI clo3_0.fTimes, sB clo3_0.fBelow] 0], I nodes4] (I r) []
def M_impl_check_Kimpl_Systemhas_Kimpl_isJudgment_c1_l0 (p : GTerm × Int × GSystem × GSystem × Int × Int) (fl : (Int) ⊕ (Int)) : Prop :=
 match p with
 | (t0, n1, clo2_0, clo3_0, nodes_23, w_24) => ∀ c : Ctx, c.nt = 104 → WpL Try.prog c (cl (cl (cr (cl (cr (cr (cr (cr (cr (cr (cr B142))))))))))) (impl_check_Kimpl_Systemhas_Kimpl_isJudgment_c1_F1 c fl) (mkS [(1, I n1), (2, .fnb 117 [aSystem clo2_0]), (3, .fn 143 [.ptr [I clo3_0.fSize, sI clo3_0.fPlus, sI clo3_0.fTimes, sB clo3_0.fBelow] 0]), (4, I nodes_23), (5, .ra 1 0), (82, .sl (List.map GTerm_S t0.fKids)), (83, I (t0.fKids.length : Int)), (84, I w_24)] [(1, bTerm t0)])
theorem impl_check_Kimpl_Systemhas_Kimpl_isJudgment_c1_all : (∀ p r, impl_check_Kimpl_Systemhas_Kimpl_isJudgment_c1 p = some r → M_impl_check_Kimpl_Systemhas_Kimpl_isJudgment_c1 p r) ∧ (∀ p r, impl_check_Kimpl_Systemhas_Kimpl_isJudgment_c1_l0 p = some r → M_impl_check_Kimpl_Systemhas_Kimpl_isJudgment_c1_l0 p r) := by
 refine impl_check_Kimpl_Systemhas_Kimpl_isJudgment_c1.mutual_partial_correctness M_impl_check_Kimpl_Systemhas_Kimpl_isJudgment_c1 M_impl_check_Kimpl_Systemhas_Kimpl_isJudgment_c1_l0 ?_ ?_
 ·rintro impl_check_Kimpl_Systemhas_Kimpl_isJudgment_c1_l0_f impl_check_Kimpl_Systemhas_Kimpl_isJudgment_c1_l0_ih ⟨t0, n1, clo2_0, clo3_0, nodes4⟩ r h
  show FnSound Try.prog 142 [aTerm t0, I n1, .fnb 117 [aSystem clo2_0], .fn 143 [.ptr [I clo3_0.fSize, sI clo3_0.fPlus, sI clo3_0.fTimes, sB clo3_0.fBelow] 0], I nodes4] (I r) []
  refine FnSound.body0 tiok (fn := Try.f142) (code := B142) (by kernel_rfl) (by kernel_rfl) (by kernel_rfl) (by kernel_rfl) (nt := 104) (by kernel_rfl) (by kernel_rfl) (T := [(0, aTerm t0), (1, I n1), (2, .fnb 117 [aSystem clo2_0]), (3, .fn 143 [.ptr [I clo3_0.fSize, sI clo3_0.fPlus, sI clo3_0.fTimes, sB clo3_0.fBelow] 0]), (4, I nodes4)]) (O := []) (by kernel_rfl) (by kernel_rfl) (fun c hc => ?_)
  refine sN ?_
  refine rg hc none [some (.new 1), oN] [(1, I n1), (2, .fnb 117 [aSystem clo2_0]), (3, .fn 143 [.ptr [I clo3_0.fSize, sI clo3_0.fPlus, sI clo3_0.fTimes, sB clo3_0.fBelow] 0]), (4, I nodes4), (5, .ra 1 0)] [(1, bTerm t0)] trivial ?_
  refine seqQ_norm ?_
  refine sN ?_
  refine rg0 hc 3 [(1, I n1), (2, .fnb 117 [aSystem clo2_0]), (3, .fn 143 [.ptr [I clo3_0.fSize, sI clo3_0.fPlus, sI clo3_0.fTimes, sB clo3_0.fBelow] 0]), (4, I (wr (nodes4 + 1))), (5, .ra 1 0)] [(1, bTerm t0)] ?_
  refine seqQ_norm ?_
  refine sN ?_
  obtain ⟨⟨r_2_2_0, r_2_2_1⟩, hr_2_2, h⟩ := bsome h
  refine rg hc none [oN, oN, oc (.tup [.agg [.str r_2_2_0.fword, I r_2_2_0.fkids, .bool r_2_2_0.fgrade, .bool r_2_2_0.ftyped], .bool r_2_2_1]), oN, oN, oN, some (.new 2), oN, oN] [(1, I n1), (2, .fnb 117 [aSystem clo2_0]), (3, .fn 143 [.ptr [I clo3_0.fSize, sI clo3_0.fPlus, sI clo3_0.fTimes, sB clo3_0.fBelow] 0]), (4, I (wr (nodes4 + 1))), (5, .ra 1 0), (11, .ra 2 0), (12, .bool r_2_2_1)] [(1, bTerm t0), (2, .box [.str r_2_2_0.fword, I r_2_2_0.fkids, .bool r_2_2_0.fgrade, .bool r_2_2_0.ftyped])] (ai (impl_formOf_s _ _ hr_2_2) (ai bod_111 (ai (oi (.tup [.agg [.str r_2_2_0.fword, I r_2_2_0.fkids, .bool r_2_2_0.fgrade, .bool r_2_2_0.ftyped], .bool r_2_2_1])) trivial))) ?_
  refine seqQ_norm ?_
  refine sN ?_
  refine sN ?_
  obtain ⟨v_1, hj_2, h⟩ := bsome h
  refine Wp.into (x := .normal) (mkS [(1, I n1), (2, .fnb 117 [aSystem clo2_0]), (3, .fn 143 [.ptr [I clo3_0.fSize, sI clo3_0.fPlus, sI clo3_0.fTimes, sB clo3_0.fBelow] 0]), (4, I (wr (nodes4 + 1))), (5, .ra 1 0), (11, .ra 2 0), (36, .bool v_1)] [(1, bTerm t0), (2, .box [.str r_2_2_0.fword, I r_2_2_0.fkids, .bool r_2_2_0.fgrade, .bool r_2_2_0.ftyped])]) ?_ ?_
  ·replace h := hj_2
   rcases itesome h with ⟨hb_3_0, h⟩ | ⟨hb_3_0, h⟩
   ·rcases itesome h with ⟨hb_3_1, h⟩ | ⟨hb_3_1, h⟩
    ·refine rg hc none [oN, oN, oN, oN, oN, oF, oN, o_, o_, o_, o_, o_, o_, oT] [(1, I n1), (2, .fnb 117 [aSystem clo2_0]), (3, .fn 143 [.ptr [I clo3_0.fSize, sI clo3_0.fPlus, sI clo3_0.fTimes, sB clo3_0.fBelow] 0]), (4, I (wr (nodes4 + 1))), (5, .ra 1 0), (11, .ra 2 0), (36, .bool true)] [(1, bTerm t0), (2, .box [.str r_2_2_0.fword, I r_2_2_0.fkids, .bool r_2_2_0.fgrade, .bool r_2_2_0.ftyped])] (ar 3 (nF hb_3_0) (ar 6 (neF hb_3_1) (ai hb_3_1 trivial))) ?_
     obtain rfl := Option.some.inj h
     exact Into.mk
    ·refine rg hc none [oN, oN, oN, oN, oN, oF, oN, oN, oN, some (.eqv (.no) ⟨[(32, I (t0.fKids.length : Int))], [], []⟩), oN, oN, oN, oF] [(1, I n1), (2, .fnb 117 [aSystem clo2_0]), (3, .fn 143 [.ptr [I clo3_0.fSize, sI clo3_0.fPlus, sI clo3_0.fTimes, sB clo3_0.fBelow] 0]), (4, I (wr (nodes4 + 1))), (5, .ra 1 0), (11, .ra 2 0), (36, .bool ((t0.fKids.length : Int) != r_2_2_0.fkids))] [(1, bTerm t0), (2, .box [.str r_2_2_0.fword, I r_2_2_0.fkids, .bool r_2_2_0.fgrade, .bool r_2_2_0.ftyped])] (ar 3 (nF hb_3_0) (ar 3 hb_3_1 (ai (lenT (d := 32) GTerm_S t0.fKids) (ar 4 hb_3_1 trivial)))) ?_
     obtain rfl := Option.some.inj h
     exact Into.mk
   ·refine rg hc none [oN, oN, oN, o_, o_, oT, oN, o_, o_, o_, o_, o_, o_, oT] [(1, I n1), (2, .fnb 117 [aSystem clo2_0]), (3, .fn 143 [.ptr [I clo3_0.fSize, sI clo3_0.fPlus, sI clo3_0.fTimes, sB clo3_0.fBelow] 0]), (4, I (wr (nodes4 + 1))), (5, .ra 1 0), (11, .ra 2 0), (36, .bool true)] [(1, bTerm t0), (2, .box [.str r_2_2_0.fword, I r_2_2_0.fkids, .bool r_2_2_0.fgrade, .bool r_2_2_0.ftyped])] (ar 2 (neF (nT hb_3_0)) (ai (nT hb_3_0) (ar 6 nf (ai tt trivial)))) ?_
    obtain rfl := Option.some.inj h
    exact Into.mk
  ·clear hj_2
   refine seqQ_norm ?_
   rcases itesome h with ⟨hb_3, h⟩ | ⟨hb_3, h⟩
   ·refine cT v_1 hb_3 ?_
    refine sN ?_
    refine rg0 hc 1 [(10, I 401)] [] ?_
    refine seqQ_norm ?_
    refine Wp.retN (by kernel_rfl) ?_
    refine seqQ_ret ?_
    obtain rfl := Option.some.inj h
    exact RetQ.ret (fl := [true]) (by kernel_rfl)
   ·refine cF v_1 hb_3 ?_
    refine Wp.skipN (by kernel_rfl) ?_
    refine seqQ_norm ?_
    refine sN ?_
    refine Wp.blockN (i := 0) (by kernel_rfl) ?_
    refine sN ?_
    refine rg0 hc 4 [(1, I n1), (2, .fnb 117 [aSystem clo2_0]), (3, .fn 143 [.ptr [I clo3_0.fSize, sI clo3_0.fPlus, sI clo3_0.fTimes, sB clo3_0.fBelow] 0]), (4, I (wr (nodes4 + 1))), (5, .ra 1 0), (11, .ra 2 0), (40, .bool (t0.fOp == 0))] [(1, bTerm t0), (2, .box [.str r_2_2_0.fword, I r_2_2_0.fkids, .bool r_2_2_0.fgrade, .bool r_2_2_0.ftyped])] ?_
    refine seqQ_norm ?_
    obtain ⟨ok_11, hj_12, h⟩ := bsome h
    refine Wp.into (x := .normal) (mkS [(1, I n1), (2, .fnb 117 [aSystem clo2_0]), (3, .fn 143 [.ptr [I clo3_0.fSize, sI clo3_0.fPlus, sI clo3_0.fTimes, sB clo3_0.fBelow] 0]), (4, I (wr (nodes4 + 1))), (5, .ra 1 0), (11, .ra 2 0), (12, .bool ok_11)] [(1, bTerm t0), (2, .box [.str r_2_2_0.fword, I r_2_2_0.fkids, .bool r_2_2_0.fgrade, .bool r_2_2_0.ftyped])]) ?_ ?_
    ·replace h := hj_12
     rcases itesome h with ⟨hb_4, h⟩ | ⟨hb_4, h⟩
     ·refine cT ((t0.fOp == 0)) hb_4 ?_
      obtain ⟨r_7_4, hr_7_4, h⟩ := bsome h
      refine rg hc none [oN, oN, oN, oN, oc (.bool r_7_4), oN] [(1, I n1), (2, .fnb 117 [aSystem clo2_0]), (3, .fn 143 [.ptr [I clo3_0.fSize, sI clo3_0.fPlus, sI clo3_0.fTimes, sB clo3_0.fBelow] 0]), (4, I (wr (nodes4 + 1))), (5, .ra 1 0), (11, .ra 2 0), (12, .bool r_7_4)] [(1, bTerm t0), (2, .box [.str r_2_2_0.fword, I r_2_2_0.fkids, .bool r_2_2_0.fgrade, .bool r_2_2_0.ftyped])] (ai (impl_within_s _ _ hr_7_4) (ai bod_64 (ai (oi (.bool r_7_4)) trivial))) ?_
      obtain rfl := Option.some.inj h
      exact Into.mk
     ·refine cF ((t0.fOp == 0)) hb_4 ?_
      refine sN ?_
      refine rg0 hc 4 [(1, I n1), (2, .fnb 117 [aSystem clo2_0]), (3, .fn 143 [.ptr [I clo3_0.fSize, sI clo3_0.fPlus, sI clo3_0.fTimes, sB clo3_0.fBelow] 0]), (4, I (wr (nodes4 + 1))), (5, .ra 1 0), (11, .ra 2 0), (49, .bool (t0.fOp == 1))] [(1, bTerm t0), (2, .box [.str r_2_2_0.fword, I r_2_2_0.fkids, .bool r_2_2_0.fgrade, .bool r_2_2_0.ftyped])] ?_
      refine seqQ_norm ?_
      obtain ⟨ok_9, hj_10, h⟩ := bsome h
      refine Wp.into (x := .normal) (mkS [(1, I n1), (2, .fnb 117 [aSystem clo2_0]), (3, .fn 143 [.ptr [I clo3_0.fSize, sI clo3_0.fPlus, sI clo3_0.fTimes, sB clo3_0.fBelow] 0]), (4, I (wr (nodes4 + 1))), (5, .ra 1 0), (11, .ra 2 0), (12, .bool ok_9)] [(1, bTerm t0), (2, .box [.str r_2_2_0.fword, I r_2_2_0.fkids, .bool r_2_2_0.fgrade, .bool r_2_2_0.ftyped])]) ?_ ?_
      ·replace h := hj_10
       rcases itesome h with ⟨hb_5, h⟩ | ⟨hb_5, h⟩
       ·refine cT ((t0.fOp == 1)) hb_5 ?_
        obtain ⟨r_9_2, hr_9_2, h⟩ := bsome h
        refine rg hc none [oN, oN, oc (.bool r_9_2), oN] [(1, I n1), (2, .fnb 117 [aSystem clo2_0]), (3, .fn 143 [.ptr [I clo3_0.fSize, sI clo3_0.fPlus, sI clo3_0.fTimes, sB clo3_0.fBelow] 0]), (4, I (wr (nodes4 + 1))), (5, .ra 1 0), (11, .ra 2 0), (12, .bool r_9_2)] [(1, bTerm t0), (2, .box [.str r_2_2_0.fword, I r_2_2_0.fkids, .bool r_2_2_0.fgrade, .bool r_2_2_0.ftyped])] (ai (impl_within_s _ _ hr_9_2) (ai bod_64 (ai (oi (.bool r_9_2)) trivial))) ?_
        obtain rfl := Option.some.inj h
        exact Into.mk
       ·refine cF ((t0.fOp == 1)) hb_5 ?_
        refine sN ?_
        refine rg0 hc 3 [(1, I n1), (2, .fnb 117 [aSystem clo2_0]), (3, .fn 143 [.ptr [I clo3_0.fSize, sI clo3_0.fPlus, sI clo3_0.fTimes, sB clo3_0.fBelow] 0]), (4, I (wr (nodes4 + 1))), (5, .ra 1 0), (11, .ra 2 0), (56, .bool r_2_2_0.fgrade)] [(1, bTerm t0), (2, .box [.str r_2_2_0.fword, I r_2_2_0.fkids, .bool r_2_2_0.fgrade, .bool r_2_2_0.ftyped])] ?_
        refine seqQ_norm ?_
        obtain ⟨ok_7, hj_8, h⟩ := bsome h
        refine Wp.into (x := .normal) (mkS [(1, I n1), (2, .fnb 117 [aSystem clo2_0]), (3, .fn 143 [.ptr [I clo3_0.fSize, sI clo3_0.fPlus, sI clo3_0.fTimes, sB clo3_0.fBelow] 0]), (4, I (wr (nodes4 + 1))), (5, .ra 1 0), (11, .ra 2 0), (12, .bool ok_7)] [(1, bTerm t0), (2, .box [.str r_2_2_0.fword, I r_2_2_0.fkids, .bool r_2_2_0.fgrade, .bool r_2_2_0.ftyped])]) ?_ ?_
        ·replace h := hj_8
         rcases itesome h with ⟨hb_6, h⟩ | ⟨hb_6, h⟩
         ·refine cT r_2_2_0.fgrade hb_6 ?_
          obtain ⟨r_11_3, hr_11_3, h⟩ := bsome h
          refine rg hc none [oN, oN, oN, oc (.bool r_11_3), oN] [(1, I n1), (2, .fnb 117 [aSystem clo2_0]), (3, .fn 143 [.ptr [I clo3_0.fSize, sI clo3_0.fPlus, sI clo3_0.fTimes, sB clo3_0.fBelow] 0]), (4, I (wr (nodes4 + 1))), (5, .ra 1 0), (11, .ra 2 0), (12, .bool r_11_3)] [(1, bTerm t0), (2, .box [.str r_2_2_0.fword, I r_2_2_0.fkids, .bool r_2_2_0.fgrade, .bool r_2_2_0.ftyped])] (ai (impl_Systemhas_s _ _ hr_11_3) (ai bod_117 (ai (oi (.bool r_11_3)) trivial))) ?_
          obtain rfl := Option.some.inj h
          exact Into.mk
         ·refine cF r_2_2_0.fgrade hb_6 ?_
          refine rg0 hc 4 [(1, I n1), (2, .fnb 117 [aSystem clo2_0]), (3, .fn 143 [.ptr [I clo3_0.fSize, sI clo3_0.fPlus, sI clo3_0.fTimes, sB clo3_0.fBelow] 0]), (4, I (wr (nodes4 + 1))), (5, .ra 1 0), (11, .ra 2 0), (12, .bool (t0.fN == 0))] [(1, bTerm t0), (2, .box [.str r_2_2_0.fword, I r_2_2_0.fkids, .bool r_2_2_0.fgrade, .bool r_2_2_0.ftyped])] ?_
          obtain rfl := Option.some.inj h
          exact Into.mk
        ·clear hj_8
         obtain rfl := Option.some.inj h
         exact Into.mk
      ·clear hj_10
       obtain rfl := Option.some.inj h
       exact Into.mk
    ·clear hj_12
     refine blockQ_norm ?_
     refine seqQ_norm ?_
     refine sN ?_
     refine sN ?_
     refine rg0 hc 2 [(1, I n1), (2, .fnb 117 [aSystem clo2_0]), (3, .fn 143 [.ptr [I clo3_0.fSize, sI clo3_0.fPlus, sI clo3_0.fTimes, sB clo3_0.fBelow] 0]), (4, I (wr (nodes4 + 1))), (5, .ra 1 0), (12, .bool ok_11), (64, .bool r_2_2_0.ftyped)] [(1, bTerm t0)] ?_
     refine seqQ_norm ?_
     obtain ⟨ok_18, hj_19, h⟩ := bsome h
     refine Wp.into (x := .normal) (mkS [(1, I n1), (2, .fnb 117 [aSystem clo2_0]), (3, .fn 143 [.ptr [I clo3_0.fSize, sI clo3_0.fPlus, sI clo3_0.fTimes, sB clo3_0.fBelow] 0]), (4, I (wr (nodes4 + 1))), (5, .ra 1 0), (12, .bool ok_18)] [(1, bTerm t0)]) ?_ ?_
     ·replace h := hj_19
      rcases itesome h with ⟨hb_13, h⟩ | ⟨hb_13, h⟩
      ·refine cT r_2_2_0.ftyped hb_13 ?_
       obtain ⟨ok_14, hj_15, h⟩ := bsome h
       refine Wp.into (x := .normal) (mkS [(1, I n1), (2, .fnb 117 [aSystem clo2_0]), (3, .fn 143 [.ptr [I clo3_0.fSize, sI clo3_0.fPlus, sI clo3_0.fTimes, sB clo3_0.fBelow] 0]), (4, I (wr (nodes4 + 1))), (5, .ra 1 0), (12, .bool ok_14)] [(1, bTerm t0)]) ?_ ?_
       ·replace h := hj_15
        rcases itesome h with ⟨hb_13_0, h⟩ | ⟨hb_13_0, h⟩
        ·obtain ⟨r_13_5, hr_13_5, h⟩ := bsome h
         refine rg hc none [oN, oN, oN, oN, oN, oc (.bool r_13_5), oT, oN] [(1, I n1), (2, .fnb 117 [aSystem clo2_0]), (3, .fn 143 [.ptr [I clo3_0.fSize, sI clo3_0.fPlus, sI clo3_0.fTimes, sB clo3_0.fBelow] 0]), (4, I (wr (nodes4 + 1))), (5, .ra 1 0), (12, .bool r_13_5)] [(1, bTerm t0)] (ar 4 hb_13_0 (ai (impl_isJudgment_c1_s _ _ hr_13_5) (ai bod_143 (ai (oi (.bool r_13_5)) (ai hb_13_0 trivial))))) ?_
         obtain rfl := Option.some.inj h
         exact Into.mk
        ·refine rg hc none [oN, oN, o_, o_, o_, o_, oF, oN] [(1, I n1), (2, .fnb 117 [aSystem clo2_0]), (3, .fn 143 [.ptr [I clo3_0.fSize, sI clo3_0.fPlus, sI clo3_0.fTimes, sB clo3_0.fBelow] 0]), (4, I (wr (nodes4 + 1))), (5, .ra 1 0), (12, .bool false)] [(1, bTerm t0)] (ar 4 (neT hb_13_0) (ai hb_13_0 trivial)) ?_
         obtain rfl := Option.some.inj h
         exact Into.mk
       ·clear hj_15
        obtain rfl := Option.some.inj h
        exact Into.mk
      ·refine cF r_2_2_0.ftyped hb_13 ?_
       obtain ⟨ok_16, hj_17, h⟩ := bsome h
       refine Wp.into (x := .normal) (mkS [(1, I n1), (2, .fnb 117 [aSystem clo2_0]), (3, .fn 143 [.ptr [I clo3_0.fSize, sI clo3_0.fPlus, sI clo3_0.fTimes, sB clo3_0.fBelow] 0]), (4, I (wr (nodes4 + 1))), (5, .ra 1 0), (12, .bool ok_16)] [(1, bTerm t0)]) ?_ ?_
       ·replace h := hj_17
        rcases itesome h with ⟨hb_14_0, h⟩ | ⟨hb_14_0, h⟩
        ·refine rg hc none [oN, oN, oN, oN, some (.eqv (.no) ⟨[(76, I (t0.fType.length : Int))], [], []⟩), oN, oT, oN] [(1, I n1), (2, .fnb 117 [aSystem clo2_0]), (3, .fn 143 [.ptr [I clo3_0.fSize, sI clo3_0.fPlus, sI clo3_0.fTimes, sB clo3_0.fBelow] 0]), (4, I (wr (nodes4 + 1))), (5, .ra 1 0), (12, .bool ((t0.fType.length : Int) == 0))] [(1, bTerm t0)] (ar 3 hb_14_0 (ai (lenT (d := 76) I t0.fType) (ar 2 hb_14_0 trivial))) ?_
         obtain rfl := Option.some.inj h
         exact Into.mk
        ·refine rg hc none [oN, oN, o_, o_, o_, o_, oF, oN] [(1, I n1), (2, .fnb 117 [aSystem clo2_0]), (3, .fn 143 [.ptr [I clo3_0.fSize, sI clo3_0.fPlus, sI clo3_0.fTimes, sB clo3_0.fBelow] 0]), (4, I (wr (nodes4 + 1))), (5, .ra 1 0), (12, .bool false)] [(1, bTerm t0)] (ar 4 (neT hb_14_0) (ai hb_14_0 trivial)) ?_
         obtain rfl := Option.some.inj h
         exact Into.mk
       ·clear hj_17
        obtain rfl := Option.some.inj h
        exact Into.mk
     ·clear hj_19
      refine seqQ_norm ?_
      refine sN ?_
      refine sN ?_
      refine rg0 hc 2 [(1, I n1), (2, .fnb 117 [aSystem clo2_0]), (3, .fn 143 [.ptr [I clo3_0.fSize, sI clo3_0.fPlus, sI clo3_0.fTimes, sB clo3_0.fBelow] 0]), (4, I (wr (nodes4 + 1))), (5, .ra 1 0), (80, .bool (!ok_18))] [(1, bTerm t0)] ?_
      refine seqQ_norm ?_
      rcases itesome h with ⟨hb_20, h⟩ | ⟨hb_20, h⟩
      ·refine cF (!ok_18) (nF hb_20) ?_
       refine Wp.skipN (by kernel_rfl) ?_
       refine seqQ_norm ?_
       refine sN ?_
       refine sN ?_
       refine rg hc none [oN, oN, some (.eqv (.no) ⟨[(83, I (t0.fKids.length : Int))], [], []⟩), oN] [(1, I n1), (2, .fnb 117 [aSystem clo2_0]), (3, .fn 143 [.ptr [I clo3_0.fSize, sI clo3_0.fPlus, sI clo3_0.fTimes, sB clo3_0.fBelow] 0]), (4, I (wr (nodes4 + 1))), (5, .ra 1 0), (82, .sl (List.map GTerm_S t0.fKids)), (83, I (t0.fKids.length : Int)), (84, I 0)] [(1, bTerm t0)] (ai (lenT (d := 83) GTerm_S t0.fKids) trivial) ?_
       refine seqQ_norm ?_
       refine Wp.blockN (i := 1) (by kernel_rfl) ?_
       obtain ⟨fl, hl_28, h⟩ := bsome h
       have hL := impl_check_Kimpl_Systemhas_Kimpl_isJudgment_c1_l0_ih _ _ hl_28 c hc
       refine Wp.loopN (by kernel_rfl) ?_
       rcases fl with nodes_27 | r
       ·refine WpL.into (e := (.exit 1)) (mkS [(4, I nodes_27)] []) hL ?_
        refine blockQ_hit ?_
        refine seqQ_norm ?_
        refine sN ?_
        refine rg0 hc 2 [(10, I nodes_27)] [] ?_
        refine seqQ_norm ?_
        refine Wp.retN (by kernel_rfl) ?_
        obtain rfl := Option.some.inj h
        exact RetQ.ret (fl := [true]) (by kernel_rfl)
       ·refine WpL.mono hL ?_
        rintro _ _ ⟨rfl, hfin⟩
        refine blockQ_ret ?_
        refine seqQ_ret ?_
        obtain rfl := Option.some.inj h
        exact ⟨.inl rfl, hfin⟩
      ·refine cT (!ok_18) (nT hb_20) ?_
       refine sN ?_
       refine rg0 hc 1 [(10, I 401)] [] ?_
       refine seqQ_norm ?_
       refine Wp.retN (by kernel_rfl) ?_
       refine seqQ_ret ?_
       obtain rfl := Option.some.inj h
       exact RetQ.ret (fl := [true]) (by kernel_rfl)
 ·rintro impl_check_Kimpl_Systemhas_Kimpl_isJudgment_c1_f impl_check_Kimpl_Systemhas_Kimpl_isJudgment_c1_l0_f impl_check_Kimpl_Systemhas_Kimpl_isJudgment_c1_ih impl_check_Kimpl_Systemhas_Kimpl_isJudgment_c1_l0_ih ⟨t0, n1, clo2_0, clo3_0, nodes_23, w_24⟩ r h
  intro c hc
  show WpL Try.prog c (cl (cl (cr (cl (cr (cr (cr (cr (cr (cr (cr B142))))))))))) (impl_check_Kimpl_Systemhas_Kimpl_isJudgment_c1_F1 c r) (mkS [(1, I n1), (2, .fnb 117 [aSystem clo2_0]), (3, .fn 143 [.ptr [I clo3_0.fSize, sI clo3_0.fPlus, sI clo3_0.fTimes, sB clo3_0.fBelow] 0]), (4, I nodes_23), (5, .ra 1 0), (82, .sl (List.map GTerm_S t0.fKids)), (83, I (t0.fKids.length : Int)), (84, I w_24)] [(1, bTerm t0)])
  refine WpL.step ?_
  refine sN ?_
  refine rg0 hc 1 [(1, I n1), (2, .fnb 117 [aSystem clo2_0]), (3, .fn 143 [.ptr [I clo3_0.fSize, sI clo3_0.fPlus, sI clo3_0.fTimes, sB clo3_0.fBelow] 0]), (4, I nodes_23), (5, .ra 1 0), (82, .sl (List.map GTerm_S t0.fKids)), (83, I (t0.fKids.length : Int)), (84, I w_24), (85, .bool (decide (w_24 < (t0.fKids.length : Int))))] [(1, bTerm t0)] ?_
  refine seqQ_norm ?_
  refine sN ?_
  rcases itesome h with ⟨hb_25, h⟩ | ⟨hb_25, h⟩
  ·refine cT ((decide (w_24 < (t0.fKids.length : Int)))) hb_25 ?_
   refine Wp.skipN (by kernel_rfl) ?_
   refine seqQ_norm ?_
   refine sN ?_
   refine Wp.blockN (i := 2) (by kernel_rfl) ?_
   refine sN ?_
   obtain ⟨e_19_1, hi_19_1, h⟩ := bsome h
   refine rg hc none [oN, some (.el (aTerm e_19_1)), oN, some (.new 4), oN, oN] [(1, I n1), (2, .fnb 117 [aSystem clo2_0]), (3, .fn 143 [.ptr [I clo3_0.fSize, sI clo3_0.fPlus, sI clo3_0.fTimes, sB clo3_0.fBelow] 0]), (4, I nodes_23), (5, .ra 1 0), (13, I w_24), (14, .ra 4 0), (82, .sl (List.map GTerm_S t0.fKids)), (83, I (t0.fKids.length : Int)), (84, I w_24)] [(1, bTerm t0), (4, bTerm e_19_1)] (ai (idx_sl (enc := GTerm_S) (x := aTerm e_19_1) hi_19_1 (eq_GTerm_S e_19_1)) trivial) ?_
   refine seqQ_norm ?_
   refine sN ?_
   obtain ⟨r_20_5, hr_20_5, h⟩ := bsome h
   obtain ⟨r_20_10, hr_20_10, h⟩ := bsome h
   refine rg hc (rx [[0], [0], [0], [0, 2], [0], [0, 2, 3, 4], [0, 1, 2, 3, 4, 5], [0], [0], [0], [10], [11]]) [oN, oN, oN, oN, oN, oc (I r_20_5), oN, oN, oN, oN, oc (I r_20_10), oN] [(1, I n1), (2, .fnb 117 [aSystem clo2_0]), (3, .fn 143 [.ptr [I clo3_0.fSize, sI clo3_0.fPlus, sI clo3_0.fTimes, sB clo3_0.fBelow] 0]), (4, I r_20_10), (5, .ra 1 0), (82, .sl (List.map GTerm_S t0.fKids)), (83, I (t0.fKids.length : Int)), (84, I w_24)] [(1, bTerm t0)] (ai (impl_adds_s _ _ hr_20_5) (ai bod_165 (ai (oi (I r_20_5)) (ai (impl_check_Kimpl_Systemhas_Kimpl_isJudgment_c1_ih _ _ hr_20_10) (ai bod_142 (ai (oi (I r_20_10)) trivial)))))) ?_
   refine seqQ_norm ?_
   refine sN ?_
   refine rg0 hc 2 [(1, I n1), (2, .fnb 117 [aSystem clo2_0]), (3, .fn 143 [.ptr [I clo3_0.fSize, sI clo3_0.fPlus, sI clo3_0.fTimes, sB clo3_0.fBelow] 0]), (4, I r_20_10), (5, .ra 1 0), (82, .sl (List.map GTerm_S t0.fKids)), (83, I (t0.fKids.length : Int)), (84, I w_24), (101, .bool (decide (r_20_10 > 400)))] [(1, bTerm t0)] ?_
   refine seqQ_norm ?_
   rcases itesome h with ⟨hb_26, h⟩ | ⟨hb_26, h⟩
   ·refine cT ((decide (r_20_10 > 400))) hb_26 ?_
    refine sN ?_
    refine rg0 hc 1 [(10, I 401)] [] ?_
    refine seqQ_norm ?_
    refine Wp.retN (by kernel_rfl) ?_
    refine blockQ_ret ?_
    refine seqQ_ret ?_
    refine loopQ_ret ?_
    obtain rfl := Option.some.inj h
    exact RetE.ret (fl := [true]) (by kernel_rfl)
   ·refine cF ((decide (r_20_10 > 400))) hb_26 ?_
    refine Wp.skipN (by kernel_rfl) ?_
    refine blockQ_norm ?_
    refine seqQ_norm ?_
    refine rg0 hc 2 [(1, I n1), (2, .fnb 117 [aSystem clo2_0]), (3, .fn 143 [.ptr [I clo3_0.fSize, sI clo3_0.fPlus, sI clo3_0.fTimes, sB clo3_0.fBelow] 0]), (4, I r_20_10), (5, .ra 1 0), (82, .sl (List.map GTerm_S t0.fKids)), (83, I (t0.fKids.length : Int)), (84, I (wr (w_24 + 1)))] [(1, bTerm t0)] ?_
    refine loopQ_norm ?_
    exact (impl_check_Kimpl_Systemhas_Kimpl_isJudgment_c1_l0_ih _ _ h c hc)
  ·refine cF ((decide (w_24 < (t0.fKids.length : Int)))) hb_25 ?_
   refine Wp.exitN (i := 1) (by kernel_rfl) ?_
   refine seqQ_exit ?_
   refine loopQ_exit ?_
   obtain rfl := Option.some.inj h
   exact Into.view (fun a w hv => SRx.renL [] hv (by kernel_rfl) (by kernel_rfl) (by kernel_rfl))
theorem impl_check_Kimpl_Systemhas_Kimpl_isJudgment_c1_s : ∀ p r, impl_check_Kimpl_Systemhas_Kimpl_isJudgment_c1 p = some r → M_impl_check_Kimpl_Systemhas_Kimpl_isJudgment_c1 p r := impl_check_Kimpl_Systemhas_Kimpl_isJudgment_c1_all.1
theorem impl_check_Kimpl_Systemhas_Kimpl_isJudgment_c1_l0_s : ∀ p r, impl_check_Kimpl_Systemhas_Kimpl_isJudgment_c1_l0 p = some r → M_impl_check_Kimpl_Systemhas_Kimpl_isJudgment_c1_l0 p r := impl_check_Kimpl_Systemhas_Kimpl_isJudgment_c1_all.2
def impl_isJudgment_F1 (c : Ctx) (s0 : GSystem) (j1 : GJudgment) : (Unit) ⊕ (Bool) → Exit → AState → Prop
 | .inl _ => Into c (.exit 0) (mkS [(2, .ra 1 0), (3, .ra 2 0)] [(1, bSystem s0), (2, bJudgment j1)])
 | .inr r => RetE TIx Try.f90 [] (.bool r)
def impl_isJudgment_l0 (p : GSystem × GJudgment × Int) : Option ((Unit) ⊕ (Bool)) :=
 match p with
 | (s0, j1, w_8) =>
  if (decide (w_8 < (j1.fCtx.length : Int))) = true then
   (idx j1.fCtx w_8) >>= fun e_5_1 =>
   (
    (impl_isTypeOf (s0, e_5_1)) >>= fun r_6_2 =>
    if r_6_2 = true then
     (idx j1.fBudgets w_8) >>= fun e_6_9 =>
     (impl_Systemhas (s0, e_6_9)) >>= fun r_6_11 =>
     some ((!r_6_11))
    else
     some (true)
   ) >>= fun v_10 =>
   if v_10 = true then
    some (.inr false)
   else
    impl_isJudgment_l0 (s0, j1, (wr (w_8 + 1)))
  else
   some (.inl ())
 partial_fixpoint
def M_impl_isJudgment_l0 (p : GSystem × GJudgment × Int) (fl : (Unit) ⊕ (Bool)) : Prop :=
 match p with
 | (s0, j1, w_8) => ∀ c : Ctx, c.nt = 60 → WpL Try.prog c (cl (cl (cr (cl (cr (cr B90)))))) (impl_isJudgment_F1 c s0 j1 fl) (mkS [(2, .ra 1 0), (3, .ra 2 0), (28, .sl (List.map LI_s j1.fCtx)), (29, I (j1.fCtx.length : Int)), (30, I w_8)] [(1, bSystem s0), (2, bJudgment j1)])
theorem impl_isJudgment_l0_s : ∀ p r, impl_isJudgment_l0 p = some r → M_impl_isJudgment_l0 p r := by
 refine impl_isJudgment_l0.partial_correctness M_impl_isJudgment_l0 ?_
 rintro impl_isJudgment_l0_f impl_isJudgment_l0_ih ⟨s0, j1, w_8⟩ r h
 intro c hc
 show WpL Try.prog c (cl (cl (cr (cl (cr (cr B90)))))) (impl_isJudgment_F1 c s0 j1 r) (mkS [(2, .ra 1 0), (3, .ra 2 0), (28, .sl (List.map LI_s j1.fCtx)), (29, I (j1.fCtx.length : Int)), (30, I w_8)] [(1, bSystem s0), (2, bJudgment j1)])
 refine WpL.step ?_
 refine sN ?_
 refine rg0 hc 1 [(2, .ra 1 0), (3, .ra 2 0), (28, .sl (List.map LI_s j1.fCtx)), (29, I (j1.fCtx.length : Int)), (30, I w_8), (31, .bool (decide (w_8 < (j1.fCtx.length : Int))))] [(1, bSystem s0), (2, bJudgment j1)] ?_
 refine seqQ_norm ?_
 refine sN ?_
 rcases itesome h with ⟨hb_9, h⟩ | ⟨hb_9, h⟩
 ·refine cT ((decide (w_8 < (j1.fCtx.length : Int)))) hb_9 ?_
  refine Wp.skipN (by kernel_rfl) ?_
  refine seqQ_norm ?_
  refine sN ?_
  refine Wp.blockN (i := 1) (by kernel_rfl) ?_
  refine sN ?_
  obtain ⟨e_5_1, hi_5_1, h⟩ := bsome h
  refine rg hc none [oN, some (.el (sI e_5_1)), oN, oN, oN] [(2, .ra 1 0), (3, .ra 2 0), (5, I w_8), (6, sI e_5_1), (28, .sl (List.map LI_s j1.fCtx)), (29, I (j1.fCtx.length : Int)), (30, I w_8)] [(1, bSystem s0), (2, bJudgment j1)] (ai (idx_sl (enc := LI_s) (x := sI e_5_1) hi_5_1 (eq_LI_s e_5_1)) trivial) ?_
  refine seqQ_norm ?_
  refine sN ?_
  obtain ⟨v_10, hj_11, h⟩ := bsome h
  refine Wp.into (x := .normal) (mkS [(2, .ra 1 0), (3, .ra 2 0), (28, .sl (List.map LI_s j1.fCtx)), (29, I (j1.fCtx.length : Int)), (30, I w_8), (48, .bool v_10)] [(1, bSystem s0), (2, bJudgment j1)]) ?_ ?_
  ·replace h := hj_11
   obtain ⟨r_6_2, hr_6_2, h⟩ := bsome h
   rcases itesome h with ⟨hb_6_0, h⟩ | ⟨hb_6_0, h⟩
   ·obtain ⟨e_6_9, hi_6_9, h⟩ := bsome h
    obtain ⟨r_6_11, hr_6_11, h⟩ := bsome h
    refine rg hc ah6_0 [oN, oN, oc (.bool r_6_2), oN, oN, oN, oN, oN, oN, some (.el (I e_6_9)), oN, oc (.bool r_6_11), oN, oF] [(2, .ra 1 0), (3, .ra 2 0), (28, .sl (List.map LI_s j1.fCtx)), (29, I (j1.fCtx.length : Int)), (30, I w_8), (48, .bool (!r_6_11))] [(1, bSystem s0), (2, bJudgment j1)] (ai (impl_isTypeOf_s _ _ hr_6_2) (ai bod_102 (ai (oi (.bool r_6_2)) (ar 5 (nF hb_6_0) (ai (ix hi_6_9) (ar 2 (nF hb_6_0) (ai (impl_Systemhas_s _ _ hr_6_11) (ai bod_117 (ai (oi (.bool r_6_11)) (ar 2 (nF hb_6_0) trivial)))))))))) ?_
    obtain rfl := Option.some.inj h
    exact Into.mk
   ·refine rg hc ah6_0 [oN, oN, oc (.bool r_6_2), oN, oN, o_, o_, o_, o_, o_, o_, o_, o_, oT] [(2, .ra 1 0), (3, .ra 2 0), (28, .sl (List.map LI_s j1.fCtx)), (29, I (j1.fCtx.length : Int)), (30, I w_8), (48, .bool true)] [(1, bSystem s0), (2, bJudgment j1)] (ai (impl_isTypeOf_s _ _ hr_6_2) (ai bod_102 (ai (oi (.bool r_6_2)) (ar 8 (neF (nT hb_6_0)) (ai (nT hb_6_0) trivial))))) ?_
    obtain rfl := Option.some.inj h
    exact Into.mk
  ·clear hj_11
   refine seqQ_norm ?_
   rcases itesome h with ⟨hb_12, h⟩ | ⟨hb_12, h⟩
   ·refine cT v_10 hb_12 ?_
    refine sN ?_
    refine rg0 hc 1 [(4, .bool false)] [] ?_
    refine seqQ_norm ?_
    refine Wp.retN (by kernel_rfl) ?_
    refine blockQ_ret ?_
    refine seqQ_ret ?_
    refine loopQ_ret ?_
    obtain rfl := Option.some.inj h
    exact RetE.ret (fl := [true]) (by kernel_rfl)
   ·refine cF v_10 hb_12 ?_
    refine Wp.skipN (by kernel_rfl) ?_
    refine blockQ_norm ?_
    refine seqQ_norm ?_
    refine rg0 hc 2 [(2, .ra 1 0), (3, .ra 2 0), (28, .sl (List.map LI_s j1.fCtx)), (29, I (j1.fCtx.length : Int)), (30, I (wr (w_8 + 1)))] [(1, bSystem s0), (2, bJudgment j1)] ?_
    refine loopQ_norm ?_
    exact (impl_isJudgment_l0_ih _ _ h c hc)
 ·refine cF ((decide (w_8 < (j1.fCtx.length : Int)))) hb_9 ?_
  refine Wp.exitN (i := 0) (by kernel_rfl) ?_
  refine seqQ_exit ?_
  refine loopQ_exit ?_
  obtain rfl := Option.some.inj h
  exact Into.view (fun a w hv => SRx.renL [] hv (by kernel_rfl) (by kernel_rfl) (by kernel_rfl))
def impl_isJudgment (p : GSystem × GJudgment) : Option (Bool) :=
 match p with
 | (s0, j1) =>
  (
   if (decide ((j1.fCtx.length : Int) > 400)) = true then
    some (true)
   else
    if ((j1.fBudgets.length : Int) != (j1.fCtx.length : Int)) = true then
     some (true)
    else
     (impl_isTypeOf (s0, j1.fType)) >>= fun r_1_17 =>
     some ((!r_1_17))
  ) >>= fun v_1 =>
  if v_1 = true then
   some false
  else
   (impl_isJudgment_l0 (s0, j1, 0)) >>= fun fl => match fl with
   | .inl () =>
    (impl_check_Kimpl_Systemhas_Kimpl_isJudgment_c1 (j1.fTerm, (j1.fCtx.length : Int), s0, s0, 0)) >>= fun r_9_8 =>
    some (decide (r_9_8 ≤ 400))
   | .inr r =>
    some r
def M_impl_isJudgment (p : GSystem × GJudgment) (r : Bool) : Prop :=
 match p with
 | (s0, j1) => FnSound Try.prog 90 [aSystem s0, aJudgment j1] (.bool r) []
theorem impl_isJudgment_s : ∀ p r, impl_isJudgment p = some r → M_impl_isJudgment p r := by
 rintro ⟨s0, j1⟩ r h
 unfold impl_isJudgment at h
 show FnSound Try.prog 90 [aSystem s0, aJudgment j1] (.bool r) []
 refine FnSound.body0 tiok (fn := Try.f90) (code := B90) (by kernel_rfl) (by kernel_rfl) (by kernel_rfl) (by kernel_rfl) (nt := 60) (by kernel_rfl) (by kernel_rfl) (T := [(0, aSystem s0), (1, aJudgment j1)]) (O := []) (by kernel_rfl) (by kernel_rfl) (fun c hc => ?_)
 refine sN ?_
 refine rg hc none [some (.new 1), some (.new 2), oN] [(2, .ra 1 0), (3, .ra 2 0)] [(1, bSystem s0), (2, bJudgment j1)] trivial ?_
 refine seqQ_norm ?_
 refine sN ?_
 refine sN ?_
 obtain ⟨v_1, hj_2, h⟩ := bsome h
 refine Wp.into (x := .normal) (mkS [(2, .ra 1 0), (3, .ra 2 0), (26, .bool v_1)] [(1, bSystem s0), (2, bJudgment j1)]) ?_ ?_
 ·replace h := hj_2
  rcases itesome h with ⟨hb_1_0, h⟩ | ⟨hb_1_0, h⟩
  ·refine rg hc none [oN, oN, some (.eqv (.no) ⟨[(9, I (j1.fCtx.length : Int))], [], []⟩), oN, oN, o_, o_, o_, o_, o_, o_, o_, oT, oN, o_, o_, o_, o_, o_, oT] [(2, .ra 1 0), (3, .ra 2 0), (26, .bool true)] [(1, bSystem s0), (2, bJudgment j1)] (ai (lenT (d := 9) LI_s j1.fCtx) (ar 7 (neF hb_1_0) (ai hb_1_0 (ar 5 nf (ai tt trivial))))) ?_
   obtain rfl := Option.some.inj h
   exact Into.mk
  ·rcases itesome h with ⟨hb_1_1, h⟩ | ⟨hb_1_1, h⟩
   ·refine rg hc none [oN, oN, some (.eqv (.no) ⟨[(9, I (j1.fCtx.length : Int))], [], []⟩), oN, oN, oN, oN, some (.eqv (.no) ⟨[(14, I (j1.fBudgets.length : Int))], [], []⟩), oN, oN, some (.eqv (.no) ⟨[(17, I (j1.fCtx.length : Int))], [], []⟩), oN, oF, oN, o_, o_, o_, o_, o_, oT] [(2, .ra 1 0), (3, .ra 2 0), (26, .bool true)] [(1, bSystem s0), (2, bJudgment j1)] (ai (lenT (d := 9) LI_s j1.fCtx) (ar 3 hb_1_0 (ai (lenT (d := 14) I j1.fBudgets) (ar 3 hb_1_0 (ai (lenT (d := 17) LI_s j1.fCtx) (ar 2 hb_1_0 (ar 5 (neF hb_1_1) (ai hb_1_1 trivial)))))))) ?_
    obtain rfl := Option.some.inj h
    exact Into.mk
   ·obtain ⟨r_1_17, hr_1_17, h⟩ := bsome h
    refine rg hc none [oN, oN, some (.eqv (.no) ⟨[(9, I (j1.fCtx.length : Int))], [], []⟩), oN, oN, oN, oN, some (.eqv (.no) ⟨[(14, I (j1.fBudgets.length : Int))], [], []⟩), oN, oN, some (.eqv (.no) ⟨[(17, I (j1.fCtx.length : Int))], [], []⟩), oN, oF, oN, oN, oN, oN, oc (.bool r_1_17), oN, oF] [(2, .ra 1 0), (3, .ra 2 0), (26, .bool (!r_1_17))] [(1, bSystem s0), (2, bJudgment j1)] (ai (lenT (d := 9) LI_s j1.fCtx) (ar 3 hb_1_0 (ai (lenT (d := 14) I j1.fBudgets) (ar 3 hb_1_0 (ai (lenT (d := 17) LI_s j1.fCtx) (ar 2 hb_1_0 (ar 4 hb_1_1 (ai (impl_isTypeOf_s _ _ hr_1_17) (ai bod_102 (ai (oi (.bool r_1_17)) (ar 2 hb_1_1 trivial))))))))))) ?_
    obtain rfl := Option.some.inj h
    exact Into.mk
 ·clear hj_2
  refine seqQ_norm ?_
  rcases itesome h with ⟨hb_3, h⟩ | ⟨hb_3, h⟩
  ·refine cT v_1 hb_3 ?_
   refine sN ?_
   refine rg0 hc 1 [(4, .bool false)] [] ?_
   refine seqQ_norm ?_
   refine Wp.retN (by kernel_rfl) ?_
   refine seqQ_ret ?_
   obtain rfl := Option.some.inj h
   exact RetQ.ret (fl := [true]) (by kernel_rfl)
  ·refine cF v_1 hb_3 ?_
   refine Wp.skipN (by kernel_rfl) ?_
   refine seqQ_norm ?_
   refine sN ?_
   refine sN ?_
   refine rg hc none [oN, oN, some (.eqv (.no) ⟨[(29, I (j1.fCtx.length : Int))], [], []⟩), oN] [(2, .ra 1 0), (3, .ra 2 0), (28, .sl (List.map LI_s j1.fCtx)), (29, I (j1.fCtx.length : Int)), (30, I 0)] [(1, bSystem s0), (2, bJudgment j1)] (ai (lenT (d := 29) LI_s j1.fCtx) trivial) ?_
   refine seqQ_norm ?_
   refine Wp.blockN (i := 0) (by kernel_rfl) ?_
   obtain ⟨fl, hl_13, h⟩ := bsome h
   have hL := impl_isJudgment_l0_s _ _ hl_13 c hc
   refine Wp.loopN (by kernel_rfl) ?_
   rcases fl with ⟨⟩ | r
   ·refine WpL.into (e := (.exit 0)) (mkS [(2, .ra 1 0), (3, .ra 2 0)] [(1, bSystem s0), (2, bJudgment j1)]) hL ?_
    refine blockQ_hit ?_
    refine seqQ_norm ?_
    refine sN ?_
    obtain ⟨r_9_8, hr_9_8, h⟩ := bsome h
    refine rg hc none [oN, oN, oN, oN, some (.eqv (.no) ⟨[(54, I (j1.fCtx.length : Int))], [], []⟩), oN, oN, oN, oc (I r_9_8), oN, oN] [(4, .bool (decide (r_9_8 ≤ 400)))] [] (ai (lenT (d := 54) LI_s j1.fCtx) (ai (impl_check_Kimpl_Systemhas_Kimpl_isJudgment_c1_s _ _ hr_9_8) (ai bod_142 (ai (Or.inr rfl : ([1] : List Nat) = [] ∨ noSh (I r_9_8) = true) trivial)))) ?_
    refine seqQ_norm ?_
    refine Wp.retN (by kernel_rfl) ?_
    obtain rfl := Option.some.inj h
    exact RetQ.ret (fl := [true]) (by kernel_rfl)
   ·refine WpL.mono hL ?_
    rintro _ _ ⟨rfl, hfin⟩
    refine blockQ_ret ?_
    refine seqQ_ret ?_
    obtain rfl := Option.some.inj h
    exact ⟨.inl rfl, hfin⟩
def impl_IsJudgment (p : GSystem × GJudgment) : Option (Bool) :=
 match p with
 | (s0, j1) =>
  (
   (impl_IsSystem s0) >>= fun r_1_1 =>
   if r_1_1 = true then
    (impl_isJudgment (s0, j1)) >>= fun r_1_5 =>
    some (r_1_5)
   else
    some (false)
  ) >>= fun v_1 =>
  some v_1
def M_impl_IsJudgment (p : GSystem × GJudgment) (r : Bool) : Prop :=
 match p with
 | (s0, j1) => FnSound Try.prog 38 [aSystem s0, aJudgment j1] (.bool r) []
theorem impl_IsJudgment_s : ∀ p r, impl_IsJudgment p = some r → M_impl_IsJudgment p r := by
 rintro ⟨s0, j1⟩ r h
 unfold impl_IsJudgment at h
 show FnSound Try.prog 38 [aSystem s0, aJudgment j1] (.bool r) []
 refine FnSound.body0 tiok (fn := Try.f38) (code := B38) (by kernel_rfl) (by kernel_rfl) (by kernel_rfl) (by kernel_rfl) (nt := 12) (by kernel_rfl) (by kernel_rfl) (T := [(0, aSystem s0), (1, aJudgment j1)]) (O := []) (by kernel_rfl) (by kernel_rfl) (fun c hc => ?_)
 refine sN ?_
 refine rg hc none [some (.new 1), some (.new 2), oN] [(2, .ra 1 0), (3, .ra 2 0)] [(1, bSystem s0), (2, bJudgment j1)] trivial ?_
 refine seqQ_norm ?_
 refine sN ?_
 obtain ⟨v_1, hj_2, h⟩ := bsome h
 refine Wp.into (x := .normal) (mkS [(4, .bool v_1)] []) ?_ ?_
 ·replace h := hj_2
  obtain ⟨r_1_1, hr_1_1, h⟩ := bsome h
  rcases itesome h with ⟨hb_1_0, h⟩ | ⟨hb_1_0, h⟩
  ·obtain ⟨r_1_5, hr_1_5, h⟩ := bsome h
   refine rg hc none [oN, oc (.bool r_1_1), oN, oN, oN, oc (.bool r_1_5), oT, oN] [(4, .bool r_1_5)] [] (ai (impl_IsSystem_s _ _ hr_1_1) (ai bod_89 (ai (oi (.bool r_1_1)) (ar 3 hb_1_0 (ai (impl_isJudgment_s _ _ hr_1_5) (ai bod_90 (ai (oi (.bool r_1_5)) (ai hb_1_0 trivial)))))))) ?_
   obtain rfl := Option.some.inj h
   exact Into.mk
  ·refine rg hc none [oN, oc (.bool r_1_1), oN, o_, o_, o_, oF, oN] [(4, .bool false)] [] (ai (impl_IsSystem_s _ _ hr_1_1) (ai bod_89 (ai (oi (.bool r_1_1)) (ar 3 (neT hb_1_0) (ai hb_1_0 trivial))))) ?_
   obtain rfl := Option.some.inj h
   exact Into.mk
 ·clear hj_2
  refine seqQ_norm ?_
  refine Wp.retN (by kernel_rfl) ?_
  obtain rfl := Option.some.inj h
  exact RetQ.ret (fl := [true]) (by kernel_rfl)
def laws_eqIntS_F1 (c : Ctx) : (Unit) ⊕ (Bool) → Exit → AState → Prop
 | .inl _ => Into c (.exit 0) (mkS [] [])
 | .inr r => RetE TIx Try.f18 [] (.bool r)
def laws_eqIntS_l0 (p : (List Int) × (List Int) × Int) : Option ((Unit) ⊕ (Bool)) :=
 match p with
 | (a0, b1, i_4) =>
  if (decide (i_4 < (a0.length : Int))) = true then
   (idx a0 i_4) >>= fun e_6_2 =>
   (idx b1 i_4) >>= fun e_6_6 =>
   if (e_6_2 != e_6_6) = true then
    some (.inr false)
   else
    laws_eqIntS_l0 (a0, b1, (wr (i_4 + 1)))
  else
   some (.inl ())
 partial_fixpoint
def M_laws_eqIntS_l0 (p : (List Int) × (List Int) × Int) (fl : (Unit) ⊕ (Bool)) : Prop :=
 match p with
 | (a0, b1, i_4) => ∀ c : Ctx, c.nt = 26 → WpL Try.prog c (cl (cl (cr (cl (cr (cr B18)))))) (laws_eqIntS_F1 c fl) (mkS [(0, sI a0), (1, sI b1), (5, I i_4)] [])
theorem laws_eqIntS_l0_s : ∀ p r, laws_eqIntS_l0 p = some r → M_laws_eqIntS_l0 p r := by
 refine laws_eqIntS_l0.partial_correctness M_laws_eqIntS_l0 ?_
 rintro laws_eqIntS_l0_f laws_eqIntS_l0_ih ⟨a0, b1, i_4⟩ r h
 intro c hc
 show WpL Try.prog c (cl (cl (cr (cl (cr (cr B18)))))) (laws_eqIntS_F1 c r) (mkS [(0, sI a0), (1, sI b1), (5, I i_4)] [])
 refine WpL.step ?_
 refine sN ?_
 refine sN ?_
 refine rg hc none [oN, oN, some (.eqv (.no) ⟨[(13, I (a0.length : Int))], [], []⟩), oN] [(0, sI a0), (1, sI b1), (5, I i_4), (14, .bool (decide (i_4 < (a0.length : Int))))] [] (ai (lenT (d := 13) I a0) trivial) ?_
 refine seqQ_norm ?_
 rcases itesome h with ⟨hb_5, h⟩ | ⟨hb_5, h⟩
 ·refine cT ((decide (i_4 < (a0.length : Int)))) hb_5 ?_
  refine Wp.skipN (by kernel_rfl) ?_
  refine seqQ_norm ?_
  refine sN ?_
  refine Wp.blockN (i := 1) (by kernel_rfl) ?_
  refine sN ?_
  obtain ⟨e_6_2, hi_6_2, h⟩ := bsome h
  obtain ⟨e_6_6, hi_6_6, h⟩ := bsome h
  refine rg hc ah6_1 [oN, oN, some (.el (I e_6_2)), oN, oN, oN, some (.el (I e_6_6)), oN, oN] [(0, sI a0), (1, sI b1), (5, I i_4), (25, .bool (e_6_2 != e_6_6))] [] (ai (ix hi_6_2) (ai (ix hi_6_6) trivial)) ?_
  refine seqQ_norm ?_
  rcases itesome h with ⟨hb_6, h⟩ | ⟨hb_6, h⟩
  ·refine cT ((e_6_2 != e_6_6)) hb_6 ?_
   refine sN ?_
   refine rg0 hc 1 [(4, .bool false)] [] ?_
   refine seqQ_norm ?_
   refine Wp.retN (by kernel_rfl) ?_
   refine blockQ_ret ?_
   refine seqQ_ret ?_
   refine loopQ_ret ?_
   obtain rfl := Option.some.inj h
   exact RetE.ret (fl := [true]) (by kernel_rfl)
  ·refine cF ((e_6_2 != e_6_6)) hb_6 ?_
   refine Wp.skipN (by kernel_rfl) ?_
   refine blockQ_norm ?_
   refine seqQ_norm ?_
   refine rg0 hc 3 [(0, sI a0), (1, sI b1), (5, I (wr (i_4 + 1)))] [] ?_
   refine loopQ_norm ?_
   exact (laws_eqIntS_l0_ih _ _ h c hc)
 ·refine cF ((decide (i_4 < (a0.length : Int)))) hb_5 ?_
  refine Wp.exitN (i := 0) (by kernel_rfl) ?_
  refine seqQ_exit ?_
  refine loopQ_exit ?_
  obtain rfl := Option.some.inj h
  exact Into.view (fun a w hv => SRx.renL [] hv (by kernel_rfl) (by kernel_rfl) (by kernel_rfl))
def laws_eqIntS (p : (List Int) × (List Int)) : Option (Bool) :=
 match p with
 | (a0, b1) =>
  if ((a0.length : Int) != (b1.length : Int)) = true then
   some false
  else
   (laws_eqIntS_l0 (a0, b1, 0)) >>= fun fl => match fl with
   | .inl () =>
    some true
   | .inr r =>
    some r
def M_laws_eqIntS (p : (List Int) × (List Int)) (r : Bool) : Prop :=
 match p with
 | (a0, b1) => FnSound Try.prog 18 [sI a0, sI b1] (.bool r) []
theorem laws_eqIntS_s : ∀ p r, laws_eqIntS p = some r → M_laws_eqIntS p r := by
 rintro ⟨a0, b1⟩ r h
 unfold laws_eqIntS at h
 show FnSound Try.prog 18 [sI a0, sI b1] (.bool r) []
 refine FnSound.body0 tiok (fn := Try.f18) (code := B18) (by kernel_rfl) (by kernel_rfl) (by kernel_rfl) (by kernel_rfl) (nt := 26) (by kernel_rfl) (by kernel_rfl) (T := [(0, sI a0), (1, sI b1)]) (O := []) (by kernel_rfl) (by kernel_rfl) (fun c hc => ?_)
 refine sN ?_
 refine rg0 hc 1 [(0, sI a0), (1, sI b1)] [] ?_
 refine seqQ_norm ?_
 refine sN ?_
 refine sN ?_
 refine rg hc none [oN, some (.eqv (.no) ⟨[(7, I (a0.length : Int))], [], []⟩), oN, some (.eqv (.no) ⟨[(9, I (b1.length : Int))], [], []⟩), oN] [(0, sI a0), (1, sI b1), (10, .bool ((a0.length : Int) != (b1.length : Int)))] [] (ai (lenT (d := 7) I a0) (ai (lenT (d := 9) I b1) trivial)) ?_
 refine seqQ_norm ?_
 rcases itesome h with ⟨hb_1, h⟩ | ⟨hb_1, h⟩
 ·refine cT (((a0.length : Int) != (b1.length : Int))) hb_1 ?_
  refine sN ?_
  refine rg0 hc 1 [(4, .bool false)] [] ?_
  refine seqQ_norm ?_
  refine Wp.retN (by kernel_rfl) ?_
  refine seqQ_ret ?_
  obtain rfl := Option.some.inj h
  exact RetQ.ret (fl := [true]) (by kernel_rfl)
 ·refine cF (((a0.length : Int) != (b1.length : Int))) hb_1 ?_
  refine Wp.skipN (by kernel_rfl) ?_
  refine seqQ_norm ?_
  refine sN ?_
  refine sN ?_
  refine rg0 hc 1 [(0, sI a0), (1, sI b1), (5, I 0)] [] ?_
  refine seqQ_norm ?_
  refine Wp.blockN (i := 0) (by kernel_rfl) ?_
  obtain ⟨fl, hl_7, h⟩ := bsome h
  have hL := laws_eqIntS_l0_s _ _ hl_7 c hc
  refine Wp.loopN (by kernel_rfl) ?_
  rcases fl with ⟨⟩ | r
  ·refine WpL.into (e := (.exit 0)) (mkS [] []) hL ?_
   refine blockQ_hit ?_
   refine seqQ_norm ?_
   refine sN ?_
   refine rg0 hc 1 [(4, .bool true)] [] ?_
   refine seqQ_norm ?_
   refine Wp.retN (by kernel_rfl) ?_
   obtain rfl := Option.some.inj h
   exact RetQ.ret (fl := [true]) (by kernel_rfl)
  ·refine WpL.mono hL ?_
   rintro _ _ ⟨rfl, hfin⟩
   refine blockQ_ret ?_
   refine seqQ_ret ?_
   obtain rfl := Option.some.inj h
   exact ⟨.inl rfl, hfin⟩
def laws_eqBoolS_F1 (c : Ctx) : (Unit) ⊕ (Bool) → Exit → AState → Prop
 | .inl _ => Into c (.exit 0) (mkS [] [])
 | .inr r => RetE TIx Try.f50 [] (.bool r)
def laws_eqBoolS_l0 (p : (List Bool) × (List Bool) × Int) : Option ((Unit) ⊕ (Bool)) :=
 match p with
 | (a0, b1, i_4) =>
  if (decide (i_4 < (a0.length : Int))) = true then
   (idx a0 i_4) >>= fun e_6_2 =>
   (idx b1 i_4) >>= fun e_6_6 =>
   if (e_6_2 == e_6_6) = true then
    laws_eqBoolS_l0 (a0, b1, (wr (i_4 + 1)))
   else
    some (.inr false)
  else
   some (.inl ())
 partial_fixpoint
def M_laws_eqBoolS_l0 (p : (List Bool) × (List Bool) × Int) (fl : (Unit) ⊕ (Bool)) : Prop :=
 match p with
 | (a0, b1, i_4) => ∀ c : Ctx, c.nt = 26 → WpL Try.prog c (cl (cl (cr (cl (cr (cr B50)))))) (laws_eqBoolS_F1 c fl) (mkS [(0, sB a0), (1, sB b1), (5, I i_4)] [])
theorem laws_eqBoolS_l0_s : ∀ p r, laws_eqBoolS_l0 p = some r → M_laws_eqBoolS_l0 p r := by
 refine laws_eqBoolS_l0.partial_correctness M_laws_eqBoolS_l0 ?_
 rintro laws_eqBoolS_l0_f laws_eqBoolS_l0_ih ⟨a0, b1, i_4⟩ r h
 intro c hc
 show WpL Try.prog c (cl (cl (cr (cl (cr (cr B50)))))) (laws_eqBoolS_F1 c r) (mkS [(0, sB a0), (1, sB b1), (5, I i_4)] [])
 refine WpL.step ?_
 refine sN ?_
 refine sN ?_
 refine rg hc none [oN, oN, some (.eqv (.no) ⟨[(13, I (a0.length : Int))], [], []⟩), oN] [(0, sB a0), (1, sB b1), (5, I i_4), (14, .bool (decide (i_4 < (a0.length : Int))))] [] (ai (lenT (d := 13) AV.bool a0) trivial) ?_
 refine seqQ_norm ?_
 rcases itesome h with ⟨hb_5, h⟩ | ⟨hb_5, h⟩
 ·refine cT ((decide (i_4 < (a0.length : Int)))) hb_5 ?_
  refine Wp.skipN (by kernel_rfl) ?_
  refine seqQ_norm ?_
  refine sN ?_
  refine Wp.blockN (i := 1) (by kernel_rfl) ?_
  refine sN ?_
  obtain ⟨e_6_2, hi_6_2, h⟩ := bsome h
  obtain ⟨e_6_6, hi_6_6, h⟩ := bsome h
  refine rg hc ah6_1 [oN, oN, some (.el (.bool e_6_2)), oN, oN, oN, some (.el (.bool e_6_6)), oN, oN] [(0, sB a0), (1, sB b1), (5, I i_4), (25, .bool (!(e_6_2 == e_6_6)))] [] (ai (idx_sl (enc := AV.bool) (x := .bool e_6_2) hi_6_2 (eq_B e_6_2)) (ai (idx_sl (enc := AV.bool) (x := .bool e_6_6) hi_6_6 (eq_B e_6_6)) trivial)) ?_
  refine seqQ_norm ?_
  rcases itesome h with ⟨hb_6, h⟩ | ⟨hb_6, h⟩
  ·refine cF ((!(e_6_2 == e_6_6))) (nF hb_6) ?_
   refine Wp.skipN (by kernel_rfl) ?_
   refine blockQ_norm ?_
   refine seqQ_norm ?_
   refine rg0 hc 3 [(0, sB a0), (1, sB b1), (5, I (wr (i_4 + 1)))] [] ?_
   refine loopQ_norm ?_
   exact (laws_eqBoolS_l0_ih _ _ h c hc)
  ·refine cT ((!(e_6_2 == e_6_6))) (nT hb_6) ?_
   refine sN ?_
   refine rg0 hc 1 [(4, .bool false)] [] ?_
   refine seqQ_norm ?_
   refine Wp.retN (by kernel_rfl) ?_
   refine blockQ_ret ?_
   refine seqQ_ret ?_
   refine loopQ_ret ?_
   obtain rfl := Option.some.inj h
   exact RetE.ret (fl := [true]) (by kernel_rfl)
 ·refine cF ((decide (i_4 < (a0.length : Int)))) hb_5 ?_
  refine Wp.exitN (i := 0) (by kernel_rfl) ?_
  refine seqQ_exit ?_
  refine loopQ_exit ?_
  obtain rfl := Option.some.inj h
  exact Into.view (fun a w hv => SRx.renL [] hv (by kernel_rfl) (by kernel_rfl) (by kernel_rfl))
def laws_eqBoolS (p : (List Bool) × (List Bool)) : Option (Bool) :=
 match p with
 | (a0, b1) =>
  if ((a0.length : Int) != (b1.length : Int)) = true then
   some false
  else
   (laws_eqBoolS_l0 (a0, b1, 0)) >>= fun fl => match fl with
   | .inl () =>
    some true
   | .inr r =>
    some r
def M_laws_eqBoolS (p : (List Bool) × (List Bool)) (r : Bool) : Prop :=
 match p with
 | (a0, b1) => FnSound Try.prog 50 [sB a0, sB b1] (.bool r) []
theorem laws_eqBoolS_s : ∀ p r, laws_eqBoolS p = some r → M_laws_eqBoolS p r := by
 rintro ⟨a0, b1⟩ r h
 unfold laws_eqBoolS at h
 show FnSound Try.prog 50 [sB a0, sB b1] (.bool r) []
 refine FnSound.body0 tiok (fn := Try.f50) (code := B50) (by kernel_rfl) (by kernel_rfl) (by kernel_rfl) (by kernel_rfl) (nt := 26) (by kernel_rfl) (by kernel_rfl) (T := [(0, sB a0), (1, sB b1)]) (O := []) (by kernel_rfl) (by kernel_rfl) (fun c hc => ?_)
 refine sN ?_
 refine rg0 hc 1 [(0, sB a0), (1, sB b1)] [] ?_
 refine seqQ_norm ?_
 refine sN ?_
 refine sN ?_
 refine rg hc none [oN, some (.eqv (.no) ⟨[(7, I (a0.length : Int))], [], []⟩), oN, some (.eqv (.no) ⟨[(9, I (b1.length : Int))], [], []⟩), oN] [(0, sB a0), (1, sB b1), (10, .bool ((a0.length : Int) != (b1.length : Int)))] [] (ai (lenT (d := 7) AV.bool a0) (ai (lenT (d := 9) AV.bool b1) trivial)) ?_
 refine seqQ_norm ?_
 rcases itesome h with ⟨hb_1, h⟩ | ⟨hb_1, h⟩
 ·refine cT (((a0.length : Int) != (b1.length : Int))) hb_1 ?_
  refine sN ?_
  refine rg0 hc 1 [(4, .bool false)] [] ?_
  refine seqQ_norm ?_
  refine Wp.retN (by kernel_rfl) ?_
  refine seqQ_ret ?_
  obtain rfl := Option.some.inj h
  exact RetQ.ret (fl := [true]) (by kernel_rfl)
 ·refine cF (((a0.length : Int) != (b1.length : Int))) hb_1 ?_
  refine Wp.skipN (by kernel_rfl) ?_
  refine seqQ_norm ?_
  refine sN ?_
  refine sN ?_
  refine rg0 hc 1 [(0, sB a0), (1, sB b1), (5, I 0)] [] ?_
  refine seqQ_norm ?_
  refine Wp.blockN (i := 0) (by kernel_rfl) ?_
  obtain ⟨fl, hl_7, h⟩ := bsome h
  have hL := laws_eqBoolS_l0_s _ _ hl_7 c hc
  refine Wp.loopN (by kernel_rfl) ?_
  rcases fl with ⟨⟩ | r
  ·refine WpL.into (e := (.exit 0)) (mkS [] []) hL ?_
   refine blockQ_hit ?_
   refine seqQ_norm ?_
   refine sN ?_
   refine rg0 hc 1 [(4, .bool true)] [] ?_
   refine seqQ_norm ?_
   refine Wp.retN (by kernel_rfl) ?_
   obtain rfl := Option.some.inj h
   exact RetQ.ret (fl := [true]) (by kernel_rfl)
  ·refine WpL.mono hL ?_
   rintro _ _ ⟨rfl, hfin⟩
   refine blockQ_ret ?_
   refine seqQ_ret ?_
   obtain rfl := Option.some.inj h
   exact ⟨.inl rfl, hfin⟩
def laws_eqSystem (p : GSystem × GSystem) : Option (Bool) :=
 match p with
 | (a0, b1) =>
  if (a0.fSize != b1.fSize) = true then
   some false
  else
   (laws_eqIntS (a0.fPlus, b1.fPlus)) >>= fun r_3_4 =>
   if r_3_4 = true then
    (laws_eqIntS (a0.fTimes, b1.fTimes)) >>= fun r_5_4 =>
    if r_5_4 = true then
     (laws_eqBoolS (a0.fBelow, b1.fBelow)) >>= fun r_7_4 =>
     if r_7_4 = true then
      some true
     else
      some false
    else
     some false
   else
    some false
def M_laws_eqSystem (p : GSystem × GSystem) (r : Bool) : Prop :=
 match p with
 | (a0, b1) => FnSound Try.prog 17 [aSystem a0, aSystem b1] (.bool r) []
theorem laws_eqSystem_s : ∀ p r, laws_eqSystem p = some r → M_laws_eqSystem p r := by
 rintro ⟨a0, b1⟩ r h
 unfold laws_eqSystem at h
 show FnSound Try.prog 17 [aSystem a0, aSystem b1] (.bool r) []
 refine FnSound.body0 tiok (fn := Try.f17) (code := B17) (by kernel_rfl) (by kernel_rfl) (by kernel_rfl) (by kernel_rfl) (nt := 28) (by kernel_rfl) (by kernel_rfl) (T := [(0, aSystem a0), (1, aSystem b1)]) (O := []) (by kernel_rfl) (by kernel_rfl) (fun c hc => ?_)
 refine sN ?_
 refine rg hc none [some (.new 1), some (.new 2), oN] [(2, .ra 1 0), (3, .ra 2 0)] [(1, bSystem a0), (2, bSystem b1)] trivial ?_
 refine seqQ_norm ?_
 refine sN ?_
 refine sN ?_
 refine rg0 hc 5 [(2, .ra 1 0), (3, .ra 2 0), (9, .bool (a0.fSize != b1.fSize))] [(1, bSystem a0), (2, bSystem b1)] ?_
 refine seqQ_norm ?_
 rcases itesome h with ⟨hb_1, h⟩ | ⟨hb_1, h⟩
 ·refine cT ((a0.fSize != b1.fSize)) hb_1 ?_
  refine sN ?_
  refine rg0 hc 1 [(4, .bool false)] [] ?_
  refine seqQ_norm ?_
  refine Wp.retN (by kernel_rfl) ?_
  refine seqQ_ret ?_
  obtain rfl := Option.some.inj h
  exact RetQ.ret (fl := [true]) (by kernel_rfl)
 ·refine cF ((a0.fSize != b1.fSize)) hb_1 ?_
  refine Wp.skipN (by kernel_rfl) ?_
  refine seqQ_norm ?_
  refine sN ?_
  refine sN ?_
  obtain ⟨r_3_4, hr_3_4, h⟩ := bsome h
  refine rg hc none [oN, oN, oN, oN, oc (.bool r_3_4), oN] [(2, .ra 1 0), (3, .ra 2 0), (15, .bool (!r_3_4))] [(1, bSystem a0), (2, bSystem b1)] (ai (laws_eqIntS_s _ _ hr_3_4) (ai bod_18 (ai (oi (.bool r_3_4)) trivial))) ?_
  refine seqQ_norm ?_
  rcases itesome h with ⟨hb_2, h⟩ | ⟨hb_2, h⟩
  ·refine cF (!r_3_4) (nF hb_2) ?_
   refine Wp.skipN (by kernel_rfl) ?_
   refine seqQ_norm ?_
   refine sN ?_
   refine sN ?_
   obtain ⟨r_5_4, hr_5_4, h⟩ := bsome h
   refine rg hc none [oN, oN, oN, oN, oc (.bool r_5_4), oN] [(2, .ra 1 0), (3, .ra 2 0), (21, .bool (!r_5_4))] [(1, bSystem a0), (2, bSystem b1)] (ai (laws_eqIntS_s _ _ hr_5_4) (ai bod_18 (ai (oi (.bool r_5_4)) trivial))) ?_
   refine seqQ_norm ?_
   rcases itesome h with ⟨hb_3, h⟩ | ⟨hb_3, h⟩
   ·refine cF (!r_5_4) (nF hb_3) ?_
    refine Wp.skipN (by kernel_rfl) ?_
    refine seqQ_norm ?_
    refine sN ?_
    refine sN ?_
    obtain ⟨r_7_4, hr_7_4, h⟩ := bsome h
    refine rg hc none [oN, oN, oN, oN, oc (.bool r_7_4), oN] [(27, .bool (!r_7_4))] [] (ai (laws_eqBoolS_s _ _ hr_7_4) (ai bod_50 (ai (oi (.bool r_7_4)) trivial))) ?_
    refine seqQ_norm ?_
    rcases itesome h with ⟨hb_4, h⟩ | ⟨hb_4, h⟩
    ·refine cF (!r_7_4) (nF hb_4) ?_
     refine Wp.skipN (by kernel_rfl) ?_
     refine seqQ_norm ?_
     refine sN ?_
     refine rg0 hc 1 [(4, .bool true)] [] ?_
     refine seqQ_norm ?_
     refine Wp.retN (by kernel_rfl) ?_
     obtain rfl := Option.some.inj h
     exact RetQ.ret (fl := [true]) (by kernel_rfl)
    ·refine cT (!r_7_4) (nT hb_4) ?_
     refine sN ?_
     refine rg0 hc 1 [(4, .bool false)] [] ?_
     refine seqQ_norm ?_
     refine Wp.retN (by kernel_rfl) ?_
     refine seqQ_ret ?_
     obtain rfl := Option.some.inj h
     exact RetQ.ret (fl := [true]) (by kernel_rfl)
   ·refine cT (!r_5_4) (nT hb_3) ?_
    refine sN ?_
    refine rg0 hc 1 [(4, .bool false)] [] ?_
    refine seqQ_norm ?_
    refine Wp.retN (by kernel_rfl) ?_
    refine seqQ_ret ?_
    obtain rfl := Option.some.inj h
    exact RetQ.ret (fl := [true]) (by kernel_rfl)
  ·refine cT (!r_3_4) (nT hb_2) ?_
   refine sN ?_
   refine rg0 hc 1 [(4, .bool false)] [] ?_
   refine seqQ_norm ?_
   refine Wp.retN (by kernel_rfl) ?_
   refine seqQ_ret ?_
   obtain rfl := Option.some.inj h
   exact RetQ.ret (fl := [true]) (by kernel_rfl)
def laws_eqIntSS_F1 (c : Ctx) : (Unit) ⊕ (Bool) → Exit → AState → Prop
 | .inl _ => Into c (.exit 0) (mkS [] [])
 | .inr r => RetE TIx Try.f91 [] (.bool r)
def laws_eqIntSS_l0 (p : (List (List Int)) × (List (List Int)) × Int) : Option ((Unit) ⊕ (Bool)) :=
 match p with
 | (a0, b1, i_4) =>
  if (decide (i_4 < (a0.length : Int))) = true then
   (idx a0 i_4) >>= fun e_6_2 =>
   (idx b1 i_4) >>= fun e_6_6 =>
   (laws_eqIntS (e_6_2, e_6_6)) >>= fun r_6_8 =>
   if r_6_8 = true then
    laws_eqIntSS_l0 (a0, b1, (wr (i_4 + 1)))
   else
    some (.inr false)
  else
   some (.inl ())
 partial_fixpoint
def M_laws_eqIntSS_l0 (p : (List (List Int)) × (List (List Int)) × Int) (fl : (Unit) ⊕ (Bool)) : Prop :=
 match p with
 | (a0, b1, i_4) => ∀ c : Ctx, c.nt = 27 → WpL Try.prog c (cl (cl (cr (cl (cr (cr B91)))))) (laws_eqIntSS_F1 c fl) (mkS [(0, .sl (List.map LI_s a0)), (1, .sl (List.map LI_s b1)), (5, I i_4)] [])
theorem laws_eqIntSS_l0_s : ∀ p r, laws_eqIntSS_l0 p = some r → M_laws_eqIntSS_l0 p r := by
 refine laws_eqIntSS_l0.partial_correctness M_laws_eqIntSS_l0 ?_
 rintro laws_eqIntSS_l0_f laws_eqIntSS_l0_ih ⟨a0, b1, i_4⟩ r h
 intro c hc
 show WpL Try.prog c (cl (cl (cr (cl (cr (cr B91)))))) (laws_eqIntSS_F1 c r) (mkS [(0, .sl (List.map LI_s a0)), (1, .sl (List.map LI_s b1)), (5, I i_4)] [])
 refine WpL.step ?_
 refine sN ?_
 refine sN ?_
 refine rg hc none [oN, oN, some (.eqv (.no) ⟨[(13, I (a0.length : Int))], [], []⟩), oN] [(0, .sl (List.map LI_s a0)), (1, .sl (List.map LI_s b1)), (5, I i_4), (14, .bool (decide (i_4 < (a0.length : Int))))] [] (ai (lenT (d := 13) LI_s a0) trivial) ?_
 refine seqQ_norm ?_
 rcases itesome h with ⟨hb_5, h⟩ | ⟨hb_5, h⟩
 ·refine cT ((decide (i_4 < (a0.length : Int)))) hb_5 ?_
  refine Wp.skipN (by kernel_rfl) ?_
  refine seqQ_norm ?_
  refine sN ?_
  refine Wp.blockN (i := 1) (by kernel_rfl) ?_
  refine sN ?_
  obtain ⟨e_6_2, hi_6_2, h⟩ := bsome h
  obtain ⟨e_6_6, hi_6_6, h⟩ := bsome h
  obtain ⟨r_6_8, hr_6_8, h⟩ := bsome h
  refine rg hc (rx [[0], [0], [2], [3], [0], [0], [0, 4, 5], [0, 4, 5, 6], [8], [9]]) [oN, oN, some (.el (sI e_6_2)), oN, oN, oN, some (.el (sI e_6_6)), oN, oc (.bool r_6_8), oN] [(0, .sl (List.map LI_s a0)), (1, .sl (List.map LI_s b1)), (5, I i_4), (26, .bool (!r_6_8))] [] (ai (idx_sl (enc := LI_s) (x := sI e_6_2) hi_6_2 (eq_LI_s e_6_2)) (ai (idx_sl (enc := LI_s) (x := sI e_6_6) hi_6_6 (eq_LI_s e_6_6)) (ai (laws_eqIntS_s _ _ hr_6_8) (ai bod_18 (ai (oi (.bool r_6_8)) trivial))))) ?_
  refine seqQ_norm ?_
  rcases itesome h with ⟨hb_6, h⟩ | ⟨hb_6, h⟩
  ·refine cF (!r_6_8) (nF hb_6) ?_
   refine Wp.skipN (by kernel_rfl) ?_
   refine blockQ_norm ?_
   refine seqQ_norm ?_
   refine rg0 hc 3 [(0, .sl (List.map LI_s a0)), (1, .sl (List.map LI_s b1)), (5, I (wr (i_4 + 1)))] [] ?_
   refine loopQ_norm ?_
   exact (laws_eqIntSS_l0_ih _ _ h c hc)
  ·refine cT (!r_6_8) (nT hb_6) ?_
   refine sN ?_
   refine rg0 hc 1 [(4, .bool false)] [] ?_
   refine seqQ_norm ?_
   refine Wp.retN (by kernel_rfl) ?_
   refine blockQ_ret ?_
   refine seqQ_ret ?_
   refine loopQ_ret ?_
   obtain rfl := Option.some.inj h
   exact RetE.ret (fl := [true]) (by kernel_rfl)
 ·refine cF ((decide (i_4 < (a0.length : Int)))) hb_5 ?_
  refine Wp.exitN (i := 0) (by kernel_rfl) ?_
  refine seqQ_exit ?_
  refine loopQ_exit ?_
  obtain rfl := Option.some.inj h
  exact Into.view (fun a w hv => SRx.renL [] hv (by kernel_rfl) (by kernel_rfl) (by kernel_rfl))
def laws_eqIntSS (p : (List (List Int)) × (List (List Int))) : Option (Bool) :=
 match p with
 | (a0, b1) =>
  if ((a0.length : Int) != (b1.length : Int)) = true then
   some false
  else
   (laws_eqIntSS_l0 (a0, b1, 0)) >>= fun fl => match fl with
   | .inl () =>
    some true
   | .inr r =>
    some r
def M_laws_eqIntSS (p : (List (List Int)) × (List (List Int))) (r : Bool) : Prop :=
 match p with
 | (a0, b1) => FnSound Try.prog 91 [.sl (List.map LI_s a0), .sl (List.map LI_s b1)] (.bool r) []
theorem laws_eqIntSS_s : ∀ p r, laws_eqIntSS p = some r → M_laws_eqIntSS p r := by
 rintro ⟨a0, b1⟩ r h
 unfold laws_eqIntSS at h
 show FnSound Try.prog 91 [.sl (List.map LI_s a0), .sl (List.map LI_s b1)] (.bool r) []
 refine FnSound.body0 tiok (fn := Try.f91) (code := B91) (by kernel_rfl) (by kernel_rfl) (by kernel_rfl) (by kernel_rfl) (nt := 27) (by kernel_rfl) (by kernel_rfl) (T := [(0, .sl (List.map LI_s a0)), (1, .sl (List.map LI_s b1))]) (O := []) (by kernel_rfl) (by kernel_rfl) (fun c hc => ?_)
 refine sN ?_
 refine rg0 hc 1 [(0, .sl (List.map LI_s a0)), (1, .sl (List.map LI_s b1))] [] ?_
 refine seqQ_norm ?_
 refine sN ?_
 refine sN ?_
 refine rg hc none [oN, some (.eqv (.no) ⟨[(7, I (a0.length : Int))], [], []⟩), oN, some (.eqv (.no) ⟨[(9, I (b1.length : Int))], [], []⟩), oN] [(0, .sl (List.map LI_s a0)), (1, .sl (List.map LI_s b1)), (10, .bool ((a0.length : Int) != (b1.length : Int)))] [] (ai (lenT (d := 7) LI_s a0) (ai (lenT (d := 9) LI_s b1) trivial)) ?_
 refine seqQ_norm ?_
 rcases itesome h with ⟨hb_1, h⟩ | ⟨hb_1, h⟩
 ·refine cT (((a0.length : Int) != (b1.length : Int))) hb_1 ?_
  refine sN ?_
  refine rg0 hc 1 [(4, .bool false)] [] ?_
  refine seqQ_norm ?_
  refine Wp.retN (by kernel_rfl) ?_
  refine seqQ_ret ?_
  obtain rfl := Option.some.inj h
  exact RetQ.ret (fl := [true]) (by kernel_rfl)
 ·refine cF (((a0.length : Int) != (b1.length : Int))) hb_1 ?_
  refine Wp.skipN (by kernel_rfl) ?_
  refine seqQ_norm ?_
  refine sN ?_
  refine sN ?_
  refine rg0 hc 1 [(0, .sl (List.map LI_s a0)), (1, .sl (List.map LI_s b1)), (5, I 0)] [] ?_
  refine seqQ_norm ?_
  refine Wp.blockN (i := 0) (by kernel_rfl) ?_
  obtain ⟨fl, hl_7, h⟩ := bsome h
  have hL := laws_eqIntSS_l0_s _ _ hl_7 c hc
  refine Wp.loopN (by kernel_rfl) ?_
  rcases fl with ⟨⟩ | r
  ·refine WpL.into (e := (.exit 0)) (mkS [] []) hL ?_
   refine blockQ_hit ?_
   refine seqQ_norm ?_
   refine sN ?_
   refine rg0 hc 1 [(4, .bool true)] [] ?_
   refine seqQ_norm ?_
   refine Wp.retN (by kernel_rfl) ?_
   obtain rfl := Option.some.inj h
   exact RetQ.ret (fl := [true]) (by kernel_rfl)
  ·refine WpL.mono hL ?_
   rintro _ _ ⟨rfl, hfin⟩
   refine blockQ_ret ?_
   refine seqQ_ret ?_
   obtain rfl := Option.some.inj h
   exact ⟨.inl rfl, hfin⟩
def laws_eqTermS_F1 (c : Ctx) : (Unit) ⊕ (Bool) → Exit → AState → Prop
 | .inl _ => Into c (.exit 0) (mkS [] [])
 | .inr r => RetE TIx Try.f49 [] (.bool r)
end Go.Am
