/- Functions of the program as pure functions, and that it computes them. Printed by a program of mine (gen.py). -/
import Derived.Test.YtfakfcaegabgaaaGCTF2
set_option linter.unusedVariables false
set_option linter.unusedSimpArgs false
set_option maxRecDepth 100000
namespace Go.Am
open Go Go.Proofs
def ah3_0 : Option (List (List Nat)) := rx [[0], [1], [0], [0, 2], [0], [0, 4], [0, 4, 5], [7], [0], [9]]
mutual
def impl_check_Kimpl_writtenSize_c1_Kimpl_isWrittenType (p : GTerm × Int × Int) : Option (Int) :=
 match p with
 | (t0, n1, nodes4) =>
  (impl_formOf t0.fOp) >>= fun (r_2_2_0, r_2_2_1) =>
  (
   if r_2_2_1 = true then
    if (decide ((wr (nodes4 + 1)) > 400)) = true then
     some (true)
    else
     some (((t0.fKids.length : Int) != r_2_2_0.fkids))
   else
    some (true)
  ) >>= fun v_1 =>
  if v_1 = true then
   some 401
  else
   (
    if (t0.fOp == 0) = true then
     (impl_within (t0.fN, 0, (wr (n1 - 1)))) >>= fun r_7_4 =>
     some (r_7_4)
    else
     (
      if (t0.fOp == 1) = true then
       (impl_within (t0.fN, 0, 2)) >>= fun r_9_2 =>
       some (r_9_2)
      else
       (
        if r_2_2_0.fgrade = true then
         (impl_writtenSize_c1 t0.fN) >>= fun r_11_3 =>
         some (r_11_3)
        else
         some ((t0.fN == 0))
       ) >>= fun ok_7 =>
       some (ok_7)
     ) >>= fun ok_9 =>
     some (ok_9)
   ) >>= fun ok_11 =>
   (
    if r_2_2_0.ftyped = true then
     (
      if ok_11 = true then
       (impl_isWrittenType t0.fType) >>= fun r_13_5 =>
       some (r_13_5)
      else
       some (false)
     ) >>= fun ok_14 =>
     some (ok_14)
    else
     (
      if ok_11 = true then
       some (((t0.fType.length : Int) == 0))
      else
       some (false)
     ) >>= fun ok_16 =>
     some (ok_16)
   ) >>= fun ok_18 =>
   if ok_18 = true then
    (impl_check_Kimpl_writtenSize_c1_Kimpl_isWrittenType_l0 (t0, n1, (wr (nodes4 + 1)), 0)) >>= fun fl => match fl with
    | .inl nodes_27 =>
     some nodes_27
    | .inr r =>
     some r
   else
    some 401
 partial_fixpoint
def impl_check_Kimpl_writtenSize_c1_Kimpl_isWrittenType_l0 (p : GTerm × Int × Int × Int) : Option ((Int) ⊕ (Int)) :=
 match p with
 | (t0, n1, nodes_23, w_24) =>
  if (decide (w_24 < (t0.fKids.length : Int))) = true then
   (idx t0.fKids w_24) >>= fun e_19_1 =>
   (impl_adds (t0.fOp, w_24)) >>= fun r_20_5 =>
   (impl_check_Kimpl_writtenSize_c1_Kimpl_isWrittenType (e_19_1, (wr (n1 + r_20_5)), nodes_23)) >>= fun r_20_10 =>
   if (decide (r_20_10 > 400)) = true then
    some (.inr 401)
   else
    impl_check_Kimpl_writtenSize_c1_Kimpl_isWrittenType_l0 (t0, n1, r_20_10, (wr (w_24 + 1)))
  else
   some (.inl nodes_23)
 partial_fixpoint
end
def M_impl_check_Kimpl_writtenSize_c1_Kimpl_isWrittenType (p : GTerm × Int × Int) (r : Int) : Prop :=
 match p with
 | (t0, n1, nodes4) => FnSound Try.prog 142 [aTerm t0, I n1, .fn 152 [], .fn 150 [], I nodes4] (I r) []
def M_impl_check_Kimpl_writtenSize_c1_Kimpl_isWrittenType_l0 (p : GTerm × Int × Int × Int) (fl : (Int) ⊕ (Int)) : Prop :=
 match p with
 | (t0, n1, nodes_23, w_24) => ∀ c : Ctx, c.nt = 104 → WpL Try.prog c (cl (cl (cr (cl (cr (cr (cr (cr (cr (cr (cr B142))))))))))) (impl_check_Kimpl_writtenSize_c1_Kimpl_isWrittenType_F1 c fl) (mkS [(1, I n1), (2, .fn 152 []), (3, .fn 150 []), (4, I nodes_23), (5, .ra 1 0), (82, .sl (List.map GTerm_S t0.fKids)), (83, I (t0.fKids.length : Int)), (84, I w_24)] [(1, bTerm t0)])
theorem impl_check_Kimpl_writtenSize_c1_Kimpl_isWrittenType_all : (∀ p r, impl_check_Kimpl_writtenSize_c1_Kimpl_isWrittenType p = some r → M_impl_check_Kimpl_writtenSize_c1_Kimpl_isWrittenType p r) ∧ (∀ p r, impl_check_Kimpl_writtenSize_c1_Kimpl_isWrittenType_l0 p = some r → M_impl_check_Kimpl_writtenSize_c1_Kimpl_isWrittenType_l0 p r) := by
 refine impl_check_Kimpl_writtenSize_c1_Kimpl_isWrittenType.mutual_partial_correctness M_impl_check_Kimpl_writtenSize_c1_Kimpl_isWrittenType M_impl_check_Kimpl_writtenSize_c1_Kimpl_isWrittenType_l0 ?_ ?_
 ·rintro impl_check_Kimpl_writtenSize_c1_Kimpl_isWrittenType_l0_f impl_check_Kimpl_writtenSize_c1_Kimpl_isWrittenType_l0_ih ⟨t0, n1, nodes4⟩ r h
  show FnSound Try.prog 142 [aTerm t0, I n1, .fn 152 [], .fn 150 [], I nodes4] (I r) []
  refine FnSound.body0 tiok (fn := Try.f142) (code := B142) (by kernel_rfl) (by kernel_rfl) (by kernel_rfl) (by kernel_rfl) (nt := 104) (by kernel_rfl) (by kernel_rfl) (T := [(0, aTerm t0), (1, I n1), (2, .fn 152 []), (3, .fn 150 []), (4, I nodes4)]) (O := []) (by kernel_rfl) (by kernel_rfl) (fun c hc => ?_)
  refine sN ?_
  refine rg hc none [some (.new 1), oN] [(1, I n1), (2, .fn 152 []), (3, .fn 150 []), (4, I nodes4), (5, .ra 1 0)] [(1, bTerm t0)] trivial ?_
  refine seqQ_norm ?_
  refine sN ?_
  refine rg0 hc 3 [(1, I n1), (2, .fn 152 []), (3, .fn 150 []), (4, I (wr (nodes4 + 1))), (5, .ra 1 0)] [(1, bTerm t0)] ?_
  refine seqQ_norm ?_
  refine sN ?_
  obtain ⟨⟨r_2_2_0, r_2_2_1⟩, hr_2_2, h⟩ := bsome h
  refine rg hc none [oN, oN, oc (.tup [.agg [.str r_2_2_0.fword, I r_2_2_0.fkids, .bool r_2_2_0.fgrade, .bool r_2_2_0.ftyped], .bool r_2_2_1]), oN, oN, oN, some (.new 2), oN, oN] [(1, I n1), (2, .fn 152 []), (3, .fn 150 []), (4, I (wr (nodes4 + 1))), (5, .ra 1 0), (11, .ra 2 0), (12, .bool r_2_2_1)] [(1, bTerm t0), (2, .box [.str r_2_2_0.fword, I r_2_2_0.fkids, .bool r_2_2_0.fgrade, .bool r_2_2_0.ftyped])] (ai (impl_formOf_s _ _ hr_2_2) (ai bod_111 (ai (oi (.tup [.agg [.str r_2_2_0.fword, I r_2_2_0.fkids, .bool r_2_2_0.fgrade, .bool r_2_2_0.ftyped], .bool r_2_2_1])) trivial))) ?_
  refine seqQ_norm ?_
  refine sN ?_
  refine sN ?_
  obtain ⟨v_1, hj_2, h⟩ := bsome h
  refine Wp.into (x := .normal) (mkS [(1, I n1), (2, .fn 152 []), (3, .fn 150 []), (4, I (wr (nodes4 + 1))), (5, .ra 1 0), (11, .ra 2 0), (36, .bool v_1)] [(1, bTerm t0), (2, .box [.str r_2_2_0.fword, I r_2_2_0.fkids, .bool r_2_2_0.fgrade, .bool r_2_2_0.ftyped])]) ?_ ?_
  ·replace h := hj_2
   rcases itesome h with ⟨hb_3_0, h⟩ | ⟨hb_3_0, h⟩
   ·rcases itesome h with ⟨hb_3_1, h⟩ | ⟨hb_3_1, h⟩
    ·refine rg hc none [oN, oN, oN, oN, oN, oF, oN, o_, o_, o_, o_, o_, o_, oT] [(1, I n1), (2, .fn 152 []), (3, .fn 150 []), (4, I (wr (nodes4 + 1))), (5, .ra 1 0), (11, .ra 2 0), (36, .bool true)] [(1, bTerm t0), (2, .box [.str r_2_2_0.fword, I r_2_2_0.fkids, .bool r_2_2_0.fgrade, .bool r_2_2_0.ftyped])] (ar 3 (nF hb_3_0) (ar 6 (neF hb_3_1) (ai hb_3_1 trivial))) ?_
     obtain rfl := Option.some.inj h
     exact Into.mk
    ·refine rg hc none [oN, oN, oN, oN, oN, oF, oN, oN, oN, some (.eqv (.no) ⟨[(32, I (t0.fKids.length : Int))], [], []⟩), oN, oN, oN, oF] [(1, I n1), (2, .fn 152 []), (3, .fn 150 []), (4, I (wr (nodes4 + 1))), (5, .ra 1 0), (11, .ra 2 0), (36, .bool ((t0.fKids.length : Int) != r_2_2_0.fkids))] [(1, bTerm t0), (2, .box [.str r_2_2_0.fword, I r_2_2_0.fkids, .bool r_2_2_0.fgrade, .bool r_2_2_0.ftyped])] (ar 3 (nF hb_3_0) (ar 3 hb_3_1 (ai (lenT (d := 32) GTerm_S t0.fKids) (ar 4 hb_3_1 trivial)))) ?_
     obtain rfl := Option.some.inj h
     exact Into.mk
   ·refine rg hc none [oN, oN, oN, o_, o_, oT, oN, o_, o_, o_, o_, o_, o_, oT] [(1, I n1), (2, .fn 152 []), (3, .fn 150 []), (4, I (wr (nodes4 + 1))), (5, .ra 1 0), (11, .ra 2 0), (36, .bool true)] [(1, bTerm t0), (2, .box [.str r_2_2_0.fword, I r_2_2_0.fkids, .bool r_2_2_0.fgrade, .bool r_2_2_0.ftyped])] (ar 2 (neF (nT hb_3_0)) (ai (nT hb_3_0) (ar 6 nf (ai tt trivial)))) ?_
    obtain rfl := Option.some.inj h
    exact Into.mk
  ·clear hj_2
   refine seqQ_norm ?_
   rcases itesome h with ⟨hb_3, h⟩ | ⟨hb_3, h⟩
   ·refine cT v_1 hb_3 ?_
    refine sN ?_
    refine rg0 hc 1 [(10, I 401)] [] ?_
    refine seqQ_norm ?_
    refine Wp.retN (by kernel_rfl) ?_
    refine seqQ_ret ?_
    obtain rfl := Option.some.inj h
    exact RetQ.ret (fl := [true]) (by kernel_rfl)
   ·refine cF v_1 hb_3 ?_
    refine Wp.skipN (by kernel_rfl) ?_
    refine seqQ_norm ?_
    refine sN ?_
    refine Wp.blockN (i := 0) (by kernel_rfl) ?_
    refine sN ?_
    refine rg0 hc 4 [(1, I n1), (2, .fn 152 []), (3, .fn 150 []), (4, I (wr (nodes4 + 1))), (5, .ra 1 0), (11, .ra 2 0), (40, .bool (t0.fOp == 0))] [(1, bTerm t0), (2, .box [.str r_2_2_0.fword, I r_2_2_0.fkids, .bool r_2_2_0.fgrade, .bool r_2_2_0.ftyped])] ?_
    refine seqQ_norm ?_
    obtain ⟨ok_11, hj_12, h⟩ := bsome h
    refine Wp.into (x := .normal) (mkS [(1, I n1), (2, .fn 152 []), (3, .fn 150 []), (4, I (wr (nodes4 + 1))), (5, .ra 1 0), (11, .ra 2 0), (12, .bool ok_11)] [(1, bTerm t0), (2, .box [.str r_2_2_0.fword, I r_2_2_0.fkids, .bool r_2_2_0.fgrade, .bool r_2_2_0.ftyped])]) ?_ ?_
    ·replace h := hj_12
     rcases itesome h with ⟨hb_4, h⟩ | ⟨hb_4, h⟩
     ·refine cT ((t0.fOp == 0)) hb_4 ?_
      obtain ⟨r_7_4, hr_7_4, h⟩ := bsome h
      refine rg hc none [oN, oN, oN, oN, oc (.bool r_7_4), oN] [(1, I n1), (2, .fn 152 []), (3, .fn 150 []), (4, I (wr (nodes4 + 1))), (5, .ra 1 0), (11, .ra 2 0), (12, .bool r_7_4)] [(1, bTerm t0), (2, .box [.str r_2_2_0.fword, I r_2_2_0.fkids, .bool r_2_2_0.fgrade, .bool r_2_2_0.ftyped])] (ai (impl_within_s _ _ hr_7_4) (ai bod_64 (ai (oi (.bool r_7_4)) trivial))) ?_
      obtain rfl := Option.some.inj h
      exact Into.mk
     ·refine cF ((t0.fOp == 0)) hb_4 ?_
      refine sN ?_
      refine rg0 hc 4 [(1, I n1), (2, .fn 152 []), (3, .fn 150 []), (4, I (wr (nodes4 + 1))), (5, .ra 1 0), (11, .ra 2 0), (49, .bool (t0.fOp == 1))] [(1, bTerm t0), (2, .box [.str r_2_2_0.fword, I r_2_2_0.fkids, .bool r_2_2_0.fgrade, .bool r_2_2_0.ftyped])] ?_
      refine seqQ_norm ?_
      obtain ⟨ok_9, hj_10, h⟩ := bsome h
      refine Wp.into (x := .normal) (mkS [(1, I n1), (2, .fn 152 []), (3, .fn 150 []), (4, I (wr (nodes4 + 1))), (5, .ra 1 0), (11, .ra 2 0), (12, .bool ok_9)] [(1, bTerm t0), (2, .box [.str r_2_2_0.fword, I r_2_2_0.fkids, .bool r_2_2_0.fgrade, .bool r_2_2_0.ftyped])]) ?_ ?_
      ·replace h := hj_10
       rcases itesome h with ⟨hb_5, h⟩ | ⟨hb_5, h⟩
       ·refine cT ((t0.fOp == 1)) hb_5 ?_
        obtain ⟨r_9_2, hr_9_2, h⟩ := bsome h
        refine rg hc none [oN, oN, oc (.bool r_9_2), oN] [(1, I n1), (2, .fn 152 []), (3, .fn 150 []), (4, I (wr (nodes4 + 1))), (5, .ra 1 0), (11, .ra 2 0), (12, .bool r_9_2)] [(1, bTerm t0), (2, .box [.str r_2_2_0.fword, I r_2_2_0.fkids, .bool r_2_2_0.fgrade, .bool r_2_2_0.ftyped])] (ai (impl_within_s _ _ hr_9_2) (ai bod_64 (ai (oi (.bool r_9_2)) trivial))) ?_
        obtain rfl := Option.some.inj h
        exact Into.mk
       ·refine cF ((t0.fOp == 1)) hb_5 ?_
        refine sN ?_
        refine rg0 hc 3 [(1, I n1), (2, .fn 152 []), (3, .fn 150 []), (4, I (wr (nodes4 + 1))), (5, .ra 1 0), (11, .ra 2 0), (56, .bool r_2_2_0.fgrade)] [(1, bTerm t0), (2, .box [.str r_2_2_0.fword, I r_2_2_0.fkids, .bool r_2_2_0.fgrade, .bool r_2_2_0.ftyped])] ?_
        refine seqQ_norm ?_
        obtain ⟨ok_7, hj_8, h⟩ := bsome h
        refine Wp.into (x := .normal) (mkS [(1, I n1), (2, .fn 152 []), (3, .fn 150 []), (4, I (wr (nodes4 + 1))), (5, .ra 1 0), (11, .ra 2 0), (12, .bool ok_7)] [(1, bTerm t0), (2, .box [.str r_2_2_0.fword, I r_2_2_0.fkids, .bool r_2_2_0.fgrade, .bool r_2_2_0.ftyped])]) ?_ ?_
        ·replace h := hj_8
         rcases itesome h with ⟨hb_6, h⟩ | ⟨hb_6, h⟩
         ·refine cT r_2_2_0.fgrade hb_6 ?_
          obtain ⟨r_11_3, hr_11_3, h⟩ := bsome h
          refine rg hc none [oN, oN, oN, oc (.bool r_11_3), oN] [(1, I n1), (2, .fn 152 []), (3, .fn 150 []), (4, I (wr (nodes4 + 1))), (5, .ra 1 0), (11, .ra 2 0), (12, .bool r_11_3)] [(1, bTerm t0), (2, .box [.str r_2_2_0.fword, I r_2_2_0.fkids, .bool r_2_2_0.fgrade, .bool r_2_2_0.ftyped])] (ai (impl_writtenSize_c1_s _ _ hr_11_3) (ai bod_152 (ai (oi (.bool r_11_3)) trivial))) ?_
          obtain rfl := Option.some.inj h
          exact Into.mk
         ·refine cF r_2_2_0.fgrade hb_6 ?_
          refine rg0 hc 4 [(1, I n1), (2, .fn 152 []), (3, .fn 150 []), (4, I (wr (nodes4 + 1))), (5, .ra 1 0), (11, .ra 2 0), (12, .bool (t0.fN == 0))] [(1, bTerm t0), (2, .box [.str r_2_2_0.fword, I r_2_2_0.fkids, .bool r_2_2_0.fgrade, .bool r_2_2_0.ftyped])] ?_
          obtain rfl := Option.some.inj h
          exact Into.mk
        ·clear hj_8
         obtain rfl := Option.some.inj h
         exact Into.mk
      ·clear hj_10
       obtain rfl := Option.some.inj h
       exact Into.mk
    ·clear hj_12
     refine blockQ_norm ?_
     refine seqQ_norm ?_
     refine sN ?_
     refine sN ?_
     refine rg0 hc 2 [(1, I n1), (2, .fn 152 []), (3, .fn 150 []), (4, I (wr (nodes4 + 1))), (5, .ra 1 0), (12, .bool ok_11), (64, .bool r_2_2_0.ftyped)] [(1, bTerm t0)] ?_
     refine seqQ_norm ?_
     obtain ⟨ok_18, hj_19, h⟩ := bsome h
     refine Wp.into (x := .normal) (mkS [(1, I n1), (2, .fn 152 []), (3, .fn 150 []), (4, I (wr (nodes4 + 1))), (5, .ra 1 0), (12, .bool ok_18)] [(1, bTerm t0)]) ?_ ?_
     ·replace h := hj_19
      rcases itesome h with ⟨hb_13, h⟩ | ⟨hb_13, h⟩
      ·refine cT r_2_2_0.ftyped hb_13 ?_
       obtain ⟨ok_14, hj_15, h⟩ := bsome h
       refine Wp.into (x := .normal) (mkS [(1, I n1), (2, .fn 152 []), (3, .fn 150 []), (4, I (wr (nodes4 + 1))), (5, .ra 1 0), (12, .bool ok_14)] [(1, bTerm t0)]) ?_ ?_
       ·replace h := hj_15
        rcases itesome h with ⟨hb_13_0, h⟩ | ⟨hb_13_0, h⟩
        ·obtain ⟨r_13_5, hr_13_5, h⟩ := bsome h
         refine rg hc none [oN, oN, oN, oN, oN, oc (.bool r_13_5), oT, oN] [(1, I n1), (2, .fn 152 []), (3, .fn 150 []), (4, I (wr (nodes4 + 1))), (5, .ra 1 0), (12, .bool r_13_5)] [(1, bTerm t0)] (ar 4 hb_13_0 (ai (impl_isWrittenType_s _ _ hr_13_5) (ai bod_150 (ai (oi (.bool r_13_5)) (ai hb_13_0 trivial))))) ?_
         obtain rfl := Option.some.inj h
         exact Into.mk
        ·refine rg hc none [oN, oN, o_, o_, o_, o_, oF, oN] [(1, I n1), (2, .fn 152 []), (3, .fn 150 []), (4, I (wr (nodes4 + 1))), (5, .ra 1 0), (12, .bool false)] [(1, bTerm t0)] (ar 4 (neT hb_13_0) (ai hb_13_0 trivial)) ?_
         obtain rfl := Option.some.inj h
         exact Into.mk
       ·clear hj_15
        obtain rfl := Option.some.inj h
        exact Into.mk
      ·refine cF r_2_2_0.ftyped hb_13 ?_
       obtain ⟨ok_16, hj_17, h⟩ := bsome h
       refine Wp.into (x := .normal) (mkS [(1, I n1), (2, .fn 152 []), (3, .fn 150 []), (4, I (wr (nodes4 + 1))), (5, .ra 1 0), (12, .bool ok_16)] [(1, bTerm t0)]) ?_ ?_
       ·replace h := hj_17
        rcases itesome h with ⟨hb_14_0, h⟩ | ⟨hb_14_0, h⟩
        ·refine rg hc none [oN, oN, oN, oN, some (.eqv (.no) ⟨[(76, I (t0.fType.length : Int))], [], []⟩), oN, oT, oN] [(1, I n1), (2, .fn 152 []), (3, .fn 150 []), (4, I (wr (nodes4 + 1))), (5, .ra 1 0), (12, .bool ((t0.fType.length : Int) == 0))] [(1, bTerm t0)] (ar 3 hb_14_0 (ai (lenT (d := 76) I t0.fType) (ar 2 hb_14_0 trivial))) ?_
         obtain rfl := Option.some.inj h
         exact Into.mk
        ·refine rg hc none [oN, oN, o_, o_, o_, o_, oF, oN] [(1, I n1), (2, .fn 152 []), (3, .fn 150 []), (4, I (wr (nodes4 + 1))), (5, .ra 1 0), (12, .bool false)] [(1, bTerm t0)] (ar 4 (neT hb_14_0) (ai hb_14_0 trivial)) ?_
         obtain rfl := Option.some.inj h
         exact Into.mk
       ·clear hj_17
        obtain rfl := Option.some.inj h
        exact Into.mk
     ·clear hj_19
      refine seqQ_norm ?_
      refine sN ?_
      refine sN ?_
      refine rg0 hc 2 [(1, I n1), (2, .fn 152 []), (3, .fn 150 []), (4, I (wr (nodes4 + 1))), (5, .ra 1 0), (80, .bool (!ok_18))] [(1, bTerm t0)] ?_
      refine seqQ_norm ?_
      rcases itesome h with ⟨hb_20, h⟩ | ⟨hb_20, h⟩
      ·refine cF (!ok_18) (nF hb_20) ?_
       refine Wp.skipN (by kernel_rfl) ?_
       refine seqQ_norm ?_
       refine sN ?_
       refine sN ?_
       refine rg hc none [oN, oN, some (.eqv (.no) ⟨[(83, I (t0.fKids.length : Int))], [], []⟩), oN] [(1, I n1), (2, .fn 152 []), (3, .fn 150 []), (4, I (wr (nodes4 + 1))), (5, .ra 1 0), (82, .sl (List.map GTerm_S t0.fKids)), (83, I (t0.fKids.length : Int)), (84, I 0)] [(1, bTerm t0)] (ai (lenT (d := 83) GTerm_S t0.fKids) trivial) ?_
       refine seqQ_norm ?_
       refine Wp.blockN (i := 1) (by kernel_rfl) ?_
       obtain ⟨fl, hl_28, h⟩ := bsome h
       have hL := impl_check_Kimpl_writtenSize_c1_Kimpl_isWrittenType_l0_ih _ _ hl_28 c hc
       refine Wp.loopN (by kernel_rfl) ?_
       rcases fl with nodes_27 | r
       ·refine WpL.into (e := (.exit 1)) (mkS [(4, I nodes_27)] []) hL ?_
        refine blockQ_hit ?_
        refine seqQ_norm ?_
        refine sN ?_
        refine rg0 hc 2 [(10, I nodes_27)] [] ?_
        refine seqQ_norm ?_
        refine Wp.retN (by kernel_rfl) ?_
        obtain rfl := Option.some.inj h
        exact RetQ.ret (fl := [true]) (by kernel_rfl)
       ·refine WpL.mono hL ?_
        rintro _ _ ⟨rfl, hfin⟩
        refine blockQ_ret ?_
        refine seqQ_ret ?_
        obtain rfl := Option.some.inj h
        exact ⟨.inl rfl, hfin⟩
      ·refine cT (!ok_18) (nT hb_20) ?_
       refine sN ?_
       refine rg0 hc 1 [(10, I 401)] [] ?_
       refine seqQ_norm ?_
       refine Wp.retN (by kernel_rfl) ?_
       refine seqQ_ret ?_
       obtain rfl := Option.some.inj h
       exact RetQ.ret (fl := [true]) (by kernel_rfl)
 ·rintro impl_check_Kimpl_writtenSize_c1_Kimpl_isWrittenType_f impl_check_Kimpl_writtenSize_c1_Kimpl_isWrittenType_l0_f impl_check_Kimpl_writtenSize_c1_Kimpl_isWrittenType_ih impl_check_Kimpl_writtenSize_c1_Kimpl_isWrittenType_l0_ih ⟨t0, n1, nodes_23, w_24⟩ r h
  intro c hc
  show WpL Try.prog c (cl (cl (cr (cl (cr (cr (cr (cr (cr (cr (cr B142))))))))))) (impl_check_Kimpl_writtenSize_c1_Kimpl_isWrittenType_F1 c r) (mkS [(1, I n1), (2, .fn 152 []), (3, .fn 150 []), (4, I nodes_23), (5, .ra 1 0), (82, .sl (List.map GTerm_S t0.fKids)), (83, I (t0.fKids.length : Int)), (84, I w_24)] [(1, bTerm t0)])
  refine WpL.step ?_
  refine sN ?_
  refine rg0 hc 1 [(1, I n1), (2, .fn 152 []), (3, .fn 150 []), (4, I nodes_23), (5, .ra 1 0), (82, .sl (List.map GTerm_S t0.fKids)), (83, I (t0.fKids.length : Int)), (84, I w_24), (85, .bool (decide (w_24 < (t0.fKids.length : Int))))] [(1, bTerm t0)] ?_
  refine seqQ_norm ?_
  refine sN ?_
  rcases itesome h with ⟨hb_25, h⟩ | ⟨hb_25, h⟩
  ·refine cT ((decide (w_24 < (t0.fKids.length : Int)))) hb_25 ?_
   refine Wp.skipN (by kernel_rfl) ?_
   refine seqQ_norm ?_
   refine sN ?_
   refine Wp.blockN (i := 2) (by kernel_rfl) ?_
   refine sN ?_
   obtain ⟨e_19_1, hi_19_1, h⟩ := bsome h
   refine rg hc none [oN, some (.el (aTerm e_19_1)), oN, some (.new 4), oN, oN] [(1, I n1), (2, .fn 152 []), (3, .fn 150 []), (4, I nodes_23), (5, .ra 1 0), (13, I w_24), (14, .ra 4 0), (82, .sl (List.map GTerm_S t0.fKids)), (83, I (t0.fKids.length : Int)), (84, I w_24)] [(1, bTerm t0), (4, bTerm e_19_1)] (ai (idx_sl (enc := GTerm_S) (x := aTerm e_19_1) hi_19_1 (eq_GTerm_S e_19_1)) trivial) ?_
   refine seqQ_norm ?_
   refine sN ?_
   obtain ⟨r_20_5, hr_20_5, h⟩ := bsome h
   obtain ⟨r_20_10, hr_20_10, h⟩ := bsome h
   refine rg hc (rx [[0], [0], [0], [0, 2], [0], [0, 2, 3, 4], [0, 1, 2, 3, 4, 5], [0], [0], [0], [10], [11]]) [oN, oN, oN, oN, oN, oc (I r_20_5), oN, oN, oN, oN, oc (I r_20_10), oN] [(1, I n1), (2, .fn 152 []), (3, .fn 150 []), (4, I r_20_10), (5, .ra 1 0), (82, .sl (List.map GTerm_S t0.fKids)), (83, I (t0.fKids.length : Int)), (84, I w_24)] [(1, bTerm t0)] (ai (impl_adds_s _ _ hr_20_5) (ai bod_165 (ai (oi (I r_20_5)) (ai (impl_check_Kimpl_writtenSize_c1_Kimpl_isWrittenType_ih _ _ hr_20_10) (ai bod_142 (ai (oi (I r_20_10)) trivial)))))) ?_
   refine seqQ_norm ?_
   refine sN ?_
   refine rg0 hc 2 [(1, I n1), (2, .fn 152 []), (3, .fn 150 []), (4, I r_20_10), (5, .ra 1 0), (82, .sl (List.map GTerm_S t0.fKids)), (83, I (t0.fKids.length : Int)), (84, I w_24), (101, .bool (decide (r_20_10 > 400)))] [(1, bTerm t0)] ?_
   refine seqQ_norm ?_
   rcases itesome h with ⟨hb_26, h⟩ | ⟨hb_26, h⟩
   ·refine cT ((decide (r_20_10 > 400))) hb_26 ?_
    refine sN ?_
    refine rg0 hc 1 [(10, I 401)] [] ?_
    refine seqQ_norm ?_
    refine Wp.retN (by kernel_rfl) ?_
    refine blockQ_ret ?_
    refine seqQ_ret ?_
    refine loopQ_ret ?_
    obtain rfl := Option.some.inj h
    exact RetE.ret (fl := [true]) (by kernel_rfl)
   ·refine cF ((decide (r_20_10 > 400))) hb_26 ?_
    refine Wp.skipN (by kernel_rfl) ?_
    refine blockQ_norm ?_
    refine seqQ_norm ?_
    refine rg0 hc 2 [(1, I n1), (2, .fn 152 []), (3, .fn 150 []), (4, I r_20_10), (5, .ra 1 0), (82, .sl (List.map GTerm_S t0.fKids)), (83, I (t0.fKids.length : Int)), (84, I (wr (w_24 + 1)))] [(1, bTerm t0)] ?_
    refine loopQ_norm ?_
    exact (impl_check_Kimpl_writtenSize_c1_Kimpl_isWrittenType_l0_ih _ _ h c hc)
  ·refine cF ((decide (w_24 < (t0.fKids.length : Int)))) hb_25 ?_
   refine Wp.exitN (i := 1) (by kernel_rfl) ?_
   refine seqQ_exit ?_
   refine loopQ_exit ?_
   obtain rfl := Option.some.inj h
   exact Into.view (fun a w hv => SRx.renL [] hv (by kernel_rfl) (by kernel_rfl) (by kernel_rfl))
theorem impl_check_Kimpl_writtenSize_c1_Kimpl_isWrittenType_s : ∀ p r, impl_check_Kimpl_writtenSize_c1_Kimpl_isWrittenType p = some r → M_impl_check_Kimpl_writtenSize_c1_Kimpl_isWrittenType p r := impl_check_Kimpl_writtenSize_c1_Kimpl_isWrittenType_all.1
theorem impl_check_Kimpl_writtenSize_c1_Kimpl_isWrittenType_l0_s : ∀ p r, impl_check_Kimpl_writtenSize_c1_Kimpl_isWrittenType_l0 p = some r → M_impl_check_Kimpl_writtenSize_c1_Kimpl_isWrittenType_l0 p r := impl_check_Kimpl_writtenSize_c1_Kimpl_isWrittenType_all.2
def impl_writtenSize (t0 : GTerm) : Option (Int) :=
  (impl_check_Kimpl_writtenSize_c1_Kimpl_isWrittenType (t0, 8, 0)) >>= fun r_1_1 =>
  some r_1_1
def M_impl_writtenSize (t0 : GTerm) (r : Int) : Prop :=
 FnSound Try.prog 110 [aTerm t0] (I r) []
theorem impl_writtenSize_s : ∀ p r, impl_writtenSize p = some r → M_impl_writtenSize p r := by
 rintro t0 r h
 unfold impl_writtenSize at h
 show FnSound Try.prog 110 [aTerm t0] (I r) []
 refine FnSound.body0 tiok (fn := Try.f110) (code := B110) (by kernel_rfl) (by kernel_rfl) (by kernel_rfl) (by kernel_rfl) (nt := 5) (by kernel_rfl) (by kernel_rfl) (T := [(0, aTerm t0)]) (O := []) (by kernel_rfl) (by kernel_rfl) (fun c hc => ?_)
 refine sN ?_
 refine rg hc none [some (.new 1), oN] [(1, .ra 1 0)] [(1, bTerm t0)] trivial ?_
 refine seqQ_norm ?_
 refine sN ?_
 obtain ⟨r_1_1, hr_1_1, h⟩ := bsome h
 refine rg hc none [oN, oc (I r_1_1), oN] [(2, I r_1_1)] [] (ai (impl_check_Kimpl_writtenSize_c1_Kimpl_isWrittenType_s _ _ hr_1_1) (ai bod_142 (ai (oi (I r_1_1)) trivial))) ?_
 refine seqQ_norm ?_
 refine Wp.retN (by kernel_rfl) ?_
 obtain rfl := Option.some.inj h
 exact RetQ.ret (fl := [true]) (by kernel_rfl)
def impl_IsWritten (t0 : GTerm) : Option (Bool) :=
  (impl_writtenSize t0) >>= fun r_1_1 =>
  some (decide (r_1_1 ≤ 400))
def M_impl_IsWritten (t0 : GTerm) (r : Bool) : Prop :=
 FnSound Try.prog 60 [aTerm t0] (.bool r) []
theorem impl_IsWritten_s : ∀ p r, impl_IsWritten p = some r → M_impl_IsWritten p r := by
 rintro t0 r h
 unfold impl_IsWritten at h
 show FnSound Try.prog 60 [aTerm t0] (.bool r) []
 refine FnSound.body0 tiok (fn := Try.f60) (code := B60) (by kernel_rfl) (by kernel_rfl) (by kernel_rfl) (by kernel_rfl) (nt := 6) (by kernel_rfl) (by kernel_rfl) (T := [(0, aTerm t0)]) (O := []) (by kernel_rfl) (by kernel_rfl) (fun c hc => ?_)
 refine sN ?_
 refine rg hc none [some (.new 1), oN] [(1, .ra 1 0)] [(1, bTerm t0)] trivial ?_
 refine seqQ_norm ?_
 refine sN ?_
 obtain ⟨r_1_1, hr_1_1, h⟩ := bsome h
 refine rg hc none [oN, oc (I r_1_1), oN, oN] [(2, .bool (decide (r_1_1 ≤ 400)))] [] (ai (impl_writtenSize_s _ _ hr_1_1) (ai bod_110 (ai (oi (I r_1_1)) trivial))) ?_
 refine seqQ_norm ?_
 refine Wp.retN (by kernel_rfl) ?_
 obtain rfl := Option.some.inj h
 exact RetQ.ret (fl := [true]) (by kernel_rfl)
def impl_isRedex (t0 : GTerm) : Option (Bool) :=
  if ((t0.fKids.length : Int) == 0) = true then
   some false
  else
   (idx t0.fKids 0) >>= fun e_3_2 =>
   if (t0.fOp == 2) = true then
    (
     if (e_3_2.fOp == 1) = true then
      (idx t0.fKids 1) >>= fun e_6_5 =>
      some ((e_6_5.fOp == 1))
     else
      some (false)
    ) >>= fun v_3 =>
    some v_3
   else
    if (t0.fOp == 3) = true then
     some (e_3_2.fOp == 1)
    else
     if (t0.fOp == 10) = true then
      some (e_3_2.fOp == 9)
     else
      if (t0.fOp == 5) = true then
       some (e_3_2.fOp == 4)
      else
       if (t0.fOp == 8) = true then
        (
         if (e_3_2.fOp == 6) = true then
          some (true)
         else
          some ((e_3_2.fOp == 7))
        ) >>= fun v_9 =>
        some v_9
       else
        if (t0.fOp == 12) = true then
         some (e_3_2.fOp == 11)
        else
         some false
def M_impl_isRedex (t0 : GTerm) (r : Bool) : Prop :=
 FnSound Try.prog 96 [aTerm t0] (.bool r) []
theorem impl_isRedex_s : ∀ p r, impl_isRedex p = some r → M_impl_isRedex p r := by
 rintro t0 r h
 unfold impl_isRedex at h
 show FnSound Try.prog 96 [aTerm t0] (.bool r) []
 refine FnSound.body0 tiok (fn := Try.f96) (code := B96) (by kernel_rfl) (by kernel_rfl) (by kernel_rfl) (by kernel_rfl) (nt := 51) (by kernel_rfl) (by kernel_rfl) (T := [(0, aTerm t0)]) (O := []) (by kernel_rfl) (by kernel_rfl) (fun c hc => ?_)
 refine sN ?_
 refine rg hc none [some (.new 1), oN] [(1, .ra 1 0)] [(1, bTerm t0)] trivial ?_
 refine seqQ_norm ?_
 refine sN ?_
 refine sN ?_
 refine rg hc none [oN, oN, some (.eqv (.no) ⟨[(6, I (t0.fKids.length : Int))], [], []⟩), oN] [(1, .ra 1 0), (7, .bool ((t0.fKids.length : Int) == 0))] [(1, bTerm t0)] (ai (lenT (d := 6) GTerm_S t0.fKids) trivial) ?_
 refine seqQ_norm ?_
 rcases itesome h with ⟨hb_1, h⟩ | ⟨hb_1, h⟩
 ·refine cT (((t0.fKids.length : Int) == 0)) hb_1 ?_
  refine sN ?_
  refine rg0 hc 1 [(2, .bool false)] [] ?_
  refine seqQ_norm ?_
  refine Wp.retN (by kernel_rfl) ?_
  refine seqQ_ret ?_
  obtain rfl := Option.some.inj h
  exact RetQ.ret (fl := [true]) (by kernel_rfl)
 ·refine cF (((t0.fKids.length : Int) == 0)) hb_1 ?_
  refine Wp.skipN (by kernel_rfl) ?_
  refine seqQ_norm ?_
  refine sN ?_
  obtain ⟨e_3_2, hi_3_2, h⟩ := bsome h
  refine rg hc none [oN, oN, some (.el (aTerm e_3_2)), oN, oN, oN] [(1, .ra 1 0), (3, I e_3_2.fOp)] [(1, bTerm t0)] (ai (idx_sl (enc := GTerm_S) (x := aTerm e_3_2) hi_3_2 (eq_GTerm_S e_3_2)) trivial) ?_
  refine seqQ_norm ?_
  refine sN ?_
  refine sN ?_
  refine rg0 hc 2 [(1, .ra 1 0), (3, I e_3_2.fOp), (14, I t0.fOp)] [(1, bTerm t0)] ?_
  refine seqQ_norm ?_
  refine Wp.blockN (i := 0) (by kernel_rfl) ?_
  refine sN ?_
  refine rg0 hc 2 [(1, .ra 1 0), (3, I e_3_2.fOp), (14, I t0.fOp), (15, .bool (t0.fOp == 2))] [(1, bTerm t0)] ?_
  refine seqQ_norm ?_
  rcases itesome h with ⟨hb_2, h⟩ | ⟨hb_2, h⟩
  ·refine cT ((t0.fOp == 2)) hb_2 ?_
   refine sN ?_
   obtain ⟨v_3, hj_4, h⟩ := bsome h
   refine Wp.into (x := .normal) (mkS [(2, .bool v_3)] []) ?_ ?_
   ·replace h := hj_4
    rcases itesome h with ⟨hb_6_0, h⟩ | ⟨hb_6_0, h⟩
    ·obtain ⟨e_6_5, hi_6_5, h⟩ := bsome h
     refine rg hc none [oN, oN, oN, oN, oN, some (.el (aTerm e_6_5)), oN, oN, oN, oT, oN] [(2, .bool (e_6_5.fOp == 1))] [] (ar 3 hb_6_0 (ai (idx_sl (enc := GTerm_S) (x := aTerm e_6_5) hi_6_5 (eq_GTerm_S e_6_5)) (ar 4 hb_6_0 trivial))) ?_
     obtain rfl := Option.some.inj h
     exact Into.mk
    ·refine rg hc none [oN, oN, oN, o_, o_, o_, o_, o_, o_, oF, oN] [(2, .bool false)] [] (ar 6 (neT hb_6_0) (ai hb_6_0 trivial)) ?_
     obtain rfl := Option.some.inj h
     exact Into.mk
   ·clear hj_4
    refine seqQ_norm ?_
    refine Wp.retN (by kernel_rfl) ?_
    refine blockQ_ret ?_
    refine seqQ_ret ?_
    obtain rfl := Option.some.inj h
    exact RetQ.ret (fl := [true]) (by kernel_rfl)
  ·refine cF ((t0.fOp == 2)) hb_2 ?_
   refine sN ?_
   refine rg0 hc 2 [(3, I e_3_2.fOp), (14, I t0.fOp), (27, .bool (t0.fOp == 3))] [] ?_
   refine seqQ_norm ?_
   rcases itesome h with ⟨hb_5, h⟩ | ⟨hb_5, h⟩
   ·refine cT ((t0.fOp == 3)) hb_5 ?_
    refine sN ?_
    refine rg0 hc 3 [(2, .bool (e_3_2.fOp == 1))] [] ?_
    refine seqQ_norm ?_
    refine Wp.retN (by kernel_rfl) ?_
    refine blockQ_ret ?_
    refine seqQ_ret ?_
    obtain rfl := Option.some.inj h
    exact RetQ.ret (fl := [true]) (by kernel_rfl)
   ·refine cF ((t0.fOp == 3)) hb_5 ?_
    refine sN ?_
    refine rg0 hc 2 [(3, I e_3_2.fOp), (14, I t0.fOp), (31, .bool (t0.fOp == 10))] [] ?_
    refine seqQ_norm ?_
    rcases itesome h with ⟨hb_6, h⟩ | ⟨hb_6, h⟩
    ·refine cT ((t0.fOp == 10)) hb_6 ?_
     refine sN ?_
     refine rg0 hc 3 [(2, .bool (e_3_2.fOp == 9))] [] ?_
     refine seqQ_norm ?_
     refine Wp.retN (by kernel_rfl) ?_
     refine blockQ_ret ?_
     refine seqQ_ret ?_
     obtain rfl := Option.some.inj h
     exact RetQ.ret (fl := [true]) (by kernel_rfl)
    ·refine cF ((t0.fOp == 10)) hb_6 ?_
     refine sN ?_
     refine rg0 hc 2 [(3, I e_3_2.fOp), (14, I t0.fOp), (35, .bool (t0.fOp == 5))] [] ?_
     refine seqQ_norm ?_
     rcases itesome h with ⟨hb_7, h⟩ | ⟨hb_7, h⟩
     ·refine cT ((t0.fOp == 5)) hb_7 ?_
      refine sN ?_
      refine rg0 hc 3 [(2, .bool (e_3_2.fOp == 4))] [] ?_
      refine seqQ_norm ?_
      refine Wp.retN (by kernel_rfl) ?_
      refine blockQ_ret ?_
      refine seqQ_ret ?_
      obtain rfl := Option.some.inj h
      exact RetQ.ret (fl := [true]) (by kernel_rfl)
     ·refine cF ((t0.fOp == 5)) hb_7 ?_
      refine sN ?_
      refine rg0 hc 2 [(3, I e_3_2.fOp), (14, I t0.fOp), (39, .bool (t0.fOp == 8))] [] ?_
      refine seqQ_norm ?_
      rcases itesome h with ⟨hb_8, h⟩ | ⟨hb_8, h⟩
      ·refine cT ((t0.fOp == 8)) hb_8 ?_
       refine sN ?_
       obtain ⟨v_9, hj_10, h⟩ := bsome h
       refine Wp.into (x := .normal) (mkS [(2, .bool v_9)] []) ?_ ?_
       ·replace h := hj_10
        rcases itesome h with ⟨hb_14_0, h⟩ | ⟨hb_14_0, h⟩
        ·refine rg hc none [oN, oN, oN, o_, o_, oT, oN] [(2, .bool true)] [] (ar 2 (neF hb_14_0) (ai hb_14_0 trivial)) ?_
         obtain rfl := Option.some.inj h
         exact Into.mk
        ·refine rg hc none [oN, oN, oN, oN, oN, oF, oN] [(2, .bool (e_3_2.fOp == 7))] [] (ar 3 hb_14_0 trivial) ?_
         obtain rfl := Option.some.inj h
         exact Into.mk
       ·clear hj_10
        refine seqQ_norm ?_
        refine Wp.retN (by kernel_rfl) ?_
        refine blockQ_ret ?_
        refine seqQ_ret ?_
        obtain rfl := Option.some.inj h
        exact RetQ.ret (fl := [true]) (by kernel_rfl)
      ·refine cF ((t0.fOp == 8)) hb_8 ?_
       refine sN ?_
       refine rg0 hc 2 [(3, I e_3_2.fOp), (47, .bool (t0.fOp == 12))] [] ?_
       refine seqQ_norm ?_
       rcases itesome h with ⟨hb_11, h⟩ | ⟨hb_11, h⟩
       ·refine cT ((t0.fOp == 12)) hb_11 ?_
        refine sN ?_
        refine rg0 hc 3 [(2, .bool (e_3_2.fOp == 11))] [] ?_
        refine seqQ_norm ?_
        refine Wp.retN (by kernel_rfl) ?_
        refine blockQ_ret ?_
        refine seqQ_ret ?_
        obtain rfl := Option.some.inj h
        exact RetQ.ret (fl := [true]) (by kernel_rfl)
       ·refine cF ((t0.fOp == 12)) hb_11 ?_
        refine Wp.skipN (by kernel_rfl) ?_
        refine blockQ_norm ?_
        refine seqQ_norm ?_
        refine sN ?_
        refine rg0 hc 1 [(2, .bool false)] [] ?_
        refine seqQ_norm ?_
        refine Wp.retN (by kernel_rfl) ?_
        obtain rfl := Option.some.inj h
        exact RetQ.ret (fl := [true]) (by kernel_rfl)
def impl_IsRedex (t0 : GTerm) : Option (Bool) :=
  (
   (impl_IsWritten t0) >>= fun r_1_1 =>
   if r_1_1 = true then
    (impl_isRedex t0) >>= fun r_1_4 =>
    some (r_1_4)
   else
    some (false)
  ) >>= fun v_1 =>
  some v_1
def M_impl_IsRedex (t0 : GTerm) (r : Bool) : Prop :=
 FnSound Try.prog 81 [aTerm t0] (.bool r) []
theorem impl_IsRedex_s : ∀ p r, impl_IsRedex p = some r → M_impl_IsRedex p r := by
 rintro t0 r h
 unfold impl_IsRedex at h
 show FnSound Try.prog 81 [aTerm t0] (.bool r) []
 refine FnSound.body0 tiok (fn := Try.f81) (code := B81) (by kernel_rfl) (by kernel_rfl) (by kernel_rfl) (by kernel_rfl) (nt := 9) (by kernel_rfl) (by kernel_rfl) (T := [(0, aTerm t0)]) (O := []) (by kernel_rfl) (by kernel_rfl) (fun c hc => ?_)
 refine sN ?_
 refine rg hc none [some (.new 1), oN] [(1, .ra 1 0)] [(1, bTerm t0)] trivial ?_
 refine seqQ_norm ?_
 refine sN ?_
 obtain ⟨v_1, hj_2, h⟩ := bsome h
 refine Wp.into (x := .normal) (mkS [(2, .bool v_1)] []) ?_ ?_
 ·replace h := hj_2
  obtain ⟨r_1_1, hr_1_1, h⟩ := bsome h
  rcases itesome h with ⟨hb_1_0, h⟩ | ⟨hb_1_0, h⟩
  ·obtain ⟨r_1_4, hr_1_4, h⟩ := bsome h
   refine rg hc none [oN, oc (.bool r_1_1), oN, oN, oc (.bool r_1_4), oT, oN] [(2, .bool r_1_4)] [] (ai (impl_IsWritten_s _ _ hr_1_1) (ai bod_60 (ai (oi (.bool r_1_1)) (ar 2 hb_1_0 (ai (impl_isRedex_s _ _ hr_1_4) (ai bod_96 (ai (oi (.bool r_1_4)) (ai hb_1_0 trivial)))))))) ?_
   obtain rfl := Option.some.inj h
   exact Into.mk
  ·refine rg hc none [oN, oc (.bool r_1_1), oN, o_, o_, oF, oN] [(2, .bool false)] [] (ai (impl_IsWritten_s _ _ hr_1_1) (ai bod_60 (ai (oi (.bool r_1_1)) (ar 2 (neT hb_1_0) (ai hb_1_0 trivial))))) ?_
   obtain rfl := Option.some.inj h
   exact Into.mk
 ·clear hj_2
  refine seqQ_norm ?_
  refine Wp.retN (by kernel_rfl) ?_
  obtain rfl := Option.some.inj h
  exact RetQ.ret (fl := [true]) (by kernel_rfl)
def slices_Clone_int (s0 : (List Int)) : Option ((List Int)) :=
  (fits (([] : List Int).length + s0.length) 8) >>= fun _ =>
  some s0
def M_slices_Clone_int (s0 : (List Int)) (r : (List Int)) : Prop :=
 FnSound Try.prog 105 [sI s0] (.osl (List.map I r)) []
theorem slices_Clone_int_s : ∀ p r, slices_Clone_int p = some r → M_slices_Clone_int p r := by
 rintro s0 r h
 unfold slices_Clone_int at h
 show FnSound Try.prog 105 [sI s0] (.osl (List.map I r)) []
 refine FnSound.body0 tiok (fn := Try.f105) (code := B105) (by kernel_rfl) (by kernel_rfl) (by kernel_rfl) (by kernel_rfl) (nt := 8) (by kernel_rfl) (by kernel_rfl) (T := [(0, sI s0)]) (O := []) (by kernel_rfl) (by kernel_rfl) (fun c hc => ?_)
 refine sN ?_
 refine rg0 hc 1 [(0, sI s0)] [] ?_
 refine seqQ_norm ?_
 refine sN ?_
 refine sN ?_
 refine rg0 hc 2 [(0, sI s0), (4, .nilq (List.map I s0))] [] ?_
 refine seqQ_norm ?_
 refine Wp.condNil (xs := List.map I s0) (by kernel_rfl) (by kernel_rfl) (fun hn => ?_) ?_
 ·replace hn := List.map_eq_nil_iff.1 hn
  replace h : (some []) = some r := by rw [hn] at h; simpa [fits, chk] using h
  refine sN ?_
  refine rg0 hc 1 [(2, .nils)] [] ?_
  refine seqQ_norm ?_
  refine Wp.retN (by kernel_rfl) ?_
  refine seqQ_ret ?_
  obtain rfl := Option.some.inj h
  exact RetQ.ret (fl := [true]) (by kernel_rfl)
 ·refine Wp.skipN (by kernel_rfl) ?_
  refine seqQ_norm ?_
  refine sN ?_
  obtain ⟨_, hk_3_2, h⟩ := bsome h
  refine rg hc none [some (.mk 1 true), oN, some (.eqv (.mk 2 true) ⟨[(7, .rs 2)], [(2, some (.arr (List.map I s0))), (1, none)], [2]⟩), oN] [(2, .rs 2)] [(2, .arr (List.map I s0))] (ai (congrArg (fun z => (⟨[(7, .rs 2)], [(2, some (.arr z)), (1, none)], [2]⟩ : Wr)) (List.nil_append _ : [] ++ (List.map I s0) = List.map I s0)) (ai (app_ob (enc1 := I) (enc2 := I) (e1 := []) (e2 := s0) (sz := 1) ek_I ek_I hk_3_2) trivial)) ?_
  refine seqQ_norm ?_
  refine Wp.retN (by kernel_rfl) ?_
  obtain rfl := Option.some.inj h
  exact RetQ.ret (fl := [true]) (by kernel_rfl)
def impl_copyTerm_F1 (c : Ctx) (t0 : GTerm) (r_1_6 : List Int) : (List GTerm) → Exit → AState → Prop
 | out_6 => Into c (.exit 0) (mkS [(2, .ra 2 0), (3, .ra 4 0)] [(2, .box [I 0, I 0, .nils, .nils]), (3, .arr (List.map I r_1_6)), (4, .box [I t0.fOp, I t0.fN, .rs 3, .rs 10]), (10, .arr (List.map GTerm_O out_6))])
mutual
def impl_copyTerm (t0 : GTerm) : Option (GTerm) :=
  (slices_Clone_int t0.fType) >>= fun r_1_6 =>
  (impl_copyTerm_l0 (t0, r_1_6, [], 0)) >>= fun out_6 =>
  some (GTerm.mk t0.fOp t0.fN r_1_6 out_6)
 partial_fixpoint
def impl_copyTerm_l0 (p : GTerm × (List Int) × (List GTerm) × Int) : Option ((List GTerm)) :=
 match p with
 | (t0, r_1_6, out_4, w_2) =>
  if (decide (w_2 < (t0.fKids.length : Int))) = true then
   (idx t0.fKids w_2) >>= fun e_4_0 =>
   (impl_copyTerm e_4_0) >>= fun r_5_3 =>
   (fits (out_4.length + [r_5_3].length) 64) >>= fun _ =>
   impl_copyTerm_l0 (t0, r_1_6, (out_4 ++ [r_5_3]), (wr (w_2 + 1)))
  else
   some (out_4)
 partial_fixpoint
end
def M_impl_copyTerm (t0 : GTerm) (r : GTerm) : Prop :=
 FnSound Try.prog 130 [aTerm t0] (qTerm r) []
def M_impl_copyTerm_l0 (p : GTerm × (List Int) × (List GTerm) × Int) (fl : (List GTerm)) : Prop :=
 match p with
 | (t0, r_1_6, out_4, w_2) => ∀ c : Ctx, c.nt = 30 → WpL Try.prog c (cl (cl (cr (cl (cr (cr B130)))))) (impl_copyTerm_F1 c t0 r_1_6 fl) (mkS [(2, .ra 2 0), (3, .ra 4 0), (15, .sl (List.map GTerm_S t0.fKids)), (16, I (t0.fKids.length : Int)), (17, I w_2)] [(2, .box [I 0, I 0, .nils, .nils]), (3, .arr (List.map I r_1_6)), (4, .box [I t0.fOp, I t0.fN, .rs 3, .rs 10]), (10, .arr (List.map GTerm_O out_4))])
theorem impl_copyTerm_all : (∀ p r, impl_copyTerm p = some r → M_impl_copyTerm p r) ∧ (∀ p r, impl_copyTerm_l0 p = some r → M_impl_copyTerm_l0 p r) := by
 refine impl_copyTerm.mutual_partial_correctness M_impl_copyTerm M_impl_copyTerm_l0 ?_ ?_
 ·rintro impl_copyTerm_l0_f impl_copyTerm_l0_ih t0 r h
  show FnSound Try.prog 130 [aTerm t0] (qTerm r) []
  refine FnSound.body0 tiok (fn := Try.f130) (code := B130) (by kernel_rfl) (by kernel_rfl) (by kernel_rfl) (by kernel_rfl) (nt := 30) (by kernel_rfl) (by kernel_rfl) (T := [(0, aTerm t0)]) (O := []) (by kernel_rfl) (by kernel_rfl) (fun c hc => ?_)
  refine sN ?_
  refine rg hc none [some (.new 1), some (.new 2)] [(1, .ra 1 0), (2, .ra 2 0)] [(1, bTerm t0), (2, .box [I 0, I 0, .nils, .nils])] trivial ?_
  refine seqQ_norm ?_
  refine sN ?_
  obtain ⟨r_1_6, hr_1_6, h⟩ := bsome h
  refine rg hc ah3_0 [oN, oN, oN, oN, oN, oN, some (.call (.osl (List.map I r_1_6)) [] 3), oN, some (.new 4), oN] [(1, .ra 1 0), (2, .ra 2 0), (3, .ra 4 0)] [(1, bTerm t0), (2, .box [I 0, I 0, .nils, .nils]), (3, .arr (List.map I r_1_6)), (4, .box [I t0.fOp, I t0.fN, .rs 3, .nils])] (ai (slices_Clone_int_s _ _ hr_1_6) (ai bod_105 (ai (oi (.osl (List.map I r_1_6))) trivial))) ?_
  refine seqQ_norm ?_
  refine sN ?_
  refine sN ?_
  refine rg hc none [oN, oN, some (.eqv (.no) ⟨[(16, I (t0.fKids.length : Int))], [], []⟩), oN] [(2, .ra 2 0), (3, .ra 4 0), (15, .sl (List.map GTerm_S t0.fKids)), (16, I (t0.fKids.length : Int)), (17, I 0)] [(2, .box [I 0, I 0, .nils, .nils]), (3, .arr (List.map I r_1_6)), (4, .box [I t0.fOp, I t0.fN, .rs 3, .nils])] (ai (lenT (d := 16) GTerm_S t0.fKids) trivial) ?_
  refine seqQ_norm ?_
  refine Wp.blockN (i := 0) (by kernel_rfl) ?_
  obtain ⟨out_6, hl_7, h⟩ := bsome h
  have hL := impl_copyTerm_l0_ih _ _ hl_7 c hc
  refine Wp.loopN (by kernel_rfl) (WpL.view (fun a w hv => SRx.renL [(10, 21)] (SRx.nilBL 4 3 21 [I t0.fOp, I t0.fN, .rs 3, .nils] hv (by kernel_rfl) (by kernel_rfl) (by kernel_rfl)) (by kernel_rfl) (by kernel_rfl) (by kernel_rfl)) (?_ : WpL _ c _ _ (mkS [(2, .ra 2 0), (3, .ra 4 0), (15, .sl (List.map GTerm_S t0.fKids)), (16, I (t0.fKids.length : Int)), (17, I 0)] [(2, .box [I 0, I 0, .nils, .nils]), (3, .arr (List.map I r_1_6)), (4, .box [I t0.fOp, I t0.fN, .rs 3, .rs 10]), (10, .arr (List.map GTerm_O []))])))
  ·refine WpL.into (e := (.exit 0)) (mkS [(2, .ra 2 0), (3, .ra 4 0)] [(2, .box [I 0, I 0, .nils, .nils]), (3, .arr (List.map I r_1_6)), (4, .box [I t0.fOp, I t0.fN, .rs 3, .rs 10]), (10, .arr (List.map GTerm_O out_6))]) hL ?_
   refine blockQ_hit ?_
   refine seqQ_norm ?_
   refine sN ?_
   refine rg0 hc 2 [(2, .ra 2 0)] [(2, .box [I t0.fOp, I t0.fN, .rs 3, .rs 10]), (3, .arr (List.map I r_1_6)), (10, .arr (List.map GTerm_O out_6))] ?_
   refine seqQ_norm ?_
   refine Wp.retN (by kernel_rfl) ?_
   obtain rfl := Option.some.inj h
   exact RetQ.ret (fl := [true]) (by kernel_rfl)
 ·rintro impl_copyTerm_f impl_copyTerm_l0_f impl_copyTerm_ih impl_copyTerm_l0_ih ⟨t0, r_1_6, out_4, w_2⟩ r h
  intro c hc
  show WpL Try.prog c (cl (cl (cr (cl (cr (cr B130)))))) (impl_copyTerm_F1 c t0 r_1_6 r) (mkS [(2, .ra 2 0), (3, .ra 4 0), (15, .sl (List.map GTerm_S t0.fKids)), (16, I (t0.fKids.length : Int)), (17, I w_2)] [(2, .box [I 0, I 0, .nils, .nils]), (3, .arr (List.map I r_1_6)), (4, .box [I t0.fOp, I t0.fN, .rs 3, .rs 10]), (10, .arr (List.map GTerm_O out_4))])
  refine WpL.step ?_
  refine sN ?_
  refine rg0 hc 1 [(2, .ra 2 0), (3, .ra 4 0), (15, .sl (List.map GTerm_S t0.fKids)), (16, I (t0.fKids.length : Int)), (17, I w_2), (18, .bool (decide (w_2 < (t0.fKids.length : Int))))] [(2, .box [I 0, I 0, .nils, .nils]), (3, .arr (List.map I r_1_6)), (4, .box [I t0.fOp, I t0.fN, .rs 3, .rs 10]), (10, .arr (List.map GTerm_O out_4))] ?_
  refine seqQ_norm ?_
  refine sN ?_
  rcases itesome h with ⟨hb_5, h⟩ | ⟨hb_5, h⟩
  ·refine cT ((decide (w_2 < (t0.fKids.length : Int)))) hb_5 ?_
   refine Wp.skipN (by kernel_rfl) ?_
   refine seqQ_norm ?_
   refine sN ?_
   refine Wp.blockN (i := 1) (by kernel_rfl) ?_
   refine sN ?_
   obtain ⟨e_4_0, hi_4_0, h⟩ := bsome h
   refine rg hc none [some (.el (aTerm e_4_0)), oN, some (.new 16), oN] [(2, .ra 2 0), (3, .ra 4 0), (5, .ra 16 0), (15, .sl (List.map GTerm_S t0.fKids)), (16, I (t0.fKids.length : Int)), (17, I w_2)] [(2, .box [I 0, I 0, .nils, .nils]), (3, .arr (List.map I r_1_6)), (4, .box [I t0.fOp, I t0.fN, .rs 3, .rs 10]), (10, .arr (List.map GTerm_O out_4)), (16, bTerm e_4_0)] (ai (idx_sl (enc := GTerm_S) (x := aTerm e_4_0) hi_4_0 (eq_GTerm_S e_4_0)) trivial) ?_
   refine seqQ_norm ?_
   obtain ⟨r_5_3, hr_5_3, h⟩ := bsome h
   obtain ⟨_, hk_5_5, h⟩ := bsome h
   refine rg hc (rx [[0], [1], [0], [0, 2], [0, 2, 3], [5], [6], [7]]) [oN, oN, oN, some (.call (qTerm r_5_3) [] 17), some (.eqv (.mk 19 true) ⟨[(25, .rs 19)], [(19, some (.arr (List.map GTerm_O [r_5_3]))), (17, none), (18, none)], [19]⟩), some (.eqv (.mk 20 true) ⟨[(26, .rs 20)], [(20, some (.arr (List.map GTerm_O (out_4 ++ [r_5_3])))), (10, none), (19, none)], [20]⟩), oN, oN] [(2, .ra 2 0), (3, .ra 4 0), (15, .sl (List.map GTerm_S t0.fKids)), (16, I (t0.fKids.length : Int)), (17, I w_2)] [(2, .box [I 0, I 0, .nils, .nils]), (3, .arr (List.map I r_1_6)), (4, .box [I t0.fOp, I t0.fN, .rs 3, .rs 20]), (20, .arr (List.map GTerm_O (out_4 ++ [r_5_3])))] (ai (impl_copyTerm_ih _ _ hr_5_3) (ai bod_130 (ai (oi (qTerm r_5_3)) (ai (congrArg (fun z => (⟨[(25, .rs 19)], [(19, some (.arr z)), (17, none), (18, none)], [19]⟩ : Wr)) ((rows1 (eq_GTerm_O r_5_3) rows0) : [AV.agg [I r_5_3.fOp, I r_5_3.fN, AV.osl (List.map I r_5_3.fType), AV.osl (List.map GTerm_O r_5_3.fKids)]] = List.map GTerm_O [r_5_3])) (ai (congrArg (fun z => (⟨[(26, .rs 20)], [(20, some (.arr z)), (10, none), (19, none)], [20]⟩ : Wr)) ((List.map_append).symm : (List.map GTerm_O out_4) ++ (List.map GTerm_O [r_5_3]) = List.map GTerm_O (out_4 ++ [r_5_3]))) (ai (app_ob (enc1 := GTerm_O) (enc2 := GTerm_O) (e1 := out_4) (e2 := [r_5_3]) (sz := 4) ek_GTerm_O ek_GTerm_O hk_5_5) trivial)))))) ?_
   refine blockQ_norm ?_
   refine seqQ_norm ?_
   refine rg0 hc 2 [(2, .ra 2 0), (3, .ra 4 0), (15, .sl (List.map GTerm_S t0.fKids)), (16, I (t0.fKids.length : Int)), (17, I (wr (w_2 + 1)))] [(2, .box [I 0, I 0, .nils, .nils]), (3, .arr (List.map I r_1_6)), (4, .box [I t0.fOp, I t0.fN, .rs 3, .rs 20]), (20, .arr (List.map GTerm_O (out_4 ++ [r_5_3])))] ?_
   refine loopQ_norm ?_
   exact WpL.view (fun a w hv => SRx.renL [(10, 20)] hv (by kernel_rfl) (by kernel_rfl) (by kernel_rfl)) (impl_copyTerm_l0_ih _ _ h c hc)
  ·refine cF ((decide (w_2 < (t0.fKids.length : Int)))) hb_5 ?_
   refine Wp.exitN (i := 0) (by kernel_rfl) ?_
   refine seqQ_exit ?_
   refine loopQ_exit ?_
   obtain rfl := Option.some.inj h
   exact Into.view (fun a w hv => SRx.renL [] hv (by kernel_rfl) (by kernel_rfl) (by kernel_rfl))
theorem impl_copyTerm_s : ∀ p r, impl_copyTerm p = some r → M_impl_copyTerm p r := impl_copyTerm_all.1
theorem impl_copyTerm_l0_s : ∀ p r, impl_copyTerm_l0 p = some r → M_impl_copyTerm_l0 p r := impl_copyTerm_all.2
def impl_shifted_c1 (p : GTerm × Int × Int × Int) : Option (GTerm) :=
 match p with
 | (v0, deep1, cap0, cap1) =>
  (
   if (decide ((wr (v0.fN - deep1)) ≥ cap0)) = true then
    some ((wr (v0.fN + cap1)))
   else
    some (v0.fN)
  ) >>= fun v_2 =>
  (impl_copyTerm (GTerm.mk v0.fOp v_2 v0.fType v0.fKids)) >>= fun r_3_1 =>
  some r_3_1
def M_impl_shifted_c1 (p : GTerm × Int × Int × Int) (r : GTerm) : Prop :=
 match p with
 | (v0, deep1, cap0, cap1) => FnSound Try.prog 162 [aTerm v0, I deep1, .ptr [I cap0] 0, .ptr [I cap1] 0] (qTerm r) []
theorem impl_shifted_c1_s : ∀ p r, impl_shifted_c1 p = some r → M_impl_shifted_c1 p r := by
 rintro ⟨v0, deep1, cap0, cap1⟩ r h
 unfold impl_shifted_c1 at h
 show FnSound Try.prog 162 [aTerm v0, I deep1, .ptr [I cap0] 0, .ptr [I cap1] 0] (qTerm r) []
 refine FnSound.body0 tiok (fn := Try.f162) (code := B162) (by kernel_rfl) (by kernel_rfl) (by kernel_rfl) (by kernel_rfl) (nt := 20) (by kernel_rfl) (by kernel_rfl) (T := [(0, aTerm v0), (1, I deep1), (2, .ptr [I cap0] 0), (3, .ptr [I cap1] 0)]) (O := []) (by kernel_rfl) (by kernel_rfl) (fun c hc => ?_)
 refine sN ?_
 refine rg hc none [some (.new 1), some (.new 2)] [(1, I deep1), (2, .ptr [I cap0] 0), (3, .ptr [I cap1] 0), (4, .ra 1 0), (6, .ra 2 0)] [(1, bTerm v0), (2, .box [I 0, I 0, .nils, .nils])] trivial ?_
 refine seqQ_norm ?_
 refine sN ?_
 refine sN ?_
 refine rg0 hc 6 [(3, .ptr [I cap1] 0), (4, .ra 1 0), (6, .ra 2 0), (12, .bool (decide ((wr (v0.fN - deep1)) ≥ cap0)))] [(1, bTerm v0), (2, .box [I 0, I 0, .nils, .nils])] ?_
 refine seqQ_norm ?_
 obtain ⟨v_2, hj_3, h⟩ := bsome h
 refine Wp.into (x := .normal) (mkS [(4, .ra 1 0), (6, .ra 2 0)] [(1, .box [I v0.fOp, I v_2, sI v0.fType, .sl (List.map GTerm_S v0.fKids)]), (2, .box [I 0, I 0, .nils, .nils])]) ?_ ?_
 ·replace h := hj_3
  rcases itesome h with ⟨hb_1, h⟩ | ⟨hb_1, h⟩
  ·refine cT ((decide ((wr (v0.fN - deep1)) ≥ cap0))) hb_1 ?_
   refine rg0 hc 6 [(4, .ra 1 0), (6, .ra 2 0)] [(1, .box [I v0.fOp, I (wr (v0.fN + cap1)), sI v0.fType, .sl (List.map GTerm_S v0.fKids)]), (2, .box [I 0, I 0, .nils, .nils])] ?_
   obtain rfl := Option.some.inj h
   exact Into.mk
  ·refine cF ((decide ((wr (v0.fN - deep1)) ≥ cap0))) hb_1 ?_
   refine Wp.skipN (by kernel_rfl) ?_
   obtain rfl := Option.some.inj h
   exact Into.view (fun a w hv => SRx.renL [] hv (by kernel_rfl) (by kernel_rfl) (by kernel_rfl))
 ·clear hj_3
  refine seqQ_norm ?_
  refine sN ?_
  obtain ⟨r_3_1, hr_3_1, h⟩ := bsome h
  refine rg hc none [oN, some (.call (qTerm r_3_1) [] 3), oN] [(6, .ra 2 0)] [(2, .box [I r_3_1.fOp, I r_3_1.fN, .rs 3, .rs 4]), (3, .arr (List.map I r_3_1.fType)), (4, .arr (List.map GTerm_O r_3_1.fKids))] (ai (impl_copyTerm_s _ _ hr_3_1) (ai bod_130 (ai (oi (qTerm r_3_1)) trivial))) ?_
  refine seqQ_norm ?_
  refine Wp.retN (by kernel_rfl) ?_
  obtain rfl := Option.some.inj h
  exact RetQ.ret (fl := [true]) (by kernel_rfl)
def impl_renamed_Kimpl_shifted_c1_F1 (c : Ctx) (t0 : GTerm) (r_3_6 : List Int) : (List GTerm) → Exit → AState → Prop
 | out_7 => Into c (.exit 0) (mkS [(6, .ra 2 0), (7, .ra 6 0)] [(2, .box [I 0, I 0, .nils, .nils]), (5, .arr (List.map I r_3_6)), (6, .box [I t0.fOp, I t0.fN, .rs 5, .rs 12]), (12, .arr (List.map GTerm_O out_7))])
mutual
def impl_renamed_Kimpl_shifted_c1 (p : GTerm × Int × Int × Int) : Option (GTerm) :=
 match p with
 | (t0, deep1, clo2_0, clo2_1) =>
  if (t0.fOp == 0) = true then
   (impl_shifted_c1 (t0, deep1, clo2_0, clo2_1)) >>= fun r_2_3 =>
   some r_2_3
  else
   (slices_Clone_int t0.fType) >>= fun r_3_6 =>
   (impl_renamed_Kimpl_shifted_c1_l0 (t0, deep1, clo2_0, clo2_1, r_3_6, [], 0)) >>= fun out_7 =>
   some (GTerm.mk t0.fOp t0.fN r_3_6 out_7)
 partial_fixpoint
def impl_renamed_Kimpl_shifted_c1_l0 (p : GTerm × Int × Int × Int × (List Int) × (List GTerm) × Int) : Option ((List GTerm)) :=
 match p with
 | (t0, deep1, clo2_0, clo2_1, r_3_6, out_5, w_3) =>
  if (decide (w_3 < (t0.fKids.length : Int))) = true then
   (idx t0.fKids w_3) >>= fun e_6_1 =>
   (impl_adds (t0.fOp, w_3)) >>= fun r_7_7 =>
   (impl_renamed_Kimpl_shifted_c1 (e_6_1, (wr (deep1 + r_7_7)), clo2_0, clo2_1)) >>= fun r_7_10 =>
   (fits (out_5.length + [r_7_10].length) 64) >>= fun _ =>
   impl_renamed_Kimpl_shifted_c1_l0 (t0, deep1, clo2_0, clo2_1, r_3_6, (out_5 ++ [r_7_10]), (wr (w_3 + 1)))
  else
   some (out_5)
 partial_fixpoint
end
def M_impl_renamed_Kimpl_shifted_c1 (p : GTerm × Int × Int × Int) (r : GTerm) : Prop :=
 match p with
 | (t0, deep1, clo2_0, clo2_1) => FnSound Try.prog 160 [aTerm t0, I deep1, .fn 162 [.ptr [I clo2_0] 0, .ptr [I clo2_1] 0]] (qTerm r) []
def M_impl_renamed_Kimpl_shifted_c1_l0 (p : GTerm × Int × Int × Int × (List Int) × (List GTerm) × Int) (fl : (List GTerm)) : Prop :=
 match p with
 | (t0, deep1, clo2_0, clo2_1, r_3_6, out_5, w_3) => ∀ c : Ctx, c.nt = 49 → WpL Try.prog c (cl (cl (cr (cl (cr (cr (cr B160))))))) (impl_renamed_Kimpl_shifted_c1_F1 c t0 r_3_6 fl) (mkS [(1, I deep1), (2, .fn 162 [.ptr [I clo2_0] 0, .ptr [I clo2_1] 0]), (3, .ra 1 0), (6, .ra 2 0), (7, .ra 6 0), (26, .sl (List.map GTerm_S t0.fKids)), (27, I (t0.fKids.length : Int)), (28, I w_3)] [(1, bTerm t0), (2, .box [I 0, I 0, .nils, .nils]), (5, .arr (List.map I r_3_6)), (6, .box [I t0.fOp, I t0.fN, .rs 5, .rs 12]), (12, .arr (List.map GTerm_O out_5))])
theorem impl_renamed_Kimpl_shifted_c1_all : (∀ p r, impl_renamed_Kimpl_shifted_c1 p = some r → M_impl_renamed_Kimpl_shifted_c1 p r) ∧ (∀ p r, impl_renamed_Kimpl_shifted_c1_l0 p = some r → M_impl_renamed_Kimpl_shifted_c1_l0 p r) := by
 refine impl_renamed_Kimpl_shifted_c1.mutual_partial_correctness M_impl_renamed_Kimpl_shifted_c1 M_impl_renamed_Kimpl_shifted_c1_l0 ?_ ?_
 ·rintro impl_renamed_Kimpl_shifted_c1_l0_f impl_renamed_Kimpl_shifted_c1_l0_ih ⟨t0, deep1, clo2_0, clo2_1⟩ r h
  show FnSound Try.prog 160 [aTerm t0, I deep1, .fn 162 [.ptr [I clo2_0] 0, .ptr [I clo2_1] 0]] (qTerm r) []
  refine FnSound.body0 tiok (fn := Try.f160) (code := B160) (by kernel_rfl) (by kernel_rfl) (by kernel_rfl) (by kernel_rfl) (nt := 49) (by kernel_rfl) (by kernel_rfl) (T := [(0, aTerm t0), (1, I deep1), (2, .fn 162 [.ptr [I clo2_0] 0, .ptr [I clo2_1] 0])]) (O := []) (by kernel_rfl) (by kernel_rfl) (fun c hc => ?_)
  refine sN ?_
  refine rg hc none [some (.new 1), some (.new 2)] [(1, I deep1), (2, .fn 162 [.ptr [I clo2_0] 0, .ptr [I clo2_1] 0]), (3, .ra 1 0), (6, .ra 2 0)] [(1, bTerm t0), (2, .box [I 0, I 0, .nils, .nils])] trivial ?_
  refine seqQ_norm ?_
  refine sN ?_
  refine sN ?_
  refine rg0 hc 3 [(1, I deep1), (2, .fn 162 [.ptr [I clo2_0] 0, .ptr [I clo2_1] 0]), (3, .ra 1 0), (6, .ra 2 0), (12, .bool (t0.fOp == 0))] [(1, bTerm t0), (2, .box [I 0, I 0, .nils, .nils])] ?_
  refine seqQ_norm ?_
  rcases itesome h with ⟨hb_1, h⟩ | ⟨hb_1, h⟩
  ·refine cT ((t0.fOp == 0)) hb_1 ?_
   refine sN ?_
   obtain ⟨r_2_3, hr_2_3, h⟩ := bsome h
   refine rg hc none [oN, oN, oN, some (.call (qTerm r_2_3) [] 3), oN] [(6, .ra 2 0)] [(2, .box [I r_2_3.fOp, I r_2_3.fN, .rs 3, .rs 4]), (3, .arr (List.map I r_2_3.fType)), (4, .arr (List.map GTerm_O r_2_3.fKids))] (ai (impl_shifted_c1_s _ _ hr_2_3) (ai bod_162 (ai (oi (qTerm r_2_3)) trivial))) ?_
   refine seqQ_norm ?_
   refine Wp.retN (by kernel_rfl) ?_
   refine seqQ_ret ?_
   obtain rfl := Option.some.inj h
   exact RetQ.ret (fl := [true]) (by kernel_rfl)
  ·refine cF ((t0.fOp == 0)) hb_1 ?_
   refine Wp.skipN (by kernel_rfl) ?_
   refine seqQ_norm ?_
   refine sN ?_
   obtain ⟨r_3_6, hr_3_6, h⟩ := bsome h
   refine rg hc ah3_0 [oN, oN, oN, oN, oN, oN, some (.call (.osl (List.map I r_3_6)) [] 5), oN, some (.new 6), oN] [(1, I deep1), (2, .fn 162 [.ptr [I clo2_0] 0, .ptr [I clo2_1] 0]), (3, .ra 1 0), (6, .ra 2 0), (7, .ra 6 0)] [(1, bTerm t0), (2, .box [I 0, I 0, .nils, .nils]), (5, .arr (List.map I r_3_6)), (6, .box [I t0.fOp, I t0.fN, .rs 5, .nils])] (ai (slices_Clone_int_s _ _ hr_3_6) (ai bod_105 (ai (oi (.osl (List.map I r_3_6))) trivial))) ?_
   refine seqQ_norm ?_
   refine sN ?_
   refine sN ?_
   refine rg hc none [oN, oN, some (.eqv (.no) ⟨[(27, I (t0.fKids.length : Int))], [], []⟩), oN] [(1, I deep1), (2, .fn 162 [.ptr [I clo2_0] 0, .ptr [I clo2_1] 0]), (3, .ra 1 0), (6, .ra 2 0), (7, .ra 6 0), (26, .sl (List.map GTerm_S t0.fKids)), (27, I (t0.fKids.length : Int)), (28, I 0)] [(1, bTerm t0), (2, .box [I 0, I 0, .nils, .nils]), (5, .arr (List.map I r_3_6)), (6, .box [I t0.fOp, I t0.fN, .rs 5, .nils])] (ai (lenT (d := 27) GTerm_S t0.fKids) trivial) ?_
   refine seqQ_norm ?_
   refine Wp.blockN (i := 0) (by kernel_rfl) ?_
   obtain ⟨out_7, hl_8, h⟩ := bsome h
   have hL := impl_renamed_Kimpl_shifted_c1_l0_ih _ _ hl_8 c hc
   refine Wp.loopN (by kernel_rfl) (WpL.view (fun a w hv => SRx.renL [(12, 23)] (SRx.nilBL 6 3 23 [I t0.fOp, I t0.fN, .rs 5, .nils] hv (by kernel_rfl) (by kernel_rfl) (by kernel_rfl)) (by kernel_rfl) (by kernel_rfl) (by kernel_rfl)) (?_ : WpL _ c _ _ (mkS [(1, I deep1), (2, .fn 162 [.ptr [I clo2_0] 0, .ptr [I clo2_1] 0]), (3, .ra 1 0), (6, .ra 2 0), (7, .ra 6 0), (26, .sl (List.map GTerm_S t0.fKids)), (27, I (t0.fKids.length : Int)), (28, I 0)] [(1, bTerm t0), (2, .box [I 0, I 0, .nils, .nils]), (5, .arr (List.map I r_3_6)), (6, .box [I t0.fOp, I t0.fN, .rs 5, .rs 12]), (12, .arr (List.map GTerm_O []))])))
   ·refine WpL.into (e := (.exit 0)) (mkS [(6, .ra 2 0), (7, .ra 6 0)] [(2, .box [I 0, I 0, .nils, .nils]), (5, .arr (List.map I r_3_6)), (6, .box [I t0.fOp, I t0.fN, .rs 5, .rs 12]), (12, .arr (List.map GTerm_O out_7))]) hL ?_
    refine blockQ_hit ?_
    refine seqQ_norm ?_
    refine sN ?_
    refine rg0 hc 2 [(6, .ra 2 0)] [(2, .box [I t0.fOp, I t0.fN, .rs 5, .rs 12]), (5, .arr (List.map I r_3_6)), (12, .arr (List.map GTerm_O out_7))] ?_
    refine seqQ_norm ?_
    refine Wp.retN (by kernel_rfl) ?_
    obtain rfl := Option.some.inj h
    exact RetQ.ret (fl := [true]) (by kernel_rfl)
 ·rintro impl_renamed_Kimpl_shifted_c1_f impl_renamed_Kimpl_shifted_c1_l0_f impl_renamed_Kimpl_shifted_c1_ih impl_renamed_Kimpl_shifted_c1_l0_ih ⟨t0, deep1, clo2_0, clo2_1, r_3_6, out_5, w_3⟩ r h
  intro c hc
  show WpL Try.prog c (cl (cl (cr (cl (cr (cr (cr B160))))))) (impl_renamed_Kimpl_shifted_c1_F1 c t0 r_3_6 r) (mkS [(1, I deep1), (2, .fn 162 [.ptr [I clo2_0] 0, .ptr [I clo2_1] 0]), (3, .ra 1 0), (6, .ra 2 0), (7, .ra 6 0), (26, .sl (List.map GTerm_S t0.fKids)), (27, I (t0.fKids.length : Int)), (28, I w_3)] [(1, bTerm t0), (2, .box [I 0, I 0, .nils, .nils]), (5, .arr (List.map I r_3_6)), (6, .box [I t0.fOp, I t0.fN, .rs 5, .rs 12]), (12, .arr (List.map GTerm_O out_5))])
  refine WpL.step ?_
  refine sN ?_
  refine rg0 hc 1 [(1, I deep1), (2, .fn 162 [.ptr [I clo2_0] 0, .ptr [I clo2_1] 0]), (3, .ra 1 0), (6, .ra 2 0), (7, .ra 6 0), (26, .sl (List.map GTerm_S t0.fKids)), (27, I (t0.fKids.length : Int)), (28, I w_3), (29, .bool (decide (w_3 < (t0.fKids.length : Int))))] [(1, bTerm t0), (2, .box [I 0, I 0, .nils, .nils]), (5, .arr (List.map I r_3_6)), (6, .box [I t0.fOp, I t0.fN, .rs 5, .rs 12]), (12, .arr (List.map GTerm_O out_5))] ?_
  refine seqQ_norm ?_
  refine sN ?_
  rcases itesome h with ⟨hb_6, h⟩ | ⟨hb_6, h⟩
  ·refine cT ((decide (w_3 < (t0.fKids.length : Int)))) hb_6 ?_
   refine Wp.skipN (by kernel_rfl) ?_
   refine seqQ_norm ?_
   refine sN ?_
   refine Wp.blockN (i := 1) (by kernel_rfl) ?_
   refine sN ?_
   obtain ⟨e_6_1, hi_6_1, h⟩ := bsome h
   refine rg hc none [oN, some (.el (aTerm e_6_1)), oN, some (.new 18), oN, oN] [(1, I deep1), (2, .fn 162 [.ptr [I clo2_0] 0, .ptr [I clo2_1] 0]), (3, .ra 1 0), (6, .ra 2 0), (7, .ra 6 0), (8, I w_3), (9, .ra 18 0), (26, .sl (List.map GTerm_S t0.fKids)), (27, I (t0.fKids.length : Int)), (28, I w_3)] [(1, bTerm t0), (2, .box [I 0, I 0, .nils, .nils]), (5, .arr (List.map I r_3_6)), (6, .box [I t0.fOp, I t0.fN, .rs 5, .rs 12]), (12, .arr (List.map GTerm_O out_5)), (18, bTerm e_6_1)] (ai (idx_sl (enc := GTerm_S) (x := aTerm e_6_1) hi_6_1 (eq_GTerm_S e_6_1)) trivial) ?_
   refine seqQ_norm ?_
   obtain ⟨r_7_7, hr_7_7, h⟩ := bsome h
   obtain ⟨r_7_10, hr_7_10, h⟩ := bsome h
   obtain ⟨_, hk_7_12, h⟩ := bsome h
   refine rg hc (rx [[0], [1], [0], [0], [0], [0, 4], [0], [0, 4, 5, 6], [0, 3, 4, 5, 6, 7], [0], [0, 2, 3, 4, 5, 6, 7, 8, 9], [0, 2, 3, 4, 5, 6, 7, 8, 9, 10], [12], [13], [14]]) [oN, oN, oN, oN, oN, oN, oN, oc (I r_7_7), oN, oN, some (.call (qTerm r_7_10) [] 19), some (.eqv (.mk 21 true) ⟨[(44, .rs 21)], [(21, some (.arr (List.map GTerm_O [r_7_10]))), (19, none), (20, none)], [21]⟩), some (.eqv (.mk 22 true) ⟨[(45, .rs 22)], [(22, some (.arr (List.map GTerm_O (out_5 ++ [r_7_10])))), (12, none), (21, none)], [22]⟩), oN, oN] [(1, I deep1), (2, .fn 162 [.ptr [I clo2_0] 0, .ptr [I clo2_1] 0]), (3, .ra 1 0), (6, .ra 2 0), (7, .ra 6 0), (26, .sl (List.map GTerm_S t0.fKids)), (27, I (t0.fKids.length : Int)), (28, I w_3)] [(1, bTerm t0), (2, .box [I 0, I 0, .nils, .nils]), (5, .arr (List.map I r_3_6)), (6, .box [I t0.fOp, I t0.fN, .rs 5, .rs 22]), (22, .arr (List.map GTerm_O (out_5 ++ [r_7_10])))] (ai (impl_adds_s _ _ hr_7_7) (ai bod_165 (ai (oi (I r_7_7)) (ai (impl_renamed_Kimpl_shifted_c1_ih _ _ hr_7_10) (ai bod_160 (ai (oi (qTerm r_7_10)) (ai (congrArg (fun z => (⟨[(44, .rs 21)], [(21, some (.arr z)), (19, none), (20, none)], [21]⟩ : Wr)) ((rows1 (eq_GTerm_O r_7_10) rows0) : [AV.agg [I r_7_10.fOp, I r_7_10.fN, AV.osl (List.map I r_7_10.fType), AV.osl (List.map GTerm_O r_7_10.fKids)]] = List.map GTerm_O [r_7_10])) (ai (congrArg (fun z => (⟨[(45, .rs 22)], [(22, some (.arr z)), (12, none), (21, none)], [22]⟩ : Wr)) ((List.map_append).symm : (List.map GTerm_O out_5) ++ (List.map GTerm_O [r_7_10]) = List.map GTerm_O (out_5 ++ [r_7_10]))) (ai (app_ob (enc1 := GTerm_O) (enc2 := GTerm_O) (e1 := out_5) (e2 := [r_7_10]) (sz := 4) ek_GTerm_O ek_GTerm_O hk_7_12) trivial))))))))) ?_
   refine blockQ_norm ?_
   refine seqQ_norm ?_
   refine rg0 hc 2 [(1, I deep1), (2, .fn 162 [.ptr [I clo2_0] 0, .ptr [I clo2_1] 0]), (3, .ra 1 0), (6, .ra 2 0), (7, .ra 6 0), (26, .sl (List.map GTerm_S t0.fKids)), (27, I (t0.fKids.length : Int)), (28, I (wr (w_3 + 1)))] [(1, bTerm t0), (2, .box [I 0, I 0, .nils, .nils]), (5, .arr (List.map I r_3_6)), (6, .box [I t0.fOp, I t0.fN, .rs 5, .rs 22]), (22, .arr (List.map GTerm_O (out_5 ++ [r_7_10])))] ?_
   refine loopQ_norm ?_
   exact WpL.view (fun a w hv => SRx.renL [(12, 22)] hv (by kernel_rfl) (by kernel_rfl) (by kernel_rfl)) (impl_renamed_Kimpl_shifted_c1_l0_ih _ _ h c hc)
  ·refine cF ((decide (w_3 < (t0.fKids.length : Int)))) hb_6 ?_
   refine Wp.exitN (i := 0) (by kernel_rfl) ?_
   refine seqQ_exit ?_
   refine loopQ_exit ?_
   obtain rfl := Option.some.inj h
   exact Into.view (fun a w hv => SRx.renL [] hv (by kernel_rfl) (by kernel_rfl) (by kernel_rfl))
theorem impl_renamed_Kimpl_shifted_c1_s : ∀ p r, impl_renamed_Kimpl_shifted_c1 p = some r → M_impl_renamed_Kimpl_shifted_c1 p r := impl_renamed_Kimpl_shifted_c1_all.1
theorem impl_renamed_Kimpl_shifted_c1_l0_s : ∀ p r, impl_renamed_Kimpl_shifted_c1_l0 p = some r → M_impl_renamed_Kimpl_shifted_c1_l0 p r := impl_renamed_Kimpl_shifted_c1_all.2
def impl_shifted (p : GTerm × Int × Int) : Option (GTerm) :=
 match p with
 | (t0, by1, from2) =>
  (impl_renamed_Kimpl_shifted_c1 (t0, 0, from2, by1)) >>= fun r_1_2 =>
  some r_1_2
def M_impl_shifted (p : GTerm × Int × Int) (r : GTerm) : Prop :=
 match p with
 | (t0, by1, from2) => FnSound Try.prog 132 [aTerm t0, I by1, I from2] (qTerm r) []
theorem impl_shifted_s : ∀ p r, impl_shifted p = some r → M_impl_shifted p r := by
 rintro ⟨t0, by1, from2⟩ r h
 unfold impl_shifted at h
 show FnSound Try.prog 132 [aTerm t0, I by1, I from2] (qTerm r) []
 refine FnSound.body0 tiok (fn := Try.f132) (code := B132) (by kernel_rfl) (by kernel_rfl) (by kernel_rfl) (by kernel_rfl) (nt := 10) (by kernel_rfl) (by kernel_rfl) (T := [(0, aTerm t0), (1, I by1), (2, I from2)]) (O := []) (by kernel_rfl) (by kernel_rfl) (fun c hc => ?_)
 refine sN ?_
 refine rg hc none [some (.new 1), some (.new 2), some (.new 3), some (.new 4)] [(3, .ra 1 0), (4, .ra 2 0), (5, .ra 3 0), (6, .ra 4 0)] [(1, bTerm t0), (2, .box [I by1]), (3, .box [I from2]), (4, .box [I 0, I 0, .nils, .nils])] trivial ?_
 refine seqQ_norm ?_
 refine sN ?_
 obtain ⟨r_1_2, hr_1_2, h⟩ := bsome h
 refine rg hc none [oN, oN, some (.call (qTerm r_1_2) [] 5), oN] [(6, .ra 4 0)] [(4, .box [I r_1_2.fOp, I r_1_2.fN, .rs 5, .rs 6]), (5, .arr (List.map I r_1_2.fType)), (6, .arr (List.map GTerm_O r_1_2.fKids))] (ai (impl_renamed_Kimpl_shifted_c1_s _ _ hr_1_2) (ai bod_160 (ai (Or.inr (nsh_cons rfl (nsh_cons rfl (nsh_cons (nsh_row nsh_I r_1_2.fType) (nsh_cons (nsh_row nsh_GTerm_O r_1_2.fKids) rfl)))) : ([3, 2] : List Nat) = [] ∨ noSh (qTerm r_1_2) = true) trivial))) ?_
 refine seqQ_norm ?_
 refine Wp.retN (by kernel_rfl) ?_
 obtain rfl := Option.some.inj h
 exact RetQ.ret (fl := [true]) (by kernel_rfl)
def impl_substituted_c1 (p : GTerm × Int × Int × GTerm) : Option (GTerm) :=
 match p with
 | (v0, deep1, cap0, cap1) =>
  if ((wr (v0.fN - deep1)) == cap0) = true then
   (impl_shifted (cap1, deep1, 0)) >>= fun r_3_2 =>
   some r_3_2
  else
   (
    if (decide ((wr (v0.fN - deep1)) > cap0)) = true then
     some ((wr (v0.fN - 1)))
    else
     some (v0.fN)
   ) >>= fun v_3 =>
   (impl_copyTerm (GTerm.mk v0.fOp v_3 v0.fType v0.fKids)) >>= fun r_6_1 =>
   some r_6_1
def M_impl_substituted_c1 (p : GTerm × Int × Int × GTerm) (r : GTerm) : Prop :=
 match p with
 | (v0, deep1, cap0, cap1) => FnSound Try.prog 161 [aTerm v0, I deep1, .ptr [I cap0] 0, .ptr [I cap1.fOp, I cap1.fN, sI cap1.fType, .sl (List.map GTerm_S cap1.fKids)] 0] (qTerm r) []
theorem impl_substituted_c1_s : ∀ p r, impl_substituted_c1 p = some r → M_impl_substituted_c1 p r := by
 rintro ⟨v0, deep1, cap0, cap1⟩ r h
 unfold impl_substituted_c1 at h
 show FnSound Try.prog 161 [aTerm v0, I deep1, .ptr [I cap0] 0, .ptr [I cap1.fOp, I cap1.fN, sI cap1.fType, .sl (List.map GTerm_S cap1.fKids)] 0] (qTerm r) []
 refine FnSound.body0 tiok (fn := Try.f161) (code := B161) (by kernel_rfl) (by kernel_rfl) (by kernel_rfl) (by kernel_rfl) (nt := 29) (by kernel_rfl) (by kernel_rfl) (T := [(0, aTerm v0), (1, I deep1), (2, .ptr [I cap0] 0), (3, .ptr [I cap1.fOp, I cap1.fN, sI cap1.fType, .sl (List.map GTerm_S cap1.fKids)] 0)]) (O := []) (by kernel_rfl) (by kernel_rfl) (fun c hc => ?_)
 refine sN ?_
 refine rg hc none [some (.new 1), some (.new 2)] [(1, I deep1), (2, .ptr [I cap0] 0), (3, .ptr [I cap1.fOp, I cap1.fN, sI cap1.fType, .sl (List.map GTerm_S cap1.fKids)] 0), (4, .ra 1 0), (6, .ra 2 0)] [(1, bTerm v0), (2, .box [I 0, I 0, .nils, .nils])] trivial ?_
 refine seqQ_norm ?_
 refine sN ?_
 refine sN ?_
 refine rg0 hc 5 [(1, I deep1), (2, .ptr [I cap0] 0), (3, .ptr [I cap1.fOp, I cap1.fN, sI cap1.fType, .sl (List.map GTerm_S cap1.fKids)] 0), (4, .ra 1 0), (6, .ra 2 0), (7, I (wr (v0.fN - deep1)))] [(1, bTerm v0), (2, .box [I 0, I 0, .nils, .nils])] ?_
 refine seqQ_norm ?_
 refine Wp.blockN (i := 0) (by kernel_rfl) ?_
 refine sN ?_
 refine rg0 hc 4 [(1, I deep1), (2, .ptr [I cap0] 0), (3, .ptr [I cap1.fOp, I cap1.fN, sI cap1.fType, .sl (List.map GTerm_S cap1.fKids)] 0), (4, .ra 1 0), (6, .ra 2 0), (7, I (wr (v0.fN - deep1))), (12, .bool ((wr (v0.fN - deep1)) == cap0))] [(1, bTerm v0), (2, .box [I 0, I 0, .nils, .nils])] ?_
 refine seqQ_norm ?_
 rcases itesome h with ⟨hb_1, h⟩ | ⟨hb_1, h⟩
 ·refine cT (((wr (v0.fN - deep1)) == cap0)) hb_1 ?_
  refine sN ?_
  obtain ⟨r_3_2, hr_3_2, h⟩ := bsome h
  refine rg hc none [oN, oN, some (.call (qTerm r_3_2) [] 3), oN] [(6, .ra 2 0)] [(2, .box [I r_3_2.fOp, I r_3_2.fN, .rs 3, .rs 4]), (3, .arr (List.map I r_3_2.fType)), (4, .arr (List.map GTerm_O r_3_2.fKids))] (ai (impl_shifted_s _ _ hr_3_2) (ai bod_132 (ai (oi (qTerm r_3_2)) trivial))) ?_
  refine seqQ_norm ?_
  refine Wp.retN (by kernel_rfl) ?_
  refine blockQ_ret ?_
  refine seqQ_ret ?_
  obtain rfl := Option.some.inj h
  exact RetQ.ret (fl := [true]) (by kernel_rfl)
 ·refine cF (((wr (v0.fN - deep1)) == cap0)) hb_1 ?_
  refine sN ?_
  refine rg0 hc 4 [(4, .ra 1 0), (6, .ra 2 0), (19, .bool (decide ((wr (v0.fN - deep1)) > cap0)))] [(1, bTerm v0), (2, .box [I 0, I 0, .nils, .nils])] ?_
  refine seqQ_norm ?_
  obtain ⟨v_3, hj_4, h⟩ := bsome h
  refine Wp.into (x := .normal) (mkS [(4, .ra 1 0), (6, .ra 2 0)] [(1, .box [I v0.fOp, I v_3, sI v0.fType, .sl (List.map GTerm_S v0.fKids)]), (2, .box [I 0, I 0, .nils, .nils])]) ?_ ?_
  ·replace h := hj_4
   rcases itesome h with ⟨hb_2, h⟩ | ⟨hb_2, h⟩
   ·refine cT ((decide ((wr (v0.fN - deep1)) > cap0))) hb_2 ?_
    refine rg0 hc 5 [(4, .ra 1 0), (6, .ra 2 0)] [(1, .box [I v0.fOp, I (wr (v0.fN - 1)), sI v0.fType, .sl (List.map GTerm_S v0.fKids)]), (2, .box [I 0, I 0, .nils, .nils])] ?_
    obtain rfl := Option.some.inj h
    exact Into.mk
   ·refine cF ((decide ((wr (v0.fN - deep1)) > cap0))) hb_2 ?_
    refine Wp.skipN (by kernel_rfl) ?_
    obtain rfl := Option.some.inj h
    exact Into.view (fun a w hv => SRx.renL [] hv (by kernel_rfl) (by kernel_rfl) (by kernel_rfl))
  ·clear hj_4
   refine blockQ_norm ?_
   refine seqQ_norm ?_
   refine sN ?_
   obtain ⟨r_6_1, hr_6_1, h⟩ := bsome h
   refine rg hc none [oN, some (.call (qTerm r_6_1) [] 5), oN] [(6, .ra 2 0)] [(2, .box [I r_6_1.fOp, I r_6_1.fN, .rs 5, .rs 6]), (5, .arr (List.map I r_6_1.fType)), (6, .arr (List.map GTerm_O r_6_1.fKids))] (ai (impl_copyTerm_s _ _ hr_6_1) (ai bod_130 (ai (oi (qTerm r_6_1)) trivial))) ?_
   refine seqQ_norm ?_
   refine Wp.retN (by kernel_rfl) ?_
   obtain rfl := Option.some.inj h
   exact RetQ.ret (fl := [true]) (by kernel_rfl)
def impl_renamed_Kimpl_substituted_c1_F1 (c : Ctx) (t0 : GTerm) (r_3_6 : List Int) : (List GTerm) → Exit → AState → Prop
 | out_7 => Into c (.exit 0) (mkS [(6, .ra 2 0), (7, .ra 6 0)] [(2, .box [I 0, I 0, .nils, .nils]), (5, .arr (List.map I r_3_6)), (6, .box [I t0.fOp, I t0.fN, .rs 5, .rs 12]), (12, .arr (List.map GTerm_O out_7))])
end Go.Am
