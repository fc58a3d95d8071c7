/- Functions of the program as pure functions, and that it computes them. Printed by a program of mine (gen.py). -/
import Derived.Test.YtmdfopkcoinfeaaGEVF10
set_option linter.unusedVariables false
set_option linter.unusedSimpArgs false
set_option maxRecDepth 100000
namespace Go.Am
open Go Go.Proofs
def ah11_0 : Option (List (List Nat)) := rx [[0], [1], [2], [3], [0], [0, 4], [0, 4, 5], [7], [8], [9], [10]]
def ah11_1 : Option (List (List Nat)) := rx [[0], [0], [2], [3], [0], [0], [0, 4, 5], [0, 4, 5, 6], [8]]
def impl_defaultOf (ty0 : (List Int)) : Option (GTerm) :=
  (idx ty0 0) >>= fun e_1_1 =>
  (impl_shape e_1_1) >>= fun (r_1_3_0, r_1_3_1) =>
  (impl_parts ty0) >>= fun r_2_1 =>
  if (r_1_3_0 == 1) = true then
   (idx r_2_1 0) >>= fun e_5_1 =>
   (impl_defaultOf e_5_1) >>= fun r_5_3 =>
   (idx r_2_1 1) >>= fun e_5_5 =>
   (impl_defaultOf e_5_5) >>= fun r_5_7 =>
   some (GTerm.mk 4 0 [] [r_5_3, r_5_7])
  else
   if (r_1_3_0 == 2) = true then
    (idx r_2_1 1) >>= fun e_7_1 =>
    (slices_Clone_int e_7_1) >>= fun r_7_3 =>
    (idx r_2_1 0) >>= fun e_7_5 =>
    (impl_defaultOf e_7_5) >>= fun r_7_7 =>
    some (GTerm.mk 6 0 r_7_3 [r_7_7])
   else
    if (r_1_3_0 == 3) = true then
     (idx r_2_1 0) >>= fun e_9_2 =>
     (slices_Clone_int e_9_2) >>= fun r_9_4 =>
     (idx r_2_1 1) >>= fun e_9_6 =>
     (impl_defaultOf e_9_6) >>= fun r_9_8 =>
     some (GTerm.mk 9 r_1_3_1 r_9_4 [r_9_8])
    else
     if (r_1_3_0 == 4) = true then
      (idx r_2_1 0) >>= fun e_11_2 =>
      (impl_defaultOf e_11_2) >>= fun r_11_4 =>
      some (GTerm.mk 11 r_1_3_1 [] [r_11_4])
     else
      some (GTerm.mk 1 0 [] [])
 partial_fixpoint
def M_impl_defaultOf (ty0 : (List Int)) (r : GTerm) : Prop :=
 FnSound Try.prog 104 [sI ty0] (qTerm r) []
theorem impl_defaultOf_s : ∀ p r, impl_defaultOf p = some r → M_impl_defaultOf p r := by
 refine impl_defaultOf.partial_correctness M_impl_defaultOf ?_
 rintro impl_defaultOf_f impl_defaultOf_ih ty0 r h
 show FnSound Try.prog 104 [sI ty0] (qTerm r) []
 refine FnSound.body0 tiok (fn := Try.f104) (code := B104) (by kernel_rfl) (by kernel_rfl) (by kernel_rfl) (by kernel_rfl) (nt := 63) (by kernel_rfl) (by kernel_rfl) (T := [(0, sI ty0)]) (O := []) (by kernel_rfl) (by kernel_rfl) (fun c hc => ?_)
 refine sN ?_
 refine rg hc none [some (.new 1)] [(0, sI ty0), (2, .ra 1 0)] [(1, .box [I 0, I 0, .nils, .nils])] trivial ?_
 refine seqQ_norm ?_
 refine sN ?_
 obtain ⟨e_1_1, hi_1_1, h⟩ := bsome h
 obtain ⟨⟨r_1_3_0, r_1_3_1⟩, hr_1_3, h⟩ := bsome h
 refine rg hc none [oN, some (.el (I e_1_1)), oN, oc (.tup [I r_1_3_0, I r_1_3_1]), oN, oN, oN, oN, oN] [(0, sI ty0), (2, .ra 1 0), (3, I r_1_3_0), (4, I r_1_3_1)] [(1, .box [I 0, I 0, .nils, .nils])] (ai (ix hi_1_1) (ai (impl_shape_s _ _ hr_1_3) (ai bod_77 (ai (oi (.tup [I r_1_3_0, I r_1_3_1])) trivial)))) ?_
 refine seqQ_norm ?_
 refine sN ?_
 obtain ⟨r_2_1, hr_2_1, h⟩ := bsome h
 refine rg hc none [oN, some (.call (.osl (List.map LI_s r_2_1)) [] 2), oN] [(2, .ra 1 0), (3, I r_1_3_0), (4, I r_1_3_1), (5, .rs 2)] [(1, .box [I 0, I 0, .nils, .nils]), (2, .arr (List.map LI_s r_2_1))] (ai (impl_parts_s _ _ hr_2_1) (ai bod_78 (ai (oi (.osl (List.map LI_s r_2_1))) trivial))) ?_
 refine seqQ_norm ?_
 refine sN ?_
 refine sN ?_
 refine rg0 hc 1 [(2, .ra 1 0), (4, I r_1_3_1), (5, .rs 2), (15, I r_1_3_0)] [(1, .box [I 0, I 0, .nils, .nils]), (2, .arr (List.map LI_s r_2_1))] ?_
 refine seqQ_norm ?_
 refine Wp.blockN (i := 0) (by kernel_rfl) ?_
 refine sN ?_
 refine rg0 hc 2 [(2, .ra 1 0), (4, I r_1_3_1), (5, .rs 2), (15, I r_1_3_0), (16, .bool (r_1_3_0 == 1))] [(1, .box [I 0, I 0, .nils, .nils]), (2, .arr (List.map LI_s r_2_1))] ?_
 refine seqQ_norm ?_
 rcases itesome h with ⟨hb_1, h⟩ | ⟨hb_1, h⟩
 ·refine cT ((r_1_3_0 == 1)) hb_1 ?_
  refine sN ?_
  obtain ⟨e_5_1, hi_5_1, h⟩ := bsome h
  obtain ⟨r_5_3, hr_5_3, h⟩ := bsome h
  obtain ⟨e_5_5, hi_5_5, h⟩ := bsome h
  obtain ⟨r_5_7, hr_5_7, h⟩ := bsome h
  refine rg hc ah11_0 [oN, oN, some (.el (sI e_5_1)), some (.call (qTerm r_5_3) [] 3), oN, oN, some (.el (sI e_5_5)), some (.call (qTerm r_5_7) [] 5), some (.eqv (.mk 7 true) ⟨[(26, .rs 7)], [(7, some (.arr (List.map GTerm_O [r_5_3, r_5_7]))), (3, none), (4, none), (5, none), (6, none)], [7]⟩), oN, oN] [(2, .ra 1 0)] [(1, .box [I 4, I 0, .nils, .rs 7]), (7, .arr (List.map GTerm_O [r_5_3, r_5_7]))] (ai (idx_own (enc := LI_s) hi_5_1) (ai (idx_sl (enc := LI_s) (x := sI e_5_1) hi_5_1 (eq_LI_s e_5_1)).2 (ai (impl_defaultOf_ih _ _ hr_5_3) (ai bod_104 (ai (oi (qTerm r_5_3)) (ai (idx_own (enc := LI_s) hi_5_5) (ai (idx_sl (enc := LI_s) (x := sI e_5_5) hi_5_5 (eq_LI_s e_5_5)).2 (ai (impl_defaultOf_ih _ _ hr_5_7) (ai bod_104 (ai (oi (qTerm r_5_7)) (ai (congrArg (fun z => (⟨[(26, .rs 7)], [(7, some (.arr z)), (3, none), (4, none), (5, none), (6, none)], [7]⟩ : Wr)) ((rows1 (eq_GTerm_O r_5_3) (rows1 (eq_GTerm_O r_5_7) rows0)) : [AV.agg [I r_5_3.fOp, I r_5_3.fN, AV.osl (List.map I r_5_3.fType), AV.osl (List.map GTerm_O r_5_3.fKids)], AV.agg [I r_5_7.fOp, I r_5_7.fN, AV.osl (List.map I r_5_7.fType), AV.osl (List.map GTerm_O r_5_7.fKids)]] = List.map GTerm_O [r_5_3, r_5_7])) trivial))))))))))) ?_
  refine seqQ_norm ?_
  refine Wp.retN (by kernel_rfl) ?_
  refine blockQ_ret ?_
  refine seqQ_ret ?_
  obtain rfl := Option.some.inj h
  exact RetQ.ret (fl := [true]) (by kernel_rfl)
 ·refine cF ((r_1_3_0 == 1)) hb_1 ?_
  refine sN ?_
  refine rg0 hc 2 [(2, .ra 1 0), (4, I r_1_3_1), (5, .rs 2), (15, I r_1_3_0), (28, .bool (r_1_3_0 == 2))] [(1, .box [I 0, I 0, .nils, .nils]), (2, .arr (List.map LI_s r_2_1))] ?_
  refine seqQ_norm ?_
  rcases itesome h with ⟨hb_2, h⟩ | ⟨hb_2, h⟩
  ·refine cT ((r_1_3_0 == 2)) hb_2 ?_
   refine sN ?_
   obtain ⟨e_7_1, hi_7_1, h⟩ := bsome h
   obtain ⟨r_7_3, hr_7_3, h⟩ := bsome h
   obtain ⟨e_7_5, hi_7_5, h⟩ := bsome h
   obtain ⟨r_7_7, hr_7_7, h⟩ := bsome h
   refine rg hc ah11_0 [oN, oN, some (.el (sI e_7_1)), some (.call (.osl (List.map I r_7_3)) [] 8), oN, oN, some (.el (sI e_7_5)), some (.call (qTerm r_7_7) [] 9), some (.eqv (.mk 11 true) ⟨[(38, .rs 11)], [(11, some (.arr (List.map GTerm_O [r_7_7]))), (9, none), (10, none)], [11]⟩), oN, oN] [(2, .ra 1 0)] [(1, .box [I 6, I 0, .rs 8, .rs 11]), (8, .arr (List.map I r_7_3)), (11, .arr (List.map GTerm_O [r_7_7]))] (ai (idx_own (enc := LI_s) hi_7_1) (ai (idx_sl (enc := LI_s) (x := sI e_7_1) hi_7_1 (eq_LI_s e_7_1)).2 (ai (slices_Clone_int_s _ _ hr_7_3) (ai bod_102 (ai (oi (.osl (List.map I r_7_3))) (ai (idx_own (enc := LI_s) hi_7_5) (ai (idx_sl (enc := LI_s) (x := sI e_7_5) hi_7_5 (eq_LI_s e_7_5)).2 (ai (impl_defaultOf_ih _ _ hr_7_7) (ai bod_104 (ai (oi (qTerm r_7_7)) (ai (congrArg (fun z => (⟨[(38, .rs 11)], [(11, some (.arr z)), (9, none), (10, none)], [11]⟩ : Wr)) ((rows1 (eq_GTerm_O r_7_7) rows0) : [AV.agg [I r_7_7.fOp, I r_7_7.fN, AV.osl (List.map I r_7_7.fType), AV.osl (List.map GTerm_O r_7_7.fKids)]] = List.map GTerm_O [r_7_7])) trivial))))))))))) ?_
   refine seqQ_norm ?_
   refine Wp.retN (by kernel_rfl) ?_
   refine blockQ_ret ?_
   refine seqQ_ret ?_
   obtain rfl := Option.some.inj h
   exact RetQ.ret (fl := [true]) (by kernel_rfl)
  ·refine cF ((r_1_3_0 == 2)) hb_2 ?_
   refine sN ?_
   refine rg0 hc 2 [(2, .ra 1 0), (4, I r_1_3_1), (5, .rs 2), (15, I r_1_3_0), (40, .bool (r_1_3_0 == 3))] [(1, .box [I 0, I 0, .nils, .nils]), (2, .arr (List.map LI_s r_2_1))] ?_
   refine seqQ_norm ?_
   rcases itesome h with ⟨hb_3, h⟩ | ⟨hb_3, h⟩
   ·refine cT ((r_1_3_0 == 3)) hb_3 ?_
    refine sN ?_
    obtain ⟨e_9_2, hi_9_2, h⟩ := bsome h
    obtain ⟨r_9_4, hr_9_4, h⟩ := bsome h
    obtain ⟨e_9_6, hi_9_6, h⟩ := bsome h
    obtain ⟨r_9_8, hr_9_8, h⟩ := bsome h
    refine rg hc (rx [[0], [0], [0, 1], [0, 1, 2], [0, 1, 2, 3], [0], [0, 5], [0, 5, 6], [0, 1, 2, 3, 4, 5, 6, 7], [0, 1, 2, 3, 4, 5, 6, 7, 8], [10], [11]]) [oN, oN, oN, some (.el (sI e_9_2)), some (.call (.osl (List.map I r_9_4)) [] 12), oN, oN, some (.el (sI e_9_6)), some (.call (qTerm r_9_8) [] 13), some (.eqv (.mk 15 true) ⟨[(51, .rs 15)], [(15, some (.arr (List.map GTerm_O [r_9_8]))), (13, none), (14, none)], [15]⟩), oN, oN] [(2, .ra 1 0)] [(1, .box [I 9, I r_1_3_1, .rs 12, .rs 15]), (12, .arr (List.map I r_9_4)), (15, .arr (List.map GTerm_O [r_9_8]))] (ai (idx_own (enc := LI_s) hi_9_2) (ai (idx_sl (enc := LI_s) (x := sI e_9_2) hi_9_2 (eq_LI_s e_9_2)).2 (ai (slices_Clone_int_s _ _ hr_9_4) (ai bod_102 (ai (oi (.osl (List.map I r_9_4))) (ai (idx_own (enc := LI_s) hi_9_6) (ai (idx_sl (enc := LI_s) (x := sI e_9_6) hi_9_6 (eq_LI_s e_9_6)).2 (ai (impl_defaultOf_ih _ _ hr_9_8) (ai bod_104 (ai (oi (qTerm r_9_8)) (ai (congrArg (fun z => (⟨[(51, .rs 15)], [(15, some (.arr z)), (13, none), (14, none)], [15]⟩ : Wr)) ((rows1 (eq_GTerm_O r_9_8) rows0) : [AV.agg [I r_9_8.fOp, I r_9_8.fN, AV.osl (List.map I r_9_8.fType), AV.osl (List.map GTerm_O r_9_8.fKids)]] = List.map GTerm_O [r_9_8])) trivial))))))))))) ?_
    refine seqQ_norm ?_
    refine Wp.retN (by kernel_rfl) ?_
    refine blockQ_ret ?_
    refine seqQ_ret ?_
    obtain rfl := Option.some.inj h
    exact RetQ.ret (fl := [true]) (by kernel_rfl)
   ·refine cF ((r_1_3_0 == 3)) hb_3 ?_
    refine sN ?_
    refine rg0 hc 2 [(2, .ra 1 0), (4, I r_1_3_1), (5, .rs 2), (53, .bool (r_1_3_0 == 4))] [(1, .box [I 0, I 0, .nils, .nils]), (2, .arr (List.map LI_s r_2_1))] ?_
    refine seqQ_norm ?_
    rcases itesome h with ⟨hb_4, h⟩ | ⟨hb_4, h⟩
    ·refine cT ((r_1_3_0 == 4)) hb_4 ?_
     refine sN ?_
     obtain ⟨e_11_2, hi_11_2, h⟩ := bsome h
     obtain ⟨r_11_4, hr_11_4, h⟩ := bsome h
     refine rg hc none [oN, oN, oN, some (.el (sI e_11_2)), some (.call (qTerm r_11_4) [] 16), some (.eqv (.mk 18 true) ⟨[(60, .rs 18)], [(18, some (.arr (List.map GTerm_O [r_11_4]))), (16, none), (17, none)], [18]⟩), oN, oN] [(2, .ra 1 0)] [(1, .box [I 11, I r_1_3_1, .nils, .rs 18]), (18, .arr (List.map GTerm_O [r_11_4]))] (ai (idx_own (enc := LI_s) hi_11_2) (ai (idx_sl (enc := LI_s) (x := sI e_11_2) hi_11_2 (eq_LI_s e_11_2)).2 (ai (impl_defaultOf_ih _ _ hr_11_4) (ai bod_104 (ai (oi (qTerm r_11_4)) (ai (congrArg (fun z => (⟨[(60, .rs 18)], [(18, some (.arr z)), (16, none), (17, none)], [18]⟩ : Wr)) ((rows1 (eq_GTerm_O r_11_4) rows0) : [AV.agg [I r_11_4.fOp, I r_11_4.fN, AV.osl (List.map I r_11_4.fType), AV.osl (List.map GTerm_O r_11_4.fKids)]] = List.map GTerm_O [r_11_4])) trivial)))))) ?_
     refine seqQ_norm ?_
     refine Wp.retN (by kernel_rfl) ?_
     refine blockQ_ret ?_
     refine seqQ_ret ?_
     obtain rfl := Option.some.inj h
     exact RetQ.ret (fl := [true]) (by kernel_rfl)
    ·refine cF ((r_1_3_0 == 4)) hb_4 ?_
     refine Wp.skipN (by kernel_rfl) ?_
     refine blockQ_norm ?_
     refine seqQ_norm ?_
     refine sN ?_
     refine rg0 hc 2 [(2, .ra 1 0)] [(1, .box [I 1, I 0, .nils, .nils])] ?_
     refine seqQ_norm ?_
     refine Wp.retN (by kernel_rfl) ?_
     obtain rfl := Option.some.inj h
     exact RetQ.ret (fl := [true]) (by kernel_rfl)
def impl_eraseValue (p : (List Int) × (List Int) × GTerm) : Option (GTerm) :=
 match p with
 | (view0, ty1, v2) =>
  (idx ty1 0) >>= fun e_1_1 =>
  (impl_shape e_1_1) >>= fun (r_1_3_0, r_1_3_1) =>
  (impl_parts ty1) >>= fun r_2_1 =>
  (impl_copyTerm v2) >>= fun r_3_1 =>
  (
   if (r_1_3_0 == 1) = true then
    (idx r_2_1 0) >>= fun e_6_6 =>
    (idx v2.fKids 0) >>= fun e_6_10 =>
    (impl_eraseValue (view0, e_6_6, e_6_10)) >>= fun r_6_12 =>
    (idx r_2_1 1) >>= fun e_6_15 =>
    (idx v2.fKids 1) >>= fun e_6_19 =>
    (impl_eraseValue (view0, e_6_15, e_6_19)) >>= fun r_6_21 =>
    (idx r_3_1.fKids 0) >>= fun e_6_22 =>
    (idx (List.set r_3_1.fKids (Int.toNat 0) r_6_12) 1) >>= fun e_6_24 =>
    some ((List.set (List.set r_3_1.fKids (Int.toNat 0) r_6_12) (Int.toNat 1) r_6_21))
   else
    (
     if (r_1_3_0 == 2) = true then
      (idx r_2_1 (wr (v2.fOp - 6))) >>= fun e_8_7 =>
      (idx v2.fKids 0) >>= fun e_8_11 =>
      (impl_eraseValue (view0, e_8_7, e_8_11)) >>= fun r_8_13 =>
      (idx r_3_1.fKids 0) >>= fun e_8_14 =>
      some ((List.set r_3_1.fKids (Int.toNat 0) r_8_13))
     else
      (
       if (r_1_3_0 == 4) = true then
        (slices_Contains_int (view0, r_1_3_1)) >>= fun r_10_2 =>
        (
         if r_10_2 = true then
          (idx r_2_1 0) >>= fun e_11_4 =>
          (idx v2.fKids 0) >>= fun e_11_8 =>
          (impl_eraseValue (view0, e_11_4, e_11_8)) >>= fun r_11_10 =>
          (idx r_3_1.fKids 0) >>= fun e_11_11 =>
          some ((List.set r_3_1.fKids (Int.toNat 0) r_11_10))
         else
          (idx r_2_1 0) >>= fun e_12_3 =>
          (impl_defaultOf e_12_3) >>= fun r_12_5 =>
          (idx r_3_1.fKids 0) >>= fun e_12_6 =>
          some ((List.set r_3_1.fKids (Int.toNat 0) r_12_5))
        ) >>= fun out_5 =>
        some (out_5)
       else
        some (r_3_1.fKids)
      ) >>= fun out_7 =>
      some (out_7)
    ) >>= fun out_9 =>
    some (out_9)
  ) >>= fun out_11 =>
  some (GTerm.mk r_3_1.fOp r_3_1.fN r_3_1.fType out_11)
 partial_fixpoint
def M_impl_eraseValue (p : (List Int) × (List Int) × GTerm) (r : GTerm) : Prop :=
 match p with
 | (view0, ty1, v2) => FnSound Try.prog 65 [sI view0, sI ty1, aTerm v2] (qTerm r) []
theorem impl_eraseValue_s : ∀ p r, impl_eraseValue p = some r → M_impl_eraseValue p r := by
 refine impl_eraseValue.partial_correctness M_impl_eraseValue ?_
 rintro impl_eraseValue_f impl_eraseValue_ih ⟨view0, ty1, v2⟩ r h
 show FnSound Try.prog 65 [sI view0, sI ty1, aTerm v2] (qTerm r) []
 refine FnSound.body0 tiok (fn := Try.f65) (code := B65) (by kernel_rfl) (by kernel_rfl) (by kernel_rfl) (by kernel_rfl) (nt := 91) (by kernel_rfl) (by kernel_rfl) (T := [(0, sI view0), (1, sI ty1), (2, aTerm v2)]) (O := []) (by kernel_rfl) (by kernel_rfl) (fun c hc => ?_)
 refine sN ?_
 refine rg hc none [some (.new 1), some (.new 2)] [(0, sI view0), (1, sI ty1), (5, .ra 1 0), (6, .ra 2 0)] [(1, bTerm v2), (2, .box [I 0, I 0, .nils, .nils])] trivial ?_
 refine seqQ_norm ?_
 refine sN ?_
 obtain ⟨e_1_1, hi_1_1, h⟩ := bsome h
 obtain ⟨⟨r_1_3_0, r_1_3_1⟩, hr_1_3, h⟩ := bsome h
 refine rg hc none [oN, some (.el (I e_1_1)), oN, oc (.tup [I r_1_3_0, I r_1_3_1]), oN, oN, oN, oN, oN] [(0, sI view0), (1, sI ty1), (5, .ra 1 0), (6, .ra 2 0), (7, I r_1_3_0), (8, I r_1_3_1)] [(1, bTerm v2), (2, .box [I 0, I 0, .nils, .nils])] (ai (ix hi_1_1) (ai (impl_shape_s _ _ hr_1_3) (ai bod_77 (ai (oi (.tup [I r_1_3_0, I r_1_3_1])) trivial)))) ?_
 refine seqQ_norm ?_
 refine sN ?_
 obtain ⟨r_2_1, hr_2_1, h⟩ := bsome h
 refine rg hc none [oN, some (.call (.osl (List.map LI_s r_2_1)) [] 3), oN] [(0, sI view0), (5, .ra 1 0), (6, .ra 2 0), (7, I r_1_3_0), (8, I r_1_3_1), (9, .rs 3)] [(1, bTerm v2), (2, .box [I 0, I 0, .nils, .nils]), (3, .arr (List.map LI_s r_2_1))] (ai (impl_parts_s _ _ hr_2_1) (ai bod_78 (ai (oi (.osl (List.map LI_s r_2_1))) trivial))) ?_
 refine seqQ_norm ?_
 refine sN ?_
 obtain ⟨r_3_1, hr_3_1, h⟩ := bsome h
 refine rg hc none [oN, some (.call (qTerm r_3_1) [] 4), some (.new 6), oN] [(0, sI view0), (5, .ra 1 0), (6, .ra 2 0), (7, I r_1_3_0), (8, I r_1_3_1), (9, .rs 3), (10, .ra 6 0)] [(1, bTerm v2), (2, .box [I 0, I 0, .nils, .nils]), (3, .arr (List.map LI_s r_2_1)), (4, .arr (List.map I r_3_1.fType)), (5, .arr (List.map GTerm_O r_3_1.fKids)), (6, .box [I r_3_1.fOp, I r_3_1.fN, .rs 4, .rs 5])] (ai (impl_copyTerm_s _ _ hr_3_1) (ai bod_63 (ai (oi (qTerm r_3_1)) trivial))) ?_
 refine seqQ_norm ?_
 refine sN ?_
 refine sN ?_
 refine rg0 hc 1 [(0, sI view0), (5, .ra 1 0), (6, .ra 2 0), (8, I r_1_3_1), (9, .rs 3), (10, .ra 6 0), (22, I r_1_3_0)] [(1, bTerm v2), (2, .box [I 0, I 0, .nils, .nils]), (3, .arr (List.map LI_s r_2_1)), (4, .arr (List.map I r_3_1.fType)), (5, .arr (List.map GTerm_O r_3_1.fKids)), (6, .box [I r_3_1.fOp, I r_3_1.fN, .rs 4, .rs 5])] ?_
 refine seqQ_norm ?_
 refine Wp.blockN (i := 0) (by kernel_rfl) ?_
 refine sN ?_
 refine rg0 hc 2 [(0, sI view0), (5, .ra 1 0), (6, .ra 2 0), (8, I r_1_3_1), (9, .rs 3), (10, .ra 6 0), (22, I r_1_3_0), (23, .bool (r_1_3_0 == 1))] [(1, bTerm v2), (2, .box [I 0, I 0, .nils, .nils]), (3, .arr (List.map LI_s r_2_1)), (4, .arr (List.map I r_3_1.fType)), (5, .arr (List.map GTerm_O r_3_1.fKids)), (6, .box [I r_3_1.fOp, I r_3_1.fN, .rs 4, .rs 5])] ?_
 refine seqQ_norm ?_
 obtain ⟨out_11, hj_12, h⟩ := bsome h
 refine Wp.into (x := .normal) (mkS [(6, .ra 2 0), (10, .ra 6 0)] [(2, .box [I 0, I 0, .nils, .nils]), (4, .arr (List.map I r_3_1.fType)), (5, .arr (List.map GTerm_O out_11)), (6, .box [I r_3_1.fOp, I r_3_1.fN, .rs 4, .rs 5])]) ?_ ?_
 ·replace h := hj_12
  rcases itesome h with ⟨hb_1, h⟩ | ⟨hb_1, h⟩
  ·refine cT ((r_1_3_0 == 1)) hb_1 ?_
   obtain ⟨e_6_6, hi_6_6, h⟩ := bsome h
   obtain ⟨e_6_10, hi_6_10, h⟩ := bsome h
   obtain ⟨r_6_12, hr_6_12, h⟩ := bsome h
   obtain ⟨e_6_15, hi_6_15, h⟩ := bsome h
   obtain ⟨e_6_19, hi_6_19, h⟩ := bsome h
   obtain ⟨r_6_21, hr_6_21, h⟩ := bsome h
   obtain ⟨e_6_22, hi_6_22, h⟩ := bsome h
   obtain ⟨e_6_24, hi_6_24, h⟩ := bsome h
   refine rg hc (rx [[0], [1], [0], [0, 2], [0], [0], [0, 5], [0, 5, 6], [0], [0, 8], [0, 8, 9], [0, 8, 9, 10], [0, 4, 5, 6, 7, 8, 9, 10, 11], [0], [0], [0, 14], [0, 14, 15], [0], [0, 17], [0, 17, 18], [0, 17, 18, 19], [0, 4, 5, 6, 7, 8, 9, 10, 11, 12, 13, 14, 15, 16, 17, 18, 19, 20], [2, 4, 5, 6, 7, 8, 9, 10, 11, 12, 13, 14, 15, 16, 17, 18, 19, 20, 21], [2, 4, 5, 6, 7, 8, 9, 10, 11, 12, 13, 14, 15, 16, 17, 18, 19, 20, 21, 22], [24], [25]]) [oN, oN, oN, oN, oN, oN, oN, some (.el (sI e_6_6)), oN, oN, some (.el (aTerm e_6_10)), oN, some (.call (qTerm r_6_12) [] 7), oN, oN, oN, some (.el (sI e_6_15)), oN, oN, some (.el (aTerm e_6_19)), oN, some (.call (qTerm r_6_21) [] 9), oN, some (.eqv (.mk 0 true) ⟨[], [(5, some (.arr (List.map GTerm_O (List.set r_3_1.fKids (Int.toNat 0) r_6_12)))), (7, none), (8, none)], []⟩), oN, some (.eqv (.mk 0 true) ⟨[], [(5, some (.arr (List.map GTerm_O (List.set (List.set r_3_1.fKids (Int.toNat 0) r_6_12) (Int.toNat 1) r_6_21)))), (9, none), (10, none)], []⟩)] [(6, .ra 2 0), (10, .ra 6 0)] [(2, .box [I 0, I 0, .nils, .nils]), (4, .arr (List.map I r_3_1.fType)), (5, .arr (List.map GTerm_O (List.set (List.set r_3_1.fKids (Int.toNat 0) r_6_12) (Int.toNat 1) r_6_21))), (6, .box [I r_3_1.fOp, I r_3_1.fN, .rs 4, .rs 5])] (ai (idx_own (enc := LI_s) hi_6_6) (ai (idx_sl (enc := LI_s) (x := sI e_6_6) hi_6_6 (eq_LI_s e_6_6)).2 (ai (idx_sl (enc := GTerm_S) (x := aTerm e_6_10) hi_6_10 (eq_GTerm_S e_6_10)) (ai (impl_eraseValue_ih _ _ hr_6_12) (ai bod_65 (ai (oi (qTerm r_6_12)) (ai (idx_own (enc := LI_s) hi_6_15) (ai (idx_sl (enc := LI_s) (x := sI e_6_15) hi_6_15 (eq_LI_s e_6_15)).2 (ai (idx_sl (enc := GTerm_S) (x := aTerm e_6_19) hi_6_19 (eq_GTerm_S e_6_19)) (ai (impl_eraseValue_ih _ _ hr_6_21) (ai bod_65 (ai (oi (qTerm r_6_21)) (ai (idx_own (enc := GTerm_O) hi_6_22) (ai (congrArg (fun z => (⟨[], [(5, some (.arr z)), (7, none), (8, none)], []⟩ : Wr)) (set_row (enc := GTerm_O) (i := Int.toNat 0) (l := r_3_1.fKids) (v := r_6_12) (x := AV.agg [I r_6_12.fOp, I r_6_12.fN, AV.osl (List.map I r_6_12.fType), AV.osl (List.map GTerm_O r_6_12.fKids)]) (eq_GTerm_O r_6_12))) (ai (own_set (enc := GTerm_O) (sz := 4) sz_GTerm_O hi_6_22) (ai (idx_own (enc := GTerm_O) hi_6_24) (ai (congrArg (fun z => (⟨[], [(5, some (.arr z)), (9, none), (10, none)], []⟩ : Wr)) (set_row (enc := GTerm_O) (i := Int.toNat 1) (l := (List.set r_3_1.fKids (Int.toNat 0) r_6_12)) (v := r_6_21) (x := AV.agg [I r_6_21.fOp, I r_6_21.fN, AV.osl (List.map I r_6_21.fType), AV.osl (List.map GTerm_O r_6_21.fKids)]) (eq_GTerm_O r_6_21))) (ai (own_set (enc := GTerm_O) (sz := 4) sz_GTerm_O hi_6_24) trivial)))))))))))))))))) ?_
   obtain rfl := Option.some.inj h
   exact Into.mk
  ·refine cF ((r_1_3_0 == 1)) hb_1 ?_
   refine sN ?_
   refine rg0 hc 2 [(0, sI view0), (5, .ra 1 0), (6, .ra 2 0), (8, I r_1_3_1), (9, .rs 3), (10, .ra 6 0), (22, I r_1_3_0), (49, .bool (r_1_3_0 == 2))] [(1, bTerm v2), (2, .box [I 0, I 0, .nils, .nils]), (3, .arr (List.map LI_s r_2_1)), (4, .arr (List.map I r_3_1.fType)), (5, .arr (List.map GTerm_O r_3_1.fKids)), (6, .box [I r_3_1.fOp, I r_3_1.fN, .rs 4, .rs 5])] ?_
   refine seqQ_norm ?_
   obtain ⟨out_9, hj_10, h⟩ := bsome h
   refine Wp.into (x := .normal) (mkS [(6, .ra 2 0), (10, .ra 6 0)] [(2, .box [I 0, I 0, .nils, .nils]), (4, .arr (List.map I r_3_1.fType)), (5, .arr (List.map GTerm_O out_9)), (6, .box [I r_3_1.fOp, I r_3_1.fN, .rs 4, .rs 5])]) ?_ ?_
   ·replace h := hj_10
    rcases itesome h with ⟨hb_2, h⟩ | ⟨hb_2, h⟩
    ·refine cT ((r_1_3_0 == 2)) hb_2 ?_
     obtain ⟨e_8_7, hi_8_7, h⟩ := bsome h
     obtain ⟨e_8_11, hi_8_11, h⟩ := bsome h
     obtain ⟨r_8_13, hr_8_13, h⟩ := bsome h
     obtain ⟨e_8_14, hi_8_14, h⟩ := bsome h
     refine rg hc (rx [[0], [1], [0], [0], [0], [0, 4], [0, 4, 5], [0, 3, 4, 5, 6], [0, 3, 4, 5, 6, 7], [0], [0, 9], [0, 9, 10], [0, 9, 10, 11], [0, 2, 3, 4, 5, 6, 7, 8, 9, 10, 11, 12], [14], [15]]) [oN, oN, oN, oN, oN, oN, oN, oN, some (.el (sI e_8_7)), oN, oN, some (.el (aTerm e_8_11)), oN, some (.call (qTerm r_8_13) [] 11), oN, some (.eqv (.mk 0 true) ⟨[], [(5, some (.arr (List.map GTerm_O (List.set r_3_1.fKids (Int.toNat 0) r_8_13)))), (11, none), (12, none)], []⟩)] [(6, .ra 2 0), (10, .ra 6 0)] [(2, .box [I 0, I 0, .nils, .nils]), (4, .arr (List.map I r_3_1.fType)), (5, .arr (List.map GTerm_O (List.set r_3_1.fKids (Int.toNat 0) r_8_13))), (6, .box [I r_3_1.fOp, I r_3_1.fN, .rs 4, .rs 5])] (ai (idx_own (enc := LI_s) hi_8_7) (ai (idx_sl (enc := LI_s) (x := sI e_8_7) hi_8_7 (eq_LI_s e_8_7)).2 (ai (idx_sl (enc := GTerm_S) (x := aTerm e_8_11) hi_8_11 (eq_GTerm_S e_8_11)) (ai (impl_eraseValue_ih _ _ hr_8_13) (ai bod_65 (ai (oi (qTerm r_8_13)) (ai (idx_own (enc := GTerm_O) hi_8_14) (ai (congrArg (fun z => (⟨[], [(5, some (.arr z)), (11, none), (12, none)], []⟩ : Wr)) (set_row (enc := GTerm_O) (i := Int.toNat 0) (l := r_3_1.fKids) (v := r_8_13) (x := AV.agg [I r_8_13.fOp, I r_8_13.fN, AV.osl (List.map I r_8_13.fType), AV.osl (List.map GTerm_O r_8_13.fKids)]) (eq_GTerm_O r_8_13))) (ai (own_set (enc := GTerm_O) (sz := 4) sz_GTerm_O hi_8_14) trivial))))))))) ?_
     obtain rfl := Option.some.inj h
     exact Into.mk
    ·refine cF ((r_1_3_0 == 2)) hb_2 ?_
     refine sN ?_
     refine rg0 hc 2 [(0, sI view0), (5, .ra 1 0), (6, .ra 2 0), (8, I r_1_3_1), (9, .rs 3), (10, .ra 6 0), (66, .bool (r_1_3_0 == 4))] [(1, bTerm v2), (2, .box [I 0, I 0, .nils, .nils]), (3, .arr (List.map LI_s r_2_1)), (4, .arr (List.map I r_3_1.fType)), (5, .arr (List.map GTerm_O r_3_1.fKids)), (6, .box [I r_3_1.fOp, I r_3_1.fN, .rs 4, .rs 5])] ?_
     refine seqQ_norm ?_
     obtain ⟨out_7, hj_8, h⟩ := bsome h
     refine Wp.into (x := .normal) (mkS [(6, .ra 2 0), (10, .ra 6 0)] [(2, .box [I 0, I 0, .nils, .nils]), (4, .arr (List.map I r_3_1.fType)), (5, .arr (List.map GTerm_O out_7)), (6, .box [I r_3_1.fOp, I r_3_1.fN, .rs 4, .rs 5])]) ?_ ?_
     ·replace h := hj_8
      rcases itesome h with ⟨hb_3, h⟩ | ⟨hb_3, h⟩
      ·refine cT ((r_1_3_0 == 4)) hb_3 ?_
       refine sN ?_
       obtain ⟨r_10_2, hr_10_2, h⟩ := bsome h
       refine rg hc none [oN, oN, oc (.bool r_10_2)] [(0, sI view0), (5, .ra 1 0), (6, .ra 2 0), (9, .rs 3), (10, .ra 6 0), (70, .bool r_10_2)] [(1, bTerm v2), (2, .box [I 0, I 0, .nils, .nils]), (3, .arr (List.map LI_s r_2_1)), (4, .arr (List.map I r_3_1.fType)), (5, .arr (List.map GTerm_O r_3_1.fKids)), (6, .box [I r_3_1.fOp, I r_3_1.fN, .rs 4, .rs 5])] (ai (slices_Contains_int_s _ _ hr_10_2) (ai bod_86 (ai (oi (.bool r_10_2)) trivial))) ?_
       refine seqQ_norm ?_
       obtain ⟨out_5, hj_6, h⟩ := bsome h
       refine Wp.into (x := .normal) (mkS [(6, .ra 2 0), (10, .ra 6 0)] [(2, .box [I 0, I 0, .nils, .nils]), (4, .arr (List.map I r_3_1.fType)), (5, .arr (List.map GTerm_O out_5)), (6, .box [I r_3_1.fOp, I r_3_1.fN, .rs 4, .rs 5])]) ?_ ?_
       ·replace h := hj_6
        rcases itesome h with ⟨hb_4, h⟩ | ⟨hb_4, h⟩
        ·refine cT r_10_2 hb_4 ?_
         obtain ⟨e_11_4, hi_11_4, h⟩ := bsome h
         obtain ⟨e_11_8, hi_11_8, h⟩ := bsome h
         obtain ⟨r_11_10, hr_11_10, h⟩ := bsome h
         obtain ⟨e_11_11, hi_11_11, h⟩ := bsome h
         refine rg hc (rx [[0], [1], [0], [0], [0, 3], [0, 3, 4], [0], [0, 6], [0, 6, 7], [0, 6, 7, 8], [0, 2, 3, 4, 5, 6, 7, 8, 9], [11], [12]]) [oN, oN, oN, oN, oN, some (.el (sI e_11_4)), oN, oN, some (.el (aTerm e_11_8)), oN, some (.call (qTerm r_11_10) [] 13), oN, some (.eqv (.mk 0 true) ⟨[], [(5, some (.arr (List.map GTerm_O (List.set r_3_1.fKids (Int.toNat 0) r_11_10)))), (13, none), (14, none)], []⟩)] [(6, .ra 2 0), (10, .ra 6 0)] [(2, .box [I 0, I 0, .nils, .nils]), (4, .arr (List.map I r_3_1.fType)), (5, .arr (List.map GTerm_O (List.set r_3_1.fKids (Int.toNat 0) r_11_10))), (6, .box [I r_3_1.fOp, I r_3_1.fN, .rs 4, .rs 5])] (ai (idx_own (enc := LI_s) hi_11_4) (ai (idx_sl (enc := LI_s) (x := sI e_11_4) hi_11_4 (eq_LI_s e_11_4)).2 (ai (idx_sl (enc := GTerm_S) (x := aTerm e_11_8) hi_11_8 (eq_GTerm_S e_11_8)) (ai (impl_eraseValue_ih _ _ hr_11_10) (ai bod_65 (ai (oi (qTerm r_11_10)) (ai (idx_own (enc := GTerm_O) hi_11_11) (ai (congrArg (fun z => (⟨[], [(5, some (.arr z)), (13, none), (14, none)], []⟩ : Wr)) (set_row (enc := GTerm_O) (i := Int.toNat 0) (l := r_3_1.fKids) (v := r_11_10) (x := AV.agg [I r_11_10.fOp, I r_11_10.fN, AV.osl (List.map I r_11_10.fType), AV.osl (List.map GTerm_O r_11_10.fKids)]) (eq_GTerm_O r_11_10))) (ai (own_set (enc := GTerm_O) (sz := 4) sz_GTerm_O hi_11_11) trivial))))))))) ?_
         obtain rfl := Option.some.inj h
         exact Into.mk
        ·refine cF r_10_2 hb_4 ?_
         obtain ⟨e_12_3, hi_12_3, h⟩ := bsome h
         obtain ⟨r_12_5, hr_12_5, h⟩ := bsome h
         obtain ⟨e_12_6, hi_12_6, h⟩ := bsome h
         refine rg hc (rx [[0], [1], [0], [0, 2], [0, 2, 3], [0, 2, 3, 4], [6], [7]]) [oN, oN, oN, oN, some (.el (sI e_12_3)), some (.call (qTerm r_12_5) [] 15), oN, some (.eqv (.mk 0 true) ⟨[], [(5, some (.arr (List.map GTerm_O (List.set r_3_1.fKids (Int.toNat 0) r_12_5)))), (15, none), (16, none)], []⟩)] [(6, .ra 2 0), (10, .ra 6 0)] [(2, .box [I 0, I 0, .nils, .nils]), (4, .arr (List.map I r_3_1.fType)), (5, .arr (List.map GTerm_O (List.set r_3_1.fKids (Int.toNat 0) r_12_5))), (6, .box [I r_3_1.fOp, I r_3_1.fN, .rs 4, .rs 5])] (ai (idx_own (enc := LI_s) hi_12_3) (ai (idx_sl (enc := LI_s) (x := sI e_12_3) hi_12_3 (eq_LI_s e_12_3)).2 (ai (impl_defaultOf_s _ _ hr_12_5) (ai bod_104 (ai (oi (qTerm r_12_5)) (ai (idx_own (enc := GTerm_O) hi_12_6) (ai (congrArg (fun z => (⟨[], [(5, some (.arr z)), (15, none), (16, none)], []⟩ : Wr)) (set_row (enc := GTerm_O) (i := Int.toNat 0) (l := r_3_1.fKids) (v := r_12_5) (x := AV.agg [I r_12_5.fOp, I r_12_5.fN, AV.osl (List.map I r_12_5.fType), AV.osl (List.map GTerm_O r_12_5.fKids)]) (eq_GTerm_O r_12_5))) (ai (own_set (enc := GTerm_O) (sz := 4) sz_GTerm_O hi_12_6) trivial)))))))) ?_
         obtain rfl := Option.some.inj h
         exact Into.mk
       ·clear hj_6
        obtain rfl := Option.some.inj h
        exact Into.mk
      ·refine cF ((r_1_3_0 == 4)) hb_3 ?_
       refine Wp.skipN (by kernel_rfl) ?_
       obtain rfl := Option.some.inj h
       exact Into.view (fun a w hv => SRx.renL [] hv (by kernel_rfl) (by kernel_rfl) (by kernel_rfl))
     ·clear hj_8
      obtain rfl := Option.some.inj h
      exact Into.mk
   ·clear hj_10
    obtain rfl := Option.some.inj h
    exact Into.mk
 ·clear hj_12
  refine blockQ_norm ?_
  refine seqQ_norm ?_
  refine sN ?_
  refine rg0 hc 2 [(6, .ra 2 0)] [(2, .box [I r_3_1.fOp, I r_3_1.fN, .rs 4, .rs 5]), (4, .arr (List.map I r_3_1.fType)), (5, .arr (List.map GTerm_O out_11))] ?_
  refine seqQ_norm ?_
  refine Wp.retN (by kernel_rfl) ?_
  obtain rfl := Option.some.inj h
  exact RetQ.ret (fl := [true]) (by kernel_rfl)
def impl_EraseValue (p : GSystem × (List Int) × (List Int) × GTerm) : Option (GTerm × Bool) :=
 match p with
 | (s0, view1, ty2, v3) =>
  (
   (impl_IsView (s0, view1)) >>= fun r_1_2 =>
   if r_1_2 = true then
    (impl_IsValue (s0, ty2, v3)) >>= fun r_1_8 =>
    some ((!r_1_8))
   else
    some (true)
  ) >>= fun v_1 =>
  if v_1 = true then
   some ((GTerm.mk 0 0 [] []), false)
  else
   (impl_eraseValue (view1, ty2, v3)) >>= fun r_3_3 =>
   some (r_3_3, true)
def M_impl_EraseValue (p : GSystem × (List Int) × (List Int) × GTerm) (r : GTerm × Bool) : Prop :=
 match p with
 | (s0, view1, ty2, v3) => FnSound Try.prog 27 [aSystem s0, sI view1, sI ty2, aTerm v3] (.tup [.agg [I r.1.fOp, I r.1.fN, .osl (List.map I r.1.fType), .osl (List.map GTerm_O r.1.fKids)], .bool r.2]) []
theorem impl_EraseValue_s : ∀ p r, impl_EraseValue p = some r → M_impl_EraseValue p r := by
 rintro ⟨s0, view1, ty2, v3⟩ r h
 unfold impl_EraseValue at h
 show FnSound Try.prog 27 [aSystem s0, sI view1, sI ty2, aTerm v3] (.tup [.agg [I r.1.fOp, I r.1.fN, .osl (List.map I r.1.fType), .osl (List.map GTerm_O r.1.fKids)], .bool r.2]) []
 refine FnSound.body0 tiok (fn := Try.f27) (code := B27) (by kernel_rfl) (by kernel_rfl) (by kernel_rfl) (by kernel_rfl) (nt := 26) (by kernel_rfl) (by kernel_rfl) (T := [(0, aSystem s0), (1, sI view1), (2, sI ty2), (3, aTerm v3)]) (O := []) (by kernel_rfl) (by kernel_rfl) (fun c hc => ?_)
 refine sN ?_
 refine rg hc none [some (.new 1), some (.new 2), some (.new 3), oN] [(1, sI view1), (2, sI ty2), (4, .ra 1 0), (7, .ra 2 0), (8, .ra 3 0)] [(1, bSystem s0), (2, bTerm v3), (3, .box [I 0, I 0, .nils, .nils])] trivial ?_
 refine seqQ_norm ?_
 refine sN ?_
 refine sN ?_
 obtain ⟨v_1, hj_2, h⟩ := bsome h
 refine Wp.into (x := .normal) (mkS [(1, sI view1), (2, sI ty2), (7, .ra 2 0), (8, .ra 3 0), (20, .bool v_1)] [(2, bTerm v3), (3, .box [I 0, I 0, .nils, .nils])]) ?_ ?_
 ·replace h := hj_2
  obtain ⟨r_1_2, hr_1_2, h⟩ := bsome h
  rcases itesome h with ⟨hb_1_0, h⟩ | ⟨hb_1_0, h⟩
  ·obtain ⟨r_1_8, hr_1_8, h⟩ := bsome h
   refine rg hc none [oN, oN, oc (.bool r_1_2), oN, oN, oN, oN, oN, oc (.bool r_1_8), oN, oF] [(1, sI view1), (2, sI ty2), (7, .ra 2 0), (8, .ra 3 0), (20, .bool (!r_1_8))] [(2, bTerm v3), (3, .box [I 0, I 0, .nils, .nils])] (ai (impl_IsView_s _ _ hr_1_2) (ai bod_46 (ai (oi (.bool r_1_2)) (ar 4 (nF hb_1_0) (ai (impl_IsValue_s _ _ hr_1_8) (ai bod_47 (ai (oi (.bool r_1_8)) (ar 2 (nF hb_1_0) trivial)))))))) ?_
   obtain rfl := Option.some.inj h
   exact Into.mk
  ·refine rg hc none [oN, oN, oc (.bool r_1_2), oN, oN, o_, o_, o_, o_, o_, oT] [(1, sI view1), (2, sI ty2), (7, .ra 2 0), (8, .ra 3 0), (20, .bool true)] [(2, bTerm v3), (3, .box [I 0, I 0, .nils, .nils])] (ai (impl_IsView_s _ _ hr_1_2) (ai bod_46 (ai (oi (.bool r_1_2)) (ar 5 (neF (nT hb_1_0)) (ai (nT hb_1_0) trivial))))) ?_
   obtain rfl := Option.some.inj h
   exact Into.mk
 ·clear hj_2
  refine seqQ_norm ?_
  rcases itesome h with ⟨hb_3, h⟩ | ⟨hb_3, h⟩
  ·refine cT v_1 hb_3 ?_
   refine sN ?_
   refine rg0 hc 3 [(8, .ra 3 0), (9, .bool false)] [(3, .box [I 0, I 0, .nils, .nils])] ?_
   refine seqQ_norm ?_
   refine Wp.retN (by kernel_rfl) ?_
   refine seqQ_ret ?_
   obtain rfl := Option.some.inj h
   exact RetQ.ret (fl := [true, true]) (by kernel_rfl)
  ·refine cF v_1 hb_3 ?_
   refine Wp.skipN (by kernel_rfl) ?_
   refine seqQ_norm ?_
   refine sN ?_
   obtain ⟨r_3_3, hr_3_3, h⟩ := bsome h
   refine rg hc none [oN, oN, oN, some (.call (qTerm r_3_3) [] 4), oN, oN] [(8, .ra 3 0), (9, .bool true)] [(3, .box [I r_3_3.fOp, I r_3_3.fN, .rs 4, .rs 5]), (4, .arr (List.map I r_3_3.fType)), (5, .arr (List.map GTerm_O r_3_3.fKids))] (ai (impl_eraseValue_s _ _ hr_3_3) (ai bod_65 (ai (oi (qTerm r_3_3)) trivial))) ?_
   refine seqQ_norm ?_
   refine Wp.retN (by kernel_rfl) ?_
   obtain rfl := Option.some.inj h
   exact RetQ.ret (fl := [true, true]) (by kernel_rfl)
def laws_eqIntS_F1 (c : Ctx) : (Unit) ⊕ (Bool) → Exit → AState → Prop
 | .inl _ => Into c (.exit 0) (mkS [] [])
 | .inr r => RetE TIx Try.f16 [] (.bool r)
def laws_eqIntS_l0 (p : (List Int) × (List Int) × Int) : Option ((Unit) ⊕ (Bool)) :=
 match p with
 | (a0, b1, i_4) =>
  if (decide (i_4 < (a0.length : Int))) = true then
   (idx a0 i_4) >>= fun e_6_2 =>
   (idx b1 i_4) >>= fun e_6_6 =>
   if (e_6_2 != e_6_6) = true then
    some (.inr false)
   else
    laws_eqIntS_l0 (a0, b1, (wr (i_4 + 1)))
  else
   some (.inl ())
 partial_fixpoint
def M_laws_eqIntS_l0 (p : (List Int) × (List Int) × Int) (fl : (Unit) ⊕ (Bool)) : Prop :=
 match p with
 | (a0, b1, i_4) => ∀ c : Ctx, c.nt = 26 → WpL Try.prog c (cl (cl (cr (cl (cr (cr B16)))))) (laws_eqIntS_F1 c fl) (mkS [(0, sI a0), (1, sI b1), (5, I i_4)] [])
theorem laws_eqIntS_l0_s : ∀ p r, laws_eqIntS_l0 p = some r → M_laws_eqIntS_l0 p r := by
 refine laws_eqIntS_l0.partial_correctness M_laws_eqIntS_l0 ?_
 rintro laws_eqIntS_l0_f laws_eqIntS_l0_ih ⟨a0, b1, i_4⟩ r h
 intro c hc
 show WpL Try.prog c (cl (cl (cr (cl (cr (cr B16)))))) (laws_eqIntS_F1 c r) (mkS [(0, sI a0), (1, sI b1), (5, I i_4)] [])
 refine WpL.step ?_
 refine sN ?_
 refine sN ?_
 refine rg hc none [oN, oN, some (.eqv (.no) ⟨[(13, I (a0.length : Int))], [], []⟩), oN] [(0, sI a0), (1, sI b1), (5, I i_4), (14, .bool (decide (i_4 < (a0.length : Int))))] [] (ai (lenT (d := 13) I a0) trivial) ?_
 refine seqQ_norm ?_
 rcases itesome h with ⟨hb_5, h⟩ | ⟨hb_5, h⟩
 ·refine cT ((decide (i_4 < (a0.length : Int)))) hb_5 ?_
  refine Wp.skipN (by kernel_rfl) ?_
  refine seqQ_norm ?_
  refine sN ?_
  refine Wp.blockN (i := 1) (by kernel_rfl) ?_
  refine sN ?_
  obtain ⟨e_6_2, hi_6_2, h⟩ := bsome h
  obtain ⟨e_6_6, hi_6_6, h⟩ := bsome h
  refine rg hc ah11_1 [oN, oN, some (.el (I e_6_2)), oN, oN, oN, some (.el (I e_6_6)), oN, oN] [(0, sI a0), (1, sI b1), (5, I i_4), (25, .bool (e_6_2 != e_6_6))] [] (ai (ix hi_6_2) (ai (ix hi_6_6) trivial)) ?_
  refine seqQ_norm ?_
  rcases itesome h with ⟨hb_6, h⟩ | ⟨hb_6, h⟩
  ·refine cT ((e_6_2 != e_6_6)) hb_6 ?_
   refine sN ?_
   refine rg0 hc 1 [(4, .bool false)] [] ?_
   refine seqQ_norm ?_
   refine Wp.retN (by kernel_rfl) ?_
   refine blockQ_ret ?_
   refine seqQ_ret ?_
   refine loopQ_ret ?_
   obtain rfl := Option.some.inj h
   exact RetE.ret (fl := [true]) (by kernel_rfl)
  ·refine cF ((e_6_2 != e_6_6)) hb_6 ?_
   refine Wp.skipN (by kernel_rfl) ?_
   refine blockQ_norm ?_
   refine seqQ_norm ?_
   refine rg0 hc 3 [(0, sI a0), (1, sI b1), (5, I (wr (i_4 + 1)))] [] ?_
   refine loopQ_norm ?_
   exact (laws_eqIntS_l0_ih _ _ h c hc)
 ·refine cF ((decide (i_4 < (a0.length : Int)))) hb_5 ?_
  refine Wp.exitN (i := 0) (by kernel_rfl) ?_
  refine seqQ_exit ?_
  refine loopQ_exit ?_
  obtain rfl := Option.some.inj h
  exact Into.view (fun a w hv => SRx.renL [] hv (by kernel_rfl) (by kernel_rfl) (by kernel_rfl))
def laws_eqIntS (p : (List Int) × (List Int)) : Option (Bool) :=
 match p with
 | (a0, b1) =>
  if ((a0.length : Int) != (b1.length : Int)) = true then
   some false
  else
   (laws_eqIntS_l0 (a0, b1, 0)) >>= fun fl => match fl with
   | .inl () =>
    some true
   | .inr r =>
    some r
def M_laws_eqIntS (p : (List Int) × (List Int)) (r : Bool) : Prop :=
 match p with
 | (a0, b1) => FnSound Try.prog 16 [sI a0, sI b1] (.bool r) []
theorem laws_eqIntS_s : ∀ p r, laws_eqIntS p = some r → M_laws_eqIntS p r := by
 rintro ⟨a0, b1⟩ r h
 unfold laws_eqIntS at h
 show FnSound Try.prog 16 [sI a0, sI b1] (.bool r) []
 refine FnSound.body0 tiok (fn := Try.f16) (code := B16) (by kernel_rfl) (by kernel_rfl) (by kernel_rfl) (by kernel_rfl) (nt := 26) (by kernel_rfl) (by kernel_rfl) (T := [(0, sI a0), (1, sI b1)]) (O := []) (by kernel_rfl) (by kernel_rfl) (fun c hc => ?_)
 refine sN ?_
 refine rg0 hc 1 [(0, sI a0), (1, sI b1)] [] ?_
 refine seqQ_norm ?_
 refine sN ?_
 refine sN ?_
 refine rg hc none [oN, some (.eqv (.no) ⟨[(7, I (a0.length : Int))], [], []⟩), oN, some (.eqv (.no) ⟨[(9, I (b1.length : Int))], [], []⟩), oN] [(0, sI a0), (1, sI b1), (10, .bool ((a0.length : Int) != (b1.length : Int)))] [] (ai (lenT (d := 7) I a0) (ai (lenT (d := 9) I b1) trivial)) ?_
 refine seqQ_norm ?_
 rcases itesome h with ⟨hb_1, h⟩ | ⟨hb_1, h⟩
 ·refine cT (((a0.length : Int) != (b1.length : Int))) hb_1 ?_
  refine sN ?_
  refine rg0 hc 1 [(4, .bool false)] [] ?_
  refine seqQ_norm ?_
  refine Wp.retN (by kernel_rfl) ?_
  refine seqQ_ret ?_
  obtain rfl := Option.some.inj h
  exact RetQ.ret (fl := [true]) (by kernel_rfl)
 ·refine cF (((a0.length : Int) != (b1.length : Int))) hb_1 ?_
  refine Wp.skipN (by kernel_rfl) ?_
  refine seqQ_norm ?_
  refine sN ?_
  refine sN ?_
  refine rg0 hc 1 [(0, sI a0), (1, sI b1), (5, I 0)] [] ?_
  refine seqQ_norm ?_
  refine Wp.blockN (i := 0) (by kernel_rfl) ?_
  obtain ⟨fl, hl_7, h⟩ := bsome h
  have hL := laws_eqIntS_l0_s _ _ hl_7 c hc
  refine Wp.loopN (by kernel_rfl) ?_
  rcases fl with ⟨⟩ | r
  ·refine WpL.into (e := (.exit 0)) (mkS [] []) hL ?_
   refine blockQ_hit ?_
   refine seqQ_norm ?_
   refine sN ?_
   refine rg0 hc 1 [(4, .bool true)] [] ?_
   refine seqQ_norm ?_
   refine Wp.retN (by kernel_rfl) ?_
   obtain rfl := Option.some.inj h
   exact RetQ.ret (fl := [true]) (by kernel_rfl)
  ·refine WpL.mono hL ?_
   rintro _ _ ⟨rfl, hfin⟩
   refine blockQ_ret ?_
   refine seqQ_ret ?_
   obtain rfl := Option.some.inj h
   exact ⟨.inl rfl, hfin⟩
def laws_eqTermS_F1 (c : Ctx) : (Unit) ⊕ (Bool) → Exit → AState → Prop
 | .inl _ => Into c (.exit 0) (mkS [] [])
 | .inr r => RetE TIx Try.f43 [] (.bool r)
mutual
def laws_eqTerm (p : GTerm × GTerm) : Option (Bool) :=
 match p with
 | (a0, b1) =>
  if (a0.fOp != b1.fOp) = true then
   some false
  else
   if (a0.fN != b1.fN) = true then
    some false
   else
    (laws_eqIntS (a0.fType, b1.fType)) >>= fun r_5_4 =>
    if r_5_4 = true then
     (laws_eqTermS (a0.fKids, b1.fKids)) >>= fun r_7_4 =>
     if r_7_4 = true then
      some true
     else
      some false
    else
     some false
 partial_fixpoint
def laws_eqTermS (p : (List GTerm) × (List GTerm)) : Option (Bool) :=
 match p with
 | (a0, b1) =>
  if ((a0.length : Int) != (b1.length : Int)) = true then
   some false
  else
   (laws_eqTermS_l0 (a0, b1, 0)) >>= fun fl => match fl with
   | .inl () =>
    some true
   | .inr r =>
    some r
 partial_fixpoint
def laws_eqTermS_l0 (p : (List GTerm) × (List GTerm) × Int) : Option ((Unit) ⊕ (Bool)) :=
 match p with
 | (a0, b1, i_4) =>
  if (decide (i_4 < (a0.length : Int))) = true then
   (idx a0 i_4) >>= fun e_6_2 =>
   (idx b1 i_4) >>= fun e_6_6 =>
   (laws_eqTerm (e_6_2, e_6_6)) >>= fun r_6_8 =>
   if r_6_8 = true then
    laws_eqTermS_l0 (a0, b1, (wr (i_4 + 1)))
   else
    some (.inr false)
  else
   some (.inl ())
 partial_fixpoint
end
def M_laws_eqTerm (p : GTerm × GTerm) (r : Bool) : Prop :=
 match p with
 | (a0, b1) => FnSound Try.prog 17 [aTerm a0, aTerm b1] (.bool r) []
def M_laws_eqTermS (p : (List GTerm) × (List GTerm)) (r : Bool) : Prop :=
 match p with
 | (a0, b1) => FnSound Try.prog 43 [.sl (List.map GTerm_S a0), .sl (List.map GTerm_S b1)] (.bool r) []
def M_laws_eqTermS_l0 (p : (List GTerm) × (List GTerm) × Int) (fl : (Unit) ⊕ (Bool)) : Prop :=
 match p with
 | (a0, b1, i_4) => ∀ c : Ctx, c.nt = 27 → WpL Try.prog c (cl (cl (cr (cl (cr (cr B43)))))) (laws_eqTermS_F1 c fl) (mkS [(0, .sl (List.map GTerm_S a0)), (1, .sl (List.map GTerm_S b1)), (5, I i_4)] [])
theorem laws_eqTerm_all : (∀ p r, laws_eqTerm p = some r → M_laws_eqTerm p r) ∧ (∀ p r, laws_eqTermS p = some r → M_laws_eqTermS p r) ∧ (∀ p r, laws_eqTermS_l0 p = some r → M_laws_eqTermS_l0 p r) := by
 refine laws_eqTerm.mutual_partial_correctness M_laws_eqTerm M_laws_eqTermS M_laws_eqTermS_l0 ?_ ?_ ?_
 ·rintro laws_eqTermS_f laws_eqTermS_ih ⟨a0, b1⟩ r h
  show FnSound Try.prog 17 [aTerm a0, aTerm b1] (.bool r) []
  refine FnSound.body0 tiok (fn := Try.f17) (code := B17) (by kernel_rfl) (by kernel_rfl) (by kernel_rfl) (by kernel_rfl) (nt := 27) (by kernel_rfl) (by kernel_rfl) (T := [(0, aTerm a0), (1, aTerm b1)]) (O := []) (by kernel_rfl) (by kernel_rfl) (fun c hc => ?_)
  refine sN ?_
  refine rg hc none [some (.new 1), some (.new 2), oN] [(2, .ra 1 0), (3, .ra 2 0)] [(1, bTerm a0), (2, bTerm b1)] trivial ?_
  refine seqQ_norm ?_
  refine sN ?_
  refine sN ?_
  refine rg0 hc 5 [(2, .ra 1 0), (3, .ra 2 0), (9, .bool (a0.fOp != b1.fOp))] [(1, bTerm a0), (2, bTerm b1)] ?_
  refine seqQ_norm ?_
  rcases itesome h with ⟨hb_1, h⟩ | ⟨hb_1, h⟩
  ·refine cT ((a0.fOp != b1.fOp)) hb_1 ?_
   refine sN ?_
   refine rg0 hc 1 [(4, .bool false)] [] ?_
   refine seqQ_norm ?_
   refine Wp.retN (by kernel_rfl) ?_
   refine seqQ_ret ?_
   obtain rfl := Option.some.inj h
   exact RetQ.ret (fl := [true]) (by kernel_rfl)
  ·refine cF ((a0.fOp != b1.fOp)) hb_1 ?_
   refine Wp.skipN (by kernel_rfl) ?_
   refine seqQ_norm ?_
   refine sN ?_
   refine sN ?_
   refine rg0 hc 5 [(2, .ra 1 0), (3, .ra 2 0), (14, .bool (a0.fN != b1.fN))] [(1, bTerm a0), (2, bTerm b1)] ?_
   refine seqQ_norm ?_
   rcases itesome h with ⟨hb_2, h⟩ | ⟨hb_2, h⟩
   ·refine cT ((a0.fN != b1.fN)) hb_2 ?_
    refine sN ?_
    refine rg0 hc 1 [(4, .bool false)] [] ?_
    refine seqQ_norm ?_
    refine Wp.retN (by kernel_rfl) ?_
    refine seqQ_ret ?_
    obtain rfl := Option.some.inj h
    exact RetQ.ret (fl := [true]) (by kernel_rfl)
   ·refine cF ((a0.fN != b1.fN)) hb_2 ?_
    refine Wp.skipN (by kernel_rfl) ?_
    refine seqQ_norm ?_
    refine sN ?_
    refine sN ?_
    obtain ⟨r_5_4, hr_5_4, h⟩ := bsome h
    refine rg hc none [oN, oN, oN, oN, oc (.bool r_5_4), oN] [(2, .ra 1 0), (3, .ra 2 0), (20, .bool (!r_5_4))] [(1, bTerm a0), (2, bTerm b1)] (ai (laws_eqIntS_s _ _ hr_5_4) (ai bod_16 (ai (oi (.bool r_5_4)) trivial))) ?_
    refine seqQ_norm ?_
    rcases itesome h with ⟨hb_3, h⟩ | ⟨hb_3, h⟩
    ·refine cF (!r_5_4) (nF hb_3) ?_
     refine Wp.skipN (by kernel_rfl) ?_
     refine seqQ_norm ?_
     refine sN ?_
     refine sN ?_
     obtain ⟨r_7_4, hr_7_4, h⟩ := bsome h
     refine rg hc none [oN, oN, oN, oN, oc (.bool r_7_4), oN] [(26, .bool (!r_7_4))] [] (ai (laws_eqTermS_ih _ _ hr_7_4) (ai bod_43 (ai (oi (.bool r_7_4)) trivial))) ?_
     refine seqQ_norm ?_
     rcases itesome h with ⟨hb_4, h⟩ | ⟨hb_4, h⟩
     ·refine cF (!r_7_4) (nF hb_4) ?_
      refine Wp.skipN (by kernel_rfl) ?_
      refine seqQ_norm ?_
      refine sN ?_
      refine rg0 hc 1 [(4, .bool true)] [] ?_
      refine seqQ_norm ?_
      refine Wp.retN (by kernel_rfl) ?_
      obtain rfl := Option.some.inj h
      exact RetQ.ret (fl := [true]) (by kernel_rfl)
     ·refine cT (!r_7_4) (nT hb_4) ?_
      refine sN ?_
      refine rg0 hc 1 [(4, .bool false)] [] ?_
      refine seqQ_norm ?_
      refine Wp.retN (by kernel_rfl) ?_
      refine seqQ_ret ?_
      obtain rfl := Option.some.inj h
      exact RetQ.ret (fl := [true]) (by kernel_rfl)
    ·refine cT (!r_5_4) (nT hb_3) ?_
     refine sN ?_
     refine rg0 hc 1 [(4, .bool false)] [] ?_
     refine seqQ_norm ?_
     refine Wp.retN (by kernel_rfl) ?_
     refine seqQ_ret ?_
     obtain rfl := Option.some.inj h
     exact RetQ.ret (fl := [true]) (by kernel_rfl)
 ·rintro laws_eqTermS_l0_f laws_eqTermS_l0_ih ⟨a0, b1⟩ r h
  show FnSound Try.prog 43 [.sl (List.map GTerm_S a0), .sl (List.map GTerm_S b1)] (.bool r) []
  refine FnSound.body0 tiok (fn := Try.f43) (code := B43) (by kernel_rfl) (by kernel_rfl) (by kernel_rfl) (by kernel_rfl) (nt := 27) (by kernel_rfl) (by kernel_rfl) (T := [(0, .sl (List.map GTerm_S a0)), (1, .sl (List.map GTerm_S b1))]) (O := []) (by kernel_rfl) (by kernel_rfl) (fun c hc => ?_)
  refine sN ?_
  refine rg0 hc 1 [(0, .sl (List.map GTerm_S a0)), (1, .sl (List.map GTerm_S b1))] [] ?_
  refine seqQ_norm ?_
  refine sN ?_
  refine sN ?_
  refine rg hc none [oN, some (.eqv (.no) ⟨[(7, I (a0.length : Int))], [], []⟩), oN, some (.eqv (.no) ⟨[(9, I (b1.length : Int))], [], []⟩), oN] [(0, .sl (List.map GTerm_S a0)), (1, .sl (List.map GTerm_S b1)), (10, .bool ((a0.length : Int) != (b1.length : Int)))] [] (ai (lenT (d := 7) GTerm_S a0) (ai (lenT (d := 9) GTerm_S b1) trivial)) ?_
  refine seqQ_norm ?_
  rcases itesome h with ⟨hb_1, h⟩ | ⟨hb_1, h⟩
  ·refine cT (((a0.length : Int) != (b1.length : Int))) hb_1 ?_
   refine sN ?_
   refine rg0 hc 1 [(4, .bool false)] [] ?_
   refine seqQ_norm ?_
   refine Wp.retN (by kernel_rfl) ?_
   refine seqQ_ret ?_
   obtain rfl := Option.some.inj h
   exact RetQ.ret (fl := [true]) (by kernel_rfl)
  ·refine cF (((a0.length : Int) != (b1.length : Int))) hb_1 ?_
   refine Wp.skipN (by kernel_rfl) ?_
   refine seqQ_norm ?_
   refine sN ?_
   refine sN ?_
   refine rg0 hc 1 [(0, .sl (List.map GTerm_S a0)), (1, .sl (List.map GTerm_S b1)), (5, I 0)] [] ?_
   refine seqQ_norm ?_
   refine Wp.blockN (i := 0) (by kernel_rfl) ?_
   obtain ⟨fl, hl_7, h⟩ := bsome h
   have hL := laws_eqTermS_l0_ih _ _ hl_7 c hc
   refine Wp.loopN (by kernel_rfl) ?_
   rcases fl with ⟨⟩ | r
   ·refine WpL.into (e := (.exit 0)) (mkS [] []) hL ?_
    refine blockQ_hit ?_
    refine seqQ_norm ?_
    refine sN ?_
    refine rg0 hc 1 [(4, .bool true)] [] ?_
    refine seqQ_norm ?_
    refine Wp.retN (by kernel_rfl) ?_
    obtain rfl := Option.some.inj h
    exact RetQ.ret (fl := [true]) (by kernel_rfl)
   ·refine WpL.mono hL ?_
    rintro _ _ ⟨rfl, hfin⟩
    refine blockQ_ret ?_
    refine seqQ_ret ?_
    obtain rfl := Option.some.inj h
    exact ⟨.inl rfl, hfin⟩
 ·rintro laws_eqTerm_f laws_eqTermS_l0_f laws_eqTerm_ih laws_eqTermS_l0_ih ⟨a0, b1, i_4⟩ r h
  intro c hc
  show WpL Try.prog c (cl (cl (cr (cl (cr (cr B43)))))) (laws_eqTermS_F1 c r) (mkS [(0, .sl (List.map GTerm_S a0)), (1, .sl (List.map GTerm_S b1)), (5, I i_4)] [])
  refine WpL.step ?_
  refine sN ?_
  refine sN ?_
  refine rg hc none [oN, oN, some (.eqv (.no) ⟨[(13, I (a0.length : Int))], [], []⟩), oN] [(0, .sl (List.map GTerm_S a0)), (1, .sl (List.map GTerm_S b1)), (5, I i_4), (14, .bool (decide (i_4 < (a0.length : Int))))] [] (ai (lenT (d := 13) GTerm_S a0) trivial) ?_
  refine seqQ_norm ?_
  rcases itesome h with ⟨hb_5, h⟩ | ⟨hb_5, h⟩
  ·refine cT ((decide (i_4 < (a0.length : Int)))) hb_5 ?_
   refine Wp.skipN (by kernel_rfl) ?_
   refine seqQ_norm ?_
   refine sN ?_
   refine Wp.blockN (i := 1) (by kernel_rfl) ?_
   refine sN ?_
   obtain ⟨e_6_2, hi_6_2, h⟩ := bsome h
   obtain ⟨e_6_6, hi_6_6, h⟩ := bsome h
   obtain ⟨r_6_8, hr_6_8, h⟩ := bsome h
   refine rg hc (rx [[0], [0], [2], [3], [0], [0], [0, 4, 5], [0, 4, 5, 6], [8], [9]]) [oN, oN, some (.el (aTerm e_6_2)), oN, oN, oN, some (.el (aTerm e_6_6)), oN, oc (.bool r_6_8), oN] [(0, .sl (List.map GTerm_S a0)), (1, .sl (List.map GTerm_S b1)), (5, I i_4), (26, .bool (!r_6_8))] [] (ai (idx_sl (enc := GTerm_S) (x := aTerm e_6_2) hi_6_2 (eq_GTerm_S e_6_2)) (ai (idx_sl (enc := GTerm_S) (x := aTerm e_6_6) hi_6_6 (eq_GTerm_S e_6_6)) (ai (laws_eqTerm_ih _ _ hr_6_8) (ai bod_17 (ai (oi (.bool r_6_8)) trivial))))) ?_
   refine seqQ_norm ?_
   rcases itesome h with ⟨hb_6, h⟩ | ⟨hb_6, h⟩
   ·refine cF (!r_6_8) (nF hb_6) ?_
    refine Wp.skipN (by kernel_rfl) ?_
    refine blockQ_norm ?_
    refine seqQ_norm ?_
    refine rg0 hc 3 [(0, .sl (List.map GTerm_S a0)), (1, .sl (List.map GTerm_S b1)), (5, I (wr (i_4 + 1)))] [] ?_
    refine loopQ_norm ?_
    exact (laws_eqTermS_l0_ih _ _ h c hc)
   ·refine cT (!r_6_8) (nT hb_6) ?_
    refine sN ?_
    refine rg0 hc 1 [(4, .bool false)] [] ?_
    refine seqQ_norm ?_
    refine Wp.retN (by kernel_rfl) ?_
    refine blockQ_ret ?_
    refine seqQ_ret ?_
    refine loopQ_ret ?_
    obtain rfl := Option.some.inj h
    exact RetE.ret (fl := [true]) (by kernel_rfl)
  ·refine cF ((decide (i_4 < (a0.length : Int)))) hb_5 ?_
   refine Wp.exitN (i := 0) (by kernel_rfl) ?_
   refine seqQ_exit ?_
   refine loopQ_exit ?_
   obtain rfl := Option.some.inj h
   exact Into.view (fun a w hv => SRx.renL [] hv (by kernel_rfl) (by kernel_rfl) (by kernel_rfl))
theorem laws_eqTerm_s : ∀ p r, laws_eqTerm p = some r → M_laws_eqTerm p r := laws_eqTerm_all.1
theorem laws_eqTermS_s : ∀ p r, laws_eqTermS p = some r → M_laws_eqTermS p r := laws_eqTerm_all.2.1
theorem laws_eqTermS_l0_s : ∀ p r, laws_eqTermS_l0 p = some r → M_laws_eqTermS_l0 p r := laws_eqTerm_all.2.2
def laws_eqBoolS_F1 (c : Ctx) : (Unit) ⊕ (Bool) → Exit → AState → Prop
 | .inl _ => Into c (.exit 0) (mkS [] [])
 | .inr r => RetE TIx Try.f42 [] (.bool r)
def laws_eqBoolS_l0 (p : (List Bool) × (List Bool) × Int) : Option ((Unit) ⊕ (Bool)) :=
 match p with
 | (a0, b1, i_4) =>
  if (decide (i_4 < (a0.length : Int))) = true then
   (idx a0 i_4) >>= fun e_6_2 =>
   (idx b1 i_4) >>= fun e_6_6 =>
   if (e_6_2 == e_6_6) = true then
    laws_eqBoolS_l0 (a0, b1, (wr (i_4 + 1)))
   else
    some (.inr false)
  else
   some (.inl ())
 partial_fixpoint
def M_laws_eqBoolS_l0 (p : (List Bool) × (List Bool) × Int) (fl : (Unit) ⊕ (Bool)) : Prop :=
 match p with
 | (a0, b1, i_4) => ∀ c : Ctx, c.nt = 26 → WpL Try.prog c (cl (cl (cr (cl (cr (cr B42)))))) (laws_eqBoolS_F1 c fl) (mkS [(0, sB a0), (1, sB b1), (5, I i_4)] [])
theorem laws_eqBoolS_l0_s : ∀ p r, laws_eqBoolS_l0 p = some r → M_laws_eqBoolS_l0 p r := by
 refine laws_eqBoolS_l0.partial_correctness M_laws_eqBoolS_l0 ?_
 rintro laws_eqBoolS_l0_f laws_eqBoolS_l0_ih ⟨a0, b1, i_4⟩ r h
 intro c hc
 show WpL Try.prog c (cl (cl (cr (cl (cr (cr B42)))))) (laws_eqBoolS_F1 c r) (mkS [(0, sB a0), (1, sB b1), (5, I i_4)] [])
 refine WpL.step ?_
 refine sN ?_
 refine sN ?_
 refine rg hc none [oN, oN, some (.eqv (.no) ⟨[(13, I (a0.length : Int))], [], []⟩), oN] [(0, sB a0), (1, sB b1), (5, I i_4), (14, .bool (decide (i_4 < (a0.length : Int))))] [] (ai (lenT (d := 13) AV.bool a0) trivial) ?_
 refine seqQ_norm ?_
 rcases itesome h with ⟨hb_5, h⟩ | ⟨hb_5, h⟩
 ·refine cT ((decide (i_4 < (a0.length : Int)))) hb_5 ?_
  refine Wp.skipN (by kernel_rfl) ?_
  refine seqQ_norm ?_
  refine sN ?_
  refine Wp.blockN (i := 1) (by kernel_rfl) ?_
  refine sN ?_
  obtain ⟨e_6_2, hi_6_2, h⟩ := bsome h
  obtain ⟨e_6_6, hi_6_6, h⟩ := bsome h
  refine rg hc ah11_1 [oN, oN, some (.el (.bool e_6_2)), oN, oN, oN, some (.el (.bool e_6_6)), oN, oN] [(0, sB a0), (1, sB b1), (5, I i_4), (25, .bool (!(e_6_2 == e_6_6)))] [] (ai (idx_sl (enc := AV.bool) (x := .bool e_6_2) hi_6_2 (eq_B e_6_2)) (ai (idx_sl (enc := AV.bool) (x := .bool e_6_6) hi_6_6 (eq_B e_6_6)) trivial)) ?_
  refine seqQ_norm ?_
  rcases itesome h with ⟨hb_6, h⟩ | ⟨hb_6, h⟩
  ·refine cF ((!(e_6_2 == e_6_6))) (nF hb_6) ?_
   refine Wp.skipN (by kernel_rfl) ?_
   refine blockQ_norm ?_
   refine seqQ_norm ?_
   refine rg0 hc 3 [(0, sB a0), (1, sB b1), (5, I (wr (i_4 + 1)))] [] ?_
   refine loopQ_norm ?_
   exact (laws_eqBoolS_l0_ih _ _ h c hc)
  ·refine cT ((!(e_6_2 == e_6_6))) (nT hb_6) ?_
   refine sN ?_
   refine rg0 hc 1 [(4, .bool false)] [] ?_
   refine seqQ_norm ?_
   refine Wp.retN (by kernel_rfl) ?_
   refine blockQ_ret ?_
   refine seqQ_ret ?_
   refine loopQ_ret ?_
   obtain rfl := Option.some.inj h
   exact RetE.ret (fl := [true]) (by kernel_rfl)
 ·refine cF ((decide (i_4 < (a0.length : Int)))) hb_5 ?_
  refine Wp.exitN (i := 0) (by kernel_rfl) ?_
  refine seqQ_exit ?_
  refine loopQ_exit ?_
  obtain rfl := Option.some.inj h
  exact Into.view (fun a w hv => SRx.renL [] hv (by kernel_rfl) (by kernel_rfl) (by kernel_rfl))
def laws_eqBoolS (p : (List Bool) × (List Bool)) : Option (Bool) :=
 match p with
 | (a0, b1) =>
  if ((a0.length : Int) != (b1.length : Int)) = true then
   some false
  else
   (laws_eqBoolS_l0 (a0, b1, 0)) >>= fun fl => match fl with
   | .inl () =>
    some true
   | .inr r =>
    some r
def M_laws_eqBoolS (p : (List Bool) × (List Bool)) (r : Bool) : Prop :=
 match p with
 | (a0, b1) => FnSound Try.prog 42 [sB a0, sB b1] (.bool r) []
theorem laws_eqBoolS_s : ∀ p r, laws_eqBoolS p = some r → M_laws_eqBoolS p r := by
 rintro ⟨a0, b1⟩ r h
 unfold laws_eqBoolS at h
 show FnSound Try.prog 42 [sB a0, sB b1] (.bool r) []
 refine FnSound.body0 tiok (fn := Try.f42) (code := B42) (by kernel_rfl) (by kernel_rfl) (by kernel_rfl) (by kernel_rfl) (nt := 26) (by kernel_rfl) (by kernel_rfl) (T := [(0, sB a0), (1, sB b1)]) (O := []) (by kernel_rfl) (by kernel_rfl) (fun c hc => ?_)
 refine sN ?_
 refine rg0 hc 1 [(0, sB a0), (1, sB b1)] [] ?_
 refine seqQ_norm ?_
 refine sN ?_
 refine sN ?_
 refine rg hc none [oN, some (.eqv (.no) ⟨[(7, I (a0.length : Int))], [], []⟩), oN, some (.eqv (.no) ⟨[(9, I (b1.length : Int))], [], []⟩), oN] [(0, sB a0), (1, sB b1), (10, .bool ((a0.length : Int) != (b1.length : Int)))] [] (ai (lenT (d := 7) AV.bool a0) (ai (lenT (d := 9) AV.bool b1) trivial)) ?_
 refine seqQ_norm ?_
 rcases itesome h with ⟨hb_1, h⟩ | ⟨hb_1, h⟩
 ·refine cT (((a0.length : Int) != (b1.length : Int))) hb_1 ?_
  refine sN ?_
  refine rg0 hc 1 [(4, .bool false)] [] ?_
  refine seqQ_norm ?_
  refine Wp.retN (by kernel_rfl) ?_
  refine seqQ_ret ?_
  obtain rfl := Option.some.inj h
  exact RetQ.ret (fl := [true]) (by kernel_rfl)
 ·refine cF (((a0.length : Int) != (b1.length : Int))) hb_1 ?_
  refine Wp.skipN (by kernel_rfl) ?_
  refine seqQ_norm ?_
  refine sN ?_
  refine sN ?_
  refine rg0 hc 1 [(0, sB a0), (1, sB b1), (5, I 0)] [] ?_
  refine seqQ_norm ?_
  refine Wp.blockN (i := 0) (by kernel_rfl) ?_
  obtain ⟨fl, hl_7, h⟩ := bsome h
  have hL := laws_eqBoolS_l0_s _ _ hl_7 c hc
  refine Wp.loopN (by kernel_rfl) ?_
  rcases fl with ⟨⟩ | r
  ·refine WpL.into (e := (.exit 0)) (mkS [] []) hL ?_
   refine blockQ_hit ?_
   refine seqQ_norm ?_
   refine sN ?_
   refine rg0 hc 1 [(4, .bool true)] [] ?_
   refine seqQ_norm ?_
   refine Wp.retN (by kernel_rfl) ?_
   obtain rfl := Option.some.inj h
   exact RetQ.ret (fl := [true]) (by kernel_rfl)
  ·refine WpL.mono hL ?_
   rintro _ _ ⟨rfl, hfin⟩
   refine blockQ_ret ?_
   refine seqQ_ret ?_
   obtain rfl := Option.some.inj h
   exact ⟨.inl rfl, hfin⟩
def laws_eqSystem (p : GSystem × GSystem) : Option (Bool) :=
 match p with
 | (a0, b1) =>
  if (a0.fSize != b1.fSize) = true then
   some false
  else
   (laws_eqIntS (a0.fPlus, b1.fPlus)) >>= fun r_3_4 =>
   if r_3_4 = true then
    (laws_eqIntS (a0.fTimes, b1.fTimes)) >>= fun r_5_4 =>
    if r_5_4 = true then
     (laws_eqBoolS (a0.fBelow, b1.fBelow)) >>= fun r_7_4 =>
     if r_7_4 = true then
      some true
     else
      some false
    else
     some false
   else
    some false
def M_laws_eqSystem (p : GSystem × GSystem) (r : Bool) : Prop :=
 match p with
 | (a0, b1) => FnSound Try.prog 15 [aSystem a0, aSystem b1] (.bool r) []
theorem laws_eqSystem_s : ∀ p r, laws_eqSystem p = some r → M_laws_eqSystem p r := by
 rintro ⟨a0, b1⟩ r h
 unfold laws_eqSystem at h
 show FnSound Try.prog 15 [aSystem a0, aSystem b1] (.bool r) []
 refine FnSound.body0 tiok (fn := Try.f15) (code := B15) (by kernel_rfl) (by kernel_rfl) (by kernel_rfl) (by kernel_rfl) (nt := 28) (by kernel_rfl) (by kernel_rfl) (T := [(0, aSystem a0), (1, aSystem b1)]) (O := []) (by kernel_rfl) (by kernel_rfl) (fun c hc => ?_)
 refine sN ?_
 refine rg hc none [some (.new 1), some (.new 2), oN] [(2, .ra 1 0), (3, .ra 2 0)] [(1, bSystem a0), (2, bSystem b1)] trivial ?_
 refine seqQ_norm ?_
 refine sN ?_
 refine sN ?_
 refine rg0 hc 5 [(2, .ra 1 0), (3, .ra 2 0), (9, .bool (a0.fSize != b1.fSize))] [(1, bSystem a0), (2, bSystem b1)] ?_
 refine seqQ_norm ?_
 rcases itesome h with ⟨hb_1, h⟩ | ⟨hb_1, h⟩
 ·refine cT ((a0.fSize != b1.fSize)) hb_1 ?_
  refine sN ?_
  refine rg0 hc 1 [(4, .bool false)] [] ?_
  refine seqQ_norm ?_
  refine Wp.retN (by kernel_rfl) ?_
  refine seqQ_ret ?_
  obtain rfl := Option.some.inj h
  exact RetQ.ret (fl := [true]) (by kernel_rfl)
 ·refine cF ((a0.fSize != b1.fSize)) hb_1 ?_
  refine Wp.skipN (by kernel_rfl) ?_
  refine seqQ_norm ?_
  refine sN ?_
  refine sN ?_
  obtain ⟨r_3_4, hr_3_4, h⟩ := bsome h
  refine rg hc none [oN, oN, oN, oN, oc (.bool r_3_4), oN] [(2, .ra 1 0), (3, .ra 2 0), (15, .bool (!r_3_4))] [(1, bSystem a0), (2, bSystem b1)] (ai (laws_eqIntS_s _ _ hr_3_4) (ai bod_16 (ai (oi (.bool r_3_4)) trivial))) ?_
  refine seqQ_norm ?_
  rcases itesome h with ⟨hb_2, h⟩ | ⟨hb_2, h⟩
  ·refine cF (!r_3_4) (nF hb_2) ?_
   refine Wp.skipN (by kernel_rfl) ?_
   refine seqQ_norm ?_
   refine sN ?_
   refine sN ?_
   obtain ⟨r_5_4, hr_5_4, h⟩ := bsome h
   refine rg hc none [oN, oN, oN, oN, oc (.bool r_5_4), oN] [(2, .ra 1 0), (3, .ra 2 0), (21, .bool (!r_5_4))] [(1, bSystem a0), (2, bSystem b1)] (ai (laws_eqIntS_s _ _ hr_5_4) (ai bod_16 (ai (oi (.bool r_5_4)) trivial))) ?_
   refine seqQ_norm ?_
   rcases itesome h with ⟨hb_3, h⟩ | ⟨hb_3, h⟩
   ·refine cF (!r_5_4) (nF hb_3) ?_
    refine Wp.skipN (by kernel_rfl) ?_
    refine seqQ_norm ?_
    refine sN ?_
    refine sN ?_
    obtain ⟨r_7_4, hr_7_4, h⟩ := bsome h
    refine rg hc none [oN, oN, oN, oN, oc (.bool r_7_4), oN] [(27, .bool (!r_7_4))] [] (ai (laws_eqBoolS_s _ _ hr_7_4) (ai bod_42 (ai (oi (.bool r_7_4)) trivial))) ?_
    refine seqQ_norm ?_
    rcases itesome h with ⟨hb_4, h⟩ | ⟨hb_4, h⟩
    ·refine cF (!r_7_4) (nF hb_4) ?_
     refine Wp.skipN (by kernel_rfl) ?_
     refine seqQ_norm ?_
     refine sN ?_
     refine rg0 hc 1 [(4, .bool true)] [] ?_
     refine seqQ_norm ?_
     refine Wp.retN (by kernel_rfl) ?_
     obtain rfl := Option.some.inj h
     exact RetQ.ret (fl := [true]) (by kernel_rfl)
    ·refine cT (!r_7_4) (nT hb_4) ?_
     refine sN ?_
     refine rg0 hc 1 [(4, .bool false)] [] ?_
     refine seqQ_norm ?_
     refine Wp.retN (by kernel_rfl) ?_
     refine seqQ_ret ?_
     obtain rfl := Option.some.inj h
     exact RetQ.ret (fl := [true]) (by kernel_rfl)
   ·refine cT (!r_5_4) (nT hb_3) ?_
    refine sN ?_
    refine rg0 hc 1 [(4, .bool false)] [] ?_
    refine seqQ_norm ?_
    refine Wp.retN (by kernel_rfl) ?_
    refine seqQ_ret ?_
    obtain rfl := Option.some.inj h
    exact RetQ.ret (fl := [true]) (by kernel_rfl)
  ·refine cT (!r_3_4) (nT hb_2) ?_
   refine sN ?_
   refine rg0 hc 1 [(4, .bool false)] [] ?_
   refine seqQ_norm ?_
   refine Wp.retN (by kernel_rfl) ?_
   refine seqQ_ret ?_
   obtain rfl := Option.some.inj h
   exact RetQ.ret (fl := [true]) (by kernel_rfl)
def laws_markIntS_F1 (c : Ctx) : Int × (List Int) → Exit → AState → Prop
 | (k_6, x_7) => Into c (.exit 0) (mkS [(1, I k_6)] [(1000, .arr (List.map I x_7))])
def laws_markIntS_l0 (p : (List Int) × Int × Int) : Option (Int × (List Int)) :=
 match p with
 | (a_2, k_3, i_4) =>
  if (decide (i_4 < (a_2.length : Int))) = true then
   (idx a_2 i_4) >>= fun e_4_3 =>
   laws_markIntS_l0 ((List.set a_2 (Int.toNat i_4) k_3), (wr (k_3 + 1)), (wr (i_4 + 1)))
  else
   some ((k_3, a_2))
 partial_fixpoint
def M_laws_markIntS_l0 (p : (List Int) × Int × Int) (fl : Int × (List Int)) : Prop :=
 match p with
 | (a_2, k_3, i_4) => ∀ c : Ctx, c.nt = 19 → WpL Try.prog c (cl (cl (cr (cl (cr B29))))) (laws_markIntS_F1 c fl) (mkS [(0, .rs 1000), (1, I k_3), (5, I i_4)] [(1000, .arr (List.map I a_2))])
theorem laws_markIntS_l0_s : ∀ p r, laws_markIntS_l0 p = some r → M_laws_markIntS_l0 p r := by
 refine laws_markIntS_l0.partial_correctness M_laws_markIntS_l0 ?_
 rintro laws_markIntS_l0_f laws_markIntS_l0_ih ⟨a_2, k_3, i_4⟩ r h
 intro c hc
 show WpL Try.prog c (cl (cl (cr (cl (cr B29))))) (laws_markIntS_F1 c r) (mkS [(0, .rs 1000), (1, I k_3), (5, I i_4)] [(1000, .arr (List.map I a_2))])
 refine WpL.step ?_
 refine sN ?_
 refine sN ?_
 refine rg hc none [oN, oN, some (.eqv (.no) ⟨[(8, I (a_2.length : Int))], [], []⟩), oN] [(0, .rs 1000), (1, I k_3), (5, I i_4), (9, .bool (decide (i_4 < (a_2.length : Int))))] [(1000, .arr (List.map I a_2))] (ai (lenT (d := 8) I a_2) trivial) ?_
 refine seqQ_norm ?_
 rcases itesome h with ⟨hb_5, h⟩ | ⟨hb_5, h⟩
 ·refine cT ((decide (i_4 < (a_2.length : Int)))) hb_5 ?_
  refine Wp.skipN (by kernel_rfl) ?_
  refine seqQ_norm ?_
  refine sN ?_
  refine Wp.blockN (i := 1) (by kernel_rfl) ?_
  refine sN ?_
  obtain ⟨e_4_3, hi_4_3, h⟩ := bsome h
  refine rg hc none [oN, oN, oN, oN, some (.eqv (.mk 0 true) ⟨[], [(1000, some (.arr (List.map I (List.set a_2 (Int.toNat i_4) k_3))))], []⟩)] [(0, .rs 1000), (1, I k_3), (5, I i_4)] [(1000, .arr (List.map I (List.set a_2 (Int.toNat i_4) k_3)))] (ai (idx_own (enc := I) hi_4_3) (ai (congrArg (fun z => (⟨[], [(1000, some (.arr z))], []⟩ : Wr)) (set_row (enc := I) (i := Int.toNat i_4) (l := a_2) (v := k_3) (x := I k_3) (eq_I k_3))) (ai (own_set (enc := I) (sz := 1) sz_I hi_4_3) trivial))) ?_
  refine seqQ_norm ?_
  refine rg0 hc 3 [(0, .rs 1000), (1, I (wr (k_3 + 1))), (5, I i_4)] [(1000, .arr (List.map I (List.set a_2 (Int.toNat i_4) k_3)))] ?_
  refine blockQ_norm ?_
  refine seqQ_norm ?_
  refine rg0 hc 3 [(0, .rs 1000), (1, I (wr (k_3 + 1))), (5, I (wr (i_4 + 1)))] [(1000, .arr (List.map I (List.set a_2 (Int.toNat i_4) k_3)))] ?_
  refine loopQ_norm ?_
  exact (laws_markIntS_l0_ih _ _ h c hc)
 ·refine cF ((decide (i_4 < (a_2.length : Int)))) hb_5 ?_
  refine Wp.exitN (i := 0) (by kernel_rfl) ?_
  refine seqQ_exit ?_
  refine loopQ_exit ?_
  obtain ⟨rfl, rfl⟩ := Prod.mk.inj (Option.some.inj h)
  exact Into.view (fun a w hv => SRx.renL [] hv (by kernel_rfl) (by kernel_rfl) (by kernel_rfl))
def laws_markIntS (p : (List Int) × Int) : Option (Int × (List Int)) :=
 match p with
 | (a0, k1) =>
  (laws_markIntS_l0 (a0, k1, 0)) >>= fun (k_6, x_7) =>
  some (k_6, x_7)
def M_laws_markIntS (p : (List Int) × Int) (r : Int × (List Int)) : Prop :=
 match p with
 | (a0, k1) => FnSound Try.prog 29 [.osl (List.map I a0), I k1] (I r.1) [.osl (List.map I r.2), .undef]
theorem laws_markIntS_s : ∀ p r, laws_markIntS p = some r → M_laws_markIntS p r := by
 rintro ⟨a0, k1⟩ r h
 unfold laws_markIntS at h
 show FnSound Try.prog 29 [.osl (List.map I a0), I k1] (I r.1) [.osl (List.map I r.2), .undef]
 refine FnSound.bodyO tiok (fn := Try.f29) (code := B29) (by kernel_rfl) (by kernel_rfl) (by kernel_rfl) (nt := 19) (by kernel_rfl) (by kernel_rfl) (T := [(0, .rs 1000), (1, I k1)]) (O := [(1000, .arr (List.map I a0))]) (by kernel_rfl) (by kernel_rfl) (fun c hc => ?_)
 refine sN ?_
 refine rg0 hc 1 [(0, .rs 1000), (1, I k1)] [(1000, .arr (List.map I a0))] ?_
 refine seqQ_norm ?_
 refine sN ?_
 refine sN ?_
 refine rg0 hc 1 [(0, .rs 1000), (1, I k1), (5, I 0)] [(1000, .arr (List.map I a0))] ?_
 refine seqQ_norm ?_
 refine Wp.blockN (i := 0) (by kernel_rfl) ?_
 obtain ⟨⟨k_6, x_7⟩, hl_8, h⟩ := bsome h
 have hL := laws_markIntS_l0_s _ _ hl_8 c hc
 refine Wp.loopN (by kernel_rfl) ?_
 ·refine WpL.into (e := (.exit 0)) (mkS [(1, I k_6)] [(1000, .arr (List.map I x_7))]) hL ?_
  refine blockQ_hit ?_
  refine seqQ_norm ?_
  refine sN ?_
  refine rg0 hc 2 [(4, I k_6)] [(1000, .arr (List.map I x_7))] ?_
  refine seqQ_norm ?_
  refine Wp.retN (by kernel_rfl) ?_
  obtain rfl := Option.some.inj h
  exact RetOQ.ret (fl := [true]) (by kernel_rfl)
def laws_markBoolS_F1 (c : Ctx) : Int × (List Bool) → Exit → AState → Prop
 | (k_6, x_7) => Into c (.exit 0) (mkS [(1, I k_6)] [(1000, .arr (List.map AV.bool x_7))])
def laws_markBoolS_l0 (p : (List Bool) × Int × Int) : Option (Int × (List Bool)) :=
 match p with
 | (a_2, k_3, i_4) =>
  if (decide (i_4 < (a_2.length : Int))) = true then
   (idx a_2 i_4) >>= fun e_4_5 =>
   laws_markBoolS_l0 ((List.set a_2 (Int.toNat i_4) ((Int.tmod k_3 3) == 0)), (wr (k_3 + 1)), (wr (i_4 + 1)))
  else
   some ((k_3, a_2))
 partial_fixpoint
def M_laws_markBoolS_l0 (p : (List Bool) × Int × Int) (fl : Int × (List Bool)) : Prop :=
 match p with
 | (a_2, k_3, i_4) => ∀ c : Ctx, c.nt = 21 → WpL Try.prog c (cl (cl (cr (cl (cr B66))))) (laws_markBoolS_F1 c fl) (mkS [(0, .rs 1000), (1, I k_3), (5, I i_4)] [(1000, .arr (List.map AV.bool a_2))])
theorem laws_markBoolS_l0_s : ∀ p r, laws_markBoolS_l0 p = some r → M_laws_markBoolS_l0 p r := by
 refine laws_markBoolS_l0.partial_correctness M_laws_markBoolS_l0 ?_
 rintro laws_markBoolS_l0_f laws_markBoolS_l0_ih ⟨a_2, k_3, i_4⟩ r h
 intro c hc
 show WpL Try.prog c (cl (cl (cr (cl (cr B66))))) (laws_markBoolS_F1 c r) (mkS [(0, .rs 1000), (1, I k_3), (5, I i_4)] [(1000, .arr (List.map AV.bool a_2))])
 refine WpL.step ?_
 refine sN ?_
 refine sN ?_
 refine rg hc none [oN, oN, some (.eqv (.no) ⟨[(8, I (a_2.length : Int))], [], []⟩), oN] [(0, .rs 1000), (1, I k_3), (5, I i_4), (9, .bool (decide (i_4 < (a_2.length : Int))))] [(1000, .arr (List.map AV.bool a_2))] (ai (lenT (d := 8) AV.bool a_2) trivial) ?_
 refine seqQ_norm ?_
 rcases itesome h with ⟨hb_5, h⟩ | ⟨hb_5, h⟩
 ·refine cT ((decide (i_4 < (a_2.length : Int)))) hb_5 ?_
  refine Wp.skipN (by kernel_rfl) ?_
  refine seqQ_norm ?_
  refine sN ?_
  refine Wp.blockN (i := 1) (by kernel_rfl) ?_
  refine sN ?_
  obtain ⟨e_4_5, hi_4_5, h⟩ := bsome h
  refine rg hc none [oN, oN, oN, oN, oN, oN, some (.eqv (.mk 0 true) ⟨[], [(1000, some (.arr (List.map AV.bool (List.set a_2 (Int.toNat i_4) ((Int.tmod k_3 3) == 0)))))], []⟩)] [(0, .rs 1000), (1, I k_3), (5, I i_4)] [(1000, .arr (List.map AV.bool (List.set a_2 (Int.toNat i_4) ((Int.tmod k_3 3) == 0))))] (ai ((by decide) : (3 : Int) ≠ 0) (ai (idx_own (enc := AV.bool) hi_4_5) (ai (congrArg (fun z => (⟨[], [(1000, some (.arr z))], []⟩ : Wr)) (set_row (enc := AV.bool) (i := Int.toNat i_4) (l := a_2) (v := ((Int.tmod k_3 3) == 0)) (x := AV.bool ((Int.tmod k_3 3) == 0)) (eq_B ((Int.tmod k_3 3) == 0)))) (ai (own_set (enc := AV.bool) (sz := 1) sz_B hi_4_5) trivial)))) ?_
  refine seqQ_norm ?_
  refine rg0 hc 3 [(0, .rs 1000), (1, I (wr (k_3 + 1))), (5, I i_4)] [(1000, .arr (List.map AV.bool (List.set a_2 (Int.toNat i_4) ((Int.tmod k_3 3) == 0))))] ?_
  refine blockQ_norm ?_
  refine seqQ_norm ?_
  refine rg0 hc 3 [(0, .rs 1000), (1, I (wr (k_3 + 1))), (5, I (wr (i_4 + 1)))] [(1000, .arr (List.map AV.bool (List.set a_2 (Int.toNat i_4) ((Int.tmod k_3 3) == 0))))] ?_
  refine loopQ_norm ?_
  exact (laws_markBoolS_l0_ih _ _ h c hc)
 ·refine cF ((decide (i_4 < (a_2.length : Int)))) hb_5 ?_
  refine Wp.exitN (i := 0) (by kernel_rfl) ?_
  refine seqQ_exit ?_
  refine loopQ_exit ?_
  obtain ⟨rfl, rfl⟩ := Prod.mk.inj (Option.some.inj h)
  exact Into.view (fun a w hv => SRx.renL [] hv (by kernel_rfl) (by kernel_rfl) (by kernel_rfl))
def laws_markBoolS (p : (List Bool) × Int) : Option (Int × (List Bool)) :=
 match p with
 | (a0, k1) =>
  (laws_markBoolS_l0 (a0, k1, 0)) >>= fun (k_6, x_7) =>
  some (k_6, x_7)
def M_laws_markBoolS (p : (List Bool) × Int) (r : Int × (List Bool)) : Prop :=
 match p with
 | (a0, k1) => FnSound Try.prog 66 [.osl (List.map AV.bool a0), I k1] (I r.1) [.osl (List.map AV.bool r.2), .undef]
theorem laws_markBoolS_s : ∀ p r, laws_markBoolS p = some r → M_laws_markBoolS p r := by
 rintro ⟨a0, k1⟩ r h
 unfold laws_markBoolS at h
 show FnSound Try.prog 66 [.osl (List.map AV.bool a0), I k1] (I r.1) [.osl (List.map AV.bool r.2), .undef]
 refine FnSound.bodyO tiok (fn := Try.f66) (code := B66) (by kernel_rfl) (by kernel_rfl) (by kernel_rfl) (nt := 21) (by kernel_rfl) (by kernel_rfl) (T := [(0, .rs 1000), (1, I k1)]) (O := [(1000, .arr (List.map AV.bool a0))]) (by kernel_rfl) (by kernel_rfl) (fun c hc => ?_)
 refine sN ?_
 refine rg0 hc 1 [(0, .rs 1000), (1, I k1)] [(1000, .arr (List.map AV.bool a0))] ?_
 refine seqQ_norm ?_
 refine sN ?_
 refine sN ?_
 refine rg0 hc 1 [(0, .rs 1000), (1, I k1), (5, I 0)] [(1000, .arr (List.map AV.bool a0))] ?_
 refine seqQ_norm ?_
 refine Wp.blockN (i := 0) (by kernel_rfl) ?_
 obtain ⟨⟨k_6, x_7⟩, hl_8, h⟩ := bsome h
 have hL := laws_markBoolS_l0_s _ _ hl_8 c hc
 refine Wp.loopN (by kernel_rfl) ?_
 ·refine WpL.into (e := (.exit 0)) (mkS [(1, I k_6)] [(1000, .arr (List.map AV.bool x_7))]) hL ?_
  refine blockQ_hit ?_
  refine seqQ_norm ?_
  refine sN ?_
  refine rg0 hc 2 [(4, I k_6)] [(1000, .arr (List.map AV.bool x_7))] ?_
  refine seqQ_norm ?_
  refine Wp.retN (by kernel_rfl) ?_
  obtain rfl := Option.some.inj h
  exact RetOQ.ret (fl := [true]) (by kernel_rfl)
def laws_markSystem (p : GSystem × Int) : Option (Int × GSystem) :=
 match p with
 | (a0, k1) =>
  (laws_markIntS (a0.fPlus, k1)) >>= fun (r_1_3, o_1_3_0) =>
  (laws_markIntS (a0.fTimes, r_1_3)) >>= fun (r_2_3, o_2_3_0) =>
  (laws_markBoolS (a0.fBelow, r_2_3)) >>= fun (r_3_3, o_3_3_0) =>
  some (r_3_3, (GSystem.mk a0.fSize o_1_3_0 o_2_3_0 o_3_3_0))
def M_laws_markSystem (p : GSystem × Int) (r : Int × GSystem) : Prop :=
 match p with
 | (a0, k1) => FnSound Try.prog 28 [qSystem a0, I k1] (I r.1) [.agg [.undef, .osl (List.map I r.2.fPlus), .osl (List.map I r.2.fTimes), .osl (List.map AV.bool r.2.fBelow)], .undef]
theorem laws_markSystem_s : ∀ p r, laws_markSystem p = some r → M_laws_markSystem p r := by
 rintro ⟨a0, k1⟩ r h
 unfold laws_markSystem at h
 show FnSound Try.prog 28 [qSystem a0, I k1] (I r.1) [.agg [.undef, .osl (List.map I r.2.fPlus), .osl (List.map I r.2.fTimes), .osl (List.map AV.bool r.2.fBelow)], .undef]
 refine FnSound.bodyO tiok (fn := Try.f28) (code := B28) (by kernel_rfl) (by kernel_rfl) (by kernel_rfl) (nt := 18) (by kernel_rfl) (by kernel_rfl) (T := [(0, .agg [I a0.fSize, .rs 1000, .rs 1001, .rs 1002]), (1, I k1)]) (O := [(1000, .arr (List.map I a0.fPlus)), (1001, .arr (List.map I a0.fTimes)), (1002, .arr (List.map AV.bool a0.fBelow))]) (by kernel_rfl) (by kernel_rfl) (fun c hc => ?_)
 refine sN ?_
 refine rg hc none [some (.new 1), oN] [(1, I k1), (2, .ra 1 0)] [(1, .box [I a0.fSize, .rs 1000, .rs 1001, .rs 1002]), (1000, .arr (List.map I a0.fPlus)), (1001, .arr (List.map I a0.fTimes)), (1002, .arr (List.map AV.bool a0.fBelow))] trivial ?_
 refine seqQ_norm ?_
 refine sN ?_
 obtain ⟨⟨r_1_3, o_1_3_0⟩, hr_1_3, h⟩ := bsome h
 refine rg hc none [oN, oN, oN, some (.call (I r_1_3) [.osl (List.map I o_1_3_0), .undef] 1), oN] [(1, I r_1_3), (2, .ra 1 0)] [(1, .box [I a0.fSize, .rs 1000, .rs 1001, .rs 1002]), (1000, .arr (List.map I o_1_3_0)), (1001, .arr (List.map I a0.fTimes)), (1002, .arr (List.map AV.bool a0.fBelow))] (ai (laws_markIntS_s _ _ hr_1_3) (ai bod_29 trivial)) ?_
 refine seqQ_norm ?_
 refine sN ?_
 obtain ⟨⟨r_2_3, o_2_3_0⟩, hr_2_3, h⟩ := bsome h
 refine rg hc none [oN, oN, oN, some (.call (I r_2_3) [.osl (List.map I o_2_3_0), .undef] 1), oN] [(1, I r_2_3), (2, .ra 1 0)] [(1, .box [I a0.fSize, .rs 1000, .rs 1001, .rs 1002]), (1000, .arr (List.map I o_1_3_0)), (1001, .arr (List.map I o_2_3_0)), (1002, .arr (List.map AV.bool a0.fBelow))] (ai (laws_markIntS_s _ _ hr_2_3) (ai bod_29 trivial)) ?_
 refine seqQ_norm ?_
 refine sN ?_
 obtain ⟨⟨r_3_3, o_3_3_0⟩, hr_3_3, h⟩ := bsome h
 refine rg hc none [oN, oN, oN, some (.call (I r_3_3) [.osl (List.map AV.bool o_3_3_0), .undef] 1), oN] [(1, I r_3_3)] [(1000, .arr (List.map I o_1_3_0)), (1001, .arr (List.map I o_2_3_0)), (1002, .arr (List.map AV.bool o_3_3_0))] (ai (laws_markBoolS_s _ _ hr_3_3) (ai bod_66 trivial)) ?_
 refine seqQ_norm ?_
 refine sN ?_
 refine rg0 hc 2 [(4, I r_3_3)] [(1000, .arr (List.map I o_1_3_0)), (1001, .arr (List.map I o_2_3_0)), (1002, .arr (List.map AV.bool o_3_3_0))] ?_
 refine seqQ_norm ?_
 refine Wp.retN (by kernel_rfl) ?_
 obtain rfl := Option.some.inj h
 exact RetOQ.ret (fl := [true]) (by kernel_rfl)
def laws_markTermS_F1 (c : Ctx) : Int × (List GTerm) → Exit → AState → Prop
 | (k_6, x_7) => Into c (.exit 0) (mkS [(1, I k_6)] [(1000, .arr (List.map GTerm_O x_7))])
end Go.Am
