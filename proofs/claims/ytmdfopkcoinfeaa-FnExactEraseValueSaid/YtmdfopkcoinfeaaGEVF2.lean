/- Functions of the program as pure functions, and that it computes them. Printed by a program of mine (gen.py). -/
import Derived.Test.YtmdfopkcoinfeaaGEVF1
set_option linter.unusedVariables false
set_option linter.unusedSimpArgs false
set_option maxRecDepth 100000
namespace Go.Am
open Go Go.Proofs
def ah2_0 : Option (List (List Nat)) := rx [[0], [0], [0], [0], [0, 1, 2, 3], [5], [6], [0], [0], [0, 7, 8], [0, 7, 8, 9], [0, 1, 2, 3, 4, 7, 8, 9, 10], [0, 1, 2, 3, 4, 7, 8, 9, 10, 11], [0, 1, 2, 3, 4, 7, 8, 9, 10, 11], [0, 1, 2, 3, 4, 7, 8, 9, 10, 11, 12, 13], [0, 1, 2, 3, 4, 7, 8, 9, 10, 11, 12, 13, 14], [0, 1, 2, 3, 4, 7, 8, 9, 10, 11, 12, 13, 14, 15], [17], [18], [19], [19], [19], [19], [19, 20, 21, 22], [24], [25], [19], [19], [19, 26, 27], [19, 26, 27, 28], [19, 20, 21, 22, 23, 26, 27, 28, 29], [19, 20, 21, 22, 23, 26, 27, 28, 29, 30], [19, 20, 21, 22, 23, 26, 27, 28, 29, 30], [19, 20, 21, 22, 23, 26, 27, 28, 29, 30, 31, 32], [19, 20, 21, 22, 23, 26, 27, 28, 29, 30, 31, 32, 33], [19, 20, 21, 22, 23, 26, 27, 28, 29, 30, 31, 32, 33, 34], [36], [37], [38], [39], [39], [41], [42], [43], [44], [44], [44], [47], [48], [49], [50], [50], [52], [53], [54], [55], [56]]
def spec_l1View_l0 (p : GSystem × (List Bool) × Int × Int) : Option ((Unit) ⊕ (Bool)) :=
 match p with
 | (s0, in1, a_15, b_21) =>
  if (decide (b_21 < s0.fSize)) = true then
   (
    (spec_l1Add (s0, a_15, b_21)) >>= fun r_9_4 =>
    (idx in1 r_9_4) >>= fun e_9_5 =>
    (idx in1 a_15) >>= fun e_9_9 =>
    if e_9_9 = true then
     if (e_9_5 == true) = true then
      (spec_l1Mul (s0, a_15, b_21)) >>= fun r_9_23 =>
      (idx in1 r_9_23) >>= fun e_9_24 =>
      (idx in1 a_15) >>= fun e_9_28 =>
      if e_9_28 = true then
       (idx in1 b_21) >>= fun e_9_33 =>
       if (e_9_24 == e_9_33) = true then
        (idx in1 a_15) >>= fun e_9_41 =>
        if e_9_41 = true then
         (spec_l1Le (s0, a_15, b_21)) >>= fun r_9_47 =>
         if r_9_47 = true then
          (idx in1 b_21) >>= fun e_9_52 =>
          some ((!e_9_52))
         else
          some (false)
        else
         some (false)
       else
        some (true)
      else
       if (e_9_24 == false) = true then
        (idx in1 a_15) >>= fun e_9_41 =>
        if e_9_41 = true then
         (spec_l1Le (s0, a_15, b_21)) >>= fun r_9_47 =>
         if r_9_47 = true then
          (idx in1 b_21) >>= fun e_9_52 =>
          some ((!e_9_52))
         else
          some (false)
        else
         some (false)
       else
        some (true)
     else
      some (true)
    else
     (idx in1 b_21) >>= fun e_9_14 =>
     if (e_9_5 == e_9_14) = true then
      (spec_l1Mul (s0, a_15, b_21)) >>= fun r_9_23 =>
      (idx in1 r_9_23) >>= fun e_9_24 =>
      (idx in1 a_15) >>= fun e_9_28 =>
      if e_9_28 = true then
       (idx in1 b_21) >>= fun e_9_33 =>
       if (e_9_24 == e_9_33) = true then
        (idx in1 a_15) >>= fun e_9_41 =>
        if e_9_41 = true then
         (spec_l1Le (s0, a_15, b_21)) >>= fun r_9_47 =>
         if r_9_47 = true then
          (idx in1 b_21) >>= fun e_9_52 =>
          some ((!e_9_52))
         else
          some (false)
        else
         some (false)
       else
        some (true)
      else
       if (e_9_24 == false) = true then
        (idx in1 a_15) >>= fun e_9_41 =>
        if e_9_41 = true then
         (spec_l1Le (s0, a_15, b_21)) >>= fun r_9_47 =>
         if r_9_47 = true then
          (idx in1 b_21) >>= fun e_9_52 =>
          some ((!e_9_52))
         else
          some (false)
        else
         some (false)
       else
        some (true)
     else
      some (true)
   ) >>= fun v_23 =>
   if v_23 = true then
    some (.inr false)
   else
    spec_l1View_l0 (s0, in1, a_15, (wr (b_21 + 1)))
  else
   some (.inl ())
 partial_fixpoint
def M_spec_l1View_l0 (p : GSystem × (List Bool) × Int × Int) (fl : (Unit) ⊕ (Bool)) : Prop :=
 match p with
 | (s0, in1, a_15, b_21) => ∀ c : Ctx, c.nt = 85 → WpL Try.prog c (cl (cl (cr (cl (cl (cr (cl (cl (cr (cl (cr (cr B81)))))))))))) (spec_l1View_F1 c s0 in1 a_15 fl) (mkS [(1, sB in1), (2, .ra 1 0), (5, I a_15), (6, I b_21)] [(1, bSystem s0)])
theorem spec_l1View_l0_s : ∀ p r, spec_l1View_l0 p = some r → M_spec_l1View_l0 p r := by
 refine spec_l1View_l0.partial_correctness M_spec_l1View_l0 ?_
 rintro spec_l1View_l0_f spec_l1View_l0_ih ⟨s0, in1, a_15, b_21⟩ r h
 intro c hc
 show WpL Try.prog c (cl (cl (cr (cl (cl (cr (cl (cl (cr (cl (cr (cr B81)))))))))))) (spec_l1View_F1 c s0 in1 a_15 r) (mkS [(1, sB in1), (2, .ra 1 0), (5, I a_15), (6, I b_21)] [(1, bSystem s0)])
 refine WpL.step ?_
 refine sN ?_
 refine sN ?_
 refine rg0 hc 4 [(1, sB in1), (2, .ra 1 0), (5, I a_15), (6, I b_21), (25, .bool (decide (b_21 < s0.fSize)))] [(1, bSystem s0)] ?_
 refine seqQ_norm ?_
 rcases itesome h with ⟨hb_22, h⟩ | ⟨hb_22, h⟩
 ·refine cT ((decide (b_21 < s0.fSize))) hb_22 ?_
  refine Wp.skipN (by kernel_rfl) ?_
  refine seqQ_norm ?_
  refine sN ?_
  refine Wp.blockN (i := 3) (by kernel_rfl) ?_
  refine sN ?_
  obtain ⟨v_23, hj_24, h⟩ := bsome h
  refine Wp.into (x := .normal) (mkS [(1, sB in1), (2, .ra 1 0), (5, I a_15), (6, I b_21), (84, .bool v_23)] [(1, bSystem s0)]) ?_ ?_
  ·replace h := hj_24
   obtain ⟨r_9_4, hr_9_4, h⟩ := bsome h
   obtain ⟨e_9_5, hi_9_5, h⟩ := bsome h
   obtain ⟨e_9_9, hi_9_9, h⟩ := bsome h
   rcases itesome h with ⟨hb_9_0, h⟩ | ⟨hb_9_0, h⟩
   ·rcases itesome h with ⟨hb_9_1, h⟩ | ⟨hb_9_1, h⟩
    ·obtain ⟨r_9_23, hr_9_23, h⟩ := bsome h
     obtain ⟨e_9_24, hi_9_24, h⟩ := bsome h
     obtain ⟨e_9_28, hi_9_28, h⟩ := bsome h
     rcases itesome h with ⟨hb_9_2, h⟩ | ⟨hb_9_2, h⟩
     ·obtain ⟨e_9_33, hi_9_33, h⟩ := bsome h
      rcases itesome h with ⟨hb_9_3, h⟩ | ⟨hb_9_3, h⟩
      ·obtain ⟨e_9_41, hi_9_41, h⟩ := bsome h
       rcases itesome h with ⟨hb_9_4, h⟩ | ⟨hb_9_4, h⟩
       ·obtain ⟨r_9_47, hr_9_47, h⟩ := bsome h
        rcases itesome h with ⟨hb_9_5, h⟩ | ⟨hb_9_5, h⟩
        ·obtain ⟨e_9_52, hi_9_52, h⟩ := bsome h
         refine rg hc ah2_0 [oN, oN, oN, oN, oc (I r_9_4), some (.el (.bool e_9_5)), oN, oN, oN, some (.el (.bool e_9_9)), oN, oN, o_, o_, o_, o_, oT, oN, oN, oN, oN, oN, oN, oc (I r_9_23), some (.el (.bool e_9_24)), oN, oN, oN, some (.el (.bool e_9_28)), oN, oN, oN, oN, some (.el (.bool e_9_33)), oN, oT, oN, oF, oN, oN, oN, some (.el (.bool e_9_41)), oN, oN, oN, oN, oN, oc (.bool r_9_47), oT, oN, oN, oN, some (.el (.bool e_9_52)), oN, oN, oT, oF] [(1, sB in1), (2, .ra 1 0), (5, I a_15), (6, I b_21), (84, .bool (!e_9_52))] [(1, bSystem s0)] (ai (spec_l1Add_s _ _ hr_9_4) (ai bod_115 (ai (oi (I r_9_4)) (ai (idx_sl (enc := AV.bool) (x := .bool e_9_5) hi_9_5 (eq_B e_9_5)) (ai (idx_sl (enc := AV.bool) (x := .bool e_9_9) hi_9_9 (eq_B e_9_9)) (ar 4 (neF hb_9_0) (ai hb_9_0 (ar 5 (nF hb_9_1) (ai (spec_l1Mul_s _ _ hr_9_23) (ai bod_116 (ai (oi (I r_9_23)) (ai (nF hb_9_1) (ai (idx_sl (enc := AV.bool) (x := .bool e_9_24) hi_9_24 (eq_B e_9_24)) (ar 4 (nF hb_9_1) (ai (idx_sl (enc := AV.bool) (x := .bool e_9_28) hi_9_28 (eq_B e_9_28)) (ar 2 (nF hb_9_1) (ar 3 hb_9_2 (ai (idx_sl (enc := AV.bool) (x := .bool e_9_33) hi_9_33 (eq_B e_9_33)) (ai hb_9_2 (ai (nF hb_9_1) (ai hb_9_2 (ar 2 (nF hb_9_1) (ar 3 (nF hb_9_3) (ai (idx_sl (enc := AV.bool) (x := .bool e_9_41) hi_9_41 (eq_B e_9_41)) (ar 2 (nF hb_9_3) (ar 4 hb_9_4 (ai (spec_l1Le_s _ _ hr_9_47) (ai bod_117 (ai (oi (.bool r_9_47)) (ai (nF hb_9_3) (ai hb_9_4 (ai (nF hb_9_3) (ar 3 hb_9_5 (ai (idx_sl (enc := AV.bool) (x := .bool e_9_52) hi_9_52 (eq_B e_9_52)) (ar 2 hb_9_5 (ai (nF hb_9_3) (ai hb_9_5 (ai (nF hb_9_3) trivial)))))))))))))))))))))))))))))))))))))) ?_
         obtain rfl := Option.some.inj h
         exact Into.mk
        ·refine rg hc ah2_0 [oN, oN, oN, oN, oc (I r_9_4), some (.el (.bool e_9_5)), oN, oN, oN, some (.el (.bool e_9_9)), oN, oN, o_, o_, o_, o_, oT, oN, oN, oN, oN, oN, oN, oc (I r_9_23), some (.el (.bool e_9_24)), oN, oN, oN, some (.el (.bool e_9_28)), oN, oN, oN, oN, some (.el (.bool e_9_33)), oN, oT, oN, oF, oN, oN, oN, some (.el (.bool e_9_41)), oN, oN, oN, oN, oN, oc (.bool r_9_47), oT, oN, o_, o_, o_, o_, o_, oF, oF] [(1, sB in1), (2, .ra 1 0), (5, I a_15), (6, I b_21), (84, .bool false)] [(1, bSystem s0)] (ai (spec_l1Add_s _ _ hr_9_4) (ai bod_115 (ai (oi (I r_9_4)) (ai (idx_sl (enc := AV.bool) (x := .bool e_9_5) hi_9_5 (eq_B e_9_5)) (ai (idx_sl (enc := AV.bool) (x := .bool e_9_9) hi_9_9 (eq_B e_9_9)) (ar 4 (neF hb_9_0) (ai hb_9_0 (ar 5 (nF hb_9_1) (ai (spec_l1Mul_s _ _ hr_9_23) (ai bod_116 (ai (oi (I r_9_23)) (ai (nF hb_9_1) (ai (idx_sl (enc := AV.bool) (x := .bool e_9_24) hi_9_24 (eq_B e_9_24)) (ar 4 (nF hb_9_1) (ai (idx_sl (enc := AV.bool) (x := .bool e_9_28) hi_9_28 (eq_B e_9_28)) (ar 2 (nF hb_9_1) (ar 3 hb_9_2 (ai (idx_sl (enc := AV.bool) (x := .bool e_9_33) hi_9_33 (eq_B e_9_33)) (ai hb_9_2 (ai (nF hb_9_1) (ai hb_9_2 (ar 2 (nF hb_9_1) (ar 3 (nF hb_9_3) (ai (idx_sl (enc := AV.bool) (x := .bool e_9_41) hi_9_41 (eq_B e_9_41)) (ar 2 (nF hb_9_3) (ar 4 hb_9_4 (ai (spec_l1Le_s _ _ hr_9_47) (ai bod_117 (ai (oi (.bool r_9_47)) (ai (nF hb_9_3) (ai hb_9_4 (ai (nF hb_9_3) (ar 5 (neT hb_9_5) (ai (nF hb_9_3) (ai hb_9_5 (ai (nF hb_9_3) trivial)))))))))))))))))))))))))))))))))))) ?_
         obtain rfl := Option.some.inj h
         exact Into.mk
       ·refine rg hc ah2_0 [oN, oN, oN, oN, oc (I r_9_4), some (.el (.bool e_9_5)), oN, oN, oN, some (.el (.bool e_9_9)), oN, oN, o_, o_, o_, o_, oT, oN, oN, oN, oN, oN, oN, oc (I r_9_23), some (.el (.bool e_9_24)), oN, oN, oN, some (.el (.bool e_9_28)), oN, oN, oN, oN, some (.el (.bool e_9_33)), oN, oT, oN, oF, oN, oN, oN, some (.el (.bool e_9_41)), oN, oN, o_, o_, o_, o_, oF, oN, o_, o_, o_, o_, o_, oF, oF] [(1, sB in1), (2, .ra 1 0), (5, I a_15), (6, I b_21), (84, .bool false)] [(1, bSystem s0)] (ai (spec_l1Add_s _ _ hr_9_4) (ai bod_115 (ai (oi (I r_9_4)) (ai (idx_sl (enc := AV.bool) (x := .bool e_9_5) hi_9_5 (eq_B e_9_5)) (ai (idx_sl (enc := AV.bool) (x := .bool e_9_9) hi_9_9 (eq_B e_9_9)) (ar 4 (neF hb_9_0) (ai hb_9_0 (ar 5 (nF hb_9_1) (ai (spec_l1Mul_s _ _ hr_9_23) (ai bod_116 (ai (oi (I r_9_23)) (ai (nF hb_9_1) (ai (idx_sl (enc := AV.bool) (x := .bool e_9_24) hi_9_24 (eq_B e_9_24)) (ar 4 (nF hb_9_1) (ai (idx_sl (enc := AV.bool) (x := .bool e_9_28) hi_9_28 (eq_B e_9_28)) (ar 2 (nF hb_9_1) (ar 3 hb_9_2 (ai (idx_sl (enc := AV.bool) (x := .bool e_9_33) hi_9_33 (eq_B e_9_33)) (ai hb_9_2 (ai (nF hb_9_1) (ai hb_9_2 (ar 2 (nF hb_9_1) (ar 3 (nF hb_9_3) (ai (idx_sl (enc := AV.bool) (x := .bool e_9_41) hi_9_41 (eq_B e_9_41)) (ar 2 (nF hb_9_3) (ar 4 (neT hb_9_4) (ai (nF hb_9_3) (ai hb_9_4 (ai (nF hb_9_3) (ar 5 (neT (rfl : false = false)) (ai (nF hb_9_3) (ai (rfl : false = false) (ai (nF hb_9_3) trivial))))))))))))))))))))))))))))))))) ?_
        obtain rfl := Option.some.inj h
        exact Into.mk
      ·refine rg hc ah2_0 [oN, oN, oN, oN, oc (I r_9_4), some (.el (.bool e_9_5)), oN, oN, oN, some (.el (.bool e_9_9)), oN, oN, o_, o_, o_, o_, oT, oN, oN, oN, oN, oN, oN, oc (I r_9_23), some (.el (.bool e_9_24)), oN, oN, oN, some (.el (.bool e_9_28)), oN, oN, oN, oN, some (.el (.bool e_9_33)), oN, oT, oN, oF, oN, o_, o_, o_, o_, o_, o_, o_, o_, o_, o_, o_, o_, o_, o_, o_, o_, o_, oT] [(1, sB in1), (2, .ra 1 0), (5, I a_15), (6, I b_21), (84, .bool true)] [(1, bSystem s0)] (ai (spec_l1Add_s _ _ hr_9_4) (ai bod_115 (ai (oi (I r_9_4)) (ai (idx_sl (enc := AV.bool) (x := .bool e_9_5) hi_9_5 (eq_B e_9_5)) (ai (idx_sl (enc := AV.bool) (x := .bool e_9_9) hi_9_9 (eq_B e_9_9)) (ar 4 (neF hb_9_0) (ai hb_9_0 (ar 5 (nF hb_9_1) (ai (spec_l1Mul_s _ _ hr_9_23) (ai bod_116 (ai (oi (I r_9_23)) (ai (nF hb_9_1) (ai (idx_sl (enc := AV.bool) (x := .bool e_9_24) hi_9_24 (eq_B e_9_24)) (ar 4 (nF hb_9_1) (ai (idx_sl (enc := AV.bool) (x := .bool e_9_28) hi_9_28 (eq_B e_9_28)) (ar 2 (nF hb_9_1) (ar 3 hb_9_2 (ai (idx_sl (enc := AV.bool) (x := .bool e_9_33) hi_9_33 (eq_B e_9_33)) (ai hb_9_2 (ai (nF hb_9_1) (ai hb_9_2 (ar 2 (nF hb_9_1) (ar 8 (neF (nT hb_9_3)) (ai (nT hb_9_3) trivial)))))))))))))))))))))))) ?_
       obtain rfl := Option.some.inj h
       exact Into.mk
     ·rcases itesome h with ⟨hb_9_3, h⟩ | ⟨hb_9_3, h⟩
      ·obtain ⟨e_9_41, hi_9_41, h⟩ := bsome h
       rcases itesome h with ⟨hb_9_4, h⟩ | ⟨hb_9_4, h⟩
       ·obtain ⟨r_9_47, hr_9_47, h⟩ := bsome h
        rcases itesome h with ⟨hb_9_5, h⟩ | ⟨hb_9_5, h⟩
        ·obtain ⟨e_9_52, hi_9_52, h⟩ := bsome h
         refine rg hc ah2_0 [oN, oN, oN, oN, oc (I r_9_4), some (.el (.bool e_9_5)), oN, oN, oN, some (.el (.bool e_9_9)), oN, oN, o_, o_, o_, o_, oT, oN, oN, oN, oN, oN, oN, oc (I r_9_23), some (.el (.bool e_9_24)), oN, oN, oN, some (.el (.bool e_9_28)), oN, oN, o_, o_, o_, o_, oF, oN, oF, oN, oN, oN, some (.el (.bool e_9_41)), oN, oN, oN, oN, oN, oc (.bool r_9_47), oT, oN, oN, oN, some (.el (.bool e_9_52)), oN, oN, oT, oF] [(1, sB in1), (2, .ra 1 0), (5, I a_15), (6, I b_21), (84, .bool (!e_9_52))] [(1, bSystem s0)] (ai (spec_l1Add_s _ _ hr_9_4) (ai bod_115 (ai (oi (I r_9_4)) (ai (idx_sl (enc := AV.bool) (x := .bool e_9_5) hi_9_5 (eq_B e_9_5)) (ai (idx_sl (enc := AV.bool) (x := .bool e_9_9) hi_9_9 (eq_B e_9_9)) (ar 4 (neF hb_9_0) (ai hb_9_0 (ar 5 (nF hb_9_1) (ai (spec_l1Mul_s _ _ hr_9_23) (ai bod_116 (ai (oi (I r_9_23)) (ai (nF hb_9_1) (ai (idx_sl (enc := AV.bool) (x := .bool e_9_24) hi_9_24 (eq_B e_9_24)) (ar 4 (nF hb_9_1) (ai (idx_sl (enc := AV.bool) (x := .bool e_9_28) hi_9_28 (eq_B e_9_28)) (ar 2 (nF hb_9_1) (ar 4 (neT hb_9_2) (ai (nF hb_9_1) (ai hb_9_2 (ar 2 (nF hb_9_1) (ar 3 (nF hb_9_3) (ai (idx_sl (enc := AV.bool) (x := .bool e_9_41) hi_9_41 (eq_B e_9_41)) (ar 2 (nF hb_9_3) (ar 4 hb_9_4 (ai (spec_l1Le_s _ _ hr_9_47) (ai bod_117 (ai (oi (.bool r_9_47)) (ai (nF hb_9_3) (ai hb_9_4 (ai (nF hb_9_3) (ar 3 hb_9_5 (ai (idx_sl (enc := AV.bool) (x := .bool e_9_52) hi_9_52 (eq_B e_9_52)) (ar 2 hb_9_5 (ai (nF hb_9_3) (ai hb_9_5 (ai (nF hb_9_3) trivial)))))))))))))))))))))))))))))))))))) ?_
         obtain rfl := Option.some.inj h
         exact Into.mk
        ·refine rg hc ah2_0 [oN, oN, oN, oN, oc (I r_9_4), some (.el (.bool e_9_5)), oN, oN, oN, some (.el (.bool e_9_9)), oN, oN, o_, o_, o_, o_, oT, oN, oN, oN, oN, oN, oN, oc (I r_9_23), some (.el (.bool e_9_24)), oN, oN, oN, some (.el (.bool e_9_28)), oN, oN, o_, o_, o_, o_, oF, oN, oF, oN, oN, oN, some (.el (.bool e_9_41)), oN, oN, oN, oN, oN, oc (.bool r_9_47), oT, oN, o_, o_, o_, o_, o_, oF, oF] [(1, sB in1), (2, .ra 1 0), (5, I a_15), (6, I b_21), (84, .bool false)] [(1, bSystem s0)] (ai (spec_l1Add_s _ _ hr_9_4) (ai bod_115 (ai (oi (I r_9_4)) (ai (idx_sl (enc := AV.bool) (x := .bool e_9_5) hi_9_5 (eq_B e_9_5)) (ai (idx_sl (enc := AV.bool) (x := .bool e_9_9) hi_9_9 (eq_B e_9_9)) (ar 4 (neF hb_9_0) (ai hb_9_0 (ar 5 (nF hb_9_1) (ai (spec_l1Mul_s _ _ hr_9_23) (ai bod_116 (ai (oi (I r_9_23)) (ai (nF hb_9_1) (ai (idx_sl (enc := AV.bool) (x := .bool e_9_24) hi_9_24 (eq_B e_9_24)) (ar 4 (nF hb_9_1) (ai (idx_sl (enc := AV.bool) (x := .bool e_9_28) hi_9_28 (eq_B e_9_28)) (ar 2 (nF hb_9_1) (ar 4 (neT hb_9_2) (ai (nF hb_9_1) (ai hb_9_2 (ar 2 (nF hb_9_1) (ar 3 (nF hb_9_3) (ai (idx_sl (enc := AV.bool) (x := .bool e_9_41) hi_9_41 (eq_B e_9_41)) (ar 2 (nF hb_9_3) (ar 4 hb_9_4 (ai (spec_l1Le_s _ _ hr_9_47) (ai bod_117 (ai (oi (.bool r_9_47)) (ai (nF hb_9_3) (ai hb_9_4 (ai (nF hb_9_3) (ar 5 (neT hb_9_5) (ai (nF hb_9_3) (ai hb_9_5 (ai (nF hb_9_3) trivial)))))))))))))))))))))))))))))))))) ?_
         obtain rfl := Option.some.inj h
         exact Into.mk
       ·refine rg hc ah2_0 [oN, oN, oN, oN, oc (I r_9_4), some (.el (.bool e_9_5)), oN, oN, oN, some (.el (.bool e_9_9)), oN, oN, o_, o_, o_, o_, oT, oN, oN, oN, oN, oN, oN, oc (I r_9_23), some (.el (.bool e_9_24)), oN, oN, oN, some (.el (.bool e_9_28)), oN, oN, o_, o_, o_, o_, oF, oN, oF, oN, oN, oN, some (.el (.bool e_9_41)), oN, oN, o_, o_, o_, o_, oF, oN, o_, o_, o_, o_, o_, oF, oF] [(1, sB in1), (2, .ra 1 0), (5, I a_15), (6, I b_21), (84, .bool false)] [(1, bSystem s0)] (ai (spec_l1Add_s _ _ hr_9_4) (ai bod_115 (ai (oi (I r_9_4)) (ai (idx_sl (enc := AV.bool) (x := .bool e_9_5) hi_9_5 (eq_B e_9_5)) (ai (idx_sl (enc := AV.bool) (x := .bool e_9_9) hi_9_9 (eq_B e_9_9)) (ar 4 (neF hb_9_0) (ai hb_9_0 (ar 5 (nF hb_9_1) (ai (spec_l1Mul_s _ _ hr_9_23) (ai bod_116 (ai (oi (I r_9_23)) (ai (nF hb_9_1) (ai (idx_sl (enc := AV.bool) (x := .bool e_9_24) hi_9_24 (eq_B e_9_24)) (ar 4 (nF hb_9_1) (ai (idx_sl (enc := AV.bool) (x := .bool e_9_28) hi_9_28 (eq_B e_9_28)) (ar 2 (nF hb_9_1) (ar 4 (neT hb_9_2) (ai (nF hb_9_1) (ai hb_9_2 (ar 2 (nF hb_9_1) (ar 3 (nF hb_9_3) (ai (idx_sl (enc := AV.bool) (x := .bool e_9_41) hi_9_41 (eq_B e_9_41)) (ar 2 (nF hb_9_3) (ar 4 (neT hb_9_4) (ai (nF hb_9_3) (ai hb_9_4 (ai (nF hb_9_3) (ar 5 (neT (rfl : false = false)) (ai (nF hb_9_3) (ai (rfl : false = false) (ai (nF hb_9_3) trivial))))))))))))))))))))))))))))))) ?_
        obtain rfl := Option.some.inj h
        exact Into.mk
      ·refine rg hc ah2_0 [oN, oN, oN, oN, oc (I r_9_4), some (.el (.bool e_9_5)), oN, oN, oN, some (.el (.bool e_9_9)), oN, oN, o_, o_, o_, o_, oT, oN, oN, oN, oN, oN, oN, oc (I r_9_23), some (.el (.bool e_9_24)), oN, oN, oN, some (.el (.bool e_9_28)), oN, oN, o_, o_, o_, o_, oF, oN, oF, oN, o_, o_, o_, o_, o_, o_, o_, o_, o_, o_, o_, o_, o_, o_, o_, o_, o_, oT] [(1, sB in1), (2, .ra 1 0), (5, I a_15), (6, I b_21), (84, .bool true)] [(1, bSystem s0)] (ai (spec_l1Add_s _ _ hr_9_4) (ai bod_115 (ai (oi (I r_9_4)) (ai (idx_sl (enc := AV.bool) (x := .bool e_9_5) hi_9_5 (eq_B e_9_5)) (ai (idx_sl (enc := AV.bool) (x := .bool e_9_9) hi_9_9 (eq_B e_9_9)) (ar 4 (neF hb_9_0) (ai hb_9_0 (ar 5 (nF hb_9_1) (ai (spec_l1Mul_s _ _ hr_9_23) (ai bod_116 (ai (oi (I r_9_23)) (ai (nF hb_9_1) (ai (idx_sl (enc := AV.bool) (x := .bool e_9_24) hi_9_24 (eq_B e_9_24)) (ar 4 (nF hb_9_1) (ai (idx_sl (enc := AV.bool) (x := .bool e_9_28) hi_9_28 (eq_B e_9_28)) (ar 2 (nF hb_9_1) (ar 4 (neT hb_9_2) (ai (nF hb_9_1) (ai hb_9_2 (ar 2 (nF hb_9_1) (ar 8 (neF (nT hb_9_3)) (ai (nT hb_9_3) trivial)))))))))))))))))))))) ?_
       obtain rfl := Option.some.inj h
       exact Into.mk
    ·refine rg hc ah2_0 [oN, oN, oN, oN, oc (I r_9_4), some (.el (.bool e_9_5)), oN, oN, oN, some (.el (.bool e_9_9)), oN, oN, o_, o_, o_, o_, oT, oN, oN, o_, o_, o_, o_, o_, o_, o_, o_, o_, o_, o_, o_, o_, o_, o_, o_, o_, o_, oT, oN, o_, o_, o_, o_, o_, o_, o_, o_, o_, o_, o_, o_, o_, o_, o_, o_, o_, oT] [(1, sB in1), (2, .ra 1 0), (5, I a_15), (6, I b_21), (84, .bool true)] [(1, bSystem s0)] (ai (spec_l1Add_s _ _ hr_9_4) (ai bod_115 (ai (oi (I r_9_4)) (ai (idx_sl (enc := AV.bool) (x := .bool e_9_5) hi_9_5 (eq_B e_9_5)) (ai (idx_sl (enc := AV.bool) (x := .bool e_9_9) hi_9_9 (eq_B e_9_9)) (ar 4 (neF hb_9_0) (ai hb_9_0 (ar 14 (neF (nT hb_9_1)) (ai (nT hb_9_1) (ar 8 nf (ai tt trivial))))))))))) ?_
     obtain rfl := Option.some.inj h
     exact Into.mk
   ·obtain ⟨e_9_14, hi_9_14, h⟩ := bsome h
    rcases itesome h with ⟨hb_9_1, h⟩ | ⟨hb_9_1, h⟩
    ·obtain ⟨r_9_23, hr_9_23, h⟩ := bsome h
     obtain ⟨e_9_24, hi_9_24, h⟩ := bsome h
     obtain ⟨e_9_28, hi_9_28, h⟩ := bsome h
     rcases itesome h with ⟨hb_9_2, h⟩ | ⟨hb_9_2, h⟩
     ·obtain ⟨e_9_33, hi_9_33, h⟩ := bsome h
      rcases itesome h with ⟨hb_9_3, h⟩ | ⟨hb_9_3, h⟩
      ·obtain ⟨e_9_41, hi_9_41, h⟩ := bsome h
       rcases itesome h with ⟨hb_9_4, h⟩ | ⟨hb_9_4, h⟩
       ·obtain ⟨r_9_47, hr_9_47, h⟩ := bsome h
        rcases itesome h with ⟨hb_9_5, h⟩ | ⟨hb_9_5, h⟩
        ·obtain ⟨e_9_52, hi_9_52, h⟩ := bsome h
         refine rg hc ah2_0 [oN, oN, oN, oN, oc (I r_9_4), some (.el (.bool e_9_5)), oN, oN, oN, some (.el (.bool e_9_9)), oN, oN, oN, oN, some (.el (.bool e_9_14)), oN, oF, oN, oN, oN, oN, oN, oN, oc (I r_9_23), some (.el (.bool e_9_24)), oN, oN, oN, some (.el (.bool e_9_28)), oN, oN, oN, oN, some (.el (.bool e_9_33)), oN, oT, oN, oF, oN, oN, oN, some (.el (.bool e_9_41)), oN, oN, oN, oN, oN, oc (.bool r_9_47), oT, oN, oN, oN, some (.el (.bool e_9_52)), oN, oN, oT, oF] [(1, sB in1), (2, .ra 1 0), (5, I a_15), (6, I b_21), (84, .bool (!e_9_52))] [(1, bSystem s0)] (ai (spec_l1Add_s _ _ hr_9_4) (ai bod_115 (ai (oi (I r_9_4)) (ai (idx_sl (enc := AV.bool) (x := .bool e_9_5) hi_9_5 (eq_B e_9_5)) (ai (idx_sl (enc := AV.bool) (x := .bool e_9_9) hi_9_9 (eq_B e_9_9)) (ar 3 hb_9_0 (ai (idx_sl (enc := AV.bool) (x := .bool e_9_14) hi_9_14 (eq_B e_9_14)) (ar 2 hb_9_0 (ar 5 (nF hb_9_1) (ai (spec_l1Mul_s _ _ hr_9_23) (ai bod_116 (ai (oi (I r_9_23)) (ai (nF hb_9_1) (ai (idx_sl (enc := AV.bool) (x := .bool e_9_24) hi_9_24 (eq_B e_9_24)) (ar 4 (nF hb_9_1) (ai (idx_sl (enc := AV.bool) (x := .bool e_9_28) hi_9_28 (eq_B e_9_28)) (ar 2 (nF hb_9_1) (ar 3 hb_9_2 (ai (idx_sl (enc := AV.bool) (x := .bool e_9_33) hi_9_33 (eq_B e_9_33)) (ai hb_9_2 (ai (nF hb_9_1) (ai hb_9_2 (ar 2 (nF hb_9_1) (ar 3 (nF hb_9_3) (ai (idx_sl (enc := AV.bool) (x := .bool e_9_41) hi_9_41 (eq_B e_9_41)) (ar 2 (nF hb_9_3) (ar 4 hb_9_4 (ai (spec_l1Le_s _ _ hr_9_47) (ai bod_117 (ai (oi (.bool r_9_47)) (ai (nF hb_9_3) (ai hb_9_4 (ai (nF hb_9_3) (ar 3 hb_9_5 (ai (idx_sl (enc := AV.bool) (x := .bool e_9_52) hi_9_52 (eq_B e_9_52)) (ar 2 hb_9_5 (ai (nF hb_9_3) (ai hb_9_5 (ai (nF hb_9_3) trivial))))))))))))))))))))))))))))))))))))))) ?_
         obtain rfl := Option.some.inj h
         exact Into.mk
        ·refine rg hc ah2_0 [oN, oN, oN, oN, oc (I r_9_4), some (.el (.bool e_9_5)), oN, oN, oN, some (.el (.bool e_9_9)), oN, oN, oN, oN, some (.el (.bool e_9_14)), oN, oF, oN, oN, oN, oN, oN, oN, oc (I r_9_23), some (.el (.bool e_9_24)), oN, oN, oN, some (.el (.bool e_9_28)), oN, oN, oN, oN, some (.el (.bool e_9_33)), oN, oT, oN, oF, oN, oN, oN, some (.el (.bool e_9_41)), oN, oN, oN, oN, oN, oc (.bool r_9_47), oT, oN, o_, o_, o_, o_, o_, oF, oF] [(1, sB in1), (2, .ra 1 0), (5, I a_15), (6, I b_21), (84, .bool false)] [(1, bSystem s0)] (ai (spec_l1Add_s _ _ hr_9_4) (ai bod_115 (ai (oi (I r_9_4)) (ai (idx_sl (enc := AV.bool) (x := .bool e_9_5) hi_9_5 (eq_B e_9_5)) (ai (idx_sl (enc := AV.bool) (x := .bool e_9_9) hi_9_9 (eq_B e_9_9)) (ar 3 hb_9_0 (ai (idx_sl (enc := AV.bool) (x := .bool e_9_14) hi_9_14 (eq_B e_9_14)) (ar 2 hb_9_0 (ar 5 (nF hb_9_1) (ai (spec_l1Mul_s _ _ hr_9_23) (ai bod_116 (ai (oi (I r_9_23)) (ai (nF hb_9_1) (ai (idx_sl (enc := AV.bool) (x := .bool e_9_24) hi_9_24 (eq_B e_9_24)) (ar 4 (nF hb_9_1) (ai (idx_sl (enc := AV.bool) (x := .bool e_9_28) hi_9_28 (eq_B e_9_28)) (ar 2 (nF hb_9_1) (ar 3 hb_9_2 (ai (idx_sl (enc := AV.bool) (x := .bool e_9_33) hi_9_33 (eq_B e_9_33)) (ai hb_9_2 (ai (nF hb_9_1) (ai hb_9_2 (ar 2 (nF hb_9_1) (ar 3 (nF hb_9_3) (ai (idx_sl (enc := AV.bool) (x := .bool e_9_41) hi_9_41 (eq_B e_9_41)) (ar 2 (nF hb_9_3) (ar 4 hb_9_4 (ai (spec_l1Le_s _ _ hr_9_47) (ai bod_117 (ai (oi (.bool r_9_47)) (ai (nF hb_9_3) (ai hb_9_4 (ai (nF hb_9_3) (ar 5 (neT hb_9_5) (ai (nF hb_9_3) (ai hb_9_5 (ai (nF hb_9_3) trivial))))))))))))))))))))))))))))))))))))) ?_
         obtain rfl := Option.some.inj h
         exact Into.mk
       ·refine rg hc ah2_0 [oN, oN, oN, oN, oc (I r_9_4), some (.el (.bool e_9_5)), oN, oN, oN, some (.el (.bool e_9_9)), oN, oN, oN, oN, some (.el (.bool e_9_14)), oN, oF, oN, oN, oN, oN, oN, oN, oc (I r_9_23), some (.el (.bool e_9_24)), oN, oN, oN, some (.el (.bool e_9_28)), oN, oN, oN, oN, some (.el (.bool e_9_33)), oN, oT, oN, oF, oN, oN, oN, some (.el (.bool e_9_41)), oN, oN, o_, o_, o_, o_, oF, oN, o_, o_, o_, o_, o_, oF, oF] [(1, sB in1), (2, .ra 1 0), (5, I a_15), (6, I b_21), (84, .bool false)] [(1, bSystem s0)] (ai (spec_l1Add_s _ _ hr_9_4) (ai bod_115 (ai (oi (I r_9_4)) (ai (idx_sl (enc := AV.bool) (x := .bool e_9_5) hi_9_5 (eq_B e_9_5)) (ai (idx_sl (enc := AV.bool) (x := .bool e_9_9) hi_9_9 (eq_B e_9_9)) (ar 3 hb_9_0 (ai (idx_sl (enc := AV.bool) (x := .bool e_9_14) hi_9_14 (eq_B e_9_14)) (ar 2 hb_9_0 (ar 5 (nF hb_9_1) (ai (spec_l1Mul_s _ _ hr_9_23) (ai bod_116 (ai (oi (I r_9_23)) (ai (nF hb_9_1) (ai (idx_sl (enc := AV.bool) (x := .bool e_9_24) hi_9_24 (eq_B e_9_24)) (ar 4 (nF hb_9_1) (ai (idx_sl (enc := AV.bool) (x := .bool e_9_28) hi_9_28 (eq_B e_9_28)) (ar 2 (nF hb_9_1) (ar 3 hb_9_2 (ai (idx_sl (enc := AV.bool) (x := .bool e_9_33) hi_9_33 (eq_B e_9_33)) (ai hb_9_2 (ai (nF hb_9_1) (ai hb_9_2 (ar 2 (nF hb_9_1) (ar 3 (nF hb_9_3) (ai (idx_sl (enc := AV.bool) (x := .bool e_9_41) hi_9_41 (eq_B e_9_41)) (ar 2 (nF hb_9_3) (ar 4 (neT hb_9_4) (ai (nF hb_9_3) (ai hb_9_4 (ai (nF hb_9_3) (ar 5 (neT (rfl : false = false)) (ai (nF hb_9_3) (ai (rfl : false = false) (ai (nF hb_9_3) trivial)))))))))))))))))))))))))))))))))) ?_
        obtain rfl := Option.some.inj h
        exact Into.mk
      ·refine rg hc ah2_0 [oN, oN, oN, oN, oc (I r_9_4), some (.el (.bool e_9_5)), oN, oN, oN, some (.el (.bool e_9_9)), oN, oN, oN, oN, some (.el (.bool e_9_14)), oN, oF, oN, oN, oN, oN, oN, oN, oc (I r_9_23), some (.el (.bool e_9_24)), oN, oN, oN, some (.el (.bool e_9_28)), oN, oN, oN, oN, some (.el (.bool e_9_33)), oN, oT, oN, oF, oN, o_, o_, o_, o_, o_, o_, o_, o_, o_, o_, o_, o_, o_, o_, o_, o_, o_, oT] [(1, sB in1), (2, .ra 1 0), (5, I a_15), (6, I b_21), (84, .bool true)] [(1, bSystem s0)] (ai (spec_l1Add_s _ _ hr_9_4) (ai bod_115 (ai (oi (I r_9_4)) (ai (idx_sl (enc := AV.bool) (x := .bool e_9_5) hi_9_5 (eq_B e_9_5)) (ai (idx_sl (enc := AV.bool) (x := .bool e_9_9) hi_9_9 (eq_B e_9_9)) (ar 3 hb_9_0 (ai (idx_sl (enc := AV.bool) (x := .bool e_9_14) hi_9_14 (eq_B e_9_14)) (ar 2 hb_9_0 (ar 5 (nF hb_9_1) (ai (spec_l1Mul_s _ _ hr_9_23) (ai bod_116 (ai (oi (I r_9_23)) (ai (nF hb_9_1) (ai (idx_sl (enc := AV.bool) (x := .bool e_9_24) hi_9_24 (eq_B e_9_24)) (ar 4 (nF hb_9_1) (ai (idx_sl (enc := AV.bool) (x := .bool e_9_28) hi_9_28 (eq_B e_9_28)) (ar 2 (nF hb_9_1) (ar 3 hb_9_2 (ai (idx_sl (enc := AV.bool) (x := .bool e_9_33) hi_9_33 (eq_B e_9_33)) (ai hb_9_2 (ai (nF hb_9_1) (ai hb_9_2 (ar 2 (nF hb_9_1) (ar 8 (neF (nT hb_9_3)) (ai (nT hb_9_3) trivial))))))))))))))))))))))))) ?_
       obtain rfl := Option.some.inj h
       exact Into.mk
     ·rcases itesome h with ⟨hb_9_3, h⟩ | ⟨hb_9_3, h⟩
      ·obtain ⟨e_9_41, hi_9_41, h⟩ := bsome h
       rcases itesome h with ⟨hb_9_4, h⟩ | ⟨hb_9_4, h⟩
       ·obtain ⟨r_9_47, hr_9_47, h⟩ := bsome h
        rcases itesome h with ⟨hb_9_5, h⟩ | ⟨hb_9_5, h⟩
        ·obtain ⟨e_9_52, hi_9_52, h⟩ := bsome h
         refine rg hc ah2_0 [oN, oN, oN, oN, oc (I r_9_4), some (.el (.bool e_9_5)), oN, oN, oN, some (.el (.bool e_9_9)), oN, oN, oN, oN, some (.el (.bool e_9_14)), oN, oF, oN, oN, oN, oN, oN, oN, oc (I r_9_23), some (.el (.bool e_9_24)), oN, oN, oN, some (.el (.bool e_9_28)), oN, oN, o_, o_, o_, o_, oF, oN, oF, oN, oN, oN, some (.el (.bool e_9_41)), oN, oN, oN, oN, oN, oc (.bool r_9_47), oT, oN, oN, oN, some (.el (.bool e_9_52)), oN, oN, oT, oF] [(1, sB in1), (2, .ra 1 0), (5, I a_15), (6, I b_21), (84, .bool (!e_9_52))] [(1, bSystem s0)] (ai (spec_l1Add_s _ _ hr_9_4) (ai bod_115 (ai (oi (I r_9_4)) (ai (idx_sl (enc := AV.bool) (x := .bool e_9_5) hi_9_5 (eq_B e_9_5)) (ai (idx_sl (enc := AV.bool) (x := .bool e_9_9) hi_9_9 (eq_B e_9_9)) (ar 3 hb_9_0 (ai (idx_sl (enc := AV.bool) (x := .bool e_9_14) hi_9_14 (eq_B e_9_14)) (ar 2 hb_9_0 (ar 5 (nF hb_9_1) (ai (spec_l1Mul_s _ _ hr_9_23) (ai bod_116 (ai (oi (I r_9_23)) (ai (nF hb_9_1) (ai (idx_sl (enc := AV.bool) (x := .bool e_9_24) hi_9_24 (eq_B e_9_24)) (ar 4 (nF hb_9_1) (ai (idx_sl (enc := AV.bool) (x := .bool e_9_28) hi_9_28 (eq_B e_9_28)) (ar 2 (nF hb_9_1) (ar 4 (neT hb_9_2) (ai (nF hb_9_1) (ai hb_9_2 (ar 2 (nF hb_9_1) (ar 3 (nF hb_9_3) (ai (idx_sl (enc := AV.bool) (x := .bool e_9_41) hi_9_41 (eq_B e_9_41)) (ar 2 (nF hb_9_3) (ar 4 hb_9_4 (ai (spec_l1Le_s _ _ hr_9_47) (ai bod_117 (ai (oi (.bool r_9_47)) (ai (nF hb_9_3) (ai hb_9_4 (ai (nF hb_9_3) (ar 3 hb_9_5 (ai (idx_sl (enc := AV.bool) (x := .bool e_9_52) hi_9_52 (eq_B e_9_52)) (ar 2 hb_9_5 (ai (nF hb_9_3) (ai hb_9_5 (ai (nF hb_9_3) trivial))))))))))))))))))))))))))))))))))))) ?_
         obtain rfl := Option.some.inj h
         exact Into.mk
        ·refine rg hc ah2_0 [oN, oN, oN, oN, oc (I r_9_4), some (.el (.bool e_9_5)), oN, oN, oN, some (.el (.bool e_9_9)), oN, oN, oN, oN, some (.el (.bool e_9_14)), oN, oF, oN, oN, oN, oN, oN, oN, oc (I r_9_23), some (.el (.bool e_9_24)), oN, oN, oN, some (.el (.bool e_9_28)), oN, oN, o_, o_, o_, o_, oF, oN, oF, oN, oN, oN, some (.el (.bool e_9_41)), oN, oN, oN, oN, oN, oc (.bool r_9_47), oT, oN, o_, o_, o_, o_, o_, oF, oF] [(1, sB in1), (2, .ra 1 0), (5, I a_15), (6, I b_21), (84, .bool false)] [(1, bSystem s0)] (ai (spec_l1Add_s _ _ hr_9_4) (ai bod_115 (ai (oi (I r_9_4)) (ai (idx_sl (enc := AV.bool) (x := .bool e_9_5) hi_9_5 (eq_B e_9_5)) (ai (idx_sl (enc := AV.bool) (x := .bool e_9_9) hi_9_9 (eq_B e_9_9)) (ar 3 hb_9_0 (ai (idx_sl (enc := AV.bool) (x := .bool e_9_14) hi_9_14 (eq_B e_9_14)) (ar 2 hb_9_0 (ar 5 (nF hb_9_1) (ai (spec_l1Mul_s _ _ hr_9_23) (ai bod_116 (ai (oi (I r_9_23)) (ai (nF hb_9_1) (ai (idx_sl (enc := AV.bool) (x := .bool e_9_24) hi_9_24 (eq_B e_9_24)) (ar 4 (nF hb_9_1) (ai (idx_sl (enc := AV.bool) (x := .bool e_9_28) hi_9_28 (eq_B e_9_28)) (ar 2 (nF hb_9_1) (ar 4 (neT hb_9_2) (ai (nF hb_9_1) (ai hb_9_2 (ar 2 (nF hb_9_1) (ar 3 (nF hb_9_3) (ai (idx_sl (enc := AV.bool) (x := .bool e_9_41) hi_9_41 (eq_B e_9_41)) (ar 2 (nF hb_9_3) (ar 4 hb_9_4 (ai (spec_l1Le_s _ _ hr_9_47) (ai bod_117 (ai (oi (.bool r_9_47)) (ai (nF hb_9_3) (ai hb_9_4 (ai (nF hb_9_3) (ar 5 (neT hb_9_5) (ai (nF hb_9_3) (ai hb_9_5 (ai (nF hb_9_3) trivial))))))))))))))))))))))))))))))))))) ?_
         obtain rfl := Option.some.inj h
         exact Into.mk
       ·refine rg hc ah2_0 [oN, oN, oN, oN, oc (I r_9_4), some (.el (.bool e_9_5)), oN, oN, oN, some (.el (.bool e_9_9)), oN, oN, oN, oN, some (.el (.bool e_9_14)), oN, oF, oN, oN, oN, oN, oN, oN, oc (I r_9_23), some (.el (.bool e_9_24)), oN, oN, oN, some (.el (.bool e_9_28)), oN, oN, o_, o_, o_, o_, oF, oN, oF, oN, oN, oN, some (.el (.bool e_9_41)), oN, oN, o_, o_, o_, o_, oF, oN, o_, o_, o_, o_, o_, oF, oF] [(1, sB in1), (2, .ra 1 0), (5, I a_15), (6, I b_21), (84, .bool false)] [(1, bSystem s0)] (ai (spec_l1Add_s _ _ hr_9_4) (ai bod_115 (ai (oi (I r_9_4)) (ai (idx_sl (enc := AV.bool) (x := .bool e_9_5) hi_9_5 (eq_B e_9_5)) (ai (idx_sl (enc := AV.bool) (x := .bool e_9_9) hi_9_9 (eq_B e_9_9)) (ar 3 hb_9_0 (ai (idx_sl (enc := AV.bool) (x := .bool e_9_14) hi_9_14 (eq_B e_9_14)) (ar 2 hb_9_0 (ar 5 (nF hb_9_1) (ai (spec_l1Mul_s _ _ hr_9_23) (ai bod_116 (ai (oi (I r_9_23)) (ai (nF hb_9_1) (ai (idx_sl (enc := AV.bool) (x := .bool e_9_24) hi_9_24 (eq_B e_9_24)) (ar 4 (nF hb_9_1) (ai (idx_sl (enc := AV.bool) (x := .bool e_9_28) hi_9_28 (eq_B e_9_28)) (ar 2 (nF hb_9_1) (ar 4 (neT hb_9_2) (ai (nF hb_9_1) (ai hb_9_2 (ar 2 (nF hb_9_1) (ar 3 (nF hb_9_3) (ai (idx_sl (enc := AV.bool) (x := .bool e_9_41) hi_9_41 (eq_B e_9_41)) (ar 2 (nF hb_9_3) (ar 4 (neT hb_9_4) (ai (nF hb_9_3) (ai hb_9_4 (ai (nF hb_9_3) (ar 5 (neT (rfl : false = false)) (ai (nF hb_9_3) (ai (rfl : false = false) (ai (nF hb_9_3) trivial)))))))))))))))))))))))))))))))) ?_
        obtain rfl := Option.some.inj h
        exact Into.mk
      ·refine rg hc ah2_0 [oN, oN, oN, oN, oc (I r_9_4), some (.el (.bool e_9_5)), oN, oN, oN, some (.el (.bool e_9_9)), oN, oN, oN, oN, some (.el (.bool e_9_14)), oN, oF, oN, oN, oN, oN, oN, oN, oc (I r_9_23), some (.el (.bool e_9_24)), oN, oN, oN, some (.el (.bool e_9_28)), oN, oN, o_, o_, o_, o_, oF, oN, oF, oN, o_, o_, o_, o_, o_, o_, o_, o_, o_, o_, o_, o_, o_, o_, o_, o_, o_, oT] [(1, sB in1), (2, .ra 1 0), (5, I a_15), (6, I b_21), (84, .bool true)] [(1, bSystem s0)] (ai (spec_l1Add_s _ _ hr_9_4) (ai bod_115 (ai (oi (I r_9_4)) (ai (idx_sl (enc := AV.bool) (x := .bool e_9_5) hi_9_5 (eq_B e_9_5)) (ai (idx_sl (enc := AV.bool) (x := .bool e_9_9) hi_9_9 (eq_B e_9_9)) (ar 3 hb_9_0 (ai (idx_sl (enc := AV.bool) (x := .bool e_9_14) hi_9_14 (eq_B e_9_14)) (ar 2 hb_9_0 (ar 5 (nF hb_9_1) (ai (spec_l1Mul_s _ _ hr_9_23) (ai bod_116 (ai (oi (I r_9_23)) (ai (nF hb_9_1) (ai (idx_sl (enc := AV.bool) (x := .bool e_9_24) hi_9_24 (eq_B e_9_24)) (ar 4 (nF hb_9_1) (ai (idx_sl (enc := AV.bool) (x := .bool e_9_28) hi_9_28 (eq_B e_9_28)) (ar 2 (nF hb_9_1) (ar 4 (neT hb_9_2) (ai (nF hb_9_1) (ai hb_9_2 (ar 2 (nF hb_9_1) (ar 8 (neF (nT hb_9_3)) (ai (nT hb_9_3) trivial))))))))))))))))))))))) ?_
       obtain rfl := Option.some.inj h
       exact Into.mk
    ·refine rg hc ah2_0 [oN, oN, oN, oN, oc (I r_9_4), some (.el (.bool e_9_5)), oN, oN, oN, some (.el (.bool e_9_9)), oN, oN, oN, oN, some (.el (.bool e_9_14)), oN, oF, oN, oN, o_, o_, o_, o_, o_, o_, o_, o_, o_, o_, o_, o_, o_, o_, o_, o_, o_, o_, oT, oN, o_, o_, o_, o_, o_, o_, o_, o_, o_, o_, o_, o_, o_, o_, o_, o_, o_, oT] [(1, sB in1), (2, .ra 1 0), (5, I a_15), (6, I b_21), (84, .bool true)] [(1, bSystem s0)] (ai (spec_l1Add_s _ _ hr_9_4) (ai bod_115 (ai (oi (I r_9_4)) (ai (idx_sl (enc := AV.bool) (x := .bool e_9_5) hi_9_5 (eq_B e_9_5)) (ai (idx_sl (enc := AV.bool) (x := .bool e_9_9) hi_9_9 (eq_B e_9_9)) (ar 3 hb_9_0 (ai (idx_sl (enc := AV.bool) (x := .bool e_9_14) hi_9_14 (eq_B e_9_14)) (ar 2 hb_9_0 (ar 14 (neF (nT hb_9_1)) (ai (nT hb_9_1) (ar 8 nf (ai tt trivial)))))))))))) ?_
     obtain rfl := Option.some.inj h
     exact Into.mk
  ·clear hj_24
   refine seqQ_norm ?_
   rcases itesome h with ⟨hb_25, h⟩ | ⟨hb_25, h⟩
   ·refine cT v_23 hb_25 ?_
    refine sN ?_
    refine rg0 hc 1 [(4, .bool false)] [] ?_
    refine seqQ_norm ?_
    refine Wp.retN (by kernel_rfl) ?_
    refine blockQ_ret ?_
    refine seqQ_ret ?_
    refine loopQ_ret ?_
    obtain rfl := Option.some.inj h
    exact RetE.ret (fl := [true]) (by kernel_rfl)
   ·refine cF v_23 hb_25 ?_
    refine Wp.skipN (by kernel_rfl) ?_
    refine blockQ_norm ?_
    refine seqQ_norm ?_
    refine rg0 hc 3 [(1, sB in1), (2, .ra 1 0), (5, I a_15), (6, I (wr (b_21 + 1)))] [(1, bSystem s0)] ?_
    refine loopQ_norm ?_
    exact (spec_l1View_l0_ih _ _ h c hc)
 ·refine cF ((decide (b_21 < s0.fSize))) hb_22 ?_
  refine Wp.exitN (i := 2) (by kernel_rfl) ?_
  refine seqQ_exit ?_
  refine loopQ_exit ?_
  obtain rfl := Option.some.inj h
  exact Into.view (fun a w hv => SRx.renL [] hv (by kernel_rfl) (by kernel_rfl) (by kernel_rfl))
end Go.Am
