/- Functions of the program as pure functions, and that it computes them. Printed by a program of mine (gen.py). -/
import Derived.Test.YtmdfopkcoinfeaaGEVF9
set_option linter.unusedVariables false
set_option linter.unusedSimpArgs false
set_option maxRecDepth 100000
namespace Go.Am
open Go Go.Proofs
def ah10_0 : Option (List (List Nat)) := rx [[0], [1], [2], [3], [4], [5], [6], [7], [8], [9], [10], [11], [12], [13], [14], [15], [16], [17], [18], [19], [20], [21], [22], [23], [21], [21, 24], [21, 24, 25], [21, 24, 25, 26], [28], [29], [30], [31], [32], [33], [31], [31, 34], [31, 34, 35], [31, 34, 35, 36], [38], [39], [40]]
def ah10_1 : Option (List (List Nat)) := rx [[0], [1], [0], [0], [0, 3], [0, 2, 3, 4], [0, 2, 3, 4, 5], [7], [8], [9], [9], [11], [12], [9], [9, 13], [9, 13, 14], [9, 13, 14, 15], [17], [18], [19]]
def ah10_2 : Option (List (List Nat)) := rx [[0], [1], [2], [3], [4], [5], [4], [7], [8], [9], [10], [11], [12], [13], [14], [15], [16], [17], [18], [19], [20], [21], [22], [23], [24], [22], [22, 25], [22, 25, 26], [22, 25, 26, 27], [29], [30], [31]]
def impl_isValue (p : (List Int) × GTerm) : Option (Bool) :=
 match p with
 | (ty0, v1) =>
  (idx ty0 0) >>= fun e_1_1 =>
  (impl_shape e_1_1) >>= fun (r_1_3_0, r_1_3_1) =>
  (impl_parts ty0) >>= fun r_2_1 =>
  if (r_1_3_0 == 0) = true then
   (
    if (v1.fOp == 1) = true then
     (impl_within (v1.fN, 0, 2)) >>= fun r_5_6 =>
     if r_5_6 = true then
      if ((v1.fType.length : Int) == 0) = true then
       some (((v1.fKids.length : Int) == 0))
      else
       some (false)
     else
      some (false)
    else
     some (false)
   ) >>= fun v_2 =>
   some v_2
  else
   if (r_1_3_0 == 1) = true then
    (
     if (v1.fOp == 4) = true then
      if (v1.fN == 0) = true then
       if ((v1.fType.length : Int) == 0) = true then
        if ((v1.fKids.length : Int) == 2) = true then
         (idx r_2_1 0) >>= fun e_7_22 =>
         (idx v1.fKids 0) >>= fun e_7_26 =>
         (impl_isValue (e_7_22, e_7_26)) >>= fun r_7_28 =>
         if r_7_28 = true then
          (idx r_2_1 1) >>= fun e_7_32 =>
          (idx v1.fKids 1) >>= fun e_7_36 =>
          (impl_isValue (e_7_32, e_7_36)) >>= fun r_7_38 =>
          some (r_7_38)
         else
          some (false)
        else
         some (false)
       else
        some (false)
      else
       some (false)
     else
      some (false)
    ) >>= fun v_5 =>
    some v_5
   else
    if (r_1_3_0 == 2) = true then
     (
      if (v1.fN != 0) = true then
       some (true)
      else
       if ((v1.fKids.length : Int) != 1) = true then
        some (true)
       else
        if (v1.fOp != 6) = true then
         some ((v1.fOp != 7))
        else
         some (false)
     ) >>= fun v_8 =>
     if v_8 = true then
      some false
     else
      (
       (idx r_2_1 (wr (1 - (wr (v1.fOp - 6))))) >>= fun e_12_5 =>
       (slices_Equal_int (v1.fType, e_12_5)) >>= fun r_12_7 =>
       if r_12_7 = true then
        (idx r_2_1 (wr (v1.fOp - 6))) >>= fun e_12_11 =>
        (idx v1.fKids 0) >>= fun e_12_15 =>
        (impl_isValue (e_12_11, e_12_15)) >>= fun r_12_17 =>
        some (r_12_17)
       else
        some (false)
      ) >>= fun v_11 =>
      some v_11
    else
     (
      if (v1.fOp == 11) = true then
       if (v1.fN == r_1_3_1) = true then
        if ((v1.fType.length : Int) == 0) = true then
         if ((v1.fKids.length : Int) == 1) = true then
          (idx r_2_1 0) >>= fun e_13_23 =>
          (idx v1.fKids 0) >>= fun e_13_27 =>
          (impl_isValue (e_13_23, e_13_27)) >>= fun r_13_29 =>
          some (r_13_29)
         else
          some (false)
        else
         some (false)
       else
        some (false)
      else
       some (false)
     ) >>= fun v_13 =>
     some v_13
 partial_fixpoint
def M_impl_isValue (p : (List Int) × GTerm) (r : Bool) : Prop :=
 match p with
 | (ty0, v1) => FnSound Try.prog 40 [sI ty0, aTerm v1] (.bool r) []
theorem impl_isValue_s : ∀ p r, impl_isValue p = some r → M_impl_isValue p r := by
 refine impl_isValue.partial_correctness M_impl_isValue ?_
 rintro impl_isValue_f impl_isValue_ih ⟨ty0, v1⟩ r h
 show FnSound Try.prog 40 [sI ty0, aTerm v1] (.bool r) []
 refine FnSound.body0 tiok (fn := Try.f40) (code := B40) (by kernel_rfl) (by kernel_rfl) (by kernel_rfl) (by kernel_rfl) (nt := 157) (by kernel_rfl) (by kernel_rfl) (T := [(0, sI ty0), (1, aTerm v1)]) (O := []) (by kernel_rfl) (by kernel_rfl) (fun c hc => ?_)
 refine sN ?_
 refine rg hc none [some (.new 1), oN] [(0, sI ty0), (3, .ra 1 0)] [(1, bTerm v1)] trivial ?_
 refine seqQ_norm ?_
 refine sN ?_
 obtain ⟨e_1_1, hi_1_1, h⟩ := bsome h
 obtain ⟨⟨r_1_3_0, r_1_3_1⟩, hr_1_3, h⟩ := bsome h
 refine rg hc none [oN, some (.el (I e_1_1)), oN, oc (.tup [I r_1_3_0, I r_1_3_1]), oN, oN, oN, oN, oN] [(0, sI ty0), (3, .ra 1 0), (5, I r_1_3_0), (6, I r_1_3_1)] [(1, bTerm v1)] (ai (ix hi_1_1) (ai (impl_shape_s _ _ hr_1_3) (ai bod_77 (ai (oi (.tup [I r_1_3_0, I r_1_3_1])) trivial)))) ?_
 refine seqQ_norm ?_
 refine sN ?_
 obtain ⟨r_2_1, hr_2_1, h⟩ := bsome h
 refine rg hc none [oN, some (.call (.osl (List.map LI_s r_2_1)) [] 2), oN] [(3, .ra 1 0), (5, I r_1_3_0), (6, I r_1_3_1), (7, .rs 2)] [(1, bTerm v1), (2, .arr (List.map LI_s r_2_1))] (ai (impl_parts_s _ _ hr_2_1) (ai bod_78 (ai (oi (.osl (List.map LI_s r_2_1))) trivial))) ?_
 refine seqQ_norm ?_
 refine sN ?_
 refine sN ?_
 refine rg0 hc 1 [(3, .ra 1 0), (6, I r_1_3_1), (7, .rs 2), (18, I r_1_3_0)] [(1, bTerm v1), (2, .arr (List.map LI_s r_2_1))] ?_
 refine seqQ_norm ?_
 refine Wp.blockN (i := 0) (by kernel_rfl) ?_
 refine sN ?_
 refine rg0 hc 2 [(3, .ra 1 0), (6, I r_1_3_1), (7, .rs 2), (18, I r_1_3_0), (19, .bool (r_1_3_0 == 0))] [(1, bTerm v1), (2, .arr (List.map LI_s r_2_1))] ?_
 refine seqQ_norm ?_
 rcases itesome h with ⟨hb_1, h⟩ | ⟨hb_1, h⟩
 ·refine cT ((r_1_3_0 == 0)) hb_1 ?_
  refine sN ?_
  obtain ⟨v_2, hj_3, h⟩ := bsome h
  refine Wp.into (x := .normal) (mkS [(4, .bool v_2)] []) ?_ ?_
  ·replace h := hj_3
   rcases itesome h with ⟨hb_5_0, h⟩ | ⟨hb_5_0, h⟩
   ·obtain ⟨r_5_6, hr_5_6, h⟩ := bsome h
    rcases itesome h with ⟨hb_5_1, h⟩ | ⟨hb_5_1, h⟩
    ·rcases itesome h with ⟨hb_5_2, h⟩ | ⟨hb_5_2, h⟩
     ·refine rg hc none [oN, oN, oN, oN, oN, oN, oc (.bool r_5_6), oT, oN, oN, oN, some (.eqv (.no) ⟨[(32, I (v1.fType.length : Int))], [], []⟩), oN, oT, oN, oN, oN, some (.eqv (.no) ⟨[(38, I (v1.fKids.length : Int))], [], []⟩), oN, oT, oN] [(4, .bool ((v1.fKids.length : Int) == 0))] [] (ar 3 hb_5_0 (ai (impl_within_s _ _ hr_5_6) (ai bod_61 (ai (oi (.bool r_5_6)) (ai hb_5_0 (ar 3 hb_5_1 (ai (lenT (d := 32) I v1.fType) (ar 2 hb_5_1 (ar 3 hb_5_2 (ai (lenT (d := 38) GTerm_S v1.fKids) (ar 2 hb_5_2 trivial))))))))))) ?_
      obtain rfl := Option.some.inj h
      exact Into.mk
     ·refine rg hc none [oN, oN, oN, oN, oN, oN, oc (.bool r_5_6), oT, oN, oN, oN, some (.eqv (.no) ⟨[(32, I (v1.fType.length : Int))], [], []⟩), oN, oT, oN, o_, o_, o_, o_, oF, oN] [(4, .bool false)] [] (ar 3 hb_5_0 (ai (impl_within_s _ _ hr_5_6) (ai bod_61 (ai (oi (.bool r_5_6)) (ai hb_5_0 (ar 3 hb_5_1 (ai (lenT (d := 32) I v1.fType) (ar 2 hb_5_1 (ar 4 (neT hb_5_2) (ai hb_5_2 trivial)))))))))) ?_
      obtain rfl := Option.some.inj h
      exact Into.mk
    ·refine rg hc none [oN, oN, oN, oN, oN, oN, oc (.bool r_5_6), oT, oN, o_, o_, o_, o_, oF, oN, o_, o_, o_, o_, oF, oN] [(4, .bool false)] [] (ar 3 hb_5_0 (ai (impl_within_s _ _ hr_5_6) (ai bod_61 (ai (oi (.bool r_5_6)) (ai hb_5_0 (ar 4 (neT hb_5_1) (ai hb_5_1 (ar 4 (neT (rfl : false = false)) (ai (rfl : false = false) trivial))))))))) ?_
     obtain rfl := Option.some.inj h
     exact Into.mk
   ·refine rg hc none [oN, oN, oN, oN, o_, o_, o_, oF, oN, o_, o_, o_, o_, oF, oN, o_, o_, o_, o_, oF, oN] [(4, .bool false)] [] (ar 3 (neT hb_5_0) (ai hb_5_0 (ar 4 (neT (rfl : false = false)) (ai (rfl : false = false) (ar 4 (neT (rfl : false = false)) (ai (rfl : false = false) trivial)))))) ?_
    obtain rfl := Option.some.inj h
    exact Into.mk
  ·clear hj_3
   refine seqQ_norm ?_
   refine Wp.retN (by kernel_rfl) ?_
   refine blockQ_ret ?_
   refine seqQ_ret ?_
   obtain rfl := Option.some.inj h
   exact RetQ.ret (fl := [true]) (by kernel_rfl)
 ·refine cF ((r_1_3_0 == 0)) hb_1 ?_
  refine sN ?_
  refine rg0 hc 2 [(3, .ra 1 0), (6, I r_1_3_1), (7, .rs 2), (18, I r_1_3_0), (41, .bool (r_1_3_0 == 1))] [(1, bTerm v1), (2, .arr (List.map LI_s r_2_1))] ?_
  refine seqQ_norm ?_
  rcases itesome h with ⟨hb_4, h⟩ | ⟨hb_4, h⟩
  ·refine cT ((r_1_3_0 == 1)) hb_4 ?_
   refine sN ?_
   obtain ⟨v_5, hj_6, h⟩ := bsome h
   refine Wp.into (x := .normal) (mkS [(4, .bool v_5)] []) ?_ ?_
   ·replace h := hj_6
    rcases itesome h with ⟨hb_7_0, h⟩ | ⟨hb_7_0, h⟩
    ·rcases itesome h with ⟨hb_7_1, h⟩ | ⟨hb_7_1, h⟩
     ·rcases itesome h with ⟨hb_7_2, h⟩ | ⟨hb_7_2, h⟩
      ·rcases itesome h with ⟨hb_7_3, h⟩ | ⟨hb_7_3, h⟩
       ·obtain ⟨e_7_22, hi_7_22, h⟩ := bsome h
        obtain ⟨e_7_26, hi_7_26, h⟩ := bsome h
        obtain ⟨r_7_28, hr_7_28, h⟩ := bsome h
        rcases itesome h with ⟨hb_7_4, h⟩ | ⟨hb_7_4, h⟩
        ·obtain ⟨e_7_32, hi_7_32, h⟩ := bsome h
         obtain ⟨e_7_36, hi_7_36, h⟩ := bsome h
         obtain ⟨r_7_38, hr_7_38, h⟩ := bsome h
         refine rg hc ah10_0 [oN, oN, oN, oN, oN, oN, oN, oT, oN, oN, oN, some (.eqv (.no) ⟨[(54, I (v1.fType.length : Int))], [], []⟩), oN, oT, oN, oN, oN, some (.eqv (.no) ⟨[(60, I (v1.fKids.length : Int))], [], []⟩), oN, oT, oN, oN, oN, some (.el (sI e_7_22)), oN, oN, some (.el (aTerm e_7_26)), oN, oc (.bool r_7_28), oT, oN, oN, oN, some (.el (sI e_7_32)), oN, oN, some (.el (aTerm e_7_36)), oN, oc (.bool r_7_38), oT, oN] [(4, .bool r_7_38)] [] (ar 4 hb_7_0 (ar 3 hb_7_1 (ai (lenT (d := 54) I v1.fType) (ar 2 hb_7_1 (ar 3 hb_7_2 (ai (lenT (d := 60) GTerm_S v1.fKids) (ar 2 hb_7_2 (ar 2 hb_7_3 (ai (idx_own (enc := LI_s) hi_7_22) (ai hb_7_3 (ai (idx_sl (enc := LI_s) (x := sI e_7_22) hi_7_22 (eq_LI_s e_7_22)).2 (ar 3 hb_7_3 (ai (idx_sl (enc := GTerm_S) (x := aTerm e_7_26) hi_7_26 (eq_GTerm_S e_7_26)) (ar 2 hb_7_3 (ai (impl_isValue_ih _ _ hr_7_28) (ai bod_40 (ai (oi (.bool r_7_28)) (ai hb_7_3 (ar 2 hb_7_4 (ai (idx_own (enc := LI_s) hi_7_32) (ai hb_7_4 (ai (idx_sl (enc := LI_s) (x := sI e_7_32) hi_7_32 (eq_LI_s e_7_32)).2 (ar 3 hb_7_4 (ai (idx_sl (enc := GTerm_S) (x := aTerm e_7_36) hi_7_36 (eq_GTerm_S e_7_36)) (ar 2 hb_7_4 (ai (impl_isValue_ih _ _ hr_7_38) (ai bod_40 (ai (oi (.bool r_7_38)) (ai hb_7_4 trivial))))))))))))))))))))))))))))) ?_
         obtain rfl := Option.some.inj h
         exact Into.mk
        ·refine rg hc ah10_0 [oN, oN, oN, oN, oN, oN, oN, oT, oN, oN, oN, some (.eqv (.no) ⟨[(54, I (v1.fType.length : Int))], [], []⟩), oN, oT, oN, oN, oN, some (.eqv (.no) ⟨[(60, I (v1.fKids.length : Int))], [], []⟩), oN, oT, oN, oN, oN, some (.el (sI e_7_22)), oN, oN, some (.el (aTerm e_7_26)), oN, oc (.bool r_7_28), oT, oN, o_, o_, o_, o_, o_, o_, o_, o_, oF, oN] [(4, .bool false)] [] (ar 4 hb_7_0 (ar 3 hb_7_1 (ai (lenT (d := 54) I v1.fType) (ar 2 hb_7_1 (ar 3 hb_7_2 (ai (lenT (d := 60) GTerm_S v1.fKids) (ar 2 hb_7_2 (ar 2 hb_7_3 (ai (idx_own (enc := LI_s) hi_7_22) (ai hb_7_3 (ai (idx_sl (enc := LI_s) (x := sI e_7_22) hi_7_22 (eq_LI_s e_7_22)).2 (ar 3 hb_7_3 (ai (idx_sl (enc := GTerm_S) (x := aTerm e_7_26) hi_7_26 (eq_GTerm_S e_7_26)) (ar 2 hb_7_3 (ai (impl_isValue_ih _ _ hr_7_28) (ai bod_40 (ai (oi (.bool r_7_28)) (ai hb_7_3 (ar 8 (neT hb_7_4) (ai hb_7_4 trivial)))))))))))))))))))) ?_
         obtain rfl := Option.some.inj h
         exact Into.mk
       ·refine rg hc ah10_0 [oN, oN, oN, oN, oN, oN, oN, oT, oN, oN, oN, some (.eqv (.no) ⟨[(54, I (v1.fType.length : Int))], [], []⟩), oN, oT, oN, oN, oN, some (.eqv (.no) ⟨[(60, I (v1.fKids.length : Int))], [], []⟩), oN, oT, oN, o_, o_, o_, o_, o_, o_, o_, o_, oF, oN, o_, o_, o_, o_, o_, o_, o_, o_, oF, oN] [(4, .bool false)] [] (ar 4 hb_7_0 (ar 3 hb_7_1 (ai (lenT (d := 54) I v1.fType) (ar 2 hb_7_1 (ar 3 hb_7_2 (ai (lenT (d := 60) GTerm_S v1.fKids) (ar 2 hb_7_2 (ar 8 (neT hb_7_3) (ai hb_7_3 (ar 8 (neT (rfl : false = false)) (ai (rfl : false = false) trivial))))))))))) ?_
        obtain rfl := Option.some.inj h
        exact Into.mk
      ·refine rg hc ah10_0 [oN, oN, oN, oN, oN, oN, oN, oT, oN, oN, oN, some (.eqv (.no) ⟨[(54, I (v1.fType.length : Int))], [], []⟩), oN, oT, oN, o_, o_, o_, o_, oF, oN, o_, o_, o_, o_, o_, o_, o_, o_, oF, oN, o_, o_, o_, o_, o_, o_, o_, o_, oF, oN] [(4, .bool false)] [] (ar 4 hb_7_0 (ar 3 hb_7_1 (ai (lenT (d := 54) I v1.fType) (ar 2 hb_7_1 (ar 4 (neT hb_7_2) (ai hb_7_2 (ar 8 (neT (rfl : false = false)) (ai (rfl : false = false) (ar 8 (neT (rfl : false = false)) (ai (rfl : false = false) trivial)))))))))) ?_
       obtain rfl := Option.some.inj h
       exact Into.mk
     ·refine rg hc ah10_0 [oN, oN, oN, oN, oN, oN, oN, oT, oN, o_, o_, o_, o_, oF, oN, o_, o_, o_, o_, oF, oN, o_, o_, o_, o_, o_, o_, o_, o_, oF, oN, o_, o_, o_, o_, o_, o_, o_, o_, oF, oN] [(4, .bool false)] [] (ar 4 hb_7_0 (ar 4 (neT hb_7_1) (ai hb_7_1 (ar 4 (neT (rfl : false = false)) (ai (rfl : false = false) (ar 8 (neT (rfl : false = false)) (ai (rfl : false = false) (ar 8 (neT (rfl : false = false)) (ai (rfl : false = false) trivial))))))))) ?_
      obtain rfl := Option.some.inj h
      exact Into.mk
    ·refine rg hc ah10_0 [oN, oN, oN, oN, o_, o_, o_, oF, oN, o_, o_, o_, o_, oF, oN, o_, o_, o_, o_, oF, oN, o_, o_, o_, o_, o_, o_, o_, o_, oF, oN, o_, o_, o_, o_, o_, o_, o_, o_, oF, oN] [(4, .bool false)] [] (ar 3 (neT hb_7_0) (ai hb_7_0 (ar 4 (neT (rfl : false = false)) (ai (rfl : false = false) (ar 4 (neT (rfl : false = false)) (ai (rfl : false = false) (ar 8 (neT (rfl : false = false)) (ai (rfl : false = false) (ar 8 (neT (rfl : false = false)) (ai (rfl : false = false) trivial)))))))))) ?_
     obtain rfl := Option.some.inj h
     exact Into.mk
   ·clear hj_6
    refine seqQ_norm ?_
    refine Wp.retN (by kernel_rfl) ?_
    refine blockQ_ret ?_
    refine seqQ_ret ?_
    obtain rfl := Option.some.inj h
    exact RetQ.ret (fl := [true]) (by kernel_rfl)
  ·refine cF ((r_1_3_0 == 1)) hb_4 ?_
   refine sN ?_
   refine rg0 hc 2 [(3, .ra 1 0), (6, I r_1_3_1), (7, .rs 2), (83, .bool (r_1_3_0 == 2))] [(1, bTerm v1), (2, .arr (List.map LI_s r_2_1))] ?_
   refine seqQ_norm ?_
   rcases itesome h with ⟨hb_7, h⟩ | ⟨hb_7, h⟩
   ·refine cT ((r_1_3_0 == 2)) hb_7 ?_
    refine sN ?_
    refine sN ?_
    obtain ⟨v_8, hj_9, h⟩ := bsome h
    refine Wp.into (x := .normal) (mkS [(3, .ra 1 0), (7, .rs 2), (103, .bool v_8)] [(1, bTerm v1), (2, .arr (List.map LI_s r_2_1))]) ?_ ?_
    ·replace h := hj_9
     rcases itesome h with ⟨hb_9_0, h⟩ | ⟨hb_9_0, h⟩
     ·refine rg hc none [oN, oN, oN, oN, o_, o_, o_, o_, oT, oN, o_, o_, o_, o_, o_, o_, o_, o_, oT] [(3, .ra 1 0), (7, .rs 2), (103, .bool true)] [(1, bTerm v1), (2, .arr (List.map LI_s r_2_1))] (ar 4 (neF hb_9_0) (ai hb_9_0 (ar 5 nf (ai tt trivial)))) ?_
      obtain rfl := Option.some.inj h
      exact Into.mk
     ·rcases itesome h with ⟨hb_9_1, h⟩ | ⟨hb_9_1, h⟩
      ·refine rg hc none [oN, oN, oN, oN, oN, oN, some (.eqv (.no) ⟨[(91, I (v1.fKids.length : Int))], [], []⟩), oN, oF, oN, o_, o_, o_, o_, o_, o_, o_, o_, oT] [(3, .ra 1 0), (7, .rs 2), (103, .bool true)] [(1, bTerm v1), (2, .arr (List.map LI_s r_2_1))] (ar 3 hb_9_0 (ai (lenT (d := 91) GTerm_S v1.fKids) (ar 2 hb_9_0 (ar 5 (neF hb_9_1) (ai hb_9_1 trivial))))) ?_
       obtain rfl := Option.some.inj h
       exact Into.mk
      ·rcases itesome h with ⟨hb_9_2, h⟩ | ⟨hb_9_2, h⟩
       ·refine rg hc none [oN, oN, oN, oN, oN, oN, some (.eqv (.no) ⟨[(91, I (v1.fKids.length : Int))], [], []⟩), oN, oF, oN, oN, oN, oN, oN, oN, oN, oN, oT, oF] [(3, .ra 1 0), (7, .rs 2), (103, .bool (v1.fOp != 7))] [(1, bTerm v1), (2, .arr (List.map LI_s r_2_1))] (ar 3 hb_9_0 (ai (lenT (d := 91) GTerm_S v1.fKids) (ar 2 hb_9_0 (ar 4 hb_9_1 (ar 3 hb_9_2 (ai hb_9_1 (ai hb_9_2 (ai hb_9_1 trivial)))))))) ?_
        obtain rfl := Option.some.inj h
        exact Into.mk
       ·refine rg hc none [oN, oN, oN, oN, oN, oN, some (.eqv (.no) ⟨[(91, I (v1.fKids.length : Int))], [], []⟩), oN, oF, oN, oN, oN, oN, oN, o_, o_, o_, oF, oF] [(3, .ra 1 0), (7, .rs 2), (103, .bool false)] [(1, bTerm v1), (2, .arr (List.map LI_s r_2_1))] (ar 3 hb_9_0 (ai (lenT (d := 91) GTerm_S v1.fKids) (ar 2 hb_9_0 (ar 4 hb_9_1 (ar 3 (neT hb_9_2) (ai hb_9_1 (ai hb_9_2 (ai hb_9_1 trivial)))))))) ?_
        obtain rfl := Option.some.inj h
        exact Into.mk
    ·clear hj_9
     refine seqQ_norm ?_
     rcases itesome h with ⟨hb_10, h⟩ | ⟨hb_10, h⟩
     ·refine cT v_8 hb_10 ?_
      refine sN ?_
      refine rg0 hc 1 [(4, .bool false)] [] ?_
      refine seqQ_norm ?_
      refine Wp.retN (by kernel_rfl) ?_
      refine seqQ_ret ?_
      refine blockQ_ret ?_
      refine seqQ_ret ?_
      obtain rfl := Option.some.inj h
      exact RetQ.ret (fl := [true]) (by kernel_rfl)
     ·refine cF v_8 hb_10 ?_
      refine Wp.skipN (by kernel_rfl) ?_
      refine seqQ_norm ?_
      refine sN ?_
      refine rg0 hc 4 [(3, .ra 1 0), (7, .rs 2), (8, I (wr (v1.fOp - 6)))] [(1, bTerm v1), (2, .arr (List.map LI_s r_2_1))] ?_
      refine seqQ_norm ?_
      refine sN ?_
      obtain ⟨v_11, hj_12, h⟩ := bsome h
      refine Wp.into (x := .normal) (mkS [(4, .bool v_11)] []) ?_ ?_
      ·replace h := hj_12
       obtain ⟨e_12_5, hi_12_5, h⟩ := bsome h
       obtain ⟨r_12_7, hr_12_7, h⟩ := bsome h
       rcases itesome h with ⟨hb_12_0, h⟩ | ⟨hb_12_0, h⟩
       ·obtain ⟨e_12_11, hi_12_11, h⟩ := bsome h
        obtain ⟨e_12_15, hi_12_15, h⟩ := bsome h
        obtain ⟨r_12_17, hr_12_17, h⟩ := bsome h
        refine rg hc ah10_1 [oN, oN, oN, oN, oN, oN, some (.el (sI e_12_5)), oc (.bool r_12_7), oN, oN, oN, oN, some (.el (sI e_12_11)), oN, oN, some (.el (aTerm e_12_15)), oN, oc (.bool r_12_17), oT, oN] [(4, .bool r_12_17)] [] (ai (idx_own (enc := LI_s) hi_12_5) (ai (idx_sl (enc := LI_s) (x := sI e_12_5) hi_12_5 (eq_LI_s e_12_5)).2 (ai (slices_Equal_int_s _ _ hr_12_7) (ai bod_79 (ai (oi (.bool r_12_7)) (ar 3 hb_12_0 (ai (idx_own (enc := LI_s) hi_12_11) (ai hb_12_0 (ai (idx_sl (enc := LI_s) (x := sI e_12_11) hi_12_11 (eq_LI_s e_12_11)).2 (ar 3 hb_12_0 (ai (idx_sl (enc := GTerm_S) (x := aTerm e_12_15) hi_12_15 (eq_GTerm_S e_12_15)) (ar 2 hb_12_0 (ai (impl_isValue_ih _ _ hr_12_17) (ai bod_40 (ai (oi (.bool r_12_17)) (ai hb_12_0 trivial)))))))))))))))) ?_
        obtain rfl := Option.some.inj h
        exact Into.mk
       ·refine rg hc ah10_1 [oN, oN, oN, oN, oN, oN, some (.el (sI e_12_5)), oc (.bool r_12_7), oN, o_, o_, o_, o_, o_, o_, o_, o_, o_, oF, oN] [(4, .bool false)] [] (ai (idx_own (enc := LI_s) hi_12_5) (ai (idx_sl (enc := LI_s) (x := sI e_12_5) hi_12_5 (eq_LI_s e_12_5)).2 (ai (slices_Equal_int_s _ _ hr_12_7) (ai bod_79 (ai (oi (.bool r_12_7)) (ar 9 (neT hb_12_0) (ai hb_12_0 trivial))))))) ?_
        obtain rfl := Option.some.inj h
        exact Into.mk
      ·clear hj_12
       refine seqQ_norm ?_
       refine Wp.retN (by kernel_rfl) ?_
       refine blockQ_ret ?_
       refine seqQ_ret ?_
       obtain rfl := Option.some.inj h
       exact RetQ.ret (fl := [true]) (by kernel_rfl)
   ·refine cF ((r_1_3_0 == 2)) hb_7 ?_
    refine Wp.skipN (by kernel_rfl) ?_
    refine blockQ_norm ?_
    refine seqQ_norm ?_
    refine sN ?_
    obtain ⟨v_13, hj_14, h⟩ := bsome h
    refine Wp.into (x := .normal) (mkS [(4, .bool v_13)] []) ?_ ?_
    ·replace h := hj_14
     rcases itesome h with ⟨hb_13_0, h⟩ | ⟨hb_13_0, h⟩
     ·rcases itesome h with ⟨hb_13_1, h⟩ | ⟨hb_13_1, h⟩
      ·rcases itesome h with ⟨hb_13_2, h⟩ | ⟨hb_13_2, h⟩
       ·rcases itesome h with ⟨hb_13_3, h⟩ | ⟨hb_13_3, h⟩
        ·obtain ⟨e_13_23, hi_13_23, h⟩ := bsome h
         obtain ⟨e_13_27, hi_13_27, h⟩ := bsome h
         obtain ⟨r_13_29, hr_13_29, h⟩ := bsome h
         refine rg hc ah10_2 [oN, oN, oN, oN, oN, oN, oN, oN, oT, oN, oN, oN, some (.eqv (.no) ⟨[(138, I (v1.fType.length : Int))], [], []⟩), oN, oT, oN, oN, oN, some (.eqv (.no) ⟨[(144, I (v1.fKids.length : Int))], [], []⟩), oN, oT, oN, oN, oN, some (.el (sI e_13_23)), oN, oN, some (.el (aTerm e_13_27)), oN, oc (.bool r_13_29), oT, oN] [(4, .bool r_13_29)] [] (ar 5 hb_13_0 (ar 3 hb_13_1 (ai (lenT (d := 138) I v1.fType) (ar 2 hb_13_1 (ar 3 hb_13_2 (ai (lenT (d := 144) GTerm_S v1.fKids) (ar 2 hb_13_2 (ar 2 hb_13_3 (ai (idx_own (enc := LI_s) hi_13_23) (ai hb_13_3 (ai (idx_sl (enc := LI_s) (x := sI e_13_23) hi_13_23 (eq_LI_s e_13_23)).2 (ar 3 hb_13_3 (ai (idx_sl (enc := GTerm_S) (x := aTerm e_13_27) hi_13_27 (eq_GTerm_S e_13_27)) (ar 2 hb_13_3 (ai (impl_isValue_ih _ _ hr_13_29) (ai bod_40 (ai (oi (.bool r_13_29)) (ai hb_13_3 trivial)))))))))))))))))) ?_
         obtain rfl := Option.some.inj h
         exact Into.mk
        ·refine rg hc ah10_2 [oN, oN, oN, oN, oN, oN, oN, oN, oT, oN, oN, oN, some (.eqv (.no) ⟨[(138, I (v1.fType.length : Int))], [], []⟩), oN, oT, oN, oN, oN, some (.eqv (.no) ⟨[(144, I (v1.fKids.length : Int))], [], []⟩), oN, oT, oN, o_, o_, o_, o_, o_, o_, o_, o_, oF, oN] [(4, .bool false)] [] (ar 5 hb_13_0 (ar 3 hb_13_1 (ai (lenT (d := 138) I v1.fType) (ar 2 hb_13_1 (ar 3 hb_13_2 (ai (lenT (d := 144) GTerm_S v1.fKids) (ar 2 hb_13_2 (ar 8 (neT hb_13_3) (ai hb_13_3 trivial))))))))) ?_
         obtain rfl := Option.some.inj h
         exact Into.mk
       ·refine rg hc ah10_2 [oN, oN, oN, oN, oN, oN, oN, oN, oT, oN, oN, oN, some (.eqv (.no) ⟨[(138, I (v1.fType.length : Int))], [], []⟩), oN, oT, oN, o_, o_, o_, o_, oF, oN, o_, o_, o_, o_, o_, o_, o_, o_, oF, oN] [(4, .bool false)] [] (ar 5 hb_13_0 (ar 3 hb_13_1 (ai (lenT (d := 138) I v1.fType) (ar 2 hb_13_1 (ar 4 (neT hb_13_2) (ai hb_13_2 (ar 8 (neT (rfl : false = false)) (ai (rfl : false = false) trivial)))))))) ?_
        obtain rfl := Option.some.inj h
        exact Into.mk
      ·refine rg hc ah10_2 [oN, oN, oN, oN, oN, oN, oN, oN, oT, oN, o_, o_, o_, o_, oF, oN, o_, o_, o_, o_, oF, oN, o_, o_, o_, o_, o_, o_, o_, o_, oF, oN] [(4, .bool false)] [] (ar 5 hb_13_0 (ar 4 (neT hb_13_1) (ai hb_13_1 (ar 4 (neT (rfl : false = false)) (ai (rfl : false = false) (ar 8 (neT (rfl : false = false)) (ai (rfl : false = false) trivial))))))) ?_
       obtain rfl := Option.some.inj h
       exact Into.mk
     ·refine rg hc ah10_2 [oN, oN, oN, oN, o_, o_, o_, o_, oF, oN, o_, o_, o_, o_, oF, oN, o_, o_, o_, o_, oF, oN, o_, o_, o_, o_, o_, o_, o_, o_, oF, oN] [(4, .bool false)] [] (ar 4 (neT hb_13_0) (ai hb_13_0 (ar 4 (neT (rfl : false = false)) (ai (rfl : false = false) (ar 4 (neT (rfl : false = false)) (ai (rfl : false = false) (ar 8 (neT (rfl : false = false)) (ai (rfl : false = false) trivial)))))))) ?_
      obtain rfl := Option.some.inj h
      exact Into.mk
    ·clear hj_14
     refine seqQ_norm ?_
     refine Wp.retN (by kernel_rfl) ?_
     obtain rfl := Option.some.inj h
     exact RetQ.ret (fl := [true]) (by kernel_rfl)
def impl_IsValue (p : GSystem × (List Int) × GTerm) : Option (Bool) :=
 match p with
 | (s0, ty1, v2) =>
  (
   (impl_IsData (s0, ty1)) >>= fun r_1_2 =>
   if r_1_2 = true then
    (impl_isValue (ty1, v2)) >>= fun r_1_6 =>
    some (r_1_6)
   else
    some (false)
  ) >>= fun v_1 =>
  some v_1
def M_impl_IsValue (p : GSystem × (List Int) × GTerm) (r : Bool) : Prop :=
 match p with
 | (s0, ty1, v2) => FnSound Try.prog 47 [aSystem s0, sI ty1, aTerm v2] (.bool r) []
theorem impl_IsValue_s : ∀ p r, impl_IsValue p = some r → M_impl_IsValue p r := by
 rintro ⟨s0, ty1, v2⟩ r h
 unfold impl_IsValue at h
 show FnSound Try.prog 47 [aSystem s0, sI ty1, aTerm v2] (.bool r) []
 refine FnSound.body0 tiok (fn := Try.f47) (code := B47) (by kernel_rfl) (by kernel_rfl) (by kernel_rfl) (by kernel_rfl) (nt := 15) (by kernel_rfl) (by kernel_rfl) (T := [(0, aSystem s0), (1, sI ty1), (2, aTerm v2)]) (O := []) (by kernel_rfl) (by kernel_rfl) (fun c hc => ?_)
 refine sN ?_
 refine rg hc none [some (.new 1), some (.new 2), oN] [(1, sI ty1), (3, .ra 1 0), (5, .ra 2 0)] [(1, bSystem s0), (2, bTerm v2)] trivial ?_
 refine seqQ_norm ?_
 refine sN ?_
 obtain ⟨v_1, hj_2, h⟩ := bsome h
 refine Wp.into (x := .normal) (mkS [(6, .bool v_1)] []) ?_ ?_
 ·replace h := hj_2
  obtain ⟨r_1_2, hr_1_2, h⟩ := bsome h
  rcases itesome h with ⟨hb_1_0, h⟩ | ⟨hb_1_0, h⟩
  ·obtain ⟨r_1_6, hr_1_6, h⟩ := bsome h
   refine rg hc none [oN, oN, oc (.bool r_1_2), oN, oN, oN, oc (.bool r_1_6), oT, oN] [(6, .bool r_1_6)] [] (ai (impl_IsData_s _ _ hr_1_2) (ai bod_75 (ai (oi (.bool r_1_2)) (ar 3 hb_1_0 (ai (impl_isValue_s _ _ hr_1_6) (ai bod_40 (ai (oi (.bool r_1_6)) (ai hb_1_0 trivial)))))))) ?_
   obtain rfl := Option.some.inj h
   exact Into.mk
  ·refine rg hc none [oN, oN, oc (.bool r_1_2), oN, o_, o_, o_, oF, oN] [(6, .bool false)] [] (ai (impl_IsData_s _ _ hr_1_2) (ai bod_75 (ai (oi (.bool r_1_2)) (ar 3 (neT hb_1_0) (ai hb_1_0 trivial))))) ?_
   obtain rfl := Option.some.inj h
   exact Into.mk
 ·clear hj_2
  refine seqQ_norm ?_
  refine Wp.retN (by kernel_rfl) ?_
  obtain rfl := Option.some.inj h
  exact RetQ.ret (fl := [true]) (by kernel_rfl)
def slices_Clone_int (s0 : (List Int)) : Option ((List Int)) :=
  (fits (([] : List Int).length + s0.length) 8) >>= fun _ =>
  some s0
def M_slices_Clone_int (s0 : (List Int)) (r : (List Int)) : Prop :=
 FnSound Try.prog 102 [sI s0] (.osl (List.map I r)) []
theorem slices_Clone_int_s : ∀ p r, slices_Clone_int p = some r → M_slices_Clone_int p r := by
 rintro s0 r h
 unfold slices_Clone_int at h
 show FnSound Try.prog 102 [sI s0] (.osl (List.map I r)) []
 refine FnSound.body0 tiok (fn := Try.f102) (code := B102) (by kernel_rfl) (by kernel_rfl) (by kernel_rfl) (by kernel_rfl) (nt := 8) (by kernel_rfl) (by kernel_rfl) (T := [(0, sI s0)]) (O := []) (by kernel_rfl) (by kernel_rfl) (fun c hc => ?_)
 refine sN ?_
 refine rg0 hc 1 [(0, sI s0)] [] ?_
 refine seqQ_norm ?_
 refine sN ?_
 refine sN ?_
 refine rg0 hc 2 [(0, sI s0), (4, .nilq (List.map I s0))] [] ?_
 refine seqQ_norm ?_
 refine Wp.condNil (xs := List.map I s0) (by kernel_rfl) (by kernel_rfl) (fun hn => ?_) ?_
 ·replace hn := List.map_eq_nil_iff.1 hn
  replace h : (some []) = some r := by rw [hn] at h; simpa [fits, chk] using h
  refine sN ?_
  refine rg0 hc 1 [(2, .nils)] [] ?_
  refine seqQ_norm ?_
  refine Wp.retN (by kernel_rfl) ?_
  refine seqQ_ret ?_
  obtain rfl := Option.some.inj h
  exact RetQ.ret (fl := [true]) (by kernel_rfl)
 ·refine Wp.skipN (by kernel_rfl) ?_
  refine seqQ_norm ?_
  refine sN ?_
  obtain ⟨_, hk_3_2, h⟩ := bsome h
  refine rg hc none [some (.mk 1 true), oN, some (.eqv (.mk 2 true) ⟨[(7, .rs 2)], [(2, some (.arr (List.map I s0))), (1, none)], [2]⟩), oN] [(2, .rs 2)] [(2, .arr (List.map I s0))] (ai (congrArg (fun z => (⟨[(7, .rs 2)], [(2, some (.arr z)), (1, none)], [2]⟩ : Wr)) (List.nil_append _ : [] ++ (List.map I s0) = List.map I s0)) (ai (app_ob (enc1 := I) (enc2 := I) (e1 := []) (e2 := s0) (sz := 1) ek_I ek_I hk_3_2) trivial)) ?_
  refine seqQ_norm ?_
  refine Wp.retN (by kernel_rfl) ?_
  obtain rfl := Option.some.inj h
  exact RetQ.ret (fl := [true]) (by kernel_rfl)
def impl_copyTerm_F1 (c : Ctx) (t0 : GTerm) (r_1_6 : List Int) : (List GTerm) → Exit → AState → Prop
 | out_6 => Into c (.exit 0) (mkS [(2, .ra 2 0), (3, .ra 4 0)] [(2, .box [I 0, I 0, .nils, .nils]), (3, .arr (List.map I r_1_6)), (4, .box [I t0.fOp, I t0.fN, .rs 3, .rs 10]), (10, .arr (List.map GTerm_O out_6))])
mutual
def impl_copyTerm (t0 : GTerm) : Option (GTerm) :=
  (slices_Clone_int t0.fType) >>= fun r_1_6 =>
  (impl_copyTerm_l0 (t0, r_1_6, [], 0)) >>= fun out_6 =>
  some (GTerm.mk t0.fOp t0.fN r_1_6 out_6)
 partial_fixpoint
def impl_copyTerm_l0 (p : GTerm × (List Int) × (List GTerm) × Int) : Option ((List GTerm)) :=
 match p with
 | (t0, r_1_6, out_4, w_2) =>
  if (decide (w_2 < (t0.fKids.length : Int))) = true then
   (idx t0.fKids w_2) >>= fun e_4_0 =>
   (impl_copyTerm e_4_0) >>= fun r_5_3 =>
   (fits (out_4.length + [r_5_3].length) 64) >>= fun _ =>
   impl_copyTerm_l0 (t0, r_1_6, (out_4 ++ [r_5_3]), (wr (w_2 + 1)))
  else
   some (out_4)
 partial_fixpoint
end
def M_impl_copyTerm (t0 : GTerm) (r : GTerm) : Prop :=
 FnSound Try.prog 63 [aTerm t0] (qTerm r) []
def M_impl_copyTerm_l0 (p : GTerm × (List Int) × (List GTerm) × Int) (fl : (List GTerm)) : Prop :=
 match p with
 | (t0, r_1_6, out_4, w_2) => ∀ c : Ctx, c.nt = 30 → WpL Try.prog c (cl (cl (cr (cl (cr (cr B63)))))) (impl_copyTerm_F1 c t0 r_1_6 fl) (mkS [(2, .ra 2 0), (3, .ra 4 0), (15, .sl (List.map GTerm_S t0.fKids)), (16, I (t0.fKids.length : Int)), (17, I w_2)] [(2, .box [I 0, I 0, .nils, .nils]), (3, .arr (List.map I r_1_6)), (4, .box [I t0.fOp, I t0.fN, .rs 3, .rs 10]), (10, .arr (List.map GTerm_O out_4))])
theorem impl_copyTerm_all : (∀ p r, impl_copyTerm p = some r → M_impl_copyTerm p r) ∧ (∀ p r, impl_copyTerm_l0 p = some r → M_impl_copyTerm_l0 p r) := by
 refine impl_copyTerm.mutual_partial_correctness M_impl_copyTerm M_impl_copyTerm_l0 ?_ ?_
 ·rintro impl_copyTerm_l0_f impl_copyTerm_l0_ih t0 r h
  show FnSound Try.prog 63 [aTerm t0] (qTerm r) []
  refine FnSound.body0 tiok (fn := Try.f63) (code := B63) (by kernel_rfl) (by kernel_rfl) (by kernel_rfl) (by kernel_rfl) (nt := 30) (by kernel_rfl) (by kernel_rfl) (T := [(0, aTerm t0)]) (O := []) (by kernel_rfl) (by kernel_rfl) (fun c hc => ?_)
  refine sN ?_
  refine rg hc none [some (.new 1), some (.new 2)] [(1, .ra 1 0), (2, .ra 2 0)] [(1, bTerm t0), (2, .box [I 0, I 0, .nils, .nils])] trivial ?_
  refine seqQ_norm ?_
  refine sN ?_
  obtain ⟨r_1_6, hr_1_6, h⟩ := bsome h
  refine rg hc (rx [[0], [1], [0], [0, 2], [0], [0, 4], [0, 4, 5], [7], [0], [9]]) [oN, oN, oN, oN, oN, oN, some (.call (.osl (List.map I r_1_6)) [] 3), oN, some (.new 4), oN] [(1, .ra 1 0), (2, .ra 2 0), (3, .ra 4 0)] [(1, bTerm t0), (2, .box [I 0, I 0, .nils, .nils]), (3, .arr (List.map I r_1_6)), (4, .box [I t0.fOp, I t0.fN, .rs 3, .nils])] (ai (slices_Clone_int_s _ _ hr_1_6) (ai bod_102 (ai (oi (.osl (List.map I r_1_6))) trivial))) ?_
  refine seqQ_norm ?_
  refine sN ?_
  refine sN ?_
  refine rg hc none [oN, oN, some (.eqv (.no) ⟨[(16, I (t0.fKids.length : Int))], [], []⟩), oN] [(2, .ra 2 0), (3, .ra 4 0), (15, .sl (List.map GTerm_S t0.fKids)), (16, I (t0.fKids.length : Int)), (17, I 0)] [(2, .box [I 0, I 0, .nils, .nils]), (3, .arr (List.map I r_1_6)), (4, .box [I t0.fOp, I t0.fN, .rs 3, .nils])] (ai (lenT (d := 16) GTerm_S t0.fKids) trivial) ?_
  refine seqQ_norm ?_
  refine Wp.blockN (i := 0) (by kernel_rfl) ?_
  obtain ⟨out_6, hl_7, h⟩ := bsome h
  have hL := impl_copyTerm_l0_ih _ _ hl_7 c hc
  refine Wp.loopN (by kernel_rfl) (WpL.view (fun a w hv => SRx.renL [(10, 21)] (SRx.nilBL 4 3 21 [I t0.fOp, I t0.fN, .rs 3, .nils] hv (by kernel_rfl) (by kernel_rfl) (by kernel_rfl)) (by kernel_rfl) (by kernel_rfl) (by kernel_rfl)) (?_ : WpL _ c _ _ (mkS [(2, .ra 2 0), (3, .ra 4 0), (15, .sl (List.map GTerm_S t0.fKids)), (16, I (t0.fKids.length : Int)), (17, I 0)] [(2, .box [I 0, I 0, .nils, .nils]), (3, .arr (List.map I r_1_6)), (4, .box [I t0.fOp, I t0.fN, .rs 3, .rs 10]), (10, .arr (List.map GTerm_O []))])))
  ·refine WpL.into (e := (.exit 0)) (mkS [(2, .ra 2 0), (3, .ra 4 0)] [(2, .box [I 0, I 0, .nils, .nils]), (3, .arr (List.map I r_1_6)), (4, .box [I t0.fOp, I t0.fN, .rs 3, .rs 10]), (10, .arr (List.map GTerm_O out_6))]) hL ?_
   refine blockQ_hit ?_
   refine seqQ_norm ?_
   refine sN ?_
   refine rg0 hc 2 [(2, .ra 2 0)] [(2, .box [I t0.fOp, I t0.fN, .rs 3, .rs 10]), (3, .arr (List.map I r_1_6)), (10, .arr (List.map GTerm_O out_6))] ?_
   refine seqQ_norm ?_
   refine Wp.retN (by kernel_rfl) ?_
   obtain rfl := Option.some.inj h
   exact RetQ.ret (fl := [true]) (by kernel_rfl)
 ·rintro impl_copyTerm_f impl_copyTerm_l0_f impl_copyTerm_ih impl_copyTerm_l0_ih ⟨t0, r_1_6, out_4, w_2⟩ r h
  intro c hc
  show WpL Try.prog c (cl (cl (cr (cl (cr (cr B63)))))) (impl_copyTerm_F1 c t0 r_1_6 r) (mkS [(2, .ra 2 0), (3, .ra 4 0), (15, .sl (List.map GTerm_S t0.fKids)), (16, I (t0.fKids.length : Int)), (17, I w_2)] [(2, .box [I 0, I 0, .nils, .nils]), (3, .arr (List.map I r_1_6)), (4, .box [I t0.fOp, I t0.fN, .rs 3, .rs 10]), (10, .arr (List.map GTerm_O out_4))])
  refine WpL.step ?_
  refine sN ?_
  refine rg0 hc 1 [(2, .ra 2 0), (3, .ra 4 0), (15, .sl (List.map GTerm_S t0.fKids)), (16, I (t0.fKids.length : Int)), (17, I w_2), (18, .bool (decide (w_2 < (t0.fKids.length : Int))))] [(2, .box [I 0, I 0, .nils, .nils]), (3, .arr (List.map I r_1_6)), (4, .box [I t0.fOp, I t0.fN, .rs 3, .rs 10]), (10, .arr (List.map GTerm_O out_4))] ?_
  refine seqQ_norm ?_
  refine sN ?_
  rcases itesome h with ⟨hb_5, h⟩ | ⟨hb_5, h⟩
  ·refine cT ((decide (w_2 < (t0.fKids.length : Int)))) hb_5 ?_
   refine Wp.skipN (by kernel_rfl) ?_
   refine seqQ_norm ?_
   refine sN ?_
   refine Wp.blockN (i := 1) (by kernel_rfl) ?_
   refine sN ?_
   obtain ⟨e_4_0, hi_4_0, h⟩ := bsome h
   refine rg hc none [some (.el (aTerm e_4_0)), oN, some (.new 16), oN] [(2, .ra 2 0), (3, .ra 4 0), (5, .ra 16 0), (15, .sl (List.map GTerm_S t0.fKids)), (16, I (t0.fKids.length : Int)), (17, I w_2)] [(2, .box [I 0, I 0, .nils, .nils]), (3, .arr (List.map I r_1_6)), (4, .box [I t0.fOp, I t0.fN, .rs 3, .rs 10]), (10, .arr (List.map GTerm_O out_4)), (16, bTerm e_4_0)] (ai (idx_sl (enc := GTerm_S) (x := aTerm e_4_0) hi_4_0 (eq_GTerm_S e_4_0)) trivial) ?_
   refine seqQ_norm ?_
   obtain ⟨r_5_3, hr_5_3, h⟩ := bsome h
   obtain ⟨_, hk_5_5, h⟩ := bsome h
   refine rg hc (rx [[0], [1], [0], [0, 2], [0, 2, 3], [5], [6], [7]]) [oN, oN, oN, some (.call (qTerm r_5_3) [] 17), some (.eqv (.mk 19 true) ⟨[(25, .rs 19)], [(19, some (.arr (List.map GTerm_O [r_5_3]))), (17, none), (18, none)], [19]⟩), some (.eqv (.mk 20 true) ⟨[(26, .rs 20)], [(20, some (.arr (List.map GTerm_O (out_4 ++ [r_5_3])))), (10, none), (19, none)], [20]⟩), oN, oN] [(2, .ra 2 0), (3, .ra 4 0), (15, .sl (List.map GTerm_S t0.fKids)), (16, I (t0.fKids.length : Int)), (17, I w_2)] [(2, .box [I 0, I 0, .nils, .nils]), (3, .arr (List.map I r_1_6)), (4, .box [I t0.fOp, I t0.fN, .rs 3, .rs 20]), (20, .arr (List.map GTerm_O (out_4 ++ [r_5_3])))] (ai (impl_copyTerm_ih _ _ hr_5_3) (ai bod_63 (ai (oi (qTerm r_5_3)) (ai (congrArg (fun z => (⟨[(25, .rs 19)], [(19, some (.arr z)), (17, none), (18, none)], [19]⟩ : Wr)) ((rows1 (eq_GTerm_O r_5_3) rows0) : [AV.agg [I r_5_3.fOp, I r_5_3.fN, AV.osl (List.map I r_5_3.fType), AV.osl (List.map GTerm_O r_5_3.fKids)]] = List.map GTerm_O [r_5_3])) (ai (congrArg (fun z => (⟨[(26, .rs 20)], [(20, some (.arr z)), (10, none), (19, none)], [20]⟩ : Wr)) ((List.map_append).symm : (List.map GTerm_O out_4) ++ (List.map GTerm_O [r_5_3]) = List.map GTerm_O (out_4 ++ [r_5_3]))) (ai (app_ob (enc1 := GTerm_O) (enc2 := GTerm_O) (e1 := out_4) (e2 := [r_5_3]) (sz := 4) ek_GTerm_O ek_GTerm_O hk_5_5) trivial)))))) ?_
   refine blockQ_norm ?_
   refine seqQ_norm ?_
   refine rg0 hc 2 [(2, .ra 2 0), (3, .ra 4 0), (15, .sl (List.map GTerm_S t0.fKids)), (16, I (t0.fKids.length : Int)), (17, I (wr (w_2 + 1)))] [(2, .box [I 0, I 0, .nils, .nils]), (3, .arr (List.map I r_1_6)), (4, .box [I t0.fOp, I t0.fN, .rs 3, .rs 20]), (20, .arr (List.map GTerm_O (out_4 ++ [r_5_3])))] ?_
   refine loopQ_norm ?_
   exact WpL.view (fun a w hv => SRx.renL [(10, 20)] hv (by kernel_rfl) (by kernel_rfl) (by kernel_rfl)) (impl_copyTerm_l0_ih _ _ h c hc)
  ·refine cF ((decide (w_2 < (t0.fKids.length : Int)))) hb_5 ?_
   refine Wp.exitN (i := 0) (by kernel_rfl) ?_
   refine seqQ_exit ?_
   refine loopQ_exit ?_
   obtain rfl := Option.some.inj h
   exact Into.view (fun a w hv => SRx.renL [] hv (by kernel_rfl) (by kernel_rfl) (by kernel_rfl))
theorem impl_copyTerm_s : ∀ p r, impl_copyTerm p = some r → M_impl_copyTerm p r := impl_copyTerm_all.1
theorem impl_copyTerm_l0_s : ∀ p r, impl_copyTerm_l0 p = some r → M_impl_copyTerm_l0 p r := impl_copyTerm_all.2
def slices_Index_int_F1 (c : Ctx) : (Unit) ⊕ (Int) → Exit → AState → Prop
 | .inl _ => Into c (.exit 0) (mkS [] [])
 | .inr r => RetE TIx Try.f123 [] (I r)
def slices_Index_int_l0 (p : (List Int) × Int × Int) : Option ((Unit) ⊕ (Int)) :=
 match p with
 | (s0, v1, w_3) =>
  if (decide (w_3 < (s0.length : Int))) = true then
   (idx s0 w_3) >>= fun e_4_3 =>
   if (v1 == e_4_3) = true then
    some (.inr w_3)
   else
    slices_Index_int_l0 (s0, v1, (wr (w_3 + 1)))
  else
   some (.inl ())
 partial_fixpoint
def M_slices_Index_int_l0 (p : (List Int) × Int × Int) (fl : (Unit) ⊕ (Int)) : Prop :=
 match p with
 | (s0, v1, w_3) => ∀ c : Ctx, c.nt = 19 → WpL Try.prog c (cl (cl (cr (cl (cr B123))))) (slices_Index_int_F1 c fl) (mkS [(0, sI s0), (1, I v1), (7, I (s0.length : Int)), (8, I w_3)] [])
theorem slices_Index_int_l0_s : ∀ p r, slices_Index_int_l0 p = some r → M_slices_Index_int_l0 p r := by
 refine slices_Index_int_l0.partial_correctness M_slices_Index_int_l0 ?_
 rintro slices_Index_int_l0_f slices_Index_int_l0_ih ⟨s0, v1, w_3⟩ r h
 intro c hc
 show WpL Try.prog c (cl (cl (cr (cl (cr B123))))) (slices_Index_int_F1 c r) (mkS [(0, sI s0), (1, I v1), (7, I (s0.length : Int)), (8, I w_3)] [])
 refine WpL.step ?_
 refine sN ?_
 refine rg0 hc 1 [(0, sI s0), (1, I v1), (7, I (s0.length : Int)), (8, I w_3), (9, .bool (decide (w_3 < (s0.length : Int))))] [] ?_
 refine seqQ_norm ?_
 refine sN ?_
 rcases itesome h with ⟨hb_4, h⟩ | ⟨hb_4, h⟩
 ·refine cT ((decide (w_3 < (s0.length : Int)))) hb_4 ?_
  refine Wp.skipN (by kernel_rfl) ?_
  refine seqQ_norm ?_
  refine sN ?_
  refine Wp.blockN (i := 1) (by kernel_rfl) ?_
  refine sN ?_
  refine rg0 hc 2 [(0, sI s0), (1, I v1), (5, I w_3), (7, I (s0.length : Int)), (8, I w_3)] [] ?_
  refine seqQ_norm ?_
  refine sN ?_
  obtain ⟨e_4_3, hi_4_3, h⟩ := bsome h
  refine rg hc none [oN, oN, oN, some (.el (I e_4_3)), oN, oN] [(0, sI s0), (1, I v1), (5, I w_3), (7, I (s0.length : Int)), (8, I w_3), (16, .bool (v1 == e_4_3))] [] (ai (ix hi_4_3) trivial) ?_
  refine seqQ_norm ?_
  rcases itesome h with ⟨hb_5, h⟩ | ⟨hb_5, h⟩
  ·refine cT ((v1 == e_4_3)) hb_5 ?_
   refine sN ?_
   refine rg0 hc 2 [(4, I w_3)] [] ?_
   refine seqQ_norm ?_
   refine Wp.retN (by kernel_rfl) ?_
   refine blockQ_ret ?_
   refine seqQ_ret ?_
   refine loopQ_ret ?_
   obtain rfl := Option.some.inj h
   exact RetE.ret (fl := [true]) (by kernel_rfl)
  ·refine cF ((v1 == e_4_3)) hb_5 ?_
   refine Wp.skipN (by kernel_rfl) ?_
   refine blockQ_norm ?_
   refine seqQ_norm ?_
   refine rg0 hc 2 [(0, sI s0), (1, I v1), (7, I (s0.length : Int)), (8, I (wr (w_3 + 1)))] [] ?_
   refine loopQ_norm ?_
   exact (slices_Index_int_l0_ih _ _ h c hc)
 ·refine cF ((decide (w_3 < (s0.length : Int)))) hb_4 ?_
  refine Wp.exitN (i := 0) (by kernel_rfl) ?_
  refine seqQ_exit ?_
  refine loopQ_exit ?_
  obtain rfl := Option.some.inj h
  exact Into.view (fun a w hv => SRx.renL [] hv (by kernel_rfl) (by kernel_rfl) (by kernel_rfl))
def slices_Index_int (p : (List Int) × Int) : Option (Int) :=
 match p with
 | (s0, v1) =>
  (slices_Index_int_l0 (s0, v1, 0)) >>= fun fl => match fl with
  | .inl () =>
   some (-1)
  | .inr r =>
   some r
def M_slices_Index_int (p : (List Int) × Int) (r : Int) : Prop :=
 match p with
 | (s0, v1) => FnSound Try.prog 123 [sI s0, I v1] (I r) []
theorem slices_Index_int_s : ∀ p r, slices_Index_int p = some r → M_slices_Index_int p r := by
 rintro ⟨s0, v1⟩ r h
 unfold slices_Index_int at h
 show FnSound Try.prog 123 [sI s0, I v1] (I r) []
 refine FnSound.body0 tiok (fn := Try.f123) (code := B123) (by kernel_rfl) (by kernel_rfl) (by kernel_rfl) (by kernel_rfl) (nt := 19) (by kernel_rfl) (by kernel_rfl) (T := [(0, sI s0), (1, I v1)]) (O := []) (by kernel_rfl) (by kernel_rfl) (fun c hc => ?_)
 refine sN ?_
 refine rg0 hc 1 [(0, sI s0), (1, I v1)] [] ?_
 refine seqQ_norm ?_
 refine sN ?_
 refine sN ?_
 refine rg hc none [oN, some (.eqv (.no) ⟨[(7, I (s0.length : Int))], [], []⟩), oN] [(0, sI s0), (1, I v1), (7, I (s0.length : Int)), (8, I 0)] [] (ai (lenT (d := 7) I s0) trivial) ?_
 refine seqQ_norm ?_
 refine Wp.blockN (i := 0) (by kernel_rfl) ?_
 obtain ⟨fl, hl_6, h⟩ := bsome h
 have hL := slices_Index_int_l0_s _ _ hl_6 c hc
 refine Wp.loopN (by kernel_rfl) ?_
 rcases fl with ⟨⟩ | r
 ·refine WpL.into (e := (.exit 0)) (mkS [] []) hL ?_
  refine blockQ_hit ?_
  refine seqQ_norm ?_
  refine sN ?_
  refine rg0 hc 1 [(4, I (-1))] [] ?_
  refine seqQ_norm ?_
  refine Wp.retN (by kernel_rfl) ?_
  obtain rfl := Option.some.inj h
  exact RetQ.ret (fl := [true]) (by kernel_rfl)
 ·refine WpL.mono hL ?_
  rintro _ _ ⟨rfl, hfin⟩
  refine blockQ_ret ?_
  refine seqQ_ret ?_
  obtain rfl := Option.some.inj h
  exact ⟨.inl rfl, hfin⟩
def slices_Contains_int (p : (List Int) × Int) : Option (Bool) :=
 match p with
 | (s0, v1) =>
  (slices_Index_int (s0, v1)) >>= fun r_1_2 =>
  some (decide (r_1_2 ≥ 0))
def M_slices_Contains_int (p : (List Int) × Int) (r : Bool) : Prop :=
 match p with
 | (s0, v1) => FnSound Try.prog 86 [sI s0, I v1] (.bool r) []
theorem slices_Contains_int_s : ∀ p r, slices_Contains_int p = some r → M_slices_Contains_int p r := by
 rintro ⟨s0, v1⟩ r h
 unfold slices_Contains_int at h
 show FnSound Try.prog 86 [sI s0, I v1] (.bool r) []
 refine FnSound.body0 tiok (fn := Try.f86) (code := B86) (by kernel_rfl) (by kernel_rfl) (by kernel_rfl) (by kernel_rfl) (nt := 9) (by kernel_rfl) (by kernel_rfl) (T := [(0, sI s0), (1, I v1)]) (O := []) (by kernel_rfl) (by kernel_rfl) (fun c hc => ?_)
 refine sN ?_
 refine rg0 hc 1 [(0, sI s0), (1, I v1)] [] ?_
 refine seqQ_norm ?_
 refine sN ?_
 obtain ⟨r_1_2, hr_1_2, h⟩ := bsome h
 refine rg hc none [oN, oN, oc (I r_1_2), oN, oN] [(4, .bool (decide (r_1_2 ≥ 0)))] [] (ai (slices_Index_int_s _ _ hr_1_2) (ai bod_123 (ai (oi (I r_1_2)) trivial))) ?_
 refine seqQ_norm ?_
 refine Wp.retN (by kernel_rfl) ?_
 obtain rfl := Option.some.inj h
 exact RetQ.ret (fl := [true]) (by kernel_rfl)
end Go.Am
