/- Functions of the program as pure functions, and that it computes them. Printed by a program of mine (gen.py). -/
import Derived.Test.YtmdfopkcoinfeaaGPOF6
set_option linter.unusedVariables false
set_option linter.unusedSimpArgs false
set_option maxRecDepth 100000
namespace Go.Am
open Go Go.Proofs
def ah7_0 : Option (List (List Nat)) := rx [[0], [1], [2], [3], [4], [5], [6], [7], [8], [9], [10], [11], [12], [13], [14], [15], [16], [17], [18], [19], [20], [21], [22], [23], [21], [21, 24], [21, 24, 25], [21, 24, 25, 26], [28], [29], [30], [31], [32], [33], [31], [31, 34], [31, 34, 35], [31, 34, 35, 36], [38], [39], [40]]
def ah7_1 : Option (List (List Nat)) := rx [[0], [1], [0], [0], [0, 3], [0, 2, 3, 4], [0, 2, 3, 4, 5], [7], [8], [9], [9], [11], [12], [9], [9, 13], [9, 13, 14], [9, 13, 14, 15], [17], [18], [19]]
def ah7_2 : Option (List (List Nat)) := rx [[0], [1], [2], [3], [4], [5], [4], [7], [8], [9], [10], [11], [12], [13], [14], [15], [16], [17], [18], [19], [20], [21], [22], [23], [24], [22], [22, 25], [22, 25, 26], [22, 25, 26, 27], [29], [30], [31]]
def ah7_3 : Option (List (List Nat)) := rx [[0], [0], [2], [3], [0], [0], [0, 4, 5], [0, 4, 5, 6], [8]]
def impl_isValue (p : (List Int) × GTerm) : Option (Bool) :=
 match p with
 | (ty0, v1) =>
  (idx ty0 0) >>= fun e_1_1 =>
  (impl_shape e_1_1) >>= fun (r_1_3_0, r_1_3_1) =>
  (impl_parts ty0) >>= fun r_2_1 =>
  if (r_1_3_0 == 0) = true then
   (
    if (v1.fOp == 1) = true then
     (impl_within (v1.fN, 0, 2)) >>= fun r_5_6 =>
     if r_5_6 = true then
      if ((v1.fType.length : Int) == 0) = true then
       some (((v1.fKids.length : Int) == 0))
      else
       some (false)
     else
      some (false)
    else
     some (false)
   ) >>= fun v_2 =>
   some v_2
  else
   if (r_1_3_0 == 1) = true then
    (
     if (v1.fOp == 4) = true then
      if (v1.fN == 0) = true then
       if ((v1.fType.length : Int) == 0) = true then
        if ((v1.fKids.length : Int) == 2) = true then
         (idx r_2_1 0) >>= fun e_7_22 =>
         (idx v1.fKids 0) >>= fun e_7_26 =>
         (impl_isValue (e_7_22, e_7_26)) >>= fun r_7_28 =>
         if r_7_28 = true then
          (idx r_2_1 1) >>= fun e_7_32 =>
          (idx v1.fKids 1) >>= fun e_7_36 =>
          (impl_isValue (e_7_32, e_7_36)) >>= fun r_7_38 =>
          some (r_7_38)
         else
          some (false)
        else
         some (false)
       else
        some (false)
      else
       some (false)
     else
      some (false)
    ) >>= fun v_5 =>
    some v_5
   else
    if (r_1_3_0 == 2) = true then
     (
      if (v1.fN != 0) = true then
       some (true)
      else
       if ((v1.fKids.length : Int) != 1) = true then
        some (true)
       else
        if (v1.fOp != 6) = true then
         some ((v1.fOp != 7))
        else
         some (false)
     ) >>= fun v_8 =>
     if v_8 = true then
      some false
     else
      (
       (idx r_2_1 (wr (1 - (wr (v1.fOp - 6))))) >>= fun e_12_5 =>
       (slices_Equal_int (v1.fType, e_12_5)) >>= fun r_12_7 =>
       if r_12_7 = true then
        (idx r_2_1 (wr (v1.fOp - 6))) >>= fun e_12_11 =>
        (idx v1.fKids 0) >>= fun e_12_15 =>
        (impl_isValue (e_12_11, e_12_15)) >>= fun r_12_17 =>
        some (r_12_17)
       else
        some (false)
      ) >>= fun v_11 =>
      some v_11
    else
     (
      if (v1.fOp == 11) = true then
       if (v1.fN == r_1_3_1) = true then
        if ((v1.fType.length : Int) == 0) = true then
         if ((v1.fKids.length : Int) == 1) = true then
          (idx r_2_1 0) >>= fun e_13_23 =>
          (idx v1.fKids 0) >>= fun e_13_27 =>
          (impl_isValue (e_13_23, e_13_27)) >>= fun r_13_29 =>
          some (r_13_29)
         else
          some (false)
        else
         some (false)
       else
        some (false)
      else
       some (false)
     ) >>= fun v_13 =>
     some v_13
 partial_fixpoint
def M_impl_isValue (p : (List Int) × GTerm) (r : Bool) : Prop :=
 match p with
 | (ty0, v1) => FnSound Try.prog 40 [sI ty0, aTerm v1] (.bool r) []
theorem impl_isValue_s : ∀ p r, impl_isValue p = some r → M_impl_isValue p r := by
 refine impl_isValue.partial_correctness M_impl_isValue ?_
 rintro impl_isValue_f impl_isValue_ih ⟨ty0, v1⟩ r h
 show FnSound Try.prog 40 [sI ty0, aTerm v1] (.bool r) []
 refine FnSound.body0 tiok (fn := Try.f40) (code := B40) (by kernel_rfl) (by kernel_rfl) (by kernel_rfl) (by kernel_rfl) (nt := 157) (by kernel_rfl) (by kernel_rfl) (T := [(0, sI ty0), (1, aTerm v1)]) (O := []) (by kernel_rfl) (by kernel_rfl) (fun c hc => ?_)
 refine sN ?_
 refine rg hc none [some (.new 1), oN] [(0, sI ty0), (3, .ra 1 0)] [(1, bTerm v1)] trivial ?_
 refine seqQ_norm ?_
 refine sN ?_
 obtain ⟨e_1_1, hi_1_1, h⟩ := bsome h
 obtain ⟨⟨r_1_3_0, r_1_3_1⟩, hr_1_3, h⟩ := bsome h
 refine rg hc none [oN, some (.el (I e_1_1)), oN, oc (.tup [I r_1_3_0, I r_1_3_1]), oN, oN, oN, oN, oN] [(0, sI ty0), (3, .ra 1 0), (5, I r_1_3_0), (6, I r_1_3_1)] [(1, bTerm v1)] (ai (ix hi_1_1) (ai (impl_shape_s _ _ hr_1_3) (ai bod_77 (ai (oi (.tup [I r_1_3_0, I r_1_3_1])) trivial)))) ?_
 refine seqQ_norm ?_
 refine sN ?_
 obtain ⟨r_2_1, hr_2_1, h⟩ := bsome h
 refine rg hc none [oN, some (.call (.osl (List.map LI_s r_2_1)) [] 2), oN] [(3, .ra 1 0), (5, I r_1_3_0), (6, I r_1_3_1), (7, .rs 2)] [(1, bTerm v1), (2, .arr (List.map LI_s r_2_1))] (ai (impl_parts_s _ _ hr_2_1) (ai bod_78 (ai (oi (.osl (List.map LI_s r_2_1))) trivial))) ?_
 refine seqQ_norm ?_
 refine sN ?_
 refine sN ?_
 refine rg0 hc 1 [(3, .ra 1 0), (6, I r_1_3_1), (7, .rs 2), (18, I r_1_3_0)] [(1, bTerm v1), (2, .arr (List.map LI_s r_2_1))] ?_
 refine seqQ_norm ?_
 refine Wp.blockN (i := 0) (by kernel_rfl) ?_
 refine sN ?_
 refine rg0 hc 2 [(3, .ra 1 0), (6, I r_1_3_1), (7, .rs 2), (18, I r_1_3_0), (19, .bool (r_1_3_0 == 0))] [(1, bTerm v1), (2, .arr (List.map LI_s r_2_1))] ?_
 refine seqQ_norm ?_
 rcases itesome h with ⟨hb_1, h⟩ | ⟨hb_1, h⟩
 ·refine cT ((r_1_3_0 == 0)) hb_1 ?_
  refine sN ?_
  obtain ⟨v_2, hj_3, h⟩ := bsome h
  refine Wp.into (x := .normal) (mkS [(4, .bool v_2)] []) ?_ ?_
  ·replace h := hj_3
   rcases itesome h with ⟨hb_5_0, h⟩ | ⟨hb_5_0, h⟩
   ·obtain ⟨r_5_6, hr_5_6, h⟩ := bsome h
    rcases itesome h with ⟨hb_5_1, h⟩ | ⟨hb_5_1, h⟩
    ·rcases itesome h with ⟨hb_5_2, h⟩ | ⟨hb_5_2, h⟩
     ·refine rg hc none [oN, oN, oN, oN, oN, oN, oc (.bool r_5_6), oT, oN, oN, oN, some (.eqv (.no) ⟨[(32, I (v1.fType.length : Int))], [], []⟩), oN, oT, oN, oN, oN, some (.eqv (.no) ⟨[(38, I (v1.fKids.length : Int))], [], []⟩), oN, oT, oN] [(4, .bool ((v1.fKids.length : Int) == 0))] [] (ar 3 hb_5_0 (ai (impl_within_s _ _ hr_5_6) (ai bod_61 (ai (oi (.bool r_5_6)) (ai hb_5_0 (ar 3 hb_5_1 (ai (lenT (d := 32) I v1.fType) (ar 2 hb_5_1 (ar 3 hb_5_2 (ai (lenT (d := 38) GTerm_S v1.fKids) (ar 2 hb_5_2 trivial))))))))))) ?_
      obtain rfl := Option.some.inj h
      exact Into.mk
     ·refine rg hc none [oN, oN, oN, oN, oN, oN, oc (.bool r_5_6), oT, oN, oN, oN, some (.eqv (.no) ⟨[(32, I (v1.fType.length : Int))], [], []⟩), oN, oT, oN, o_, o_, o_, o_, oF, oN] [(4, .bool false)] [] (ar 3 hb_5_0 (ai (impl_within_s _ _ hr_5_6) (ai bod_61 (ai (oi (.bool r_5_6)) (ai hb_5_0 (ar 3 hb_5_1 (ai (lenT (d := 32) I v1.fType) (ar 2 hb_5_1 (ar 4 (neT hb_5_2) (ai hb_5_2 trivial)))))))))) ?_
      obtain rfl := Option.some.inj h
      exact Into.mk
    ·refine rg hc none [oN, oN, oN, oN, oN, oN, oc (.bool r_5_6), oT, oN, o_, o_, o_, o_, oF, oN, o_, o_, o_, o_, oF, oN] [(4, .bool false)] [] (ar 3 hb_5_0 (ai (impl_within_s _ _ hr_5_6) (ai bod_61 (ai (oi (.bool r_5_6)) (ai hb_5_0 (ar 4 (neT hb_5_1) (ai hb_5_1 (ar 4 (neT (rfl : false = false)) (ai (rfl : false = false) trivial))))))))) ?_
     obtain rfl := Option.some.inj h
     exact Into.mk
   ·refine rg hc none [oN, oN, oN, oN, o_, o_, o_, oF, oN, o_, o_, o_, o_, oF, oN, o_, o_, o_, o_, oF, oN] [(4, .bool false)] [] (ar 3 (neT hb_5_0) (ai hb_5_0 (ar 4 (neT (rfl : false = false)) (ai (rfl : false = false) (ar 4 (neT (rfl : false = false)) (ai (rfl : false = false) trivial)))))) ?_
    obtain rfl := Option.some.inj h
    exact Into.mk
  ·clear hj_3
   refine seqQ_norm ?_
   refine Wp.retN (by kernel_rfl) ?_
   refine blockQ_ret ?_
   refine seqQ_ret ?_
   obtain rfl := Option.some.inj h
   exact RetQ.ret (fl := [true]) (by kernel_rfl)
 ·refine cF ((r_1_3_0 == 0)) hb_1 ?_
  refine sN ?_
  refine rg0 hc 2 [(3, .ra 1 0), (6, I r_1_3_1), (7, .rs 2), (18, I r_1_3_0), (41, .bool (r_1_3_0 == 1))] [(1, bTerm v1), (2, .arr (List.map LI_s r_2_1))] ?_
  refine seqQ_norm ?_
  rcases itesome h with ⟨hb_4, h⟩ | ⟨hb_4, h⟩
  ·refine cT ((r_1_3_0 == 1)) hb_4 ?_
   refine sN ?_
   obtain ⟨v_5, hj_6, h⟩ := bsome h
   refine Wp.into (x := .normal) (mkS [(4, .bool v_5)] []) ?_ ?_
   ·replace h := hj_6
    rcases itesome h with ⟨hb_7_0, h⟩ | ⟨hb_7_0, h⟩
    ·rcases itesome h with ⟨hb_7_1, h⟩ | ⟨hb_7_1, h⟩
     ·rcases itesome h with ⟨hb_7_2, h⟩ | ⟨hb_7_2, h⟩
      ·rcases itesome h with ⟨hb_7_3, h⟩ | ⟨hb_7_3, h⟩
       ·obtain ⟨e_7_22, hi_7_22, h⟩ := bsome h
        obtain ⟨e_7_26, hi_7_26, h⟩ := bsome h
        obtain ⟨r_7_28, hr_7_28, h⟩ := bsome h
        rcases itesome h with ⟨hb_7_4, h⟩ | ⟨hb_7_4, h⟩
        ·obtain ⟨e_7_32, hi_7_32, h⟩ := bsome h
         obtain ⟨e_7_36, hi_7_36, h⟩ := bsome h
         obtain ⟨r_7_38, hr_7_38, h⟩ := bsome h
         refine rg hc ah7_0 [oN, oN, oN, oN, oN, oN, oN, oT, oN, oN, oN, some (.eqv (.no) ⟨[(54, I (v1.fType.length : Int))], [], []⟩), oN, oT, oN, oN, oN, some (.eqv (.no) ⟨[(60, I (v1.fKids.length : Int))], [], []⟩), oN, oT, oN, oN, oN, some (.el (sI e_7_22)), oN, oN, some (.el (aTerm e_7_26)), oN, oc (.bool r_7_28), oT, oN, oN, oN, some (.el (sI e_7_32)), oN, oN, some (.el (aTerm e_7_36)), oN, oc (.bool r_7_38), oT, oN] [(4, .bool r_7_38)] [] (ar 4 hb_7_0 (ar 3 hb_7_1 (ai (lenT (d := 54) I v1.fType) (ar 2 hb_7_1 (ar 3 hb_7_2 (ai (lenT (d := 60) GTerm_S v1.fKids) (ar 2 hb_7_2 (ar 2 hb_7_3 (ai (idx_own (enc := LI_s) hi_7_22) (ai hb_7_3 (ai (idx_sl (enc := LI_s) (x := sI e_7_22) hi_7_22 (eq_LI_s e_7_22)).2 (ar 3 hb_7_3 (ai (idx_sl (enc := GTerm_S) (x := aTerm e_7_26) hi_7_26 (eq_GTerm_S e_7_26)) (ar 2 hb_7_3 (ai (impl_isValue_ih _ _ hr_7_28) (ai bod_40 (ai (oi (.bool r_7_28)) (ai hb_7_3 (ar 2 hb_7_4 (ai (idx_own (enc := LI_s) hi_7_32) (ai hb_7_4 (ai (idx_sl (enc := LI_s) (x := sI e_7_32) hi_7_32 (eq_LI_s e_7_32)).2 (ar 3 hb_7_4 (ai (idx_sl (enc := GTerm_S) (x := aTerm e_7_36) hi_7_36 (eq_GTerm_S e_7_36)) (ar 2 hb_7_4 (ai (impl_isValue_ih _ _ hr_7_38) (ai bod_40 (ai (oi (.bool r_7_38)) (ai hb_7_4 trivial))))))))))))))))))))))))))))) ?_
         obtain rfl := Option.some.inj h
         exact Into.mk
        ·refine rg hc ah7_0 [oN, oN, oN, oN, oN, oN, oN, oT, oN, oN, oN, some (.eqv (.no) ⟨[(54, I (v1.fType.length : Int))], [], []⟩), oN, oT, oN, oN, oN, some (.eqv (.no) ⟨[(60, I (v1.fKids.length : Int))], [], []⟩), oN, oT, oN, oN, oN, some (.el (sI e_7_22)), oN, oN, some (.el (aTerm e_7_26)), oN, oc (.bool r_7_28), oT, oN, o_, o_, o_, o_, o_, o_, o_, o_, oF, oN] [(4, .bool false)] [] (ar 4 hb_7_0 (ar 3 hb_7_1 (ai (lenT (d := 54) I v1.fType) (ar 2 hb_7_1 (ar 3 hb_7_2 (ai (lenT (d := 60) GTerm_S v1.fKids) (ar 2 hb_7_2 (ar 2 hb_7_3 (ai (idx_own (enc := LI_s) hi_7_22) (ai hb_7_3 (ai (idx_sl (enc := LI_s) (x := sI e_7_22) hi_7_22 (eq_LI_s e_7_22)).2 (ar 3 hb_7_3 (ai (idx_sl (enc := GTerm_S) (x := aTerm e_7_26) hi_7_26 (eq_GTerm_S e_7_26)) (ar 2 hb_7_3 (ai (impl_isValue_ih _ _ hr_7_28) (ai bod_40 (ai (oi (.bool r_7_28)) (ai hb_7_3 (ar 8 (neT hb_7_4) (ai hb_7_4 trivial)))))))))))))))))))) ?_
         obtain rfl := Option.some.inj h
         exact Into.mk
       ·refine rg hc ah7_0 [oN, oN, oN, oN, oN, oN, oN, oT, oN, oN, oN, some (.eqv (.no) ⟨[(54, I (v1.fType.length : Int))], [], []⟩), oN, oT, oN, oN, oN, some (.eqv (.no) ⟨[(60, I (v1.fKids.length : Int))], [], []⟩), oN, oT, oN, o_, o_, o_, o_, o_, o_, o_, o_, oF, oN, o_, o_, o_, o_, o_, o_, o_, o_, oF, oN] [(4, .bool false)] [] (ar 4 hb_7_0 (ar 3 hb_7_1 (ai (lenT (d := 54) I v1.fType) (ar 2 hb_7_1 (ar 3 hb_7_2 (ai (lenT (d := 60) GTerm_S v1.fKids) (ar 2 hb_7_2 (ar 8 (neT hb_7_3) (ai hb_7_3 (ar 8 (neT (rfl : false = false)) (ai (rfl : false = false) trivial))))))))))) ?_
        obtain rfl := Option.some.inj h
        exact Into.mk
      ·refine rg hc ah7_0 [oN, oN, oN, oN, oN, oN, oN, oT, oN, oN, oN, some (.eqv (.no) ⟨[(54, I (v1.fType.length : Int))], [], []⟩), oN, oT, oN, o_, o_, o_, o_, oF, oN, o_, o_, o_, o_, o_, o_, o_, o_, oF, oN, o_, o_, o_, o_, o_, o_, o_, o_, oF, oN] [(4, .bool false)] [] (ar 4 hb_7_0 (ar 3 hb_7_1 (ai (lenT (d := 54) I v1.fType) (ar 2 hb_7_1 (ar 4 (neT hb_7_2) (ai hb_7_2 (ar 8 (neT (rfl : false = false)) (ai (rfl : false = false) (ar 8 (neT (rfl : false = false)) (ai (rfl : false = false) trivial)))))))))) ?_
       obtain rfl := Option.some.inj h
       exact Into.mk
     ·refine rg hc ah7_0 [oN, oN, oN, oN, oN, oN, oN, oT, oN, o_, o_, o_, o_, oF, oN, o_, o_, o_, o_, oF, oN, o_, o_, o_, o_, o_, o_, o_, o_, oF, oN, o_, o_, o_, o_, o_, o_, o_, o_, oF, oN] [(4, .bool false)] [] (ar 4 hb_7_0 (ar 4 (neT hb_7_1) (ai hb_7_1 (ar 4 (neT (rfl : false = false)) (ai (rfl : false = false) (ar 8 (neT (rfl : false = false)) (ai (rfl : false = false) (ar 8 (neT (rfl : false = false)) (ai (rfl : false = false) trivial))))))))) ?_
      obtain rfl := Option.some.inj h
      exact Into.mk
    ·refine rg hc ah7_0 [oN, oN, oN, oN, o_, o_, o_, oF, oN, o_, o_, o_, o_, oF, oN, o_, o_, o_, o_, oF, oN, o_, o_, o_, o_, o_, o_, o_, o_, oF, oN, o_, o_, o_, o_, o_, o_, o_, o_, oF, oN] [(4, .bool false)] [] (ar 3 (neT hb_7_0) (ai hb_7_0 (ar 4 (neT (rfl : false = false)) (ai (rfl : false = false) (ar 4 (neT (rfl : false = false)) (ai (rfl : false = false) (ar 8 (neT (rfl : false = false)) (ai (rfl : false = false) (ar 8 (neT (rfl : false = false)) (ai (rfl : false = false) trivial)))))))))) ?_
     obtain rfl := Option.some.inj h
     exact Into.mk
   ·clear hj_6
    refine seqQ_norm ?_
    refine Wp.retN (by kernel_rfl) ?_
    refine blockQ_ret ?_
    refine seqQ_ret ?_
    obtain rfl := Option.some.inj h
    exact RetQ.ret (fl := [true]) (by kernel_rfl)
  ·refine cF ((r_1_3_0 == 1)) hb_4 ?_
   refine sN ?_
   refine rg0 hc 2 [(3, .ra 1 0), (6, I r_1_3_1), (7, .rs 2), (83, .bool (r_1_3_0 == 2))] [(1, bTerm v1), (2, .arr (List.map LI_s r_2_1))] ?_
   refine seqQ_norm ?_
   rcases itesome h with ⟨hb_7, h⟩ | ⟨hb_7, h⟩
   ·refine cT ((r_1_3_0 == 2)) hb_7 ?_
    refine sN ?_
    refine sN ?_
    obtain ⟨v_8, hj_9, h⟩ := bsome h
    refine Wp.into (x := .normal) (mkS [(3, .ra 1 0), (7, .rs 2), (103, .bool v_8)] [(1, bTerm v1), (2, .arr (List.map LI_s r_2_1))]) ?_ ?_
    ·replace h := hj_9
     rcases itesome h with ⟨hb_9_0, h⟩ | ⟨hb_9_0, h⟩
     ·refine rg hc none [oN, oN, oN, oN, o_, o_, o_, o_, oT, oN, o_, o_, o_, o_, o_, o_, o_, o_, oT] [(3, .ra 1 0), (7, .rs 2), (103, .bool true)] [(1, bTerm v1), (2, .arr (List.map LI_s r_2_1))] (ar 4 (neF hb_9_0) (ai hb_9_0 (ar 5 nf (ai tt trivial)))) ?_
      obtain rfl := Option.some.inj h
      exact Into.mk
     ·rcases itesome h with ⟨hb_9_1, h⟩ | ⟨hb_9_1, h⟩
      ·refine rg hc none [oN, oN, oN, oN, oN, oN, some (.eqv (.no) ⟨[(91, I (v1.fKids.length : Int))], [], []⟩), oN, oF, oN, o_, o_, o_, o_, o_, o_, o_, o_, oT] [(3, .ra 1 0), (7, .rs 2), (103, .bool true)] [(1, bTerm v1), (2, .arr (List.map LI_s r_2_1))] (ar 3 hb_9_0 (ai (lenT (d := 91) GTerm_S v1.fKids) (ar 2 hb_9_0 (ar 5 (neF hb_9_1) (ai hb_9_1 trivial))))) ?_
       obtain rfl := Option.some.inj h
       exact Into.mk
      ·rcases itesome h with ⟨hb_9_2, h⟩ | ⟨hb_9_2, h⟩
       ·refine rg hc none [oN, oN, oN, oN, oN, oN, some (.eqv (.no) ⟨[(91, I (v1.fKids.length : Int))], [], []⟩), oN, oF, oN, oN, oN, oN, oN, oN, oN, oN, oT, oF] [(3, .ra 1 0), (7, .rs 2), (103, .bool (v1.fOp != 7))] [(1, bTerm v1), (2, .arr (List.map LI_s r_2_1))] (ar 3 hb_9_0 (ai (lenT (d := 91) GTerm_S v1.fKids) (ar 2 hb_9_0 (ar 4 hb_9_1 (ar 3 hb_9_2 (ai hb_9_1 (ai hb_9_2 (ai hb_9_1 trivial)))))))) ?_
        obtain rfl := Option.some.inj h
        exact Into.mk
       ·refine rg hc none [oN, oN, oN, oN, oN, oN, some (.eqv (.no) ⟨[(91, I (v1.fKids.length : Int))], [], []⟩), oN, oF, oN, oN, oN, oN, oN, o_, o_, o_, oF, oF] [(3, .ra 1 0), (7, .rs 2), (103, .bool false)] [(1, bTerm v1), (2, .arr (List.map LI_s r_2_1))] (ar 3 hb_9_0 (ai (lenT (d := 91) GTerm_S v1.fKids) (ar 2 hb_9_0 (ar 4 hb_9_1 (ar 3 (neT hb_9_2) (ai hb_9_1 (ai hb_9_2 (ai hb_9_1 trivial)))))))) ?_
        obtain rfl := Option.some.inj h
        exact Into.mk
    ·clear hj_9
     refine seqQ_norm ?_
     rcases itesome h with ⟨hb_10, h⟩ | ⟨hb_10, h⟩
     ·refine cT v_8 hb_10 ?_
      refine sN ?_
      refine rg0 hc 1 [(4, .bool false)] [] ?_
      refine seqQ_norm ?_
      refine Wp.retN (by kernel_rfl) ?_
      refine seqQ_ret ?_
      refine blockQ_ret ?_
      refine seqQ_ret ?_
      obtain rfl := Option.some.inj h
      exact RetQ.ret (fl := [true]) (by kernel_rfl)
     ·refine cF v_8 hb_10 ?_
      refine Wp.skipN (by kernel_rfl) ?_
      refine seqQ_norm ?_
      refine sN ?_
      refine rg0 hc 4 [(3, .ra 1 0), (7, .rs 2), (8, I (wr (v1.fOp - 6)))] [(1, bTerm v1), (2, .arr (List.map LI_s r_2_1))] ?_
      refine seqQ_norm ?_
      refine sN ?_
      obtain ⟨v_11, hj_12, h⟩ := bsome h
      refine Wp.into (x := .normal) (mkS [(4, .bool v_11)] []) ?_ ?_
      ·replace h := hj_12
       obtain ⟨e_12_5, hi_12_5, h⟩ := bsome h
       obtain ⟨r_12_7, hr_12_7, h⟩ := bsome h
       rcases itesome h with ⟨hb_12_0, h⟩ | ⟨hb_12_0, h⟩
       ·obtain ⟨e_12_11, hi_12_11, h⟩ := bsome h
        obtain ⟨e_12_15, hi_12_15, h⟩ := bsome h
        obtain ⟨r_12_17, hr_12_17, h⟩ := bsome h
        refine rg hc ah7_1 [oN, oN, oN, oN, oN, oN, some (.el (sI e_12_5)), oc (.bool r_12_7), oN, oN, oN, oN, some (.el (sI e_12_11)), oN, oN, some (.el (aTerm e_12_15)), oN, oc (.bool r_12_17), oT, oN] [(4, .bool r_12_17)] [] (ai (idx_own (enc := LI_s) hi_12_5) (ai (idx_sl (enc := LI_s) (x := sI e_12_5) hi_12_5 (eq_LI_s e_12_5)).2 (ai (slices_Equal_int_s _ _ hr_12_7) (ai bod_79 (ai (oi (.bool r_12_7)) (ar 3 hb_12_0 (ai (idx_own (enc := LI_s) hi_12_11) (ai hb_12_0 (ai (idx_sl (enc := LI_s) (x := sI e_12_11) hi_12_11 (eq_LI_s e_12_11)).2 (ar 3 hb_12_0 (ai (idx_sl (enc := GTerm_S) (x := aTerm e_12_15) hi_12_15 (eq_GTerm_S e_12_15)) (ar 2 hb_12_0 (ai (impl_isValue_ih _ _ hr_12_17) (ai bod_40 (ai (oi (.bool r_12_17)) (ai hb_12_0 trivial)))))))))))))))) ?_
        obtain rfl := Option.some.inj h
        exact Into.mk
       ·refine rg hc ah7_1 [oN, oN, oN, oN, oN, oN, some (.el (sI e_12_5)), oc (.bool r_12_7), oN, o_, o_, o_, o_, o_, o_, o_, o_, o_, oF, oN] [(4, .bool false)] [] (ai (idx_own (enc := LI_s) hi_12_5) (ai (idx_sl (enc := LI_s) (x := sI e_12_5) hi_12_5 (eq_LI_s e_12_5)).2 (ai (slices_Equal_int_s _ _ hr_12_7) (ai bod_79 (ai (oi (.bool r_12_7)) (ar 9 (neT hb_12_0) (ai hb_12_0 trivial))))))) ?_
        obtain rfl := Option.some.inj h
        exact Into.mk
      ·clear hj_12
       refine seqQ_norm ?_
       refine Wp.retN (by kernel_rfl) ?_
       refine blockQ_ret ?_
       refine seqQ_ret ?_
       obtain rfl := Option.some.inj h
       exact RetQ.ret (fl := [true]) (by kernel_rfl)
   ·refine cF ((r_1_3_0 == 2)) hb_7 ?_
    refine Wp.skipN (by kernel_rfl) ?_
    refine blockQ_norm ?_
    refine seqQ_norm ?_
    refine sN ?_
    obtain ⟨v_13, hj_14, h⟩ := bsome h
    refine Wp.into (x := .normal) (mkS [(4, .bool v_13)] []) ?_ ?_
    ·replace h := hj_14
     rcases itesome h with ⟨hb_13_0, h⟩ | ⟨hb_13_0, h⟩
     ·rcases itesome h with ⟨hb_13_1, h⟩ | ⟨hb_13_1, h⟩
      ·rcases itesome h with ⟨hb_13_2, h⟩ | ⟨hb_13_2, h⟩
       ·rcases itesome h with ⟨hb_13_3, h⟩ | ⟨hb_13_3, h⟩
        ·obtain ⟨e_13_23, hi_13_23, h⟩ := bsome h
         obtain ⟨e_13_27, hi_13_27, h⟩ := bsome h
         obtain ⟨r_13_29, hr_13_29, h⟩ := bsome h
         refine rg hc ah7_2 [oN, oN, oN, oN, oN, oN, oN, oN, oT, oN, oN, oN, some (.eqv (.no) ⟨[(138, I (v1.fType.length : Int))], [], []⟩), oN, oT, oN, oN, oN, some (.eqv (.no) ⟨[(144, I (v1.fKids.length : Int))], [], []⟩), oN, oT, oN, oN, oN, some (.el (sI e_13_23)), oN, oN, some (.el (aTerm e_13_27)), oN, oc (.bool r_13_29), oT, oN] [(4, .bool r_13_29)] [] (ar 5 hb_13_0 (ar 3 hb_13_1 (ai (lenT (d := 138) I v1.fType) (ar 2 hb_13_1 (ar 3 hb_13_2 (ai (lenT (d := 144) GTerm_S v1.fKids) (ar 2 hb_13_2 (ar 2 hb_13_3 (ai (idx_own (enc := LI_s) hi_13_23) (ai hb_13_3 (ai (idx_sl (enc := LI_s) (x := sI e_13_23) hi_13_23 (eq_LI_s e_13_23)).2 (ar 3 hb_13_3 (ai (idx_sl (enc := GTerm_S) (x := aTerm e_13_27) hi_13_27 (eq_GTerm_S e_13_27)) (ar 2 hb_13_3 (ai (impl_isValue_ih _ _ hr_13_29) (ai bod_40 (ai (oi (.bool r_13_29)) (ai hb_13_3 trivial)))))))))))))))))) ?_
         obtain rfl := Option.some.inj h
         exact Into.mk
        ·refine rg hc ah7_2 [oN, oN, oN, oN, oN, oN, oN, oN, oT, oN, oN, oN, some (.eqv (.no) ⟨[(138, I (v1.fType.length : Int))], [], []⟩), oN, oT, oN, oN, oN, some (.eqv (.no) ⟨[(144, I (v1.fKids.length : Int))], [], []⟩), oN, oT, oN, o_, o_, o_, o_, o_, o_, o_, o_, oF, oN] [(4, .bool false)] [] (ar 5 hb_13_0 (ar 3 hb_13_1 (ai (lenT (d := 138) I v1.fType) (ar 2 hb_13_1 (ar 3 hb_13_2 (ai (lenT (d := 144) GTerm_S v1.fKids) (ar 2 hb_13_2 (ar 8 (neT hb_13_3) (ai hb_13_3 trivial))))))))) ?_
         obtain rfl := Option.some.inj h
         exact Into.mk
       ·refine rg hc ah7_2 [oN, oN, oN, oN, oN, oN, oN, oN, oT, oN, oN, oN, some (.eqv (.no) ⟨[(138, I (v1.fType.length : Int))], [], []⟩), oN, oT, oN, o_, o_, o_, o_, oF, oN, o_, o_, o_, o_, o_, o_, o_, o_, oF, oN] [(4, .bool false)] [] (ar 5 hb_13_0 (ar 3 hb_13_1 (ai (lenT (d := 138) I v1.fType) (ar 2 hb_13_1 (ar 4 (neT hb_13_2) (ai hb_13_2 (ar 8 (neT (rfl : false = false)) (ai (rfl : false = false) trivial)))))))) ?_
        obtain rfl := Option.some.inj h
        exact Into.mk
      ·refine rg hc ah7_2 [oN, oN, oN, oN, oN, oN, oN, oN, oT, oN, o_, o_, o_, o_, oF, oN, o_, o_, o_, o_, oF, oN, o_, o_, o_, o_, o_, o_, o_, o_, oF, oN] [(4, .bool false)] [] (ar 5 hb_13_0 (ar 4 (neT hb_13_1) (ai hb_13_1 (ar 4 (neT (rfl : false = false)) (ai (rfl : false = false) (ar 8 (neT (rfl : false = false)) (ai (rfl : false = false) trivial))))))) ?_
       obtain rfl := Option.some.inj h
       exact Into.mk
     ·refine rg hc ah7_2 [oN, oN, oN, oN, o_, o_, o_, o_, oF, oN, o_, o_, o_, o_, oF, oN, o_, o_, o_, o_, oF, oN, o_, o_, o_, o_, o_, o_, o_, o_, oF, oN] [(4, .bool false)] [] (ar 4 (neT hb_13_0) (ai hb_13_0 (ar 4 (neT (rfl : false = false)) (ai (rfl : false = false) (ar 4 (neT (rfl : false = false)) (ai (rfl : false = false) (ar 8 (neT (rfl : false = false)) (ai (rfl : false = false) trivial)))))))) ?_
      obtain rfl := Option.some.inj h
      exact Into.mk
    ·clear hj_14
     refine seqQ_norm ?_
     refine Wp.retN (by kernel_rfl) ?_
     obtain rfl := Option.some.inj h
     exact RetQ.ret (fl := [true]) (by kernel_rfl)
def impl_placeOf (p : (List Int) × GTerm) : Option (Int) :=
 match p with
 | (ty0, v1) =>
  (impl_parts ty0) >>= fun r_1_1 =>
  if (v1.fOp == 4) = true then
   (idx r_1_1 0) >>= fun e_4_1 =>
   (idx v1.fKids 0) >>= fun e_4_5 =>
   (impl_placeOf (e_4_1, e_4_5)) >>= fun r_4_7 =>
   (idx r_1_1 1) >>= fun e_4_9 =>
   (impl_count e_4_9) >>= fun r_4_11 =>
   (idx r_1_1 1) >>= fun e_4_14 =>
   (idx v1.fKids 1) >>= fun e_4_18 =>
   (impl_placeOf (e_4_14, e_4_18)) >>= fun r_4_20 =>
   some (wr ((wr (r_4_7 * r_4_11)) + r_4_20))
  else
   (
    if (v1.fOp == 6) = true then
     some ((v1.fOp == 6))
    else
     some ((v1.fOp == 11))
   ) >>= fun j_3 =>
   if j_3 = true then
    (idx r_1_1 0) >>= fun e_7_1 =>
    (idx v1.fKids 0) >>= fun e_7_5 =>
    (impl_placeOf (e_7_1, e_7_5)) >>= fun r_7_7 =>
    some r_7_7
   else
    if (v1.fOp == 7) = true then
     (idx r_1_1 0) >>= fun e_9_1 =>
     (impl_count e_9_1) >>= fun r_9_3 =>
     (idx r_1_1 1) >>= fun e_9_5 =>
     (idx v1.fKids 0) >>= fun e_9_9 =>
     (impl_placeOf (e_9_5, e_9_9)) >>= fun r_9_11 =>
     some (wr (r_9_3 + r_9_11))
    else
     some v1.fN
 partial_fixpoint
def M_impl_placeOf (p : (List Int) × GTerm) (r : Int) : Prop :=
 match p with
 | (ty0, v1) => FnSound Try.prog 41 [sI ty0, aTerm v1] (I r) []
theorem impl_placeOf_s : ∀ p r, impl_placeOf p = some r → M_impl_placeOf p r := by
 refine impl_placeOf.partial_correctness M_impl_placeOf ?_
 rintro impl_placeOf_f impl_placeOf_ih ⟨ty0, v1⟩ r h
 show FnSound Try.prog 41 [sI ty0, aTerm v1] (I r) []
 refine FnSound.body0 tiok (fn := Try.f41) (code := B41) (by kernel_rfl) (by kernel_rfl) (by kernel_rfl) (by kernel_rfl) (nt := 62) (by kernel_rfl) (by kernel_rfl) (T := [(0, sI ty0), (1, aTerm v1)]) (O := []) (by kernel_rfl) (by kernel_rfl) (fun c hc => ?_)
 refine sN ?_
 refine rg hc none [some (.new 1), oN] [(0, sI ty0), (3, .ra 1 0)] [(1, bTerm v1)] trivial ?_
 refine seqQ_norm ?_
 refine sN ?_
 obtain ⟨r_1_1, hr_1_1, h⟩ := bsome h
 refine rg hc none [oN, some (.call (.osl (List.map LI_s r_1_1)) [] 2), oN] [(3, .ra 1 0), (5, .rs 2)] [(1, bTerm v1), (2, .arr (List.map LI_s r_1_1))] (ai (impl_parts_s _ _ hr_1_1) (ai bod_78 (ai (oi (.osl (List.map LI_s r_1_1))) trivial))) ?_
 refine seqQ_norm ?_
 refine sN ?_
 refine sN ?_
 refine rg0 hc 2 [(3, .ra 1 0), (5, .rs 2), (9, I v1.fOp)] [(1, bTerm v1), (2, .arr (List.map LI_s r_1_1))] ?_
 refine seqQ_norm ?_
 refine Wp.blockN (i := 0) (by kernel_rfl) ?_
 refine sN ?_
 refine rg0 hc 2 [(3, .ra 1 0), (5, .rs 2), (9, I v1.fOp), (10, .bool (v1.fOp == 4))] [(1, bTerm v1), (2, .arr (List.map LI_s r_1_1))] ?_
 refine seqQ_norm ?_
 rcases itesome h with ⟨hb_1, h⟩ | ⟨hb_1, h⟩
 ·refine cT ((v1.fOp == 4)) hb_1 ?_
  refine sN ?_
  obtain ⟨e_4_1, hi_4_1, h⟩ := bsome h
  obtain ⟨e_4_5, hi_4_5, h⟩ := bsome h
  obtain ⟨r_4_7, hr_4_7, h⟩ := bsome h
  obtain ⟨e_4_9, hi_4_9, h⟩ := bsome h
  obtain ⟨r_4_11, hr_4_11, h⟩ := bsome h
  obtain ⟨e_4_14, hi_4_14, h⟩ := bsome h
  obtain ⟨e_4_18, hi_4_18, h⟩ := bsome h
  obtain ⟨r_4_20, hr_4_20, h⟩ := bsome h
  refine rg hc (rx [[0], [1], [2], [0], [0, 3], [0, 3, 4], [0, 3, 4, 5], [7], [0], [0, 8], [0, 8, 9], [11], [12], [0], [0, 13], [0, 13, 14], [0], [0, 16], [0, 16, 17], [0, 16, 17, 18], [12, 13, 14, 15, 16, 17, 18, 19], [21], [22]]) [oN, oN, some (.el (sI e_4_1)), oN, oN, some (.el (aTerm e_4_5)), oN, oc (I r_4_7), oN, oN, some (.el (sI e_4_9)), oc (I r_4_11), oN, oN, oN, some (.el (sI e_4_14)), oN, oN, some (.el (aTerm e_4_18)), oN, oc (I r_4_20), oN, oN] [(4, I (wr ((wr (r_4_7 * r_4_11)) + r_4_20)))] [] (ai (idx_own (enc := LI_s) hi_4_1) (ai (idx_sl (enc := LI_s) (x := sI e_4_1) hi_4_1 (eq_LI_s e_4_1)).2 (ai (idx_sl (enc := GTerm_S) (x := aTerm e_4_5) hi_4_5 (eq_GTerm_S e_4_5)) (ai (impl_placeOf_ih _ _ hr_4_7) (ai bod_41 (ai (oi (I r_4_7)) (ai (idx_own (enc := LI_s) hi_4_9) (ai (idx_sl (enc := LI_s) (x := sI e_4_9) hi_4_9 (eq_LI_s e_4_9)).2 (ai (impl_count_s _ _ hr_4_11) (ai bod_76 (ai (oi (I r_4_11)) (ai (idx_own (enc := LI_s) hi_4_14) (ai (idx_sl (enc := LI_s) (x := sI e_4_14) hi_4_14 (eq_LI_s e_4_14)).2 (ai (idx_sl (enc := GTerm_S) (x := aTerm e_4_18) hi_4_18 (eq_GTerm_S e_4_18)) (ai (impl_placeOf_ih _ _ hr_4_20) (ai bod_41 (ai (oi (I r_4_20)) trivial))))))))))))))))) ?_
  refine seqQ_norm ?_
  refine Wp.retN (by kernel_rfl) ?_
  refine blockQ_ret ?_
  refine seqQ_ret ?_
  obtain rfl := Option.some.inj h
  exact RetQ.ret (fl := [true]) (by kernel_rfl)
 ·refine cF ((v1.fOp == 4)) hb_1 ?_
  refine sN ?_
  refine sN ?_
  refine rg0 hc 2 [(3, .ra 1 0), (5, .rs 2), (9, I v1.fOp), (34, .bool (v1.fOp == 6))] [(1, bTerm v1), (2, .arr (List.map LI_s r_1_1))] ?_
  refine seqQ_norm ?_
  obtain ⟨j_3, hj_4, h⟩ := bsome h
  refine Wp.into (x := .normal) (mkS [(3, .ra 1 0), (5, .rs 2), (9, I v1.fOp), (34, .bool j_3)] [(1, bTerm v1), (2, .arr (List.map LI_s r_1_1))]) ?_ ?_
  ·replace h := hj_4
   rcases itesome h with ⟨hb_2, h⟩ | ⟨hb_2, h⟩
   ·refine cT ((v1.fOp == 6)) hb_2 ?_
    refine Wp.skipN (by kernel_rfl) ?_
    obtain rfl := Option.some.inj h
    exact Into.mk
   ·refine cF ((v1.fOp == 6)) hb_2 ?_
    refine rg0 hc 2 [(3, .ra 1 0), (5, .rs 2), (9, I v1.fOp), (34, .bool (v1.fOp == 11))] [(1, bTerm v1), (2, .arr (List.map LI_s r_1_1))] ?_
    obtain rfl := Option.some.inj h
    exact Into.mk
  ·clear hj_4
   refine seqQ_norm ?_
   rcases itesome h with ⟨hb_5, h⟩ | ⟨hb_5, h⟩
   ·refine cT j_3 hb_5 ?_
    refine sN ?_
    obtain ⟨e_7_1, hi_7_1, h⟩ := bsome h
    obtain ⟨e_7_5, hi_7_5, h⟩ := bsome h
    obtain ⟨r_7_7, hr_7_7, h⟩ := bsome h
    refine rg hc (rx [[0], [1], [2], [0], [0, 3], [0, 3, 4], [0, 3, 4, 5], [7], [8]]) [oN, oN, some (.el (sI e_7_1)), oN, oN, some (.el (aTerm e_7_5)), oN, oc (I r_7_7), oN] [(4, I r_7_7)] [] (ai (idx_own (enc := LI_s) hi_7_1) (ai (idx_sl (enc := LI_s) (x := sI e_7_1) hi_7_1 (eq_LI_s e_7_1)).2 (ai (idx_sl (enc := GTerm_S) (x := aTerm e_7_5) hi_7_5 (eq_GTerm_S e_7_5)) (ai (impl_placeOf_ih _ _ hr_7_7) (ai bod_41 (ai (oi (I r_7_7)) trivial)))))) ?_
    refine seqQ_norm ?_
    refine Wp.retN (by kernel_rfl) ?_
    refine blockQ_ret ?_
    refine seqQ_ret ?_
    obtain rfl := Option.some.inj h
    exact RetQ.ret (fl := [true]) (by kernel_rfl)
   ·refine cF j_3 hb_5 ?_
    refine sN ?_
    refine rg0 hc 2 [(3, .ra 1 0), (5, .rs 2), (45, .bool (v1.fOp == 7))] [(1, bTerm v1), (2, .arr (List.map LI_s r_1_1))] ?_
    refine seqQ_norm ?_
    rcases itesome h with ⟨hb_6, h⟩ | ⟨hb_6, h⟩
    ·refine cT ((v1.fOp == 7)) hb_6 ?_
     refine sN ?_
     obtain ⟨e_9_1, hi_9_1, h⟩ := bsome h
     obtain ⟨r_9_3, hr_9_3, h⟩ := bsome h
     obtain ⟨e_9_5, hi_9_5, h⟩ := bsome h
     obtain ⟨e_9_9, hi_9_9, h⟩ := bsome h
     obtain ⟨r_9_11, hr_9_11, h⟩ := bsome h
     refine rg hc (rx [[0], [1], [2], [3], [0], [0, 4], [0, 4, 5], [0], [0, 7], [0, 7, 8], [0, 7, 8, 9], [11], [12], [13]]) [oN, oN, some (.el (sI e_9_1)), oc (I r_9_3), oN, oN, some (.el (sI e_9_5)), oN, oN, some (.el (aTerm e_9_9)), oN, oc (I r_9_11), oN, oN] [(4, I (wr (r_9_3 + r_9_11)))] [] (ai (idx_own (enc := LI_s) hi_9_1) (ai (idx_sl (enc := LI_s) (x := sI e_9_1) hi_9_1 (eq_LI_s e_9_1)).2 (ai (impl_count_s _ _ hr_9_3) (ai bod_76 (ai (oi (I r_9_3)) (ai (idx_own (enc := LI_s) hi_9_5) (ai (idx_sl (enc := LI_s) (x := sI e_9_5) hi_9_5 (eq_LI_s e_9_5)).2 (ai (idx_sl (enc := GTerm_S) (x := aTerm e_9_9) hi_9_9 (eq_GTerm_S e_9_9)) (ai (impl_placeOf_ih _ _ hr_9_11) (ai bod_41 (ai (oi (I r_9_11)) trivial))))))))))) ?_
     refine seqQ_norm ?_
     refine Wp.retN (by kernel_rfl) ?_
     refine blockQ_ret ?_
     refine seqQ_ret ?_
     obtain rfl := Option.some.inj h
     exact RetQ.ret (fl := [true]) (by kernel_rfl)
    ·refine cF ((v1.fOp == 7)) hb_6 ?_
     refine Wp.skipN (by kernel_rfl) ?_
     refine blockQ_norm ?_
     refine seqQ_norm ?_
     refine sN ?_
     refine rg0 hc 3 [(4, I v1.fN)] [] ?_
     refine seqQ_norm ?_
     refine Wp.retN (by kernel_rfl) ?_
     obtain rfl := Option.some.inj h
     exact RetQ.ret (fl := [true]) (by kernel_rfl)
def impl_PlaceOf (p : GSystem × (List Int) × GTerm) : Option (Int) :=
 match p with
 | (s0, ty1, v2) =>
  (
   (impl_CountValues (s0, ty1)) >>= fun r_1_2 =>
   if (decide (r_1_2 < 0)) = true then
    some (true)
   else
    (impl_isValue (ty1, v2)) >>= fun r_1_7 =>
    some ((!r_1_7))
  ) >>= fun v_1 =>
  if v_1 = true then
   some (-1)
  else
   (impl_placeOf (ty1, v2)) >>= fun r_3_2 =>
   some r_3_2
def M_impl_PlaceOf (p : GSystem × (List Int) × GTerm) (r : Int) : Prop :=
 match p with
 | (s0, ty1, v2) => FnSound Try.prog 14 [aSystem s0, sI ty1, aTerm v2] (I r) []
theorem impl_PlaceOf_s : ∀ p r, impl_PlaceOf p = some r → M_impl_PlaceOf p r := by
 rintro ⟨s0, ty1, v2⟩ r h
 unfold impl_PlaceOf at h
 show FnSound Try.prog 14 [aSystem s0, sI ty1, aTerm v2] (I r) []
 refine FnSound.body0 tiok (fn := Try.f14) (code := B14) (by kernel_rfl) (by kernel_rfl) (by kernel_rfl) (by kernel_rfl) (nt := 20) (by kernel_rfl) (by kernel_rfl) (T := [(0, aSystem s0), (1, sI ty1), (2, aTerm v2)]) (O := []) (by kernel_rfl) (by kernel_rfl) (fun c hc => ?_)
 refine sN ?_
 refine rg hc none [some (.new 1), some (.new 2), oN] [(1, sI ty1), (3, .ra 1 0), (5, .ra 2 0)] [(1, bSystem s0), (2, bTerm v2)] trivial ?_
 refine seqQ_norm ?_
 refine sN ?_
 refine sN ?_
 obtain ⟨v_1, hj_2, h⟩ := bsome h
 refine Wp.into (x := .normal) (mkS [(1, sI ty1), (5, .ra 2 0), (16, .bool v_1)] [(2, bTerm v2)]) ?_ ?_
 ·replace h := hj_2
  obtain ⟨r_1_2, hr_1_2, h⟩ := bsome h
  rcases itesome h with ⟨hb_1_0, h⟩ | ⟨hb_1_0, h⟩
  ·refine rg hc none [oN, oN, oc (I r_1_2), oN, oN, o_, o_, o_, o_, oT] [(1, sI ty1), (5, .ra 2 0), (16, .bool true)] [(2, bTerm v2)] (ai (impl_CountValues_s _ _ hr_1_2) (ai bod_39 (ai (oi (I r_1_2)) (ar 4 (neF hb_1_0) (ai hb_1_0 trivial))))) ?_
   obtain rfl := Option.some.inj h
   exact Into.mk
  ·obtain ⟨r_1_7, hr_1_7, h⟩ := bsome h
   refine rg hc none [oN, oN, oc (I r_1_2), oN, oN, oN, oN, oc (.bool r_1_7), oN, oF] [(1, sI ty1), (5, .ra 2 0), (16, .bool (!r_1_7))] [(2, bTerm v2)] (ai (impl_CountValues_s _ _ hr_1_2) (ai bod_39 (ai (oi (I r_1_2)) (ar 3 hb_1_0 (ai (impl_isValue_s _ _ hr_1_7) (ai bod_40 (ai (oi (.bool r_1_7)) (ar 2 hb_1_0 trivial)))))))) ?_
   obtain rfl := Option.some.inj h
   exact Into.mk
 ·clear hj_2
  refine seqQ_norm ?_
  rcases itesome h with ⟨hb_3, h⟩ | ⟨hb_3, h⟩
  ·refine cT v_1 hb_3 ?_
   refine sN ?_
   refine rg0 hc 1 [(6, I (-1))] [] ?_
   refine seqQ_norm ?_
   refine Wp.retN (by kernel_rfl) ?_
   refine seqQ_ret ?_
   obtain rfl := Option.some.inj h
   exact RetQ.ret (fl := [true]) (by kernel_rfl)
  ·refine cF v_1 hb_3 ?_
   refine Wp.skipN (by kernel_rfl) ?_
   refine seqQ_norm ?_
   refine sN ?_
   obtain ⟨r_3_2, hr_3_2, h⟩ := bsome h
   refine rg hc none [oN, oN, oc (I r_3_2), oN] [(6, I r_3_2)] [] (ai (impl_placeOf_s _ _ hr_3_2) (ai bod_41 (ai (oi (I r_3_2)) trivial))) ?_
   refine seqQ_norm ?_
   refine Wp.retN (by kernel_rfl) ?_
   obtain rfl := Option.some.inj h
   exact RetQ.ret (fl := [true]) (by kernel_rfl)
def laws_eqIntS_F1 (c : Ctx) : (Unit) ⊕ (Bool) → Exit → AState → Prop
 | .inl _ => Into c (.exit 0) (mkS [] [])
 | .inr r => RetE TIx Try.f16 [] (.bool r)
def laws_eqIntS_l0 (p : (List Int) × (List Int) × Int) : Option ((Unit) ⊕ (Bool)) :=
 match p with
 | (a0, b1, i_4) =>
  if (decide (i_4 < (a0.length : Int))) = true then
   (idx a0 i_4) >>= fun e_6_2 =>
   (idx b1 i_4) >>= fun e_6_6 =>
   if (e_6_2 != e_6_6) = true then
    some (.inr false)
   else
    laws_eqIntS_l0 (a0, b1, (wr (i_4 + 1)))
  else
   some (.inl ())
 partial_fixpoint
def M_laws_eqIntS_l0 (p : (List Int) × (List Int) × Int) (fl : (Unit) ⊕ (Bool)) : Prop :=
 match p with
 | (a0, b1, i_4) => ∀ c : Ctx, c.nt = 26 → WpL Try.prog c (cl (cl (cr (cl (cr (cr B16)))))) (laws_eqIntS_F1 c fl) (mkS [(0, sI a0), (1, sI b1), (5, I i_4)] [])
theorem laws_eqIntS_l0_s : ∀ p r, laws_eqIntS_l0 p = some r → M_laws_eqIntS_l0 p r := by
 refine laws_eqIntS_l0.partial_correctness M_laws_eqIntS_l0 ?_
 rintro laws_eqIntS_l0_f laws_eqIntS_l0_ih ⟨a0, b1, i_4⟩ r h
 intro c hc
 show WpL Try.prog c (cl (cl (cr (cl (cr (cr B16)))))) (laws_eqIntS_F1 c r) (mkS [(0, sI a0), (1, sI b1), (5, I i_4)] [])
 refine WpL.step ?_
 refine sN ?_
 refine sN ?_
 refine rg hc none [oN, oN, some (.eqv (.no) ⟨[(13, I (a0.length : Int))], [], []⟩), oN] [(0, sI a0), (1, sI b1), (5, I i_4), (14, .bool (decide (i_4 < (a0.length : Int))))] [] (ai (lenT (d := 13) I a0) trivial) ?_
 refine seqQ_norm ?_
 rcases itesome h with ⟨hb_5, h⟩ | ⟨hb_5, h⟩
 ·refine cT ((decide (i_4 < (a0.length : Int)))) hb_5 ?_
  refine Wp.skipN (by kernel_rfl) ?_
  refine seqQ_norm ?_
  refine sN ?_
  refine Wp.blockN (i := 1) (by kernel_rfl) ?_
  refine sN ?_
  obtain ⟨e_6_2, hi_6_2, h⟩ := bsome h
  obtain ⟨e_6_6, hi_6_6, h⟩ := bsome h
  refine rg hc ah7_3 [oN, oN, some (.el (I e_6_2)), oN, oN, oN, some (.el (I e_6_6)), oN, oN] [(0, sI a0), (1, sI b1), (5, I i_4), (25, .bool (e_6_2 != e_6_6))] [] (ai (ix hi_6_2) (ai (ix hi_6_6) trivial)) ?_
  refine seqQ_norm ?_
  rcases itesome h with ⟨hb_6, h⟩ | ⟨hb_6, h⟩
  ·refine cT ((e_6_2 != e_6_6)) hb_6 ?_
   refine sN ?_
   refine rg0 hc 1 [(4, .bool false)] [] ?_
   refine seqQ_norm ?_
   refine Wp.retN (by kernel_rfl) ?_
   refine blockQ_ret ?_
   refine seqQ_ret ?_
   refine loopQ_ret ?_
   obtain rfl := Option.some.inj h
   exact RetE.ret (fl := [true]) (by kernel_rfl)
  ·refine cF ((e_6_2 != e_6_6)) hb_6 ?_
   refine Wp.skipN (by kernel_rfl) ?_
   refine blockQ_norm ?_
   refine seqQ_norm ?_
   refine rg0 hc 3 [(0, sI a0), (1, sI b1), (5, I (wr (i_4 + 1)))] [] ?_
   refine loopQ_norm ?_
   exact (laws_eqIntS_l0_ih _ _ h c hc)
 ·refine cF ((decide (i_4 < (a0.length : Int)))) hb_5 ?_
  refine Wp.exitN (i := 0) (by kernel_rfl) ?_
  refine seqQ_exit ?_
  refine loopQ_exit ?_
  obtain rfl := Option.some.inj h
  exact Into.view (fun a w hv => SRx.renL [] hv (by kernel_rfl) (by kernel_rfl) (by kernel_rfl))
def laws_eqIntS (p : (List Int) × (List Int)) : Option (Bool) :=
 match p with
 | (a0, b1) =>
  if ((a0.length : Int) != (b1.length : Int)) = true then
   some false
  else
   (laws_eqIntS_l0 (a0, b1, 0)) >>= fun fl => match fl with
   | .inl () =>
    some true
   | .inr r =>
    some r
def M_laws_eqIntS (p : (List Int) × (List Int)) (r : Bool) : Prop :=
 match p with
 | (a0, b1) => FnSound Try.prog 16 [sI a0, sI b1] (.bool r) []
theorem laws_eqIntS_s : ∀ p r, laws_eqIntS p = some r → M_laws_eqIntS p r := by
 rintro ⟨a0, b1⟩ r h
 unfold laws_eqIntS at h
 show FnSound Try.prog 16 [sI a0, sI b1] (.bool r) []
 refine FnSound.body0 tiok (fn := Try.f16) (code := B16) (by kernel_rfl) (by kernel_rfl) (by kernel_rfl) (by kernel_rfl) (nt := 26) (by kernel_rfl) (by kernel_rfl) (T := [(0, sI a0), (1, sI b1)]) (O := []) (by kernel_rfl) (by kernel_rfl) (fun c hc => ?_)
 refine sN ?_
 refine rg0 hc 1 [(0, sI a0), (1, sI b1)] [] ?_
 refine seqQ_norm ?_
 refine sN ?_
 refine sN ?_
 refine rg hc none [oN, some (.eqv (.no) ⟨[(7, I (a0.length : Int))], [], []⟩), oN, some (.eqv (.no) ⟨[(9, I (b1.length : Int))], [], []⟩), oN] [(0, sI a0), (1, sI b1), (10, .bool ((a0.length : Int) != (b1.length : Int)))] [] (ai (lenT (d := 7) I a0) (ai (lenT (d := 9) I b1) trivial)) ?_
 refine seqQ_norm ?_
 rcases itesome h with ⟨hb_1, h⟩ | ⟨hb_1, h⟩
 ·refine cT (((a0.length : Int) != (b1.length : Int))) hb_1 ?_
  refine sN ?_
  refine rg0 hc 1 [(4, .bool false)] [] ?_
  refine seqQ_norm ?_
  refine Wp.retN (by kernel_rfl) ?_
  refine seqQ_ret ?_
  obtain rfl := Option.some.inj h
  exact RetQ.ret (fl := [true]) (by kernel_rfl)
 ·refine cF (((a0.length : Int) != (b1.length : Int))) hb_1 ?_
  refine Wp.skipN (by kernel_rfl) ?_
  refine seqQ_norm ?_
  refine sN ?_
  refine sN ?_
  refine rg0 hc 1 [(0, sI a0), (1, sI b1), (5, I 0)] [] ?_
  refine seqQ_norm ?_
  refine Wp.blockN (i := 0) (by kernel_rfl) ?_
  obtain ⟨fl, hl_7, h⟩ := bsome h
  have hL := laws_eqIntS_l0_s _ _ hl_7 c hc
  refine Wp.loopN (by kernel_rfl) ?_
  rcases fl with ⟨⟩ | r
  ·refine WpL.into (e := (.exit 0)) (mkS [] []) hL ?_
   refine blockQ_hit ?_
   refine seqQ_norm ?_
   refine sN ?_
   refine rg0 hc 1 [(4, .bool true)] [] ?_
   refine seqQ_norm ?_
   refine Wp.retN (by kernel_rfl) ?_
   obtain rfl := Option.some.inj h
   exact RetQ.ret (fl := [true]) (by kernel_rfl)
  ·refine WpL.mono hL ?_
   rintro _ _ ⟨rfl, hfin⟩
   refine blockQ_ret ?_
   refine seqQ_ret ?_
   obtain rfl := Option.some.inj h
   exact ⟨.inl rfl, hfin⟩
def laws_eqBoolS_F1 (c : Ctx) : (Unit) ⊕ (Bool) → Exit → AState → Prop
 | .inl _ => Into c (.exit 0) (mkS [] [])
 | .inr r => RetE TIx Try.f42 [] (.bool r)
def laws_eqBoolS_l0 (p : (List Bool) × (List Bool) × Int) : Option ((Unit) ⊕ (Bool)) :=
 match p with
 | (a0, b1, i_4) =>
  if (decide (i_4 < (a0.length : Int))) = true then
   (idx a0 i_4) >>= fun e_6_2 =>
   (idx b1 i_4) >>= fun e_6_6 =>
   if (e_6_2 == e_6_6) = true then
    laws_eqBoolS_l0 (a0, b1, (wr (i_4 + 1)))
   else
    some (.inr false)
  else
   some (.inl ())
 partial_fixpoint
def M_laws_eqBoolS_l0 (p : (List Bool) × (List Bool) × Int) (fl : (Unit) ⊕ (Bool)) : Prop :=
 match p with
 | (a0, b1, i_4) => ∀ c : Ctx, c.nt = 26 → WpL Try.prog c (cl (cl (cr (cl (cr (cr B42)))))) (laws_eqBoolS_F1 c fl) (mkS [(0, sB a0), (1, sB b1), (5, I i_4)] [])
theorem laws_eqBoolS_l0_s : ∀ p r, laws_eqBoolS_l0 p = some r → M_laws_eqBoolS_l0 p r := by
 refine laws_eqBoolS_l0.partial_correctness M_laws_eqBoolS_l0 ?_
 rintro laws_eqBoolS_l0_f laws_eqBoolS_l0_ih ⟨a0, b1, i_4⟩ r h
 intro c hc
 show WpL Try.prog c (cl (cl (cr (cl (cr (cr B42)))))) (laws_eqBoolS_F1 c r) (mkS [(0, sB a0), (1, sB b1), (5, I i_4)] [])
 refine WpL.step ?_
 refine sN ?_
 refine sN ?_
 refine rg hc none [oN, oN, some (.eqv (.no) ⟨[(13, I (a0.length : Int))], [], []⟩), oN] [(0, sB a0), (1, sB b1), (5, I i_4), (14, .bool (decide (i_4 < (a0.length : Int))))] [] (ai (lenT (d := 13) AV.bool a0) trivial) ?_
 refine seqQ_norm ?_
 rcases itesome h with ⟨hb_5, h⟩ | ⟨hb_5, h⟩
 ·refine cT ((decide (i_4 < (a0.length : Int)))) hb_5 ?_
  refine Wp.skipN (by kernel_rfl) ?_
  refine seqQ_norm ?_
  refine sN ?_
  refine Wp.blockN (i := 1) (by kernel_rfl) ?_
  refine sN ?_
  obtain ⟨e_6_2, hi_6_2, h⟩ := bsome h
  obtain ⟨e_6_6, hi_6_6, h⟩ := bsome h
  refine rg hc ah7_3 [oN, oN, some (.el (.bool e_6_2)), oN, oN, oN, some (.el (.bool e_6_6)), oN, oN] [(0, sB a0), (1, sB b1), (5, I i_4), (25, .bool (!(e_6_2 == e_6_6)))] [] (ai (idx_sl (enc := AV.bool) (x := .bool e_6_2) hi_6_2 (eq_B e_6_2)) (ai (idx_sl (enc := AV.bool) (x := .bool e_6_6) hi_6_6 (eq_B e_6_6)) trivial)) ?_
  refine seqQ_norm ?_
  rcases itesome h with ⟨hb_6, h⟩ | ⟨hb_6, h⟩
  ·refine cF ((!(e_6_2 == e_6_6))) (nF hb_6) ?_
   refine Wp.skipN (by kernel_rfl) ?_
   refine blockQ_norm ?_
   refine seqQ_norm ?_
   refine rg0 hc 3 [(0, sB a0), (1, sB b1), (5, I (wr (i_4 + 1)))] [] ?_
   refine loopQ_norm ?_
   exact (laws_eqBoolS_l0_ih _ _ h c hc)
  ·refine cT ((!(e_6_2 == e_6_6))) (nT hb_6) ?_
   refine sN ?_
   refine rg0 hc 1 [(4, .bool false)] [] ?_
   refine seqQ_norm ?_
   refine Wp.retN (by kernel_rfl) ?_
   refine blockQ_ret ?_
   refine seqQ_ret ?_
   refine loopQ_ret ?_
   obtain rfl := Option.some.inj h
   exact RetE.ret (fl := [true]) (by kernel_rfl)
 ·refine cF ((decide (i_4 < (a0.length : Int)))) hb_5 ?_
  refine Wp.exitN (i := 0) (by kernel_rfl) ?_
  refine seqQ_exit ?_
  refine loopQ_exit ?_
  obtain rfl := Option.some.inj h
  exact Into.view (fun a w hv => SRx.renL [] hv (by kernel_rfl) (by kernel_rfl) (by kernel_rfl))
def laws_eqBoolS (p : (List Bool) × (List Bool)) : Option (Bool) :=
 match p with
 | (a0, b1) =>
  if ((a0.length : Int) != (b1.length : Int)) = true then
   some false
  else
   (laws_eqBoolS_l0 (a0, b1, 0)) >>= fun fl => match fl with
   | .inl () =>
    some true
   | .inr r =>
    some r
def M_laws_eqBoolS (p : (List Bool) × (List Bool)) (r : Bool) : Prop :=
 match p with
 | (a0, b1) => FnSound Try.prog 42 [sB a0, sB b1] (.bool r) []
theorem laws_eqBoolS_s : ∀ p r, laws_eqBoolS p = some r → M_laws_eqBoolS p r := by
 rintro ⟨a0, b1⟩ r h
 unfold laws_eqBoolS at h
 show FnSound Try.prog 42 [sB a0, sB b1] (.bool r) []
 refine FnSound.body0 tiok (fn := Try.f42) (code := B42) (by kernel_rfl) (by kernel_rfl) (by kernel_rfl) (by kernel_rfl) (nt := 26) (by kernel_rfl) (by kernel_rfl) (T := [(0, sB a0), (1, sB b1)]) (O := []) (by kernel_rfl) (by kernel_rfl) (fun c hc => ?_)
 refine sN ?_
 refine rg0 hc 1 [(0, sB a0), (1, sB b1)] [] ?_
 refine seqQ_norm ?_
 refine sN ?_
 refine sN ?_
 refine rg hc none [oN, some (.eqv (.no) ⟨[(7, I (a0.length : Int))], [], []⟩), oN, some (.eqv (.no) ⟨[(9, I (b1.length : Int))], [], []⟩), oN] [(0, sB a0), (1, sB b1), (10, .bool ((a0.length : Int) != (b1.length : Int)))] [] (ai (lenT (d := 7) AV.bool a0) (ai (lenT (d := 9) AV.bool b1) trivial)) ?_
 refine seqQ_norm ?_
 rcases itesome h with ⟨hb_1, h⟩ | ⟨hb_1, h⟩
 ·refine cT (((a0.length : Int) != (b1.length : Int))) hb_1 ?_
  refine sN ?_
  refine rg0 hc 1 [(4, .bool false)] [] ?_
  refine seqQ_norm ?_
  refine Wp.retN (by kernel_rfl) ?_
  refine seqQ_ret ?_
  obtain rfl := Option.some.inj h
  exact RetQ.ret (fl := [true]) (by kernel_rfl)
 ·refine cF (((a0.length : Int) != (b1.length : Int))) hb_1 ?_
  refine Wp.skipN (by kernel_rfl) ?_
  refine seqQ_norm ?_
  refine sN ?_
  refine sN ?_
  refine rg0 hc 1 [(0, sB a0), (1, sB b1), (5, I 0)] [] ?_
  refine seqQ_norm ?_
  refine Wp.blockN (i := 0) (by kernel_rfl) ?_
  obtain ⟨fl, hl_7, h⟩ := bsome h
  have hL := laws_eqBoolS_l0_s _ _ hl_7 c hc
  refine Wp.loopN (by kernel_rfl) ?_
  rcases fl with ⟨⟩ | r
  ·refine WpL.into (e := (.exit 0)) (mkS [] []) hL ?_
   refine blockQ_hit ?_
   refine seqQ_norm ?_
   refine sN ?_
   refine rg0 hc 1 [(4, .bool true)] [] ?_
   refine seqQ_norm ?_
   refine Wp.retN (by kernel_rfl) ?_
   obtain rfl := Option.some.inj h
   exact RetQ.ret (fl := [true]) (by kernel_rfl)
  ·refine WpL.mono hL ?_
   rintro _ _ ⟨rfl, hfin⟩
   refine blockQ_ret ?_
   refine seqQ_ret ?_
   obtain rfl := Option.some.inj h
   exact ⟨.inl rfl, hfin⟩
end Go.Am
