/- Functions of the program as pure functions,and that it computes them. Printed by a program of mine (gen.py). -/
import Derived.Test.YtmcpomoofkjfcaaGreatGFIF7
set_option linter.unusedVariables false
set_option linter.unusedSimpArgs false
set_option maxRecDepth 100000
namespace Go.Am
open Go Go.Proofs
def ah8_0 : Option (List (List Nat)) := rx [[0],[0],[0],[0],[0],[0,3,4],[0,3,4,5],[0],[0],[0,7,8],[0,7,8,9],[0,2,3,4,5,6,7,8,9,10],[12],[13]]
def impl_typerfirstOk (p : GTyper × GTerm × Int × (List Int)) : Option (Int) :=
 match p with
 | (p0,t1,kid2,ty3) =>
  (idx ty3 0) >>= fun e_1_1 =>
  (impl_shape e_1_1) >>= fun (r_1_3_0,r_1_3_1) =>
  ((
   if (t1.fOp == 2) = true then
    some ((t1.fOp == 2))
   else
    ((
     if (t1.fOp == 3) = true then
      some ((kid2 == 0))
     else
      some (false)
    ) : Option (Bool)) >>= fun v_2 =>
    some (v_2)
  ) : Option (Bool)) >>= fun j_4 =>
  ((
   if j_4 = true then
    some ((0,2))
   else
    ((
     if (t1.fOp == 5) = true then
      some ((kid2 == 0))
     else
      some (false)
    ) : Option (Bool)) >>= fun v_7 =>
    ((
     if v_7 = true then
      some ((1,4))
     else
      ((
       if (t1.fOp == 8) = true then
        some ((kid2 == 0))
       else
        some (false)
      ) : Option (Bool)) >>= fun v_10 =>
      ((
       if v_10 = true then
        some ((2,5))
       else
        ((
         if (t1.fOp == 10) = true then
          some ((kid2 == 0))
         else
          some (false)
        ) : Option (Bool)) >>= fun v_13 =>
        ((
         if v_13 = true then
          some ((3,6))
         else
          ((
           if (t1.fOp == 12) = true then
            some ((kid2 == 0))
           else
            some (false)
          ) : Option (Bool)) >>= fun v_16 =>
          ((
           if v_16 = true then
            some ((4,7))
           else
            some (((-1),0))
          ) : Option (Int × Int)) >>= fun (want_19,fault_20) =>
          some ((want_19,fault_20))
        ) : Option (Int × Int)) >>= fun (want_22,fault_23) =>
        some ((want_22,fault_23))
      ) : Option (Int × Int)) >>= fun (want_25,fault_26) =>
      some ((want_25,fault_26))
    ) : Option (Int × Int)) >>= fun (want_28,fault_29) =>
    some ((want_28,fault_29))
  ) : Option (Int × Int)) >>= fun (want_31,fault_32) =>
  ((
   if (decide (want_31 ≥ 0)) = true then
    some ((r_1_3_0 != want_31))
   else
    some (false)
  ) : Option (Bool)) >>= fun v_34 =>
  if v_34 = true then
   some fault_32
  else
   ((
    if (kid2 == 0) = true then
     if (t1.fOp == 5) = true then
      (impl_Systembelow (p0.fs,1,t1.fN)) >>= fun r_16_22 =>
      some ((!r_16_22))
     else
      if (t1.fOp == 8) = true then
       (impl_Systembelow (p0.fs,1,t1.fN)) >>= fun r_16_22 =>
       some ((!r_16_22))
      else
       if (t1.fOp == 12) = true then
        (impl_Systembelow (p0.fs,1,t1.fN)) >>= fun r_16_22 =>
        some ((!r_16_22))
       else
        some (false)
    else
     some (false)
   ) : Option (Bool)) >>= fun v_37 =>
   if v_37 = true then
    some 8
   else
    some 0
def M_impl_typerfirstOk (p : GTyper × GTerm × Int × (List Int)) (r : Int) : Prop :=
 match p with
 | (p0,t1,kid2,ty3) => FnSound Tryz.prog 177 [aTyper p0,aTerm t1,I kid2,sI ty3] (I r) []
theorem impl_typerfirstOk_s : ∀ p r,impl_typerfirstOk p = some r → M_impl_typerfirstOk p r := by
 rintro ⟨p0,t1,kid2,ty3⟩ r h
 unfold impl_typerfirstOk at h
 refine b0 Tryz.f177 B177 96 [(0,aTyper p0),(1,aTerm t1),(2,I kid2),(3,sI ty3)] fun c hc => ?_
 refine rs hc none [some (.new 1),some (.new 2),oN] [(2,I kid2),(3,sI ty3),(4,.ra 1 0),(5,.ra 2 0)] [(1,bTyper p0),(2,bTerm t1)] trivial ?_
 obtain ⟨e_1_1,hi_1_1,h⟩ := bsome h
 obtain ⟨⟨r_1_3_0,r_1_3_1⟩,hr_1_3,h⟩ := bsome h
 refine rs hc none [oN,some (.el (I e_1_1)),oN,oc (.tup [I r_1_3_0,I r_1_3_1]),oN,oN,oN,oN,oN] [(2,I kid2),(4,.ra 1 0),(5,.ra 2 0),(9,I r_1_3_0)] [(1,bTyper p0),(2,bTerm t1)] (ai (ix hi_1_1) (ai (impl_shape_s _ _ hr_1_3) (ai bod_182 (ai (oi (.tup [I r_1_3_0,I r_1_3_1])) trivial)))) ?_
 refine rs0 hc 2 [(2,I kid2),(4,.ra 1 0),(5,.ra 2 0),(9,I r_1_3_0),(11,I (-1)),(12,I 0)] [(1,bTyper p0),(2,bTerm t1)] ?_
 refine sN ?_
 refine bk 0 ?_
 refine sN ?_
 refine rs0 hc 4 [(2,I kid2),(4,.ra 1 0),(5,.ra 2 0),(9,I r_1_3_0),(11,I (-1)),(12,I 0),(20,.bool (t1.fOp == 2))] [(1,bTyper p0),(2,bTerm t1)] ?_
 obtain ⟨j_4,hj_5,h⟩ := bsome h
 refine Wp.into (x := .normal) (mkS [(2,I kid2),(4,.ra 1 0),(5,.ra 2 0),(9,I r_1_3_0),(11,I (-1)),(12,I 0),(20,.bool j_4)] [(1,bTyper p0),(2,bTerm t1)]) ?_ ?_
 ·replace h := hj_5
  rcases is h with ⟨hb_1,h⟩ | ⟨hb_1,h⟩
  ·refine cT ((t1.fOp == 2)) hb_1 ?_
   refine sk ?_
   obtain rfl := os h
   exact Into.mk
  refine cF ((t1.fOp == 2)) hb_1 ?_
  obtain ⟨v_2,hj_3,h⟩ := bsome h
  refine Wp.into (x := .normal) (mkS [(2,I kid2),(4,.ra 1 0),(5,.ra 2 0),(9,I r_1_3_0),(11,I (-1)),(12,I 0),(20,.bool v_2)] [(1,bTyper p0),(2,bTerm t1)]) ?_ ?_
  ·replace h := hj_3
   rcases is h with ⟨hb_4_0,h⟩ | ⟨hb_4_0,h⟩
   ·refine rg hc none [oN,oN,oN,oN,oN,oN,oT,oN] [(2,I kid2),(4,.ra 1 0),(5,.ra 2 0),(9,I r_1_3_0),(11,I (-1)),(12,I 0),(20,.bool (kid2 == 0))] [(1,bTyper p0),(2,bTerm t1)] (ar 3 hb_4_0 trivial) ?_
    obtain rfl := os h
    exact Into.mk
   refine rg hc none [oN,oN,oN,oN,o_,o_,oF,oN] [(2,I kid2),(4,.ra 1 0),(5,.ra 2 0),(9,I r_1_3_0),(11,I (-1)),(12,I 0),(20,.bool false)] [(1,bTyper p0),(2,bTerm t1)] (ar 2 (neT hb_4_0) (ai hb_4_0 trivial)) ?_
   obtain rfl := os h
   exact Into.mk
  clear hj_3
  obtain rfl := os h
  exact Into.mk
 clear hj_5
 obtain ⟨⟨want_31,fault_32⟩,hj_33,h⟩ := bsome h
 refine Wp.into (x := .normal) (mkS [(2,I kid2),(4,.ra 1 0),(5,.ra 2 0),(9,I r_1_3_0),(11,I want_31),(12,I fault_32)] [(1,bTyper p0),(2,bTerm t1)]) ?_ ?_
 ·replace h := hj_33
  rcases is h with ⟨hb_6,h⟩ | ⟨hb_6,h⟩
  ·refine cT j_4 hb_6 ?_
   refine rg0 hc 2 [(2,I kid2),(4,.ra 1 0),(5,.ra 2 0),(9,I r_1_3_0),(11,I 0),(12,I 2)] [(1,bTyper p0),(2,bTerm t1)] ?_
   obtain ⟨rfl,rfl⟩ := Prod.mk.inj (Option.some.inj h)
   exact Into.mk
  refine cF j_4 hb_6 ?_
  refine sN ?_
  obtain ⟨v_7,hj_8,h⟩ := bsome h
  refine Wp.into (x := .normal) (mkS [(2,I kid2),(4,.ra 1 0),(5,.ra 2 0),(9,I r_1_3_0),(11,I (-1)),(12,I 0),(31,.bool v_7)] [(1,bTyper p0),(2,bTerm t1)]) ?_ ?_
  ·replace h := hj_8
   rcases is h with ⟨hb_6_0,h⟩ | ⟨hb_6_0,h⟩
   ·refine rg hc none [oN,oN,oN,oN,oN,oN,oT,oN] [(2,I kid2),(4,.ra 1 0),(5,.ra 2 0),(9,I r_1_3_0),(11,I (-1)),(12,I 0),(31,.bool (kid2 == 0))] [(1,bTyper p0),(2,bTerm t1)] (ar 3 hb_6_0 trivial) ?_
    obtain rfl := os h
    exact Into.mk
   refine rg hc none [oN,oN,oN,oN,o_,o_,oF,oN] [(2,I kid2),(4,.ra 1 0),(5,.ra 2 0),(9,I r_1_3_0),(11,I (-1)),(12,I 0),(31,.bool false)] [(1,bTyper p0),(2,bTerm t1)] (ar 2 (neT hb_6_0) (ai hb_6_0 trivial)) ?_
   obtain rfl := os h
   exact Into.mk
  clear hj_8
  obtain ⟨⟨want_28,fault_29⟩,hj_30,h⟩ := bsome h
  refine Wp.into (x := .normal) (mkS [(2,I kid2),(4,.ra 1 0),(5,.ra 2 0),(9,I r_1_3_0),(11,I want_28),(12,I fault_29)] [(1,bTyper p0),(2,bTerm t1)]) ?_ ?_
  ·replace h := hj_30
   rcases is h with ⟨hb_9,h⟩ | ⟨hb_9,h⟩
   ·refine cT v_7 hb_9 ?_
    refine rg0 hc 2 [(2,I kid2),(4,.ra 1 0),(5,.ra 2 0),(9,I r_1_3_0),(11,I 1),(12,I 4)] [(1,bTyper p0),(2,bTerm t1)] ?_
    obtain ⟨rfl,rfl⟩ := Prod.mk.inj (Option.some.inj h)
    exact Into.mk
   refine cF v_7 hb_9 ?_
   refine sN ?_
   obtain ⟨v_10,hj_11,h⟩ := bsome h
   refine Wp.into (x := .normal) (mkS [(2,I kid2),(4,.ra 1 0),(5,.ra 2 0),(9,I r_1_3_0),(11,I (-1)),(12,I 0),(39,.bool v_10)] [(1,bTyper p0),(2,bTerm t1)]) ?_ ?_
   ·replace h := hj_11
    rcases is h with ⟨hb_8_0,h⟩ | ⟨hb_8_0,h⟩
    ·refine rg hc none [oN,oN,oN,oN,oN,oN,oT,oN] [(2,I kid2),(4,.ra 1 0),(5,.ra 2 0),(9,I r_1_3_0),(11,I (-1)),(12,I 0),(39,.bool (kid2 == 0))] [(1,bTyper p0),(2,bTerm t1)] (ar 3 hb_8_0 trivial) ?_
     obtain rfl := os h
     exact Into.mk
    refine rg hc none [oN,oN,oN,oN,o_,o_,oF,oN] [(2,I kid2),(4,.ra 1 0),(5,.ra 2 0),(9,I r_1_3_0),(11,I (-1)),(12,I 0),(39,.bool false)] [(1,bTyper p0),(2,bTerm t1)] (ar 2 (neT hb_8_0) (ai hb_8_0 trivial)) ?_
    obtain rfl := os h
    exact Into.mk
   clear hj_11
   obtain ⟨⟨want_25,fault_26⟩,hj_27,h⟩ := bsome h
   refine Wp.into (x := .normal) (mkS [(2,I kid2),(4,.ra 1 0),(5,.ra 2 0),(9,I r_1_3_0),(11,I want_25),(12,I fault_26)] [(1,bTyper p0),(2,bTerm t1)]) ?_ ?_
   ·replace h := hj_27
    rcases is h with ⟨hb_12,h⟩ | ⟨hb_12,h⟩
    ·refine cT v_10 hb_12 ?_
     refine rg0 hc 2 [(2,I kid2),(4,.ra 1 0),(5,.ra 2 0),(9,I r_1_3_0),(11,I 2),(12,I 5)] [(1,bTyper p0),(2,bTerm t1)] ?_
     obtain ⟨rfl,rfl⟩ := Prod.mk.inj (Option.some.inj h)
     exact Into.mk
    refine cF v_10 hb_12 ?_
    refine sN ?_
    obtain ⟨v_13,hj_14,h⟩ := bsome h
    refine Wp.into (x := .normal) (mkS [(2,I kid2),(4,.ra 1 0),(5,.ra 2 0),(9,I r_1_3_0),(11,I (-1)),(12,I 0),(47,.bool v_13)] [(1,bTyper p0),(2,bTerm t1)]) ?_ ?_
    ·replace h := hj_14
     rcases is h with ⟨hb_10_0,h⟩ | ⟨hb_10_0,h⟩
     ·refine rg hc none [oN,oN,oN,oN,oN,oN,oT,oN] [(2,I kid2),(4,.ra 1 0),(5,.ra 2 0),(9,I r_1_3_0),(11,I (-1)),(12,I 0),(47,.bool (kid2 == 0))] [(1,bTyper p0),(2,bTerm t1)] (ar 3 hb_10_0 trivial) ?_
      obtain rfl := os h
      exact Into.mk
     refine rg hc none [oN,oN,oN,oN,o_,o_,oF,oN] [(2,I kid2),(4,.ra 1 0),(5,.ra 2 0),(9,I r_1_3_0),(11,I (-1)),(12,I 0),(47,.bool false)] [(1,bTyper p0),(2,bTerm t1)] (ar 2 (neT hb_10_0) (ai hb_10_0 trivial)) ?_
     obtain rfl := os h
     exact Into.mk
    clear hj_14
    obtain ⟨⟨want_22,fault_23⟩,hj_24,h⟩ := bsome h
    refine Wp.into (x := .normal) (mkS [(2,I kid2),(4,.ra 1 0),(5,.ra 2 0),(9,I r_1_3_0),(11,I want_22),(12,I fault_23)] [(1,bTyper p0),(2,bTerm t1)]) ?_ ?_
    ·replace h := hj_24
     rcases is h with ⟨hb_15,h⟩ | ⟨hb_15,h⟩
     ·refine cT v_13 hb_15 ?_
      refine rg0 hc 2 [(2,I kid2),(4,.ra 1 0),(5,.ra 2 0),(9,I r_1_3_0),(11,I 3),(12,I 6)] [(1,bTyper p0),(2,bTerm t1)] ?_
      obtain ⟨rfl,rfl⟩ := Prod.mk.inj (Option.some.inj h)
      exact Into.mk
     refine cF v_13 hb_15 ?_
     refine sN ?_
     obtain ⟨v_16,hj_17,h⟩ := bsome h
     refine Wp.into (x := .normal) (mkS [(2,I kid2),(4,.ra 1 0),(5,.ra 2 0),(9,I r_1_3_0),(11,I (-1)),(12,I 0),(55,.bool v_16)] [(1,bTyper p0),(2,bTerm t1)]) ?_ ?_
     ·replace h := hj_17
      rcases is h with ⟨hb_12_0,h⟩ | ⟨hb_12_0,h⟩
      ·refine rg hc none [oN,oN,oN,oN,oN,oN,oT,oN] [(2,I kid2),(4,.ra 1 0),(5,.ra 2 0),(9,I r_1_3_0),(11,I (-1)),(12,I 0),(55,.bool (kid2 == 0))] [(1,bTyper p0),(2,bTerm t1)] (ar 3 hb_12_0 trivial) ?_
       obtain rfl := os h
       exact Into.mk
      refine rg hc none [oN,oN,oN,oN,o_,o_,oF,oN] [(2,I kid2),(4,.ra 1 0),(5,.ra 2 0),(9,I r_1_3_0),(11,I (-1)),(12,I 0),(55,.bool false)] [(1,bTyper p0),(2,bTerm t1)] (ar 2 (neT hb_12_0) (ai hb_12_0 trivial)) ?_
      obtain rfl := os h
      exact Into.mk
     clear hj_17
     obtain ⟨⟨want_19,fault_20⟩,hj_21,h⟩ := bsome h
     refine Wp.into (x := .normal) (mkS [(2,I kid2),(4,.ra 1 0),(5,.ra 2 0),(9,I r_1_3_0),(11,I want_19),(12,I fault_20)] [(1,bTyper p0),(2,bTerm t1)]) ?_ ?_
     ·replace h := hj_21
      rcases is h with ⟨hb_18,h⟩ | ⟨hb_18,h⟩
      ·refine cT v_16 hb_18 ?_
       refine rg0 hc 2 [(2,I kid2),(4,.ra 1 0),(5,.ra 2 0),(9,I r_1_3_0),(11,I 4),(12,I 7)] [(1,bTyper p0),(2,bTerm t1)] ?_
       obtain ⟨rfl,rfl⟩ := Prod.mk.inj (Option.some.inj h)
       exact Into.mk
      refine cF v_16 hb_18 ?_
      refine sk ?_
      obtain ⟨rfl,rfl⟩ := Prod.mk.inj (Option.some.inj h)
      exact iv []
     clear hj_21
     obtain ⟨rfl,rfl⟩ := Prod.mk.inj (Option.some.inj h)
     exact Into.mk
    clear hj_24
    obtain ⟨rfl,rfl⟩ := Prod.mk.inj (Option.some.inj h)
    exact Into.mk
   clear hj_27
   obtain ⟨rfl,rfl⟩ := Prod.mk.inj (Option.some.inj h)
   exact Into.mk
  clear hj_30
  obtain ⟨rfl,rfl⟩ := Prod.mk.inj (Option.some.inj h)
  exact Into.mk
 clear hj_33
 refine sN ?_
 refine sN ?_
 obtain ⟨v_34,hj_35,h⟩ := bsome h
 refine Wp.into (x := .normal) (mkS [(2,I kid2),(4,.ra 1 0),(5,.ra 2 0),(12,I fault_32),(69,.bool v_34)] [(1,bTyper p0),(2,bTerm t1)]) ?_ ?_
 ·replace h := hj_35
  rcases is h with ⟨hb_14_0,h⟩ | ⟨hb_14_0,h⟩
  ·refine rg hc none [oN,oN,oN,oN,oN,oN,oT] [(2,I kid2),(4,.ra 1 0),(5,.ra 2 0),(12,I fault_32),(69,.bool (r_1_3_0 != want_31))] [(1,bTyper p0),(2,bTerm t1)] (ar 4 hb_14_0 trivial) ?_
   obtain rfl := os h
   exact Into.mk
  refine rg hc none [oN,oN,oN,o_,o_,o_,oF] [(2,I kid2),(4,.ra 1 0),(5,.ra 2 0),(12,I fault_32),(69,.bool false)] [(1,bTyper p0),(2,bTerm t1)] (ar 3 (neT hb_14_0) (ai hb_14_0 trivial)) ?_
  obtain rfl := os h
  exact Into.mk
 clear hj_35
 rcases is h with ⟨hb_36,h⟩ | ⟨hb_36,h⟩
 ·refine cT v_34 hb_36 ?_
  refine rs0 hc 2 [(8,I fault_32)] [] ?_
  refine rt ?_
  obtain rfl := os h
  exact rq [true]
 refine cF v_34 hb_36 ?_
 refine sk ?_
 refine sN ?_
 refine sN ?_
 obtain ⟨v_37,hj_38,h⟩ := bsome h
 refine Wp.into (x := .normal) (mkS [(95,.bool v_37)] []) ?_ ?_
 ·replace h := hj_38
  rcases is h with ⟨hb_16_0,h⟩ | ⟨hb_16_0,h⟩
  ·rcases is h with ⟨hb_16_1,h⟩ | ⟨hb_16_1,h⟩
   ·obtain ⟨r_16_22,hr_16_22,h⟩ := bsome h
    refine rg hc none [oN,oN,oN,oN,oN,oN,oN,o_,o_,o_,oT,oN,o_,o_,o_,oT,oT,oN,oN,oN,oN,oN,oc (.bool r_16_22),oN,oT] [(95,.bool (!r_16_22))] [] (ar 4 hb_16_0 (ar 3 (neF hb_16_1) (ai hb_16_0 (ai hb_16_1 (ai hb_16_0 (ar 3 nf (ai hb_16_0 (ai tt (ai hb_16_0 (ar 5 tt (ai (impl_Systembelow_s _ _ hr_16_22) (ai bod_86 (ai (oi (.bool r_16_22)) (ar 2 tt trivial)))))))))))))) ?_
    obtain rfl := os h
    exact Into.mk
   rcases is h with ⟨hb_16_2,h⟩ | ⟨hb_16_2,h⟩
   ·obtain ⟨r_16_22,hr_16_22,h⟩ := bsome h
    refine rg hc none [oN,oN,oN,oN,oN,oN,oN,oN,oN,oN,oF,oN,o_,o_,o_,oT,oT,oN,oN,oN,oN,oN,oc (.bool r_16_22),oN,oT] [(95,.bool (!r_16_22))] [] (ar 4 hb_16_0 (ar 3 hb_16_1 (ai hb_16_0 (ai hb_16_1 (ai hb_16_0 (ar 3 (neF hb_16_2) (ai hb_16_0 (ai hb_16_2 (ai hb_16_0 (ar 5 tt (ai (impl_Systembelow_s _ _ hr_16_22) (ai bod_86 (ai (oi (.bool r_16_22)) (ar 2 tt trivial)))))))))))))) ?_
    obtain rfl := os h
    exact Into.mk
   rcases is h with ⟨hb_16_3,h⟩ | ⟨hb_16_3,h⟩
   ·obtain ⟨r_16_22,hr_16_22,h⟩ := bsome h
    refine rg hc none [oN,oN,oN,oN,oN,oN,oN,oN,oN,oN,oF,oN,oN,oN,oN,oF,oT,oN,oN,oN,oN,oN,oc (.bool r_16_22),oN,oT] [(95,.bool (!r_16_22))] [] (ar 4 hb_16_0 (ar 3 hb_16_1 (ai hb_16_0 (ai hb_16_1 (ai hb_16_0 (ar 3 hb_16_2 (ai hb_16_0 (ai hb_16_2 (ai hb_16_0 (ar 5 hb_16_3 (ai (impl_Systembelow_s _ _ hr_16_22) (ai bod_86 (ai (oi (.bool r_16_22)) (ar 2 hb_16_3 trivial)))))))))))))) ?_
    obtain rfl := os h
    exact Into.mk
   refine rg hc none [oN,oN,oN,oN,oN,oN,oN,oN,oN,oN,oF,oN,oN,oN,oN,oF,oT,oN,o_,o_,o_,o_,o_,o_,oF] [(95,.bool false)] [] (ar 4 hb_16_0 (ar 3 hb_16_1 (ai hb_16_0 (ai hb_16_1 (ai hb_16_0 (ar 3 hb_16_2 (ai hb_16_0 (ai hb_16_2 (ai hb_16_0 (ar 6 (neT hb_16_3) (ai hb_16_3 trivial))))))))))) ?_
   obtain rfl := os h
   exact Into.mk
  refine rg hc none [oN,oN,oN,o_,o_,o_,o_,o_,o_,o_,o_,o_,o_,o_,o_,o_,oF,oN,o_,o_,o_,o_,o_,o_,oF] [(95,.bool false)] [] (ar 7 (neT hb_16_0) (ai hb_16_0 (ar 6 (neT (rfl : false = false)) (ai (rfl : false = false) trivial)))) ?_
  obtain rfl := os h
  exact Into.mk
 clear hj_38
 rcases is h with ⟨hb_39,h⟩ | ⟨hb_39,h⟩
 ·refine cT v_37 hb_39 ?_
  refine rs0 hc 1 [(8,I 8)] [] ?_
  refine rt ?_
  obtain rfl := os h
  exact rq [true]
 refine cF v_37 hb_39 ?_
 refine sk ?_
 refine rs0 hc 1 [(8,I 0)] [] ?_
 refine rt ?_
 obtain rfl := os h
 exact rq [true]
def slices_Equal_int_F1 (c : Ctx) : (Unit) ⊕ (Bool) → Exit → AState → Prop
 | .inl _ => Into c (.exit 0) (mkS [] [])
 | .inr r => RetE TIx Tryz.f84 [] (.bool r)
def slices_Equal_int_l0 (p : (List Int) × (List Int) × Int) : Option ((Unit) ⊕ (Bool)) :=
 match p with
 | (s10,s21,w_4) =>
  if (decide (w_4 < (s10.length : Int))) = true then
   (idx s10 w_4) >>= fun e_6_2 =>
   (idx s21 w_4) >>= fun e_6_6 =>
   if (e_6_2 != e_6_6) = true then
    some (.inr false)
   else
    slices_Equal_int_l0 (s10,s21,(wr (w_4 + 1)))
  else
   some (.inl ())
 partial_fixpoint
def M_slices_Equal_int_l0 (p : (List Int) × (List Int) × Int) (fl : (Unit) ⊕ (Bool)) : Prop :=
 match p with
 | (s10,s21,w_4) => ∀ c : Ctx,c.nt = 26 → WpL Tryz.prog c (cl (cl (cr (cl (cr (cr B84)))))) (slices_Equal_int_F1 c fl) (mkS [(0,sI s10),(1,sI s21),(12,I (s10.length : Int)),(13,I w_4)] [])
theorem slices_Equal_int_l0_s : ∀ p r,slices_Equal_int_l0 p = some r → M_slices_Equal_int_l0 p r := by
 refine slices_Equal_int_l0.partial_correctness M_slices_Equal_int_l0 ?_
 rintro slices_Equal_int_l0_f slices_Equal_int_l0_ih ⟨s10,s21,w_4⟩ r h
 intro c hc
 refine WpL.step ?_
 refine rs0 hc 1 [(0,sI s10),(1,sI s21),(12,I (s10.length : Int)),(13,I w_4),(14,.bool (decide (w_4 < (s10.length : Int))))] [] ?_
 refine sN ?_
 rcases is h with ⟨hb_5,h⟩ | ⟨hb_5,h⟩
 ·refine cT ((decide (w_4 < (s10.length : Int)))) hb_5 ?_
  refine sk ?_
  refine sN ?_
  refine bk 1 ?_
  refine rs0 hc 2 [(0,sI s10),(1,sI s21),(5,I w_4),(12,I (s10.length : Int)),(13,I w_4)] [] ?_
  obtain ⟨e_6_2,hi_6_2,h⟩ := bsome h
  obtain ⟨e_6_6,hi_6_6,h⟩ := bsome h
  refine rs hc (rx [[0],[0],[2],[3],[0],[0],[0,4,5],[0,4,5,6],[8]]) [oN,oN,some (.el (I e_6_2)),oN,oN,oN,some (.el (I e_6_6)),oN,oN] [(0,sI s10),(1,sI s21),(12,I (s10.length : Int)),(13,I w_4),(24,.bool (e_6_2 != e_6_6))] [] (ai (ix hi_6_2) (ai (ix hi_6_6) trivial)) ?_
  rcases is h with ⟨hb_6,h⟩ | ⟨hb_6,h⟩
  ·refine cT ((e_6_2 != e_6_6)) hb_6 ?_
   refine rs0 hc 1 [(4,.bool false)] [] ?_
   refine rt ?_
   obtain rfl := os h
   exact re [true]
  refine cF ((e_6_2 != e_6_6)) hb_6 ?_
  refine sk ?_
  refine rg0 hc 2 [(0,sI s10),(1,sI s21),(12,I (s10.length : Int)),(13,I (wr (w_4 + 1)))] [] ?_
  refine loopQ_norm ?_
  exact (slices_Equal_int_l0_ih _ _ h c hc)
 refine cF ((decide (w_4 < (s10.length : Int)))) hb_5 ?_
 refine xt 0 ?_
 refine seqQ_exit ?_
 refine loopQ_exit ?_
 obtain rfl := os h
 exact iv []
def slices_Equal_int (p : (List Int) × (List Int)) : Option (Bool) :=
 match p with
 | (s10,s21) =>
  if ((s10.length : Int) != (s21.length : Int)) = true then
   some false
  else
   (slices_Equal_int_l0 (s10,s21,0)) >>= fun fl => match fl with
   | .inl () =>
    some true
   | .inr r =>
    some r
def M_slices_Equal_int (p : (List Int) × (List Int)) (r : Bool) : Prop :=
 match p with
 | (s10,s21) => FnSound Tryz.prog 84 [sI s10,sI s21] (.bool r) []
theorem slices_Equal_int_s : ∀ p r,slices_Equal_int p = some r → M_slices_Equal_int p r := by
 rintro ⟨s10,s21⟩ r h
 unfold slices_Equal_int at h
 refine b0 Tryz.f84 B84 26 [(0,sI s10),(1,sI s21)] fun c hc => ?_
 refine rs0 hc 1 [(0,sI s10),(1,sI s21)] [] ?_
 refine sN ?_
 refine rs hc none [oN,some (.eqv (.no) ⟨[(7,I (s10.length : Int))],[],[]⟩),oN,some (.eqv (.no) ⟨[(9,I (s21.length : Int))],[],[]⟩),oN] [(0,sI s10),(1,sI s21),(10,.bool ((s10.length : Int) != (s21.length : Int)))] [] (ai (lenT (d := 7) I s10) (ai (lenT (d := 9) I s21) trivial)) ?_
 rcases is h with ⟨hb_1,h⟩ | ⟨hb_1,h⟩
 ·refine cT (((s10.length : Int) != (s21.length : Int))) hb_1 ?_
  refine rs0 hc 1 [(4,.bool false)] [] ?_
  refine rt ?_
  obtain rfl := os h
  exact rq [true]
 refine cF (((s10.length : Int) != (s21.length : Int))) hb_1 ?_
 refine sk ?_
 refine sN ?_
 refine rs hc none [oN,some (.eqv (.no) ⟨[(12,I (s10.length : Int))],[],[]⟩),oN] [(0,sI s10),(1,sI s21),(12,I (s10.length : Int)),(13,I 0)] [] (ai (lenT (d := 12) I s10) trivial) ?_
 refine bk 0 ?_
 obtain ⟨fl,hl_7,h⟩ := bsome h
 have hL := slices_Equal_int_l0_s _ _ hl_7 c hc
 refine lp ?_
 rcases fl with ⟨⟩ | r
 ·refine WpL.into (e := (.exit 0)) (mkS [] []) hL ?_
  refine blockQ_hit ?_
  refine rs0 hc 1 [(4,.bool true)] [] ?_
  refine rt ?_
  obtain rfl := os h
  exact rq [true]
 refine WpL.mono hL ?_
 rintro _ _ ⟨rfl,hfin⟩
 obtain rfl := os h
 exact ⟨.inl rfl,hfin⟩
def slices_Clone_int (s0 : (List Int)) : Option ((List Int)) :=
  (fits (([] : List Int).length + s0.length) 8) >>= fun _ =>
  some s0
def M_slices_Clone_int (s0 : (List Int)) (r : (List Int)) : Prop :=
 FnSound Tryz.prog 77 [sI s0] (oI r) []
theorem slices_Clone_int_s : ∀ p r,slices_Clone_int p = some r → M_slices_Clone_int p r := by
 rintro s0 r h
 unfold slices_Clone_int at h
 refine b0 Tryz.f77 B77 8 [(0,sI s0)] fun c hc => ?_
 refine rs0 hc 1 [(0,sI s0)] [] ?_
 refine sN ?_
 refine rs0 hc 2 [(0,sI s0),(4,.nilq (List.map I s0))] [] ?_
 refine Wp.condNil (xs := List.map I s0) (by kernel_rfl) (by kernel_rfl) (fun hn => ?_) ?_
 ·replace hn := List.map_eq_nil_iff.1 hn
  replace h : (some []) = some r := by rw [hn] at h; simpa [fits,chk] using h
  refine rs0 hc 1 [(2,.nils)] [] ?_
  refine rt ?_
  obtain rfl := os h
  exact rq [true]
 refine sk ?_
 obtain ⟨_,hk_3_2,h⟩ := bsome h
 refine rs hc none [some (.mk 1 true),oN,some (.eqv (.mk 2 true) ⟨[(7,.rs 2)],[(2,some (rI s0)),(1,none)],[2]⟩),oN] [(2,.rs 2)] [(2,rI s0)] (ai (congrArg (fun z => (⟨[(7,.rs 2)],[(2,some (.arr z)),(1,none)],[2]⟩ : Wr)) (List.nil_append _ : [] ++ (List.map I s0) = List.map I s0)) (ai (app_ob (enc1 := I) (enc2 := I) (e1 := []) (e2 := s0) (sz := 1) ek_I ek_I hk_3_2) trivial)) ?_
 refine rt ?_
 obtain rfl := os h
 exact rq [true]
def impl_typerboth_Kimpl_Systemplus_F1 (c : Ctx) : (List Int) → Exit → AState → Prop
 | out_5 => Into c (.exit 0) (mkS [(9,.rs 2)] [(2,rI out_5)])
def impl_typerboth_Kimpl_Systemplus_l0 (p : GSystem × (List Int) × (List Int) × (List Int) × Int) : Option ((List Int)) :=
 match p with
 | (clo1_0,a2,b3,out_2,w_3) =>
  if (decide (w_3 < (a2.length : Int))) = true then
   (idx a2 w_3) >>= fun e_5_5 =>
   (idx b3 w_3) >>= fun e_5_9 =>
   (impl_Systemplus (clo1_0,e_5_5,e_5_9)) >>= fun r_5_11 =>
   (idx out_2 w_3) >>= fun e_5_12 =>
   impl_typerboth_Kimpl_Systemplus_l0 (clo1_0,a2,b3,(List.set out_2 (Int.toNat w_3) r_5_11),(wr (w_3 + 1)))
  else
   some (out_2)
 partial_fixpoint
def M_impl_typerboth_Kimpl_Systemplus_l0 (p : GSystem × (List Int) × (List Int) × (List Int) × Int) (fl : (List Int)) : Prop :=
 match p with
 | (clo1_0,a2,b3,out_2,w_3) => ∀ c : Ctx,c.nt = 34 → WpL Tryz.prog c (cl (cl (cr (cl (cr (cr B244)))))) (impl_typerboth_Kimpl_Systemplus_F1 c fl) (mkS [(1,.fnb 169 [aSystem clo1_0]),(2,sI a2),(3,sI b3),(9,.rs 2),(15,I (a2.length : Int)),(16,I w_3)] [(2,rI out_2)])
theorem impl_typerboth_Kimpl_Systemplus_l0_s : ∀ p r,impl_typerboth_Kimpl_Systemplus_l0 p = some r → M_impl_typerboth_Kimpl_Systemplus_l0 p r := by
 refine impl_typerboth_Kimpl_Systemplus_l0.partial_correctness M_impl_typerboth_Kimpl_Systemplus_l0 ?_
 rintro impl_typerboth_Kimpl_Systemplus_l0_f impl_typerboth_Kimpl_Systemplus_l0_ih ⟨clo1_0,a2,b3,out_2,w_3⟩ r h
 intro c hc
 refine WpL.step ?_
 refine rs0 hc 1 [(1,.fnb 169 [aSystem clo1_0]),(2,sI a2),(3,sI b3),(9,.rs 2),(15,I (a2.length : Int)),(16,I w_3),(17,.bool (decide (w_3 < (a2.length : Int))))] [(2,rI out_2)] ?_
 refine sN ?_
 rcases is h with ⟨hb_4,h⟩ | ⟨hb_4,h⟩
 ·refine cT ((decide (w_3 < (a2.length : Int)))) hb_4 ?_
  refine sk ?_
  refine sN ?_
  refine bk 1 ?_
  refine rs0 hc 2 [(1,.fnb 169 [aSystem clo1_0]),(2,sI a2),(3,sI b3),(9,.rs 2),(10,I w_3),(15,I (a2.length : Int)),(16,I w_3)] [(2,rI out_2)] ?_
  obtain ⟨e_5_5,hi_5_5,h⟩ := bsome h
  obtain ⟨e_5_9,hi_5_9,h⟩ := bsome h
  obtain ⟨r_5_11,hr_5_11,h⟩ := bsome h
  obtain ⟨e_5_12,hi_5_12,h⟩ := bsome h
  refine rg hc ah8_0 [oN,oN,oN,oN,oN,some (.el (I e_5_5)),oN,oN,oN,some (.el (I e_5_9)),oN,oc (I r_5_11),oN,some (.eqv (.mk 0 true) ⟨[],[(2,some (.arr (List.map I (List.set out_2 (Int.toNat w_3) r_5_11))))],[]⟩)] [(1,.fnb 169 [aSystem clo1_0]),(2,sI a2),(3,sI b3),(9,.rs 2),(15,I (a2.length : Int)),(16,I w_3)] [(2,.arr (List.map I (List.set out_2 (Int.toNat w_3) r_5_11)))] (ai (ix hi_5_5) (ai (ix hi_5_9) (ai (impl_Systemplus_s _ _ hr_5_11) (ai bod_169 (ai (oi (I r_5_11)) (ai (idx_own (enc := I) hi_5_12) (ai (congrArg (fun z => (⟨[],[(2,some (.arr z))],[]⟩ : Wr)) (set_row (enc := I) (i := Int.toNat w_3) (l := out_2) (v := r_5_11) (x := I r_5_11) (eq_I r_5_11))) (ai (own_set (enc := I) (sz := 1) sz_I hi_5_12) trivial)))))))) ?_
  refine rg0 hc 2 [(1,.fnb 169 [aSystem clo1_0]),(2,sI a2),(3,sI b3),(9,.rs 2),(15,I (a2.length : Int)),(16,I (wr (w_3 + 1)))] [(2,.arr (List.map I (List.set out_2 (Int.toNat w_3) r_5_11)))] ?_
  refine loopQ_norm ?_
  exact (impl_typerboth_Kimpl_Systemplus_l0_ih _ _ h c hc)
 refine cF ((decide (w_3 < (a2.length : Int)))) hb_4 ?_
 refine xt 0 ?_
 refine seqQ_exit ?_
 refine loopQ_exit ?_
 obtain rfl := os h
 exact iv []
def impl_typerboth_Kimpl_Systemplus (p : GTyper × GSystem × (List Int) × (List Int)) : Option ((List Int)) :=
 match p with
 | (p0,clo1_0,a2,b3) =>
  (chk (0 ≤ (a2.length : Int) ∧ (Int.toNat (a2.length : Int)) * 8 ≤ 140737488355328)) >>= fun _ =>
  (impl_typerboth_Kimpl_Systemplus_l0 (clo1_0,a2,b3,(List.replicate (Int.toNat (a2.length : Int)) 0),0)) >>= fun out_5 =>
  some out_5
def M_impl_typerboth_Kimpl_Systemplus (p : GTyper × GSystem × (List Int) × (List Int)) (r : (List Int)) : Prop :=
 match p with
 | (p0,clo1_0,a2,b3) => FnSound Tryz.prog 244 [aTyper p0,.fnb 169 [aSystem clo1_0],sI a2,sI b3] (oI r) []
theorem impl_typerboth_Kimpl_Systemplus_s : ∀ p r,impl_typerboth_Kimpl_Systemplus p = some r → M_impl_typerboth_Kimpl_Systemplus p r := by
 rintro ⟨p0,clo1_0,a2,b3⟩ r h
 unfold impl_typerboth_Kimpl_Systemplus at h
 refine b0 Tryz.f244 B244 34 [(0,aTyper p0),(1,.fnb 169 [aSystem clo1_0]),(2,sI a2),(3,sI b3)] fun c hc => ?_
 refine rs hc none [some (.new 1),oN] [(1,.fnb 169 [aSystem clo1_0]),(2,sI a2),(3,sI b3)] [] trivial ?_
 obtain ⟨_,hk_1_2,h⟩ := bsome h
 refine rs hc none [oN,some (.eqv (.no) ⟨[(12,I (a2.length : Int))],[],[]⟩),some (.eqv (.mk 2 true) ⟨[(13,.rs 2)],[(2,some (.arr (List.map I (List.replicate (Int.toNat (a2.length : Int)) 0))))],[2]⟩),oN] [(1,.fnb 169 [aSystem clo1_0]),(2,sI a2),(3,sI b3),(9,.rs 2)] [(2,.arr (List.map I (List.replicate (Int.toNat (a2.length : Int)) 0)))] (ai (lenT (d := 12) I a2) (ai (congrArg (fun z => (⟨[(13,.rs 2)],[(2,some (.arr z))],[2]⟩ : Wr)) (rep_row (enc := I) (n := Int.toNat (a2.length : Int)) (x := I 0) (eq_I 0))) (ai (And.intro (Eq.refl (a2.length : Int)) (chk_of hk_1_2)) trivial))) ?_
 refine sN ?_
 refine rs hc none [oN,some (.eqv (.no) ⟨[(15,I (a2.length : Int))],[],[]⟩),oN] [(1,.fnb 169 [aSystem clo1_0]),(2,sI a2),(3,sI b3),(9,.rs 2),(15,I (a2.length : Int)),(16,I 0)] [(2,.arr (List.map I (List.replicate (Int.toNat (a2.length : Int)) 0)))] (ai (lenT (d := 15) I a2) trivial) ?_
 refine bk 0 ?_
 obtain ⟨out_5,hl_6,h⟩ := bsome h
 have hL := impl_typerboth_Kimpl_Systemplus_l0_s _ _ hl_6 c hc
 refine lp ?_
 refine WpL.into (e := (.exit 0)) (mkS [(9,.rs 2)] [(2,rI out_5)]) hL ?_
 refine blockQ_hit ?_
 refine rs0 hc 2 [(8,.rs 2)] [(2,rI out_5)] ?_
 refine rt ?_
 obtain rfl := os h
 exact rq [true]
def impl_typersum (p : GTyper × (List Int) × (List Int)) : Option ((List Int)) :=
 match p with
 | (p0,a1,b2) =>
  (impl_typerboth_Kimpl_Systemplus (p0,p0.fs,a1,b2)) >>= fun r_1_6 =>
  some r_1_6
def M_impl_typersum (p : GTyper × (List Int) × (List Int)) (r : (List Int)) : Prop :=
 match p with
 | (p0,a1,b2) => FnSound Tryz.prog 221 [aTyper p0,sI a1,sI b2] (oI r) []
theorem impl_typersum_s : ∀ p r,impl_typersum p = some r → M_impl_typersum p r := by
 rintro ⟨p0,a1,b2⟩ r h
 unfold impl_typersum at h
 refine b0 Tryz.f221 B221 14 [(0,aTyper p0),(1,sI a1),(2,sI b2)] fun c hc => ?_
 refine rs hc none [some (.new 1),oN] [(1,sI a1),(2,sI b2),(3,.ra 1 0)] [(1,bTyper p0)] trivial ?_
 obtain ⟨r_1_6,hr_1_6,h⟩ := bsome h
 refine rs hc none [oN,oN,oN,oN,oN,oN,some (.call (oI r_1_6) [] 2),oN] [(6,.rs 2)] [(2,rI r_1_6)] (ai (impl_typerboth_Kimpl_Systemplus_s _ _ hr_1_6) (ai bod_244 (ai (oi (oI r_1_6)) trivial))) ?_
 refine rt ?_
 obtain rfl := os h
 exact rq [true]
def impl_typerfinish_c1 (p : Int × GTyped) : Option ((List Int)) :=
 match p with
 | (i0,cap0) =>
  (idx cap0.fkids i0) >>= fun e_1_5 =>
  some e_1_5.fty
def M_impl_typerfinish_c1 (p : Int × GTyped) (r : (List Int)) : Prop :=
 match p with
 | (i0,cap0) => KidS Tryz.prog 220 i0 [sI cap0.fty,sI cap0.fneeds,.sl (List.map PGTyped_S cap0.fkids),I cap0.ffault,sI cap0.fpath] (sI r)
theorem impl_typerfinish_c1_s : ∀ p r,impl_typerfinish_c1 p = some r → M_impl_typerfinish_c1 p r := by
 rintro ⟨i0,cap0⟩ r h
 unfold impl_typerfinish_c1 at h
 show KidS Tryz.prog 220 i0 [sI cap0.fty,sI cap0.fneeds,.sl (List.map PGTyped_S cap0.fkids),I cap0.ffault,sI cap0.fpath] (sI r)
 refine KidS.of_body tiok (fn := Tryz.f220) (code := B220) (by kernel_rfl) (by kernel_rfl) rfl rfl (nt := 14) (by kernel_rfl) (by kernel_rfl) (fun c hc => ?_)
 refine rs0 hc 1 [(0,I i0),(1,.ra 1000 0)] [(1000,.box [.ra 1001 0]),(1001,bTyped cap0)] ?_
 obtain ⟨e_1_5,hi_1_5,h⟩ := bsome h
 refine rs hc none [oN,oN,oN,oN,oN,some (.el (.ptr [sI e_1_5.fty,sI e_1_5.fneeds,.sl (List.map PGTyped_S e_1_5.fkids),I e_1_5.ffault,sI e_1_5.fpath] 0)),oN,oN,oN,oN,oN] [(3,sI e_1_5.fty)] [(1000,.box [.ra 1001 0]),(1001,bTyped cap0)] (ai (idx_sl (enc := PGTyped_S) (x := .ptr [sI e_1_5.fty,sI e_1_5.fneeds,.sl (List.map PGTyped_S e_1_5.fkids),I e_1_5.ffault,sI e_1_5.fpath] 0) hi_1_5 (eq_PGTyped_S e_1_5)) trivial) ?_
 refine rt ?_
 obtain rfl := os h
 exact EndK.ret (by kernel_rfl)
def impl_typerboth_Kimpl_Systemjoin_F1 (c : Ctx) : (List Int) → Exit → AState → Prop
 | out_5 => Into c (.exit 0) (mkS [(9,.rs 2)] [(2,rI out_5)])
def impl_typerboth_Kimpl_Systemjoin_l0 (p : GSystem × (List Int) × (List Int) × (List Int) × Int) : Option ((List Int)) :=
 match p with
 | (clo1_0,a2,b3,out_2,w_3) =>
  if (decide (w_3 < (a2.length : Int))) = true then
   (idx a2 w_3) >>= fun e_5_5 =>
   (idx b3 w_3) >>= fun e_5_9 =>
   (impl_Systemjoin (clo1_0,e_5_5,e_5_9)) >>= fun r_5_11 =>
   (idx out_2 w_3) >>= fun e_5_12 =>
   impl_typerboth_Kimpl_Systemjoin_l0 (clo1_0,a2,b3,(List.set out_2 (Int.toNat w_3) r_5_11),(wr (w_3 + 1)))
  else
   some (out_2)
 partial_fixpoint
def M_impl_typerboth_Kimpl_Systemjoin_l0 (p : GSystem × (List Int) × (List Int) × (List Int) × Int) (fl : (List Int)) : Prop :=
 match p with
 | (clo1_0,a2,b3,out_2,w_3) => ∀ c : Ctx,c.nt = 34 → WpL Tryz.prog c (cl (cl (cr (cl (cr (cr B244)))))) (impl_typerboth_Kimpl_Systemjoin_F1 c fl) (mkS [(1,.fnb 171 [aSystem clo1_0]),(2,sI a2),(3,sI b3),(9,.rs 2),(15,I (a2.length : Int)),(16,I w_3)] [(2,rI out_2)])
theorem impl_typerboth_Kimpl_Systemjoin_l0_s : ∀ p r,impl_typerboth_Kimpl_Systemjoin_l0 p = some r → M_impl_typerboth_Kimpl_Systemjoin_l0 p r := by
 refine impl_typerboth_Kimpl_Systemjoin_l0.partial_correctness M_impl_typerboth_Kimpl_Systemjoin_l0 ?_
 rintro impl_typerboth_Kimpl_Systemjoin_l0_f impl_typerboth_Kimpl_Systemjoin_l0_ih ⟨clo1_0,a2,b3,out_2,w_3⟩ r h
 intro c hc
 refine WpL.step ?_
 refine rs0 hc 1 [(1,.fnb 171 [aSystem clo1_0]),(2,sI a2),(3,sI b3),(9,.rs 2),(15,I (a2.length : Int)),(16,I w_3),(17,.bool (decide (w_3 < (a2.length : Int))))] [(2,rI out_2)] ?_
 refine sN ?_
 rcases is h with ⟨hb_4,h⟩ | ⟨hb_4,h⟩
 ·refine cT ((decide (w_3 < (a2.length : Int)))) hb_4 ?_
  refine sk ?_
  refine sN ?_
  refine bk 1 ?_
  refine rs0 hc 2 [(1,.fnb 171 [aSystem clo1_0]),(2,sI a2),(3,sI b3),(9,.rs 2),(10,I w_3),(15,I (a2.length : Int)),(16,I w_3)] [(2,rI out_2)] ?_
  obtain ⟨e_5_5,hi_5_5,h⟩ := bsome h
  obtain ⟨e_5_9,hi_5_9,h⟩ := bsome h
  obtain ⟨r_5_11,hr_5_11,h⟩ := bsome h
  obtain ⟨e_5_12,hi_5_12,h⟩ := bsome h
  refine rg hc ah8_0 [oN,oN,oN,oN,oN,some (.el (I e_5_5)),oN,oN,oN,some (.el (I e_5_9)),oN,oc (I r_5_11),oN,some (.eqv (.mk 0 true) ⟨[],[(2,some (.arr (List.map I (List.set out_2 (Int.toNat w_3) r_5_11))))],[]⟩)] [(1,.fnb 171 [aSystem clo1_0]),(2,sI a2),(3,sI b3),(9,.rs 2),(15,I (a2.length : Int)),(16,I w_3)] [(2,.arr (List.map I (List.set out_2 (Int.toNat w_3) r_5_11)))] (ai (ix hi_5_5) (ai (ix hi_5_9) (ai (impl_Systemjoin_s _ _ hr_5_11) (ai bod_171 (ai (oi (I r_5_11)) (ai (idx_own (enc := I) hi_5_12) (ai (congrArg (fun z => (⟨[],[(2,some (.arr z))],[]⟩ : Wr)) (set_row (enc := I) (i := Int.toNat w_3) (l := out_2) (v := r_5_11) (x := I r_5_11) (eq_I r_5_11))) (ai (own_set (enc := I) (sz := 1) sz_I hi_5_12) trivial)))))))) ?_
  refine rg0 hc 2 [(1,.fnb 171 [aSystem clo1_0]),(2,sI a2),(3,sI b3),(9,.rs 2),(15,I (a2.length : Int)),(16,I (wr (w_3 + 1)))] [(2,.arr (List.map I (List.set out_2 (Int.toNat w_3) r_5_11)))] ?_
  refine loopQ_norm ?_
  exact (impl_typerboth_Kimpl_Systemjoin_l0_ih _ _ h c hc)
 refine cF ((decide (w_3 < (a2.length : Int)))) hb_4 ?_
 refine xt 0 ?_
 refine seqQ_exit ?_
 refine loopQ_exit ?_
 obtain rfl := os h
 exact iv []
def impl_typerboth_Kimpl_Systemjoin (p : GTyper × GSystem × (List Int) × (List Int)) : Option ((List Int)) :=
 match p with
 | (p0,clo1_0,a2,b3) =>
  (chk (0 ≤ (a2.length : Int) ∧ (Int.toNat (a2.length : Int)) * 8 ≤ 140737488355328)) >>= fun _ =>
  (impl_typerboth_Kimpl_Systemjoin_l0 (clo1_0,a2,b3,(List.replicate (Int.toNat (a2.length : Int)) 0),0)) >>= fun out_5 =>
  some out_5
def M_impl_typerboth_Kimpl_Systemjoin (p : GTyper × GSystem × (List Int) × (List Int)) (r : (List Int)) : Prop :=
 match p with
 | (p0,clo1_0,a2,b3) => FnSound Tryz.prog 244 [aTyper p0,.fnb 171 [aSystem clo1_0],sI a2,sI b3] (oI r) []
theorem impl_typerboth_Kimpl_Systemjoin_s : ∀ p r,impl_typerboth_Kimpl_Systemjoin p = some r → M_impl_typerboth_Kimpl_Systemjoin p r := by
 rintro ⟨p0,clo1_0,a2,b3⟩ r h
 unfold impl_typerboth_Kimpl_Systemjoin at h
 refine b0 Tryz.f244 B244 34 [(0,aTyper p0),(1,.fnb 171 [aSystem clo1_0]),(2,sI a2),(3,sI b3)] fun c hc => ?_
 refine rs hc none [some (.new 1),oN] [(1,.fnb 171 [aSystem clo1_0]),(2,sI a2),(3,sI b3)] [] trivial ?_
 obtain ⟨_,hk_1_2,h⟩ := bsome h
 refine rs hc none [oN,some (.eqv (.no) ⟨[(12,I (a2.length : Int))],[],[]⟩),some (.eqv (.mk 2 true) ⟨[(13,.rs 2)],[(2,some (.arr (List.map I (List.replicate (Int.toNat (a2.length : Int)) 0))))],[2]⟩),oN] [(1,.fnb 171 [aSystem clo1_0]),(2,sI a2),(3,sI b3),(9,.rs 2)] [(2,.arr (List.map I (List.replicate (Int.toNat (a2.length : Int)) 0)))] (ai (lenT (d := 12) I a2) (ai (congrArg (fun z => (⟨[(13,.rs 2)],[(2,some (.arr z))],[2]⟩ : Wr)) (rep_row (enc := I) (n := Int.toNat (a2.length : Int)) (x := I 0) (eq_I 0))) (ai (And.intro (Eq.refl (a2.length : Int)) (chk_of hk_1_2)) trivial))) ?_
 refine sN ?_
 refine rs hc none [oN,some (.eqv (.no) ⟨[(15,I (a2.length : Int))],[],[]⟩),oN] [(1,.fnb 171 [aSystem clo1_0]),(2,sI a2),(3,sI b3),(9,.rs 2),(15,I (a2.length : Int)),(16,I 0)] [(2,.arr (List.map I (List.replicate (Int.toNat (a2.length : Int)) 0)))] (ai (lenT (d := 15) I a2) trivial) ?_
 refine bk 0 ?_
 obtain ⟨out_5,hl_6,h⟩ := bsome h
 have hL := impl_typerboth_Kimpl_Systemjoin_l0_s _ _ hl_6 c hc
 refine lp ?_
 refine WpL.into (e := (.exit 0)) (mkS [(9,.rs 2)] [(2,rI out_5)]) hL ?_
 refine blockQ_hit ?_
 refine rs0 hc 2 [(8,.rs 2)] [(2,rI out_5)] ?_
 refine rt ?_
 obtain rfl := os h
 exact rq [true]
def impl_typerjoin (p : GTyper × (List Int) × (List Int)) : Option ((List Int)) :=
 match p with
 | (p0,a1,b2) =>
  (impl_typerboth_Kimpl_Systemjoin (p0,p0.fs,a1,b2)) >>= fun r_1_6 =>
  some r_1_6
def M_impl_typerjoin (p : GTyper × (List Int) × (List Int)) (r : (List Int)) : Prop :=
 match p with
 | (p0,a1,b2) => FnSound Tryz.prog 222 [aTyper p0,sI a1,sI b2] (oI r) []
theorem impl_typerjoin_s : ∀ p r,impl_typerjoin p = some r → M_impl_typerjoin p r := by
 rintro ⟨p0,a1,b2⟩ r h
 unfold impl_typerjoin at h
 refine b0 Tryz.f222 B222 14 [(0,aTyper p0),(1,sI a1),(2,sI b2)] fun c hc => ?_
 refine rs hc none [some (.new 1),oN] [(1,sI a1),(2,sI b2),(3,.ra 1 0)] [(1,bTyper p0)] trivial ?_
 obtain ⟨r_1_6,hr_1_6,h⟩ := bsome h
 refine rs hc none [oN,oN,oN,oN,oN,oN,some (.call (oI r_1_6) [] 2),oN] [(6,.rs 2)] [(2,rI r_1_6)] (ai (impl_typerboth_Kimpl_Systemjoin_s _ _ hr_1_6) (ai bod_244 (ai (oi (oI r_1_6)) trivial))) ?_
 refine rt ?_
 obtain rfl := os h
 exact rq [true]
def slices_Grow_int (n1 : Int) : Option (Unit) :=
  if (decide (n1 < 0)) = true then
   none
  else
   if (decide ((wr (n1 - (wr (0 - 0)))) > 0)) = true then
    (chk (0 ≤ (wr (n1 - (wr (0 - 0)))) ∧ (Int.toNat (wr (n1 - (wr (0 - 0))))) * 8 ≤ 140737488355328)) >>= fun _ =>
    some ()
   else
    some ()
def M_slices_Grow_int (n1 : Int) (r : Unit) : Prop :=
 GrowS Tryz.prog 245 n1
theorem slices_Grow_int_s : ∀ p r,slices_Grow_int p = some r → M_slices_Grow_int p r := by
 rintro n1 r h
 unfold slices_Grow_int at h
 show GrowS Tryz.prog 245 n1
 refine GrowS.of_body tiok (fn := Tryz.f245) (code := B245) (by kernel_rfl) (by kernel_rfl) (nt := 27) (by kernel_rfl) (by kernel_rfl) (fun c hc => ?_)
 refine rs0 hc 1 [(0,.nils),(1,I n1)] [] ?_
 refine sN ?_
 refine rs0 hc 2 [(0,.nils),(1,I n1),(6,.bool (decide (n1 < 0)))] [] ?_
 rcases is h with ⟨hb_1,h⟩ | ⟨hb_1,h⟩
 ·refine cT ((decide (n1 < 0))) hb_1 ?_
  cases h
 refine cF ((decide (n1 < 0))) hb_1 ?_
 refine sk ?_
 refine sN ?_
 refine rs0 hc 8 [(0,.nils),(1,I (wr (n1 - (wr (0 - 0)))))] [] ?_
 refine rs0 hc 2 [(0,.nils),(1,I (wr (n1 - (wr (0 - 0))))),(16,.bool (decide ((wr (n1 - (wr (0 - 0)))) > 0)))] [] ?_
 rcases is h with ⟨hb_2,h⟩ | ⟨hb_2,h⟩
 ·refine cT ((decide ((wr (n1 - (wr (0 - 0)))) > 0))) hb_2 ?_
  obtain ⟨_,hk_5_5,h⟩ := bsome h
  refine rg hc none [oN,oN,oN,oN,oN,some (.new 1),oN,oN,some (.new 2),oN] [(0,.rs 2)] [(2,.ary (List.map I []))] (ai (chk_of hk_5_5) trivial) ?_
  refine rs0 hc 2 [(4,.rs 2)] [(2,.ary (List.map I []))] ?_
  refine rt ?_
  exact EndY.ret (by kernel_rfl)
 refine cF ((decide ((wr (n1 - (wr (0 - 0)))) > 0))) hb_2 ?_
 refine sk ?_
 refine rs0 hc 2 [(4,.nils)] [] ?_
 refine rt ?_
 exact EndY.ret (by kernel_rfl)
def slices_Concat_int_F1 (c : Ctx) (slices0 : List (List Int)) : Int → Exit → AState → Prop
 | size_9 => Into c (.exit 0) (mkS [(0,sL slices0),(3,I size_9)] [])
def slices_Concat_int_l0 (p : (List (List Int)) × Int × Int) : Option (Int) :=
 match p with
 | (slices0,size_4,w_5) =>
  if (decide (w_5 < (slices0.length : Int))) = true then
   (idx slices0 w_5) >>= fun e_4_0 =>
   ((
    if (decide ((wr (size_4 + (e_4_0.length : Int))) < 0)) = true then
     none
    else
     some (())
   ) : Option (Unit)) >>= fun () =>
   slices_Concat_int_l0 (slices0,(wr (size_4 + (e_4_0.length : Int))),(wr (w_5 + 1)))
  else
   some (size_4)
 partial_fixpoint
def M_slices_Concat_int_l0 (p : (List (List Int)) × Int × Int) (fl : Int) : Prop :=
 match p with
 | (slices0,size_4,w_5) => ∀ c : Ctx,c.nt = 36 → WpL Tryz.prog c (cl (cl (cr (cl (cr (cr B223)))))) (slices_Concat_int_F1 c slices0 fl) (mkS [(0,sL slices0),(3,I size_4),(9,sL slices0),(10,I (slices0.length : Int)),(11,I w_5)] [])
theorem slices_Concat_int_l0_s : ∀ p r,slices_Concat_int_l0 p = some r → M_slices_Concat_int_l0 p r := by
 refine slices_Concat_int_l0.partial_correctness M_slices_Concat_int_l0 ?_
 rintro slices_Concat_int_l0_f slices_Concat_int_l0_ih ⟨slices0,size_4,w_5⟩ r h
 intro c hc
 refine WpL.step ?_
 refine rs0 hc 1 [(0,sL slices0),(3,I size_4),(9,sL slices0),(10,I (slices0.length : Int)),(11,I w_5),(12,.bool (decide (w_5 < (slices0.length : Int))))] [] ?_
 refine sN ?_
 rcases is h with ⟨hb_6,h⟩ | ⟨hb_6,h⟩
 ·refine cT ((decide (w_5 < (slices0.length : Int)))) hb_6 ?_
  refine sk ?_
  refine sN ?_
  refine bk 1 ?_
  obtain ⟨e_4_0,hi_4_0,h⟩ := bsome h
  refine rs hc none [some (.el (sI e_4_0)),oN,oN] [(0,sL slices0),(3,I size_4),(5,sI e_4_0),(9,sL slices0),(10,I (slices0.length : Int)),(11,I w_5)] [] (ai (idx_sl (enc := LI_s) (x := sI e_4_0) hi_4_0 (eq_LI_s e_4_0)) trivial) ?_
  refine rs hc none [oN,oN,some (.eqv (.no) ⟨[(17,I (e_4_0.length : Int))],[],[]⟩),oN,oN] [(0,sL slices0),(3,I (wr (size_4 + (e_4_0.length : Int)))),(9,sL slices0),(10,I (slices0.length : Int)),(11,I w_5)] [] (ai (lenT (d := 17) I e_4_0) trivial) ?_
  refine rs0 hc 2 [(0,sL slices0),(3,I (wr (size_4 + (e_4_0.length : Int)))),(9,sL slices0),(10,I (slices0.length : Int)),(11,I w_5),(20,.bool (decide ((wr (size_4 + (e_4_0.length : Int))) < 0)))] [] ?_
  obtain ⟨⟨⟩,hj_8,h⟩ := bsome h
  refine Wp.into (x := .normal) (mkS [(0,sL slices0),(3,I (wr (size_4 + (e_4_0.length : Int)))),(9,sL slices0),(10,I (slices0.length : Int)),(11,I w_5)] []) ?_ ?_
  ·replace h := hj_8
   rcases is h with ⟨hb_7,h⟩ | ⟨hb_7,h⟩
   ·refine cT ((decide ((wr (size_4 + (e_4_0.length : Int))) < 0))) hb_7 ?_
    cases h
   refine cF ((decide ((wr (size_4 + (e_4_0.length : Int))) < 0))) hb_7 ?_
   refine sk ?_
   exact iv []
  clear hj_8
  refine rg0 hc 2 [(0,sL slices0),(3,I (wr (size_4 + (e_4_0.length : Int)))),(9,sL slices0),(10,I (slices0.length : Int)),(11,I (wr (w_5 + 1)))] [] ?_
  refine loopQ_norm ?_
  exact (slices_Concat_int_l0_ih _ _ h c hc)
 refine cF ((decide (w_5 < (slices0.length : Int)))) hb_6 ?_
 refine xt 0 ?_
 refine seqQ_exit ?_
 refine loopQ_exit ?_
 obtain rfl := os h
 exact iv []
def slices_Concat_int_F2 (c : Ctx) : (List Int) → Exit → AState → Prop
 | newslice_15 => Into c (.exit 2) (mkS [(6,.rs 1)] [(1,.ary (List.map I newslice_15))])
def slices_Concat_int_l1 (p : (List (List Int)) × (List Int) × Int) : Option ((List Int)) :=
 match p with
 | (slices0,newslice_12,w_13) =>
  if (decide (w_13 < (slices0.length : Int))) = true then
   (idx slices0 w_13) >>= fun e_12_0 =>
   (fits (newslice_12.length + e_12_0.length) 8) >>= fun _ =>
   slices_Concat_int_l1 (slices0,(newslice_12 ++ e_12_0),(wr (w_13 + 1)))
  else
   some (newslice_12)
 partial_fixpoint
def M_slices_Concat_int_l1 (p : (List (List Int)) × (List Int) × Int) (fl : (List Int)) : Prop :=
 match p with
 | (slices0,newslice_12,w_13) => ∀ c : Ctx,c.nt = 36 → WpL Tryz.prog c (cl (cl (cr (cl (cr (cr (cr (cr B223)))))))) (slices_Concat_int_F2 c fl) (mkS [(6,.rs 1),(25,sL slices0),(26,I (slices0.length : Int)),(27,I w_13)] [(1,.ary (List.map I newslice_12))])
theorem slices_Concat_int_l1_s : ∀ p r,slices_Concat_int_l1 p = some r → M_slices_Concat_int_l1 p r := by
 refine slices_Concat_int_l1.partial_correctness M_slices_Concat_int_l1 ?_
 rintro slices_Concat_int_l1_f slices_Concat_int_l1_ih ⟨slices0,newslice_12,w_13⟩ r h
 intro c hc
 refine WpL.step ?_
 refine rs0 hc 1 [(6,.rs 1),(25,sL slices0),(26,I (slices0.length : Int)),(27,I w_13),(28,.bool (decide (w_13 < (slices0.length : Int))))] [(1,.ary (List.map I newslice_12))] ?_
 refine sN ?_
 rcases is h with ⟨hb_14,h⟩ | ⟨hb_14,h⟩
 ·refine cT ((decide (w_13 < (slices0.length : Int)))) hb_14 ?_
  refine sk ?_
  refine sN ?_
  refine bk 3 ?_
  obtain ⟨e_12_0,hi_12_0,h⟩ := bsome h
  refine rs hc none [some (.el (sI e_12_0)),oN,oN] [(6,.rs 1),(8,sI e_12_0),(25,sL slices0),(26,I (slices0.length : Int)),(27,I w_13)] [(1,.ary (List.map I newslice_12))] (ai (idx_sl (enc := LI_s) (x := sI e_12_0) hi_12_0 (eq_LI_s e_12_0)) trivial) ?_
  obtain ⟨_,hk_13_2,h⟩ := bsome h
  refine rg hc none [oN,oN,some (.eqv (.new 3) ⟨[(33,.rs 3)],[(3,some (.ary (List.map I (newslice_12 ++ e_12_0)))),(1,none)],[3]⟩),oN] [(6,.rs 3),(25,sL slices0),(26,I (slices0.length : Int)),(27,I w_13)] [(3,.ary (List.map I (newslice_12 ++ e_12_0)))] (ai (congrArg (fun z => (⟨[(33,.rs 3)],[(3,some (.ary z)),(1,none)],[3]⟩ : Wr)) ((List.map_append).symm : (List.map I newslice_12) ++ (List.map I e_12_0) = List.map I (newslice_12 ++ e_12_0))) (ai (appY_ob (enc := I) (e1 := newslice_12) (e2 := e_12_0) (fun _ => rfl) hk_13_2) trivial)) ?_
  refine rg0 hc 2 [(6,.rs 3),(25,sL slices0),(26,I (slices0.length : Int)),(27,I (wr (w_13 + 1)))] [(3,.ary (List.map I (newslice_12 ++ e_12_0)))] ?_
  refine loopQ_norm ?_
  exact WpL.view (fun a w hv => SRx.renL [(1,3)] hv (by kernel_rfl) (by kernel_rfl) (by kernel_rfl)) (slices_Concat_int_l1_ih _ _ h c hc)
 refine cF ((decide (w_13 < (slices0.length : Int)))) hb_14 ?_
 refine xt 2 ?_
 refine seqQ_exit ?_
 refine loopQ_exit ?_
 obtain rfl := os h
 exact iv []
def slices_Concat_int (slices0 : (List (List Int))) : Option ((List Int)) :=
  (slices_Concat_int_l0 (slices0,0,0)) >>= fun size_9 =>
  (slices_Grow_int size_9) >>= fun _ =>
  (slices_Concat_int_l1 (slices0,[],0)) >>= fun newslice_15 =>
  some newslice_15
def M_slices_Concat_int (slices0 : (List (List Int))) (r : (List Int)) : Prop :=
 FnSound Tryz.prog 223 [sL slices0] (sI r) []
theorem slices_Concat_int_s : ∀ p r,slices_Concat_int p = some r → M_slices_Concat_int p r := by
 rintro slices0 r h
 unfold slices_Concat_int at h
 refine b0 Tryz.f223 B223 36 [(0,sL slices0)] fun c hc => ?_
 refine rs0 hc 1 [(0,sL slices0)] [] ?_
 refine rs0 hc 1 [(0,sL slices0),(3,I 0)] [] ?_
 refine sN ?_
 refine rs hc none [oN,some (.eqv (.no) ⟨[(10,I (slices0.length : Int))],[],[]⟩),oN] [(0,sL slices0),(3,I 0),(9,sL slices0),(10,I (slices0.length : Int)),(11,I 0)] [] (ai (lenT (d := 10) LI_s slices0) trivial) ?_
 refine bk 0 ?_
 obtain ⟨size_9,hl_10,h⟩ := bsome h
 have hL := slices_Concat_int_l0_s _ _ hl_10 c hc
 refine lp ?_
 refine WpL.into (e := (.exit 0)) (mkS [(0,sL slices0),(3,I size_9)] []) hL ?_
 refine blockQ_hit ?_
 obtain ⟨_,hr_9_1,h⟩ := bsome h
 refine rs hc none [oN,some (.new 1),oN] [(0,sL slices0),(6,.rs 1)] [(1,.ary (List.map I []))] (ai (slices_Grow_int_s _ _ hr_9_1) (ai bod_245 trivial)) ?_
 refine sN ?_
 refine rs hc none [oN,some (.eqv (.no) ⟨[(26,I (slices0.length : Int))],[],[]⟩),oN] [(6,.rs 1),(25,sL slices0),(26,I (slices0.length : Int)),(27,I 0)] [(1,.ary (List.map I []))] (ai (lenT (d := 26) LI_s slices0) trivial) ?_
 refine bk 2 ?_
 obtain ⟨newslice_15,hl_16,h⟩ := bsome h
 have hL := slices_Concat_int_l1_s _ _ hl_16 c hc
 refine lp ?_
 refine WpL.into (e := (.exit 2)) (mkS [(6,.rs 1)] [(1,.ary (List.map I newslice_15))]) hL ?_
 refine blockQ_hit ?_
 refine rs0 hc 2 [(2,.rs 1)] [(1,.ary (List.map I newslice_15))] ?_
 refine Wp.view (fun a w hv => SRx.frzYL 1 (xs := List.map I newslice_15) hv (by kernel_rfl) (by kernel_rfl) (by kernel_rfl)) (?_ : Wp Tryz.prog c _ _ (mkS [(2,sI newslice_15)] []))
 refine rt ?_
 obtain rfl := os h
 exact rq [false]
def impl_typerusedOk_c1 (p : Int × GTyper × Int) : Option (Bool) :=
 match p with
 | (u0,cap0,cap1) =>
  (impl_Systembelow (cap0.fs,u0,cap1)) >>= fun r_1_4 =>
  some (!r_1_4)
def M_impl_typerusedOk_c1 (p : Int × GTyper × Int) (r : Bool) : Prop :=
 match p with
 | (u0,cap0,cap1) => FnSound Tryz.prog 246 [I u0,.ptr [I cap0.fs.fSize,.sl (List.map I cap0.fs.fPlus),.sl (List.map I cap0.fs.fTimes),.sl (List.map AV.bool cap0.fs.fBelow)] 0,.ptr [I cap1] 0] (.bool r) []
theorem impl_typerusedOk_c1_s : ∀ p r,impl_typerusedOk_c1 p = some r → M_impl_typerusedOk_c1 p r := by
 rintro ⟨u0,cap0,cap1⟩ r h
 unfold impl_typerusedOk_c1 at h
 refine b0 Tryz.f246 B246 11 [(0,I u0),(1,.ptr [I cap0.fs.fSize,.sl (List.map I cap0.fs.fPlus),.sl (List.map I cap0.fs.fTimes),.sl (List.map AV.bool cap0.fs.fBelow)] 0),(2,.ptr [I cap1] 0)] fun c hc => ?_
 refine rs0 hc 1 [(0,I u0),(1,.ptr [I cap0.fs.fSize,.sl (List.map I cap0.fs.fPlus),.sl (List.map I cap0.fs.fTimes),.sl (List.map AV.bool cap0.fs.fBelow)] 0),(2,.ptr [I cap1] 0)] [] ?_
 obtain ⟨r_1_4,hr_1_4,h⟩ := bsome h
 refine rs hc none [oN,oN,oN,oN,oc (.bool r_1_4),oN,oN] [(4,.bool (!r_1_4))] [] (ai (impl_Systembelow_s _ _ hr_1_4) (ai bod_86 (ai (oi (.bool r_1_4)) trivial))) ?_
 refine rt ?_
 obtain rfl := os h
 exact rq [true]
def slices_IndexFunc_int_Kimpl_typerusedOk_c1_F1 (c : Ctx) : (Unit) ⊕ (Int) → Exit → AState → Prop
 | .inl _ => Into c (.exit 0) (mkS [] [])
 | .inr r => RetE TIx Tryz.f248 [] (I r)
def slices_IndexFunc_int_Kimpl_typerusedOk_c1_l0 (p : (List Int) × GTyper × Int × Int) : Option ((Unit) ⊕ (Int)) :=
 match p with
 | (s0,clo1_0,clo1_1,w_3) =>
  if (decide (w_3 < (s0.length : Int))) = true then
   (idx s0 w_3) >>= fun e_4_3 =>
   (impl_typerusedOk_c1 (e_4_3,clo1_0,clo1_1)) >>= fun r_4_5 =>
   if r_4_5 = true then
    some (.inr w_3)
   else
    slices_IndexFunc_int_Kimpl_typerusedOk_c1_l0 (s0,clo1_0,clo1_1,(wr (w_3 + 1)))
  else
   some (.inl ())
 partial_fixpoint
def M_slices_IndexFunc_int_Kimpl_typerusedOk_c1_l0 (p : (List Int) × GTyper × Int × Int) (fl : (Unit) ⊕ (Int)) : Prop :=
 match p with
 | (s0,clo1_0,clo1_1,w_3) => ∀ c : Ctx,c.nt = 19 → WpL Tryz.prog c (cl (cl (cr (cl (cr B248))))) (slices_IndexFunc_int_Kimpl_typerusedOk_c1_F1 c fl) (mkS [(0,sI s0),(1,.fn 246 [.ptr [I clo1_0.fs.fSize,.sl (List.map I clo1_0.fs.fPlus),.sl (List.map I clo1_0.fs.fTimes),.sl (List.map AV.bool clo1_0.fs.fBelow)] 0,.ptr [I clo1_1] 0]),(7,I (s0.length : Int)),(8,I w_3)] [])
theorem slices_IndexFunc_int_Kimpl_typerusedOk_c1_l0_s : ∀ p r,slices_IndexFunc_int_Kimpl_typerusedOk_c1_l0 p = some r → M_slices_IndexFunc_int_Kimpl_typerusedOk_c1_l0 p r := by
 refine slices_IndexFunc_int_Kimpl_typerusedOk_c1_l0.partial_correctness M_slices_IndexFunc_int_Kimpl_typerusedOk_c1_l0 ?_
 rintro slices_IndexFunc_int_Kimpl_typerusedOk_c1_l0_f slices_IndexFunc_int_Kimpl_typerusedOk_c1_l0_ih ⟨s0,clo1_0,clo1_1,w_3⟩ r h
 intro c hc
 refine WpL.step ?_
 refine rs0 hc 1 [(0,sI s0),(1,.fn 246 [.ptr [I clo1_0.fs.fSize,.sl (List.map I clo1_0.fs.fPlus),.sl (List.map I clo1_0.fs.fTimes),.sl (List.map AV.bool clo1_0.fs.fBelow)] 0,.ptr [I clo1_1] 0]),(7,I (s0.length : Int)),(8,I w_3),(9,.bool (decide (w_3 < (s0.length : Int))))] [] ?_
 refine sN ?_
 rcases is h with ⟨hb_4,h⟩ | ⟨hb_4,h⟩
 ·refine cT ((decide (w_3 < (s0.length : Int)))) hb_4 ?_
  refine sk ?_
  refine sN ?_
  refine bk 1 ?_
  refine rs0 hc 2 [(0,sI s0),(1,.fn 246 [.ptr [I clo1_0.fs.fSize,.sl (List.map I clo1_0.fs.fPlus),.sl (List.map I clo1_0.fs.fTimes),.sl (List.map AV.bool clo1_0.fs.fBelow)] 0,.ptr [I clo1_1] 0]),(5,I w_3),(7,I (s0.length : Int)),(8,I w_3)] [] ?_
  obtain ⟨e_4_3,hi_4_3,h⟩ := bsome h
  obtain ⟨r_4_5,hr_4_5,h⟩ := bsome h
  refine rs hc none [oN,oN,oN,some (.el (I e_4_3)),oN,oc (.bool r_4_5)] [(0,sI s0),(1,.fn 246 [.ptr [I clo1_0.fs.fSize,.sl (List.map I clo1_0.fs.fPlus),.sl (List.map I clo1_0.fs.fTimes),.sl (List.map AV.bool clo1_0.fs.fBelow)] 0,.ptr [I clo1_1] 0]),(5,I w_3),(7,I (s0.length : Int)),(8,I w_3),(16,.bool r_4_5)] [] (ai (ix hi_4_3) (ai (impl_typerusedOk_c1_s _ _ hr_4_5) (ai bod_246 (ai (oi (.bool r_4_5)) trivial)))) ?_
  rcases is h with ⟨hb_5,h⟩ | ⟨hb_5,h⟩
  ·refine cT r_4_5 hb_5 ?_
   refine rs0 hc 2 [(4,I w_3)] [] ?_
   refine rt ?_
   obtain rfl := os h
   exact re [true]
  refine cF r_4_5 hb_5 ?_
  refine sk ?_
  refine rg0 hc 2 [(0,sI s0),(1,.fn 246 [.ptr [I clo1_0.fs.fSize,.sl (List.map I clo1_0.fs.fPlus),.sl (List.map I clo1_0.fs.fTimes),.sl (List.map AV.bool clo1_0.fs.fBelow)] 0,.ptr [I clo1_1] 0]),(7,I (s0.length : Int)),(8,I (wr (w_3 + 1)))] [] ?_
  refine loopQ_norm ?_
  exact (slices_IndexFunc_int_Kimpl_typerusedOk_c1_l0_ih _ _ h c hc)
 refine cF ((decide (w_3 < (s0.length : Int)))) hb_4 ?_
 refine xt 0 ?_
 refine seqQ_exit ?_
 refine loopQ_exit ?_
 obtain rfl := os h
 exact iv []
def slices_IndexFunc_int_Kimpl_typerusedOk_c1 (p : (List Int) × GTyper × Int) : Option (Int) :=
 match p with
 | (s0,clo1_0,clo1_1) =>
  (slices_IndexFunc_int_Kimpl_typerusedOk_c1_l0 (s0,clo1_0,clo1_1,0)) >>= fun fl => match fl with
  | .inl () =>
   some (-1)
  | .inr r =>
   some r
def M_slices_IndexFunc_int_Kimpl_typerusedOk_c1 (p : (List Int) × GTyper × Int) (r : Int) : Prop :=
 match p with
 | (s0,clo1_0,clo1_1) => FnSound Tryz.prog 248 [sI s0,.fn 246 [.ptr [I clo1_0.fs.fSize,.sl (List.map I clo1_0.fs.fPlus),.sl (List.map I clo1_0.fs.fTimes),.sl (List.map AV.bool clo1_0.fs.fBelow)] 0,.ptr [I clo1_1] 0]] (I r) []
theorem slices_IndexFunc_int_Kimpl_typerusedOk_c1_s : ∀ p r,slices_IndexFunc_int_Kimpl_typerusedOk_c1 p = some r → M_slices_IndexFunc_int_Kimpl_typerusedOk_c1 p r := by
 rintro ⟨s0,clo1_0,clo1_1⟩ r h
 unfold slices_IndexFunc_int_Kimpl_typerusedOk_c1 at h
 refine b0 Tryz.f248 B248 19 [(0,sI s0),(1,.fn 246 [.ptr [I clo1_0.fs.fSize,.sl (List.map I clo1_0.fs.fPlus),.sl (List.map I clo1_0.fs.fTimes),.sl (List.map AV.bool clo1_0.fs.fBelow)] 0,.ptr [I clo1_1] 0])] fun c hc => ?_
 refine rs0 hc 1 [(0,sI s0),(1,.fn 246 [.ptr [I clo1_0.fs.fSize,.sl (List.map I clo1_0.fs.fPlus),.sl (List.map I clo1_0.fs.fTimes),.sl (List.map AV.bool clo1_0.fs.fBelow)] 0,.ptr [I clo1_1] 0])] [] ?_
 refine sN ?_
 refine rs hc none [oN,some (.eqv (.no) ⟨[(7,I (s0.length : Int))],[],[]⟩),oN] [(0,sI s0),(1,.fn 246 [.ptr [I clo1_0.fs.fSize,.sl (List.map I clo1_0.fs.fPlus),.sl (List.map I clo1_0.fs.fTimes),.sl (List.map AV.bool clo1_0.fs.fBelow)] 0,.ptr [I clo1_1] 0]),(7,I (s0.length : Int)),(8,I 0)] [] (ai (lenT (d := 7) I s0) trivial) ?_
 refine bk 0 ?_
 obtain ⟨fl,hl_6,h⟩ := bsome h
 have hL := slices_IndexFunc_int_Kimpl_typerusedOk_c1_l0_s _ _ hl_6 c hc
 refine lp ?_
 rcases fl with ⟨⟩ | r
 ·refine WpL.into (e := (.exit 0)) (mkS [] []) hL ?_
  refine blockQ_hit ?_
  refine rs0 hc 1 [(4,I (-1))] [] ?_
  refine rt ?_
  obtain rfl := os h
  exact rq [true]
 refine WpL.mono hL ?_
 rintro _ _ ⟨rfl,hfin⟩
 obtain rfl := os h
 exact ⟨.inl rfl,hfin⟩
def slices_ContainsFunc_int_Kimpl_typerusedOk_c1 (p : (List Int) × GTyper × Int) : Option (Bool) :=
 match p with
 | (s0,clo1_0,clo1_1) =>
  (slices_IndexFunc_int_Kimpl_typerusedOk_c1 (s0,clo1_0,clo1_1)) >>= fun r_1_2 =>
  some (decide (r_1_2 ≥ 0))
def M_slices_ContainsFunc_int_Kimpl_typerusedOk_c1 (p : (List Int) × GTyper × Int) (r : Bool) : Prop :=
 match p with
 | (s0,clo1_0,clo1_1) => FnSound Tryz.prog 238 [sI s0,.fn 246 [.ptr [I clo1_0.fs.fSize,.sl (List.map I clo1_0.fs.fPlus),.sl (List.map I clo1_0.fs.fTimes),.sl (List.map AV.bool clo1_0.fs.fBelow)] 0,.ptr [I clo1_1] 0]] (.bool r) []
theorem slices_ContainsFunc_int_Kimpl_typerusedOk_c1_s : ∀ p r,slices_ContainsFunc_int_Kimpl_typerusedOk_c1 p = some r → M_slices_ContainsFunc_int_Kimpl_typerusedOk_c1 p r := by
 rintro ⟨s0,clo1_0,clo1_1⟩ r h
 unfold slices_ContainsFunc_int_Kimpl_typerusedOk_c1 at h
 refine b0 Tryz.f238 B238 9 [(0,sI s0),(1,.fn 246 [.ptr [I clo1_0.fs.fSize,.sl (List.map I clo1_0.fs.fPlus),.sl (List.map I clo1_0.fs.fTimes),.sl (List.map AV.bool clo1_0.fs.fBelow)] 0,.ptr [I clo1_1] 0])] fun c hc => ?_
 refine rs0 hc 1 [(0,sI s0),(1,.fn 246 [.ptr [I clo1_0.fs.fSize,.sl (List.map I clo1_0.fs.fPlus),.sl (List.map I clo1_0.fs.fTimes),.sl (List.map AV.bool clo1_0.fs.fBelow)] 0,.ptr [I clo1_1] 0])] [] ?_
 obtain ⟨r_1_2,hr_1_2,h⟩ := bsome h
 refine rs hc none [oN,oN,oc (I r_1_2),oN,oN] [(4,.bool (decide (r_1_2 ≥ 0)))] [] (ai (slices_IndexFunc_int_Kimpl_typerusedOk_c1_s _ _ hr_1_2) (ai bod_248 (ai (oi (I r_1_2)) trivial))) ?_
 refine rt ?_
 obtain rfl := os h
 exact rq [true]
def impl_typerusedOk (p : GTyper × (List Int) × Int) : Option (Bool) :=
 match p with
 | (p0,l1,g2) =>
  (slices_ContainsFunc_int_Kimpl_typerusedOk_c1 (l1,p0,g2)) >>= fun r_1_2 =>
  some (!r_1_2)
def M_impl_typerusedOk (p : GTyper × (List Int) × Int) (r : Bool) : Prop :=
 match p with
 | (p0,l1,g2) => FnSound Tryz.prog 224 [aTyper p0,sI l1,I g2] (.bool r) []
theorem impl_typerusedOk_s : ∀ p r,impl_typerusedOk p = some r → M_impl_typerusedOk p r := by
 rintro ⟨p0,l1,g2⟩ r h
 unfold impl_typerusedOk at h
 refine b0 Tryz.f224 B224 11 [(0,aTyper p0),(1,sI l1),(2,I g2)] fun c hc => ?_
 refine rs hc none [some (.new 1),some (.new 2),oN] [(1,sI l1),(3,.ra 1 0),(5,.ra 2 0)] [(1,bTyper p0),(2,.box [I g2])] trivial ?_
 obtain ⟨r_1_2,hr_1_2,h⟩ := bsome h
 refine rs hc none [oN,oN,oc (.bool r_1_2),oN,oN] [(6,.bool (!r_1_2))] [] (ai (slices_ContainsFunc_int_Kimpl_typerusedOk_c1_s _ _ hr_1_2) (ai bod_238 (ai (Or.inr rfl : ([1,2] : List Nat) = [] ∨ noSh (.bool r_1_2) = true) trivial))) ?_
 refine rt ?_
 obtain rfl := os h
 exact rq [true]
def impl_typerscaled_F1 (c : Ctx) : (List Int) → Exit → AState → Prop
 | out_5 => Into c (.exit 0) (mkS [(7,.rs 2)] [(2,rI out_5)])
end Go.Am
