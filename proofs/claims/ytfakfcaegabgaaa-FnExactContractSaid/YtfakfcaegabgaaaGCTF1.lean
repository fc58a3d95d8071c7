/- Functions of the program as pure functions, and that it computes them. Printed by a program of mine (gen.py). -/
import Derived.Test.YtfakfcaegabgaaaGCTF0
set_option linter.unusedVariables false
set_option linter.unusedSimpArgs false
set_option maxRecDepth 100000
namespace Go.Am
open Go Go.Proofs
def spec_l2Node (p : GTerm × Int × Int × Bool) : Option (Bool) :=
 match p with
 | (t0, n1, size2, closed3) =>
  (spec_l2Many t0.fOp) >>= fun r_1_5 =>
  if ((t0.fKids.length : Int) != r_1_5) = true then
   some false
  else
   ((
    if (t0.fOp == 0) = true then
     (spec_l1In (t0.fN, 0, (wr (n1 - 1)))) >>= fun r_6_4 =>
     if r_6_4 = true then
      some (.inl ())
     else
      some (.inr false)
    else
     ((
      if (t0.fOp == 1) = true then
       (spec_l1In (t0.fN, 0, 2)) >>= fun r_9_2 =>
       if r_9_2 = true then
        some (.inl ())
       else
        some (.inr false)
      else
       (spec_l2Has t0.fOp) >>= fun r_11_2 =>
       ((
        if r_11_2 = true then
         (
          if (decide (t0.fN ≥ size2)) = true then
           some (true)
          else
           if (decide (t0.fN < (-1))) = true then
            some (true)
           else
            if closed3 = true then
             some ((decide (t0.fN < 0)))
            else
             some (false)
         ) >>= fun v_7 =>
         if v_7 = true then
          some (.inr false)
         else
          some (.inl ())
        else
         if (t0.fN != 0) = true then
          some (.inr false)
         else
          some (.inl ())) : Option ((Unit) ⊕ (Bool))) >>= fun fl => match fl with
       | .inl () =>
        some (.inl ())
       | .inr r =>
        some (.inr r)) : Option ((Unit) ⊕ (Bool))) >>= fun fl => match fl with
     | .inl () =>
      some (.inl ())
     | .inr r =>
      some (.inr r)) : Option ((Unit) ⊕ (Bool))) >>= fun fl => match fl with
   | .inl () =>
    (spec_l2Typed t0.fOp) >>= fun r_14_2 =>
    if r_14_2 = true then
     (
      (spec_l2Type t0.fType) >>= fun r_16_2 =>
      if r_16_2 = true then
       (spec_l2Graded (t0.fType, size2, closed3)) >>= fun r_16_8 =>
       some (r_16_8)
      else
       some (false)
     ) >>= fun v_15 =>
     some v_15
    else
     some ((t0.fType.length : Int) == 0)
   | .inr r =>
    some r
def M_spec_l2Node (p : GTerm × Int × Int × Bool) (r : Bool) : Prop :=
 match p with
 | (t0, n1, size2, closed3) => FnSound Try.prog 133 [aTerm t0, I n1, I size2, .bool closed3] (.bool r) []
theorem spec_l2Node_s : ∀ p r, spec_l2Node p = some r → M_spec_l2Node p r := by
 rintro ⟨t0, n1, size2, closed3⟩ r h
 unfold spec_l2Node at h
 show FnSound Try.prog 133 [aTerm t0, I n1, I size2, .bool closed3] (.bool r) []
 refine FnSound.body0 tiok (fn := Try.f133) (code := B133) (by kernel_rfl) (by kernel_rfl) (by kernel_rfl) (by kernel_rfl) (nt := 76) (by kernel_rfl) (by kernel_rfl) (T := [(0, aTerm t0), (1, I n1), (2, I size2), (3, .bool closed3)]) (O := []) (by kernel_rfl) (by kernel_rfl) (fun c hc => ?_)
 refine sN ?_
 refine rg hc none [some (.new 1), oN] [(1, I n1), (2, I size2), (3, .bool closed3), (4, .ra 1 0)] [(1, bTerm t0)] trivial ?_
 refine seqQ_norm ?_
 refine sN ?_
 refine sN ?_
 obtain ⟨r_1_5, hr_1_5, h⟩ := bsome h
 refine rg hc (rx [[0], [1], [2], [0], [0, 3], [0, 3, 4], [6]]) [oN, oN, some (.eqv (.no) ⟨[(11, I (t0.fKids.length : Int))], [], []⟩), oN, oN, oc (I r_1_5), oN] [(1, I n1), (2, I size2), (3, .bool closed3), (4, .ra 1 0), (15, .bool ((t0.fKids.length : Int) != r_1_5))] [(1, bTerm t0)] (ai (lenT (d := 11) GTerm_S t0.fKids) (ai (spec_l2Many_s _ _ hr_1_5) (ai bod_163 (ai (oi (I r_1_5)) trivial)))) ?_
 refine seqQ_norm ?_
 rcases itesome h with ⟨hb_1, h⟩ | ⟨hb_1, h⟩
 ·refine cT (((t0.fKids.length : Int) != r_1_5)) hb_1 ?_
  refine sN ?_
  refine rg0 hc 1 [(8, .bool false)] [] ?_
  refine seqQ_norm ?_
  refine Wp.retN (by kernel_rfl) ?_
  refine seqQ_ret ?_
  obtain rfl := Option.some.inj h
  exact RetQ.ret (fl := [true]) (by kernel_rfl)
 ·refine cF (((t0.fKids.length : Int) != r_1_5)) hb_1 ?_
  refine Wp.skipN (by kernel_rfl) ?_
  refine seqQ_norm ?_
  refine sN ?_
  refine Wp.blockN (i := 0) (by kernel_rfl) ?_
  refine sN ?_
  refine rg0 hc 4 [(1, I n1), (2, I size2), (3, .bool closed3), (4, .ra 1 0), (19, .bool (t0.fOp == 0))] [(1, bTerm t0)] ?_
  refine seqQ_norm ?_
  obtain ⟨fl, hj_13, h⟩ := bsome h
  have hF : Wp Try.prog c (cr (cl (cl (cr (cr B133))))) (spec_l2Node_F3 c t0 size2 closed3 fl) (mkS [(1, I n1), (2, I size2), (3, .bool closed3), (4, .ra 1 0), (19, .bool (t0.fOp == 0))] [(1, bTerm t0)]) := by
   replace h := hj_13
   rcases itesome h with ⟨hb_2, h⟩ | ⟨hb_2, h⟩
   ·refine cT ((t0.fOp == 0)) hb_2 ?_
    refine sN ?_
    obtain ⟨r_6_4, hr_6_4, h⟩ := bsome h
    refine rg hc none [oN, oN, oN, oN, oc (.bool r_6_4), oN] [(2, I size2), (3, .bool closed3), (4, .ra 1 0), (28, .bool (!r_6_4))] [(1, bTerm t0)] (ai (spec_l1In_s _ _ hr_6_4) (ai bod_57 (ai (oi (.bool r_6_4)) trivial))) ?_
    refine seqQ_norm ?_
    rcases itesome h with ⟨hb_3, h⟩ | ⟨hb_3, h⟩
    ·refine cF (!r_6_4) (nF hb_3) ?_
     refine Wp.skipN (by kernel_rfl) ?_
     obtain rfl := Option.some.inj h
     exact Into.view (fun a w hv => SRx.renL [] hv (by kernel_rfl) (by kernel_rfl) (by kernel_rfl))
    ·refine cT (!r_6_4) (nT hb_3) ?_
     refine sN ?_
     refine rg0 hc 1 [(8, .bool false)] [] ?_
     refine seqQ_norm ?_
     refine Wp.retN (by kernel_rfl) ?_
     obtain rfl := Option.some.inj h
     exact RetE.ret (fl := [true]) (by kernel_rfl)
   ·refine cF ((t0.fOp == 0)) hb_2 ?_
    refine sN ?_
    refine rg0 hc 4 [(2, I size2), (3, .bool closed3), (4, .ra 1 0), (29, .bool (t0.fOp == 1))] [(1, bTerm t0)] ?_
    refine seqQ_norm ?_
    obtain ⟨fl, hj_12, h⟩ := bsome h
    have hF : Wp Try.prog c (cr (cr (cr (cl (cl (cr (cr B133))))))) (spec_l2Node_F2 c t0 size2 closed3 fl) (mkS [(2, I size2), (3, .bool closed3), (4, .ra 1 0), (29, .bool (t0.fOp == 1))] [(1, bTerm t0)]) := by
     replace h := hj_12
     rcases itesome h with ⟨hb_4, h⟩ | ⟨hb_4, h⟩
     ·refine cT ((t0.fOp == 1)) hb_4 ?_
      refine sN ?_
      obtain ⟨r_9_2, hr_9_2, h⟩ := bsome h
      refine rg hc none [oN, oN, oc (.bool r_9_2), oN] [(2, I size2), (3, .bool closed3), (4, .ra 1 0), (36, .bool (!r_9_2))] [(1, bTerm t0)] (ai (spec_l1In_s _ _ hr_9_2) (ai bod_57 (ai (oi (.bool r_9_2)) trivial))) ?_
      refine seqQ_norm ?_
      rcases itesome h with ⟨hb_5, h⟩ | ⟨hb_5, h⟩
      ·refine cF (!r_9_2) (nF hb_5) ?_
       refine Wp.skipN (by kernel_rfl) ?_
       obtain rfl := Option.some.inj h
       exact Into.view (fun a w hv => SRx.renL [] hv (by kernel_rfl) (by kernel_rfl) (by kernel_rfl))
      ·refine cT (!r_9_2) (nT hb_5) ?_
       refine sN ?_
       refine rg0 hc 1 [(8, .bool false)] [] ?_
       refine seqQ_norm ?_
       refine Wp.retN (by kernel_rfl) ?_
       obtain rfl := Option.some.inj h
       exact RetE.ret (fl := [true]) (by kernel_rfl)
     ·refine cF ((t0.fOp == 1)) hb_4 ?_
      refine sN ?_
      obtain ⟨r_11_2, hr_11_2, h⟩ := bsome h
      refine rg hc none [oN, oN, oc (.bool r_11_2), oN] [(2, I size2), (3, .bool closed3), (4, .ra 1 0), (37, .bool r_11_2)] [(1, bTerm t0)] (ai (spec_l2Has_s _ _ hr_11_2) (ai bod_108 (ai (oi (.bool r_11_2)) trivial))) ?_
      refine seqQ_norm ?_
      obtain ⟨fl, hj_11, h⟩ := bsome h
      have hF : Wp Try.prog c (cr (cr (cr (cr (cr (cl (cl (cr (cr B133))))))))) (spec_l2Node_F1 c t0 size2 closed3 fl) (mkS [(2, I size2), (3, .bool closed3), (4, .ra 1 0), (37, .bool r_11_2)] [(1, bTerm t0)]) := by
       replace h := hj_11
       rcases itesome h with ⟨hb_6, h⟩ | ⟨hb_6, h⟩
       ·refine cT r_11_2 hb_6 ?_
        refine sN ?_
        obtain ⟨v_7, hj_8, h⟩ := bsome h
        refine Wp.into (x := .normal) (mkS [(2, I size2), (3, .bool closed3), (4, .ra 1 0), (57, .bool v_7)] [(1, bTerm t0)]) ?_ ?_
        ·replace h := hj_8
         rcases itesome h with ⟨hb_12_0, h⟩ | ⟨hb_12_0, h⟩
         ·refine rg hc none [oN, oN, oN, oN, oN, o_, o_, o_, oT, oN, o_, o_, o_, o_, o_, o_, oT] [(2, I size2), (3, .bool closed3), (4, .ra 1 0), (57, .bool true)] [(1, bTerm t0)] (ar 3 (neF hb_12_0) (ai hb_12_0 (ar 3 nf (ai tt trivial)))) ?_
          obtain rfl := Option.some.inj h
          exact Into.mk
         ·rcases itesome h with ⟨hb_12_1, h⟩ | ⟨hb_12_1, h⟩
          ·refine rg hc none [oN, oN, oN, oN, oN, oN, oN, oN, oF, oN, o_, o_, o_, o_, o_, o_, oT] [(2, I size2), (3, .bool closed3), (4, .ra 1 0), (57, .bool true)] [(1, bTerm t0)] (ar 4 hb_12_0 (ar 3 (neF hb_12_1) (ai hb_12_1 trivial))) ?_
           obtain rfl := Option.some.inj h
           exact Into.mk
          ·rcases itesome h with ⟨hb_12_2, h⟩ | ⟨hb_12_2, h⟩
           ·refine rg hc none [oN, oN, oN, oN, oN, oN, oN, oN, oF, oN, oN, oN, oN, oN, oN, oT, oF] [(2, I size2), (3, .bool closed3), (4, .ra 1 0), (57, .bool (decide (t0.fN < 0)))] [(1, bTerm t0)] (ar 4 hb_12_0 (ar 2 hb_12_1 (ar 3 hb_12_2 (ai hb_12_1 (ai hb_12_2 (ai hb_12_1 trivial)))))) ?_
            obtain rfl := Option.some.inj h
            exact Into.mk
           ·refine rg hc none [oN, oN, oN, oN, oN, oN, oN, oN, oF, oN, oN, oN, o_, o_, o_, oF, oF] [(2, I size2), (3, .bool closed3), (4, .ra 1 0), (57, .bool false)] [(1, bTerm t0)] (ar 4 hb_12_0 (ar 2 hb_12_1 (ar 3 (neT hb_12_2) (ai hb_12_1 (ai hb_12_2 (ai hb_12_1 trivial)))))) ?_
            obtain rfl := Option.some.inj h
            exact Into.mk
        ·clear hj_8
         refine seqQ_norm ?_
         rcases itesome h with ⟨hb_9, h⟩ | ⟨hb_9, h⟩
         ·refine cT v_7 hb_9 ?_
          refine sN ?_
          refine rg0 hc 1 [(8, .bool false)] [] ?_
          refine seqQ_norm ?_
          refine Wp.retN (by kernel_rfl) ?_
          obtain rfl := Option.some.inj h
          exact RetE.ret (fl := [true]) (by kernel_rfl)
         ·refine cF v_7 hb_9 ?_
          refine Wp.skipN (by kernel_rfl) ?_
          obtain rfl := Option.some.inj h
          exact Into.view (fun a w hv => SRx.renL [] hv (by kernel_rfl) (by kernel_rfl) (by kernel_rfl))
       ·refine cF r_11_2 hb_6 ?_
        refine sN ?_
        refine rg0 hc 3 [(2, I size2), (3, .bool closed3), (4, .ra 1 0), (18, .bool (t0.fN != 0))] [(1, bTerm t0)] ?_
        refine seqQ_norm ?_
        rcases itesome h with ⟨hb_10, h⟩ | ⟨hb_10, h⟩
        ·refine cT ((t0.fN != 0)) hb_10 ?_
         refine sN ?_
         refine rg0 hc 1 [(8, .bool false)] [] ?_
         refine seqQ_norm ?_
         refine Wp.retN (by kernel_rfl) ?_
         obtain rfl := Option.some.inj h
         exact RetE.ret (fl := [true]) (by kernel_rfl)
        ·refine cF ((t0.fN != 0)) hb_10 ?_
         refine Wp.skipN (by kernel_rfl) ?_
         obtain rfl := Option.some.inj h
         exact Into.view (fun a w hv => SRx.renL [] hv (by kernel_rfl) (by kernel_rfl) (by kernel_rfl))
      rcases fl with ⟨⟩ | r
      ·refine Wp.into (x := .normal) (mkS [(2, I size2), (3, .bool closed3), (4, .ra 1 0)] [(1, bTerm t0)]) hF ?_
       obtain rfl := Option.some.inj h
       exact Into.mk
      ·refine Wp.mono hF ?_
       rintro _ _ ⟨rfl, hfin⟩
       obtain rfl := Option.some.inj h
       exact ⟨rfl, hfin⟩
    rcases fl with ⟨⟩ | r
    ·refine Wp.into (x := .normal) (mkS [(2, I size2), (3, .bool closed3), (4, .ra 1 0)] [(1, bTerm t0)]) hF ?_
     obtain rfl := Option.some.inj h
     exact Into.mk
    ·refine Wp.mono hF ?_
     rintro _ _ ⟨rfl, hfin⟩
     obtain rfl := Option.some.inj h
     exact ⟨rfl, hfin⟩
  rcases fl with ⟨⟩ | r
  ·refine Wp.into (x := .normal) (mkS [(2, I size2), (3, .bool closed3), (4, .ra 1 0)] [(1, bTerm t0)]) hF ?_
   refine blockQ_norm ?_
   refine seqQ_norm ?_
   refine sN ?_
   refine sN ?_
   obtain ⟨r_14_2, hr_14_2, h⟩ := bsome h
   refine rg hc none [oN, oN, oc (.bool r_14_2), oN] [(2, I size2), (3, .bool closed3), (4, .ra 1 0), (61, .bool (!r_14_2))] [(1, bTerm t0)] (ai (spec_l2Typed_s _ _ hr_14_2) (ai bod_164 (ai (oi (.bool r_14_2)) trivial))) ?_
   refine seqQ_norm ?_
   rcases itesome h with ⟨hb_14, h⟩ | ⟨hb_14, h⟩
   ·refine cF (!r_14_2) (nF hb_14) ?_
    refine Wp.skipN (by kernel_rfl) ?_
    refine seqQ_norm ?_
    refine sN ?_
    obtain ⟨v_15, hj_16, h⟩ := bsome h
    refine Wp.into (x := .normal) (mkS [(8, .bool v_15)] []) ?_ ?_
    ·replace h := hj_16
     obtain ⟨r_16_2, hr_16_2, h⟩ := bsome h
     rcases itesome h with ⟨hb_16_0, h⟩ | ⟨hb_16_0, h⟩
     ·obtain ⟨r_16_8, hr_16_8, h⟩ := bsome h
      refine rg hc none [oN, oN, oc (.bool r_16_2), oN, oN, oN, oN, oN, oc (.bool r_16_8), oT, oN] [(8, .bool r_16_8)] [] (ai (spec_l2Type_s _ _ hr_16_2) (ai bod_86 (ai (oi (.bool r_16_2)) (ar 5 hb_16_0 (ai (spec_l2Graded_s _ _ hr_16_8) (ai bod_87 (ai (oi (.bool r_16_8)) (ai hb_16_0 trivial)))))))) ?_
      obtain rfl := Option.some.inj h
      exact Into.mk
     ·refine rg hc none [oN, oN, oc (.bool r_16_2), oN, o_, o_, o_, o_, o_, oF, oN] [(8, .bool false)] [] (ai (spec_l2Type_s _ _ hr_16_2) (ai bod_86 (ai (oi (.bool r_16_2)) (ar 5 (neT hb_16_0) (ai hb_16_0 trivial))))) ?_
      obtain rfl := Option.some.inj h
      exact Into.mk
    ·clear hj_16
     refine seqQ_norm ?_
     refine Wp.retN (by kernel_rfl) ?_
     obtain rfl := Option.some.inj h
     exact RetQ.ret (fl := [true]) (by kernel_rfl)
   ·refine cT (!r_14_2) (nT hb_14) ?_
    refine sN ?_
    refine rg hc none [oN, oN, some (.eqv (.no) ⟨[(64, I (t0.fType.length : Int))], [], []⟩), oN, oN] [(8, .bool ((t0.fType.length : Int) == 0))] [] (ai (lenT (d := 64) I t0.fType) trivial) ?_
    refine seqQ_norm ?_
    refine Wp.retN (by kernel_rfl) ?_
    refine seqQ_ret ?_
    obtain rfl := Option.some.inj h
    exact RetQ.ret (fl := [true]) (by kernel_rfl)
  ·refine Wp.mono hF ?_
   rintro _ _ ⟨rfl, hfin⟩
   refine blockQ_ret ?_
   refine seqQ_ret ?_
   obtain rfl := Option.some.inj h
   exact ⟨.inl rfl, hfin⟩
def spec_l2Adds (p : Int × Int) : Option (Int) :=
 match p with
 | (op0, kid1) =>
  (
   if (op0 == 5) = true then
    some ((kid1 == 1))
   else
    some (false)
  ) >>= fun v_1 =>
  if v_1 = true then
   some 2
  else
   (
    if (op0 == 8) = true then
     if (decide (kid1 > 0)) = true then
      some (true)
     else
      if (op0 == 9) = true then
       some (true)
      else
       if (op0 == 12) = true then
        some ((kid1 == 1))
       else
        some (false)
    else
     if (op0 == 9) = true then
      some (true)
     else
      if (op0 == 12) = true then
       some ((kid1 == 1))
      else
       some (false)
   ) >>= fun v_4 =>
   if v_4 = true then
    some 1
   else
    some 0
def M_spec_l2Adds (p : Int × Int) (r : Int) : Prop :=
 match p with
 | (op0, kid1) => FnSound Try.prog 134 [I op0, I kid1] (I r) []
theorem spec_l2Adds_s : ∀ p r, spec_l2Adds p = some r → M_spec_l2Adds p r := by
 rintro ⟨op0, kid1⟩ r h
 unfold spec_l2Adds at h
 show FnSound Try.prog 134 [I op0, I kid1] (I r) []
 refine FnSound.body0 tiok (fn := Try.f134) (code := B134) (by kernel_rfl) (by kernel_rfl) (by kernel_rfl) (by kernel_rfl) (nt := 31) (by kernel_rfl) (by kernel_rfl) (T := [(0, I op0), (1, I kid1)]) (O := []) (by kernel_rfl) (by kernel_rfl) (fun c hc => ?_)
 refine sN ?_
 refine rg0 hc 1 [(0, I op0), (1, I kid1)] [] ?_
 refine seqQ_norm ?_
 refine sN ?_
 refine Wp.blockN (i := 0) (by kernel_rfl) ?_
 refine sN ?_
 obtain ⟨v_1, hj_2, h⟩ := bsome h
 refine Wp.into (x := .normal) (mkS [(0, I op0), (1, I kid1), (5, .bool v_1)] []) ?_ ?_
 ·replace h := hj_2
  rcases itesome h with ⟨hb_1_0, h⟩ | ⟨hb_1_0, h⟩
  ·refine rg hc none [oN, oN, oN, oN, oN, oT, oN] [(0, I op0), (1, I kid1), (5, .bool (kid1 == 1))] [] (ar 3 hb_1_0 trivial) ?_
   obtain rfl := Option.some.inj h
   exact Into.mk
  ·refine rg hc none [oN, oN, oN, o_, o_, oF, oN] [(0, I op0), (1, I kid1), (5, .bool false)] [] (ar 2 (neT hb_1_0) (ai hb_1_0 trivial)) ?_
   obtain rfl := Option.some.inj h
   exact Into.mk
 ·clear hj_2
  refine seqQ_norm ?_
  rcases itesome h with ⟨hb_3, h⟩ | ⟨hb_3, h⟩
  ·refine cT v_1 hb_3 ?_
   refine sN ?_
   refine rg0 hc 1 [(4, I 2)] [] ?_
   refine seqQ_norm ?_
   refine Wp.retN (by kernel_rfl) ?_
   refine blockQ_ret ?_
   refine seqQ_ret ?_
   obtain rfl := Option.some.inj h
   exact RetQ.ret (fl := [true]) (by kernel_rfl)
  ·refine cF v_1 hb_3 ?_
   refine sN ?_
   obtain ⟨v_4, hj_5, h⟩ := bsome h
   refine Wp.into (x := .normal) (mkS [(12, .bool v_4)] []) ?_ ?_
   ·replace h := hj_5
    rcases itesome h with ⟨hb_3_0, h⟩ | ⟨hb_3_0, h⟩
    ·rcases itesome h with ⟨hb_3_1, h⟩ | ⟨hb_3_1, h⟩
     ·refine rg hc none [oN, oN, oN, oN, oN, oT, oN, o_, o_, oT, oN, o_, o_, o_, o_, o_, o_, oT, oN] [(12, .bool true)] [] (ar 3 hb_3_0 (ar 2 (neF hb_3_1) (ai hb_3_1 (ar 4 nf (ai tt trivial))))) ?_
      obtain rfl := Option.some.inj h
      exact Into.mk
     ·rcases itesome h with ⟨hb_3_2, h⟩ | ⟨hb_3_2, h⟩
      ·refine rg hc none [oN, oN, oN, oN, oN, oT, oN, oN, oN, oF, oN, o_, o_, o_, o_, o_, o_, oT, oN] [(12, .bool true)] [] (ar 3 hb_3_0 (ar 3 hb_3_1 (ar 4 (neF hb_3_2) (ai hb_3_2 trivial)))) ?_
       obtain rfl := Option.some.inj h
       exact Into.mk
      ·rcases itesome h with ⟨hb_3_3, h⟩ | ⟨hb_3_3, h⟩
       ·refine rg hc none [oN, oN, oN, oN, oN, oT, oN, oN, oN, oF, oN, oN, oN, oN, oN, oN, oT, oF, oN] [(12, .bool (kid1 == 1))] [] (ar 3 hb_3_0 (ar 3 hb_3_1 (ar 3 hb_3_2 (ar 2 hb_3_3 (ai hb_3_2 (ai hb_3_3 (ai hb_3_2 trivial))))))) ?_
        obtain rfl := Option.some.inj h
        exact Into.mk
       ·refine rg hc none [oN, oN, oN, oN, oN, oT, oN, oN, oN, oF, oN, oN, oN, oN, o_, o_, oF, oF, oN] [(12, .bool false)] [] (ar 3 hb_3_0 (ar 3 hb_3_1 (ar 3 hb_3_2 (ar 2 (neT hb_3_3) (ai hb_3_2 (ai hb_3_3 (ai hb_3_2 trivial))))))) ?_
        obtain rfl := Option.some.inj h
        exact Into.mk
    ·rcases itesome h with ⟨hb_3_1, h⟩ | ⟨hb_3_1, h⟩
     ·refine rg hc none [oN, oN, oN, o_, o_, oF, oN, oN, oN, oF, oN, o_, o_, o_, o_, o_, o_, oT, oN] [(12, .bool true)] [] (ar 2 (neT hb_3_0) (ai hb_3_0 (ar 3 (rfl : false = false) (ar 4 (neF hb_3_1) (ai hb_3_1 trivial))))) ?_
      obtain rfl := Option.some.inj h
      exact Into.mk
     ·rcases itesome h with ⟨hb_3_2, h⟩ | ⟨hb_3_2, h⟩
      ·refine rg hc none [oN, oN, oN, o_, o_, oF, oN, oN, oN, oF, oN, oN, oN, oN, oN, oN, oT, oF, oN] [(12, .bool (kid1 == 1))] [] (ar 2 (neT hb_3_0) (ai hb_3_0 (ar 3 (rfl : false = false) (ar 3 hb_3_1 (ar 2 hb_3_2 (ai hb_3_1 (ai hb_3_2 (ai hb_3_1 trivial)))))))) ?_
       obtain rfl := Option.some.inj h
       exact Into.mk
      ·refine rg hc none [oN, oN, oN, o_, o_, oF, oN, oN, oN, oF, oN, oN, oN, oN, o_, o_, oF, oF, oN] [(12, .bool false)] [] (ar 2 (neT hb_3_0) (ai hb_3_0 (ar 3 (rfl : false = false) (ar 3 hb_3_1 (ar 2 (neT hb_3_2) (ai hb_3_1 (ai hb_3_2 (ai hb_3_1 trivial)))))))) ?_
       obtain rfl := Option.some.inj h
       exact Into.mk
   ·clear hj_5
    refine seqQ_norm ?_
    rcases itesome h with ⟨hb_6, h⟩ | ⟨hb_6, h⟩
    ·refine cT v_4 hb_6 ?_
     refine sN ?_
     refine rg0 hc 1 [(4, I 1)] [] ?_
     refine seqQ_norm ?_
     refine Wp.retN (by kernel_rfl) ?_
     refine blockQ_ret ?_
     refine seqQ_ret ?_
     obtain rfl := Option.some.inj h
     exact RetQ.ret (fl := [true]) (by kernel_rfl)
    ·refine cF v_4 hb_6 ?_
     refine Wp.skipN (by kernel_rfl) ?_
     refine blockQ_norm ?_
     refine seqQ_norm ?_
     refine sN ?_
     refine rg0 hc 1 [(4, I 0)] [] ?_
     refine seqQ_norm ?_
     refine Wp.retN (by kernel_rfl) ?_
     obtain rfl := Option.some.inj h
     exact RetQ.ret (fl := [true]) (by kernel_rfl)
def spec_l2Term_F1 (c : Ctx) : (Unit) ⊕ (Bool) → Exit → AState → Prop
 | .inl _ => Into c (.exit 0) (mkS [] [])
 | .inr r => RetE TIx Try.f85 [] (.bool r)
mutual
def spec_l2Term (p : GTerm × Int × Int × Bool) : Option (Bool) :=
 match p with
 | (t0, n1, size2, closed3) =>
  (spec_l2Node (t0, n1, size2, closed3)) >>= fun r_1_4 =>
  if r_1_4 = true then
   (spec_l2Term_l0 (t0, n1, size2, closed3, 0)) >>= fun fl => match fl with
   | .inl () =>
    some true
   | .inr r =>
    some r
  else
   some false
 partial_fixpoint
def spec_l2Term_l0 (p : GTerm × Int × Int × Bool × Int) : Option ((Unit) ⊕ (Bool)) :=
 match p with
 | (t0, n1, size2, closed3, k_4) =>
  if (decide (k_4 < (t0.fKids.length : Int))) = true then
   (idx t0.fKids k_4) >>= fun e_6_3 =>
   (spec_l2Adds (t0.fOp, k_4)) >>= fun r_6_9 =>
   (spec_l2Term (e_6_3, (wr (n1 + r_6_9)), size2, closed3)) >>= fun r_6_13 =>
   if r_6_13 = true then
    spec_l2Term_l0 (t0, n1, size2, closed3, (wr (k_4 + 1)))
   else
    some (.inr false)
  else
   some (.inl ())
 partial_fixpoint
end
def M_spec_l2Term (p : GTerm × Int × Int × Bool) (r : Bool) : Prop :=
 match p with
 | (t0, n1, size2, closed3) => FnSound Try.prog 85 [aTerm t0, I n1, I size2, .bool closed3] (.bool r) []
def M_spec_l2Term_l0 (p : GTerm × Int × Int × Bool × Int) (fl : (Unit) ⊕ (Bool)) : Prop :=
 match p with
 | (t0, n1, size2, closed3, k_4) => ∀ c : Ctx, c.nt = 38 → WpL Try.prog c (cl (cl (cr (cl (cr (cr B85)))))) (spec_l2Term_F1 c fl) (mkS [(1, I n1), (2, I size2), (3, .bool closed3), (4, .ra 1 0), (9, I k_4)] [(1, bTerm t0)])
theorem spec_l2Term_all : (∀ p r, spec_l2Term p = some r → M_spec_l2Term p r) ∧ (∀ p r, spec_l2Term_l0 p = some r → M_spec_l2Term_l0 p r) := by
 refine spec_l2Term.mutual_partial_correctness M_spec_l2Term M_spec_l2Term_l0 ?_ ?_
 ·rintro spec_l2Term_l0_f spec_l2Term_l0_ih ⟨t0, n1, size2, closed3⟩ r h
  show FnSound Try.prog 85 [aTerm t0, I n1, I size2, .bool closed3] (.bool r) []
  refine FnSound.body0 tiok (fn := Try.f85) (code := B85) (by kernel_rfl) (by kernel_rfl) (by kernel_rfl) (by kernel_rfl) (nt := 38) (by kernel_rfl) (by kernel_rfl) (T := [(0, aTerm t0), (1, I n1), (2, I size2), (3, .bool closed3)]) (O := []) (by kernel_rfl) (by kernel_rfl) (fun c hc => ?_)
  refine sN ?_
  refine rg hc none [some (.new 1), oN] [(1, I n1), (2, I size2), (3, .bool closed3), (4, .ra 1 0)] [(1, bTerm t0)] trivial ?_
  refine seqQ_norm ?_
  refine sN ?_
  refine sN ?_
  obtain ⟨r_1_4, hr_1_4, h⟩ := bsome h
  refine rg hc none [oN, oN, oN, oN, oc (.bool r_1_4), oN] [(1, I n1), (2, I size2), (3, .bool closed3), (4, .ra 1 0), (15, .bool (!r_1_4))] [(1, bTerm t0)] (ai (spec_l2Node_s _ _ hr_1_4) (ai bod_133 (ai (oi (.bool r_1_4)) trivial))) ?_
  refine seqQ_norm ?_
  rcases itesome h with ⟨hb_1, h⟩ | ⟨hb_1, h⟩
  ·refine cF (!r_1_4) (nF hb_1) ?_
   refine Wp.skipN (by kernel_rfl) ?_
   refine seqQ_norm ?_
   refine sN ?_
   refine sN ?_
   refine rg0 hc 1 [(1, I n1), (2, I size2), (3, .bool closed3), (4, .ra 1 0), (9, I 0)] [(1, bTerm t0)] ?_
   refine seqQ_norm ?_
   refine Wp.blockN (i := 0) (by kernel_rfl) ?_
   obtain ⟨fl, hl_7, h⟩ := bsome h
   have hL := spec_l2Term_l0_ih _ _ hl_7 c hc
   refine Wp.loopN (by kernel_rfl) ?_
   rcases fl with ⟨⟩ | r
   ·refine WpL.into (e := (.exit 0)) (mkS [] []) hL ?_
    refine blockQ_hit ?_
    refine seqQ_norm ?_
    refine sN ?_
    refine rg0 hc 1 [(8, .bool true)] [] ?_
    refine seqQ_norm ?_
    refine Wp.retN (by kernel_rfl) ?_
    obtain rfl := Option.some.inj h
    exact RetQ.ret (fl := [true]) (by kernel_rfl)
   ·refine WpL.mono hL ?_
    rintro _ _ ⟨rfl, hfin⟩
    refine blockQ_ret ?_
    refine seqQ_ret ?_
    obtain rfl := Option.some.inj h
    exact ⟨.inl rfl, hfin⟩
  ·refine cT (!r_1_4) (nT hb_1) ?_
   refine sN ?_
   refine rg0 hc 1 [(8, .bool false)] [] ?_
   refine seqQ_norm ?_
   refine Wp.retN (by kernel_rfl) ?_
   refine seqQ_ret ?_
   obtain rfl := Option.some.inj h
   exact RetQ.ret (fl := [true]) (by kernel_rfl)
 ·rintro spec_l2Term_f spec_l2Term_l0_f spec_l2Term_ih spec_l2Term_l0_ih ⟨t0, n1, size2, closed3, k_4⟩ r h
  intro c hc
  show WpL Try.prog c (cl (cl (cr (cl (cr (cr B85)))))) (spec_l2Term_F1 c r) (mkS [(1, I n1), (2, I size2), (3, .bool closed3), (4, .ra 1 0), (9, I k_4)] [(1, bTerm t0)])
  refine WpL.step ?_
  refine sN ?_
  refine sN ?_
  refine rg hc none [oN, oN, oN, some (.eqv (.no) ⟨[(19, I (t0.fKids.length : Int))], [], []⟩), oN] [(1, I n1), (2, I size2), (3, .bool closed3), (4, .ra 1 0), (9, I k_4), (20, .bool (decide (k_4 < (t0.fKids.length : Int))))] [(1, bTerm t0)] (ai (lenT (d := 19) GTerm_S t0.fKids) trivial) ?_
  refine seqQ_norm ?_
  rcases itesome h with ⟨hb_5, h⟩ | ⟨hb_5, h⟩
  ·refine cT ((decide (k_4 < (t0.fKids.length : Int)))) hb_5 ?_
   refine Wp.skipN (by kernel_rfl) ?_
   refine seqQ_norm ?_
   refine sN ?_
   refine Wp.blockN (i := 1) (by kernel_rfl) ?_
   refine sN ?_
   obtain ⟨e_6_3, hi_6_3, h⟩ := bsome h
   obtain ⟨r_6_9, hr_6_9, h⟩ := bsome h
   obtain ⟨r_6_13, hr_6_13, h⟩ := bsome h
   refine rg hc (rx [[0], [1], [0], [3], [4], [0], [0], [0, 6], [0], [0, 6, 7, 8], [0, 5, 6, 7, 8, 9], [0], [0], [13], [14]]) [oN, oN, oN, some (.el (aTerm e_6_3)), oN, oN, oN, oN, oN, oc (I r_6_9), oN, oN, oN, oc (.bool r_6_13), oN] [(1, I n1), (2, I size2), (3, .bool closed3), (4, .ra 1 0), (9, I k_4), (37, .bool (!r_6_13))] [(1, bTerm t0)] (ai (idx_sl (enc := GTerm_S) (x := aTerm e_6_3) hi_6_3 (eq_GTerm_S e_6_3)) (ai (spec_l2Adds_s _ _ hr_6_9) (ai bod_134 (ai (oi (I r_6_9)) (ai (spec_l2Term_ih _ _ hr_6_13) (ai bod_85 (ai (oi (.bool r_6_13)) trivial))))))) ?_
   refine seqQ_norm ?_
   rcases itesome h with ⟨hb_6, h⟩ | ⟨hb_6, h⟩
   ·refine cF (!r_6_13) (nF hb_6) ?_
    refine Wp.skipN (by kernel_rfl) ?_
    refine blockQ_norm ?_
    refine seqQ_norm ?_
    refine rg0 hc 3 [(1, I n1), (2, I size2), (3, .bool closed3), (4, .ra 1 0), (9, I (wr (k_4 + 1)))] [(1, bTerm t0)] ?_
    refine loopQ_norm ?_
    exact (spec_l2Term_l0_ih _ _ h c hc)
   ·refine cT (!r_6_13) (nT hb_6) ?_
    refine sN ?_
    refine rg0 hc 1 [(8, .bool false)] [] ?_
    refine seqQ_norm ?_
    refine Wp.retN (by kernel_rfl) ?_
    refine blockQ_ret ?_
    refine seqQ_ret ?_
    refine loopQ_ret ?_
    obtain rfl := Option.some.inj h
    exact RetE.ret (fl := [true]) (by kernel_rfl)
  ·refine cF ((decide (k_4 < (t0.fKids.length : Int)))) hb_5 ?_
   refine Wp.exitN (i := 0) (by kernel_rfl) ?_
   refine seqQ_exit ?_
   refine loopQ_exit ?_
   obtain rfl := Option.some.inj h
   exact Into.view (fun a w hv => SRx.renL [] hv (by kernel_rfl) (by kernel_rfl) (by kernel_rfl))
theorem spec_l2Term_s : ∀ p r, spec_l2Term p = some r → M_spec_l2Term p r := spec_l2Term_all.1
theorem spec_l2Term_l0_s : ∀ p r, spec_l2Term_l0 p = some r → M_spec_l2Term_l0 p r := spec_l2Term_all.2
def spec_IsWritten (t0 : GTerm) : Option (Bool) :=
  (
   (spec_l2Left (t0, 400)) >>= fun r_1_1 =>
   if (decide (r_1_1 ≥ 0)) = true then
    (spec_l2Term (t0, 8, 16, false)) >>= fun r_1_5 =>
    some (r_1_5)
   else
    some (false)
  ) >>= fun v_1 =>
  some v_1
def M_spec_IsWritten (t0 : GTerm) (r : Bool) : Prop :=
 FnSound Try.prog 106 [aTerm t0] (.bool r) []
theorem spec_IsWritten_s : ∀ p r, spec_IsWritten p = some r → M_spec_IsWritten p r := by
 rintro t0 r h
 unfold spec_IsWritten at h
 show FnSound Try.prog 106 [aTerm t0] (.bool r) []
 refine FnSound.body0 tiok (fn := Try.f106) (code := B106) (by kernel_rfl) (by kernel_rfl) (by kernel_rfl) (by kernel_rfl) (nt := 10) (by kernel_rfl) (by kernel_rfl) (T := [(0, aTerm t0)]) (O := []) (by kernel_rfl) (by kernel_rfl) (fun c hc => ?_)
 refine sN ?_
 refine rg hc none [some (.new 1), oN] [(1, .ra 1 0)] [(1, bTerm t0)] trivial ?_
 refine seqQ_norm ?_
 refine sN ?_
 obtain ⟨v_1, hj_2, h⟩ := bsome h
 refine Wp.into (x := .normal) (mkS [(2, .bool v_1)] []) ?_ ?_
 ·replace h := hj_2
  obtain ⟨r_1_1, hr_1_1, h⟩ := bsome h
  rcases itesome h with ⟨hb_1_0, h⟩ | ⟨hb_1_0, h⟩
  ·obtain ⟨r_1_5, hr_1_5, h⟩ := bsome h
   refine rg hc none [oN, oc (I r_1_1), oN, oN, oN, oc (.bool r_1_5), oT, oN] [(2, .bool r_1_5)] [] (ai (spec_l2Left_s _ _ hr_1_1) (ai bod_84 (ai (oi (I r_1_1)) (ar 2 hb_1_0 (ai (spec_l2Term_s _ _ hr_1_5) (ai bod_85 (ai (oi (.bool r_1_5)) (ai hb_1_0 trivial)))))))) ?_
   obtain rfl := Option.some.inj h
   exact Into.mk
  ·refine rg hc none [oN, oc (I r_1_1), oN, oN, o_, o_, oF, oN] [(2, .bool false)] [] (ai (spec_l2Left_s _ _ hr_1_1) (ai bod_84 (ai (oi (I r_1_1)) (ar 2 (neT hb_1_0) (ai hb_1_0 trivial))))) ?_
   obtain rfl := Option.some.inj h
   exact Into.mk
 ·clear hj_2
  refine seqQ_norm ?_
  refine Wp.retN (by kernel_rfl) ?_
  obtain rfl := Option.some.inj h
  exact RetQ.ret (fl := [true]) (by kernel_rfl)
def spec_l4Redex (t0 : GTerm) : Option (Bool) :=
  if ((t0.fKids.length : Int) == 0) = true then
   some false
  else
   (idx t0.fKids 0) >>= fun e_3_2 =>
   if (t0.fOp == 2) = true then
    (
     if (e_3_2.fOp == 1) = true then
      (idx t0.fKids 1) >>= fun e_6_5 =>
      some ((e_6_5.fOp == 1))
     else
      some (false)
    ) >>= fun v_3 =>
    some v_3
   else
    if (t0.fOp == 3) = true then
     some (e_3_2.fOp == 1)
    else
     if (t0.fOp == 10) = true then
      some (e_3_2.fOp == 9)
     else
      if (t0.fOp == 5) = true then
       some (e_3_2.fOp == 4)
      else
       if (t0.fOp == 8) = true then
        (
         if (e_3_2.fOp == 6) = true then
          some (true)
         else
          some ((e_3_2.fOp == 7))
        ) >>= fun v_9 =>
        some v_9
       else
        if (t0.fOp == 12) = true then
         some (e_3_2.fOp == 11)
        else
         some false
def M_spec_l4Redex (t0 : GTerm) (r : Bool) : Prop :=
 FnSound Try.prog 93 [aTerm t0] (.bool r) []
theorem spec_l4Redex_s : ∀ p r, spec_l4Redex p = some r → M_spec_l4Redex p r := by
 rintro t0 r h
 unfold spec_l4Redex at h
 show FnSound Try.prog 93 [aTerm t0] (.bool r) []
 refine FnSound.body0 tiok (fn := Try.f93) (code := B93) (by kernel_rfl) (by kernel_rfl) (by kernel_rfl) (by kernel_rfl) (nt := 51) (by kernel_rfl) (by kernel_rfl) (T := [(0, aTerm t0)]) (O := []) (by kernel_rfl) (by kernel_rfl) (fun c hc => ?_)
 refine sN ?_
 refine rg hc none [some (.new 1), oN] [(1, .ra 1 0)] [(1, bTerm t0)] trivial ?_
 refine seqQ_norm ?_
 refine sN ?_
 refine sN ?_
 refine rg hc none [oN, oN, some (.eqv (.no) ⟨[(6, I (t0.fKids.length : Int))], [], []⟩), oN] [(1, .ra 1 0), (7, .bool ((t0.fKids.length : Int) == 0))] [(1, bTerm t0)] (ai (lenT (d := 6) GTerm_S t0.fKids) trivial) ?_
 refine seqQ_norm ?_
 rcases itesome h with ⟨hb_1, h⟩ | ⟨hb_1, h⟩
 ·refine cT (((t0.fKids.length : Int) == 0)) hb_1 ?_
  refine sN ?_
  refine rg0 hc 1 [(2, .bool false)] [] ?_
  refine seqQ_norm ?_
  refine Wp.retN (by kernel_rfl) ?_
  refine seqQ_ret ?_
  obtain rfl := Option.some.inj h
  exact RetQ.ret (fl := [true]) (by kernel_rfl)
 ·refine cF (((t0.fKids.length : Int) == 0)) hb_1 ?_
  refine Wp.skipN (by kernel_rfl) ?_
  refine seqQ_norm ?_
  refine sN ?_
  obtain ⟨e_3_2, hi_3_2, h⟩ := bsome h
  refine rg hc none [oN, oN, some (.el (aTerm e_3_2)), oN, oN, oN] [(1, .ra 1 0), (3, I e_3_2.fOp)] [(1, bTerm t0)] (ai (idx_sl (enc := GTerm_S) (x := aTerm e_3_2) hi_3_2 (eq_GTerm_S e_3_2)) trivial) ?_
  refine seqQ_norm ?_
  refine sN ?_
  refine sN ?_
  refine rg0 hc 2 [(1, .ra 1 0), (3, I e_3_2.fOp), (14, I t0.fOp)] [(1, bTerm t0)] ?_
  refine seqQ_norm ?_
  refine Wp.blockN (i := 0) (by kernel_rfl) ?_
  refine sN ?_
  refine rg0 hc 2 [(1, .ra 1 0), (3, I e_3_2.fOp), (14, I t0.fOp), (15, .bool (t0.fOp == 2))] [(1, bTerm t0)] ?_
  refine seqQ_norm ?_
  rcases itesome h with ⟨hb_2, h⟩ | ⟨hb_2, h⟩
  ·refine cT ((t0.fOp == 2)) hb_2 ?_
   refine sN ?_
   obtain ⟨v_3, hj_4, h⟩ := bsome h
   refine Wp.into (x := .normal) (mkS [(2, .bool v_3)] []) ?_ ?_
   ·replace h := hj_4
    rcases itesome h with ⟨hb_6_0, h⟩ | ⟨hb_6_0, h⟩
    ·obtain ⟨e_6_5, hi_6_5, h⟩ := bsome h
     refine rg hc none [oN, oN, oN, oN, oN, some (.el (aTerm e_6_5)), oN, oN, oN, oT, oN] [(2, .bool (e_6_5.fOp == 1))] [] (ar 3 hb_6_0 (ai (idx_sl (enc := GTerm_S) (x := aTerm e_6_5) hi_6_5 (eq_GTerm_S e_6_5)) (ar 4 hb_6_0 trivial))) ?_
     obtain rfl := Option.some.inj h
     exact Into.mk
    ·refine rg hc none [oN, oN, oN, o_, o_, o_, o_, o_, o_, oF, oN] [(2, .bool false)] [] (ar 6 (neT hb_6_0) (ai hb_6_0 trivial)) ?_
     obtain rfl := Option.some.inj h
     exact Into.mk
   ·clear hj_4
    refine seqQ_norm ?_
    refine Wp.retN (by kernel_rfl) ?_
    refine blockQ_ret ?_
    refine seqQ_ret ?_
    obtain rfl := Option.some.inj h
    exact RetQ.ret (fl := [true]) (by kernel_rfl)
  ·refine cF ((t0.fOp == 2)) hb_2 ?_
   refine sN ?_
   refine rg0 hc 2 [(3, I e_3_2.fOp), (14, I t0.fOp), (27, .bool (t0.fOp == 3))] [] ?_
   refine seqQ_norm ?_
   rcases itesome h with ⟨hb_5, h⟩ | ⟨hb_5, h⟩
   ·refine cT ((t0.fOp == 3)) hb_5 ?_
    refine sN ?_
    refine rg0 hc 3 [(2, .bool (e_3_2.fOp == 1))] [] ?_
    refine seqQ_norm ?_
    refine Wp.retN (by kernel_rfl) ?_
    refine blockQ_ret ?_
    refine seqQ_ret ?_
    obtain rfl := Option.some.inj h
    exact RetQ.ret (fl := [true]) (by kernel_rfl)
   ·refine cF ((t0.fOp == 3)) hb_5 ?_
    refine sN ?_
    refine rg0 hc 2 [(3, I e_3_2.fOp), (14, I t0.fOp), (31, .bool (t0.fOp == 10))] [] ?_
    refine seqQ_norm ?_
    rcases itesome h with ⟨hb_6, h⟩ | ⟨hb_6, h⟩
    ·refine cT ((t0.fOp == 10)) hb_6 ?_
     refine sN ?_
     refine rg0 hc 3 [(2, .bool (e_3_2.fOp == 9))] [] ?_
     refine seqQ_norm ?_
     refine Wp.retN (by kernel_rfl) ?_
     refine blockQ_ret ?_
     refine seqQ_ret ?_
     obtain rfl := Option.some.inj h
     exact RetQ.ret (fl := [true]) (by kernel_rfl)
    ·refine cF ((t0.fOp == 10)) hb_6 ?_
     refine sN ?_
     refine rg0 hc 2 [(3, I e_3_2.fOp), (14, I t0.fOp), (35, .bool (t0.fOp == 5))] [] ?_
     refine seqQ_norm ?_
     rcases itesome h with ⟨hb_7, h⟩ | ⟨hb_7, h⟩
     ·refine cT ((t0.fOp == 5)) hb_7 ?_
      refine sN ?_
      refine rg0 hc 3 [(2, .bool (e_3_2.fOp == 4))] [] ?_
      refine seqQ_norm ?_
      refine Wp.retN (by kernel_rfl) ?_
      refine blockQ_ret ?_
      refine seqQ_ret ?_
      obtain rfl := Option.some.inj h
      exact RetQ.ret (fl := [true]) (by kernel_rfl)
     ·refine cF ((t0.fOp == 5)) hb_7 ?_
      refine sN ?_
      refine rg0 hc 2 [(3, I e_3_2.fOp), (14, I t0.fOp), (39, .bool (t0.fOp == 8))] [] ?_
      refine seqQ_norm ?_
      rcases itesome h with ⟨hb_8, h⟩ | ⟨hb_8, h⟩
      ·refine cT ((t0.fOp == 8)) hb_8 ?_
       refine sN ?_
       obtain ⟨v_9, hj_10, h⟩ := bsome h
       refine Wp.into (x := .normal) (mkS [(2, .bool v_9)] []) ?_ ?_
       ·replace h := hj_10
        rcases itesome h with ⟨hb_14_0, h⟩ | ⟨hb_14_0, h⟩
        ·refine rg hc none [oN, oN, oN, o_, o_, oT, oN] [(2, .bool true)] [] (ar 2 (neF hb_14_0) (ai hb_14_0 trivial)) ?_
         obtain rfl := Option.some.inj h
         exact Into.mk
        ·refine rg hc none [oN, oN, oN, oN, oN, oF, oN] [(2, .bool (e_3_2.fOp == 7))] [] (ar 3 hb_14_0 trivial) ?_
         obtain rfl := Option.some.inj h
         exact Into.mk
       ·clear hj_10
        refine seqQ_norm ?_
        refine Wp.retN (by kernel_rfl) ?_
        refine blockQ_ret ?_
        refine seqQ_ret ?_
        obtain rfl := Option.some.inj h
        exact RetQ.ret (fl := [true]) (by kernel_rfl)
      ·refine cF ((t0.fOp == 8)) hb_8 ?_
       refine sN ?_
       refine rg0 hc 2 [(3, I e_3_2.fOp), (47, .bool (t0.fOp == 12))] [] ?_
       refine seqQ_norm ?_
       rcases itesome h with ⟨hb_11, h⟩ | ⟨hb_11, h⟩
       ·refine cT ((t0.fOp == 12)) hb_11 ?_
        refine sN ?_
        refine rg0 hc 3 [(2, .bool (e_3_2.fOp == 11))] [] ?_
        refine seqQ_norm ?_
        refine Wp.retN (by kernel_rfl) ?_
        refine blockQ_ret ?_
        refine seqQ_ret ?_
        obtain rfl := Option.some.inj h
        exact RetQ.ret (fl := [true]) (by kernel_rfl)
       ·refine cF ((t0.fOp == 12)) hb_11 ?_
        refine Wp.skipN (by kernel_rfl) ?_
        refine blockQ_norm ?_
        refine seqQ_norm ?_
        refine sN ?_
        refine rg0 hc 1 [(2, .bool false)] [] ?_
        refine seqQ_norm ?_
        refine Wp.retN (by kernel_rfl) ?_
        obtain rfl := Option.some.inj h
        exact RetQ.ret (fl := [true]) (by kernel_rfl)
def spec_IsRedex (t0 : GTerm) : Option (Bool) :=
  (
   (spec_IsWritten t0) >>= fun r_1_1 =>
   if r_1_1 = true then
    (spec_l4Redex t0) >>= fun r_1_4 =>
    some (r_1_4)
   else
    some (false)
  ) >>= fun v_1 =>
  some v_1
def M_spec_IsRedex (t0 : GTerm) (r : Bool) : Prop :=
 FnSound Try.prog 79 [aTerm t0] (.bool r) []
theorem spec_IsRedex_s : ∀ p r, spec_IsRedex p = some r → M_spec_IsRedex p r := by
 rintro t0 r h
 unfold spec_IsRedex at h
 show FnSound Try.prog 79 [aTerm t0] (.bool r) []
 refine FnSound.body0 tiok (fn := Try.f79) (code := B79) (by kernel_rfl) (by kernel_rfl) (by kernel_rfl) (by kernel_rfl) (nt := 9) (by kernel_rfl) (by kernel_rfl) (T := [(0, aTerm t0)]) (O := []) (by kernel_rfl) (by kernel_rfl) (fun c hc => ?_)
 refine sN ?_
 refine rg hc none [some (.new 1), oN] [(1, .ra 1 0)] [(1, bTerm t0)] trivial ?_
 refine seqQ_norm ?_
 refine sN ?_
 obtain ⟨v_1, hj_2, h⟩ := bsome h
 refine Wp.into (x := .normal) (mkS [(2, .bool v_1)] []) ?_ ?_
 ·replace h := hj_2
  obtain ⟨r_1_1, hr_1_1, h⟩ := bsome h
  rcases itesome h with ⟨hb_1_0, h⟩ | ⟨hb_1_0, h⟩
  ·obtain ⟨r_1_4, hr_1_4, h⟩ := bsome h
   refine rg hc none [oN, oc (.bool r_1_1), oN, oN, oc (.bool r_1_4), oT, oN] [(2, .bool r_1_4)] [] (ai (spec_IsWritten_s _ _ hr_1_1) (ai bod_106 (ai (oi (.bool r_1_1)) (ar 2 hb_1_0 (ai (spec_l4Redex_s _ _ hr_1_4) (ai bod_93 (ai (oi (.bool r_1_4)) (ai hb_1_0 trivial)))))))) ?_
   obtain rfl := Option.some.inj h
   exact Into.mk
  ·refine rg hc none [oN, oc (.bool r_1_1), oN, o_, o_, oF, oN] [(2, .bool false)] [] (ai (spec_IsWritten_s _ _ hr_1_1) (ai bod_106 (ai (oi (.bool r_1_1)) (ar 2 (neT hb_1_0) (ai hb_1_0 trivial))))) ?_
   obtain rfl := Option.some.inj h
   exact Into.mk
 ·clear hj_2
  refine seqQ_norm ?_
  refine Wp.retN (by kernel_rfl) ?_
  obtain rfl := Option.some.inj h
  exact RetQ.ret (fl := [true]) (by kernel_rfl)
def spec_l1Copy (l0 : (List Int)) : Option ((List Int)) :=
  (fits (([] : List Int).length + l0.length) 8) >>= fun _ =>
  some l0
def M_spec_l1Copy (l0 : (List Int)) (r : (List Int)) : Prop :=
 FnSound Try.prog 149 [sI l0] (.osl (List.map I r)) []
theorem spec_l1Copy_s : ∀ p r, spec_l1Copy p = some r → M_spec_l1Copy p r := by
 rintro l0 r h
 unfold spec_l1Copy at h
 show FnSound Try.prog 149 [sI l0] (.osl (List.map I r)) []
 refine FnSound.body0 tiok (fn := Try.f149) (code := B149) (by kernel_rfl) (by kernel_rfl) (by kernel_rfl) (by kernel_rfl) (nt := 6) (by kernel_rfl) (by kernel_rfl) (T := [(0, sI l0)]) (O := []) (by kernel_rfl) (by kernel_rfl) (fun c hc => ?_)
 refine sN ?_
 refine rg0 hc 1 [(0, sI l0)] [] ?_
 refine seqQ_norm ?_
 refine sN ?_
 obtain ⟨_, hk_1_2, h⟩ := bsome h
 refine rg hc none [some (.mk 1 true), oN, some (.eqv (.mk 2 true) ⟨[(5, .rs 2)], [(2, some (.arr (List.map I l0))), (1, none)], [2]⟩), oN] [(2, .rs 2)] [(2, .arr (List.map I l0))] (ai (congrArg (fun z => (⟨[(5, .rs 2)], [(2, some (.arr z)), (1, none)], [2]⟩ : Wr)) (List.nil_append _ : [] ++ (List.map I l0) = List.map I l0)) (ai (app_ob (enc1 := I) (enc2 := I) (e1 := []) (e2 := l0) (sz := 1) ek_I ek_I hk_1_2) trivial)) ?_
 refine seqQ_norm ?_
 refine Wp.retN (by kernel_rfl) ?_
 obtain rfl := Option.some.inj h
 exact RetQ.ret (fl := [true]) (by kernel_rfl)
def spec_l2Shift_F1 (c : Ctx) (t0 : GTerm) (r_1_6 : List Int) (out_4 : Int) : (List GTerm) → Exit → AState → Prop
 | out_11 => Into c (.exit 0) (mkS [(6, .ra 2 0), (7, .ra 4 0)] [(2, .box [I 0, I 0, .nils, .nils]), (3, .arr (List.map I r_1_6)), (4, .box [I t0.fOp, I out_4, .rs 3, .rs 9]), (9, .arr (List.map GTerm_O out_11))])
mutual
def spec_l2Shift (p : GTerm × Int × Int) : Option (GTerm) :=
 match p with
 | (t0, by1, from2) =>
  (spec_l1Copy t0.fType) >>= fun r_1_6 =>
  (
   if (t0.fOp == 0) = true then
    some ((decide (t0.fN ≥ from2)))
   else
    some (false)
  ) >>= fun v_1 =>
  (
   if v_1 = true then
    some ((wr (t0.fN + by1)))
   else
    some (t0.fN)
  ) >>= fun out_4 =>
  (spec_l2Shift_l0 (t0, by1, from2, r_1_6, out_4, [], 0)) >>= fun out_11 =>
  some (GTerm.mk t0.fOp out_4 r_1_6 out_11)
 partial_fixpoint
def spec_l2Shift_l0 (p : GTerm × Int × Int × (List Int) × Int × (List GTerm) × Int) : Option ((List GTerm)) :=
 match p with
 | (t0, by1, from2, r_1_6, out_4, out_9, k_7) =>
  if (decide (k_7 < (t0.fKids.length : Int))) = true then
   (idx t0.fKids k_7) >>= fun e_7_5 =>
   (spec_l2Adds (t0.fOp, k_7)) >>= fun r_7_12 =>
   (spec_l2Shift (e_7_5, by1, (wr (from2 + r_7_12)))) >>= fun r_7_14 =>
   (fits (out_9.length + [r_7_14].length) 64) >>= fun _ =>
   spec_l2Shift_l0 (t0, by1, from2, r_1_6, out_4, (out_9 ++ [r_7_14]), (wr (k_7 + 1)))
  else
   some (out_9)
 partial_fixpoint
end
def M_spec_l2Shift (p : GTerm × Int × Int) (r : GTerm) : Prop :=
 match p with
 | (t0, by1, from2) => FnSound Try.prog 125 [aTerm t0, I by1, I from2] (qTerm r) []
def M_spec_l2Shift_l0 (p : GTerm × Int × Int × (List Int) × Int × (List GTerm) × Int) (fl : (List GTerm)) : Prop :=
 match p with
 | (t0, by1, from2, r_1_6, out_4, out_9, k_7) => ∀ c : Ctx, c.nt = 57 → WpL Try.prog c (cl (cl (cr (cl (cr (cr (cr B125))))))) (spec_l2Shift_F1 c t0 r_1_6 out_4 fl) (mkS [(1, I by1), (2, I from2), (3, .ra 1 0), (6, .ra 2 0), (7, .ra 4 0), (8, I k_7)] [(1, bTerm t0), (2, .box [I 0, I 0, .nils, .nils]), (3, .arr (List.map I r_1_6)), (4, .box [I t0.fOp, I out_4, .rs 3, .rs 9]), (9, .arr (List.map GTerm_O out_9))])
theorem spec_l2Shift_all : (∀ p r, spec_l2Shift p = some r → M_spec_l2Shift p r) ∧ (∀ p r, spec_l2Shift_l0 p = some r → M_spec_l2Shift_l0 p r) := by
 refine spec_l2Shift.mutual_partial_correctness M_spec_l2Shift M_spec_l2Shift_l0 ?_ ?_
 ·rintro spec_l2Shift_l0_f spec_l2Shift_l0_ih ⟨t0, by1, from2⟩ r h
  show FnSound Try.prog 125 [aTerm t0, I by1, I from2] (qTerm r) []
  refine FnSound.body0 tiok (fn := Try.f125) (code := B125) (by kernel_rfl) (by kernel_rfl) (by kernel_rfl) (by kernel_rfl) (nt := 57) (by kernel_rfl) (by kernel_rfl) (T := [(0, aTerm t0), (1, I by1), (2, I from2)]) (O := []) (by kernel_rfl) (by kernel_rfl) (fun c hc => ?_)
  refine sN ?_
  refine rg hc none [some (.new 1), some (.new 2)] [(1, I by1), (2, I from2), (3, .ra 1 0), (6, .ra 2 0)] [(1, bTerm t0), (2, .box [I 0, I 0, .nils, .nils])] trivial ?_
  refine seqQ_norm ?_
  refine sN ?_
  obtain ⟨r_1_6, hr_1_6, h⟩ := bsome h
  refine rg hc (rx [[0], [1], [0], [0, 2], [0], [0, 4], [0, 4, 5], [7], [0], [9]]) [oN, oN, oN, oN, oN, oN, some (.call (.osl (List.map I r_1_6)) [] 3), oN, some (.new 4), oN] [(1, I by1), (2, I from2), (3, .ra 1 0), (6, .ra 2 0), (7, .ra 4 0)] [(1, bTerm t0), (2, .box [I 0, I 0, .nils, .nils]), (3, .arr (List.map I r_1_6)), (4, .box [I t0.fOp, I t0.fN, .rs 3, .nils])] (ai (spec_l1Copy_s _ _ hr_1_6) (ai bod_149 (ai (oi (.osl (List.map I r_1_6))) trivial))) ?_
  refine seqQ_norm ?_
  refine sN ?_
  refine sN ?_
  obtain ⟨v_1, hj_2, h⟩ := bsome h
  refine Wp.into (x := .normal) (mkS [(1, I by1), (2, I from2), (3, .ra 1 0), (6, .ra 2 0), (7, .ra 4 0), (25, .bool v_1)] [(1, bTerm t0), (2, .box [I 0, I 0, .nils, .nils]), (3, .arr (List.map I r_1_6)), (4, .box [I t0.fOp, I t0.fN, .rs 3, .nils])]) ?_ ?_
  ·replace h := hj_2
   rcases itesome h with ⟨hb_2_0, h⟩ | ⟨hb_2_0, h⟩
   ·refine rg hc none [oN, oN, oN, oN, oN, oN, oN, oN, oT] [(1, I by1), (2, I from2), (3, .ra 1 0), (6, .ra 2 0), (7, .ra 4 0), (25, .bool (decide (t0.fN ≥ from2)))] [(1, bTerm t0), (2, .box [I 0, I 0, .nils, .nils]), (3, .arr (List.map I r_1_6)), (4, .box [I t0.fOp, I t0.fN, .rs 3, .nils])] (ar 5 hb_2_0 trivial) ?_
    obtain rfl := Option.some.inj h
    exact Into.mk
   ·refine rg hc none [oN, oN, oN, oN, o_, o_, o_, o_, oF] [(1, I by1), (2, I from2), (3, .ra 1 0), (6, .ra 2 0), (7, .ra 4 0), (25, .bool false)] [(1, bTerm t0), (2, .box [I 0, I 0, .nils, .nils]), (3, .arr (List.map I r_1_6)), (4, .box [I t0.fOp, I t0.fN, .rs 3, .nils])] (ar 4 (neT hb_2_0) (ai hb_2_0 trivial)) ?_
    obtain rfl := Option.some.inj h
    exact Into.mk
  ·clear hj_2
   refine seqQ_norm ?_
   obtain ⟨out_4, hj_5, h⟩ := bsome h
   refine Wp.into (x := .normal) (mkS [(1, I by1), (2, I from2), (3, .ra 1 0), (6, .ra 2 0), (7, .ra 4 0)] [(1, bTerm t0), (2, .box [I 0, I 0, .nils, .nils]), (3, .arr (List.map I r_1_6)), (4, .box [I t0.fOp, I out_4, .rs 3, .nils])]) ?_ ?_
   ·replace h := hj_5
    rcases itesome h with ⟨hb_3, h⟩ | ⟨hb_3, h⟩
    ·refine cT v_1 hb_3 ?_
     refine rg0 hc 6 [(1, I by1), (2, I from2), (3, .ra 1 0), (6, .ra 2 0), (7, .ra 4 0)] [(1, bTerm t0), (2, .box [I 0, I 0, .nils, .nils]), (3, .arr (List.map I r_1_6)), (4, .box [I t0.fOp, I (wr (t0.fN + by1)), .rs 3, .nils])] ?_
     obtain rfl := Option.some.inj h
     exact Into.mk
    ·refine cF v_1 hb_3 ?_
     refine Wp.skipN (by kernel_rfl) ?_
     obtain rfl := Option.some.inj h
     exact Into.view (fun a w hv => SRx.renL [] hv (by kernel_rfl) (by kernel_rfl) (by kernel_rfl))
   ·clear hj_5
    refine seqQ_norm ?_
    refine sN ?_
    refine sN ?_
    refine rg0 hc 1 [(1, I by1), (2, I from2), (3, .ra 1 0), (6, .ra 2 0), (7, .ra 4 0), (8, I 0)] [(1, bTerm t0), (2, .box [I 0, I 0, .nils, .nils]), (3, .arr (List.map I r_1_6)), (4, .box [I t0.fOp, I out_4, .rs 3, .nils])] ?_
    refine seqQ_norm ?_
    refine Wp.blockN (i := 0) (by kernel_rfl) ?_
    obtain ⟨out_11, hl_12, h⟩ := bsome h
    have hL := spec_l2Shift_l0_ih _ _ hl_12 c hc
    refine Wp.loopN (by kernel_rfl) (WpL.view (fun a w hv => SRx.renL [(9, 18)] (SRx.nilBL 4 3 18 [I t0.fOp, I out_4, .rs 3, .nils] hv (by kernel_rfl) (by kernel_rfl) (by kernel_rfl)) (by kernel_rfl) (by kernel_rfl) (by kernel_rfl)) (?_ : WpL _ c _ _ (mkS [(1, I by1), (2, I from2), (3, .ra 1 0), (6, .ra 2 0), (7, .ra 4 0), (8, I 0)] [(1, bTerm t0), (2, .box [I 0, I 0, .nils, .nils]), (3, .arr (List.map I r_1_6)), (4, .box [I t0.fOp, I out_4, .rs 3, .rs 9]), (9, .arr (List.map GTerm_O []))])))
    ·refine WpL.into (e := (.exit 0)) (mkS [(6, .ra 2 0), (7, .ra 4 0)] [(2, .box [I 0, I 0, .nils, .nils]), (3, .arr (List.map I r_1_6)), (4, .box [I t0.fOp, I out_4, .rs 3, .rs 9]), (9, .arr (List.map GTerm_O out_11))]) hL ?_
     refine blockQ_hit ?_
     refine seqQ_norm ?_
     refine sN ?_
     refine rg0 hc 2 [(6, .ra 2 0)] [(2, .box [I t0.fOp, I out_4, .rs 3, .rs 9]), (3, .arr (List.map I r_1_6)), (9, .arr (List.map GTerm_O out_11))] ?_
     refine seqQ_norm ?_
     refine Wp.retN (by kernel_rfl) ?_
     obtain rfl := Option.some.inj h
     exact RetQ.ret (fl := [true]) (by kernel_rfl)
 ·rintro spec_l2Shift_f spec_l2Shift_l0_f spec_l2Shift_ih spec_l2Shift_l0_ih ⟨t0, by1, from2, r_1_6, out_4, out_9, k_7⟩ r h
  intro c hc
  show WpL Try.prog c (cl (cl (cr (cl (cr (cr (cr B125))))))) (spec_l2Shift_F1 c t0 r_1_6 out_4 r) (mkS [(1, I by1), (2, I from2), (3, .ra 1 0), (6, .ra 2 0), (7, .ra 4 0), (8, I k_7)] [(1, bTerm t0), (2, .box [I 0, I 0, .nils, .nils]), (3, .arr (List.map I r_1_6)), (4, .box [I t0.fOp, I out_4, .rs 3, .rs 9]), (9, .arr (List.map GTerm_O out_9))])
  refine WpL.step ?_
  refine sN ?_
  refine sN ?_
  refine rg hc none [oN, oN, oN, some (.eqv (.no) ⟨[(34, I (t0.fKids.length : Int))], [], []⟩), oN] [(1, I by1), (2, I from2), (3, .ra 1 0), (6, .ra 2 0), (7, .ra 4 0), (8, I k_7), (35, .bool (decide (k_7 < (t0.fKids.length : Int))))] [(1, bTerm t0), (2, .box [I 0, I 0, .nils, .nils]), (3, .arr (List.map I r_1_6)), (4, .box [I t0.fOp, I out_4, .rs 3, .rs 9]), (9, .arr (List.map GTerm_O out_9))] (ai (lenT (d := 34) GTerm_S t0.fKids) trivial) ?_
  refine seqQ_norm ?_
  rcases itesome h with ⟨hb_10, h⟩ | ⟨hb_10, h⟩
  ·refine cT ((decide (k_7 < (t0.fKids.length : Int)))) hb_10 ?_
   refine Wp.skipN (by kernel_rfl) ?_
   refine seqQ_norm ?_
   refine sN ?_
   refine Wp.blockN (i := 1) (by kernel_rfl) ?_
   obtain ⟨e_7_5, hi_7_5, h⟩ := bsome h
   obtain ⟨r_7_12, hr_7_12, h⟩ := bsome h
   obtain ⟨r_7_14, hr_7_14, h⟩ := bsome h
   obtain ⟨_, hk_7_16, h⟩ := bsome h
   refine rg hc (rx [[0], [1], [0], [0, 2], [0], [0, 2, 3, 4], [0, 2, 3, 4, 5], [0], [0], [0], [0, 9], [0], [0, 9, 10, 11], [0, 8, 9, 10, 11, 12], [0, 2, 3, 4, 5, 6, 7, 8, 9, 10, 11, 12, 13], [0, 2, 3, 4, 5, 6, 7, 8, 9, 10, 11, 12, 13, 14], [16], [17], [18]]) [oN, oN, oN, oN, oN, some (.el (aTerm e_7_5)), oN, oN, oN, oN, oN, oN, oc (I r_7_12), oN, some (.call (qTerm r_7_14) [] 14), some (.eqv (.mk 16 true) ⟨[(53, .rs 16)], [(16, some (.arr (List.map GTerm_O [r_7_14]))), (14, none), (15, none)], [16]⟩), some (.eqv (.mk 17 true) ⟨[(54, .rs 17)], [(17, some (.arr (List.map GTerm_O (out_9 ++ [r_7_14])))), (9, none), (16, none)], [17]⟩), oN, oN] [(1, I by1), (2, I from2), (3, .ra 1 0), (6, .ra 2 0), (7, .ra 4 0), (8, I k_7)] [(1, bTerm t0), (2, .box [I 0, I 0, .nils, .nils]), (3, .arr (List.map I r_1_6)), (4, .box [I t0.fOp, I out_4, .rs 3, .rs 17]), (17, .arr (List.map GTerm_O (out_9 ++ [r_7_14])))] (ai (idx_sl (enc := GTerm_S) (x := aTerm e_7_5) hi_7_5 (eq_GTerm_S e_7_5)) (ai (spec_l2Adds_s _ _ hr_7_12) (ai bod_134 (ai (oi (I r_7_12)) (ai (spec_l2Shift_ih _ _ hr_7_14) (ai bod_125 (ai (oi (qTerm r_7_14)) (ai (congrArg (fun z => (⟨[(53, .rs 16)], [(16, some (.arr z)), (14, none), (15, none)], [16]⟩ : Wr)) ((rows1 (eq_GTerm_O r_7_14) rows0) : [AV.agg [I r_7_14.fOp, I r_7_14.fN, AV.osl (List.map I r_7_14.fType), AV.osl (List.map GTerm_O r_7_14.fKids)]] = List.map GTerm_O [r_7_14])) (ai (congrArg (fun z => (⟨[(54, .rs 17)], [(17, some (.arr z)), (9, none), (16, none)], [17]⟩ : Wr)) ((List.map_append).symm : (List.map GTerm_O out_9) ++ (List.map GTerm_O [r_7_14]) = List.map GTerm_O (out_9 ++ [r_7_14]))) (ai (app_ob (enc1 := GTerm_O) (enc2 := GTerm_O) (e1 := out_9) (e2 := [r_7_14]) (sz := 4) ek_GTerm_O ek_GTerm_O hk_7_16) trivial)))))))))) ?_
   refine blockQ_norm ?_
   refine seqQ_norm ?_
   refine rg0 hc 3 [(1, I by1), (2, I from2), (3, .ra 1 0), (6, .ra 2 0), (7, .ra 4 0), (8, I (wr (k_7 + 1)))] [(1, bTerm t0), (2, .box [I 0, I 0, .nils, .nils]), (3, .arr (List.map I r_1_6)), (4, .box [I t0.fOp, I out_4, .rs 3, .rs 17]), (17, .arr (List.map GTerm_O (out_9 ++ [r_7_14])))] ?_
   refine loopQ_norm ?_
   exact WpL.view (fun a w hv => SRx.renL [(9, 17)] hv (by kernel_rfl) (by kernel_rfl) (by kernel_rfl)) (spec_l2Shift_l0_ih _ _ h c hc)
  ·refine cF ((decide (k_7 < (t0.fKids.length : Int)))) hb_10 ?_
   refine Wp.exitN (i := 0) (by kernel_rfl) ?_
   refine seqQ_exit ?_
   refine loopQ_exit ?_
   obtain rfl := Option.some.inj h
   exact Into.view (fun a w hv => SRx.renL [] hv (by kernel_rfl) (by kernel_rfl) (by kernel_rfl))
theorem spec_l2Shift_s : ∀ p r, spec_l2Shift p = some r → M_spec_l2Shift p r := spec_l2Shift_all.1
theorem spec_l2Shift_l0_s : ∀ p r, spec_l2Shift_l0 p = some r → M_spec_l2Shift_l0 p r := spec_l2Shift_all.2
def spec_l4Body (t0 : GTerm) : Option (GTerm) :=
  if (t0.fOp == 10) = true then
   (idx t0.fKids 0) >>= fun e_2_2 =>
   (idx e_2_2.fKids 0) >>= fun e_2_5 =>
   some e_2_5
  else
   (
    if (t0.fOp == 8) = true then
     (idx t0.fKids 0) >>= fun e_3_6 =>
     some ((e_3_6.fOp == 7))
    else
     some (false)
   ) >>= fun v_2 =>
   if v_2 = true then
    (idx t0.fKids 2) >>= fun e_4_2 =>
    some e_4_2
   else
    (idx t0.fKids 1) >>= fun e_5_2 =>
    some e_5_2
def M_spec_l4Body (t0 : GTerm) (r : GTerm) : Prop :=
 FnSound Try.prog 126 [aTerm t0] (aTerm r) []
theorem spec_l4Body_s : ∀ p r, spec_l4Body p = some r → M_spec_l4Body p r := by
 rintro t0 r h
 unfold spec_l4Body at h
 show FnSound Try.prog 126 [aTerm t0] (aTerm r) []
 refine FnSound.body0 tiok (fn := Try.f126) (code := B126) (by kernel_rfl) (by kernel_rfl) (by kernel_rfl) (by kernel_rfl) (nt := 34) (by kernel_rfl) (by kernel_rfl) (T := [(0, aTerm t0)]) (O := []) (by kernel_rfl) (by kernel_rfl) (fun c hc => ?_)
 refine sN ?_
 refine rg hc none [some (.new 1), some (.new 2)] [(1, .ra 1 0), (2, .ra 2 0)] [(1, bTerm t0), (2, .box [I 0, I 0, .nils, .nils])] trivial ?_
 refine seqQ_norm ?_
 refine sN ?_
 refine Wp.blockN (i := 0) (by kernel_rfl) ?_
 refine sN ?_
 refine rg0 hc 4 [(1, .ra 1 0), (2, .ra 2 0), (3, .bool (t0.fOp == 10))] [(1, bTerm t0), (2, .box [I 0, I 0, .nils, .nils])] ?_
 refine seqQ_norm ?_
 rcases itesome h with ⟨hb_1, h⟩ | ⟨hb_1, h⟩
 ·refine cT ((t0.fOp == 10)) hb_1 ?_
  refine sN ?_
  obtain ⟨e_2_2, hi_2_2, h⟩ := bsome h
  obtain ⟨e_2_5, hi_2_5, h⟩ := bsome h
  refine rg hc none [oN, oN, some (.el (aTerm e_2_2)), oN, oN, some (.el (aTerm e_2_5)), oN, oN] [(2, .ra 2 0)] [(2, bTerm e_2_5)] (ai (idx_sl (enc := GTerm_S) (x := aTerm e_2_2) hi_2_2 (eq_GTerm_S e_2_2)) (ai (idx_sl (enc := GTerm_S) (x := aTerm e_2_5) hi_2_5 (eq_GTerm_S e_2_5)) trivial)) ?_
  refine seqQ_norm ?_
  refine Wp.retN (by kernel_rfl) ?_
  refine blockQ_ret ?_
  refine seqQ_ret ?_
  obtain rfl := Option.some.inj h
  exact RetQ.ret (fl := [false]) (by kernel_rfl)
 ·refine cF ((t0.fOp == 10)) hb_1 ?_
  refine sN ?_
  obtain ⟨v_2, hj_3, h⟩ := bsome h
  refine Wp.into (x := .normal) (mkS [(1, .ra 1 0), (2, .ra 2 0), (14, .bool v_2)] [(1, bTerm t0), (2, .box [I 0, I 0, .nils, .nils])]) ?_ ?_
  ·replace h := hj_3
   rcases itesome h with ⟨hb_3_0, h⟩ | ⟨hb_3_0, h⟩
   ·obtain ⟨e_3_6, hi_3_6, h⟩ := bsome h
    refine rg hc none [oN, oN, oN, oN, oN, oN, some (.el (aTerm e_3_6)), oN, oN, oN, oT, oN] [(1, .ra 1 0), (2, .ra 2 0), (14, .bool (e_3_6.fOp == 7))] [(1, bTerm t0), (2, .box [I 0, I 0, .nils, .nils])] (ar 3 hb_3_0 (ai (idx_sl (enc := GTerm_S) (x := aTerm e_3_6) hi_3_6 (eq_GTerm_S e_3_6)) (ar 4 hb_3_0 trivial))) ?_
    obtain rfl := Option.some.inj h
    exact Into.mk
   ·refine rg hc none [oN, oN, oN, oN, o_, o_, o_, o_, o_, o_, oF, oN] [(1, .ra 1 0), (2, .ra 2 0), (14, .bool false)] [(1, bTerm t0), (2, .box [I 0, I 0, .nils, .nils])] (ar 6 (neT hb_3_0) (ai hb_3_0 trivial)) ?_
    obtain rfl := Option.some.inj h
    exact Into.mk
  ·clear hj_3
   refine seqQ_norm ?_
   rcases itesome h with ⟨hb_4, h⟩ | ⟨hb_4, h⟩
   ·refine cT v_2 hb_4 ?_
    refine sN ?_
    obtain ⟨e_4_2, hi_4_2, h⟩ := bsome h
    refine rg hc none [oN, oN, some (.el (aTerm e_4_2)), oN, oN] [(2, .ra 2 0)] [(2, bTerm e_4_2)] (ai (idx_sl (enc := GTerm_S) (x := aTerm e_4_2) hi_4_2 (eq_GTerm_S e_4_2)) trivial) ?_
    refine seqQ_norm ?_
    refine Wp.retN (by kernel_rfl) ?_
    refine blockQ_ret ?_
    refine seqQ_ret ?_
    obtain rfl := Option.some.inj h
    exact RetQ.ret (fl := [false]) (by kernel_rfl)
   ·refine cF v_2 hb_4 ?_
    refine Wp.skipN (by kernel_rfl) ?_
    refine blockQ_norm ?_
    refine seqQ_norm ?_
    refine sN ?_
    obtain ⟨e_5_2, hi_5_2, h⟩ := bsome h
    refine rg hc none [oN, oN, some (.el (aTerm e_5_2)), oN, oN] [(2, .ra 2 0)] [(2, bTerm e_5_2)] (ai (idx_sl (enc := GTerm_S) (x := aTerm e_5_2) hi_5_2 (eq_GTerm_S e_5_2)) trivial) ?_
    refine seqQ_norm ?_
    refine Wp.retN (by kernel_rfl) ?_
    obtain rfl := Option.some.inj h
    exact RetQ.ret (fl := [false]) (by kernel_rfl)
def spec_l4Size (t0 : GTerm) : Option (Int) :=
  (spec_l2Left (t0, 400)) >>= fun r_1_1 =>
  some (wr (400 - r_1_1))
def M_spec_l4Size (t0 : GTerm) (r : Int) : Prop :=
 FnSound Try.prog 127 [aTerm t0] (I r) []
theorem spec_l4Size_s : ∀ p r, spec_l4Size p = some r → M_spec_l4Size p r := by
 rintro t0 r h
 unfold spec_l4Size at h
 show FnSound Try.prog 127 [aTerm t0] (I r) []
 refine FnSound.body0 tiok (fn := Try.f127) (code := B127) (by kernel_rfl) (by kernel_rfl) (by kernel_rfl) (by kernel_rfl) (nt := 6) (by kernel_rfl) (by kernel_rfl) (T := [(0, aTerm t0)]) (O := []) (by kernel_rfl) (by kernel_rfl) (fun c hc => ?_)
 refine sN ?_
 refine rg hc none [some (.new 1), oN] [(1, .ra 1 0)] [(1, bTerm t0)] trivial ?_
 refine seqQ_norm ?_
 refine sN ?_
 obtain ⟨r_1_1, hr_1_1, h⟩ := bsome h
 refine rg hc none [oN, oc (I r_1_1), oN, oN] [(2, I (wr (400 - r_1_1)))] [] (ai (spec_l2Left_s _ _ hr_1_1) (ai bod_84 (ai (oi (I r_1_1)) trivial))) ?_
 refine seqQ_norm ?_
 refine Wp.retN (by kernel_rfl) ?_
 obtain rfl := Option.some.inj h
 exact RetQ.ret (fl := [true]) (by kernel_rfl)
def spec_l2Uses_F1 (c : Ctx) : Int → Exit → AState → Prop
 | n_7 => Into c (.exit 0) (mkS [(5, I n_7)] [])
mutual
def spec_l2Uses (p : GTerm × Int) : Option (Int) :=
 match p with
 | (t0, i1) =>
  if (t0.fOp == 0) = true then
   if (t0.fN == i1) = true then
    some 1
   else
    some 0
  else
   (spec_l2Uses_l0 (t0, i1, 0, 0)) >>= fun n_7 =>
   some n_7
 partial_fixpoint
def spec_l2Uses_l0 (p : GTerm × Int × Int × Int) : Option (Int) :=
 match p with
 | (t0, i1, n_4, k_5) =>
  if (decide (k_5 < (t0.fKids.length : Int))) = true then
   (idx t0.fKids k_5) >>= fun e_9_4 =>
   (spec_l2Adds (t0.fOp, k_5)) >>= fun r_9_10 =>
   (spec_l2Uses (e_9_4, (wr (i1 + r_9_10)))) >>= fun r_9_12 =>
   spec_l2Uses_l0 (t0, i1, (wr (n_4 + r_9_12)), (wr (k_5 + 1)))
  else
   some (n_4)
 partial_fixpoint
end
def M_spec_l2Uses (p : GTerm × Int) (r : Int) : Prop :=
 match p with
 | (t0, i1) => FnSound Try.prog 128 [aTerm t0, I i1] (I r) []
def M_spec_l2Uses_l0 (p : GTerm × Int × Int × Int) (fl : Int) : Prop :=
 match p with
 | (t0, i1, n_4, k_5) => ∀ c : Ctx, c.nt = 36 → WpL Try.prog c (cl (cl (cr (cl (cr (cr (cr B128))))))) (spec_l2Uses_F1 c fl) (mkS [(1, I i1), (2, .ra 1 0), (5, I n_4), (6, I k_5)] [(1, bTerm t0)])
theorem spec_l2Uses_all : (∀ p r, spec_l2Uses p = some r → M_spec_l2Uses p r) ∧ (∀ p r, spec_l2Uses_l0 p = some r → M_spec_l2Uses_l0 p r) := by
 refine spec_l2Uses.mutual_partial_correctness M_spec_l2Uses M_spec_l2Uses_l0 ?_ ?_
 ·rintro spec_l2Uses_l0_f spec_l2Uses_l0_ih ⟨t0, i1⟩ r h
  show FnSound Try.prog 128 [aTerm t0, I i1] (I r) []
  refine FnSound.body0 tiok (fn := Try.f128) (code := B128) (by kernel_rfl) (by kernel_rfl) (by kernel_rfl) (by kernel_rfl) (nt := 36) (by kernel_rfl) (by kernel_rfl) (T := [(0, aTerm t0), (1, I i1)]) (O := []) (by kernel_rfl) (by kernel_rfl) (fun c hc => ?_)
  refine sN ?_
  refine rg hc none [some (.new 1), oN] [(1, I i1), (2, .ra 1 0)] [(1, bTerm t0)] trivial ?_
  refine seqQ_norm ?_
  refine sN ?_
  refine sN ?_
  refine rg0 hc 3 [(1, I i1), (2, .ra 1 0), (9, .bool (t0.fOp == 0))] [(1, bTerm t0)] ?_
  refine seqQ_norm ?_
  rcases itesome h with ⟨hb_1, h⟩ | ⟨hb_1, h⟩
  ·refine cT ((t0.fOp == 0)) hb_1 ?_
   refine sN ?_
   refine sN ?_
   refine rg0 hc 4 [(13, .bool (t0.fN == i1))] [] ?_
   refine seqQ_norm ?_
   rcases itesome h with ⟨hb_2, h⟩ | ⟨hb_2, h⟩
   ·refine cT ((t0.fN == i1)) hb_2 ?_
    refine sN ?_
    refine rg0 hc 1 [(4, I 1)] [] ?_
    refine seqQ_norm ?_
    refine Wp.retN (by kernel_rfl) ?_
    refine seqQ_ret ?_
    refine seqQ_ret ?_
    obtain rfl := Option.some.inj h
    exact RetQ.ret (fl := [true]) (by kernel_rfl)
   ·refine cF ((t0.fN == i1)) hb_2 ?_
    refine Wp.skipN (by kernel_rfl) ?_
    refine seqQ_norm ?_
    refine sN ?_
    refine rg0 hc 1 [(4, I 0)] [] ?_
    refine seqQ_norm ?_
    refine Wp.retN (by kernel_rfl) ?_
    refine seqQ_ret ?_
    obtain rfl := Option.some.inj h
    exact RetQ.ret (fl := [true]) (by kernel_rfl)
  ·refine cF ((t0.fOp == 0)) hb_1 ?_
   refine Wp.skipN (by kernel_rfl) ?_
   refine seqQ_norm ?_
   refine sN ?_
   refine rg0 hc 1 [(1, I i1), (2, .ra 1 0), (5, I 0)] [(1, bTerm t0)] ?_
   refine seqQ_norm ?_
   refine sN ?_
   refine sN ?_
   refine rg0 hc 1 [(1, I i1), (2, .ra 1 0), (5, I 0), (6, I 0)] [(1, bTerm t0)] ?_
   refine seqQ_norm ?_
   refine Wp.blockN (i := 0) (by kernel_rfl) ?_
   obtain ⟨n_7, hl_8, h⟩ := bsome h
   have hL := spec_l2Uses_l0_ih _ _ hl_8 c hc
   refine Wp.loopN (by kernel_rfl) ?_
   ·refine WpL.into (e := (.exit 0)) (mkS [(5, I n_7)] []) hL ?_
    refine blockQ_hit ?_
    refine seqQ_norm ?_
    refine sN ?_
    refine rg0 hc 2 [(4, I n_7)] [] ?_
    refine seqQ_norm ?_
    refine Wp.retN (by kernel_rfl) ?_
    obtain rfl := Option.some.inj h
    exact RetQ.ret (fl := [true]) (by kernel_rfl)
 ·rintro spec_l2Uses_f spec_l2Uses_l0_f spec_l2Uses_ih spec_l2Uses_l0_ih ⟨t0, i1, n_4, k_5⟩ r h
  intro c hc
  show WpL Try.prog c (cl (cl (cr (cl (cr (cr (cr B128))))))) (spec_l2Uses_F1 c r) (mkS [(1, I i1), (2, .ra 1 0), (5, I n_4), (6, I k_5)] [(1, bTerm t0)])
  refine WpL.step ?_
  refine sN ?_
  refine sN ?_
  refine rg hc none [oN, oN, oN, some (.eqv (.no) ⟨[(17, I (t0.fKids.length : Int))], [], []⟩), oN] [(1, I i1), (2, .ra 1 0), (5, I n_4), (6, I k_5), (18, .bool (decide (k_5 < (t0.fKids.length : Int))))] [(1, bTerm t0)] (ai (lenT (d := 17) GTerm_S t0.fKids) trivial) ?_
  refine seqQ_norm ?_
  rcases itesome h with ⟨hb_6, h⟩ | ⟨hb_6, h⟩
  ·refine cT ((decide (k_5 < (t0.fKids.length : Int)))) hb_6 ?_
   refine Wp.skipN (by kernel_rfl) ?_
   refine seqQ_norm ?_
   refine sN ?_
   refine Wp.blockN (i := 1) (by kernel_rfl) ?_
   obtain ⟨e_9_4, hi_9_4, h⟩ := bsome h
   obtain ⟨r_9_10, hr_9_10, h⟩ := bsome h
   obtain ⟨r_9_12, hr_9_12, h⟩ := bsome h
   refine rg hc (rx [[0], [0], [0, 1], [0], [0, 1, 2, 3], [0, 1, 2, 3, 4], [0], [0], [0, 7], [0], [0, 7, 8, 9], [0, 6, 7, 8, 9, 10], [0, 1, 2, 3, 4, 5, 6, 7, 8, 9, 10, 11], [13], [14]]) [oN, oN, oN, oN, some (.el (aTerm e_9_4)), oN, oN, oN, oN, oN, oc (I r_9_10), oN, oc (I r_9_12), oN, oN] [(1, I i1), (2, .ra 1 0), (5, I (wr (n_4 + r_9_12))), (6, I k_5)] [(1, bTerm t0)] (ai (idx_sl (enc := GTerm_S) (x := aTerm e_9_4) hi_9_4 (eq_GTerm_S e_9_4)) (ai (spec_l2Adds_s _ _ hr_9_10) (ai bod_134 (ai (oi (I r_9_10)) (ai (spec_l2Uses_ih _ _ hr_9_12) (ai bod_128 (ai (oi (I r_9_12)) trivial))))))) ?_
   refine blockQ_norm ?_
   refine seqQ_norm ?_
   refine rg0 hc 3 [(1, I i1), (2, .ra 1 0), (5, I (wr (n_4 + r_9_12))), (6, I (wr (k_5 + 1)))] [(1, bTerm t0)] ?_
   refine loopQ_norm ?_
   exact (spec_l2Uses_l0_ih _ _ h c hc)
  ·refine cF ((decide (k_5 < (t0.fKids.length : Int)))) hb_6 ?_
   refine Wp.exitN (i := 0) (by kernel_rfl) ?_
   refine seqQ_exit ?_
   refine loopQ_exit ?_
   obtain rfl := Option.some.inj h
   exact Into.view (fun a w hv => SRx.renL [] hv (by kernel_rfl) (by kernel_rfl) (by kernel_rfl))
theorem spec_l2Uses_s : ∀ p r, spec_l2Uses p = some r → M_spec_l2Uses p r := spec_l2Uses_all.1
theorem spec_l2Uses_l0_s : ∀ p r, spec_l2Uses_l0 p = some r → M_spec_l2Uses_l0 p r := spec_l2Uses_all.2
def spec_l2Put_F2 (c : Ctx) (t0 : GTerm) (r_1_6 : List Int) (out_6 : Int) : (List GTerm) → Exit → AState → Prop
 | out_13 => Into c (.exit 0) (mkS [(8, .ra 3 0), (9, .ra 5 0)] [(3, .box [I 0, I 0, .nils, .nils]), (4, .arr (List.map I r_1_6)), (5, .box [I t0.fOp, I out_6, .rs 4, .rs 12]), (12, .arr (List.map GTerm_O out_13))])
def spec_l2Put_F1 (c : Ctx) (t0 : GTerm) (i1 : Int) (u2 : GTerm) (deep3 : Int) (r_1_6 : List Int) : (Int) ⊕ (GTerm) → Exit → AState → Prop
 | .inl out_6 => Into c .normal (mkS [(1, I i1), (3, I deep3), (4, .ra 1 0), (6, .ra 2 0), (8, .ra 3 0), (9, .ra 5 0)] [(1, bTerm t0), (2, bTerm u2), (3, .box [I 0, I 0, .nils, .nils]), (4, .arr (List.map I r_1_6)), (5, .box [I t0.fOp, I out_6, .rs 4, .nils])])
 | .inr r => RetE TIx Try.f129 [] (qTerm r)
end Go.Am
