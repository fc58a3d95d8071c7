/- Functions of the program as pure functions, and that it computes them. Printed by a program of mine (gen.py). -/
import Derived.Test.YtmdfopkcoinfeaaGNFF0
set_option linter.unusedVariables false
set_option linter.unusedSimpArgs false
set_option maxRecDepth 100000
namespace Go.Am
open Go Go.Proofs
def spec_l2Node (p : GTerm × Int × Int × Bool) : Option (Bool) :=
 match p with
 | (t0, n1, size2, closed3) =>
  (spec_l2Many t0.fOp) >>= fun r_1_5 =>
  if ((t0.fKids.length : Int) != r_1_5) = true then
   some false
  else
   ((
    if (t0.fOp == 0) = true then
     (spec_l1In (t0.fN, 0, (wr (n1 - 1)))) >>= fun r_6_4 =>
     if r_6_4 = true then
      some (.inl ())
     else
      some (.inr false)
    else
     ((
      if (t0.fOp == 1) = true then
       (spec_l1In (t0.fN, 0, 2)) >>= fun r_9_2 =>
       if r_9_2 = true then
        some (.inl ())
       else
        some (.inr false)
      else
       (spec_l2Has t0.fOp) >>= fun r_11_2 =>
       ((
        if r_11_2 = true then
         (
          if (decide (t0.fN ≥ size2)) = true then
           some (true)
          else
           if (decide (t0.fN < (-1))) = true then
            some (true)
           else
            if closed3 = true then
             some ((decide (t0.fN < 0)))
            else
             some (false)
         ) >>= fun v_7 =>
         if v_7 = true then
          some (.inr false)
         else
          some (.inl ())
        else
         if (t0.fN != 0) = true then
          some (.inr false)
         else
          some (.inl ())) : Option ((Unit) ⊕ (Bool))) >>= fun fl => match fl with
       | .inl () =>
        some (.inl ())
       | .inr r =>
        some (.inr r)) : Option ((Unit) ⊕ (Bool))) >>= fun fl => match fl with
     | .inl () =>
      some (.inl ())
     | .inr r =>
      some (.inr r)) : Option ((Unit) ⊕ (Bool))) >>= fun fl => match fl with
   | .inl () =>
    (spec_l2Typed t0.fOp) >>= fun r_14_2 =>
    if r_14_2 = true then
     (
      (spec_l2Type t0.fType) >>= fun r_16_2 =>
      if r_16_2 = true then
       (spec_l2Graded (t0.fType, size2, closed3)) >>= fun r_16_8 =>
       some (r_16_8)
      else
       some (false)
     ) >>= fun v_15 =>
     some v_15
    else
     some ((t0.fType.length : Int) == 0)
   | .inr r =>
    some r
def M_spec_l2Node (p : GTerm × Int × Int × Bool) (r : Bool) : Prop :=
 match p with
 | (t0, n1, size2, closed3) => FnSound Try.prog 131 [aTerm t0, I n1, I size2, .bool closed3] (.bool r) []
theorem spec_l2Node_s : ∀ p r, spec_l2Node p = some r → M_spec_l2Node p r := by
 rintro ⟨t0, n1, size2, closed3⟩ r h
 unfold spec_l2Node at h
 show FnSound Try.prog 131 [aTerm t0, I n1, I size2, .bool closed3] (.bool r) []
 refine FnSound.body0 tiok (fn := Try.f131) (code := B131) (by kernel_rfl) (by kernel_rfl) (by kernel_rfl) (by kernel_rfl) (nt := 76) (by kernel_rfl) (by kernel_rfl) (T := [(0, aTerm t0), (1, I n1), (2, I size2), (3, .bool closed3)]) (O := []) (by kernel_rfl) (by kernel_rfl) (fun c hc => ?_)
 refine sN ?_
 refine rg hc none [some (.new 1), oN] [(1, I n1), (2, I size2), (3, .bool closed3), (4, .ra 1 0)] [(1, bTerm t0)] trivial ?_
 refine seqQ_norm ?_
 refine sN ?_
 refine sN ?_
 obtain ⟨r_1_5, hr_1_5, h⟩ := bsome h
 refine rg hc (rx [[0], [1], [2], [0], [0, 3], [0, 3, 4], [6]]) [oN, oN, some (.eqv (.no) ⟨[(11, I (t0.fKids.length : Int))], [], []⟩), oN, oN, oc (I r_1_5), oN] [(1, I n1), (2, I size2), (3, .bool closed3), (4, .ra 1 0), (15, .bool ((t0.fKids.length : Int) != r_1_5))] [(1, bTerm t0)] (ai (lenT (d := 11) GTerm_S t0.fKids) (ai (spec_l2Many_s _ _ hr_1_5) (ai bod_146 (ai (oi (I r_1_5)) trivial)))) ?_
 refine seqQ_norm ?_
 rcases itesome h with ⟨hb_1, h⟩ | ⟨hb_1, h⟩
 ·refine cT (((t0.fKids.length : Int) != r_1_5)) hb_1 ?_
  refine sN ?_
  refine rg0 hc 1 [(8, .bool false)] [] ?_
  refine seqQ_norm ?_
  refine Wp.retN (by kernel_rfl) ?_
  refine seqQ_ret ?_
  obtain rfl := Option.some.inj h
  exact RetQ.ret (fl := [true]) (by kernel_rfl)
 ·refine cF (((t0.fKids.length : Int) != r_1_5)) hb_1 ?_
  refine Wp.skipN (by kernel_rfl) ?_
  refine seqQ_norm ?_
  refine sN ?_
  refine Wp.blockN (i := 0) (by kernel_rfl) ?_
  refine sN ?_
  refine rg0 hc 4 [(1, I n1), (2, I size2), (3, .bool closed3), (4, .ra 1 0), (19, .bool (t0.fOp == 0))] [(1, bTerm t0)] ?_
  refine seqQ_norm ?_
  obtain ⟨fl, hj_13, h⟩ := bsome h
  have hF : Wp Try.prog c (cr (cl (cl (cr (cr B131))))) (spec_l2Node_F3 c t0 size2 closed3 fl) (mkS [(1, I n1), (2, I size2), (3, .bool closed3), (4, .ra 1 0), (19, .bool (t0.fOp == 0))] [(1, bTerm t0)]) := by
   replace h := hj_13
   rcases itesome h with ⟨hb_2, h⟩ | ⟨hb_2, h⟩
   ·refine cT ((t0.fOp == 0)) hb_2 ?_
    refine sN ?_
    obtain ⟨r_6_4, hr_6_4, h⟩ := bsome h
    refine rg hc none [oN, oN, oN, oN, oc (.bool r_6_4), oN] [(2, I size2), (3, .bool closed3), (4, .ra 1 0), (28, .bool (!r_6_4))] [(1, bTerm t0)] (ai (spec_l1In_s _ _ hr_6_4) (ai bod_57 (ai (oi (.bool r_6_4)) trivial))) ?_
    refine seqQ_norm ?_
    rcases itesome h with ⟨hb_3, h⟩ | ⟨hb_3, h⟩
    ·refine cF (!r_6_4) (nF hb_3) ?_
     refine Wp.skipN (by kernel_rfl) ?_
     obtain rfl := Option.some.inj h
     exact Into.view (fun a w hv => SRx.renL [] hv (by kernel_rfl) (by kernel_rfl) (by kernel_rfl))
    ·refine cT (!r_6_4) (nT hb_3) ?_
     refine sN ?_
     refine rg0 hc 1 [(8, .bool false)] [] ?_
     refine seqQ_norm ?_
     refine Wp.retN (by kernel_rfl) ?_
     obtain rfl := Option.some.inj h
     exact RetE.ret (fl := [true]) (by kernel_rfl)
   ·refine cF ((t0.fOp == 0)) hb_2 ?_
    refine sN ?_
    refine rg0 hc 4 [(2, I size2), (3, .bool closed3), (4, .ra 1 0), (29, .bool (t0.fOp == 1))] [(1, bTerm t0)] ?_
    refine seqQ_norm ?_
    obtain ⟨fl, hj_12, h⟩ := bsome h
    have hF : Wp Try.prog c (cr (cr (cr (cl (cl (cr (cr B131))))))) (spec_l2Node_F2 c t0 size2 closed3 fl) (mkS [(2, I size2), (3, .bool closed3), (4, .ra 1 0), (29, .bool (t0.fOp == 1))] [(1, bTerm t0)]) := by
     replace h := hj_12
     rcases itesome h with ⟨hb_4, h⟩ | ⟨hb_4, h⟩
     ·refine cT ((t0.fOp == 1)) hb_4 ?_
      refine sN ?_
      obtain ⟨r_9_2, hr_9_2, h⟩ := bsome h
      refine rg hc none [oN, oN, oc (.bool r_9_2), oN] [(2, I size2), (3, .bool closed3), (4, .ra 1 0), (36, .bool (!r_9_2))] [(1, bTerm t0)] (ai (spec_l1In_s _ _ hr_9_2) (ai bod_57 (ai (oi (.bool r_9_2)) trivial))) ?_
      refine seqQ_norm ?_
      rcases itesome h with ⟨hb_5, h⟩ | ⟨hb_5, h⟩
      ·refine cF (!r_9_2) (nF hb_5) ?_
       refine Wp.skipN (by kernel_rfl) ?_
       obtain rfl := Option.some.inj h
       exact Into.view (fun a w hv => SRx.renL [] hv (by kernel_rfl) (by kernel_rfl) (by kernel_rfl))
      ·refine cT (!r_9_2) (nT hb_5) ?_
       refine sN ?_
       refine rg0 hc 1 [(8, .bool false)] [] ?_
       refine seqQ_norm ?_
       refine Wp.retN (by kernel_rfl) ?_
       obtain rfl := Option.some.inj h
       exact RetE.ret (fl := [true]) (by kernel_rfl)
     ·refine cF ((t0.fOp == 1)) hb_4 ?_
      refine sN ?_
      obtain ⟨r_11_2, hr_11_2, h⟩ := bsome h
      refine rg hc none [oN, oN, oc (.bool r_11_2), oN] [(2, I size2), (3, .bool closed3), (4, .ra 1 0), (37, .bool r_11_2)] [(1, bTerm t0)] (ai (spec_l2Has_s _ _ hr_11_2) (ai bod_147 (ai (oi (.bool r_11_2)) trivial))) ?_
      refine seqQ_norm ?_
      obtain ⟨fl, hj_11, h⟩ := bsome h
      have hF : Wp Try.prog c (cr (cr (cr (cr (cr (cl (cl (cr (cr B131))))))))) (spec_l2Node_F1 c t0 size2 closed3 fl) (mkS [(2, I size2), (3, .bool closed3), (4, .ra 1 0), (37, .bool r_11_2)] [(1, bTerm t0)]) := by
       replace h := hj_11
       rcases itesome h with ⟨hb_6, h⟩ | ⟨hb_6, h⟩
       ·refine cT r_11_2 hb_6 ?_
        refine sN ?_
        obtain ⟨v_7, hj_8, h⟩ := bsome h
        refine Wp.into (x := .normal) (mkS [(2, I size2), (3, .bool closed3), (4, .ra 1 0), (57, .bool v_7)] [(1, bTerm t0)]) ?_ ?_
        ·replace h := hj_8
         rcases itesome h with ⟨hb_12_0, h⟩ | ⟨hb_12_0, h⟩
         ·refine rg hc none [oN, oN, oN, oN, oN, o_, o_, o_, oT, oN, o_, o_, o_, o_, o_, o_, oT] [(2, I size2), (3, .bool closed3), (4, .ra 1 0), (57, .bool true)] [(1, bTerm t0)] (ar 3 (neF hb_12_0) (ai hb_12_0 (ar 3 nf (ai tt trivial)))) ?_
          obtain rfl := Option.some.inj h
          exact Into.mk
         ·rcases itesome h with ⟨hb_12_1, h⟩ | ⟨hb_12_1, h⟩
          ·refine rg hc none [oN, oN, oN, oN, oN, oN, oN, oN, oF, oN, o_, o_, o_, o_, o_, o_, oT] [(2, I size2), (3, .bool closed3), (4, .ra 1 0), (57, .bool true)] [(1, bTerm t0)] (ar 4 hb_12_0 (ar 3 (neF hb_12_1) (ai hb_12_1 trivial))) ?_
           obtain rfl := Option.some.inj h
           exact Into.mk
          ·rcases itesome h with ⟨hb_12_2, h⟩ | ⟨hb_12_2, h⟩
           ·refine rg hc none [oN, oN, oN, oN, oN, oN, oN, oN, oF, oN, oN, oN, oN, oN, oN, oT, oF] [(2, I size2), (3, .bool closed3), (4, .ra 1 0), (57, .bool (decide (t0.fN < 0)))] [(1, bTerm t0)] (ar 4 hb_12_0 (ar 2 hb_12_1 (ar 3 hb_12_2 (ai hb_12_1 (ai hb_12_2 (ai hb_12_1 trivial)))))) ?_
            obtain rfl := Option.some.inj h
            exact Into.mk
           ·refine rg hc none [oN, oN, oN, oN, oN, oN, oN, oN, oF, oN, oN, oN, o_, o_, o_, oF, oF] [(2, I size2), (3, .bool closed3), (4, .ra 1 0), (57, .bool false)] [(1, bTerm t0)] (ar 4 hb_12_0 (ar 2 hb_12_1 (ar 3 (neT hb_12_2) (ai hb_12_1 (ai hb_12_2 (ai hb_12_1 trivial)))))) ?_
            obtain rfl := Option.some.inj h
            exact Into.mk
        ·clear hj_8
         refine seqQ_norm ?_
         rcases itesome h with ⟨hb_9, h⟩ | ⟨hb_9, h⟩
         ·refine cT v_7 hb_9 ?_
          refine sN ?_
          refine rg0 hc 1 [(8, .bool false)] [] ?_
          refine seqQ_norm ?_
          refine Wp.retN (by kernel_rfl) ?_
          obtain rfl := Option.some.inj h
          exact RetE.ret (fl := [true]) (by kernel_rfl)
         ·refine cF v_7 hb_9 ?_
          refine Wp.skipN (by kernel_rfl) ?_
          obtain rfl := Option.some.inj h
          exact Into.view (fun a w hv => SRx.renL [] hv (by kernel_rfl) (by kernel_rfl) (by kernel_rfl))
       ·refine cF r_11_2 hb_6 ?_
        refine sN ?_
        refine rg0 hc 3 [(2, I size2), (3, .bool closed3), (4, .ra 1 0), (18, .bool (t0.fN != 0))] [(1, bTerm t0)] ?_
        refine seqQ_norm ?_
        rcases itesome h with ⟨hb_10, h⟩ | ⟨hb_10, h⟩
        ·refine cT ((t0.fN != 0)) hb_10 ?_
         refine sN ?_
         refine rg0 hc 1 [(8, .bool false)] [] ?_
         refine seqQ_norm ?_
         refine Wp.retN (by kernel_rfl) ?_
         obtain rfl := Option.some.inj h
         exact RetE.ret (fl := [true]) (by kernel_rfl)
        ·refine cF ((t0.fN != 0)) hb_10 ?_
         refine Wp.skipN (by kernel_rfl) ?_
         obtain rfl := Option.some.inj h
         exact Into.view (fun a w hv => SRx.renL [] hv (by kernel_rfl) (by kernel_rfl) (by kernel_rfl))
      rcases fl with ⟨⟩ | r
      ·refine Wp.into (x := .normal) (mkS [(2, I size2), (3, .bool closed3), (4, .ra 1 0)] [(1, bTerm t0)]) hF ?_
       obtain rfl := Option.some.inj h
       exact Into.mk
      ·refine Wp.mono hF ?_
       rintro _ _ ⟨rfl, hfin⟩
       obtain rfl := Option.some.inj h
       exact ⟨rfl, hfin⟩
    rcases fl with ⟨⟩ | r
    ·refine Wp.into (x := .normal) (mkS [(2, I size2), (3, .bool closed3), (4, .ra 1 0)] [(1, bTerm t0)]) hF ?_
     obtain rfl := Option.some.inj h
     exact Into.mk
    ·refine Wp.mono hF ?_
     rintro _ _ ⟨rfl, hfin⟩
     obtain rfl := Option.some.inj h
     exact ⟨rfl, hfin⟩
  rcases fl with ⟨⟩ | r
  ·refine Wp.into (x := .normal) (mkS [(2, I size2), (3, .bool closed3), (4, .ra 1 0)] [(1, bTerm t0)]) hF ?_
   refine blockQ_norm ?_
   refine seqQ_norm ?_
   refine sN ?_
   refine sN ?_
   obtain ⟨r_14_2, hr_14_2, h⟩ := bsome h
   refine rg hc none [oN, oN, oc (.bool r_14_2), oN] [(2, I size2), (3, .bool closed3), (4, .ra 1 0), (61, .bool (!r_14_2))] [(1, bTerm t0)] (ai (spec_l2Typed_s _ _ hr_14_2) (ai bod_148 (ai (oi (.bool r_14_2)) trivial))) ?_
   refine seqQ_norm ?_
   rcases itesome h with ⟨hb_14, h⟩ | ⟨hb_14, h⟩
   ·refine cF (!r_14_2) (nF hb_14) ?_
    refine Wp.skipN (by kernel_rfl) ?_
    refine seqQ_norm ?_
    refine sN ?_
    obtain ⟨v_15, hj_16, h⟩ := bsome h
    refine Wp.into (x := .normal) (mkS [(8, .bool v_15)] []) ?_ ?_
    ·replace h := hj_16
     obtain ⟨r_16_2, hr_16_2, h⟩ := bsome h
     rcases itesome h with ⟨hb_16_0, h⟩ | ⟨hb_16_0, h⟩
     ·obtain ⟨r_16_8, hr_16_8, h⟩ := bsome h
      refine rg hc none [oN, oN, oc (.bool r_16_2), oN, oN, oN, oN, oN, oc (.bool r_16_8), oT, oN] [(8, .bool r_16_8)] [] (ai (spec_l2Type_s _ _ hr_16_2) (ai bod_135 (ai (oi (.bool r_16_2)) (ar 5 hb_16_0 (ai (spec_l2Graded_s _ _ hr_16_8) (ai bod_136 (ai (oi (.bool r_16_8)) (ai hb_16_0 trivial)))))))) ?_
      obtain rfl := Option.some.inj h
      exact Into.mk
     ·refine rg hc none [oN, oN, oc (.bool r_16_2), oN, o_, o_, o_, o_, o_, oF, oN] [(8, .bool false)] [] (ai (spec_l2Type_s _ _ hr_16_2) (ai bod_135 (ai (oi (.bool r_16_2)) (ar 5 (neT hb_16_0) (ai hb_16_0 trivial))))) ?_
      obtain rfl := Option.some.inj h
      exact Into.mk
    ·clear hj_16
     refine seqQ_norm ?_
     refine Wp.retN (by kernel_rfl) ?_
     obtain rfl := Option.some.inj h
     exact RetQ.ret (fl := [true]) (by kernel_rfl)
   ·refine cT (!r_14_2) (nT hb_14) ?_
    refine sN ?_
    refine rg hc none [oN, oN, some (.eqv (.no) ⟨[(64, I (t0.fType.length : Int))], [], []⟩), oN, oN] [(8, .bool ((t0.fType.length : Int) == 0))] [] (ai (lenT (d := 64) I t0.fType) trivial) ?_
    refine seqQ_norm ?_
    refine Wp.retN (by kernel_rfl) ?_
    refine seqQ_ret ?_
    obtain rfl := Option.some.inj h
    exact RetQ.ret (fl := [true]) (by kernel_rfl)
  ·refine Wp.mono hF ?_
   rintro _ _ ⟨rfl, hfin⟩
   refine blockQ_ret ?_
   refine seqQ_ret ?_
   obtain rfl := Option.some.inj h
   exact ⟨.inl rfl, hfin⟩
def spec_l2Adds (p : Int × Int) : Option (Int) :=
 match p with
 | (op0, kid1) =>
  (
   if (op0 == 5) = true then
    some ((kid1 == 1))
   else
    some (false)
  ) >>= fun v_1 =>
  if v_1 = true then
   some 2
  else
   (
    if (op0 == 8) = true then
     if (decide (kid1 > 0)) = true then
      some (true)
     else
      if (op0 == 9) = true then
       some (true)
      else
       if (op0 == 12) = true then
        some ((kid1 == 1))
       else
        some (false)
    else
     if (op0 == 9) = true then
      some (true)
     else
      if (op0 == 12) = true then
       some ((kid1 == 1))
      else
       some (false)
   ) >>= fun v_4 =>
   if v_4 = true then
    some 1
   else
    some 0
def M_spec_l2Adds (p : Int × Int) (r : Int) : Prop :=
 match p with
 | (op0, kid1) => FnSound Try.prog 100 [I op0, I kid1] (I r) []
theorem spec_l2Adds_s : ∀ p r, spec_l2Adds p = some r → M_spec_l2Adds p r := by
 rintro ⟨op0, kid1⟩ r h
 unfold spec_l2Adds at h
 show FnSound Try.prog 100 [I op0, I kid1] (I r) []
 refine FnSound.body0 tiok (fn := Try.f100) (code := B100) (by kernel_rfl) (by kernel_rfl) (by kernel_rfl) (by kernel_rfl) (nt := 31) (by kernel_rfl) (by kernel_rfl) (T := [(0, I op0), (1, I kid1)]) (O := []) (by kernel_rfl) (by kernel_rfl) (fun c hc => ?_)
 refine sN ?_
 refine rg0 hc 1 [(0, I op0), (1, I kid1)] [] ?_
 refine seqQ_norm ?_
 refine sN ?_
 refine Wp.blockN (i := 0) (by kernel_rfl) ?_
 refine sN ?_
 obtain ⟨v_1, hj_2, h⟩ := bsome h
 refine Wp.into (x := .normal) (mkS [(0, I op0), (1, I kid1), (5, .bool v_1)] []) ?_ ?_
 ·replace h := hj_2
  rcases itesome h with ⟨hb_1_0, h⟩ | ⟨hb_1_0, h⟩
  ·refine rg hc none [oN, oN, oN, oN, oN, oT, oN] [(0, I op0), (1, I kid1), (5, .bool (kid1 == 1))] [] (ar 3 hb_1_0 trivial) ?_
   obtain rfl := Option.some.inj h
   exact Into.mk
  ·refine rg hc none [oN, oN, oN, o_, o_, oF, oN] [(0, I op0), (1, I kid1), (5, .bool false)] [] (ar 2 (neT hb_1_0) (ai hb_1_0 trivial)) ?_
   obtain rfl := Option.some.inj h
   exact Into.mk
 ·clear hj_2
  refine seqQ_norm ?_
  rcases itesome h with ⟨hb_3, h⟩ | ⟨hb_3, h⟩
  ·refine cT v_1 hb_3 ?_
   refine sN ?_
   refine rg0 hc 1 [(4, I 2)] [] ?_
   refine seqQ_norm ?_
   refine Wp.retN (by kernel_rfl) ?_
   refine blockQ_ret ?_
   refine seqQ_ret ?_
   obtain rfl := Option.some.inj h
   exact RetQ.ret (fl := [true]) (by kernel_rfl)
  ·refine cF v_1 hb_3 ?_
   refine sN ?_
   obtain ⟨v_4, hj_5, h⟩ := bsome h
   refine Wp.into (x := .normal) (mkS [(12, .bool v_4)] []) ?_ ?_
   ·replace h := hj_5
    rcases itesome h with ⟨hb_3_0, h⟩ | ⟨hb_3_0, h⟩
    ·rcases itesome h with ⟨hb_3_1, h⟩ | ⟨hb_3_1, h⟩
     ·refine rg hc none [oN, oN, oN, oN, oN, oT, oN, o_, o_, oT, oN, o_, o_, o_, o_, o_, o_, oT, oN] [(12, .bool true)] [] (ar 3 hb_3_0 (ar 2 (neF hb_3_1) (ai hb_3_1 (ar 4 nf (ai tt trivial))))) ?_
      obtain rfl := Option.some.inj h
      exact Into.mk
     ·rcases itesome h with ⟨hb_3_2, h⟩ | ⟨hb_3_2, h⟩
      ·refine rg hc none [oN, oN, oN, oN, oN, oT, oN, oN, oN, oF, oN, o_, o_, o_, o_, o_, o_, oT, oN] [(12, .bool true)] [] (ar 3 hb_3_0 (ar 3 hb_3_1 (ar 4 (neF hb_3_2) (ai hb_3_2 trivial)))) ?_
       obtain rfl := Option.some.inj h
       exact Into.mk
      ·rcases itesome h with ⟨hb_3_3, h⟩ | ⟨hb_3_3, h⟩
       ·refine rg hc none [oN, oN, oN, oN, oN, oT, oN, oN, oN, oF, oN, oN, oN, oN, oN, oN, oT, oF, oN] [(12, .bool (kid1 == 1))] [] (ar 3 hb_3_0 (ar 3 hb_3_1 (ar 3 hb_3_2 (ar 2 hb_3_3 (ai hb_3_2 (ai hb_3_3 (ai hb_3_2 trivial))))))) ?_
        obtain rfl := Option.some.inj h
        exact Into.mk
       ·refine rg hc none [oN, oN, oN, oN, oN, oT, oN, oN, oN, oF, oN, oN, oN, oN, o_, o_, oF, oF, oN] [(12, .bool false)] [] (ar 3 hb_3_0 (ar 3 hb_3_1 (ar 3 hb_3_2 (ar 2 (neT hb_3_3) (ai hb_3_2 (ai hb_3_3 (ai hb_3_2 trivial))))))) ?_
        obtain rfl := Option.some.inj h
        exact Into.mk
    ·rcases itesome h with ⟨hb_3_1, h⟩ | ⟨hb_3_1, h⟩
     ·refine rg hc none [oN, oN, oN, o_, o_, oF, oN, oN, oN, oF, oN, o_, o_, o_, o_, o_, o_, oT, oN] [(12, .bool true)] [] (ar 2 (neT hb_3_0) (ai hb_3_0 (ar 3 (rfl : false = false) (ar 4 (neF hb_3_1) (ai hb_3_1 trivial))))) ?_
      obtain rfl := Option.some.inj h
      exact Into.mk
     ·rcases itesome h with ⟨hb_3_2, h⟩ | ⟨hb_3_2, h⟩
      ·refine rg hc none [oN, oN, oN, o_, o_, oF, oN, oN, oN, oF, oN, oN, oN, oN, oN, oN, oT, oF, oN] [(12, .bool (kid1 == 1))] [] (ar 2 (neT hb_3_0) (ai hb_3_0 (ar 3 (rfl : false = false) (ar 3 hb_3_1 (ar 2 hb_3_2 (ai hb_3_1 (ai hb_3_2 (ai hb_3_1 trivial)))))))) ?_
       obtain rfl := Option.some.inj h
       exact Into.mk
      ·refine rg hc none [oN, oN, oN, o_, o_, oF, oN, oN, oN, oF, oN, oN, oN, oN, o_, o_, oF, oF, oN] [(12, .bool false)] [] (ar 2 (neT hb_3_0) (ai hb_3_0 (ar 3 (rfl : false = false) (ar 3 hb_3_1 (ar 2 (neT hb_3_2) (ai hb_3_1 (ai hb_3_2 (ai hb_3_1 trivial)))))))) ?_
       obtain rfl := Option.some.inj h
       exact Into.mk
   ·clear hj_5
    refine seqQ_norm ?_
    rcases itesome h with ⟨hb_6, h⟩ | ⟨hb_6, h⟩
    ·refine cT v_4 hb_6 ?_
     refine sN ?_
     refine rg0 hc 1 [(4, I 1)] [] ?_
     refine seqQ_norm ?_
     refine Wp.retN (by kernel_rfl) ?_
     refine blockQ_ret ?_
     refine seqQ_ret ?_
     obtain rfl := Option.some.inj h
     exact RetQ.ret (fl := [true]) (by kernel_rfl)
    ·refine cF v_4 hb_6 ?_
     refine Wp.skipN (by kernel_rfl) ?_
     refine blockQ_norm ?_
     refine seqQ_norm ?_
     refine sN ?_
     refine rg0 hc 1 [(4, I 0)] [] ?_
     refine seqQ_norm ?_
     refine Wp.retN (by kernel_rfl) ?_
     obtain rfl := Option.some.inj h
     exact RetQ.ret (fl := [true]) (by kernel_rfl)
def spec_l2Term_F1 (c : Ctx) : (Unit) ⊕ (Bool) → Exit → AState → Prop
 | .inl _ => Into c (.exit 0) (mkS [] [])
 | .inr r => RetE TIx Try.f98 [] (.bool r)
mutual
def spec_l2Term (p : GTerm × Int × Int × Bool) : Option (Bool) :=
 match p with
 | (t0, n1, size2, closed3) =>
  (spec_l2Node (t0, n1, size2, closed3)) >>= fun r_1_4 =>
  if r_1_4 = true then
   (spec_l2Term_l0 (t0, n1, size2, closed3, 0)) >>= fun fl => match fl with
   | .inl () =>
    some true
   | .inr r =>
    some r
  else
   some false
 partial_fixpoint
def spec_l2Term_l0 (p : GTerm × Int × Int × Bool × Int) : Option ((Unit) ⊕ (Bool)) :=
 match p with
 | (t0, n1, size2, closed3, k_4) =>
  if (decide (k_4 < (t0.fKids.length : Int))) = true then
   (idx t0.fKids k_4) >>= fun e_6_3 =>
   (spec_l2Adds (t0.fOp, k_4)) >>= fun r_6_9 =>
   (spec_l2Term (e_6_3, (wr (n1 + r_6_9)), size2, closed3)) >>= fun r_6_13 =>
   if r_6_13 = true then
    spec_l2Term_l0 (t0, n1, size2, closed3, (wr (k_4 + 1)))
   else
    some (.inr false)
  else
   some (.inl ())
 partial_fixpoint
end
def M_spec_l2Term (p : GTerm × Int × Int × Bool) (r : Bool) : Prop :=
 match p with
 | (t0, n1, size2, closed3) => FnSound Try.prog 98 [aTerm t0, I n1, I size2, .bool closed3] (.bool r) []
def M_spec_l2Term_l0 (p : GTerm × Int × Int × Bool × Int) (fl : (Unit) ⊕ (Bool)) : Prop :=
 match p with
 | (t0, n1, size2, closed3, k_4) => ∀ c : Ctx, c.nt = 38 → WpL Try.prog c (cl (cl (cr (cl (cr (cr B98)))))) (spec_l2Term_F1 c fl) (mkS [(1, I n1), (2, I size2), (3, .bool closed3), (4, .ra 1 0), (9, I k_4)] [(1, bTerm t0)])
theorem spec_l2Term_all : (∀ p r, spec_l2Term p = some r → M_spec_l2Term p r) ∧ (∀ p r, spec_l2Term_l0 p = some r → M_spec_l2Term_l0 p r) := by
 refine spec_l2Term.mutual_partial_correctness M_spec_l2Term M_spec_l2Term_l0 ?_ ?_
 ·rintro spec_l2Term_l0_f spec_l2Term_l0_ih ⟨t0, n1, size2, closed3⟩ r h
  show FnSound Try.prog 98 [aTerm t0, I n1, I size2, .bool closed3] (.bool r) []
  refine FnSound.body0 tiok (fn := Try.f98) (code := B98) (by kernel_rfl) (by kernel_rfl) (by kernel_rfl) (by kernel_rfl) (nt := 38) (by kernel_rfl) (by kernel_rfl) (T := [(0, aTerm t0), (1, I n1), (2, I size2), (3, .bool closed3)]) (O := []) (by kernel_rfl) (by kernel_rfl) (fun c hc => ?_)
  refine sN ?_
  refine rg hc none [some (.new 1), oN] [(1, I n1), (2, I size2), (3, .bool closed3), (4, .ra 1 0)] [(1, bTerm t0)] trivial ?_
  refine seqQ_norm ?_
  refine sN ?_
  refine sN ?_
  obtain ⟨r_1_4, hr_1_4, h⟩ := bsome h
  refine rg hc none [oN, oN, oN, oN, oc (.bool r_1_4), oN] [(1, I n1), (2, I size2), (3, .bool closed3), (4, .ra 1 0), (15, .bool (!r_1_4))] [(1, bTerm t0)] (ai (spec_l2Node_s _ _ hr_1_4) (ai bod_131 (ai (oi (.bool r_1_4)) trivial))) ?_
  refine seqQ_norm ?_
  rcases itesome h with ⟨hb_1, h⟩ | ⟨hb_1, h⟩
  ·refine cF (!r_1_4) (nF hb_1) ?_
   refine Wp.skipN (by kernel_rfl) ?_
   refine seqQ_norm ?_
   refine sN ?_
   refine sN ?_
   refine rg0 hc 1 [(1, I n1), (2, I size2), (3, .bool closed3), (4, .ra 1 0), (9, I 0)] [(1, bTerm t0)] ?_
   refine seqQ_norm ?_
   refine Wp.blockN (i := 0) (by kernel_rfl) ?_
   obtain ⟨fl, hl_7, h⟩ := bsome h
   have hL := spec_l2Term_l0_ih _ _ hl_7 c hc
   refine Wp.loopN (by kernel_rfl) ?_
   rcases fl with ⟨⟩ | r
   ·refine WpL.into (e := (.exit 0)) (mkS [] []) hL ?_
    refine blockQ_hit ?_
    refine seqQ_norm ?_
    refine sN ?_
    refine rg0 hc 1 [(8, .bool true)] [] ?_
    refine seqQ_norm ?_
    refine Wp.retN (by kernel_rfl) ?_
    obtain rfl := Option.some.inj h
    exact RetQ.ret (fl := [true]) (by kernel_rfl)
   ·refine WpL.mono hL ?_
    rintro _ _ ⟨rfl, hfin⟩
    refine blockQ_ret ?_
    refine seqQ_ret ?_
    obtain rfl := Option.some.inj h
    exact ⟨.inl rfl, hfin⟩
  ·refine cT (!r_1_4) (nT hb_1) ?_
   refine sN ?_
   refine rg0 hc 1 [(8, .bool false)] [] ?_
   refine seqQ_norm ?_
   refine Wp.retN (by kernel_rfl) ?_
   refine seqQ_ret ?_
   obtain rfl := Option.some.inj h
   exact RetQ.ret (fl := [true]) (by kernel_rfl)
 ·rintro spec_l2Term_f spec_l2Term_l0_f spec_l2Term_ih spec_l2Term_l0_ih ⟨t0, n1, size2, closed3, k_4⟩ r h
  intro c hc
  show WpL Try.prog c (cl (cl (cr (cl (cr (cr B98)))))) (spec_l2Term_F1 c r) (mkS [(1, I n1), (2, I size2), (3, .bool closed3), (4, .ra 1 0), (9, I k_4)] [(1, bTerm t0)])
  refine WpL.step ?_
  refine sN ?_
  refine sN ?_
  refine rg hc none [oN, oN, oN, some (.eqv (.no) ⟨[(19, I (t0.fKids.length : Int))], [], []⟩), oN] [(1, I n1), (2, I size2), (3, .bool closed3), (4, .ra 1 0), (9, I k_4), (20, .bool (decide (k_4 < (t0.fKids.length : Int))))] [(1, bTerm t0)] (ai (lenT (d := 19) GTerm_S t0.fKids) trivial) ?_
  refine seqQ_norm ?_
  rcases itesome h with ⟨hb_5, h⟩ | ⟨hb_5, h⟩
  ·refine cT ((decide (k_4 < (t0.fKids.length : Int)))) hb_5 ?_
   refine Wp.skipN (by kernel_rfl) ?_
   refine seqQ_norm ?_
   refine sN ?_
   refine Wp.blockN (i := 1) (by kernel_rfl) ?_
   refine sN ?_
   obtain ⟨e_6_3, hi_6_3, h⟩ := bsome h
   obtain ⟨r_6_9, hr_6_9, h⟩ := bsome h
   obtain ⟨r_6_13, hr_6_13, h⟩ := bsome h
   refine rg hc (rx [[0], [1], [0], [3], [4], [0], [0], [0, 6], [0], [0, 6, 7, 8], [0, 5, 6, 7, 8, 9], [0], [0], [13], [14]]) [oN, oN, oN, some (.el (aTerm e_6_3)), oN, oN, oN, oN, oN, oc (I r_6_9), oN, oN, oN, oc (.bool r_6_13), oN] [(1, I n1), (2, I size2), (3, .bool closed3), (4, .ra 1 0), (9, I k_4), (37, .bool (!r_6_13))] [(1, bTerm t0)] (ai (idx_sl (enc := GTerm_S) (x := aTerm e_6_3) hi_6_3 (eq_GTerm_S e_6_3)) (ai (spec_l2Adds_s _ _ hr_6_9) (ai bod_100 (ai (oi (I r_6_9)) (ai (spec_l2Term_ih _ _ hr_6_13) (ai bod_98 (ai (oi (.bool r_6_13)) trivial))))))) ?_
   refine seqQ_norm ?_
   rcases itesome h with ⟨hb_6, h⟩ | ⟨hb_6, h⟩
   ·refine cF (!r_6_13) (nF hb_6) ?_
    refine Wp.skipN (by kernel_rfl) ?_
    refine blockQ_norm ?_
    refine seqQ_norm ?_
    refine rg0 hc 3 [(1, I n1), (2, I size2), (3, .bool closed3), (4, .ra 1 0), (9, I (wr (k_4 + 1)))] [(1, bTerm t0)] ?_
    refine loopQ_norm ?_
    exact (spec_l2Term_l0_ih _ _ h c hc)
   ·refine cT (!r_6_13) (nT hb_6) ?_
    refine sN ?_
    refine rg0 hc 1 [(8, .bool false)] [] ?_
    refine seqQ_norm ?_
    refine Wp.retN (by kernel_rfl) ?_
    refine blockQ_ret ?_
    refine seqQ_ret ?_
    refine loopQ_ret ?_
    obtain rfl := Option.some.inj h
    exact RetE.ret (fl := [true]) (by kernel_rfl)
  ·refine cF ((decide (k_4 < (t0.fKids.length : Int)))) hb_5 ?_
   refine Wp.exitN (i := 0) (by kernel_rfl) ?_
   refine seqQ_exit ?_
   refine loopQ_exit ?_
   obtain rfl := Option.some.inj h
   exact Into.view (fun a w hv => SRx.renL [] hv (by kernel_rfl) (by kernel_rfl) (by kernel_rfl))
theorem spec_l2Term_s : ∀ p r, spec_l2Term p = some r → M_spec_l2Term p r := spec_l2Term_all.1
theorem spec_l2Term_l0_s : ∀ p r, spec_l2Term_l0 p = some r → M_spec_l2Term_l0 p r := spec_l2Term_all.2
def spec_IsWritten (t0 : GTerm) : Option (Bool) :=
  (
   (spec_l2Left (t0, 400)) >>= fun r_1_1 =>
   if (decide (r_1_1 ≥ 0)) = true then
    (spec_l2Term (t0, 8, 16, false)) >>= fun r_1_5 =>
    some (r_1_5)
   else
    some (false)
  ) >>= fun v_1 =>
  some v_1
def M_spec_IsWritten (t0 : GTerm) (r : Bool) : Prop :=
 FnSound Try.prog 56 [aTerm t0] (.bool r) []
theorem spec_IsWritten_s : ∀ p r, spec_IsWritten p = some r → M_spec_IsWritten p r := by
 rintro t0 r h
 unfold spec_IsWritten at h
 show FnSound Try.prog 56 [aTerm t0] (.bool r) []
 refine FnSound.body0 tiok (fn := Try.f56) (code := B56) (by kernel_rfl) (by kernel_rfl) (by kernel_rfl) (by kernel_rfl) (nt := 10) (by kernel_rfl) (by kernel_rfl) (T := [(0, aTerm t0)]) (O := []) (by kernel_rfl) (by kernel_rfl) (fun c hc => ?_)
 refine sN ?_
 refine rg hc none [some (.new 1), oN] [(1, .ra 1 0)] [(1, bTerm t0)] trivial ?_
 refine seqQ_norm ?_
 refine sN ?_
 obtain ⟨v_1, hj_2, h⟩ := bsome h
 refine Wp.into (x := .normal) (mkS [(2, .bool v_1)] []) ?_ ?_
 ·replace h := hj_2
  obtain ⟨r_1_1, hr_1_1, h⟩ := bsome h
  rcases itesome h with ⟨hb_1_0, h⟩ | ⟨hb_1_0, h⟩
  ·obtain ⟨r_1_5, hr_1_5, h⟩ := bsome h
   refine rg hc none [oN, oc (I r_1_1), oN, oN, oN, oc (.bool r_1_5), oT, oN] [(2, .bool r_1_5)] [] (ai (spec_l2Left_s _ _ hr_1_1) (ai bod_97 (ai (oi (I r_1_1)) (ar 2 hb_1_0 (ai (spec_l2Term_s _ _ hr_1_5) (ai bod_98 (ai (oi (.bool r_1_5)) (ai hb_1_0 trivial)))))))) ?_
   obtain rfl := Option.some.inj h
   exact Into.mk
  ·refine rg hc none [oN, oc (I r_1_1), oN, oN, o_, o_, oF, oN] [(2, .bool false)] [] (ai (spec_l2Left_s _ _ hr_1_1) (ai bod_97 (ai (oi (I r_1_1)) (ar 2 (neT hb_1_0) (ai hb_1_0 trivial))))) ?_
   obtain rfl := Option.some.inj h
   exact Into.mk
 ·clear hj_2
  refine seqQ_norm ?_
  refine Wp.retN (by kernel_rfl) ?_
  obtain rfl := Option.some.inj h
  exact RetQ.ret (fl := [true]) (by kernel_rfl)
def spec_l1Copy (l0 : (List Int)) : Option ((List Int)) :=
  (fits (([] : List Int).length + l0.length) 8) >>= fun _ =>
  some l0
def M_spec_l1Copy (l0 : (List Int)) (r : (List Int)) : Prop :=
 FnSound Try.prog 99 [sI l0] (.osl (List.map I r)) []
theorem spec_l1Copy_s : ∀ p r, spec_l1Copy p = some r → M_spec_l1Copy p r := by
 rintro l0 r h
 unfold spec_l1Copy at h
 show FnSound Try.prog 99 [sI l0] (.osl (List.map I r)) []
 refine FnSound.body0 tiok (fn := Try.f99) (code := B99) (by kernel_rfl) (by kernel_rfl) (by kernel_rfl) (by kernel_rfl) (nt := 6) (by kernel_rfl) (by kernel_rfl) (T := [(0, sI l0)]) (O := []) (by kernel_rfl) (by kernel_rfl) (fun c hc => ?_)
 refine sN ?_
 refine rg0 hc 1 [(0, sI l0)] [] ?_
 refine seqQ_norm ?_
 refine sN ?_
 obtain ⟨_, hk_1_2, h⟩ := bsome h
 refine rg hc none [some (.mk 1 true), oN, some (.eqv (.mk 2 true) ⟨[(5, .rs 2)], [(2, some (.arr (List.map I l0))), (1, none)], [2]⟩), oN] [(2, .rs 2)] [(2, .arr (List.map I l0))] (ai (congrArg (fun z => (⟨[(5, .rs 2)], [(2, some (.arr z)), (1, none)], [2]⟩ : Wr)) (List.nil_append _ : [] ++ (List.map I l0) = List.map I l0)) (ai (app_ob (enc1 := I) (enc2 := I) (e1 := []) (e2 := l0) (sz := 1) ek_I ek_I hk_1_2) trivial)) ?_
 refine seqQ_norm ?_
 refine Wp.retN (by kernel_rfl) ?_
 obtain rfl := Option.some.inj h
 exact RetQ.ret (fl := [true]) (by kernel_rfl)
def spec_l2Shift_F1 (c : Ctx) (t0 : GTerm) (r_1_6 : List Int) (out_4 : Int) : (List GTerm) → Exit → AState → Prop
 | out_11 => Into c (.exit 0) (mkS [(6, .ra 2 0), (7, .ra 4 0)] [(2, .box [I 0, I 0, .nils, .nils]), (3, .arr (List.map I r_1_6)), (4, .box [I t0.fOp, I out_4, .rs 3, .rs 9]), (9, .arr (List.map GTerm_O out_11))])
mutual
def spec_l2Shift (p : GTerm × Int × Int) : Option (GTerm) :=
 match p with
 | (t0, by1, from2) =>
  (spec_l1Copy t0.fType) >>= fun r_1_6 =>
  (
   if (t0.fOp == 0) = true then
    some ((decide (t0.fN ≥ from2)))
   else
    some (false)
  ) >>= fun v_1 =>
  (
   if v_1 = true then
    some ((wr (t0.fN + by1)))
   else
    some (t0.fN)
  ) >>= fun out_4 =>
  (spec_l2Shift_l0 (t0, by1, from2, r_1_6, out_4, [], 0)) >>= fun out_11 =>
  some (GTerm.mk t0.fOp out_4 r_1_6 out_11)
 partial_fixpoint
def spec_l2Shift_l0 (p : GTerm × Int × Int × (List Int) × Int × (List GTerm) × Int) : Option ((List GTerm)) :=
 match p with
 | (t0, by1, from2, r_1_6, out_4, out_9, k_7) =>
  if (decide (k_7 < (t0.fKids.length : Int))) = true then
   (idx t0.fKids k_7) >>= fun e_7_5 =>
   (spec_l2Adds (t0.fOp, k_7)) >>= fun r_7_12 =>
   (spec_l2Shift (e_7_5, by1, (wr (from2 + r_7_12)))) >>= fun r_7_14 =>
   (fits (out_9.length + [r_7_14].length) 64) >>= fun _ =>
   spec_l2Shift_l0 (t0, by1, from2, r_1_6, out_4, (out_9 ++ [r_7_14]), (wr (k_7 + 1)))
  else
   some (out_9)
 partial_fixpoint
end
def M_spec_l2Shift (p : GTerm × Int × Int) (r : GTerm) : Prop :=
 match p with
 | (t0, by1, from2) => FnSound Try.prog 58 [aTerm t0, I by1, I from2] (qTerm r) []
def M_spec_l2Shift_l0 (p : GTerm × Int × Int × (List Int) × Int × (List GTerm) × Int) (fl : (List GTerm)) : Prop :=
 match p with
 | (t0, by1, from2, r_1_6, out_4, out_9, k_7) => ∀ c : Ctx, c.nt = 57 → WpL Try.prog c (cl (cl (cr (cl (cr (cr (cr B58))))))) (spec_l2Shift_F1 c t0 r_1_6 out_4 fl) (mkS [(1, I by1), (2, I from2), (3, .ra 1 0), (6, .ra 2 0), (7, .ra 4 0), (8, I k_7)] [(1, bTerm t0), (2, .box [I 0, I 0, .nils, .nils]), (3, .arr (List.map I r_1_6)), (4, .box [I t0.fOp, I out_4, .rs 3, .rs 9]), (9, .arr (List.map GTerm_O out_9))])
theorem spec_l2Shift_all : (∀ p r, spec_l2Shift p = some r → M_spec_l2Shift p r) ∧ (∀ p r, spec_l2Shift_l0 p = some r → M_spec_l2Shift_l0 p r) := by
 refine spec_l2Shift.mutual_partial_correctness M_spec_l2Shift M_spec_l2Shift_l0 ?_ ?_
 ·rintro spec_l2Shift_l0_f spec_l2Shift_l0_ih ⟨t0, by1, from2⟩ r h
  show FnSound Try.prog 58 [aTerm t0, I by1, I from2] (qTerm r) []
  refine FnSound.body0 tiok (fn := Try.f58) (code := B58) (by kernel_rfl) (by kernel_rfl) (by kernel_rfl) (by kernel_rfl) (nt := 57) (by kernel_rfl) (by kernel_rfl) (T := [(0, aTerm t0), (1, I by1), (2, I from2)]) (O := []) (by kernel_rfl) (by kernel_rfl) (fun c hc => ?_)
  refine sN ?_
  refine rg hc none [some (.new 1), some (.new 2)] [(1, I by1), (2, I from2), (3, .ra 1 0), (6, .ra 2 0)] [(1, bTerm t0), (2, .box [I 0, I 0, .nils, .nils])] trivial ?_
  refine seqQ_norm ?_
  refine sN ?_
  obtain ⟨r_1_6, hr_1_6, h⟩ := bsome h
  refine rg hc (rx [[0], [1], [0], [0, 2], [0], [0, 4], [0, 4, 5], [7], [0], [9]]) [oN, oN, oN, oN, oN, oN, some (.call (.osl (List.map I r_1_6)) [] 3), oN, some (.new 4), oN] [(1, I by1), (2, I from2), (3, .ra 1 0), (6, .ra 2 0), (7, .ra 4 0)] [(1, bTerm t0), (2, .box [I 0, I 0, .nils, .nils]), (3, .arr (List.map I r_1_6)), (4, .box [I t0.fOp, I t0.fN, .rs 3, .nils])] (ai (spec_l1Copy_s _ _ hr_1_6) (ai bod_99 (ai (oi (.osl (List.map I r_1_6))) trivial))) ?_
  refine seqQ_norm ?_
  refine sN ?_
  refine sN ?_
  obtain ⟨v_1, hj_2, h⟩ := bsome h
  refine Wp.into (x := .normal) (mkS [(1, I by1), (2, I from2), (3, .ra 1 0), (6, .ra 2 0), (7, .ra 4 0), (25, .bool v_1)] [(1, bTerm t0), (2, .box [I 0, I 0, .nils, .nils]), (3, .arr (List.map I r_1_6)), (4, .box [I t0.fOp, I t0.fN, .rs 3, .nils])]) ?_ ?_
  ·replace h := hj_2
   rcases itesome h with ⟨hb_2_0, h⟩ | ⟨hb_2_0, h⟩
   ·refine rg hc none [oN, oN, oN, oN, oN, oN, oN, oN, oT] [(1, I by1), (2, I from2), (3, .ra 1 0), (6, .ra 2 0), (7, .ra 4 0), (25, .bool (decide (t0.fN ≥ from2)))] [(1, bTerm t0), (2, .box [I 0, I 0, .nils, .nils]), (3, .arr (List.map I r_1_6)), (4, .box [I t0.fOp, I t0.fN, .rs 3, .nils])] (ar 5 hb_2_0 trivial) ?_
    obtain rfl := Option.some.inj h
    exact Into.mk
   ·refine rg hc none [oN, oN, oN, oN, o_, o_, o_, o_, oF] [(1, I by1), (2, I from2), (3, .ra 1 0), (6, .ra 2 0), (7, .ra 4 0), (25, .bool false)] [(1, bTerm t0), (2, .box [I 0, I 0, .nils, .nils]), (3, .arr (List.map I r_1_6)), (4, .box [I t0.fOp, I t0.fN, .rs 3, .nils])] (ar 4 (neT hb_2_0) (ai hb_2_0 trivial)) ?_
    obtain rfl := Option.some.inj h
    exact Into.mk
  ·clear hj_2
   refine seqQ_norm ?_
   obtain ⟨out_4, hj_5, h⟩ := bsome h
   refine Wp.into (x := .normal) (mkS [(1, I by1), (2, I from2), (3, .ra 1 0), (6, .ra 2 0), (7, .ra 4 0)] [(1, bTerm t0), (2, .box [I 0, I 0, .nils, .nils]), (3, .arr (List.map I r_1_6)), (4, .box [I t0.fOp, I out_4, .rs 3, .nils])]) ?_ ?_
   ·replace h := hj_5
    rcases itesome h with ⟨hb_3, h⟩ | ⟨hb_3, h⟩
    ·refine cT v_1 hb_3 ?_
     refine rg0 hc 6 [(1, I by1), (2, I from2), (3, .ra 1 0), (6, .ra 2 0), (7, .ra 4 0)] [(1, bTerm t0), (2, .box [I 0, I 0, .nils, .nils]), (3, .arr (List.map I r_1_6)), (4, .box [I t0.fOp, I (wr (t0.fN + by1)), .rs 3, .nils])] ?_
     obtain rfl := Option.some.inj h
     exact Into.mk
    ·refine cF v_1 hb_3 ?_
     refine Wp.skipN (by kernel_rfl) ?_
     obtain rfl := Option.some.inj h
     exact Into.view (fun a w hv => SRx.renL [] hv (by kernel_rfl) (by kernel_rfl) (by kernel_rfl))
   ·clear hj_5
    refine seqQ_norm ?_
    refine sN ?_
    refine sN ?_
    refine rg0 hc 1 [(1, I by1), (2, I from2), (3, .ra 1 0), (6, .ra 2 0), (7, .ra 4 0), (8, I 0)] [(1, bTerm t0), (2, .box [I 0, I 0, .nils, .nils]), (3, .arr (List.map I r_1_6)), (4, .box [I t0.fOp, I out_4, .rs 3, .nils])] ?_
    refine seqQ_norm ?_
    refine Wp.blockN (i := 0) (by kernel_rfl) ?_
    obtain ⟨out_11, hl_12, h⟩ := bsome h
    have hL := spec_l2Shift_l0_ih _ _ hl_12 c hc
    refine Wp.loopN (by kernel_rfl) (WpL.view (fun a w hv => SRx.renL [(9, 18)] (SRx.nilBL 4 3 18 [I t0.fOp, I out_4, .rs 3, .nils] hv (by kernel_rfl) (by kernel_rfl) (by kernel_rfl)) (by kernel_rfl) (by kernel_rfl) (by kernel_rfl)) (?_ : WpL _ c _ _ (mkS [(1, I by1), (2, I from2), (3, .ra 1 0), (6, .ra 2 0), (7, .ra 4 0), (8, I 0)] [(1, bTerm t0), (2, .box [I 0, I 0, .nils, .nils]), (3, .arr (List.map I r_1_6)), (4, .box [I t0.fOp, I out_4, .rs 3, .rs 9]), (9, .arr (List.map GTerm_O []))])))
    ·refine WpL.into (e := (.exit 0)) (mkS [(6, .ra 2 0), (7, .ra 4 0)] [(2, .box [I 0, I 0, .nils, .nils]), (3, .arr (List.map I r_1_6)), (4, .box [I t0.fOp, I out_4, .rs 3, .rs 9]), (9, .arr (List.map GTerm_O out_11))]) hL ?_
     refine blockQ_hit ?_
     refine seqQ_norm ?_
     refine sN ?_
     refine rg0 hc 2 [(6, .ra 2 0)] [(2, .box [I t0.fOp, I out_4, .rs 3, .rs 9]), (3, .arr (List.map I r_1_6)), (9, .arr (List.map GTerm_O out_11))] ?_
     refine seqQ_norm ?_
     refine Wp.retN (by kernel_rfl) ?_
     obtain rfl := Option.some.inj h
     exact RetQ.ret (fl := [true]) (by kernel_rfl)
 ·rintro spec_l2Shift_f spec_l2Shift_l0_f spec_l2Shift_ih spec_l2Shift_l0_ih ⟨t0, by1, from2, r_1_6, out_4, out_9, k_7⟩ r h
  intro c hc
  show WpL Try.prog c (cl (cl (cr (cl (cr (cr (cr B58))))))) (spec_l2Shift_F1 c t0 r_1_6 out_4 r) (mkS [(1, I by1), (2, I from2), (3, .ra 1 0), (6, .ra 2 0), (7, .ra 4 0), (8, I k_7)] [(1, bTerm t0), (2, .box [I 0, I 0, .nils, .nils]), (3, .arr (List.map I r_1_6)), (4, .box [I t0.fOp, I out_4, .rs 3, .rs 9]), (9, .arr (List.map GTerm_O out_9))])
  refine WpL.step ?_
  refine sN ?_
  refine sN ?_
  refine rg hc none [oN, oN, oN, some (.eqv (.no) ⟨[(34, I (t0.fKids.length : Int))], [], []⟩), oN] [(1, I by1), (2, I from2), (3, .ra 1 0), (6, .ra 2 0), (7, .ra 4 0), (8, I k_7), (35, .bool (decide (k_7 < (t0.fKids.length : Int))))] [(1, bTerm t0), (2, .box [I 0, I 0, .nils, .nils]), (3, .arr (List.map I r_1_6)), (4, .box [I t0.fOp, I out_4, .rs 3, .rs 9]), (9, .arr (List.map GTerm_O out_9))] (ai (lenT (d := 34) GTerm_S t0.fKids) trivial) ?_
  refine seqQ_norm ?_
  rcases itesome h with ⟨hb_10, h⟩ | ⟨hb_10, h⟩
  ·refine cT ((decide (k_7 < (t0.fKids.length : Int)))) hb_10 ?_
   refine Wp.skipN (by kernel_rfl) ?_
   refine seqQ_norm ?_
   refine sN ?_
   refine Wp.blockN (i := 1) (by kernel_rfl) ?_
   obtain ⟨e_7_5, hi_7_5, h⟩ := bsome h
   obtain ⟨r_7_12, hr_7_12, h⟩ := bsome h
   obtain ⟨r_7_14, hr_7_14, h⟩ := bsome h
   obtain ⟨_, hk_7_16, h⟩ := bsome h
   refine rg hc (rx [[0], [1], [0], [0, 2], [0], [0, 2, 3, 4], [0, 2, 3, 4, 5], [0], [0], [0], [0, 9], [0], [0, 9, 10, 11], [0, 8, 9, 10, 11, 12], [0, 2, 3, 4, 5, 6, 7, 8, 9, 10, 11, 12, 13], [0, 2, 3, 4, 5, 6, 7, 8, 9, 10, 11, 12, 13, 14], [16], [17], [18]]) [oN, oN, oN, oN, oN, some (.el (aTerm e_7_5)), oN, oN, oN, oN, oN, oN, oc (I r_7_12), oN, some (.call (qTerm r_7_14) [] 14), some (.eqv (.mk 16 true) ⟨[(53, .rs 16)], [(16, some (.arr (List.map GTerm_O [r_7_14]))), (14, none), (15, none)], [16]⟩), some (.eqv (.mk 17 true) ⟨[(54, .rs 17)], [(17, some (.arr (List.map GTerm_O (out_9 ++ [r_7_14])))), (9, none), (16, none)], [17]⟩), oN, oN] [(1, I by1), (2, I from2), (3, .ra 1 0), (6, .ra 2 0), (7, .ra 4 0), (8, I k_7)] [(1, bTerm t0), (2, .box [I 0, I 0, .nils, .nils]), (3, .arr (List.map I r_1_6)), (4, .box [I t0.fOp, I out_4, .rs 3, .rs 17]), (17, .arr (List.map GTerm_O (out_9 ++ [r_7_14])))] (ai (idx_sl (enc := GTerm_S) (x := aTerm e_7_5) hi_7_5 (eq_GTerm_S e_7_5)) (ai (spec_l2Adds_s _ _ hr_7_12) (ai bod_100 (ai (oi (I r_7_12)) (ai (spec_l2Shift_ih _ _ hr_7_14) (ai bod_58 (ai (oi (qTerm r_7_14)) (ai (congrArg (fun z => (⟨[(53, .rs 16)], [(16, some (.arr z)), (14, none), (15, none)], [16]⟩ : Wr)) ((rows1 (eq_GTerm_O r_7_14) rows0) : [AV.agg [I r_7_14.fOp, I r_7_14.fN, AV.osl (List.map I r_7_14.fType), AV.osl (List.map GTerm_O r_7_14.fKids)]] = List.map GTerm_O [r_7_14])) (ai (congrArg (fun z => (⟨[(54, .rs 17)], [(17, some (.arr z)), (9, none), (16, none)], [17]⟩ : Wr)) ((List.map_append).symm : (List.map GTerm_O out_9) ++ (List.map GTerm_O [r_7_14]) = List.map GTerm_O (out_9 ++ [r_7_14]))) (ai (app_ob (enc1 := GTerm_O) (enc2 := GTerm_O) (e1 := out_9) (e2 := [r_7_14]) (sz := 4) ek_GTerm_O ek_GTerm_O hk_7_16) trivial)))))))))) ?_
   refine blockQ_norm ?_
   refine seqQ_norm ?_
   refine rg0 hc 3 [(1, I by1), (2, I from2), (3, .ra 1 0), (6, .ra 2 0), (7, .ra 4 0), (8, I (wr (k_7 + 1)))] [(1, bTerm t0), (2, .box [I 0, I 0, .nils, .nils]), (3, .arr (List.map I r_1_6)), (4, .box [I t0.fOp, I out_4, .rs 3, .rs 17]), (17, .arr (List.map GTerm_O (out_9 ++ [r_7_14])))] ?_
   refine loopQ_norm ?_
   exact WpL.view (fun a w hv => SRx.renL [(9, 17)] hv (by kernel_rfl) (by kernel_rfl) (by kernel_rfl)) (spec_l2Shift_l0_ih _ _ h c hc)
  ·refine cF ((decide (k_7 < (t0.fKids.length : Int)))) hb_10 ?_
   refine Wp.exitN (i := 0) (by kernel_rfl) ?_
   refine seqQ_exit ?_
   refine loopQ_exit ?_
   obtain rfl := Option.some.inj h
   exact Into.view (fun a w hv => SRx.renL [] hv (by kernel_rfl) (by kernel_rfl) (by kernel_rfl))
theorem spec_l2Shift_s : ∀ p r, spec_l2Shift p = some r → M_spec_l2Shift p r := spec_l2Shift_all.1
theorem spec_l2Shift_l0_s : ∀ p r, spec_l2Shift_l0 p = some r → M_spec_l2Shift_l0 p r := spec_l2Shift_all.2
def spec_l4Redex (t0 : GTerm) : Option (Bool) :=
  if ((t0.fKids.length : Int) == 0) = true then
   some false
  else
   (idx t0.fKids 0) >>= fun e_3_2 =>
   if (t0.fOp == 2) = true then
    (
     if (e_3_2.fOp == 1) = true then
      (idx t0.fKids 1) >>= fun e_6_5 =>
      some ((e_6_5.fOp == 1))
     else
      some (false)
    ) >>= fun v_3 =>
    some v_3
   else
    if (t0.fOp == 3) = true then
     some (e_3_2.fOp == 1)
    else
     if (t0.fOp == 10) = true then
      some (e_3_2.fOp == 9)
     else
      if (t0.fOp == 5) = true then
       some (e_3_2.fOp == 4)
      else
       if (t0.fOp == 8) = true then
        (
         if (e_3_2.fOp == 6) = true then
          some (true)
         else
          some ((e_3_2.fOp == 7))
        ) >>= fun v_9 =>
        some v_9
       else
        if (t0.fOp == 12) = true then
         some (e_3_2.fOp == 11)
        else
         some false
def M_spec_l4Redex (t0 : GTerm) (r : Bool) : Prop :=
 FnSound Try.prog 89 [aTerm t0] (.bool r) []
theorem spec_l4Redex_s : ∀ p r, spec_l4Redex p = some r → M_spec_l4Redex p r := by
 rintro t0 r h
 unfold spec_l4Redex at h
 show FnSound Try.prog 89 [aTerm t0] (.bool r) []
 refine FnSound.body0 tiok (fn := Try.f89) (code := B89) (by kernel_rfl) (by kernel_rfl) (by kernel_rfl) (by kernel_rfl) (nt := 51) (by kernel_rfl) (by kernel_rfl) (T := [(0, aTerm t0)]) (O := []) (by kernel_rfl) (by kernel_rfl) (fun c hc => ?_)
 refine sN ?_
 refine rg hc none [some (.new 1), oN] [(1, .ra 1 0)] [(1, bTerm t0)] trivial ?_
 refine seqQ_norm ?_
 refine sN ?_
 refine sN ?_
 refine rg hc none [oN, oN, some (.eqv (.no) ⟨[(6, I (t0.fKids.length : Int))], [], []⟩), oN] [(1, .ra 1 0), (7, .bool ((t0.fKids.length : Int) == 0))] [(1, bTerm t0)] (ai (lenT (d := 6) GTerm_S t0.fKids) trivial) ?_
 refine seqQ_norm ?_
 rcases itesome h with ⟨hb_1, h⟩ | ⟨hb_1, h⟩
 ·refine cT (((t0.fKids.length : Int) == 0)) hb_1 ?_
  refine sN ?_
  refine rg0 hc 1 [(2, .bool false)] [] ?_
  refine seqQ_norm ?_
  refine Wp.retN (by kernel_rfl) ?_
  refine seqQ_ret ?_
  obtain rfl := Option.some.inj h
  exact RetQ.ret (fl := [true]) (by kernel_rfl)
 ·refine cF (((t0.fKids.length : Int) == 0)) hb_1 ?_
  refine Wp.skipN (by kernel_rfl) ?_
  refine seqQ_norm ?_
  refine sN ?_
  obtain ⟨e_3_2, hi_3_2, h⟩ := bsome h
  refine rg hc none [oN, oN, some (.el (aTerm e_3_2)), oN, oN, oN] [(1, .ra 1 0), (3, I e_3_2.fOp)] [(1, bTerm t0)] (ai (idx_sl (enc := GTerm_S) (x := aTerm e_3_2) hi_3_2 (eq_GTerm_S e_3_2)) trivial) ?_
  refine seqQ_norm ?_
  refine sN ?_
  refine sN ?_
  refine rg0 hc 2 [(1, .ra 1 0), (3, I e_3_2.fOp), (14, I t0.fOp)] [(1, bTerm t0)] ?_
  refine seqQ_norm ?_
  refine Wp.blockN (i := 0) (by kernel_rfl) ?_
  refine sN ?_
  refine rg0 hc 2 [(1, .ra 1 0), (3, I e_3_2.fOp), (14, I t0.fOp), (15, .bool (t0.fOp == 2))] [(1, bTerm t0)] ?_
  refine seqQ_norm ?_
  rcases itesome h with ⟨hb_2, h⟩ | ⟨hb_2, h⟩
  ·refine cT ((t0.fOp == 2)) hb_2 ?_
   refine sN ?_
   obtain ⟨v_3, hj_4, h⟩ := bsome h
   refine Wp.into (x := .normal) (mkS [(2, .bool v_3)] []) ?_ ?_
   ·replace h := hj_4
    rcases itesome h with ⟨hb_6_0, h⟩ | ⟨hb_6_0, h⟩
    ·obtain ⟨e_6_5, hi_6_5, h⟩ := bsome h
     refine rg hc none [oN, oN, oN, oN, oN, some (.el (aTerm e_6_5)), oN, oN, oN, oT, oN] [(2, .bool (e_6_5.fOp == 1))] [] (ar 3 hb_6_0 (ai (idx_sl (enc := GTerm_S) (x := aTerm e_6_5) hi_6_5 (eq_GTerm_S e_6_5)) (ar 4 hb_6_0 trivial))) ?_
     obtain rfl := Option.some.inj h
     exact Into.mk
    ·refine rg hc none [oN, oN, oN, o_, o_, o_, o_, o_, o_, oF, oN] [(2, .bool false)] [] (ar 6 (neT hb_6_0) (ai hb_6_0 trivial)) ?_
     obtain rfl := Option.some.inj h
     exact Into.mk
   ·clear hj_4
    refine seqQ_norm ?_
    refine Wp.retN (by kernel_rfl) ?_
    refine blockQ_ret ?_
    refine seqQ_ret ?_
    obtain rfl := Option.some.inj h
    exact RetQ.ret (fl := [true]) (by kernel_rfl)
  ·refine cF ((t0.fOp == 2)) hb_2 ?_
   refine sN ?_
   refine rg0 hc 2 [(3, I e_3_2.fOp), (14, I t0.fOp), (27, .bool (t0.fOp == 3))] [] ?_
   refine seqQ_norm ?_
   rcases itesome h with ⟨hb_5, h⟩ | ⟨hb_5, h⟩
   ·refine cT ((t0.fOp == 3)) hb_5 ?_
    refine sN ?_
    refine rg0 hc 3 [(2, .bool (e_3_2.fOp == 1))] [] ?_
    refine seqQ_norm ?_
    refine Wp.retN (by kernel_rfl) ?_
    refine blockQ_ret ?_
    refine seqQ_ret ?_
    obtain rfl := Option.some.inj h
    exact RetQ.ret (fl := [true]) (by kernel_rfl)
   ·refine cF ((t0.fOp == 3)) hb_5 ?_
    refine sN ?_
    refine rg0 hc 2 [(3, I e_3_2.fOp), (14, I t0.fOp), (31, .bool (t0.fOp == 10))] [] ?_
    refine seqQ_norm ?_
    rcases itesome h with ⟨hb_6, h⟩ | ⟨hb_6, h⟩
    ·refine cT ((t0.fOp == 10)) hb_6 ?_
     refine sN ?_
     refine rg0 hc 3 [(2, .bool (e_3_2.fOp == 9))] [] ?_
     refine seqQ_norm ?_
     refine Wp.retN (by kernel_rfl) ?_
     refine blockQ_ret ?_
     refine seqQ_ret ?_
     obtain rfl := Option.some.inj h
     exact RetQ.ret (fl := [true]) (by kernel_rfl)
    ·refine cF ((t0.fOp == 10)) hb_6 ?_
     refine sN ?_
     refine rg0 hc 2 [(3, I e_3_2.fOp), (14, I t0.fOp), (35, .bool (t0.fOp == 5))] [] ?_
     refine seqQ_norm ?_
     rcases itesome h with ⟨hb_7, h⟩ | ⟨hb_7, h⟩
     ·refine cT ((t0.fOp == 5)) hb_7 ?_
      refine sN ?_
      refine rg0 hc 3 [(2, .bool (e_3_2.fOp == 4))] [] ?_
      refine seqQ_norm ?_
      refine Wp.retN (by kernel_rfl) ?_
      refine blockQ_ret ?_
      refine seqQ_ret ?_
      obtain rfl := Option.some.inj h
      exact RetQ.ret (fl := [true]) (by kernel_rfl)
     ·refine cF ((t0.fOp == 5)) hb_7 ?_
      refine sN ?_
      refine rg0 hc 2 [(3, I e_3_2.fOp), (14, I t0.fOp), (39, .bool (t0.fOp == 8))] [] ?_
      refine seqQ_norm ?_
      rcases itesome h with ⟨hb_8, h⟩ | ⟨hb_8, h⟩
      ·refine cT ((t0.fOp == 8)) hb_8 ?_
       refine sN ?_
       obtain ⟨v_9, hj_10, h⟩ := bsome h
       refine Wp.into (x := .normal) (mkS [(2, .bool v_9)] []) ?_ ?_
       ·replace h := hj_10
        rcases itesome h with ⟨hb_14_0, h⟩ | ⟨hb_14_0, h⟩
        ·refine rg hc none [oN, oN, oN, o_, o_, oT, oN] [(2, .bool true)] [] (ar 2 (neF hb_14_0) (ai hb_14_0 trivial)) ?_
         obtain rfl := Option.some.inj h
         exact Into.mk
        ·refine rg hc none [oN, oN, oN, oN, oN, oF, oN] [(2, .bool (e_3_2.fOp == 7))] [] (ar 3 hb_14_0 trivial) ?_
         obtain rfl := Option.some.inj h
         exact Into.mk
       ·clear hj_10
        refine seqQ_norm ?_
        refine Wp.retN (by kernel_rfl) ?_
        refine blockQ_ret ?_
        refine seqQ_ret ?_
        obtain rfl := Option.some.inj h
        exact RetQ.ret (fl := [true]) (by kernel_rfl)
      ·refine cF ((t0.fOp == 8)) hb_8 ?_
       refine sN ?_
       refine rg0 hc 2 [(3, I e_3_2.fOp), (47, .bool (t0.fOp == 12))] [] ?_
       refine seqQ_norm ?_
       rcases itesome h with ⟨hb_11, h⟩ | ⟨hb_11, h⟩
       ·refine cT ((t0.fOp == 12)) hb_11 ?_
        refine sN ?_
        refine rg0 hc 3 [(2, .bool (e_3_2.fOp == 11))] [] ?_
        refine seqQ_norm ?_
        refine Wp.retN (by kernel_rfl) ?_
        refine blockQ_ret ?_
        refine seqQ_ret ?_
        obtain rfl := Option.some.inj h
        exact RetQ.ret (fl := [true]) (by kernel_rfl)
       ·refine cF ((t0.fOp == 12)) hb_11 ?_
        refine Wp.skipN (by kernel_rfl) ?_
        refine blockQ_norm ?_
        refine seqQ_norm ?_
        refine sN ?_
        refine rg0 hc 1 [(2, .bool false)] [] ?_
        refine seqQ_norm ?_
        refine Wp.retN (by kernel_rfl) ?_
        obtain rfl := Option.some.inj h
        exact RetQ.ret (fl := [true]) (by kernel_rfl)
def spec_l4Paths_F1 (c : Ctx) : (List (List Int)) → Exit → AState → Prop
 | out_8 => Into c (.exit 0) (mkS [(5, .rs 5)] [(5, .arr (List.map LI_o out_8))])
mutual
def spec_l4Paths (p : GTerm × (List Int)) : Option ((List (List Int))) :=
 match p with
 | (t0, path1) =>
  (spec_l4Redex t0) >>= fun r_2_1 =>
  (
   if r_2_1 = true then
    (spec_l1Copy path1) >>= fun r_3_2 =>
    (fits (([] : List (List Int)).length + [r_3_2].length) 24) >>= fun _ =>
    some ([r_3_2])
   else
    some ([])
  ) >>= fun out_2 =>
  (spec_l4Paths_l0 (t0, path1, out_2, 0)) >>= fun out_8 =>
  some out_8
 partial_fixpoint
def spec_l4Paths_l0 (p : GTerm × (List Int) × (List (List Int)) × Int) : Option ((List (List Int))) :=
 match p with
 | (t0, path1, out_5, k_6) =>
  if (decide (k_6 < (t0.fKids.length : Int))) = true then
   (idx t0.fKids k_6) >>= fun e_7_4 =>
   (spec_l1Copy path1) >>= fun r_7_7 =>
   (fits (r_7_7.length + [k_6].length) 8) >>= fun _ =>
   (spec_l4Paths (e_7_4, (r_7_7 ++ [k_6]))) >>= fun r_7_11 =>
   (fits (out_5.length + r_7_11.length) 24) >>= fun _ =>
   spec_l4Paths_l0 (t0, path1, (out_5 ++ r_7_11), (wr (k_6 + 1)))
  else
   some (out_5)
 partial_fixpoint
end
def M_spec_l4Paths (p : GTerm × (List Int)) (r : (List (List Int))) : Prop :=
 match p with
 | (t0, path1) => FnSound Try.prog 87 [aTerm t0, sI path1] (.osl (List.map LI_o r)) []
def M_spec_l4Paths_l0 (p : GTerm × (List Int) × (List (List Int)) × Int) (fl : (List (List Int))) : Prop :=
 match p with
 | (t0, path1, out_5, k_6) => ∀ c : Ctx, c.nt = 36 → WpL Try.prog c (cl (cl (cr (cl (cr (cr (cr B87))))))) (spec_l4Paths_F1 c fl) (mkS [(1, sI path1), (2, .ra 1 0), (5, .rs 5), (6, I k_6)] [(1, bTerm t0), (5, .arr (List.map LI_o out_5))])
theorem spec_l4Paths_all : (∀ p r, spec_l4Paths p = some r → M_spec_l4Paths p r) ∧ (∀ p r, spec_l4Paths_l0 p = some r → M_spec_l4Paths_l0 p r) := by
 refine spec_l4Paths.mutual_partial_correctness M_spec_l4Paths M_spec_l4Paths_l0 ?_ ?_
 ·rintro spec_l4Paths_l0_f spec_l4Paths_l0_ih ⟨t0, path1⟩ r h
  show FnSound Try.prog 87 [aTerm t0, sI path1] (.osl (List.map LI_o r)) []
  refine FnSound.body0 tiok (fn := Try.f87) (code := B87) (by kernel_rfl) (by kernel_rfl) (by kernel_rfl) (by kernel_rfl) (nt := 36) (by kernel_rfl) (by kernel_rfl) (T := [(0, aTerm t0), (1, sI path1)]) (O := []) (by kernel_rfl) (by kernel_rfl) (fun c hc => ?_)
  refine sN ?_
  refine rg hc none [some (.new 1), oN] [(1, sI path1), (2, .ra 1 0)] [(1, bTerm t0)] trivial ?_
  refine seqQ_norm ?_
  refine sN ?_
  refine rg hc none [some (.mk 2 true), oN] [(1, sI path1), (2, .ra 1 0), (5, .rs 2)] [(1, bTerm t0), (2, .arr (List.map LI_o []))] trivial ?_
  refine seqQ_norm ?_
  refine sN ?_
  refine sN ?_
  obtain ⟨r_2_1, hr_2_1, h⟩ := bsome h
  refine rg hc none [oN, oc (.bool r_2_1)] [(1, sI path1), (2, .ra 1 0), (5, .rs 2), (9, .bool r_2_1)] [(1, bTerm t0), (2, .arr (List.map LI_o []))] (ai (spec_l4Redex_s _ _ hr_2_1) (ai bod_89 (ai (oi (.bool r_2_1)) trivial))) ?_
  refine seqQ_norm ?_
  obtain ⟨out_2, hj_3, h⟩ := bsome h
  refine Wp.into (x := .normal) (mkS [(1, sI path1), (2, .ra 1 0), (5, .rs 5)] [(1, bTerm t0), (5, .arr (List.map LI_o out_2))]) ?_ ?_
  ·replace h := hj_3
   rcases itesome h with ⟨hb_1, h⟩ | ⟨hb_1, h⟩
   ·refine cT r_2_1 hb_1 ?_
    obtain ⟨r_3_2, hr_3_2, h⟩ := bsome h
    obtain ⟨_, hk_3_4, h⟩ := bsome h
    refine rg hc none [oN, oN, some (.call (.osl (List.map I r_3_2)) [] 3), some (.mk 4 true), some (.eqv (.mk 5 true) ⟨[(14, .rs 5)], [(5, some (.arr (List.map LI_o [r_3_2]))), (2, none), (4, none)], [5]⟩), oN] [(1, sI path1), (2, .ra 1 0), (5, .rs 5)] [(1, bTerm t0), (5, .arr (List.map LI_o [r_3_2]))] (ai (spec_l1Copy_s _ _ hr_3_2) (ai bod_99 (ai (oi (.osl (List.map I r_3_2))) (ai (congrArg (fun z => (⟨[(14, .rs 5)], [(5, some (.arr z)), (2, none), (4, none)], [5]⟩ : Wr)) (List.nil_append _ : [] ++ (List.map LI_o [r_3_2]) = List.map LI_o [r_3_2])) (ai (app_ob (enc1 := LI_o) (enc2 := LI_o) (e1 := []) (e2 := [r_3_2]) (sz := 1) ek_LI_o ek_LI_o hk_3_4) trivial))))) ?_
    obtain rfl := Option.some.inj h
    exact Into.mk
   ·refine cF r_2_1 hb_1 ?_
    refine Wp.skipN (by kernel_rfl) ?_
    obtain rfl := Option.some.inj h
    exact Into.view (fun a w hv => SRx.renL [(5, 2)] hv (by kernel_rfl) (by kernel_rfl) (by kernel_rfl))
  ·clear hj_3
   refine seqQ_norm ?_
   refine sN ?_
   refine sN ?_
   refine rg0 hc 1 [(1, sI path1), (2, .ra 1 0), (5, .rs 5), (6, I 0)] [(1, bTerm t0), (5, .arr (List.map LI_o out_2))] ?_
   refine seqQ_norm ?_
   refine Wp.blockN (i := 0) (by kernel_rfl) ?_
   obtain ⟨out_8, hl_9, h⟩ := bsome h
   have hL := spec_l4Paths_l0_ih _ _ hl_9 c hc
   refine Wp.loopN (by kernel_rfl) ?_
   ·refine WpL.into (e := (.exit 0)) (mkS [(5, .rs 5)] [(5, .arr (List.map LI_o out_8))]) hL ?_
    refine blockQ_hit ?_
    refine seqQ_norm ?_
    refine sN ?_
    refine rg0 hc 2 [(4, .rs 5)] [(5, .arr (List.map LI_o out_8))] ?_
    refine seqQ_norm ?_
    refine Wp.retN (by kernel_rfl) ?_
    obtain rfl := Option.some.inj h
    exact RetQ.ret (fl := [true]) (by kernel_rfl)
 ·rintro spec_l4Paths_f spec_l4Paths_l0_f spec_l4Paths_ih spec_l4Paths_l0_ih ⟨t0, path1, out_5, k_6⟩ r h
  intro c hc
  show WpL Try.prog c (cl (cl (cr (cl (cr (cr (cr B87))))))) (spec_l4Paths_F1 c r) (mkS [(1, sI path1), (2, .ra 1 0), (5, .rs 5), (6, I k_6)] [(1, bTerm t0), (5, .arr (List.map LI_o out_5))])
  refine WpL.step ?_
  refine sN ?_
  refine sN ?_
  refine rg hc none [oN, oN, oN, some (.eqv (.no) ⟨[(18, I (t0.fKids.length : Int))], [], []⟩), oN] [(1, sI path1), (2, .ra 1 0), (5, .rs 5), (6, I k_6), (19, .bool (decide (k_6 < (t0.fKids.length : Int))))] [(1, bTerm t0), (5, .arr (List.map LI_o out_5))] (ai (lenT (d := 18) GTerm_S t0.fKids) trivial) ?_
  refine seqQ_norm ?_
  rcases itesome h with ⟨hb_7, h⟩ | ⟨hb_7, h⟩
  ·refine cT ((decide (k_6 < (t0.fKids.length : Int)))) hb_7 ?_
   refine Wp.skipN (by kernel_rfl) ?_
   refine seqQ_norm ?_
   refine sN ?_
   refine Wp.blockN (i := 1) (by kernel_rfl) ?_
   obtain ⟨e_7_4, hi_7_4, h⟩ := bsome h
   obtain ⟨r_7_7, hr_7_7, h⟩ := bsome h
   obtain ⟨_, hk_7_10, h⟩ := bsome h
   obtain ⟨r_7_11, hr_7_11, h⟩ := bsome h
   obtain ⟨_, hk_7_12, h⟩ := bsome h
   refine rg hc (rx [[0], [0], [0, 1], [0], [0, 1, 2, 3], [0, 1, 2, 3, 4], [0], [0, 6], [0], [0, 8], [0, 6, 7, 8, 9], [0, 1, 2, 3, 4, 5, 6, 7, 8, 9, 10], [12], [13]]) [oN, oN, oN, oN, some (.el (aTerm e_7_4)), oN, oN, some (.call (.osl (List.map I r_7_7)) [] 11), oN, some (.mk 12 true), some (.eqv (.mk 13 true) ⟨[(32, .rs 13)], [(13, some (.arr (List.map I (r_7_7 ++ [k_6])))), (11, none), (12, none)], [13]⟩), some (.call (.osl (List.map LI_o r_7_11)) [] 14), some (.eqv (.mk 15 true) ⟨[(34, .rs 15)], [(15, some (.arr (List.map LI_o (out_5 ++ r_7_11)))), (5, none), (14, none)], [15]⟩), oN] [(1, sI path1), (2, .ra 1 0), (5, .rs 15), (6, I k_6)] [(1, bTerm t0), (15, .arr (List.map LI_o (out_5 ++ r_7_11)))] (ai (idx_sl (enc := GTerm_S) (x := aTerm e_7_4) hi_7_4 (eq_GTerm_S e_7_4)) (ai (spec_l1Copy_s _ _ hr_7_7) (ai bod_99 (ai (oi (.osl (List.map I r_7_7))) (ai (congrArg (fun z => (⟨[(32, .rs 13)], [(13, some (.arr z)), (11, none), (12, none)], [13]⟩ : Wr)) ((List.map_append).symm : (List.map I r_7_7) ++ (List.map I [k_6]) = List.map I (r_7_7 ++ [k_6]))) (ai (app_ob (enc1 := I) (enc2 := I) (e1 := r_7_7) (e2 := [k_6]) (sz := 1) ek_I ek_I hk_7_10) (ai (FnSound.args (A1 := [aTerm e_7_4, .sl (shares (List.map I (r_7_7 ++ [k_6])))]) (A2 := [aTerm e_7_4, sI (r_7_7 ++ [k_6])]) (by simp only [sI, sB, aTerm, hTerm, List.map_nil, sh_I]) (spec_l4Paths_ih _ _ hr_7_11)) (ai bod_87 (ai (Or.inr (nsh_row nsh_LI_o r_7_11) : ([13] : List Nat) = [] ∨ noSh (.osl (List.map LI_o r_7_11)) = true) (ai (congrArg (fun z => (⟨[(34, .rs 15)], [(15, some (.arr z)), (5, none), (14, none)], [15]⟩ : Wr)) ((List.map_append).symm : (List.map LI_o out_5) ++ (List.map LI_o r_7_11) = List.map LI_o (out_5 ++ r_7_11))) (ai (app_ob (enc1 := LI_o) (enc2 := LI_o) (e1 := out_5) (e2 := r_7_11) (sz := 1) ek_LI_o ek_LI_o hk_7_12) trivial))))))))))) ?_
   refine blockQ_norm ?_
   refine seqQ_norm ?_
   refine rg0 hc 3 [(1, sI path1), (2, .ra 1 0), (5, .rs 15), (6, I (wr (k_6 + 1)))] [(1, bTerm t0), (15, .arr (List.map LI_o (out_5 ++ r_7_11)))] ?_
   refine loopQ_norm ?_
   exact WpL.view (fun a w hv => SRx.renL [(5, 15)] hv (by kernel_rfl) (by kernel_rfl) (by kernel_rfl)) (spec_l4Paths_l0_ih _ _ h c hc)
  ·refine cF ((decide (k_6 < (t0.fKids.length : Int)))) hb_7 ?_
   refine Wp.exitN (i := 0) (by kernel_rfl) ?_
   refine seqQ_exit ?_
   refine loopQ_exit ?_
   obtain rfl := Option.some.inj h
   exact Into.view (fun a w hv => SRx.renL [] hv (by kernel_rfl) (by kernel_rfl) (by kernel_rfl))
theorem spec_l4Paths_s : ∀ p r, spec_l4Paths p = some r → M_spec_l4Paths p r := spec_l4Paths_all.1
theorem spec_l4Paths_l0_s : ∀ p r, spec_l4Paths_l0 p = some r → M_spec_l4Paths_l0 p r := spec_l4Paths_all.2
def spec_IsNormal (t0 : GTerm) : Option (Bool) :=
  (
   (spec_IsWritten t0) >>= fun r_1_1 =>
   if r_1_1 = true then
    (spec_l4Paths (t0, [])) >>= fun r_1_4 =>
    some (((r_1_4.length : Int) == 0))
   else
    some (false)
  ) >>= fun v_1 =>
  some v_1
def M_spec_IsNormal (t0 : GTerm) (r : Bool) : Prop :=
 FnSound Try.prog 59 [aTerm t0] (.bool r) []
theorem spec_IsNormal_s : ∀ p r, spec_IsNormal p = some r → M_spec_IsNormal p r := by
 rintro t0 r h
 unfold spec_IsNormal at h
 show FnSound Try.prog 59 [aTerm t0] (.bool r) []
 refine FnSound.body0 tiok (fn := Try.f59) (code := B59) (by kernel_rfl) (by kernel_rfl) (by kernel_rfl) (by kernel_rfl) (nt := 11) (by kernel_rfl) (by kernel_rfl) (T := [(0, aTerm t0)]) (O := []) (by kernel_rfl) (by kernel_rfl) (fun c hc => ?_)
 refine sN ?_
 refine rg hc none [some (.new 1), oN] [(1, .ra 1 0)] [(1, bTerm t0)] trivial ?_
 refine seqQ_norm ?_
 refine sN ?_
 obtain ⟨v_1, hj_2, h⟩ := bsome h
 refine Wp.into (x := .normal) (mkS [(2, .bool v_1)] []) ?_ ?_
 ·replace h := hj_2
  obtain ⟨r_1_1, hr_1_1, h⟩ := bsome h
  rcases itesome h with ⟨hb_1_0, h⟩ | ⟨hb_1_0, h⟩
  ·obtain ⟨r_1_4, hr_1_4, h⟩ := bsome h
   refine rg hc none [oN, oc (.bool r_1_1), oN, oN, some (.call (.osl (List.map LI_o r_1_4)) [] 2), some (.eqv (.no) ⟨[(8, I (r_1_4.length : Int))], [], []⟩), oN, oT, oN] [(2, .bool ((r_1_4.length : Int) == 0))] [] (ai (spec_IsWritten_s _ _ hr_1_1) (ai bod_56 (ai (oi (.bool r_1_1)) (ar 2 hb_1_0 (ai (FnSound.args (A1 := [aTerm t0, .sl []]) (A2 := [aTerm t0, .sl (List.map I [])]) (by simp only [sI, sB, aTerm, hTerm, List.map_nil]) (spec_l4Paths_s _ _ hr_1_4)) (ai bod_87 (ai (oi (.osl (List.map LI_o r_1_4))) (ai hb_1_0 (ai (lenT (d := 8) LI_o r_1_4) (ar 2 hb_1_0 trivial)))))))))) ?_
   obtain rfl := Option.some.inj h
   exact Into.mk
  ·refine rg hc none [oN, oc (.bool r_1_1), oN, o_, o_, o_, o_, oF, oN] [(2, .bool false)] [] (ai (spec_IsWritten_s _ _ hr_1_1) (ai bod_56 (ai (oi (.bool r_1_1)) (ar 4 (neT hb_1_0) (ai hb_1_0 trivial))))) ?_
   obtain rfl := Option.some.inj h
   exact Into.mk
 ·clear hj_2
  refine seqQ_norm ?_
  refine Wp.retN (by kernel_rfl) ?_
  obtain rfl := Option.some.inj h
  exact RetQ.ret (fl := [true]) (by kernel_rfl)
def spec_RedexesOf (t0 : GTerm) : Option ((List (List Int))) :=
  (spec_IsWritten t0) >>= fun r_1_1 =>
  if r_1_1 = true then
   (spec_l4Paths (t0, [])) >>= fun r_3_1 =>
   some r_3_1
  else
   some []
def M_spec_RedexesOf (t0 : GTerm) (r : (List (List Int))) : Prop :=
 FnSound Try.prog 49 [aTerm t0] (.osl (List.map LI_o r)) []
theorem spec_RedexesOf_s : ∀ p r, spec_RedexesOf p = some r → M_spec_RedexesOf p r := by
 rintro t0 r h
 unfold spec_RedexesOf at h
 show FnSound Try.prog 49 [aTerm t0] (.osl (List.map LI_o r)) []
 refine FnSound.body0 tiok (fn := Try.f49) (code := B49) (by kernel_rfl) (by kernel_rfl) (by kernel_rfl) (by kernel_rfl) (nt := 8) (by kernel_rfl) (by kernel_rfl) (T := [(0, aTerm t0)]) (O := []) (by kernel_rfl) (by kernel_rfl) (fun c hc => ?_)
 refine sN ?_
 refine rg hc none [some (.new 1), oN] [(1, .ra 1 0)] [(1, bTerm t0)] trivial ?_
 refine seqQ_norm ?_
 refine sN ?_
 refine sN ?_
 obtain ⟨r_1_1, hr_1_1, h⟩ := bsome h
 refine rg hc none [oN, oc (.bool r_1_1), oN] [(1, .ra 1 0), (5, .bool (!r_1_1))] [(1, bTerm t0)] (ai (spec_IsWritten_s _ _ hr_1_1) (ai bod_56 (ai (oi (.bool r_1_1)) trivial))) ?_
 refine seqQ_norm ?_
 rcases itesome h with ⟨hb_1, h⟩ | ⟨hb_1, h⟩
 ·refine cF (!r_1_1) (nF hb_1) ?_
  refine Wp.skipN (by kernel_rfl) ?_
  refine seqQ_norm ?_
  refine sN ?_
  obtain ⟨r_3_1, hr_3_1, h⟩ := bsome h
  refine rg hc none [oN, some (.call (.osl (List.map LI_o r_3_1)) [] 2), oN] [(2, .rs 2)] [(2, .arr (List.map LI_o r_3_1))] (ai (FnSound.args (A1 := [aTerm t0, .sl []]) (A2 := [aTerm t0, .sl (List.map I [])]) (by simp only [sI, sB, aTerm, hTerm, List.map_nil]) (spec_l4Paths_s _ _ hr_3_1)) (ai bod_87 (ai (oi (.osl (List.map LI_o r_3_1))) trivial))) ?_
  refine seqQ_norm ?_
  refine Wp.retN (by kernel_rfl) ?_
  obtain rfl := Option.some.inj h
  exact RetQ.ret (fl := [true]) (by kernel_rfl)
 ·refine cT (!r_1_1) (nT hb_1) ?_
  refine sN ?_
  refine rg0 hc 1 [(2, .nils)] [] ?_
  refine seqQ_norm ?_
  refine Wp.retN (by kernel_rfl) ?_
  refine seqQ_ret ?_
  obtain rfl := Option.some.inj h
  exact RetQ.ret (fl := [true]) (by kernel_rfl)
def spec_TermAt_F1 (c : Ctx) : (Int × Int × (List Int) × (List GTerm)) ⊕ ((GTerm × Bool)) → Exit → AState → Prop
 | .inl (t_11, t_12, t_13, t_14) => Into c (.exit 0) (mkS [(2, .ra 1 0), (4, .ra 2 0)] [(1, .box [I t_11, I t_12, sI t_13, .sl (List.map GTerm_S t_14)]), (2, .box [I 0, I 0, .nils, .nils])])
 | .inr r => RetE TIx Try.f88 [] (.tup [.agg [I r.1.fOp, I r.1.fN, .osl (List.map I r.1.fType), .osl (List.map GTerm_O r.1.fKids)], .bool r.2])
def spec_TermAt_l0 (p : (List Int) × Int × Int × (List Int) × (List GTerm) × Int) : Option ((Int × Int × (List Int) × (List GTerm)) ⊕ ((GTerm × Bool))) :=
 match p with
 | (path1, t_4, t_5, t_6, t_7, i_8) =>
  if (decide (i_8 < (path1.length : Int))) = true then
   (idx path1 i_8) >>= fun e_6_2 =>
   (spec_l1In (e_6_2, 0, (wr ((t_7.length : Int) - 1)))) >>= fun r_6_8 =>
   if r_6_8 = true then
    (idx path1 i_8) >>= fun e_8_4 =>
    (idx t_7 e_8_4) >>= fun e_8_6 =>
    spec_TermAt_l0 (path1, e_8_6.fOp, e_8_6.fN, e_8_6.fType, e_8_6.fKids, (wr (i_8 + 1)))
   else
    some (.inr ((GTerm.mk 0 0 [] []), false))
  else
   some (.inl (t_4, t_5, t_6, t_7))
 partial_fixpoint
def M_spec_TermAt_l0 (p : (List Int) × Int × Int × (List Int) × (List GTerm) × Int) (fl : (Int × Int × (List Int) × (List GTerm)) ⊕ ((GTerm × Bool))) : Prop :=
 match p with
 | (path1, t_4, t_5, t_6, t_7, i_8) => ∀ c : Ctx, c.nt = 38 → WpL Try.prog c (cl (cl (cr (cl (cr (cr B88)))))) (spec_TermAt_F1 c fl) (mkS [(1, sI path1), (2, .ra 1 0), (4, .ra 2 0), (6, I i_8)] [(1, .box [I t_4, I t_5, sI t_6, .sl (List.map GTerm_S t_7)]), (2, .box [I 0, I 0, .nils, .nils])])
theorem spec_TermAt_l0_s : ∀ p r, spec_TermAt_l0 p = some r → M_spec_TermAt_l0 p r := by
 refine spec_TermAt_l0.partial_correctness M_spec_TermAt_l0 ?_
 rintro spec_TermAt_l0_f spec_TermAt_l0_ih ⟨path1, t_4, t_5, t_6, t_7, i_8⟩ r h
 intro c hc
 show WpL Try.prog c (cl (cl (cr (cl (cr (cr B88)))))) (spec_TermAt_F1 c r) (mkS [(1, sI path1), (2, .ra 1 0), (4, .ra 2 0), (6, I i_8)] [(1, .box [I t_4, I t_5, sI t_6, .sl (List.map GTerm_S t_7)]), (2, .box [I 0, I 0, .nils, .nils])])
 refine WpL.step ?_
 refine sN ?_
 refine sN ?_
 refine rg hc none [oN, oN, some (.eqv (.no) ⟨[(13, I (path1.length : Int))], [], []⟩), oN] [(1, sI path1), (2, .ra 1 0), (4, .ra 2 0), (6, I i_8), (14, .bool (decide (i_8 < (path1.length : Int))))] [(1, .box [I t_4, I t_5, sI t_6, .sl (List.map GTerm_S t_7)]), (2, .box [I 0, I 0, .nils, .nils])] (ai (lenT (d := 13) I path1) trivial) ?_
 refine seqQ_norm ?_
 rcases itesome h with ⟨hb_9, h⟩ | ⟨hb_9, h⟩
 ·refine cT ((decide (i_8 < (path1.length : Int)))) hb_9 ?_
  refine Wp.skipN (by kernel_rfl) ?_
  refine seqQ_norm ?_
  refine sN ?_
  refine Wp.blockN (i := 1) (by kernel_rfl) ?_
  refine sN ?_
  refine sN ?_
  obtain ⟨e_6_2, hi_6_2, h⟩ := bsome h
  obtain ⟨r_6_8, hr_6_8, h⟩ := bsome h
  refine rg hc (rx [[0], [0], [2], [3], [0], [0, 4], [0, 4, 5], [0, 4, 5, 6], [8], [9]]) [oN, oN, some (.el (I e_6_2)), oN, oN, oN, some (.eqv (.no) ⟨[(23, I (t_7.length : Int))], [], []⟩), oN, oc (.bool r_6_8), oN] [(1, sI path1), (2, .ra 1 0), (4, .ra 2 0), (6, I i_8), (26, .bool (!r_6_8))] [(1, .box [I t_4, I t_5, sI t_6, .sl (List.map GTerm_S t_7)]), (2, .box [I 0, I 0, .nils, .nils])] (ai (ix hi_6_2) (ai (lenT (d := 23) GTerm_S t_7) (ai (spec_l1In_s _ _ hr_6_8) (ai bod_57 (ai (oi (.bool r_6_8)) trivial))))) ?_
  refine seqQ_norm ?_
  rcases itesome h with ⟨hb_10, h⟩ | ⟨hb_10, h⟩
  ·refine cF (!r_6_8) (nF hb_10) ?_
   refine Wp.skipN (by kernel_rfl) ?_
   refine seqQ_norm ?_
   obtain ⟨e_8_4, hi_8_4, h⟩ := bsome h
   obtain ⟨e_8_6, hi_8_6, h⟩ := bsome h
   refine rg hc (rx [[0], [1], [0], [0], [0, 2, 3], [0, 2, 3, 4], [6], [7], [8]]) [oN, oN, oN, oN, some (.el (I e_8_4)), oN, some (.el (aTerm e_8_6)), oN, oN] [(1, sI path1), (2, .ra 1 0), (4, .ra 2 0), (6, I i_8)] [(1, bTerm e_8_6), (2, .box [I 0, I 0, .nils, .nils])] (ai (ix hi_8_4) (ai (idx_sl (enc := GTerm_S) (x := aTerm e_8_6) hi_8_6 (eq_GTerm_S e_8_6)) trivial)) ?_
   refine blockQ_norm ?_
   refine seqQ_norm ?_
   refine rg0 hc 3 [(1, sI path1), (2, .ra 1 0), (4, .ra 2 0), (6, I (wr (i_8 + 1)))] [(1, bTerm e_8_6), (2, .box [I 0, I 0, .nils, .nils])] ?_
   refine loopQ_norm ?_
   exact (spec_TermAt_l0_ih _ _ h c hc)
  ·refine cT (!r_6_8) (nT hb_10) ?_
   refine sN ?_
   refine rg0 hc 3 [(4, .ra 2 0), (5, .bool false)] [(2, .box [I 0, I 0, .nils, .nils])] ?_
   refine seqQ_norm ?_
   refine Wp.retN (by kernel_rfl) ?_
   refine seqQ_ret ?_
   refine blockQ_ret ?_
   refine seqQ_ret ?_
   refine loopQ_ret ?_
   obtain rfl := Option.some.inj h
   exact RetE.ret (fl := [true, true]) (by kernel_rfl)
 ·refine cF ((decide (i_8 < (path1.length : Int)))) hb_9 ?_
  refine Wp.exitN (i := 0) (by kernel_rfl) ?_
  refine seqQ_exit ?_
  refine loopQ_exit ?_
  obtain rfl := Option.some.inj h
  exact Into.view (fun a w hv => SRx.renL [] hv (by kernel_rfl) (by kernel_rfl) (by kernel_rfl))
end Go.Am
