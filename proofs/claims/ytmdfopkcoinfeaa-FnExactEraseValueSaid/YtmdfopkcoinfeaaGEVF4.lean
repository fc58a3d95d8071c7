/- Functions of the program as pure functions, and that it computes them. Printed by a program of mine (gen.py). -/
import Derived.Test.YtmdfopkcoinfeaaGEVF3
set_option linter.unusedVariables false
set_option linter.unusedSimpArgs false
set_option maxRecDepth 100000
namespace Go.Am
open Go Go.Proofs
def ah4_0 : Option (List (List Nat)) := rx [[0], [1], [2], [3], [4], [5], [4], [4, 6], [4, 6, 7], [4, 6, 7, 8], [10], [11], [12], [13], [14], [13], [13, 15], [13, 15, 16], [13, 15, 16, 17], [19], [20], [21]]
def ah4_1 : Option (List (List Nat)) := rx [[0], [1], [0], [0, 2], [4], [5], [6], [7], [6], [6, 8], [6, 8, 9], [6, 8, 9, 10], [12], [13], [14]]
def ah4_2 : Option (List (List Nat)) := rx [[0], [1], [2], [3], [4], [5], [4], [4, 6], [8], [9], [10], [11], [12], [11], [11, 13], [11, 13, 14], [11, 13, 14, 15], [17], [18], [19]]
def spec_l2Node (p : GTerm × Int × Int × Bool) : Option (Bool) :=
 match p with
 | (t0, n1, size2, closed3) =>
  (spec_l2Many t0.fOp) >>= fun r_1_5 =>
  if ((t0.fKids.length : Int) != r_1_5) = true then
   some false
  else
   ((
    if (t0.fOp == 0) = true then
     (spec_l1In (t0.fN, 0, (wr (n1 - 1)))) >>= fun r_6_4 =>
     if r_6_4 = true then
      some (.inl ())
     else
      some (.inr false)
    else
     ((
      if (t0.fOp == 1) = true then
       (spec_l1In (t0.fN, 0, 2)) >>= fun r_9_2 =>
       if r_9_2 = true then
        some (.inl ())
       else
        some (.inr false)
      else
       (spec_l2Has t0.fOp) >>= fun r_11_2 =>
       ((
        if r_11_2 = true then
         (
          if (decide (t0.fN ≥ size2)) = true then
           some (true)
          else
           if (decide (t0.fN < (-1))) = true then
            some (true)
           else
            if closed3 = true then
             some ((decide (t0.fN < 0)))
            else
             some (false)
         ) >>= fun v_7 =>
         if v_7 = true then
          some (.inr false)
         else
          some (.inl ())
        else
         if (t0.fN != 0) = true then
          some (.inr false)
         else
          some (.inl ())) : Option ((Unit) ⊕ (Bool))) >>= fun fl => match fl with
       | .inl () =>
        some (.inl ())
       | .inr r =>
        some (.inr r)) : Option ((Unit) ⊕ (Bool))) >>= fun fl => match fl with
     | .inl () =>
      some (.inl ())
     | .inr r =>
      some (.inr r)) : Option ((Unit) ⊕ (Bool))) >>= fun fl => match fl with
   | .inl () =>
    (spec_l2Typed t0.fOp) >>= fun r_14_2 =>
    if r_14_2 = true then
     (
      (spec_l2Type t0.fType) >>= fun r_16_2 =>
      if r_16_2 = true then
       (spec_l2Graded (t0.fType, size2, closed3)) >>= fun r_16_8 =>
       some (r_16_8)
      else
       some (false)
     ) >>= fun v_15 =>
     some v_15
    else
     some ((t0.fType.length : Int) == 0)
   | .inr r =>
    some r
def M_spec_l2Node (p : GTerm × Int × Int × Bool) (r : Bool) : Prop :=
 match p with
 | (t0, n1, size2, closed3) => FnSound Try.prog 131 [aTerm t0, I n1, I size2, .bool closed3] (.bool r) []
theorem spec_l2Node_s : ∀ p r, spec_l2Node p = some r → M_spec_l2Node p r := by
 rintro ⟨t0, n1, size2, closed3⟩ r h
 unfold spec_l2Node at h
 show FnSound Try.prog 131 [aTerm t0, I n1, I size2, .bool closed3] (.bool r) []
 refine FnSound.body0 tiok (fn := Try.f131) (code := B131) (by kernel_rfl) (by kernel_rfl) (by kernel_rfl) (by kernel_rfl) (nt := 76) (by kernel_rfl) (by kernel_rfl) (T := [(0, aTerm t0), (1, I n1), (2, I size2), (3, .bool closed3)]) (O := []) (by kernel_rfl) (by kernel_rfl) (fun c hc => ?_)
 refine sN ?_
 refine rg hc none [some (.new 1), oN] [(1, I n1), (2, I size2), (3, .bool closed3), (4, .ra 1 0)] [(1, bTerm t0)] trivial ?_
 refine seqQ_norm ?_
 refine sN ?_
 refine sN ?_
 obtain ⟨r_1_5, hr_1_5, h⟩ := bsome h
 refine rg hc (rx [[0], [1], [2], [0], [0, 3], [0, 3, 4], [6]]) [oN, oN, some (.eqv (.no) ⟨[(11, I (t0.fKids.length : Int))], [], []⟩), oN, oN, oc (I r_1_5), oN] [(1, I n1), (2, I size2), (3, .bool closed3), (4, .ra 1 0), (15, .bool ((t0.fKids.length : Int) != r_1_5))] [(1, bTerm t0)] (ai (lenT (d := 11) GTerm_S t0.fKids) (ai (spec_l2Many_s _ _ hr_1_5) (ai bod_146 (ai (oi (I r_1_5)) trivial)))) ?_
 refine seqQ_norm ?_
 rcases itesome h with ⟨hb_1, h⟩ | ⟨hb_1, h⟩
 ·refine cT (((t0.fKids.length : Int) != r_1_5)) hb_1 ?_
  refine sN ?_
  refine rg0 hc 1 [(8, .bool false)] [] ?_
  refine seqQ_norm ?_
  refine Wp.retN (by kernel_rfl) ?_
  refine seqQ_ret ?_
  obtain rfl := Option.some.inj h
  exact RetQ.ret (fl := [true]) (by kernel_rfl)
 ·refine cF (((t0.fKids.length : Int) != r_1_5)) hb_1 ?_
  refine Wp.skipN (by kernel_rfl) ?_
  refine seqQ_norm ?_
  refine sN ?_
  refine Wp.blockN (i := 0) (by kernel_rfl) ?_
  refine sN ?_
  refine rg0 hc 4 [(1, I n1), (2, I size2), (3, .bool closed3), (4, .ra 1 0), (19, .bool (t0.fOp == 0))] [(1, bTerm t0)] ?_
  refine seqQ_norm ?_
  obtain ⟨fl, hj_13, h⟩ := bsome h
  have hF : Wp Try.prog c (cr (cl (cl (cr (cr B131))))) (spec_l2Node_F3 c t0 size2 closed3 fl) (mkS [(1, I n1), (2, I size2), (3, .bool closed3), (4, .ra 1 0), (19, .bool (t0.fOp == 0))] [(1, bTerm t0)]) := by
   replace h := hj_13
   rcases itesome h with ⟨hb_2, h⟩ | ⟨hb_2, h⟩
   ·refine cT ((t0.fOp == 0)) hb_2 ?_
    refine sN ?_
    obtain ⟨r_6_4, hr_6_4, h⟩ := bsome h
    refine rg hc none [oN, oN, oN, oN, oc (.bool r_6_4), oN] [(2, I size2), (3, .bool closed3), (4, .ra 1 0), (28, .bool (!r_6_4))] [(1, bTerm t0)] (ai (spec_l1In_s _ _ hr_6_4) (ai bod_57 (ai (oi (.bool r_6_4)) trivial))) ?_
    refine seqQ_norm ?_
    rcases itesome h with ⟨hb_3, h⟩ | ⟨hb_3, h⟩
    ·refine cF (!r_6_4) (nF hb_3) ?_
     refine Wp.skipN (by kernel_rfl) ?_
     obtain rfl := Option.some.inj h
     exact Into.view (fun a w hv => SRx.renL [] hv (by kernel_rfl) (by kernel_rfl) (by kernel_rfl))
    ·refine cT (!r_6_4) (nT hb_3) ?_
     refine sN ?_
     refine rg0 hc 1 [(8, .bool false)] [] ?_
     refine seqQ_norm ?_
     refine Wp.retN (by kernel_rfl) ?_
     obtain rfl := Option.some.inj h
     exact RetE.ret (fl := [true]) (by kernel_rfl)
   ·refine cF ((t0.fOp == 0)) hb_2 ?_
    refine sN ?_
    refine rg0 hc 4 [(2, I size2), (3, .bool closed3), (4, .ra 1 0), (29, .bool (t0.fOp == 1))] [(1, bTerm t0)] ?_
    refine seqQ_norm ?_
    obtain ⟨fl, hj_12, h⟩ := bsome h
    have hF : Wp Try.prog c (cr (cr (cr (cl (cl (cr (cr B131))))))) (spec_l2Node_F2 c t0 size2 closed3 fl) (mkS [(2, I size2), (3, .bool closed3), (4, .ra 1 0), (29, .bool (t0.fOp == 1))] [(1, bTerm t0)]) := by
     replace h := hj_12
     rcases itesome h with ⟨hb_4, h⟩ | ⟨hb_4, h⟩
     ·refine cT ((t0.fOp == 1)) hb_4 ?_
      refine sN ?_
      obtain ⟨r_9_2, hr_9_2, h⟩ := bsome h
      refine rg hc none [oN, oN, oc (.bool r_9_2), oN] [(2, I size2), (3, .bool closed3), (4, .ra 1 0), (36, .bool (!r_9_2))] [(1, bTerm t0)] (ai (spec_l1In_s _ _ hr_9_2) (ai bod_57 (ai (oi (.bool r_9_2)) trivial))) ?_
      refine seqQ_norm ?_
      rcases itesome h with ⟨hb_5, h⟩ | ⟨hb_5, h⟩
      ·refine cF (!r_9_2) (nF hb_5) ?_
       refine Wp.skipN (by kernel_rfl) ?_
       obtain rfl := Option.some.inj h
       exact Into.view (fun a w hv => SRx.renL [] hv (by kernel_rfl) (by kernel_rfl) (by kernel_rfl))
      ·refine cT (!r_9_2) (nT hb_5) ?_
       refine sN ?_
       refine rg0 hc 1 [(8, .bool false)] [] ?_
       refine seqQ_norm ?_
       refine Wp.retN (by kernel_rfl) ?_
       obtain rfl := Option.some.inj h
       exact RetE.ret (fl := [true]) (by kernel_rfl)
     ·refine cF ((t0.fOp == 1)) hb_4 ?_
      refine sN ?_
      obtain ⟨r_11_2, hr_11_2, h⟩ := bsome h
      refine rg hc none [oN, oN, oc (.bool r_11_2), oN] [(2, I size2), (3, .bool closed3), (4, .ra 1 0), (37, .bool r_11_2)] [(1, bTerm t0)] (ai (spec_l2Has_s _ _ hr_11_2) (ai bod_147 (ai (oi (.bool r_11_2)) trivial))) ?_
      refine seqQ_norm ?_
      obtain ⟨fl, hj_11, h⟩ := bsome h
      have hF : Wp Try.prog c (cr (cr (cr (cr (cr (cl (cl (cr (cr B131))))))))) (spec_l2Node_F1 c t0 size2 closed3 fl) (mkS [(2, I size2), (3, .bool closed3), (4, .ra 1 0), (37, .bool r_11_2)] [(1, bTerm t0)]) := by
       replace h := hj_11
       rcases itesome h with ⟨hb_6, h⟩ | ⟨hb_6, h⟩
       ·refine cT r_11_2 hb_6 ?_
        refine sN ?_
        obtain ⟨v_7, hj_8, h⟩ := bsome h
        refine Wp.into (x := .normal) (mkS [(2, I size2), (3, .bool closed3), (4, .ra 1 0), (57, .bool v_7)] [(1, bTerm t0)]) ?_ ?_
        ·replace h := hj_8
         rcases itesome h with ⟨hb_12_0, h⟩ | ⟨hb_12_0, h⟩
         ·refine rg hc none [oN, oN, oN, oN, oN, o_, o_, o_, oT, oN, o_, o_, o_, o_, o_, o_, oT] [(2, I size2), (3, .bool closed3), (4, .ra 1 0), (57, .bool true)] [(1, bTerm t0)] (ar 3 (neF hb_12_0) (ai hb_12_0 (ar 3 nf (ai tt trivial)))) ?_
          obtain rfl := Option.some.inj h
          exact Into.mk
         ·rcases itesome h with ⟨hb_12_1, h⟩ | ⟨hb_12_1, h⟩
          ·refine rg hc none [oN, oN, oN, oN, oN, oN, oN, oN, oF, oN, o_, o_, o_, o_, o_, o_, oT] [(2, I size2), (3, .bool closed3), (4, .ra 1 0), (57, .bool true)] [(1, bTerm t0)] (ar 4 hb_12_0 (ar 3 (neF hb_12_1) (ai hb_12_1 trivial))) ?_
           obtain rfl := Option.some.inj h
           exact Into.mk
          ·rcases itesome h with ⟨hb_12_2, h⟩ | ⟨hb_12_2, h⟩
           ·refine rg hc none [oN, oN, oN, oN, oN, oN, oN, oN, oF, oN, oN, oN, oN, oN, oN, oT, oF] [(2, I size2), (3, .bool closed3), (4, .ra 1 0), (57, .bool (decide (t0.fN < 0)))] [(1, bTerm t0)] (ar 4 hb_12_0 (ar 2 hb_12_1 (ar 3 hb_12_2 (ai hb_12_1 (ai hb_12_2 (ai hb_12_1 trivial)))))) ?_
            obtain rfl := Option.some.inj h
            exact Into.mk
           ·refine rg hc none [oN, oN, oN, oN, oN, oN, oN, oN, oF, oN, oN, oN, o_, o_, o_, oF, oF] [(2, I size2), (3, .bool closed3), (4, .ra 1 0), (57, .bool false)] [(1, bTerm t0)] (ar 4 hb_12_0 (ar 2 hb_12_1 (ar 3 (neT hb_12_2) (ai hb_12_1 (ai hb_12_2 (ai hb_12_1 trivial)))))) ?_
            obtain rfl := Option.some.inj h
            exact Into.mk
        ·clear hj_8
         refine seqQ_norm ?_
         rcases itesome h with ⟨hb_9, h⟩ | ⟨hb_9, h⟩
         ·refine cT v_7 hb_9 ?_
          refine sN ?_
          refine rg0 hc 1 [(8, .bool false)] [] ?_
          refine seqQ_norm ?_
          refine Wp.retN (by kernel_rfl) ?_
          obtain rfl := Option.some.inj h
          exact RetE.ret (fl := [true]) (by kernel_rfl)
         ·refine cF v_7 hb_9 ?_
          refine Wp.skipN (by kernel_rfl) ?_
          obtain rfl := Option.some.inj h
          exact Into.view (fun a w hv => SRx.renL [] hv (by kernel_rfl) (by kernel_rfl) (by kernel_rfl))
       ·refine cF r_11_2 hb_6 ?_
        refine sN ?_
        refine rg0 hc 3 [(2, I size2), (3, .bool closed3), (4, .ra 1 0), (18, .bool (t0.fN != 0))] [(1, bTerm t0)] ?_
        refine seqQ_norm ?_
        rcases itesome h with ⟨hb_10, h⟩ | ⟨hb_10, h⟩
        ·refine cT ((t0.fN != 0)) hb_10 ?_
         refine sN ?_
         refine rg0 hc 1 [(8, .bool false)] [] ?_
         refine seqQ_norm ?_
         refine Wp.retN (by kernel_rfl) ?_
         obtain rfl := Option.some.inj h
         exact RetE.ret (fl := [true]) (by kernel_rfl)
        ·refine cF ((t0.fN != 0)) hb_10 ?_
         refine Wp.skipN (by kernel_rfl) ?_
         obtain rfl := Option.some.inj h
         exact Into.view (fun a w hv => SRx.renL [] hv (by kernel_rfl) (by kernel_rfl) (by kernel_rfl))
      rcases fl with ⟨⟩ | r
      ·refine Wp.into (x := .normal) (mkS [(2, I size2), (3, .bool closed3), (4, .ra 1 0)] [(1, bTerm t0)]) hF ?_
       obtain rfl := Option.some.inj h
       exact Into.mk
      ·refine Wp.mono hF ?_
       rintro _ _ ⟨rfl, hfin⟩
       obtain rfl := Option.some.inj h
       exact ⟨rfl, hfin⟩
    rcases fl with ⟨⟩ | r
    ·refine Wp.into (x := .normal) (mkS [(2, I size2), (3, .bool closed3), (4, .ra 1 0)] [(1, bTerm t0)]) hF ?_
     obtain rfl := Option.some.inj h
     exact Into.mk
    ·refine Wp.mono hF ?_
     rintro _ _ ⟨rfl, hfin⟩
     obtain rfl := Option.some.inj h
     exact ⟨rfl, hfin⟩
  rcases fl with ⟨⟩ | r
  ·refine Wp.into (x := .normal) (mkS [(2, I size2), (3, .bool closed3), (4, .ra 1 0)] [(1, bTerm t0)]) hF ?_
   refine blockQ_norm ?_
   refine seqQ_norm ?_
   refine sN ?_
   refine sN ?_
   obtain ⟨r_14_2, hr_14_2, h⟩ := bsome h
   refine rg hc none [oN, oN, oc (.bool r_14_2), oN] [(2, I size2), (3, .bool closed3), (4, .ra 1 0), (61, .bool (!r_14_2))] [(1, bTerm t0)] (ai (spec_l2Typed_s _ _ hr_14_2) (ai bod_148 (ai (oi (.bool r_14_2)) trivial))) ?_
   refine seqQ_norm ?_
   rcases itesome h with ⟨hb_14, h⟩ | ⟨hb_14, h⟩
   ·refine cF (!r_14_2) (nF hb_14) ?_
    refine Wp.skipN (by kernel_rfl) ?_
    refine seqQ_norm ?_
    refine sN ?_
    obtain ⟨v_15, hj_16, h⟩ := bsome h
    refine Wp.into (x := .normal) (mkS [(8, .bool v_15)] []) ?_ ?_
    ·replace h := hj_16
     obtain ⟨r_16_2, hr_16_2, h⟩ := bsome h
     rcases itesome h with ⟨hb_16_0, h⟩ | ⟨hb_16_0, h⟩
     ·obtain ⟨r_16_8, hr_16_8, h⟩ := bsome h
      refine rg hc none [oN, oN, oc (.bool r_16_2), oN, oN, oN, oN, oN, oc (.bool r_16_8), oT, oN] [(8, .bool r_16_8)] [] (ai (spec_l2Type_s _ _ hr_16_2) (ai bod_135 (ai (oi (.bool r_16_2)) (ar 5 hb_16_0 (ai (spec_l2Graded_s _ _ hr_16_8) (ai bod_136 (ai (oi (.bool r_16_8)) (ai hb_16_0 trivial)))))))) ?_
      obtain rfl := Option.some.inj h
      exact Into.mk
     ·refine rg hc none [oN, oN, oc (.bool r_16_2), oN, o_, o_, o_, o_, o_, oF, oN] [(8, .bool false)] [] (ai (spec_l2Type_s _ _ hr_16_2) (ai bod_135 (ai (oi (.bool r_16_2)) (ar 5 (neT hb_16_0) (ai hb_16_0 trivial))))) ?_
      obtain rfl := Option.some.inj h
      exact Into.mk
    ·clear hj_16
     refine seqQ_norm ?_
     refine Wp.retN (by kernel_rfl) ?_
     obtain rfl := Option.some.inj h
     exact RetQ.ret (fl := [true]) (by kernel_rfl)
   ·refine cT (!r_14_2) (nT hb_14) ?_
    refine sN ?_
    refine rg hc none [oN, oN, some (.eqv (.no) ⟨[(64, I (t0.fType.length : Int))], [], []⟩), oN, oN] [(8, .bool ((t0.fType.length : Int) == 0))] [] (ai (lenT (d := 64) I t0.fType) trivial) ?_
    refine seqQ_norm ?_
    refine Wp.retN (by kernel_rfl) ?_
    refine seqQ_ret ?_
    obtain rfl := Option.some.inj h
    exact RetQ.ret (fl := [true]) (by kernel_rfl)
  ·refine Wp.mono hF ?_
   rintro _ _ ⟨rfl, hfin⟩
   refine blockQ_ret ?_
   refine seqQ_ret ?_
   obtain rfl := Option.some.inj h
   exact ⟨.inl rfl, hfin⟩
def spec_l2Adds (p : Int × Int) : Option (Int) :=
 match p with
 | (op0, kid1) =>
  (
   if (op0 == 5) = true then
    some ((kid1 == 1))
   else
    some (false)
  ) >>= fun v_1 =>
  if v_1 = true then
   some 2
  else
   (
    if (op0 == 8) = true then
     if (decide (kid1 > 0)) = true then
      some (true)
     else
      if (op0 == 9) = true then
       some (true)
      else
       if (op0 == 12) = true then
        some ((kid1 == 1))
       else
        some (false)
    else
     if (op0 == 9) = true then
      some (true)
     else
      if (op0 == 12) = true then
       some ((kid1 == 1))
      else
       some (false)
   ) >>= fun v_4 =>
   if v_4 = true then
    some 1
   else
    some 0
def M_spec_l2Adds (p : Int × Int) (r : Int) : Prop :=
 match p with
 | (op0, kid1) => FnSound Try.prog 100 [I op0, I kid1] (I r) []
theorem spec_l2Adds_s : ∀ p r, spec_l2Adds p = some r → M_spec_l2Adds p r := by
 rintro ⟨op0, kid1⟩ r h
 unfold spec_l2Adds at h
 show FnSound Try.prog 100 [I op0, I kid1] (I r) []
 refine FnSound.body0 tiok (fn := Try.f100) (code := B100) (by kernel_rfl) (by kernel_rfl) (by kernel_rfl) (by kernel_rfl) (nt := 31) (by kernel_rfl) (by kernel_rfl) (T := [(0, I op0), (1, I kid1)]) (O := []) (by kernel_rfl) (by kernel_rfl) (fun c hc => ?_)
 refine sN ?_
 refine rg0 hc 1 [(0, I op0), (1, I kid1)] [] ?_
 refine seqQ_norm ?_
 refine sN ?_
 refine Wp.blockN (i := 0) (by kernel_rfl) ?_
 refine sN ?_
 obtain ⟨v_1, hj_2, h⟩ := bsome h
 refine Wp.into (x := .normal) (mkS [(0, I op0), (1, I kid1), (5, .bool v_1)] []) ?_ ?_
 ·replace h := hj_2
  rcases itesome h with ⟨hb_1_0, h⟩ | ⟨hb_1_0, h⟩
  ·refine rg hc none [oN, oN, oN, oN, oN, oT, oN] [(0, I op0), (1, I kid1), (5, .bool (kid1 == 1))] [] (ar 3 hb_1_0 trivial) ?_
   obtain rfl := Option.some.inj h
   exact Into.mk
  ·refine rg hc none [oN, oN, oN, o_, o_, oF, oN] [(0, I op0), (1, I kid1), (5, .bool false)] [] (ar 2 (neT hb_1_0) (ai hb_1_0 trivial)) ?_
   obtain rfl := Option.some.inj h
   exact Into.mk
 ·clear hj_2
  refine seqQ_norm ?_
  rcases itesome h with ⟨hb_3, h⟩ | ⟨hb_3, h⟩
  ·refine cT v_1 hb_3 ?_
   refine sN ?_
   refine rg0 hc 1 [(4, I 2)] [] ?_
   refine seqQ_norm ?_
   refine Wp.retN (by kernel_rfl) ?_
   refine blockQ_ret ?_
   refine seqQ_ret ?_
   obtain rfl := Option.some.inj h
   exact RetQ.ret (fl := [true]) (by kernel_rfl)
  ·refine cF v_1 hb_3 ?_
   refine sN ?_
   obtain ⟨v_4, hj_5, h⟩ := bsome h
   refine Wp.into (x := .normal) (mkS [(12, .bool v_4)] []) ?_ ?_
   ·replace h := hj_5
    rcases itesome h with ⟨hb_3_0, h⟩ | ⟨hb_3_0, h⟩
    ·rcases itesome h with ⟨hb_3_1, h⟩ | ⟨hb_3_1, h⟩
     ·refine rg hc none [oN, oN, oN, oN, oN, oT, oN, o_, o_, oT, oN, o_, o_, o_, o_, o_, o_, oT, oN] [(12, .bool true)] [] (ar 3 hb_3_0 (ar 2 (neF hb_3_1) (ai hb_3_1 (ar 4 nf (ai tt trivial))))) ?_
      obtain rfl := Option.some.inj h
      exact Into.mk
     ·rcases itesome h with ⟨hb_3_2, h⟩ | ⟨hb_3_2, h⟩
      ·refine rg hc none [oN, oN, oN, oN, oN, oT, oN, oN, oN, oF, oN, o_, o_, o_, o_, o_, o_, oT, oN] [(12, .bool true)] [] (ar 3 hb_3_0 (ar 3 hb_3_1 (ar 4 (neF hb_3_2) (ai hb_3_2 trivial)))) ?_
       obtain rfl := Option.some.inj h
       exact Into.mk
      ·rcases itesome h with ⟨hb_3_3, h⟩ | ⟨hb_3_3, h⟩
       ·refine rg hc none [oN, oN, oN, oN, oN, oT, oN, oN, oN, oF, oN, oN, oN, oN, oN, oN, oT, oF, oN] [(12, .bool (kid1 == 1))] [] (ar 3 hb_3_0 (ar 3 hb_3_1 (ar 3 hb_3_2 (ar 2 hb_3_3 (ai hb_3_2 (ai hb_3_3 (ai hb_3_2 trivial))))))) ?_
        obtain rfl := Option.some.inj h
        exact Into.mk
       ·refine rg hc none [oN, oN, oN, oN, oN, oT, oN, oN, oN, oF, oN, oN, oN, oN, o_, o_, oF, oF, oN] [(12, .bool false)] [] (ar 3 hb_3_0 (ar 3 hb_3_1 (ar 3 hb_3_2 (ar 2 (neT hb_3_3) (ai hb_3_2 (ai hb_3_3 (ai hb_3_2 trivial))))))) ?_
        obtain rfl := Option.some.inj h
        exact Into.mk
    ·rcases itesome h with ⟨hb_3_1, h⟩ | ⟨hb_3_1, h⟩
     ·refine rg hc none [oN, oN, oN, o_, o_, oF, oN, oN, oN, oF, oN, o_, o_, o_, o_, o_, o_, oT, oN] [(12, .bool true)] [] (ar 2 (neT hb_3_0) (ai hb_3_0 (ar 3 (rfl : false = false) (ar 4 (neF hb_3_1) (ai hb_3_1 trivial))))) ?_
      obtain rfl := Option.some.inj h
      exact Into.mk
     ·rcases itesome h with ⟨hb_3_2, h⟩ | ⟨hb_3_2, h⟩
      ·refine rg hc none [oN, oN, oN, o_, o_, oF, oN, oN, oN, oF, oN, oN, oN, oN, oN, oN, oT, oF, oN] [(12, .bool (kid1 == 1))] [] (ar 2 (neT hb_3_0) (ai hb_3_0 (ar 3 (rfl : false = false) (ar 3 hb_3_1 (ar 2 hb_3_2 (ai hb_3_1 (ai hb_3_2 (ai hb_3_1 trivial)))))))) ?_
       obtain rfl := Option.some.inj h
       exact Into.mk
      ·refine rg hc none [oN, oN, oN, o_, o_, oF, oN, oN, oN, oF, oN, oN, oN, oN, o_, o_, oF, oF, oN] [(12, .bool false)] [] (ar 2 (neT hb_3_0) (ai hb_3_0 (ar 3 (rfl : false = false) (ar 3 hb_3_1 (ar 2 (neT hb_3_2) (ai hb_3_1 (ai hb_3_2 (ai hb_3_1 trivial)))))))) ?_
       obtain rfl := Option.some.inj h
       exact Into.mk
   ·clear hj_5
    refine seqQ_norm ?_
    rcases itesome h with ⟨hb_6, h⟩ | ⟨hb_6, h⟩
    ·refine cT v_4 hb_6 ?_
     refine sN ?_
     refine rg0 hc 1 [(4, I 1)] [] ?_
     refine seqQ_norm ?_
     refine Wp.retN (by kernel_rfl) ?_
     refine blockQ_ret ?_
     refine seqQ_ret ?_
     obtain rfl := Option.some.inj h
     exact RetQ.ret (fl := [true]) (by kernel_rfl)
    ·refine cF v_4 hb_6 ?_
     refine Wp.skipN (by kernel_rfl) ?_
     refine blockQ_norm ?_
     refine seqQ_norm ?_
     refine sN ?_
     refine rg0 hc 1 [(4, I 0)] [] ?_
     refine seqQ_norm ?_
     refine Wp.retN (by kernel_rfl) ?_
     obtain rfl := Option.some.inj h
     exact RetQ.ret (fl := [true]) (by kernel_rfl)
def spec_l2Term_F1 (c : Ctx) : (Unit) ⊕ (Bool) → Exit → AState → Prop
 | .inl _ => Into c (.exit 0) (mkS [] [])
 | .inr r => RetE TIx Try.f98 [] (.bool r)
mutual
def spec_l2Term (p : GTerm × Int × Int × Bool) : Option (Bool) :=
 match p with
 | (t0, n1, size2, closed3) =>
  (spec_l2Node (t0, n1, size2, closed3)) >>= fun r_1_4 =>
  if r_1_4 = true then
   (spec_l2Term_l0 (t0, n1, size2, closed3, 0)) >>= fun fl => match fl with
   | .inl () =>
    some true
   | .inr r =>
    some r
  else
   some false
 partial_fixpoint
def spec_l2Term_l0 (p : GTerm × Int × Int × Bool × Int) : Option ((Unit) ⊕ (Bool)) :=
 match p with
 | (t0, n1, size2, closed3, k_4) =>
  if (decide (k_4 < (t0.fKids.length : Int))) = true then
   (idx t0.fKids k_4) >>= fun e_6_3 =>
   (spec_l2Adds (t0.fOp, k_4)) >>= fun r_6_9 =>
   (spec_l2Term (e_6_3, (wr (n1 + r_6_9)), size2, closed3)) >>= fun r_6_13 =>
   if r_6_13 = true then
    spec_l2Term_l0 (t0, n1, size2, closed3, (wr (k_4 + 1)))
   else
    some (.inr false)
  else
   some (.inl ())
 partial_fixpoint
end
def M_spec_l2Term (p : GTerm × Int × Int × Bool) (r : Bool) : Prop :=
 match p with
 | (t0, n1, size2, closed3) => FnSound Try.prog 98 [aTerm t0, I n1, I size2, .bool closed3] (.bool r) []
def M_spec_l2Term_l0 (p : GTerm × Int × Int × Bool × Int) (fl : (Unit) ⊕ (Bool)) : Prop :=
 match p with
 | (t0, n1, size2, closed3, k_4) => ∀ c : Ctx, c.nt = 38 → WpL Try.prog c (cl (cl (cr (cl (cr (cr B98)))))) (spec_l2Term_F1 c fl) (mkS [(1, I n1), (2, I size2), (3, .bool closed3), (4, .ra 1 0), (9, I k_4)] [(1, bTerm t0)])
theorem spec_l2Term_all : (∀ p r, spec_l2Term p = some r → M_spec_l2Term p r) ∧ (∀ p r, spec_l2Term_l0 p = some r → M_spec_l2Term_l0 p r) := by
 refine spec_l2Term.mutual_partial_correctness M_spec_l2Term M_spec_l2Term_l0 ?_ ?_
 ·rintro spec_l2Term_l0_f spec_l2Term_l0_ih ⟨t0, n1, size2, closed3⟩ r h
  show FnSound Try.prog 98 [aTerm t0, I n1, I size2, .bool closed3] (.bool r) []
  refine FnSound.body0 tiok (fn := Try.f98) (code := B98) (by kernel_rfl) (by kernel_rfl) (by kernel_rfl) (by kernel_rfl) (nt := 38) (by kernel_rfl) (by kernel_rfl) (T := [(0, aTerm t0), (1, I n1), (2, I size2), (3, .bool closed3)]) (O := []) (by kernel_rfl) (by kernel_rfl) (fun c hc => ?_)
  refine sN ?_
  refine rg hc none [some (.new 1), oN] [(1, I n1), (2, I size2), (3, .bool closed3), (4, .ra 1 0)] [(1, bTerm t0)] trivial ?_
  refine seqQ_norm ?_
  refine sN ?_
  refine sN ?_
  obtain ⟨r_1_4, hr_1_4, h⟩ := bsome h
  refine rg hc none [oN, oN, oN, oN, oc (.bool r_1_4), oN] [(1, I n1), (2, I size2), (3, .bool closed3), (4, .ra 1 0), (15, .bool (!r_1_4))] [(1, bTerm t0)] (ai (spec_l2Node_s _ _ hr_1_4) (ai bod_131 (ai (oi (.bool r_1_4)) trivial))) ?_
  refine seqQ_norm ?_
  rcases itesome h with ⟨hb_1, h⟩ | ⟨hb_1, h⟩
  ·refine cF (!r_1_4) (nF hb_1) ?_
   refine Wp.skipN (by kernel_rfl) ?_
   refine seqQ_norm ?_
   refine sN ?_
   refine sN ?_
   refine rg0 hc 1 [(1, I n1), (2, I size2), (3, .bool closed3), (4, .ra 1 0), (9, I 0)] [(1, bTerm t0)] ?_
   refine seqQ_norm ?_
   refine Wp.blockN (i := 0) (by kernel_rfl) ?_
   obtain ⟨fl, hl_7, h⟩ := bsome h
   have hL := spec_l2Term_l0_ih _ _ hl_7 c hc
   refine Wp.loopN (by kernel_rfl) ?_
   rcases fl with ⟨⟩ | r
   ·refine WpL.into (e := (.exit 0)) (mkS [] []) hL ?_
    refine blockQ_hit ?_
    refine seqQ_norm ?_
    refine sN ?_
    refine rg0 hc 1 [(8, .bool true)] [] ?_
    refine seqQ_norm ?_
    refine Wp.retN (by kernel_rfl) ?_
    obtain rfl := Option.some.inj h
    exact RetQ.ret (fl := [true]) (by kernel_rfl)
   ·refine WpL.mono hL ?_
    rintro _ _ ⟨rfl, hfin⟩
    refine blockQ_ret ?_
    refine seqQ_ret ?_
    obtain rfl := Option.some.inj h
    exact ⟨.inl rfl, hfin⟩
  ·refine cT (!r_1_4) (nT hb_1) ?_
   refine sN ?_
   refine rg0 hc 1 [(8, .bool false)] [] ?_
   refine seqQ_norm ?_
   refine Wp.retN (by kernel_rfl) ?_
   refine seqQ_ret ?_
   obtain rfl := Option.some.inj h
   exact RetQ.ret (fl := [true]) (by kernel_rfl)
 ·rintro spec_l2Term_f spec_l2Term_l0_f spec_l2Term_ih spec_l2Term_l0_ih ⟨t0, n1, size2, closed3, k_4⟩ r h
  intro c hc
  show WpL Try.prog c (cl (cl (cr (cl (cr (cr B98)))))) (spec_l2Term_F1 c r) (mkS [(1, I n1), (2, I size2), (3, .bool closed3), (4, .ra 1 0), (9, I k_4)] [(1, bTerm t0)])
  refine WpL.step ?_
  refine sN ?_
  refine sN ?_
  refine rg hc none [oN, oN, oN, some (.eqv (.no) ⟨[(19, I (t0.fKids.length : Int))], [], []⟩), oN] [(1, I n1), (2, I size2), (3, .bool closed3), (4, .ra 1 0), (9, I k_4), (20, .bool (decide (k_4 < (t0.fKids.length : Int))))] [(1, bTerm t0)] (ai (lenT (d := 19) GTerm_S t0.fKids) trivial) ?_
  refine seqQ_norm ?_
  rcases itesome h with ⟨hb_5, h⟩ | ⟨hb_5, h⟩
  ·refine cT ((decide (k_4 < (t0.fKids.length : Int)))) hb_5 ?_
   refine Wp.skipN (by kernel_rfl) ?_
   refine seqQ_norm ?_
   refine sN ?_
   refine Wp.blockN (i := 1) (by kernel_rfl) ?_
   refine sN ?_
   obtain ⟨e_6_3, hi_6_3, h⟩ := bsome h
   obtain ⟨r_6_9, hr_6_9, h⟩ := bsome h
   obtain ⟨r_6_13, hr_6_13, h⟩ := bsome h
   refine rg hc (rx [[0], [1], [0], [3], [4], [0], [0], [0, 6], [0], [0, 6, 7, 8], [0, 5, 6, 7, 8, 9], [0], [0], [13], [14]]) [oN, oN, oN, some (.el (aTerm e_6_3)), oN, oN, oN, oN, oN, oc (I r_6_9), oN, oN, oN, oc (.bool r_6_13), oN] [(1, I n1), (2, I size2), (3, .bool closed3), (4, .ra 1 0), (9, I k_4), (37, .bool (!r_6_13))] [(1, bTerm t0)] (ai (idx_sl (enc := GTerm_S) (x := aTerm e_6_3) hi_6_3 (eq_GTerm_S e_6_3)) (ai (spec_l2Adds_s _ _ hr_6_9) (ai bod_100 (ai (oi (I r_6_9)) (ai (spec_l2Term_ih _ _ hr_6_13) (ai bod_98 (ai (oi (.bool r_6_13)) trivial))))))) ?_
   refine seqQ_norm ?_
   rcases itesome h with ⟨hb_6, h⟩ | ⟨hb_6, h⟩
   ·refine cF (!r_6_13) (nF hb_6) ?_
    refine Wp.skipN (by kernel_rfl) ?_
    refine blockQ_norm ?_
    refine seqQ_norm ?_
    refine rg0 hc 3 [(1, I n1), (2, I size2), (3, .bool closed3), (4, .ra 1 0), (9, I (wr (k_4 + 1)))] [(1, bTerm t0)] ?_
    refine loopQ_norm ?_
    exact (spec_l2Term_l0_ih _ _ h c hc)
   ·refine cT (!r_6_13) (nT hb_6) ?_
    refine sN ?_
    refine rg0 hc 1 [(8, .bool false)] [] ?_
    refine seqQ_norm ?_
    refine Wp.retN (by kernel_rfl) ?_
    refine blockQ_ret ?_
    refine seqQ_ret ?_
    refine loopQ_ret ?_
    obtain rfl := Option.some.inj h
    exact RetE.ret (fl := [true]) (by kernel_rfl)
  ·refine cF ((decide (k_4 < (t0.fKids.length : Int)))) hb_5 ?_
   refine Wp.exitN (i := 0) (by kernel_rfl) ?_
   refine seqQ_exit ?_
   refine loopQ_exit ?_
   obtain rfl := Option.some.inj h
   exact Into.view (fun a w hv => SRx.renL [] hv (by kernel_rfl) (by kernel_rfl) (by kernel_rfl))
theorem spec_l2Term_s : ∀ p r, spec_l2Term p = some r → M_spec_l2Term p r := spec_l2Term_all.1
theorem spec_l2Term_l0_s : ∀ p r, spec_l2Term_l0 p = some r → M_spec_l2Term_l0 p r := spec_l2Term_all.2
def spec_IsTerm (p : GSystem × GTerm × Int) : Option (Bool) :=
 match p with
 | (s0, t1, n2) =>
  (
   (spec_IsSystem s0) >>= fun r_1_1 =>
   if r_1_1 = true then
    (spec_l1In (n2, 0, 8)) >>= fun r_1_4 =>
    if r_1_4 = true then
     (spec_l2Left (t1, 400)) >>= fun r_1_8 =>
     if (decide (r_1_8 ≥ 0)) = true then
      (spec_l2Term (t1, n2, s0.fSize, true)) >>= fun r_1_16 =>
      some (r_1_16)
     else
      some (false)
    else
     some (false)
   else
    some (false)
  ) >>= fun v_1 =>
  some v_1
def M_spec_IsTerm (p : GSystem × GTerm × Int) (r : Bool) : Prop :=
 match p with
 | (s0, t1, n2) => FnSound Try.prog 69 [aSystem s0, aTerm t1, I n2] (.bool r) []
theorem spec_IsTerm_s : ∀ p r, spec_IsTerm p = some r → M_spec_IsTerm p r := by
 rintro ⟨s0, t1, n2⟩ r h
 unfold spec_IsTerm at h
 show FnSound Try.prog 69 [aSystem s0, aTerm t1, I n2] (.bool r) []
 refine FnSound.body0 tiok (fn := Try.f69) (code := B69) (by kernel_rfl) (by kernel_rfl) (by kernel_rfl) (by kernel_rfl) (nt := 25) (by kernel_rfl) (by kernel_rfl) (T := [(0, aSystem s0), (1, aTerm t1), (2, I n2)]) (O := []) (by kernel_rfl) (by kernel_rfl) (fun c hc => ?_)
 refine sN ?_
 refine rg hc none [some (.new 1), some (.new 2), oN] [(2, I n2), (3, .ra 1 0), (4, .ra 2 0)] [(1, bSystem s0), (2, bTerm t1)] trivial ?_
 refine seqQ_norm ?_
 refine sN ?_
 obtain ⟨v_1, hj_2, h⟩ := bsome h
 refine Wp.into (x := .normal) (mkS [(6, .bool v_1)] []) ?_ ?_
 ·replace h := hj_2
  obtain ⟨r_1_1, hr_1_1, h⟩ := bsome h
  rcases itesome h with ⟨hb_1_0, h⟩ | ⟨hb_1_0, h⟩
  ·obtain ⟨r_1_4, hr_1_4, h⟩ := bsome h
   rcases itesome h with ⟨hb_1_1, h⟩ | ⟨hb_1_1, h⟩
   ·obtain ⟨r_1_8, hr_1_8, h⟩ := bsome h
    rcases itesome h with ⟨hb_1_2, h⟩ | ⟨hb_1_2, h⟩
    ·obtain ⟨r_1_16, hr_1_16, h⟩ := bsome h
     refine rg hc none [oN, oc (.bool r_1_1), oN, oN, oc (.bool r_1_4), oT, oN, oN, oc (I r_1_8), oN, oT, oN, oN, oN, oN, oN, oc (.bool r_1_16), oT, oN] [(6, .bool r_1_16)] [] (ai (spec_IsSystem_s _ _ hr_1_1) (ai bod_80 (ai (oi (.bool r_1_1)) (ar 2 hb_1_0 (ai (spec_l1In_s _ _ hr_1_4) (ai bod_57 (ai (oi (.bool r_1_4)) (ai hb_1_0 (ar 2 hb_1_1 (ai (spec_l2Left_s _ _ hr_1_8) (ai bod_97 (ai (oi (I r_1_8)) (ar 2 hb_1_1 (ar 5 hb_1_2 (ai (spec_l2Term_s _ _ hr_1_16) (ai bod_98 (ai (oi (.bool r_1_16)) (ai hb_1_2 trivial)))))))))))))))))) ?_
     obtain rfl := Option.some.inj h
     exact Into.mk
    ·refine rg hc none [oN, oc (.bool r_1_1), oN, oN, oc (.bool r_1_4), oT, oN, oN, oc (I r_1_8), oN, oT, oN, o_, o_, o_, o_, o_, oF, oN] [(6, .bool false)] [] (ai (spec_IsSystem_s _ _ hr_1_1) (ai bod_80 (ai (oi (.bool r_1_1)) (ar 2 hb_1_0 (ai (spec_l1In_s _ _ hr_1_4) (ai bod_57 (ai (oi (.bool r_1_4)) (ai hb_1_0 (ar 2 hb_1_1 (ai (spec_l2Left_s _ _ hr_1_8) (ai bod_97 (ai (oi (I r_1_8)) (ar 2 hb_1_1 (ar 5 (neT hb_1_2) (ai hb_1_2 trivial))))))))))))))) ?_
     obtain rfl := Option.some.inj h
     exact Into.mk
   ·refine rg hc none [oN, oc (.bool r_1_1), oN, oN, oc (.bool r_1_4), oT, oN, o_, o_, o_, oF, oN, o_, o_, o_, o_, o_, oF, oN] [(6, .bool false)] [] (ai (spec_IsSystem_s _ _ hr_1_1) (ai bod_80 (ai (oi (.bool r_1_1)) (ar 2 hb_1_0 (ai (spec_l1In_s _ _ hr_1_4) (ai bod_57 (ai (oi (.bool r_1_4)) (ai hb_1_0 (ar 3 (neT hb_1_1) (ai hb_1_1 (ar 5 (neT (rfl : false = false)) (ai (rfl : false = false) trivial)))))))))))) ?_
    obtain rfl := Option.some.inj h
    exact Into.mk
  ·refine rg hc none [oN, oc (.bool r_1_1), oN, o_, o_, oF, oN, o_, o_, o_, oF, oN, o_, o_, o_, o_, o_, oF, oN] [(6, .bool false)] [] (ai (spec_IsSystem_s _ _ hr_1_1) (ai bod_80 (ai (oi (.bool r_1_1)) (ar 2 (neT hb_1_0) (ai hb_1_0 (ar 3 (neT (rfl : false = false)) (ai (rfl : false = false) (ar 5 (neT (rfl : false = false)) (ai (rfl : false = false) trivial))))))))) ?_
   obtain rfl := Option.some.inj h
   exact Into.mk
 ·clear hj_2
  refine seqQ_norm ?_
  refine Wp.retN (by kernel_rfl) ?_
  obtain rfl := Option.some.inj h
  exact RetQ.ret (fl := [true]) (by kernel_rfl)
def spec_l1Copy (l0 : (List Int)) : Option ((List Int)) :=
  (fits (([] : List Int).length + l0.length) 8) >>= fun _ =>
  some l0
def M_spec_l1Copy (l0 : (List Int)) (r : (List Int)) : Prop :=
 FnSound Try.prog 99 [sI l0] (.osl (List.map I r)) []
theorem spec_l1Copy_s : ∀ p r, spec_l1Copy p = some r → M_spec_l1Copy p r := by
 rintro l0 r h
 unfold spec_l1Copy at h
 show FnSound Try.prog 99 [sI l0] (.osl (List.map I r)) []
 refine FnSound.body0 tiok (fn := Try.f99) (code := B99) (by kernel_rfl) (by kernel_rfl) (by kernel_rfl) (by kernel_rfl) (nt := 6) (by kernel_rfl) (by kernel_rfl) (T := [(0, sI l0)]) (O := []) (by kernel_rfl) (by kernel_rfl) (fun c hc => ?_)
 refine sN ?_
 refine rg0 hc 1 [(0, sI l0)] [] ?_
 refine seqQ_norm ?_
 refine sN ?_
 obtain ⟨_, hk_1_2, h⟩ := bsome h
 refine rg hc none [some (.mk 1 true), oN, some (.eqv (.mk 2 true) ⟨[(5, .rs 2)], [(2, some (.arr (List.map I l0))), (1, none)], [2]⟩), oN] [(2, .rs 2)] [(2, .arr (List.map I l0))] (ai (congrArg (fun z => (⟨[(5, .rs 2)], [(2, some (.arr z)), (1, none)], [2]⟩ : Wr)) (List.nil_append _ : [] ++ (List.map I l0) = List.map I l0)) (ai (app_ob (enc1 := I) (enc2 := I) (e1 := []) (e2 := l0) (sz := 1) ek_I ek_I hk_1_2) trivial)) ?_
 refine seqQ_norm ?_
 refine Wp.retN (by kernel_rfl) ?_
 obtain rfl := Option.some.inj h
 exact RetQ.ret (fl := [true]) (by kernel_rfl)
def spec_l2Part (p : (List Int) × Int) : Option ((List Int)) :=
 match p with
 | (ty0, k1) =>
  (spec_l2End (ty0, 1)) >>= fun r_1_1 =>
  if (k1 == 0) = true then
   (cut ty0 (some 1) (some r_1_1) none) >>= fun c_3_2 =>
   (spec_l1Copy c_3_2) >>= fun r_3_3 =>
   some r_3_3
  else
   (cut ty0 (some r_1_1) none none) >>= fun c_4_2 =>
   (spec_l1Copy c_4_2) >>= fun r_4_3 =>
   some r_4_3
def M_spec_l2Part (p : (List Int) × Int) (r : (List Int)) : Prop :=
 match p with
 | (ty0, k1) => FnSound Try.prog 72 [sI ty0, I k1] (.osl (List.map I r)) []
theorem spec_l2Part_s : ∀ p r, spec_l2Part p = some r → M_spec_l2Part p r := by
 rintro ⟨ty0, k1⟩ r h
 unfold spec_l2Part at h
 show FnSound Try.prog 72 [sI ty0, I k1] (.osl (List.map I r)) []
 refine FnSound.body0 tiok (fn := Try.f72) (code := B72) (by kernel_rfl) (by kernel_rfl) (by kernel_rfl) (by kernel_rfl) (nt := 18) (by kernel_rfl) (by kernel_rfl) (T := [(0, sI ty0), (1, I k1)]) (O := []) (by kernel_rfl) (by kernel_rfl) (fun c hc => ?_)
 refine sN ?_
 refine rg0 hc 1 [(0, sI ty0), (1, I k1)] [] ?_
 refine seqQ_norm ?_
 refine sN ?_
 obtain ⟨r_1_1, hr_1_1, h⟩ := bsome h
 refine rg hc none [oN, oc (I r_1_1), oN] [(0, sI ty0), (1, I k1), (5, I r_1_1)] [] (ai (spec_l2End_s _ _ hr_1_1) (ai bod_108 (ai (oi (I r_1_1)) trivial))) ?_
 refine seqQ_norm ?_
 refine sN ?_
 refine sN ?_
 refine rg0 hc 2 [(0, sI ty0), (5, I r_1_1), (9, .bool (k1 == 0))] [] ?_
 refine seqQ_norm ?_
 rcases itesome h with ⟨hb_1, h⟩ | ⟨hb_1, h⟩
 ·refine cT ((k1 == 0)) hb_1 ?_
  refine sN ?_
  obtain ⟨c_3_2, hs_3_2, h⟩ := bsome h
  obtain ⟨r_3_3, hr_3_3, h⟩ := bsome h
  refine rg hc none [oN, oN, some (.eqv (.no) ⟨[(12, sI c_3_2)], [], []⟩), oc (.osl (List.map I r_3_3)), oN] [(4, .rs 1)] [(1, .arr (List.map I r_3_3))] (ai (cut_wr (d := 12) I hs_3_2) (ai (cut_ob (enc := I) (sz := 1) sz_I hs_3_2) (ai (spec_l1Copy_s _ _ hr_3_3) (ai bod_99 (ai (oi (.osl (List.map I r_3_3))) trivial))))) ?_
  refine seqQ_norm ?_
  refine Wp.retN (by kernel_rfl) ?_
  refine seqQ_ret ?_
  obtain rfl := Option.some.inj h
  exact RetQ.ret (fl := [true]) (by kernel_rfl)
 ·refine cF ((k1 == 0)) hb_1 ?_
  refine Wp.skipN (by kernel_rfl) ?_
  refine seqQ_norm ?_
  refine sN ?_
  obtain ⟨c_4_2, hs_4_2, h⟩ := bsome h
  obtain ⟨r_4_3, hr_4_3, h⟩ := bsome h
  refine rg hc none [oN, oN, some (.eqv (.no) ⟨[(16, sI c_4_2)], [], []⟩), some (.call (.osl (List.map I r_4_3)) [] 2), oN] [(4, .rs 2)] [(2, .arr (List.map I r_4_3))] (ai (cut_wr (d := 16) I hs_4_2) (ai (cut_ob (enc := I) (sz := 1) sz_I hs_4_2) (ai (spec_l1Copy_s _ _ hr_4_3) (ai bod_99 (ai (oi (.osl (List.map I r_4_3))) trivial))))) ?_
  refine seqQ_norm ?_
  refine Wp.retN (by kernel_rfl) ?_
  obtain rfl := Option.some.inj h
  exact RetQ.ret (fl := [true]) (by kernel_rfl)
def spec_l1Same_F1 (c : Ctx) : (Unit) ⊕ (Bool) → Exit → AState → Prop
 | .inl _ => Into c (.exit 0) (mkS [] [])
 | .inr r => RetE TIx Try.f71 [] (.bool r)
def spec_l1Same_l0 (p : (List Int) × (List Int) × Int) : Option ((Unit) ⊕ (Bool)) :=
 match p with
 | (a0, b1, i_4) =>
  if (decide (i_4 < (a0.length : Int))) = true then
   (idx a0 i_4) >>= fun e_6_2 =>
   (idx b1 i_4) >>= fun e_6_6 =>
   if (e_6_2 != e_6_6) = true then
    some (.inr false)
   else
    spec_l1Same_l0 (a0, b1, (wr (i_4 + 1)))
  else
   some (.inl ())
 partial_fixpoint
def M_spec_l1Same_l0 (p : (List Int) × (List Int) × Int) (fl : (Unit) ⊕ (Bool)) : Prop :=
 match p with
 | (a0, b1, i_4) => ∀ c : Ctx, c.nt = 26 → WpL Try.prog c (cl (cl (cr (cl (cr (cr B71)))))) (spec_l1Same_F1 c fl) (mkS [(0, sI a0), (1, sI b1), (5, I i_4)] [])
theorem spec_l1Same_l0_s : ∀ p r, spec_l1Same_l0 p = some r → M_spec_l1Same_l0 p r := by
 refine spec_l1Same_l0.partial_correctness M_spec_l1Same_l0 ?_
 rintro spec_l1Same_l0_f spec_l1Same_l0_ih ⟨a0, b1, i_4⟩ r h
 intro c hc
 show WpL Try.prog c (cl (cl (cr (cl (cr (cr B71)))))) (spec_l1Same_F1 c r) (mkS [(0, sI a0), (1, sI b1), (5, I i_4)] [])
 refine WpL.step ?_
 refine sN ?_
 refine sN ?_
 refine rg hc none [oN, oN, some (.eqv (.no) ⟨[(13, I (a0.length : Int))], [], []⟩), oN] [(0, sI a0), (1, sI b1), (5, I i_4), (14, .bool (decide (i_4 < (a0.length : Int))))] [] (ai (lenT (d := 13) I a0) trivial) ?_
 refine seqQ_norm ?_
 rcases itesome h with ⟨hb_5, h⟩ | ⟨hb_5, h⟩
 ·refine cT ((decide (i_4 < (a0.length : Int)))) hb_5 ?_
  refine Wp.skipN (by kernel_rfl) ?_
  refine seqQ_norm ?_
  refine sN ?_
  refine Wp.blockN (i := 1) (by kernel_rfl) ?_
  refine sN ?_
  obtain ⟨e_6_2, hi_6_2, h⟩ := bsome h
  obtain ⟨e_6_6, hi_6_6, h⟩ := bsome h
  refine rg hc (rx [[0], [0], [2], [3], [0], [0], [0, 4, 5], [0, 4, 5, 6], [8]]) [oN, oN, some (.el (I e_6_2)), oN, oN, oN, some (.el (I e_6_6)), oN, oN] [(0, sI a0), (1, sI b1), (5, I i_4), (25, .bool (e_6_2 != e_6_6))] [] (ai (ix hi_6_2) (ai (ix hi_6_6) trivial)) ?_
  refine seqQ_norm ?_
  rcases itesome h with ⟨hb_6, h⟩ | ⟨hb_6, h⟩
  ·refine cT ((e_6_2 != e_6_6)) hb_6 ?_
   refine sN ?_
   refine rg0 hc 1 [(4, .bool false)] [] ?_
   refine seqQ_norm ?_
   refine Wp.retN (by kernel_rfl) ?_
   refine blockQ_ret ?_
   refine seqQ_ret ?_
   refine loopQ_ret ?_
   obtain rfl := Option.some.inj h
   exact RetE.ret (fl := [true]) (by kernel_rfl)
  ·refine cF ((e_6_2 != e_6_6)) hb_6 ?_
   refine Wp.skipN (by kernel_rfl) ?_
   refine blockQ_norm ?_
   refine seqQ_norm ?_
   refine rg0 hc 3 [(0, sI a0), (1, sI b1), (5, I (wr (i_4 + 1)))] [] ?_
   refine loopQ_norm ?_
   exact (spec_l1Same_l0_ih _ _ h c hc)
 ·refine cF ((decide (i_4 < (a0.length : Int)))) hb_5 ?_
  refine Wp.exitN (i := 0) (by kernel_rfl) ?_
  refine seqQ_exit ?_
  refine loopQ_exit ?_
  obtain rfl := Option.some.inj h
  exact Into.view (fun a w hv => SRx.renL [] hv (by kernel_rfl) (by kernel_rfl) (by kernel_rfl))
def spec_l1Same (p : (List Int) × (List Int)) : Option (Bool) :=
 match p with
 | (a0, b1) =>
  if ((a0.length : Int) != (b1.length : Int)) = true then
   some false
  else
   (spec_l1Same_l0 (a0, b1, 0)) >>= fun fl => match fl with
   | .inl () =>
    some true
   | .inr r =>
    some r
def M_spec_l1Same (p : (List Int) × (List Int)) (r : Bool) : Prop :=
 match p with
 | (a0, b1) => FnSound Try.prog 71 [sI a0, sI b1] (.bool r) []
theorem spec_l1Same_s : ∀ p r, spec_l1Same p = some r → M_spec_l1Same p r := by
 rintro ⟨a0, b1⟩ r h
 unfold spec_l1Same at h
 show FnSound Try.prog 71 [sI a0, sI b1] (.bool r) []
 refine FnSound.body0 tiok (fn := Try.f71) (code := B71) (by kernel_rfl) (by kernel_rfl) (by kernel_rfl) (by kernel_rfl) (nt := 26) (by kernel_rfl) (by kernel_rfl) (T := [(0, sI a0), (1, sI b1)]) (O := []) (by kernel_rfl) (by kernel_rfl) (fun c hc => ?_)
 refine sN ?_
 refine rg0 hc 1 [(0, sI a0), (1, sI b1)] [] ?_
 refine seqQ_norm ?_
 refine sN ?_
 refine sN ?_
 refine rg hc none [oN, some (.eqv (.no) ⟨[(7, I (a0.length : Int))], [], []⟩), oN, some (.eqv (.no) ⟨[(9, I (b1.length : Int))], [], []⟩), oN] [(0, sI a0), (1, sI b1), (10, .bool ((a0.length : Int) != (b1.length : Int)))] [] (ai (lenT (d := 7) I a0) (ai (lenT (d := 9) I b1) trivial)) ?_
 refine seqQ_norm ?_
 rcases itesome h with ⟨hb_1, h⟩ | ⟨hb_1, h⟩
 ·refine cT (((a0.length : Int) != (b1.length : Int))) hb_1 ?_
  refine sN ?_
  refine rg0 hc 1 [(4, .bool false)] [] ?_
  refine seqQ_norm ?_
  refine Wp.retN (by kernel_rfl) ?_
  refine seqQ_ret ?_
  obtain rfl := Option.some.inj h
  exact RetQ.ret (fl := [true]) (by kernel_rfl)
 ·refine cF (((a0.length : Int) != (b1.length : Int))) hb_1 ?_
  refine Wp.skipN (by kernel_rfl) ?_
  refine seqQ_norm ?_
  refine sN ?_
  refine sN ?_
  refine rg0 hc 1 [(0, sI a0), (1, sI b1), (5, I 0)] [] ?_
  refine seqQ_norm ?_
  refine Wp.blockN (i := 0) (by kernel_rfl) ?_
  obtain ⟨fl, hl_7, h⟩ := bsome h
  have hL := spec_l1Same_l0_s _ _ hl_7 c hc
  refine Wp.loopN (by kernel_rfl) ?_
  rcases fl with ⟨⟩ | r
  ·refine WpL.into (e := (.exit 0)) (mkS [] []) hL ?_
   refine blockQ_hit ?_
   refine seqQ_norm ?_
   refine sN ?_
   refine rg0 hc 1 [(4, .bool true)] [] ?_
   refine seqQ_norm ?_
   refine Wp.retN (by kernel_rfl) ?_
   obtain rfl := Option.some.inj h
   exact RetQ.ret (fl := [true]) (by kernel_rfl)
  ·refine WpL.mono hL ?_
   rintro _ _ ⟨rfl, hfin⟩
   refine blockQ_ret ?_
   refine seqQ_ret ?_
   obtain rfl := Option.some.inj h
   exact ⟨.inl rfl, hfin⟩
def spec_l5Value (p : (List Int) × GTerm) : Option (Bool) :=
 match p with
 | (ty0, v1) =>
  (idx ty0 0) >>= fun e_1_1 =>
  if (e_1_1 == 0) = true then
   some (v1.fOp == 1)
  else
   if (e_1_1 == 1) = true then
    (
     if (v1.fOp == 4) = true then
      (spec_l2Part (ty0, 0)) >>= fun r_5_5 =>
      (idx v1.fKids 0) >>= fun e_5_8 =>
      (spec_l5Value (r_5_5, e_5_8)) >>= fun r_5_10 =>
      if r_5_10 = true then
       (spec_l2Part (ty0, 1)) >>= fun r_5_14 =>
       (idx v1.fKids 1) >>= fun e_5_17 =>
       (spec_l5Value (r_5_14, e_5_17)) >>= fun r_5_19 =>
       some (r_5_19)
      else
       some (false)
     else
      some (false)
    ) >>= fun v_3 =>
    some v_3
   else
    (
     if (e_1_1 == 2) = true then
      some ((v1.fOp == 6))
     else
      some (false)
    ) >>= fun v_5 =>
    if v_5 = true then
     (
      (spec_l2Part (ty0, 1)) >>= fun r_7_3 =>
      (spec_l1Same (v1.fType, r_7_3)) >>= fun r_7_4 =>
      if r_7_4 = true then
       (spec_l2Part (ty0, 0)) >>= fun r_7_7 =>
       (idx v1.fKids 0) >>= fun e_7_10 =>
       (spec_l5Value (r_7_7, e_7_10)) >>= fun r_7_12 =>
       some (r_7_12)
      else
       some (false)
     ) >>= fun v_8 =>
     some v_8
    else
     if (e_1_1 == 2) = true then
      (
       if (v1.fOp == 7) = true then
        (spec_l2Part (ty0, 0)) >>= fun r_9_7 =>
        (spec_l1Same (v1.fType, r_9_7)) >>= fun r_9_8 =>
        if r_9_8 = true then
         (spec_l2Part (ty0, 1)) >>= fun r_9_12 =>
         (idx v1.fKids 0) >>= fun e_9_15 =>
         (spec_l5Value (r_9_12, e_9_15)) >>= fun r_9_17 =>
         some (r_9_17)
        else
         some (false)
       else
        some (false)
      ) >>= fun v_11 =>
      some v_11
     else
      (
       if (v1.fOp == 11) = true then
        (spec_l2Grade e_1_1) >>= fun r_10_7 =>
        if (v1.fN == r_10_7) = true then
         (spec_l2Part (ty0, 0)) >>= fun r_10_12 =>
         (idx v1.fKids 0) >>= fun e_10_15 =>
         (spec_l5Value (r_10_12, e_10_15)) >>= fun r_10_17 =>
         some (r_10_17)
        else
         some (false)
       else
        some (false)
      ) >>= fun v_13 =>
      some v_13
 partial_fixpoint
def M_spec_l5Value (p : (List Int) × GTerm) (r : Bool) : Prop :=
 match p with
 | (ty0, v1) => FnSound Try.prog 70 [sI ty0, aTerm v1] (.bool r) []
theorem spec_l5Value_s : ∀ p r, spec_l5Value p = some r → M_spec_l5Value p r := by
 refine spec_l5Value.partial_correctness M_spec_l5Value ?_
 rintro spec_l5Value_f spec_l5Value_ih ⟨ty0, v1⟩ r h
 show FnSound Try.prog 70 [sI ty0, aTerm v1] (.bool r) []
 refine FnSound.body0 tiok (fn := Try.f70) (code := B70) (by kernel_rfl) (by kernel_rfl) (by kernel_rfl) (by kernel_rfl) (nt := 102) (by kernel_rfl) (by kernel_rfl) (T := [(0, sI ty0), (1, aTerm v1)]) (O := []) (by kernel_rfl) (by kernel_rfl) (fun c hc => ?_)
 refine sN ?_
 refine rg hc none [some (.new 1), oN] [(0, sI ty0), (3, .ra 1 0)] [(1, bTerm v1)] trivial ?_
 refine seqQ_norm ?_
 refine sN ?_
 obtain ⟨e_1_1, hi_1_1, h⟩ := bsome h
 refine rg hc none [oN, some (.el (I e_1_1)), oN, oN] [(0, sI ty0), (3, .ra 1 0), (5, I e_1_1)] [(1, bTerm v1)] (ai (ix hi_1_1) trivial) ?_
 refine seqQ_norm ?_
 refine sN ?_
 refine Wp.blockN (i := 0) (by kernel_rfl) ?_
 refine sN ?_
 refine rg0 hc 3 [(0, sI ty0), (3, .ra 1 0), (5, I e_1_1), (9, .bool (e_1_1 == 0))] [(1, bTerm v1)] ?_
 refine seqQ_norm ?_
 rcases itesome h with ⟨hb_1, h⟩ | ⟨hb_1, h⟩
 ·refine cT ((e_1_1 == 0)) hb_1 ?_
  refine sN ?_
  refine rg0 hc 4 [(4, .bool (v1.fOp == 1))] [] ?_
  refine seqQ_norm ?_
  refine Wp.retN (by kernel_rfl) ?_
  refine blockQ_ret ?_
  refine seqQ_ret ?_
  obtain rfl := Option.some.inj h
  exact RetQ.ret (fl := [true]) (by kernel_rfl)
 ·refine cF ((e_1_1 == 0)) hb_1 ?_
  refine sN ?_
  refine rg0 hc 3 [(0, sI ty0), (3, .ra 1 0), (5, I e_1_1), (15, .bool (e_1_1 == 1))] [(1, bTerm v1)] ?_
  refine seqQ_norm ?_
  rcases itesome h with ⟨hb_2, h⟩ | ⟨hb_2, h⟩
  ·refine cT ((e_1_1 == 1)) hb_2 ?_
   refine sN ?_
   obtain ⟨v_3, hj_4, h⟩ := bsome h
   refine Wp.into (x := .normal) (mkS [(4, .bool v_3)] []) ?_ ?_
   ·replace h := hj_4
    rcases itesome h with ⟨hb_5_0, h⟩ | ⟨hb_5_0, h⟩
    ·obtain ⟨r_5_5, hr_5_5, h⟩ := bsome h
     obtain ⟨e_5_8, hi_5_8, h⟩ := bsome h
     obtain ⟨r_5_10, hr_5_10, h⟩ := bsome h
     rcases itesome h with ⟨hb_5_1, h⟩ | ⟨hb_5_1, h⟩
     ·obtain ⟨r_5_14, hr_5_14, h⟩ := bsome h
      obtain ⟨e_5_17, hi_5_17, h⟩ := bsome h
      obtain ⟨r_5_19, hr_5_19, h⟩ := bsome h
      refine rg hc ah4_0 [oN, oN, oN, oN, oN, some (.call (.osl (List.map I r_5_5)) [] 2), oN, oN, some (.el (aTerm e_5_8)), oN, oc (.bool r_5_10), oT, oN, oN, some (.call (.osl (List.map I r_5_14)) [] 3), oN, oN, some (.el (aTerm e_5_17)), oN, oc (.bool r_5_19), oT, oN] [(4, .bool r_5_19)] [] (ar 2 hb_5_0 (ai (spec_l2Part_s _ _ hr_5_5) (ai bod_72 (ai (oi (.osl (List.map I r_5_5))) (ar 3 hb_5_0 (ai (idx_sl (enc := GTerm_S) (x := aTerm e_5_8) hi_5_8 (eq_GTerm_S e_5_8)) (ar 2 hb_5_0 (ai (FnSound.args (A1 := [.sl (shares (List.map I r_5_5)), aTerm e_5_8]) (A2 := [sI r_5_5, aTerm e_5_8]) (by simp only [sI, sB, aSystem, aTerm, hSystem, hTerm, List.map_nil, sh_I]) (spec_l5Value_ih _ _ hr_5_10)) (ai bod_70 (ai (Or.inr rfl : ([2] : List Nat) = [] ∨ noSh (.bool r_5_10) = true) (ai hb_5_0 (ar 2 hb_5_1 (ai (spec_l2Part_s _ _ hr_5_14) (ai bod_72 (ai (oi (.osl (List.map I r_5_14))) (ar 3 hb_5_1 (ai (idx_sl (enc := GTerm_S) (x := aTerm e_5_17) hi_5_17 (eq_GTerm_S e_5_17)) (ar 2 hb_5_1 (ai (FnSound.args (A1 := [.sl (shares (List.map I r_5_14)), aTerm e_5_17]) (A2 := [sI r_5_14, aTerm e_5_17]) (by simp only [sI, sB, aSystem, aTerm, hSystem, hTerm, List.map_nil, sh_I]) (spec_l5Value_ih _ _ hr_5_19)) (ai bod_70 (ai (Or.inr rfl : ([3] : List Nat) = [] ∨ noSh (.bool r_5_19) = true) (ai hb_5_1 trivial)))))))))))))))))))))) ?_
      obtain rfl := Option.some.inj h
      exact Into.mk
     ·refine rg hc ah4_0 [oN, oN, oN, oN, oN, some (.call (.osl (List.map I r_5_5)) [] 2), oN, oN, some (.el (aTerm e_5_8)), oN, oc (.bool r_5_10), oT, oN, o_, o_, o_, o_, o_, o_, o_, oF, oN] [(4, .bool false)] [] (ar 2 hb_5_0 (ai (spec_l2Part_s _ _ hr_5_5) (ai bod_72 (ai (oi (.osl (List.map I r_5_5))) (ar 3 hb_5_0 (ai (idx_sl (enc := GTerm_S) (x := aTerm e_5_8) hi_5_8 (eq_GTerm_S e_5_8)) (ar 2 hb_5_0 (ai (FnSound.args (A1 := [.sl (shares (List.map I r_5_5)), aTerm e_5_8]) (A2 := [sI r_5_5, aTerm e_5_8]) (by simp only [sI, sB, aSystem, aTerm, hSystem, hTerm, List.map_nil, sh_I]) (spec_l5Value_ih _ _ hr_5_10)) (ai bod_70 (ai (Or.inr rfl : ([2] : List Nat) = [] ∨ noSh (.bool r_5_10) = true) (ai hb_5_0 (ar 7 (neT hb_5_1) (ai hb_5_1 trivial))))))))))))) ?_
      obtain rfl := Option.some.inj h
      exact Into.mk
    ·refine rg hc ah4_0 [oN, oN, oN, oN, o_, o_, o_, o_, o_, o_, o_, oF, oN, o_, o_, o_, o_, o_, o_, o_, oF, oN] [(4, .bool false)] [] (ar 7 (neT hb_5_0) (ai hb_5_0 (ar 7 (neT (rfl : false = false)) (ai (rfl : false = false) trivial)))) ?_
     obtain rfl := Option.some.inj h
     exact Into.mk
   ·clear hj_4
    refine seqQ_norm ?_
    refine Wp.retN (by kernel_rfl) ?_
    refine blockQ_ret ?_
    refine seqQ_ret ?_
    obtain rfl := Option.some.inj h
    exact RetQ.ret (fl := [true]) (by kernel_rfl)
  ·refine cF ((e_1_1 == 1)) hb_2 ?_
   refine sN ?_
   obtain ⟨v_5, hj_6, h⟩ := bsome h
   refine Wp.into (x := .normal) (mkS [(0, sI ty0), (3, .ra 1 0), (5, I e_1_1), (39, .bool v_5)] [(1, bTerm v1)]) ?_ ?_
   ·replace h := hj_6
    rcases itesome h with ⟨hb_6_0, h⟩ | ⟨hb_6_0, h⟩
    ·refine rg hc none [oN, oN, oN, oN, oN, oN, oT, oN] [(0, sI ty0), (3, .ra 1 0), (5, I e_1_1), (39, .bool (v1.fOp == 6))] [(1, bTerm v1)] (ar 4 hb_6_0 trivial) ?_
     obtain rfl := Option.some.inj h
     exact Into.mk
    ·refine rg hc none [oN, oN, oN, o_, o_, o_, oF, oN] [(0, sI ty0), (3, .ra 1 0), (5, I e_1_1), (39, .bool false)] [(1, bTerm v1)] (ar 3 (neT hb_6_0) (ai hb_6_0 trivial)) ?_
     obtain rfl := Option.some.inj h
     exact Into.mk
   ·clear hj_6
    refine seqQ_norm ?_
    rcases itesome h with ⟨hb_7, h⟩ | ⟨hb_7, h⟩
    ·refine cT v_5 hb_7 ?_
     refine sN ?_
     obtain ⟨v_8, hj_9, h⟩ := bsome h
     refine Wp.into (x := .normal) (mkS [(4, .bool v_8)] []) ?_ ?_
     ·replace h := hj_9
      obtain ⟨r_7_3, hr_7_3, h⟩ := bsome h
      obtain ⟨r_7_4, hr_7_4, h⟩ := bsome h
      rcases itesome h with ⟨hb_7_0, h⟩ | ⟨hb_7_0, h⟩
      ·obtain ⟨r_7_7, hr_7_7, h⟩ := bsome h
       obtain ⟨e_7_10, hi_7_10, h⟩ := bsome h
       obtain ⟨r_7_12, hr_7_12, h⟩ := bsome h
       refine rg hc ah4_1 [oN, oN, oN, some (.call (.osl (List.map I r_7_3)) [] 4), oc (.bool r_7_4), oN, oN, some (.call (.osl (List.map I r_7_7)) [] 5), oN, oN, some (.el (aTerm e_7_10)), oN, oc (.bool r_7_12), oT, oN] [(4, .bool r_7_12)] [] (ai (spec_l2Part_s _ _ hr_7_3) (ai bod_72 (ai (oi (.osl (List.map I r_7_3))) (ai (FnSound.args (A1 := [sI v1.fType, .sl (shares (List.map I r_7_3))]) (A2 := [sI v1.fType, sI r_7_3]) (by simp only [sI, sB, aSystem, aTerm, hSystem, hTerm, List.map_nil, sh_I]) (spec_l1Same_s _ _ hr_7_4)) (ai bod_71 (ai (Or.inr rfl : ([4] : List Nat) = [] ∨ noSh (.bool r_7_4) = true) (ar 2 hb_7_0 (ai (spec_l2Part_s _ _ hr_7_7) (ai bod_72 (ai (oi (.osl (List.map I r_7_7))) (ar 3 hb_7_0 (ai (idx_sl (enc := GTerm_S) (x := aTerm e_7_10) hi_7_10 (eq_GTerm_S e_7_10)) (ar 2 hb_7_0 (ai (FnSound.args (A1 := [.sl (shares (List.map I r_7_7)), aTerm e_7_10]) (A2 := [sI r_7_7, aTerm e_7_10]) (by simp only [sI, sB, aSystem, aTerm, hSystem, hTerm, List.map_nil, sh_I]) (spec_l5Value_ih _ _ hr_7_12)) (ai bod_70 (ai (Or.inr rfl : ([5] : List Nat) = [] ∨ noSh (.bool r_7_12) = true) (ai hb_7_0 trivial))))))))))))))))) ?_
       obtain rfl := Option.some.inj h
       exact Into.mk
      ·refine rg hc ah4_1 [oN, oN, oN, some (.call (.osl (List.map I r_7_3)) [] 4), oc (.bool r_7_4), oN, o_, o_, o_, o_, o_, o_, o_, oF, oN] [(4, .bool false)] [] (ai (spec_l2Part_s _ _ hr_7_3) (ai bod_72 (ai (oi (.osl (List.map I r_7_3))) (ai (FnSound.args (A1 := [sI v1.fType, .sl (shares (List.map I r_7_3))]) (A2 := [sI v1.fType, sI r_7_3]) (by simp only [sI, sB, aSystem, aTerm, hSystem, hTerm, List.map_nil, sh_I]) (spec_l1Same_s _ _ hr_7_4)) (ai bod_71 (ai (Or.inr rfl : ([4] : List Nat) = [] ∨ noSh (.bool r_7_4) = true) (ar 7 (neT hb_7_0) (ai hb_7_0 trivial)))))))) ?_
       obtain rfl := Option.some.inj h
       exact Into.mk
     ·clear hj_9
      refine seqQ_norm ?_
      refine Wp.retN (by kernel_rfl) ?_
      refine blockQ_ret ?_
      refine seqQ_ret ?_
      obtain rfl := Option.some.inj h
      exact RetQ.ret (fl := [true]) (by kernel_rfl)
    ·refine cF v_5 hb_7 ?_
     refine sN ?_
     refine rg0 hc 3 [(0, sI ty0), (3, .ra 1 0), (5, I e_1_1), (61, .bool (e_1_1 == 2))] [(1, bTerm v1)] ?_
     refine seqQ_norm ?_
     rcases itesome h with ⟨hb_10, h⟩ | ⟨hb_10, h⟩
     ·refine cT ((e_1_1 == 2)) hb_10 ?_
      refine sN ?_
      obtain ⟨v_11, hj_12, h⟩ := bsome h
      refine Wp.into (x := .normal) (mkS [(4, .bool v_11)] []) ?_ ?_
      ·replace h := hj_12
       rcases itesome h with ⟨hb_9_0, h⟩ | ⟨hb_9_0, h⟩
       ·obtain ⟨r_9_7, hr_9_7, h⟩ := bsome h
        obtain ⟨r_9_8, hr_9_8, h⟩ := bsome h
        rcases itesome h with ⟨hb_9_1, h⟩ | ⟨hb_9_1, h⟩
        ·obtain ⟨r_9_12, hr_9_12, h⟩ := bsome h
         obtain ⟨e_9_15, hi_9_15, h⟩ := bsome h
         obtain ⟨r_9_17, hr_9_17, h⟩ := bsome h
         refine rg hc ah4_2 [oN, oN, oN, oN, oN, oN, oN, some (.call (.osl (List.map I r_9_7)) [] 6), oc (.bool r_9_8), oT, oN, oN, some (.call (.osl (List.map I r_9_12)) [] 7), oN, oN, some (.el (aTerm e_9_15)), oN, oc (.bool r_9_17), oT, oN] [(4, .bool r_9_17)] [] (ar 4 hb_9_0 (ai (spec_l2Part_s _ _ hr_9_7) (ai bod_72 (ai (oi (.osl (List.map I r_9_7))) (ai hb_9_0 (ai (FnSound.args (A1 := [sI v1.fType, .sl (shares (List.map I r_9_7))]) (A2 := [sI v1.fType, sI r_9_7]) (by simp only [sI, sB, aSystem, aTerm, hSystem, hTerm, List.map_nil, sh_I]) (spec_l1Same_s _ _ hr_9_8)) (ai bod_71 (ai (Or.inr rfl : ([6] : List Nat) = [] ∨ noSh (.bool r_9_8) = true) (ai hb_9_0 (ar 2 hb_9_1 (ai (spec_l2Part_s _ _ hr_9_12) (ai bod_72 (ai (oi (.osl (List.map I r_9_12))) (ar 3 hb_9_1 (ai (idx_sl (enc := GTerm_S) (x := aTerm e_9_15) hi_9_15 (eq_GTerm_S e_9_15)) (ar 2 hb_9_1 (ai (FnSound.args (A1 := [.sl (shares (List.map I r_9_12)), aTerm e_9_15]) (A2 := [sI r_9_12, aTerm e_9_15]) (by simp only [sI, sB, aSystem, aTerm, hSystem, hTerm, List.map_nil, sh_I]) (spec_l5Value_ih _ _ hr_9_17)) (ai bod_70 (ai (Or.inr rfl : ([7] : List Nat) = [] ∨ noSh (.bool r_9_17) = true) (ai hb_9_1 trivial)))))))))))))))))))) ?_
         obtain rfl := Option.some.inj h
         exact Into.mk
        ·refine rg hc ah4_2 [oN, oN, oN, oN, oN, oN, oN, some (.call (.osl (List.map I r_9_7)) [] 6), oc (.bool r_9_8), oT, oN, o_, o_, o_, o_, o_, o_, o_, oF, oN] [(4, .bool false)] [] (ar 4 hb_9_0 (ai (spec_l2Part_s _ _ hr_9_7) (ai bod_72 (ai (oi (.osl (List.map I r_9_7))) (ai hb_9_0 (ai (FnSound.args (A1 := [sI v1.fType, .sl (shares (List.map I r_9_7))]) (A2 := [sI v1.fType, sI r_9_7]) (by simp only [sI, sB, aSystem, aTerm, hSystem, hTerm, List.map_nil, sh_I]) (spec_l1Same_s _ _ hr_9_8)) (ai bod_71 (ai (Or.inr rfl : ([6] : List Nat) = [] ∨ noSh (.bool r_9_8) = true) (ai hb_9_0 (ar 7 (neT hb_9_1) (ai hb_9_1 trivial))))))))))) ?_
         obtain rfl := Option.some.inj h
         exact Into.mk
       ·refine rg hc ah4_2 [oN, oN, oN, oN, o_, o_, o_, o_, o_, oF, oN, o_, o_, o_, o_, o_, o_, o_, oF, oN] [(4, .bool false)] [] (ar 5 (neT hb_9_0) (ai hb_9_0 (ar 7 (neT (rfl : false = false)) (ai (rfl : false = false) trivial)))) ?_
        obtain rfl := Option.some.inj h
        exact Into.mk
      ·clear hj_12
       refine seqQ_norm ?_
       refine Wp.retN (by kernel_rfl) ?_
       refine blockQ_ret ?_
       refine seqQ_ret ?_
       obtain rfl := Option.some.inj h
       exact RetQ.ret (fl := [true]) (by kernel_rfl)
     ·refine cF ((e_1_1 == 2)) hb_10 ?_
      refine Wp.skipN (by kernel_rfl) ?_
      refine blockQ_norm ?_
      refine seqQ_norm ?_
      refine sN ?_
      obtain ⟨v_13, hj_14, h⟩ := bsome h
      refine Wp.into (x := .normal) (mkS [(4, .bool v_13)] []) ?_ ?_
      ·replace h := hj_14
       rcases itesome h with ⟨hb_10_0, h⟩ | ⟨hb_10_0, h⟩
       ·obtain ⟨r_10_7, hr_10_7, h⟩ := bsome h
        rcases itesome h with ⟨hb_10_1, h⟩ | ⟨hb_10_1, h⟩
        ·obtain ⟨r_10_12, hr_10_12, h⟩ := bsome h
         obtain ⟨e_10_15, hi_10_15, h⟩ := bsome h
         obtain ⟨r_10_17, hr_10_17, h⟩ := bsome h
         refine rg hc ah4_2 [oN, oN, oN, oN, oN, oN, oN, oc (I r_10_7), oN, oT, oN, oN, some (.call (.osl (List.map I r_10_12)) [] 8), oN, oN, some (.el (aTerm e_10_15)), oN, oc (.bool r_10_17), oT, oN] [(4, .bool r_10_17)] [] (ar 4 hb_10_0 (ai (spec_l2Grade_s _ _ hr_10_7) (ai bod_74 (ai (oi (I r_10_7)) (ar 2 hb_10_0 (ar 2 hb_10_1 (ai (spec_l2Part_s _ _ hr_10_12) (ai bod_72 (ai (oi (.osl (List.map I r_10_12))) (ar 3 hb_10_1 (ai (idx_sl (enc := GTerm_S) (x := aTerm e_10_15) hi_10_15 (eq_GTerm_S e_10_15)) (ar 2 hb_10_1 (ai (FnSound.args (A1 := [.sl (shares (List.map I r_10_12)), aTerm e_10_15]) (A2 := [sI r_10_12, aTerm e_10_15]) (by simp only [sI, sB, aSystem, aTerm, hSystem, hTerm, List.map_nil, sh_I]) (spec_l5Value_ih _ _ hr_10_17)) (ai bod_70 (ai (Or.inr rfl : ([8] : List Nat) = [] ∨ noSh (.bool r_10_17) = true) (ai hb_10_1 trivial)))))))))))))))) ?_
         obtain rfl := Option.some.inj h
         exact Into.mk
        ·refine rg hc ah4_2 [oN, oN, oN, oN, oN, oN, oN, oc (I r_10_7), oN, oT, oN, o_, o_, o_, o_, o_, o_, o_, oF, oN] [(4, .bool false)] [] (ar 4 hb_10_0 (ai (spec_l2Grade_s _ _ hr_10_7) (ai bod_74 (ai (oi (I r_10_7)) (ar 2 hb_10_0 (ar 7 (neT hb_10_1) (ai hb_10_1 trivial))))))) ?_
         obtain rfl := Option.some.inj h
         exact Into.mk
       ·refine rg hc ah4_2 [oN, oN, oN, oN, o_, o_, o_, o_, o_, oF, oN, o_, o_, o_, o_, o_, o_, o_, oF, oN] [(4, .bool false)] [] (ar 5 (neT hb_10_0) (ai hb_10_0 (ar 7 (neT (rfl : false = false)) (ai (rfl : false = false) trivial)))) ?_
        obtain rfl := Option.some.inj h
        exact Into.mk
      ·clear hj_14
       refine seqQ_norm ?_
       refine Wp.retN (by kernel_rfl) ?_
       obtain rfl := Option.some.inj h
       exact RetQ.ret (fl := [true]) (by kernel_rfl)
def spec_IsValue (p : GSystem × (List Int) × GTerm) : Option (Bool) :=
 match p with
 | (s0, ty1, v2) =>
  (
   (spec_IsData (s0, ty1)) >>= fun r_1_2 =>
   if r_1_2 = true then
    (spec_IsTerm (s0, v2, 0)) >>= fun r_1_6 =>
    if r_1_6 = true then
     (spec_l5Value (ty1, v2)) >>= fun r_1_11 =>
     some (r_1_11)
    else
     some (false)
   else
    some (false)
  ) >>= fun v_1 =>
  some v_1
def M_spec_IsValue (p : GSystem × (List Int) × GTerm) (r : Bool) : Prop :=
 match p with
 | (s0, ty1, v2) => FnSound Try.prog 34 [aSystem s0, sI ty1, aTerm v2] (.bool r) []
theorem spec_IsValue_s : ∀ p r, spec_IsValue p = some r → M_spec_IsValue p r := by
 rintro ⟨s0, ty1, v2⟩ r h
 unfold spec_IsValue at h
 show FnSound Try.prog 34 [aSystem s0, sI ty1, aTerm v2] (.bool r) []
 refine FnSound.body0 tiok (fn := Try.f34) (code := B34) (by kernel_rfl) (by kernel_rfl) (by kernel_rfl) (by kernel_rfl) (nt := 20) (by kernel_rfl) (by kernel_rfl) (T := [(0, aSystem s0), (1, sI ty1), (2, aTerm v2)]) (O := []) (by kernel_rfl) (by kernel_rfl) (fun c hc => ?_)
 refine sN ?_
 refine rg hc none [some (.new 1), some (.new 2), oN] [(1, sI ty1), (3, .ra 1 0), (5, .ra 2 0)] [(1, bSystem s0), (2, bTerm v2)] trivial ?_
 refine seqQ_norm ?_
 refine sN ?_
 obtain ⟨v_1, hj_2, h⟩ := bsome h
 refine Wp.into (x := .normal) (mkS [(6, .bool v_1)] []) ?_ ?_
 ·replace h := hj_2
  obtain ⟨r_1_2, hr_1_2, h⟩ := bsome h
  rcases itesome h with ⟨hb_1_0, h⟩ | ⟨hb_1_0, h⟩
  ·obtain ⟨r_1_6, hr_1_6, h⟩ := bsome h
   rcases itesome h with ⟨hb_1_1, h⟩ | ⟨hb_1_1, h⟩
   ·obtain ⟨r_1_11, hr_1_11, h⟩ := bsome h
    refine rg hc none [oN, oN, oc (.bool r_1_2), oN, oN, oN, oc (.bool r_1_6), oT, oN, oN, oN, oc (.bool r_1_11), oT, oN] [(6, .bool r_1_11)] [] (ai (spec_IsData_s _ _ hr_1_2) (ai bod_67 (ai (oi (.bool r_1_2)) (ar 3 hb_1_0 (ai (spec_IsTerm_s _ _ hr_1_6) (ai bod_69 (ai (oi (.bool r_1_6)) (ai hb_1_0 (ar 3 hb_1_1 (ai (spec_l5Value_s _ _ hr_1_11) (ai bod_70 (ai (oi (.bool r_1_11)) (ai hb_1_1 trivial))))))))))))) ?_
    obtain rfl := Option.some.inj h
    exact Into.mk
   ·refine rg hc none [oN, oN, oc (.bool r_1_2), oN, oN, oN, oc (.bool r_1_6), oT, oN, o_, o_, o_, oF, oN] [(6, .bool false)] [] (ai (spec_IsData_s _ _ hr_1_2) (ai bod_67 (ai (oi (.bool r_1_2)) (ar 3 hb_1_0 (ai (spec_IsTerm_s _ _ hr_1_6) (ai bod_69 (ai (oi (.bool r_1_6)) (ai hb_1_0 (ar 3 (neT hb_1_1) (ai hb_1_1 trivial)))))))))) ?_
    obtain rfl := Option.some.inj h
    exact Into.mk
  ·refine rg hc none [oN, oN, oc (.bool r_1_2), oN, o_, o_, o_, oF, oN, o_, o_, o_, oF, oN] [(6, .bool false)] [] (ai (spec_IsData_s _ _ hr_1_2) (ai bod_67 (ai (oi (.bool r_1_2)) (ar 3 (neT hb_1_0) (ai hb_1_0 (ar 3 (neT (rfl : false = false)) (ai (rfl : false = false) trivial))))))) ?_
   obtain rfl := Option.some.inj h
   exact Into.mk
 ·clear hj_2
  refine seqQ_norm ?_
  refine Wp.retN (by kernel_rfl) ?_
  obtain rfl := Option.some.inj h
  exact RetQ.ret (fl := [true]) (by kernel_rfl)
def spec_l1Has_F1 (c : Ctx) : (Unit) ⊕ (Bool) → Exit → AState → Prop
 | .inl _ => Into c (.exit 0) (mkS [] [])
 | .inr r => RetE TIx Try.f82 [] (.bool r)
def spec_l1Has_l0 (p : (List Int) × Int × Int) : Option ((Unit) ⊕ (Bool)) :=
 match p with
 | (l0, n1, i_3) =>
  if (decide (i_3 < (l0.length : Int))) = true then
   (idx l0 i_3) >>= fun e_4_2 =>
   if (e_4_2 == n1) = true then
    some (.inr true)
   else
    spec_l1Has_l0 (l0, n1, (wr (i_3 + 1)))
  else
   some (.inl ())
 partial_fixpoint
def M_spec_l1Has_l0 (p : (List Int) × Int × Int) (fl : (Unit) ⊕ (Bool)) : Prop :=
 match p with
 | (l0, n1, i_3) => ∀ c : Ctx, c.nt = 18 → WpL Try.prog c (cl (cl (cr (cl (cr B82))))) (spec_l1Has_F1 c fl) (mkS [(0, sI l0), (1, I n1), (5, I i_3)] [])
theorem spec_l1Has_l0_s : ∀ p r, spec_l1Has_l0 p = some r → M_spec_l1Has_l0 p r := by
 refine spec_l1Has_l0.partial_correctness M_spec_l1Has_l0 ?_
 rintro spec_l1Has_l0_f spec_l1Has_l0_ih ⟨l0, n1, i_3⟩ r h
 intro c hc
 show WpL Try.prog c (cl (cl (cr (cl (cr B82))))) (spec_l1Has_F1 c r) (mkS [(0, sI l0), (1, I n1), (5, I i_3)] [])
 refine WpL.step ?_
 refine sN ?_
 refine sN ?_
 refine rg hc none [oN, oN, some (.eqv (.no) ⟨[(8, I (l0.length : Int))], [], []⟩), oN] [(0, sI l0), (1, I n1), (5, I i_3), (9, .bool (decide (i_3 < (l0.length : Int))))] [] (ai (lenT (d := 8) I l0) trivial) ?_
 refine seqQ_norm ?_
 rcases itesome h with ⟨hb_4, h⟩ | ⟨hb_4, h⟩
 ·refine cT ((decide (i_3 < (l0.length : Int)))) hb_4 ?_
  refine Wp.skipN (by kernel_rfl) ?_
  refine seqQ_norm ?_
  refine sN ?_
  refine Wp.blockN (i := 1) (by kernel_rfl) ?_
  refine sN ?_
  obtain ⟨e_4_2, hi_4_2, h⟩ := bsome h
  refine rg hc none [oN, oN, some (.el (I e_4_2)), oN, oN, oN] [(0, sI l0), (1, I n1), (5, I i_3), (17, .bool (e_4_2 == n1))] [] (ai (ix hi_4_2) trivial) ?_
  refine seqQ_norm ?_
  rcases itesome h with ⟨hb_5, h⟩ | ⟨hb_5, h⟩
  ·refine cT ((e_4_2 == n1)) hb_5 ?_
   refine sN ?_
   refine rg0 hc 1 [(4, .bool true)] [] ?_
   refine seqQ_norm ?_
   refine Wp.retN (by kernel_rfl) ?_
   refine blockQ_ret ?_
   refine seqQ_ret ?_
   refine loopQ_ret ?_
   obtain rfl := Option.some.inj h
   exact RetE.ret (fl := [true]) (by kernel_rfl)
  ·refine cF ((e_4_2 == n1)) hb_5 ?_
   refine Wp.skipN (by kernel_rfl) ?_
   refine blockQ_norm ?_
   refine seqQ_norm ?_
   refine rg0 hc 3 [(0, sI l0), (1, I n1), (5, I (wr (i_3 + 1)))] [] ?_
   refine loopQ_norm ?_
   exact (spec_l1Has_l0_ih _ _ h c hc)
 ·refine cF ((decide (i_3 < (l0.length : Int)))) hb_4 ?_
  refine Wp.exitN (i := 0) (by kernel_rfl) ?_
  refine seqQ_exit ?_
  refine loopQ_exit ?_
  obtain rfl := Option.some.inj h
  exact Into.view (fun a w hv => SRx.renL [] hv (by kernel_rfl) (by kernel_rfl) (by kernel_rfl))
end Go.Am
