/- Functions of the program as pure functions, and that it computes them. Printed by a program of mine (gen.py). -/
import Derived.Test.YtfakfcaegabgaaaGIJF0
set_option linter.unusedVariables false
set_option linter.unusedSimpArgs false
set_option maxRecDepth 100000
namespace Go.Am
open Go Go.Proofs
def ah1_0 : Option (List (List Nat)) := rh [0, 0, 0, 3, 0, 0, 0, 7, 8, 9, 10, 10, 12, 13, 14, 14, 14, 17, 18, 19, 20, 21, 21, 21, 24, 25, 26, 27, 28, 29, 29, 29, 32, 33, 34, 35]
def spec_l1Tables (s0 : GSystem) : Option (Bool) :=
  (
   (spec_l1In (s0.fSize, 2, 16)) >>= fun r_1_2 =>
   if r_1_2 = true then
    if ((s0.fPlus.length : Int) != (wr (s0.fSize * s0.fSize))) = true then
     some (true)
    else
     if ((s0.fTimes.length : Int) != (wr (s0.fSize * s0.fSize))) = true then
      some (true)
     else
      some (((s0.fBelow.length : Int) != (wr (s0.fSize * s0.fSize))))
   else
    some (true)
  ) >>= fun v_1 =>
  if v_1 = true then
   some false
  else
   (spec_l1Tables_l0 (s0, 0)) >>= fun fl => match fl with
   | .inl () =>
    some true
   | .inr r =>
    some r
def M_spec_l1Tables (s0 : GSystem) (r : Bool) : Prop :=
 FnSound Try.prog 145 [aSystem s0] (.bool r) []
theorem spec_l1Tables_s : ∀ p r, spec_l1Tables p = some r → M_spec_l1Tables p r := by
 rintro s0 r h
 unfold spec_l1Tables at h
 show FnSound Try.prog 145 [aSystem s0] (.bool r) []
 refine FnSound.body0 tiok (fn := Try.f145) (code := B145) (by kernel_rfl) (by kernel_rfl) (by kernel_rfl) (by kernel_rfl) (nt := 70) (by kernel_rfl) (by kernel_rfl) (T := [(0, aSystem s0)]) (O := []) (by kernel_rfl) (by kernel_rfl) (fun c hc => ?_)
 refine sN ?_
 refine rg hc none [some (.new 1), oN] [(1, .ra 1 0)] [(1, bSystem s0)] trivial ?_
 refine seqQ_norm ?_
 refine sN ?_
 refine sN ?_
 obtain ⟨v_1, hj_2, h⟩ := bsome h
 refine Wp.into (x := .normal) (mkS [(1, .ra 1 0), (40, .bool v_1)] [(1, bSystem s0)]) ?_ ?_
 ·replace h := hj_2
  obtain ⟨r_1_2, hr_1_2, h⟩ := bsome h
  rcases itesome h with ⟨hb_1_0, h⟩ | ⟨hb_1_0, h⟩
  ·rcases itesome h with ⟨hb_1_1, h⟩ | ⟨hb_1_1, h⟩
   ·refine rg hc none [oN, oN, oc (.bool r_1_2), oN, oN, oN, oN, some (.eqv (.no) ⟨[(11, I (s0.fPlus.length : Int))], [], []⟩), oN, oN, oN, oN, oN, oN, oF, oN, o_, o_, o_, o_, o_, o_, o_, o_, o_, oT, oN, o_, o_, o_, o_, o_, o_, o_, o_, o_, oT] [(1, .ra 1 0), (40, .bool true)] [(1, bSystem s0)] (ai (spec_l1In_s _ _ hr_1_2) (ai bod_57 (ai (oi (.bool r_1_2)) (ar 3 (nF hb_1_0) (ai (lenT (d := 11) I s0.fPlus) (ar 7 (nF hb_1_0) (ar 9 (neF hb_1_1) (ai hb_1_1 (ar 9 nf (ai tt trivial)))))))))) ?_
    obtain rfl := Option.some.inj h
    exact Into.mk
   ·rcases itesome h with ⟨hb_1_2, h⟩ | ⟨hb_1_2, h⟩
    ·refine rg hc none [oN, oN, oc (.bool r_1_2), oN, oN, oN, oN, some (.eqv (.no) ⟨[(11, I (s0.fPlus.length : Int))], [], []⟩), oN, oN, oN, oN, oN, oN, oF, oN, oN, oN, some (.eqv (.no) ⟨[(22, I (s0.fTimes.length : Int))], [], []⟩), oN, oN, oN, oN, oN, oN, oF, oN, o_, o_, o_, o_, o_, o_, o_, o_, o_, oT] [(1, .ra 1 0), (40, .bool true)] [(1, bSystem s0)] (ai (spec_l1In_s _ _ hr_1_2) (ai bod_57 (ai (oi (.bool r_1_2)) (ar 3 (nF hb_1_0) (ai (lenT (d := 11) I s0.fPlus) (ar 7 (nF hb_1_0) (ar 3 hb_1_1 (ai (lenT (d := 22) I s0.fTimes) (ar 7 hb_1_1 (ar 9 (neF hb_1_2) (ai hb_1_2 trivial))))))))))) ?_
     obtain rfl := Option.some.inj h
     exact Into.mk
    ·refine rg hc none [oN, oN, oc (.bool r_1_2), oN, oN, oN, oN, some (.eqv (.no) ⟨[(11, I (s0.fPlus.length : Int))], [], []⟩), oN, oN, oN, oN, oN, oN, oF, oN, oN, oN, some (.eqv (.no) ⟨[(22, I (s0.fTimes.length : Int))], [], []⟩), oN, oN, oN, oN, oN, oN, oF, oN, oN, oN, some (.eqv (.no) ⟨[(33, I (s0.fBelow.length : Int))], [], []⟩), oN, oN, oN, oN, oN, oN, oF] [(1, .ra 1 0), (40, .bool ((s0.fBelow.length : Int) != (wr (s0.fSize * s0.fSize))))] [(1, bSystem s0)] (ai (spec_l1In_s _ _ hr_1_2) (ai bod_57 (ai (oi (.bool r_1_2)) (ar 3 (nF hb_1_0) (ai (lenT (d := 11) I s0.fPlus) (ar 7 (nF hb_1_0) (ar 3 hb_1_1 (ai (lenT (d := 22) I s0.fTimes) (ar 7 hb_1_1 (ar 3 hb_1_2 (ai (lenT (d := 33) AV.bool s0.fBelow) (ar 7 hb_1_2 trivial)))))))))))) ?_
     obtain rfl := Option.some.inj h
     exact Into.mk
  ·refine rg hc none [oN, oN, oc (.bool r_1_2), oN, oN, o_, o_, o_, o_, o_, o_, o_, o_, o_, oT, oN, o_, o_, o_, o_, o_, o_, o_, o_, o_, oT, oN, o_, o_, o_, o_, o_, o_, o_, o_, o_, oT] [(1, .ra 1 0), (40, .bool true)] [(1, bSystem s0)] (ai (spec_l1In_s _ _ hr_1_2) (ai bod_57 (ai (oi (.bool r_1_2)) (ar 9 (neF (nT hb_1_0)) (ai (nT hb_1_0) (ar 9 nf (ai tt (ar 9 nf (ai tt trivial))))))))) ?_
   obtain rfl := Option.some.inj h
   exact Into.mk
 ·clear hj_2
  refine seqQ_norm ?_
  rcases itesome h with ⟨hb_3, h⟩ | ⟨hb_3, h⟩
  ·refine cT v_1 hb_3 ?_
   refine sN ?_
   refine rg0 hc 1 [(2, .bool false)] [] ?_
   refine seqQ_norm ?_
   refine Wp.retN (by kernel_rfl) ?_
   refine seqQ_ret ?_
   obtain rfl := Option.some.inj h
   exact RetQ.ret (fl := [true]) (by kernel_rfl)
  ·refine cF v_1 hb_3 ?_
   refine Wp.skipN (by kernel_rfl) ?_
   refine seqQ_norm ?_
   refine sN ?_
   refine sN ?_
   refine rg0 hc 1 [(1, .ra 1 0), (3, I 0)] [(1, bSystem s0)] ?_
   refine seqQ_norm ?_
   refine Wp.blockN (i := 0) (by kernel_rfl) ?_
   obtain ⟨fl, hl_13, h⟩ := bsome h
   have hL := spec_l1Tables_l0_s _ _ hl_13 c hc
   refine Wp.loopN (by kernel_rfl) ?_
   rcases fl with ⟨⟩ | r
   ·refine WpL.into (e := (.exit 0)) (mkS [] []) hL ?_
    refine blockQ_hit ?_
    refine seqQ_norm ?_
    refine sN ?_
    refine rg0 hc 1 [(2, .bool true)] [] ?_
    refine seqQ_norm ?_
    refine Wp.retN (by kernel_rfl) ?_
    obtain rfl := Option.some.inj h
    exact RetQ.ret (fl := [true]) (by kernel_rfl)
   ·refine WpL.mono hL ?_
    rintro _ _ ⟨rfl, hfin⟩
    refine blockQ_ret ?_
    refine seqQ_ret ?_
    obtain rfl := Option.some.inj h
    exact ⟨.inl rfl, hfin⟩
def spec_l1Add (p : GSystem × Int × Int) : Option (Int) :=
 match p with
 | (s0, a1, b2) =>
  (idx s0.fPlus (wr ((wr (a1 * s0.fSize)) + b2))) >>= fun e_1_8 =>
  some e_1_8
def M_spec_l1Add (p : GSystem × Int × Int) (r : Int) : Prop :=
 match p with
 | (s0, a1, b2) => FnSound Try.prog 153 [aSystem s0, I a1, I b2] (I r) []
theorem spec_l1Add_s : ∀ p r, spec_l1Add p = some r → M_spec_l1Add p r := by
 rintro ⟨s0, a1, b2⟩ r h
 unfold spec_l1Add at h
 show FnSound Try.prog 153 [aSystem s0, I a1, I b2] (I r) []
 refine FnSound.body0 tiok (fn := Try.f153) (code := B153) (by kernel_rfl) (by kernel_rfl) (by kernel_rfl) (by kernel_rfl) (nt := 17) (by kernel_rfl) (by kernel_rfl) (T := [(0, aSystem s0), (1, I a1), (2, I b2)]) (O := []) (by kernel_rfl) (by kernel_rfl) (fun c hc => ?_)
 refine sN ?_
 refine rg hc none [some (.new 1), oN] [(1, I a1), (2, I b2), (3, .ra 1 0)] [(1, bSystem s0)] trivial ?_
 refine seqQ_norm ?_
 refine sN ?_
 obtain ⟨e_1_8, hi_1_8, h⟩ := bsome h
 refine rg hc none [oN, oN, oN, oN, oN, oN, oN, oN, some (.el (I e_1_8)), oN, oN] [(6, I e_1_8)] [] (ai (ix hi_1_8) trivial) ?_
 refine seqQ_norm ?_
 refine Wp.retN (by kernel_rfl) ?_
 obtain rfl := Option.some.inj h
 exact RetQ.ret (fl := [true]) (by kernel_rfl)
def spec_l1Mul (p : GSystem × Int × Int) : Option (Int) :=
 match p with
 | (s0, a1, b2) =>
  (idx s0.fTimes (wr ((wr (a1 * s0.fSize)) + b2))) >>= fun e_1_8 =>
  some e_1_8
def M_spec_l1Mul (p : GSystem × Int × Int) (r : Int) : Prop :=
 match p with
 | (s0, a1, b2) => FnSound Try.prog 154 [aSystem s0, I a1, I b2] (I r) []
theorem spec_l1Mul_s : ∀ p r, spec_l1Mul p = some r → M_spec_l1Mul p r := by
 rintro ⟨s0, a1, b2⟩ r h
 unfold spec_l1Mul at h
 show FnSound Try.prog 154 [aSystem s0, I a1, I b2] (I r) []
 refine FnSound.body0 tiok (fn := Try.f154) (code := B154) (by kernel_rfl) (by kernel_rfl) (by kernel_rfl) (by kernel_rfl) (nt := 17) (by kernel_rfl) (by kernel_rfl) (T := [(0, aSystem s0), (1, I a1), (2, I b2)]) (O := []) (by kernel_rfl) (by kernel_rfl) (fun c hc => ?_)
 refine sN ?_
 refine rg hc none [some (.new 1), oN] [(1, I a1), (2, I b2), (3, .ra 1 0)] [(1, bSystem s0)] trivial ?_
 refine seqQ_norm ?_
 refine sN ?_
 obtain ⟨e_1_8, hi_1_8, h⟩ := bsome h
 refine rg hc none [oN, oN, oN, oN, oN, oN, oN, oN, some (.el (I e_1_8)), oN, oN] [(6, I e_1_8)] [] (ai (ix hi_1_8) trivial) ?_
 refine seqQ_norm ?_
 refine Wp.retN (by kernel_rfl) ?_
 obtain rfl := Option.some.inj h
 exact RetQ.ret (fl := [true]) (by kernel_rfl)
def spec_l1Le (p : GSystem × Int × Int) : Option (Bool) :=
 match p with
 | (s0, a1, b2) =>
  (idx s0.fBelow (wr ((wr (a1 * s0.fSize)) + b2))) >>= fun e_1_8 =>
  some e_1_8
def M_spec_l1Le (p : GSystem × Int × Int) (r : Bool) : Prop :=
 match p with
 | (s0, a1, b2) => FnSound Try.prog 155 [aSystem s0, I a1, I b2] (.bool r) []
theorem spec_l1Le_s : ∀ p r, spec_l1Le p = some r → M_spec_l1Le p r := by
 rintro ⟨s0, a1, b2⟩ r h
 unfold spec_l1Le at h
 show FnSound Try.prog 155 [aSystem s0, I a1, I b2] (.bool r) []
 refine FnSound.body0 tiok (fn := Try.f155) (code := B155) (by kernel_rfl) (by kernel_rfl) (by kernel_rfl) (by kernel_rfl) (nt := 17) (by kernel_rfl) (by kernel_rfl) (T := [(0, aSystem s0), (1, I a1), (2, I b2)]) (O := []) (by kernel_rfl) (by kernel_rfl) (fun c hc => ?_)
 refine sN ?_
 refine rg hc none [some (.new 1), oN] [(1, I a1), (2, I b2), (3, .ra 1 0)] [(1, bSystem s0)] trivial ?_
 refine seqQ_norm ?_
 refine sN ?_
 obtain ⟨e_1_8, hi_1_8, h⟩ := bsome h
 refine rg hc none [oN, oN, oN, oN, oN, oN, oN, oN, some (.el (.bool e_1_8)), oN, oN] [(6, .bool e_1_8)] [] (ai (idx_sl (enc := AV.bool) (x := .bool e_1_8) hi_1_8 (eq_B e_1_8)) trivial) ?_
 refine seqQ_norm ?_
 refine Wp.retN (by kernel_rfl) ?_
 obtain rfl := Option.some.inj h
 exact RetQ.ret (fl := [true]) (by kernel_rfl)
def spec_l1One (p : GSystem × Int) : Option (Bool) :=
 match p with
 | (s0, a1) =>
  (
   (spec_l1Add (s0, 0, a1)) >>= fun r_1_2 =>
   if (r_1_2 == a1) = true then
    (spec_l1Mul (s0, 1, a1)) >>= fun r_1_8 =>
    if (r_1_8 == a1) = true then
     (spec_l1Mul (s0, a1, 1)) >>= fun r_1_15 =>
     if (r_1_15 == a1) = true then
      (spec_l1Mul (s0, 0, a1)) >>= fun r_1_22 =>
      if (r_1_22 == 0) = true then
       (spec_l1Mul (s0, a1, 0)) >>= fun r_1_28 =>
       if (r_1_28 == 0) = true then
        (spec_l1Le (s0, a1, a1)) >>= fun r_1_35 =>
        some (r_1_35)
       else
        some (false)
      else
       some (false)
     else
      some (false)
    else
     some (false)
   else
    some (false)
  ) >>= fun v_1 =>
  some v_1
def M_spec_l1One (p : GSystem × Int) (r : Bool) : Prop :=
 match p with
 | (s0, a1) => FnSound Try.prog 146 [aSystem s0, I a1] (.bool r) []
theorem spec_l1One_s : ∀ p r, spec_l1One p = some r → M_spec_l1One p r := by
 rintro ⟨s0, a1⟩ r h
 unfold spec_l1One at h
 show FnSound Try.prog 146 [aSystem s0, I a1] (.bool r) []
 refine FnSound.body0 tiok (fn := Try.f146) (code := B146) (by kernel_rfl) (by kernel_rfl) (by kernel_rfl) (by kernel_rfl) (nt := 42) (by kernel_rfl) (by kernel_rfl) (T := [(0, aSystem s0), (1, I a1)]) (O := []) (by kernel_rfl) (by kernel_rfl) (fun c hc => ?_)
 refine sN ?_
 refine rg hc none [some (.new 1), oN] [(1, I a1), (2, .ra 1 0)] [(1, bSystem s0)] trivial ?_
 refine seqQ_norm ?_
 refine sN ?_
 obtain ⟨v_1, hj_2, h⟩ := bsome h
 refine Wp.into (x := .normal) (mkS [(4, .bool v_1)] []) ?_ ?_
 ·replace h := hj_2
  obtain ⟨r_1_2, hr_1_2, h⟩ := bsome h
  rcases itesome h with ⟨hb_1_0, h⟩ | ⟨hb_1_0, h⟩
  ·obtain ⟨r_1_8, hr_1_8, h⟩ := bsome h
   rcases itesome h with ⟨hb_1_1, h⟩ | ⟨hb_1_1, h⟩
   ·obtain ⟨r_1_15, hr_1_15, h⟩ := bsome h
    rcases itesome h with ⟨hb_1_2, h⟩ | ⟨hb_1_2, h⟩
    ·obtain ⟨r_1_22, hr_1_22, h⟩ := bsome h
     rcases itesome h with ⟨hb_1_3, h⟩ | ⟨hb_1_3, h⟩
     ·obtain ⟨r_1_28, hr_1_28, h⟩ := bsome h
      rcases itesome h with ⟨hb_1_4, h⟩ | ⟨hb_1_4, h⟩
      ·obtain ⟨r_1_35, hr_1_35, h⟩ := bsome h
       refine rg hc none [oN, oN, oc (I r_1_2), oN, oN, oN, oN, oN, oc (I r_1_8), oN, oN, oT, oN, oN, oN, oc (I r_1_15), oN, oN, oT, oN, oN, oN, oc (I r_1_22), oN, oT, oN, oN, oN, oc (I r_1_28), oN, oT, oN, oN, oN, oN, oc (.bool r_1_35), oT, oN] [(4, .bool r_1_35)] [] (ai (spec_l1Add_s _ _ hr_1_2) (ai bod_153 (ai (oi (I r_1_2)) (ar 3 hb_1_0 (ai (spec_l1Mul_s _ _ hr_1_8) (ai bod_154 (ai (oi (I r_1_8)) (ar 3 hb_1_0 (ar 3 hb_1_1 (ai (spec_l1Mul_s _ _ hr_1_15) (ai bod_154 (ai (oi (I r_1_15)) (ar 3 hb_1_1 (ar 3 hb_1_2 (ai (spec_l1Mul_s _ _ hr_1_22) (ai bod_154 (ai (oi (I r_1_22)) (ar 2 hb_1_2 (ar 3 hb_1_3 (ai (spec_l1Mul_s _ _ hr_1_28) (ai bod_154 (ai (oi (I r_1_28)) (ar 2 hb_1_3 (ar 4 hb_1_4 (ai (spec_l1Le_s _ _ hr_1_35) (ai bod_155 (ai (oi (.bool r_1_35)) (ai hb_1_4 trivial)))))))))))))))))))))))))))) ?_
       obtain rfl := Option.some.inj h
       exact Into.mk
      ·refine rg hc none [oN, oN, oc (I r_1_2), oN, oN, oN, oN, oN, oc (I r_1_8), oN, oN, oT, oN, oN, oN, oc (I r_1_15), oN, oN, oT, oN, oN, oN, oc (I r_1_22), oN, oT, oN, oN, oN, oc (I r_1_28), oN, oT, oN, o_, o_, o_, o_, oF, oN] [(4, .bool false)] [] (ai (spec_l1Add_s _ _ hr_1_2) (ai bod_153 (ai (oi (I r_1_2)) (ar 3 hb_1_0 (ai (spec_l1Mul_s _ _ hr_1_8) (ai bod_154 (ai (oi (I r_1_8)) (ar 3 hb_1_0 (ar 3 hb_1_1 (ai (spec_l1Mul_s _ _ hr_1_15) (ai bod_154 (ai (oi (I r_1_15)) (ar 3 hb_1_1 (ar 3 hb_1_2 (ai (spec_l1Mul_s _ _ hr_1_22) (ai bod_154 (ai (oi (I r_1_22)) (ar 2 hb_1_2 (ar 3 hb_1_3 (ai (spec_l1Mul_s _ _ hr_1_28) (ai bod_154 (ai (oi (I r_1_28)) (ar 2 hb_1_3 (ar 4 (neT hb_1_4) (ai hb_1_4 trivial))))))))))))))))))))))))) ?_
       obtain rfl := Option.some.inj h
       exact Into.mk
     ·refine rg hc none [oN, oN, oc (I r_1_2), oN, oN, oN, oN, oN, oc (I r_1_8), oN, oN, oT, oN, oN, oN, oc (I r_1_15), oN, oN, oT, oN, oN, oN, oc (I r_1_22), oN, oT, oN, o_, o_, o_, o_, oF, oN, o_, o_, o_, o_, oF, oN] [(4, .bool false)] [] (ai (spec_l1Add_s _ _ hr_1_2) (ai bod_153 (ai (oi (I r_1_2)) (ar 3 hb_1_0 (ai (spec_l1Mul_s _ _ hr_1_8) (ai bod_154 (ai (oi (I r_1_8)) (ar 3 hb_1_0 (ar 3 hb_1_1 (ai (spec_l1Mul_s _ _ hr_1_15) (ai bod_154 (ai (oi (I r_1_15)) (ar 3 hb_1_1 (ar 3 hb_1_2 (ai (spec_l1Mul_s _ _ hr_1_22) (ai bod_154 (ai (oi (I r_1_22)) (ar 2 hb_1_2 (ar 4 (neT hb_1_3) (ai hb_1_3 (ar 4 (neT (rfl : false = false)) (ai (rfl : false = false) trivial)))))))))))))))))))))) ?_
      obtain rfl := Option.some.inj h
      exact Into.mk
    ·refine rg hc none [oN, oN, oc (I r_1_2), oN, oN, oN, oN, oN, oc (I r_1_8), oN, oN, oT, oN, oN, oN, oc (I r_1_15), oN, oN, oT, oN, o_, o_, o_, o_, oF, oN, o_, o_, o_, o_, oF, oN, o_, o_, o_, o_, oF, oN] [(4, .bool false)] [] (ai (spec_l1Add_s _ _ hr_1_2) (ai bod_153 (ai (oi (I r_1_2)) (ar 3 hb_1_0 (ai (spec_l1Mul_s _ _ hr_1_8) (ai bod_154 (ai (oi (I r_1_8)) (ar 3 hb_1_0 (ar 3 hb_1_1 (ai (spec_l1Mul_s _ _ hr_1_15) (ai bod_154 (ai (oi (I r_1_15)) (ar 3 hb_1_1 (ar 4 (neT hb_1_2) (ai hb_1_2 (ar 4 (neT (rfl : false = false)) (ai (rfl : false = false) (ar 4 (neT (rfl : false = false)) (ai (rfl : false = false) trivial))))))))))))))))))) ?_
     obtain rfl := Option.some.inj h
     exact Into.mk
   ·refine rg hc none [oN, oN, oc (I r_1_2), oN, oN, oN, oN, oN, oc (I r_1_8), oN, oN, oT, oN, o_, o_, o_, o_, o_, oF, oN, o_, o_, o_, o_, oF, oN, o_, o_, o_, o_, oF, oN, o_, o_, o_, o_, oF, oN] [(4, .bool false)] [] (ai (spec_l1Add_s _ _ hr_1_2) (ai bod_153 (ai (oi (I r_1_2)) (ar 3 hb_1_0 (ai (spec_l1Mul_s _ _ hr_1_8) (ai bod_154 (ai (oi (I r_1_8)) (ar 3 hb_1_0 (ar 5 (neT hb_1_1) (ai hb_1_1 (ar 4 (neT (rfl : false = false)) (ai (rfl : false = false) (ar 4 (neT (rfl : false = false)) (ai (rfl : false = false) (ar 4 (neT (rfl : false = false)) (ai (rfl : false = false) trivial)))))))))))))))) ?_
    obtain rfl := Option.some.inj h
    exact Into.mk
  ·refine rg hc none [oN, oN, oc (I r_1_2), oN, oN, oN, o_, o_, o_, o_, o_, oF, oN, o_, o_, o_, o_, o_, oF, oN, o_, o_, o_, o_, oF, oN, o_, o_, o_, o_, oF, oN, o_, o_, o_, o_, oF, oN] [(4, .bool false)] [] (ai (spec_l1Add_s _ _ hr_1_2) (ai bod_153 (ai (oi (I r_1_2)) (ar 5 (neT hb_1_0) (ai hb_1_0 (ar 5 (neT (rfl : false = false)) (ai (rfl : false = false) (ar 4 (neT (rfl : false = false)) (ai (rfl : false = false) (ar 4 (neT (rfl : false = false)) (ai (rfl : false = false) (ar 4 (neT (rfl : false = false)) (ai (rfl : false = false) trivial))))))))))))) ?_
   obtain rfl := Option.some.inj h
   exact Into.mk
 ·clear hj_2
  refine seqQ_norm ?_
  refine Wp.retN (by kernel_rfl) ?_
  obtain rfl := Option.some.inj h
  exact RetQ.ret (fl := [true]) (by kernel_rfl)
def spec_l1Join_F1 (c : Ctx) (s0 : GSystem) (a1 : Int) (b2 : Int) (g_19 : Int) : Bool → Exit → AState → Prop
 | ok_35 => Into c (.exit 2) (mkS [(1, I a1), (2, I b2), (3, .ra 1 0), (7, I g_19), (8, .bool ok_35)] [(1, bSystem s0)])
def spec_l1Join_l0 (p : GSystem × Int × Int × Int × Bool × Int) : Option (Bool) :=
 match p with
 | (s0, a1, b2, g_19, ok_28, h_29) =>
  (
   if (decide (h_29 < s0.fSize)) = true then
    some (ok_28)
   else
    some (false)
  ) >>= fun v_30 =>
  if v_30 = true then
   (
    (spec_l1Le (s0, a1, h_29)) >>= fun r_8_3 =>
    if r_8_3 = true then
     (spec_l1Le (s0, b2, h_29)) >>= fun r_8_9 =>
     if r_8_9 = true then
      (spec_l1Le (s0, g_19, h_29)) >>= fun r_8_16 =>
      some (r_8_16)
     else
      some (true)
    else
     some (true)
   ) >>= fun ok_33 =>
   spec_l1Join_l0 (s0, a1, b2, g_19, ok_33, (wr (h_29 + 1)))
  else
   some (ok_28)
 partial_fixpoint
def M_spec_l1Join_l0 (p : GSystem × Int × Int × Int × Bool × Int) (fl : Bool) : Prop :=
 match p with
 | (s0, a1, b2, g_19, ok_28, h_29) => ∀ c : Ctx, c.nt = 55 → WpL Try.prog c (cl (cl (cr (cl (cr (cl (cl (cr (cl (cl (cr (cl (cr B166))))))))))))) (spec_l1Join_F1 c s0 a1 b2 g_19 fl) (mkS [(1, I a1), (2, I b2), (3, .ra 1 0), (7, I g_19), (8, .bool ok_28), (9, I h_29)] [(1, bSystem s0)])
theorem spec_l1Join_l0_s : ∀ p r, spec_l1Join_l0 p = some r → M_spec_l1Join_l0 p r := by
 refine spec_l1Join_l0.partial_correctness M_spec_l1Join_l0 ?_
 rintro spec_l1Join_l0_f spec_l1Join_l0_ih ⟨s0, a1, b2, g_19, ok_28, h_29⟩ r h
 intro c hc
 show WpL Try.prog c (cl (cl (cr (cl (cr (cl (cl (cr (cl (cl (cr (cl (cr B166))))))))))))) (spec_l1Join_F1 c s0 a1 b2 g_19 r) (mkS [(1, I a1), (2, I b2), (3, .ra 1 0), (7, I g_19), (8, .bool ok_28), (9, I h_29)] [(1, bSystem s0)])
 refine WpL.step ?_
 refine sN ?_
 refine sN ?_
 obtain ⟨v_30, hj_31, h⟩ := bsome h
 refine Wp.into (x := .normal) (mkS [(1, I a1), (2, I b2), (3, .ra 1 0), (7, I g_19), (8, .bool ok_28), (9, I h_29), (32, .bool v_30)] [(1, bSystem s0)]) ?_ ?_
 ·replace h := hj_31
  rcases itesome h with ⟨hb_6_0, h⟩ | ⟨hb_6_0, h⟩
  ·refine rg hc none [oN, oN, oN, oN, oN, oN, oT] [(1, I a1), (2, I b2), (3, .ra 1 0), (7, I g_19), (8, .bool ok_28), (9, I h_29), (32, .bool ok_28)] [(1, bSystem s0)] (ar 2 hb_6_0 trivial) ?_
   obtain rfl := Option.some.inj h
   exact Into.mk
  ·refine rg hc none [oN, oN, oN, oN, oN, o_, oF] [(1, I a1), (2, I b2), (3, .ra 1 0), (7, I g_19), (8, .bool ok_28), (9, I h_29), (32, .bool false)] [(1, bSystem s0)] (ai (neT hb_6_0) (ai hb_6_0 trivial)) ?_
   obtain rfl := Option.some.inj h
   exact Into.mk
 ·clear hj_31
  refine seqQ_norm ?_
  rcases itesome h with ⟨hb_32, h⟩ | ⟨hb_32, h⟩
  ·refine cT v_30 hb_32 ?_
   refine Wp.skipN (by kernel_rfl) ?_
   refine seqQ_norm ?_
   refine sN ?_
   refine Wp.blockN (i := 3) (by kernel_rfl) ?_
   obtain ⟨ok_33, hj_34, h⟩ := bsome h
   refine Wp.into (x := .normal) (mkS [(1, I a1), (2, I b2), (3, .ra 1 0), (7, I g_19), (8, .bool ok_33), (9, I h_29)] [(1, bSystem s0)]) ?_ ?_
   ·replace h := hj_34
    obtain ⟨r_8_3, hr_8_3, h⟩ := bsome h
    rcases itesome h with ⟨hb_8_0, h⟩ | ⟨hb_8_0, h⟩
    ·obtain ⟨r_8_9, hr_8_9, h⟩ := bsome h
     rcases itesome h with ⟨hb_8_1, h⟩ | ⟨hb_8_1, h⟩
     ·obtain ⟨r_8_16, hr_8_16, h⟩ := bsome h
      refine rg hc none [oN, oN, oN, oc (.bool r_8_3), oN, oN, oN, oN, oN, oc (.bool r_8_9), oN, oF, oN, oN, oN, oN, oc (.bool r_8_16), oF, oN] [(1, I a1), (2, I b2), (3, .ra 1 0), (7, I g_19), (8, .bool r_8_16), (9, I h_29)] [(1, bSystem s0)] (ai (spec_l1Le_s _ _ hr_8_3) (ai bod_155 (ai (oi (.bool r_8_3)) (ar 4 (nF hb_8_0) (ai (spec_l1Le_s _ _ hr_8_9) (ai bod_155 (ai (oi (.bool r_8_9)) (ar 2 (nF hb_8_0) (ar 4 (nF hb_8_1) (ai (spec_l1Le_s _ _ hr_8_16) (ai bod_155 (ai (oi (.bool r_8_16)) (ai (nF hb_8_1) trivial))))))))))))) ?_
      obtain rfl := Option.some.inj h
      exact Into.mk
     ·refine rg hc none [oN, oN, oN, oc (.bool r_8_3), oN, oN, oN, oN, oN, oc (.bool r_8_9), oN, oF, oN, o_, o_, o_, o_, oT, oN] [(1, I a1), (2, I b2), (3, .ra 1 0), (7, I g_19), (8, .bool true), (9, I h_29)] [(1, bSystem s0)] (ai (spec_l1Le_s _ _ hr_8_3) (ai bod_155 (ai (oi (.bool r_8_3)) (ar 4 (nF hb_8_0) (ai (spec_l1Le_s _ _ hr_8_9) (ai bod_155 (ai (oi (.bool r_8_9)) (ar 2 (nF hb_8_0) (ar 4 (neF (nT hb_8_1)) (ai (nT hb_8_1) trivial)))))))))) ?_
      obtain rfl := Option.some.inj h
      exact Into.mk
    ·refine rg hc none [oN, oN, oN, oc (.bool r_8_3), oN, oN, o_, o_, o_, o_, o_, oT, oN, o_, o_, o_, o_, oT, oN] [(1, I a1), (2, I b2), (3, .ra 1 0), (7, I g_19), (8, .bool true), (9, I h_29)] [(1, bSystem s0)] (ai (spec_l1Le_s _ _ hr_8_3) (ai bod_155 (ai (oi (.bool r_8_3)) (ar 5 (neF (nT hb_8_0)) (ai (nT hb_8_0) (ar 4 nf (ai tt trivial))))))) ?_
     obtain rfl := Option.some.inj h
     exact Into.mk
   ·clear hj_34
    refine blockQ_norm ?_
    refine seqQ_norm ?_
    refine rg0 hc 3 [(1, I a1), (2, I b2), (3, .ra 1 0), (7, I g_19), (8, .bool ok_33), (9, I (wr (h_29 + 1)))] [(1, bSystem s0)] ?_
    refine loopQ_norm ?_
    exact (spec_l1Join_l0_ih _ _ h c hc)
  ·refine cF v_30 hb_32 ?_
   refine Wp.exitN (i := 2) (by kernel_rfl) ?_
   refine seqQ_exit ?_
   refine loopQ_exit ?_
   obtain rfl := Option.some.inj h
   exact Into.view (fun a w hv => SRx.renL [] hv (by kernel_rfl) (by kernel_rfl) (by kernel_rfl))
def spec_l1Join_F2 (c : Ctx) : (Unit) ⊕ (Int) → Exit → AState → Prop
 | .inl _ => Into c (.exit 0) (mkS [] [])
 | .inr r => RetE TIx Try.f166 [] (I r)
def spec_l1Join_l1 (p : GSystem × Int × Int × Int) : Option ((Unit) ⊕ (Int)) :=
 match p with
 | (s0, a1, b2, g_19) =>
  if (decide (g_19 < s0.fSize)) = true then
   (
    (spec_l1Le (s0, a1, g_19)) >>= fun r_4_3 =>
    if r_4_3 = true then
     (spec_l1Le (s0, b2, g_19)) >>= fun r_4_8 =>
     some (r_4_8)
    else
     some (false)
   ) >>= fun ok_21 =>
   (spec_l1Join_l0 (s0, a1, b2, g_19, ok_21, 0)) >>= fun ok_35 =>
   if ok_35 = true then
    some (.inr g_19)
   else
    spec_l1Join_l1 (s0, a1, b2, (wr (g_19 + 1)))
  else
   some (.inl ())
 partial_fixpoint
def M_spec_l1Join_l1 (p : GSystem × Int × Int × Int) (fl : (Unit) ⊕ (Int)) : Prop :=
 match p with
 | (s0, a1, b2, g_19) => ∀ c : Ctx, c.nt = 55 → WpL Try.prog c (cl (cl (cr (cl (cr B166))))) (spec_l1Join_F2 c fl) (mkS [(1, I a1), (2, I b2), (3, .ra 1 0), (7, I g_19)] [(1, bSystem s0)])
theorem spec_l1Join_l1_s : ∀ p r, spec_l1Join_l1 p = some r → M_spec_l1Join_l1 p r := by
 refine spec_l1Join_l1.partial_correctness M_spec_l1Join_l1 ?_
 rintro spec_l1Join_l1_f spec_l1Join_l1_ih ⟨s0, a1, b2, g_19⟩ r h
 intro c hc
 show WpL Try.prog c (cl (cl (cr (cl (cr B166))))) (spec_l1Join_F2 c r) (mkS [(1, I a1), (2, I b2), (3, .ra 1 0), (7, I g_19)] [(1, bSystem s0)])
 refine WpL.step ?_
 refine sN ?_
 refine sN ?_
 refine rg0 hc 4 [(1, I a1), (2, I b2), (3, .ra 1 0), (7, I g_19), (13, .bool (decide (g_19 < s0.fSize)))] [(1, bSystem s0)] ?_
 refine seqQ_norm ?_
 rcases itesome h with ⟨hb_20, h⟩ | ⟨hb_20, h⟩
 ·refine cT ((decide (g_19 < s0.fSize))) hb_20 ?_
  refine Wp.skipN (by kernel_rfl) ?_
  refine seqQ_norm ?_
  refine sN ?_
  refine Wp.blockN (i := 1) (by kernel_rfl) ?_
  refine sN ?_
  obtain ⟨ok_21, hj_22, h⟩ := bsome h
  refine Wp.into (x := .normal) (mkS [(1, I a1), (2, I b2), (3, .ra 1 0), (7, I g_19), (8, .bool ok_21)] [(1, bSystem s0)]) ?_ ?_
  ·replace h := hj_22
   obtain ⟨r_4_3, hr_4_3, h⟩ := bsome h
   rcases itesome h with ⟨hb_4_0, h⟩ | ⟨hb_4_0, h⟩
   ·obtain ⟨r_4_8, hr_4_8, h⟩ := bsome h
    refine rg hc none [oN, oN, oN, oc (.bool r_4_3), oN, oN, oN, oN, oc (.bool r_4_8), oT, oN] [(1, I a1), (2, I b2), (3, .ra 1 0), (7, I g_19), (8, .bool r_4_8)] [(1, bSystem s0)] (ai (spec_l1Le_s _ _ hr_4_3) (ai bod_155 (ai (oi (.bool r_4_3)) (ar 4 hb_4_0 (ai (spec_l1Le_s _ _ hr_4_8) (ai bod_155 (ai (oi (.bool r_4_8)) (ai hb_4_0 trivial)))))))) ?_
    obtain rfl := Option.some.inj h
    exact Into.mk
   ·refine rg hc none [oN, oN, oN, oc (.bool r_4_3), oN, o_, o_, o_, o_, oF, oN] [(1, I a1), (2, I b2), (3, .ra 1 0), (7, I g_19), (8, .bool false)] [(1, bSystem s0)] (ai (spec_l1Le_s _ _ hr_4_3) (ai bod_155 (ai (oi (.bool r_4_3)) (ar 4 (neT hb_4_0) (ai hb_4_0 trivial))))) ?_
    obtain rfl := Option.some.inj h
    exact Into.mk
  ·clear hj_22
   refine seqQ_norm ?_
   refine sN ?_
   refine sN ?_
   refine rg0 hc 1 [(1, I a1), (2, I b2), (3, .ra 1 0), (7, I g_19), (8, .bool ok_21), (9, I 0)] [(1, bSystem s0)] ?_
   refine seqQ_norm ?_
   refine Wp.blockN (i := 2) (by kernel_rfl) ?_
   obtain ⟨ok_35, hl_36, h⟩ := bsome h
   have hL := spec_l1Join_l0_s _ _ hl_36 c hc
   refine Wp.loopN (by kernel_rfl) ?_
   ·refine WpL.into (e := (.exit 2)) (mkS [(1, I a1), (2, I b2), (3, .ra 1 0), (7, I g_19), (8, .bool ok_35)] [(1, bSystem s0)]) hL ?_
    refine blockQ_hit ?_
    refine seqQ_norm ?_
    refine sN ?_
    refine rg0 hc 1 [(1, I a1), (2, I b2), (3, .ra 1 0), (7, I g_19), (53, .bool ok_35)] [(1, bSystem s0)] ?_
    refine seqQ_norm ?_
    rcases itesome h with ⟨hb_37, h⟩ | ⟨hb_37, h⟩
    ·refine cT ok_35 hb_37 ?_
     refine sN ?_
     refine rg0 hc 2 [(6, I g_19)] [] ?_
     refine seqQ_norm ?_
     refine Wp.retN (by kernel_rfl) ?_
     refine blockQ_ret ?_
     refine seqQ_ret ?_
     refine loopQ_ret ?_
     obtain rfl := Option.some.inj h
     exact RetE.ret (fl := [true]) (by kernel_rfl)
    ·refine cF ok_35 hb_37 ?_
     refine Wp.skipN (by kernel_rfl) ?_
     refine blockQ_norm ?_
     refine seqQ_norm ?_
     refine rg0 hc 3 [(1, I a1), (2, I b2), (3, .ra 1 0), (7, I (wr (g_19 + 1)))] [(1, bSystem s0)] ?_
     refine loopQ_norm ?_
     exact (spec_l1Join_l1_ih _ _ h c hc)
 ·refine cF ((decide (g_19 < s0.fSize))) hb_20 ?_
  refine Wp.exitN (i := 0) (by kernel_rfl) ?_
  refine seqQ_exit ?_
  refine loopQ_exit ?_
  obtain rfl := Option.some.inj h
  exact Into.view (fun a w hv => SRx.renL [] hv (by kernel_rfl) (by kernel_rfl) (by kernel_rfl))
def spec_l1Join (p : GSystem × Int × Int) : Option (Int) :=
 match p with
 | (s0, a1, b2) =>
  (spec_l1Join_l1 (s0, a1, b2, 0)) >>= fun fl => match fl with
  | .inl () =>
   some (-1)
  | .inr r =>
   some r
def M_spec_l1Join (p : GSystem × Int × Int) (r : Int) : Prop :=
 match p with
 | (s0, a1, b2) => FnSound Try.prog 166 [aSystem s0, I a1, I b2] (I r) []
theorem spec_l1Join_s : ∀ p r, spec_l1Join p = some r → M_spec_l1Join p r := by
 rintro ⟨s0, a1, b2⟩ r h
 unfold spec_l1Join at h
 show FnSound Try.prog 166 [aSystem s0, I a1, I b2] (I r) []
 refine FnSound.body0 tiok (fn := Try.f166) (code := B166) (by kernel_rfl) (by kernel_rfl) (by kernel_rfl) (by kernel_rfl) (nt := 55) (by kernel_rfl) (by kernel_rfl) (T := [(0, aSystem s0), (1, I a1), (2, I b2)]) (O := []) (by kernel_rfl) (by kernel_rfl) (fun c hc => ?_)
 refine sN ?_
 refine rg hc none [some (.new 1), oN] [(1, I a1), (2, I b2), (3, .ra 1 0)] [(1, bSystem s0)] trivial ?_
 refine seqQ_norm ?_
 refine sN ?_
 refine sN ?_
 refine rg0 hc 1 [(1, I a1), (2, I b2), (3, .ra 1 0), (7, I 0)] [(1, bSystem s0)] ?_
 refine seqQ_norm ?_
 refine Wp.blockN (i := 0) (by kernel_rfl) ?_
 obtain ⟨fl, hl_38, h⟩ := bsome h
 have hL := spec_l1Join_l1_s _ _ hl_38 c hc
 refine Wp.loopN (by kernel_rfl) ?_
 rcases fl with ⟨⟩ | r
 ·refine WpL.into (e := (.exit 0)) (mkS [] []) hL ?_
  refine blockQ_hit ?_
  refine seqQ_norm ?_
  refine sN ?_
  refine rg0 hc 1 [(6, I (-1))] [] ?_
  refine seqQ_norm ?_
  refine Wp.retN (by kernel_rfl) ?_
  obtain rfl := Option.some.inj h
  exact RetQ.ret (fl := [true]) (by kernel_rfl)
 ·refine WpL.mono hL ?_
  rintro _ _ ⟨rfl, hfin⟩
  refine blockQ_ret ?_
  refine seqQ_ret ?_
  obtain rfl := Option.some.inj h
  exact ⟨.inl rfl, hfin⟩
def spec_l1Two (p : GSystem × Int × Int) : Option (Bool) :=
 match p with
 | (s0, a1, b2) =>
  (
   (spec_l1Add (s0, a1, b2)) >>= fun r_1_3 =>
   (spec_l1Add (s0, b2, a1)) >>= fun r_1_7 =>
   if (r_1_3 == r_1_7) = true then
    if (a1 == b2) = true then
     (spec_l1Join (s0, a1, b2)) >>= fun r_1_32 =>
     some ((decide (r_1_32 ≥ 0)))
    else
     (spec_l1Le (s0, a1, b2)) >>= fun r_1_17 =>
     if r_1_17 = true then
      (spec_l1Le (s0, b2, a1)) >>= fun r_1_24 =>
      if r_1_24 = true then
       some (false)
      else
       (spec_l1Join (s0, a1, b2)) >>= fun r_1_32 =>
       some ((decide (r_1_32 ≥ 0)))
     else
      (spec_l1Join (s0, a1, b2)) >>= fun r_1_32 =>
      some ((decide (r_1_32 ≥ 0)))
   else
    some (false)
  ) >>= fun v_1 =>
  some v_1
def M_spec_l1Two (p : GSystem × Int × Int) (r : Bool) : Prop :=
 match p with
 | (s0, a1, b2) => FnSound Try.prog 147 [aSystem s0, I a1, I b2] (.bool r) []
theorem spec_l1Two_s : ∀ p r, spec_l1Two p = some r → M_spec_l1Two p r := by
 rintro ⟨s0, a1, b2⟩ r h
 unfold spec_l1Two at h
 show FnSound Try.prog 147 [aSystem s0, I a1, I b2] (.bool r) []
 refine FnSound.body0 tiok (fn := Try.f147) (code := B147) (by kernel_rfl) (by kernel_rfl) (by kernel_rfl) (by kernel_rfl) (nt := 42) (by kernel_rfl) (by kernel_rfl) (T := [(0, aSystem s0), (1, I a1), (2, I b2)]) (O := []) (by kernel_rfl) (by kernel_rfl) (fun c hc => ?_)
 refine sN ?_
 refine rg hc none [some (.new 1), oN] [(1, I a1), (2, I b2), (3, .ra 1 0)] [(1, bSystem s0)] trivial ?_
 refine seqQ_norm ?_
 refine sN ?_
 obtain ⟨v_1, hj_2, h⟩ := bsome h
 refine Wp.into (x := .normal) (mkS [(6, .bool v_1)] []) ?_ ?_
 ·replace h := hj_2
  obtain ⟨r_1_3, hr_1_3, h⟩ := bsome h
  obtain ⟨r_1_7, hr_1_7, h⟩ := bsome h
  rcases itesome h with ⟨hb_1_0, h⟩ | ⟨hb_1_0, h⟩
  ·rcases itesome h with ⟨hb_1_1, h⟩ | ⟨hb_1_1, h⟩
   ·obtain ⟨r_1_32, hr_1_32, h⟩ := bsome h
    refine rg hc ah1_0 [oN, oN, oN, oc (I r_1_3), oN, oN, oN, oc (I r_1_7), oN, oN, oN, oN, oN, oN, o_, o_, o_, o_, o_, oT, oN, o_, o_, o_, o_, o_, oT, oT, oN, oN, oN, oN, oc (I r_1_32), oN, oT, oN] [(6, .bool (decide (r_1_32 ≥ 0)))] [] (ai (spec_l1Add_s _ _ hr_1_3) (ai bod_153 (ai (oi (I r_1_3)) (ai (spec_l1Add_s _ _ hr_1_7) (ai bod_153 (ai (oi (I r_1_7)) (ar 4 hb_1_0 (ar 5 (neF hb_1_1) (ai hb_1_0 (ai hb_1_1 (ai hb_1_0 (ar 5 nf (ai hb_1_0 (ai tt (ai hb_1_0 (ar 4 tt (ai (spec_l1Join_s _ _ hr_1_32) (ai bod_166 (ai (oi (I r_1_32)) (ar 2 tt trivial)))))))))))))))))))) ?_
    obtain rfl := Option.some.inj h
    exact Into.mk
   ·obtain ⟨r_1_17, hr_1_17, h⟩ := bsome h
    rcases itesome h with ⟨hb_1_2, h⟩ | ⟨hb_1_2, h⟩
    ·obtain ⟨r_1_24, hr_1_24, h⟩ := bsome h
     rcases itesome h with ⟨hb_1_3, h⟩ | ⟨hb_1_3, h⟩
     ·refine rg hc ah1_0 [oN, oN, oN, oc (I r_1_3), oN, oN, oN, oc (I r_1_7), oN, oN, oN, oN, oN, oN, oN, oN, oN, oc (.bool r_1_17), oN, oF, oN, oN, oN, oN, oc (.bool r_1_24), oN, oF, oT, oN, o_, o_, o_, o_, o_, oF, oN] [(6, .bool false)] [] (ai (spec_l1Add_s _ _ hr_1_3) (ai bod_153 (ai (oi (I r_1_3)) (ai (spec_l1Add_s _ _ hr_1_7) (ai bod_153 (ai (oi (I r_1_7)) (ar 4 hb_1_0 (ar 4 hb_1_1 (ai (spec_l1Le_s _ _ hr_1_17) (ai bod_155 (ai (oi (.bool r_1_17)) (ai hb_1_1 (ai hb_1_0 (ai hb_1_1 (ai hb_1_0 (ar 4 (nF hb_1_2) (ai (spec_l1Le_s _ _ hr_1_24) (ai bod_155 (ai (oi (.bool r_1_24)) (ai (nF hb_1_2) (ai hb_1_0 (ai (nF hb_1_2) (ai hb_1_0 (ar 5 (neT (nF hb_1_3)) (ai (nF hb_1_3) trivial))))))))))))))))))))))))) ?_
      obtain rfl := Option.some.inj h
      exact Into.mk
     ·obtain ⟨r_1_32, hr_1_32, h⟩ := bsome h
      refine rg hc ah1_0 [oN, oN, oN, oc (I r_1_3), oN, oN, oN, oc (I r_1_7), oN, oN, oN, oN, oN, oN, oN, oN, oN, oc (.bool r_1_17), oN, oF, oN, oN, oN, oN, oc (.bool r_1_24), oN, oF, oT, oN, oN, oN, oN, oc (I r_1_32), oN, oT, oN] [(6, .bool (decide (r_1_32 ≥ 0)))] [] (ai (spec_l1Add_s _ _ hr_1_3) (ai bod_153 (ai (oi (I r_1_3)) (ai (spec_l1Add_s _ _ hr_1_7) (ai bod_153 (ai (oi (I r_1_7)) (ar 4 hb_1_0 (ar 4 hb_1_1 (ai (spec_l1Le_s _ _ hr_1_17) (ai bod_155 (ai (oi (.bool r_1_17)) (ai hb_1_1 (ai hb_1_0 (ai hb_1_1 (ai hb_1_0 (ar 4 (nF hb_1_2) (ai (spec_l1Le_s _ _ hr_1_24) (ai bod_155 (ai (oi (.bool r_1_24)) (ai (nF hb_1_2) (ai hb_1_0 (ai (nF hb_1_2) (ai hb_1_0 (ar 4 (nT hb_1_3) (ai (spec_l1Join_s _ _ hr_1_32) (ai bod_166 (ai (oi (I r_1_32)) (ar 2 (nT hb_1_3) trivial)))))))))))))))))))))))))))) ?_
      obtain rfl := Option.some.inj h
      exact Into.mk
    ·obtain ⟨r_1_32, hr_1_32, h⟩ := bsome h
     refine rg hc ah1_0 [oN, oN, oN, oc (I r_1_3), oN, oN, oN, oc (I r_1_7), oN, oN, oN, oN, oN, oN, oN, oN, oN, oc (.bool r_1_17), oN, oF, oN, o_, o_, o_, o_, o_, oT, oT, oN, oN, oN, oN, oc (I r_1_32), oN, oT, oN] [(6, .bool (decide (r_1_32 ≥ 0)))] [] (ai (spec_l1Add_s _ _ hr_1_3) (ai bod_153 (ai (oi (I r_1_3)) (ai (spec_l1Add_s _ _ hr_1_7) (ai bod_153 (ai (oi (I r_1_7)) (ar 4 hb_1_0 (ar 4 hb_1_1 (ai (spec_l1Le_s _ _ hr_1_17) (ai bod_155 (ai (oi (.bool r_1_17)) (ai hb_1_1 (ai hb_1_0 (ai hb_1_1 (ai hb_1_0 (ar 5 (neF (nT hb_1_2)) (ai hb_1_0 (ai (nT hb_1_2) (ai hb_1_0 (ar 4 tt (ai (spec_l1Join_s _ _ hr_1_32) (ai bod_166 (ai (oi (I r_1_32)) (ar 2 tt trivial)))))))))))))))))))))))) ?_
     obtain rfl := Option.some.inj h
     exact Into.mk
  ·refine rg hc ah1_0 [oN, oN, oN, oc (I r_1_3), oN, oN, oN, oc (I r_1_7), oN, oN, o_, o_, o_, o_, o_, o_, o_, o_, o_, o_, o_, o_, o_, o_, o_, o_, o_, oF, oN, o_, o_, o_, o_, o_, oF, oN] [(6, .bool false)] [] (ai (spec_l1Add_s _ _ hr_1_3) (ai bod_153 (ai (oi (I r_1_3)) (ai (spec_l1Add_s _ _ hr_1_7) (ai bod_153 (ai (oi (I r_1_7)) (ar 7 (neT hb_1_0) (ai hb_1_0 (ar 5 (neT (rfl : false = false)) (ai (rfl : false = false) trivial)))))))))) ?_
   obtain rfl := Option.some.inj h
   exact Into.mk
 ·clear hj_2
  refine seqQ_norm ?_
  refine Wp.retN (by kernel_rfl) ?_
  obtain rfl := Option.some.inj h
  exact RetQ.ret (fl := [true]) (by kernel_rfl)
end Go.Am
