/- Functions of the program as pure functions, and that it computes them. Printed by a program of mine (gen.py). -/
import Derived.Test.YtfakfcaegabgaaaGIJF2
set_option linter.unusedVariables false
set_option linter.unusedSimpArgs false
set_option maxRecDepth 100000
namespace Go.Am
open Go Go.Proofs
def ah3_0 : Option (List (List Nat)) := rx [[0], [1], [0], [3], [4], [0], [0, 5], [0, 5, 6], [8], [9], [10], [11], [12], [11], [14], [15], [16], [17], [18], [19], [20], [21], [20], [23], [24], [20], [20, 25], [27], [28], [29]]
mutual
def spec_l2Left (p : GTerm × Int) : Option (Int) :=
 match p with
 | (t0, left1) =>
  (spec_l2Left_l0 (t0, (wr (left1 - 1)), 0)) >>= fun left_9 =>
  some left_9
 partial_fixpoint
def spec_l2Left_l0 (p : GTerm × Int × Int) : Option (Int) :=
 match p with
 | (t0, left_4, k_5) =>
  (
   if (decide (k_5 < (t0.fKids.length : Int))) = true then
    some ((decide (left_4 ≥ 0)))
   else
    some (false)
  ) >>= fun v_6 =>
  if v_6 = true then
   (idx t0.fKids k_5) >>= fun e_5_3 =>
   (spec_l2Left (e_5_3, left_4)) >>= fun r_5_6 =>
   spec_l2Left_l0 (t0, r_5_6, (wr (k_5 + 1)))
  else
   some (left_4)
 partial_fixpoint
end
def M_spec_l2Left (p : GTerm × Int) (r : Int) : Prop :=
 match p with
 | (t0, left1) => FnSound Try.prog 84 [aTerm t0, I left1] (I r) []
def M_spec_l2Left_l0 (p : GTerm × Int × Int) (fl : Int) : Prop :=
 match p with
 | (t0, left_4, k_5) => ∀ c : Ctx, c.nt = 27 → WpL Try.prog c (cl (cl (cr (cl (cr (cr B84)))))) (spec_l2Left_F1 c fl) (mkS [(1, I left_4), (2, .ra 1 0), (5, I k_5)] [(1, bTerm t0)])
theorem spec_l2Left_all : (∀ p r, spec_l2Left p = some r → M_spec_l2Left p r) ∧ (∀ p r, spec_l2Left_l0 p = some r → M_spec_l2Left_l0 p r) := by
 refine spec_l2Left.mutual_partial_correctness M_spec_l2Left M_spec_l2Left_l0 ?_ ?_
 ·rintro spec_l2Left_l0_f spec_l2Left_l0_ih ⟨t0, left1⟩ r h
  show FnSound Try.prog 84 [aTerm t0, I left1] (I r) []
  refine FnSound.body0 tiok (fn := Try.f84) (code := B84) (by kernel_rfl) (by kernel_rfl) (by kernel_rfl) (by kernel_rfl) (nt := 27) (by kernel_rfl) (by kernel_rfl) (T := [(0, aTerm t0), (1, I left1)]) (O := []) (by kernel_rfl) (by kernel_rfl) (fun c hc => ?_)
  refine sN ?_
  refine rg hc none [some (.new 1), oN] [(1, I left1), (2, .ra 1 0)] [(1, bTerm t0)] trivial ?_
  refine seqQ_norm ?_
  refine sN ?_
  refine rg0 hc 3 [(1, I (wr (left1 - 1))), (2, .ra 1 0)] [(1, bTerm t0)] ?_
  refine seqQ_norm ?_
  refine sN ?_
  refine sN ?_
  refine rg0 hc 1 [(1, I (wr (left1 - 1))), (2, .ra 1 0), (5, I 0)] [(1, bTerm t0)] ?_
  refine seqQ_norm ?_
  refine Wp.blockN (i := 0) (by kernel_rfl) ?_
  obtain ⟨left_9, hl_10, h⟩ := bsome h
  have hL := spec_l2Left_l0_ih _ _ hl_10 c hc
  refine Wp.loopN (by kernel_rfl) ?_
  ·refine WpL.into (e := (.exit 0)) (mkS [(1, I left_9)] []) hL ?_
   refine blockQ_hit ?_
   refine seqQ_norm ?_
   refine sN ?_
   refine rg0 hc 2 [(4, I left_9)] [] ?_
   refine seqQ_norm ?_
   refine Wp.retN (by kernel_rfl) ?_
   obtain rfl := Option.some.inj h
   exact RetQ.ret (fl := [true]) (by kernel_rfl)
 ·rintro spec_l2Left_f spec_l2Left_l0_f spec_l2Left_ih spec_l2Left_l0_ih ⟨t0, left_4, k_5⟩ r h
  intro c hc
  show WpL Try.prog c (cl (cl (cr (cl (cr (cr B84)))))) (spec_l2Left_F1 c r) (mkS [(1, I left_4), (2, .ra 1 0), (5, I k_5)] [(1, bTerm t0)])
  refine WpL.step ?_
  refine sN ?_
  refine sN ?_
  obtain ⟨v_6, hj_7, h⟩ := bsome h
  refine Wp.into (x := .normal) (mkS [(1, I left_4), (2, .ra 1 0), (5, I k_5), (16, .bool v_6)] [(1, bTerm t0)]) ?_ ?_
  ·replace h := hj_7
   rcases itesome h with ⟨hb_3_0, h⟩ | ⟨hb_3_0, h⟩
   ·refine rg hc none [oN, oN, oN, some (.eqv (.no) ⟨[(11, I (t0.fKids.length : Int))], [], []⟩), oN, oN, oN, oN, oT] [(1, I left_4), (2, .ra 1 0), (5, I k_5), (16, .bool (decide (left_4 ≥ 0)))] [(1, bTerm t0)] (ai (lenT (d := 11) GTerm_S t0.fKids) (ar 3 hb_3_0 trivial)) ?_
    obtain rfl := Option.some.inj h
    exact Into.mk
   ·refine rg hc none [oN, oN, oN, some (.eqv (.no) ⟨[(11, I (t0.fKids.length : Int))], [], []⟩), oN, oN, o_, o_, oF] [(1, I left_4), (2, .ra 1 0), (5, I k_5), (16, .bool false)] [(1, bTerm t0)] (ai (lenT (d := 11) GTerm_S t0.fKids) (ar 2 (neT hb_3_0) (ai hb_3_0 trivial))) ?_
    obtain rfl := Option.some.inj h
    exact Into.mk
  ·clear hj_7
   refine seqQ_norm ?_
   rcases itesome h with ⟨hb_8, h⟩ | ⟨hb_8, h⟩
   ·refine cT v_6 hb_8 ?_
    refine Wp.skipN (by kernel_rfl) ?_
    refine seqQ_norm ?_
    refine sN ?_
    refine Wp.blockN (i := 1) (by kernel_rfl) ?_
    obtain ⟨e_5_3, hi_5_3, h⟩ := bsome h
    obtain ⟨r_5_6, hr_5_6, h⟩ := bsome h
    refine rg hc none [oN, oN, oN, some (.el (aTerm e_5_3)), oN, oN, oc (I r_5_6), oN] [(1, I r_5_6), (2, .ra 1 0), (5, I k_5)] [(1, bTerm t0)] (ai (idx_sl (enc := GTerm_S) (x := aTerm e_5_3) hi_5_3 (eq_GTerm_S e_5_3)) (ai (spec_l2Left_ih _ _ hr_5_6) (ai bod_84 (ai (oi (I r_5_6)) trivial)))) ?_
    refine blockQ_norm ?_
    refine seqQ_norm ?_
    refine rg0 hc 3 [(1, I r_5_6), (2, .ra 1 0), (5, I (wr (k_5 + 1)))] [(1, bTerm t0)] ?_
    refine loopQ_norm ?_
    exact (spec_l2Left_l0_ih _ _ h c hc)
   ·refine cF v_6 hb_8 ?_
    refine Wp.exitN (i := 0) (by kernel_rfl) ?_
    refine seqQ_exit ?_
    refine loopQ_exit ?_
    obtain rfl := Option.some.inj h
    exact Into.view (fun a w hv => SRx.renL [] hv (by kernel_rfl) (by kernel_rfl) (by kernel_rfl))
theorem spec_l2Left_s : ∀ p r, spec_l2Left p = some r → M_spec_l2Left p r := spec_l2Left_all.1
theorem spec_l2Left_l0_s : ∀ p r, spec_l2Left_l0 p = some r → M_spec_l2Left_l0 p r := spec_l2Left_all.2
def spec_l2Many (op0 : Int) : Option (Int) :=
  (spec_l1In (op0, 0, 12)) >>= fun r_1_1 =>
  if r_1_1 = true then
   (idx [0, 0, 2, 3, 2, 2, 1, 1, 3, 1, 2, 1, 2] op0) >>= fun e_3_2 =>
   some e_3_2
  else
   some (-1)
def M_spec_l2Many (op0 : Int) (r : Int) : Prop :=
 FnSound Try.prog 163 [I op0] (I r) []
theorem spec_l2Many_s : ∀ p r, spec_l2Many p = some r → M_spec_l2Many p r := by
 rintro op0 r h
 unfold spec_l2Many at h
 show FnSound Try.prog 163 [I op0] (I r) []
 refine FnSound.body0 tiok (fn := Try.f163) (code := B163) (by kernel_rfl) (by kernel_rfl) (by kernel_rfl) (by kernel_rfl) (nt := 10) (by kernel_rfl) (by kernel_rfl) (T := [(0, I op0)]) (O := []) (by kernel_rfl) (by kernel_rfl) (fun c hc => ?_)
 refine sN ?_
 refine rg0 hc 1 [(0, I op0)] [] ?_
 refine seqQ_norm ?_
 refine sN ?_
 refine sN ?_
 obtain ⟨r_1_1, hr_1_1, h⟩ := bsome h
 refine rg hc none [oN, oc (.bool r_1_1), oN] [(0, I op0), (5, .bool (!r_1_1))] [] (ai (spec_l1In_s _ _ hr_1_1) (ai bod_57 (ai (oi (.bool r_1_1)) trivial))) ?_
 refine seqQ_norm ?_
 rcases itesome h with ⟨hb_1, h⟩ | ⟨hb_1, h⟩
 ·refine cF (!r_1_1) (nF hb_1) ?_
  refine Wp.skipN (by kernel_rfl) ?_
  refine seqQ_norm ?_
  refine sN ?_
  obtain ⟨e_3_2, hi_3_2, h⟩ := bsome h
  refine rg hc none [some (.mk 1 true), oN, oN, some (.el (I e_3_2)), oN] [(2, I e_3_2)] [] (ai (idx_own (enc := I) hi_3_2) (ai (ix hi_3_2).2 trivial)) ?_
  refine seqQ_norm ?_
  refine Wp.retN (by kernel_rfl) ?_
  obtain rfl := Option.some.inj h
  exact RetQ.ret (fl := [true]) (by kernel_rfl)
 ·refine cT (!r_1_1) (nT hb_1) ?_
  refine sN ?_
  refine rg0 hc 1 [(2, I (-1))] [] ?_
  refine seqQ_norm ?_
  refine Wp.retN (by kernel_rfl) ?_
  refine seqQ_ret ?_
  obtain rfl := Option.some.inj h
  exact RetQ.ret (fl := [true]) (by kernel_rfl)
def spec_l2Has (op0 : Int) : Option (Bool) :=
  (
   if (op0 == 5) = true then
    some (true)
   else
    if (op0 == 8) = true then
     some (true)
    else
     if (op0 == 9) = true then
      some (true)
     else
      if (op0 == 11) = true then
       some (true)
      else
       some ((op0 == 12))
  ) >>= fun v_1 =>
  some v_1
def M_spec_l2Has (op0 : Int) (r : Bool) : Prop :=
 FnSound Try.prog 108 [I op0] (.bool r) []
theorem spec_l2Has_s : ∀ p r, spec_l2Has p = some r → M_spec_l2Has p r := by
 rintro op0 r h
 unfold spec_l2Has at h
 show FnSound Try.prog 108 [I op0] (.bool r) []
 refine FnSound.body0 tiok (fn := Try.f108) (code := B108) (by kernel_rfl) (by kernel_rfl) (by kernel_rfl) (by kernel_rfl) (nt := 21) (by kernel_rfl) (by kernel_rfl) (T := [(0, I op0)]) (O := []) (by kernel_rfl) (by kernel_rfl) (fun c hc => ?_)
 refine sN ?_
 refine rg0 hc 1 [(0, I op0)] [] ?_
 refine seqQ_norm ?_
 refine sN ?_
 obtain ⟨v_1, hj_2, h⟩ := bsome h
 refine Wp.into (x := .normal) (mkS [(2, .bool v_1)] []) ?_ ?_
 ·replace h := hj_2
  rcases itesome h with ⟨hb_1_0, h⟩ | ⟨hb_1_0, h⟩
  ·refine rg hc none [oN, oN, oN, o_, o_, oT, oN, o_, o_, oT, oN, o_, o_, oT, oN, o_, o_, oT, oN] [(2, .bool true)] [] (ar 2 (neF hb_1_0) (ai hb_1_0 (ar 2 nf (ai tt (ar 2 nf (ai tt (ar 2 nf (ai tt trivial)))))))) ?_
   obtain rfl := Option.some.inj h
   exact Into.mk
  ·rcases itesome h with ⟨hb_1_1, h⟩ | ⟨hb_1_1, h⟩
   ·refine rg hc none [oN, oN, oN, oN, oN, oF, oN, o_, o_, oT, oN, o_, o_, oT, oN, o_, o_, oT, oN] [(2, .bool true)] [] (ar 3 hb_1_0 (ar 2 (neF hb_1_1) (ai hb_1_1 (ar 2 nf (ai tt (ar 2 nf (ai tt trivial))))))) ?_
    obtain rfl := Option.some.inj h
    exact Into.mk
   ·rcases itesome h with ⟨hb_1_2, h⟩ | ⟨hb_1_2, h⟩
    ·refine rg hc none [oN, oN, oN, oN, oN, oF, oN, oN, oN, oF, oN, o_, o_, oT, oN, o_, o_, oT, oN] [(2, .bool true)] [] (ar 3 hb_1_0 (ar 3 hb_1_1 (ar 2 (neF hb_1_2) (ai hb_1_2 (ar 2 nf (ai tt trivial)))))) ?_
     obtain rfl := Option.some.inj h
     exact Into.mk
    ·rcases itesome h with ⟨hb_1_3, h⟩ | ⟨hb_1_3, h⟩
     ·refine rg hc none [oN, oN, oN, oN, oN, oF, oN, oN, oN, oF, oN, oN, oN, oF, oN, o_, o_, oT, oN] [(2, .bool true)] [] (ar 3 hb_1_0 (ar 3 hb_1_1 (ar 3 hb_1_2 (ar 2 (neF hb_1_3) (ai hb_1_3 trivial))))) ?_
      obtain rfl := Option.some.inj h
      exact Into.mk
     ·refine rg hc none [oN, oN, oN, oN, oN, oF, oN, oN, oN, oF, oN, oN, oN, oF, oN, oN, oN, oF, oN] [(2, .bool (op0 == 12))] [] (ar 3 hb_1_0 (ar 3 hb_1_1 (ar 3 hb_1_2 (ar 3 hb_1_3 trivial)))) ?_
      obtain rfl := Option.some.inj h
      exact Into.mk
 ·clear hj_2
  refine seqQ_norm ?_
  refine Wp.retN (by kernel_rfl) ?_
  obtain rfl := Option.some.inj h
  exact RetQ.ret (fl := [true]) (by kernel_rfl)
def spec_l2Typed (op0 : Int) : Option (Bool) :=
  (
   if (op0 == 6) = true then
    some (true)
   else
    if (op0 == 7) = true then
     some (true)
    else
     some ((op0 == 9))
  ) >>= fun v_1 =>
  some v_1
def M_spec_l2Typed (op0 : Int) (r : Bool) : Prop :=
 FnSound Try.prog 164 [I op0] (.bool r) []
theorem spec_l2Typed_s : ∀ p r, spec_l2Typed p = some r → M_spec_l2Typed p r := by
 rintro op0 r h
 unfold spec_l2Typed at h
 show FnSound Try.prog 164 [I op0] (.bool r) []
 refine FnSound.body0 tiok (fn := Try.f164) (code := B164) (by kernel_rfl) (by kernel_rfl) (by kernel_rfl) (by kernel_rfl) (nt := 13) (by kernel_rfl) (by kernel_rfl) (T := [(0, I op0)]) (O := []) (by kernel_rfl) (by kernel_rfl) (fun c hc => ?_)
 refine sN ?_
 refine rg0 hc 1 [(0, I op0)] [] ?_
 refine seqQ_norm ?_
 refine sN ?_
 obtain ⟨v_1, hj_2, h⟩ := bsome h
 refine Wp.into (x := .normal) (mkS [(2, .bool v_1)] []) ?_ ?_
 ·replace h := hj_2
  rcases itesome h with ⟨hb_1_0, h⟩ | ⟨hb_1_0, h⟩
  ·refine rg hc none [oN, oN, oN, o_, o_, oT, oN, o_, o_, oT, oN] [(2, .bool true)] [] (ar 2 (neF hb_1_0) (ai hb_1_0 (ar 2 nf (ai tt trivial)))) ?_
   obtain rfl := Option.some.inj h
   exact Into.mk
  ·rcases itesome h with ⟨hb_1_1, h⟩ | ⟨hb_1_1, h⟩
   ·refine rg hc none [oN, oN, oN, oN, oN, oF, oN, o_, o_, oT, oN] [(2, .bool true)] [] (ar 3 hb_1_0 (ar 2 (neF hb_1_1) (ai hb_1_1 trivial))) ?_
    obtain rfl := Option.some.inj h
    exact Into.mk
   ·refine rg hc none [oN, oN, oN, oN, oN, oF, oN, oN, oN, oF, oN] [(2, .bool (op0 == 9))] [] (ar 3 hb_1_0 (ar 3 hb_1_1 trivial)) ?_
    obtain rfl := Option.some.inj h
    exact Into.mk
 ·clear hj_2
  refine seqQ_norm ?_
  refine Wp.retN (by kernel_rfl) ?_
  obtain rfl := Option.some.inj h
  exact RetQ.ret (fl := [true]) (by kernel_rfl)
def spec_l2Node_F1 (c : Ctx) (t0 : GTerm) (size2 : Int) (closed3 : Bool) : (Unit) ⊕ (Bool) → Exit → AState → Prop
 | .inl _ => Into c .normal (mkS [(2, I size2), (3, .bool closed3), (4, .ra 1 0)] [(1, bTerm t0)])
 | .inr r => RetE TIx Try.f133 [] (.bool r)
def spec_l2Node_F2 (c : Ctx) (t0 : GTerm) (size2 : Int) (closed3 : Bool) : (Unit) ⊕ (Bool) → Exit → AState → Prop
 | .inl _ => Into c .normal (mkS [(2, I size2), (3, .bool closed3), (4, .ra 1 0)] [(1, bTerm t0)])
 | .inr r => RetE TIx Try.f133 [] (.bool r)
def spec_l2Node_F3 (c : Ctx) (t0 : GTerm) (size2 : Int) (closed3 : Bool) : (Unit) ⊕ (Bool) → Exit → AState → Prop
 | .inl _ => Into c .normal (mkS [(2, I size2), (3, .bool closed3), (4, .ra 1 0)] [(1, bTerm t0)])
 | .inr r => RetE TIx Try.f133 [] (.bool r)
def spec_l2Node (p : GTerm × Int × Int × Bool) : Option (Bool) :=
 match p with
 | (t0, n1, size2, closed3) =>
  (spec_l2Many t0.fOp) >>= fun r_1_5 =>
  if ((t0.fKids.length : Int) != r_1_5) = true then
   some false
  else
   ((
    if (t0.fOp == 0) = true then
     (spec_l1In (t0.fN, 0, (wr (n1 - 1)))) >>= fun r_6_4 =>
     if r_6_4 = true then
      some (.inl ())
     else
      some (.inr false)
    else
     ((
      if (t0.fOp == 1) = true then
       (spec_l1In (t0.fN, 0, 2)) >>= fun r_9_2 =>
       if r_9_2 = true then
        some (.inl ())
       else
        some (.inr false)
      else
       (spec_l2Has t0.fOp) >>= fun r_11_2 =>
       ((
        if r_11_2 = true then
         (
          if (decide (t0.fN ≥ size2)) = true then
           some (true)
          else
           if (decide (t0.fN < (-1))) = true then
            some (true)
           else
            if closed3 = true then
             some ((decide (t0.fN < 0)))
            else
             some (false)
         ) >>= fun v_7 =>
         if v_7 = true then
          some (.inr false)
         else
          some (.inl ())
        else
         if (t0.fN != 0) = true then
          some (.inr false)
         else
          some (.inl ())) : Option ((Unit) ⊕ (Bool))) >>= fun fl => match fl with
       | .inl () =>
        some (.inl ())
       | .inr r =>
        some (.inr r)) : Option ((Unit) ⊕ (Bool))) >>= fun fl => match fl with
     | .inl () =>
      some (.inl ())
     | .inr r =>
      some (.inr r)) : Option ((Unit) ⊕ (Bool))) >>= fun fl => match fl with
   | .inl () =>
    (spec_l2Typed t0.fOp) >>= fun r_14_2 =>
    if r_14_2 = true then
     (
      (spec_l2Type t0.fType) >>= fun r_16_2 =>
      if r_16_2 = true then
       (spec_l2Graded (t0.fType, size2, closed3)) >>= fun r_16_8 =>
       some (r_16_8)
      else
       some (false)
     ) >>= fun v_15 =>
     some v_15
    else
     some ((t0.fType.length : Int) == 0)
   | .inr r =>
    some r
def M_spec_l2Node (p : GTerm × Int × Int × Bool) (r : Bool) : Prop :=
 match p with
 | (t0, n1, size2, closed3) => FnSound Try.prog 133 [aTerm t0, I n1, I size2, .bool closed3] (.bool r) []
theorem spec_l2Node_s : ∀ p r, spec_l2Node p = some r → M_spec_l2Node p r := by
 rintro ⟨t0, n1, size2, closed3⟩ r h
 unfold spec_l2Node at h
 show FnSound Try.prog 133 [aTerm t0, I n1, I size2, .bool closed3] (.bool r) []
 refine FnSound.body0 tiok (fn := Try.f133) (code := B133) (by kernel_rfl) (by kernel_rfl) (by kernel_rfl) (by kernel_rfl) (nt := 76) (by kernel_rfl) (by kernel_rfl) (T := [(0, aTerm t0), (1, I n1), (2, I size2), (3, .bool closed3)]) (O := []) (by kernel_rfl) (by kernel_rfl) (fun c hc => ?_)
 refine sN ?_
 refine rg hc none [some (.new 1), oN] [(1, I n1), (2, I size2), (3, .bool closed3), (4, .ra 1 0)] [(1, bTerm t0)] trivial ?_
 refine seqQ_norm ?_
 refine sN ?_
 refine sN ?_
 obtain ⟨r_1_5, hr_1_5, h⟩ := bsome h
 refine rg hc (rx [[0], [1], [2], [0], [0, 3], [0, 3, 4], [6]]) [oN, oN, some (.eqv (.no) ⟨[(11, I (t0.fKids.length : Int))], [], []⟩), oN, oN, oc (I r_1_5), oN] [(1, I n1), (2, I size2), (3, .bool closed3), (4, .ra 1 0), (15, .bool ((t0.fKids.length : Int) != r_1_5))] [(1, bTerm t0)] (ai (lenT (d := 11) GTerm_S t0.fKids) (ai (spec_l2Many_s _ _ hr_1_5) (ai bod_163 (ai (oi (I r_1_5)) trivial)))) ?_
 refine seqQ_norm ?_
 rcases itesome h with ⟨hb_1, h⟩ | ⟨hb_1, h⟩
 ·refine cT (((t0.fKids.length : Int) != r_1_5)) hb_1 ?_
  refine sN ?_
  refine rg0 hc 1 [(8, .bool false)] [] ?_
  refine seqQ_norm ?_
  refine Wp.retN (by kernel_rfl) ?_
  refine seqQ_ret ?_
  obtain rfl := Option.some.inj h
  exact RetQ.ret (fl := [true]) (by kernel_rfl)
 ·refine cF (((t0.fKids.length : Int) != r_1_5)) hb_1 ?_
  refine Wp.skipN (by kernel_rfl) ?_
  refine seqQ_norm ?_
  refine sN ?_
  refine Wp.blockN (i := 0) (by kernel_rfl) ?_
  refine sN ?_
  refine rg0 hc 4 [(1, I n1), (2, I size2), (3, .bool closed3), (4, .ra 1 0), (19, .bool (t0.fOp == 0))] [(1, bTerm t0)] ?_
  refine seqQ_norm ?_
  obtain ⟨fl, hj_13, h⟩ := bsome h
  have hF : Wp Try.prog c (cr (cl (cl (cr (cr B133))))) (spec_l2Node_F3 c t0 size2 closed3 fl) (mkS [(1, I n1), (2, I size2), (3, .bool closed3), (4, .ra 1 0), (19, .bool (t0.fOp == 0))] [(1, bTerm t0)]) := by
   replace h := hj_13
   rcases itesome h with ⟨hb_2, h⟩ | ⟨hb_2, h⟩
   ·refine cT ((t0.fOp == 0)) hb_2 ?_
    refine sN ?_
    obtain ⟨r_6_4, hr_6_4, h⟩ := bsome h
    refine rg hc none [oN, oN, oN, oN, oc (.bool r_6_4), oN] [(2, I size2), (3, .bool closed3), (4, .ra 1 0), (28, .bool (!r_6_4))] [(1, bTerm t0)] (ai (spec_l1In_s _ _ hr_6_4) (ai bod_57 (ai (oi (.bool r_6_4)) trivial))) ?_
    refine seqQ_norm ?_
    rcases itesome h with ⟨hb_3, h⟩ | ⟨hb_3, h⟩
    ·refine cF (!r_6_4) (nF hb_3) ?_
     refine Wp.skipN (by kernel_rfl) ?_
     obtain rfl := Option.some.inj h
     exact Into.view (fun a w hv => SRx.renL [] hv (by kernel_rfl) (by kernel_rfl) (by kernel_rfl))
    ·refine cT (!r_6_4) (nT hb_3) ?_
     refine sN ?_
     refine rg0 hc 1 [(8, .bool false)] [] ?_
     refine seqQ_norm ?_
     refine Wp.retN (by kernel_rfl) ?_
     obtain rfl := Option.some.inj h
     exact RetE.ret (fl := [true]) (by kernel_rfl)
   ·refine cF ((t0.fOp == 0)) hb_2 ?_
    refine sN ?_
    refine rg0 hc 4 [(2, I size2), (3, .bool closed3), (4, .ra 1 0), (29, .bool (t0.fOp == 1))] [(1, bTerm t0)] ?_
    refine seqQ_norm ?_
    obtain ⟨fl, hj_12, h⟩ := bsome h
    have hF : Wp Try.prog c (cr (cr (cr (cl (cl (cr (cr B133))))))) (spec_l2Node_F2 c t0 size2 closed3 fl) (mkS [(2, I size2), (3, .bool closed3), (4, .ra 1 0), (29, .bool (t0.fOp == 1))] [(1, bTerm t0)]) := by
     replace h := hj_12
     rcases itesome h with ⟨hb_4, h⟩ | ⟨hb_4, h⟩
     ·refine cT ((t0.fOp == 1)) hb_4 ?_
      refine sN ?_
      obtain ⟨r_9_2, hr_9_2, h⟩ := bsome h
      refine rg hc none [oN, oN, oc (.bool r_9_2), oN] [(2, I size2), (3, .bool closed3), (4, .ra 1 0), (36, .bool (!r_9_2))] [(1, bTerm t0)] (ai (spec_l1In_s _ _ hr_9_2) (ai bod_57 (ai (oi (.bool r_9_2)) trivial))) ?_
      refine seqQ_norm ?_
      rcases itesome h with ⟨hb_5, h⟩ | ⟨hb_5, h⟩
      ·refine cF (!r_9_2) (nF hb_5) ?_
       refine Wp.skipN (by kernel_rfl) ?_
       obtain rfl := Option.some.inj h
       exact Into.view (fun a w hv => SRx.renL [] hv (by kernel_rfl) (by kernel_rfl) (by kernel_rfl))
      ·refine cT (!r_9_2) (nT hb_5) ?_
       refine sN ?_
       refine rg0 hc 1 [(8, .bool false)] [] ?_
       refine seqQ_norm ?_
       refine Wp.retN (by kernel_rfl) ?_
       obtain rfl := Option.some.inj h
       exact RetE.ret (fl := [true]) (by kernel_rfl)
     ·refine cF ((t0.fOp == 1)) hb_4 ?_
      refine sN ?_
      obtain ⟨r_11_2, hr_11_2, h⟩ := bsome h
      refine rg hc none [oN, oN, oc (.bool r_11_2), oN] [(2, I size2), (3, .bool closed3), (4, .ra 1 0), (37, .bool r_11_2)] [(1, bTerm t0)] (ai (spec_l2Has_s _ _ hr_11_2) (ai bod_108 (ai (oi (.bool r_11_2)) trivial))) ?_
      refine seqQ_norm ?_
      obtain ⟨fl, hj_11, h⟩ := bsome h
      have hF : Wp Try.prog c (cr (cr (cr (cr (cr (cl (cl (cr (cr B133))))))))) (spec_l2Node_F1 c t0 size2 closed3 fl) (mkS [(2, I size2), (3, .bool closed3), (4, .ra 1 0), (37, .bool r_11_2)] [(1, bTerm t0)]) := by
       replace h := hj_11
       rcases itesome h with ⟨hb_6, h⟩ | ⟨hb_6, h⟩
       ·refine cT r_11_2 hb_6 ?_
        refine sN ?_
        obtain ⟨v_7, hj_8, h⟩ := bsome h
        refine Wp.into (x := .normal) (mkS [(2, I size2), (3, .bool closed3), (4, .ra 1 0), (57, .bool v_7)] [(1, bTerm t0)]) ?_ ?_
        ·replace h := hj_8
         rcases itesome h with ⟨hb_12_0, h⟩ | ⟨hb_12_0, h⟩
         ·refine rg hc none [oN, oN, oN, oN, oN, o_, o_, o_, oT, oN, o_, o_, o_, o_, o_, o_, oT] [(2, I size2), (3, .bool closed3), (4, .ra 1 0), (57, .bool true)] [(1, bTerm t0)] (ar 3 (neF hb_12_0) (ai hb_12_0 (ar 3 nf (ai tt trivial)))) ?_
          obtain rfl := Option.some.inj h
          exact Into.mk
         ·rcases itesome h with ⟨hb_12_1, h⟩ | ⟨hb_12_1, h⟩
          ·refine rg hc none [oN, oN, oN, oN, oN, oN, oN, oN, oF, oN, o_, o_, o_, o_, o_, o_, oT] [(2, I size2), (3, .bool closed3), (4, .ra 1 0), (57, .bool true)] [(1, bTerm t0)] (ar 4 hb_12_0 (ar 3 (neF hb_12_1) (ai hb_12_1 trivial))) ?_
           obtain rfl := Option.some.inj h
           exact Into.mk
          ·rcases itesome h with ⟨hb_12_2, h⟩ | ⟨hb_12_2, h⟩
           ·refine rg hc none [oN, oN, oN, oN, oN, oN, oN, oN, oF, oN, oN, oN, oN, oN, oN, oT, oF] [(2, I size2), (3, .bool closed3), (4, .ra 1 0), (57, .bool (decide (t0.fN < 0)))] [(1, bTerm t0)] (ar 4 hb_12_0 (ar 2 hb_12_1 (ar 3 hb_12_2 (ai hb_12_1 (ai hb_12_2 (ai hb_12_1 trivial)))))) ?_
            obtain rfl := Option.some.inj h
            exact Into.mk
           ·refine rg hc none [oN, oN, oN, oN, oN, oN, oN, oN, oF, oN, oN, oN, o_, o_, o_, oF, oF] [(2, I size2), (3, .bool closed3), (4, .ra 1 0), (57, .bool false)] [(1, bTerm t0)] (ar 4 hb_12_0 (ar 2 hb_12_1 (ar 3 (neT hb_12_2) (ai hb_12_1 (ai hb_12_2 (ai hb_12_1 trivial)))))) ?_
            obtain rfl := Option.some.inj h
            exact Into.mk
        ·clear hj_8
         refine seqQ_norm ?_
         rcases itesome h with ⟨hb_9, h⟩ | ⟨hb_9, h⟩
         ·refine cT v_7 hb_9 ?_
          refine sN ?_
          refine rg0 hc 1 [(8, .bool false)] [] ?_
          refine seqQ_norm ?_
          refine Wp.retN (by kernel_rfl) ?_
          obtain rfl := Option.some.inj h
          exact RetE.ret (fl := [true]) (by kernel_rfl)
         ·refine cF v_7 hb_9 ?_
          refine Wp.skipN (by kernel_rfl) ?_
          obtain rfl := Option.some.inj h
          exact Into.view (fun a w hv => SRx.renL [] hv (by kernel_rfl) (by kernel_rfl) (by kernel_rfl))
       ·refine cF r_11_2 hb_6 ?_
        refine sN ?_
        refine rg0 hc 3 [(2, I size2), (3, .bool closed3), (4, .ra 1 0), (18, .bool (t0.fN != 0))] [(1, bTerm t0)] ?_
        refine seqQ_norm ?_
        rcases itesome h with ⟨hb_10, h⟩ | ⟨hb_10, h⟩
        ·refine cT ((t0.fN != 0)) hb_10 ?_
         refine sN ?_
         refine rg0 hc 1 [(8, .bool false)] [] ?_
         refine seqQ_norm ?_
         refine Wp.retN (by kernel_rfl) ?_
         obtain rfl := Option.some.inj h
         exact RetE.ret (fl := [true]) (by kernel_rfl)
        ·refine cF ((t0.fN != 0)) hb_10 ?_
         refine Wp.skipN (by kernel_rfl) ?_
         obtain rfl := Option.some.inj h
         exact Into.view (fun a w hv => SRx.renL [] hv (by kernel_rfl) (by kernel_rfl) (by kernel_rfl))
      rcases fl with ⟨⟩ | r
      ·refine Wp.into (x := .normal) (mkS [(2, I size2), (3, .bool closed3), (4, .ra 1 0)] [(1, bTerm t0)]) hF ?_
       obtain rfl := Option.some.inj h
       exact Into.mk
      ·refine Wp.mono hF ?_
       rintro _ _ ⟨rfl, hfin⟩
       obtain rfl := Option.some.inj h
       exact ⟨rfl, hfin⟩
    rcases fl with ⟨⟩ | r
    ·refine Wp.into (x := .normal) (mkS [(2, I size2), (3, .bool closed3), (4, .ra 1 0)] [(1, bTerm t0)]) hF ?_
     obtain rfl := Option.some.inj h
     exact Into.mk
    ·refine Wp.mono hF ?_
     rintro _ _ ⟨rfl, hfin⟩
     obtain rfl := Option.some.inj h
     exact ⟨rfl, hfin⟩
  rcases fl with ⟨⟩ | r
  ·refine Wp.into (x := .normal) (mkS [(2, I size2), (3, .bool closed3), (4, .ra 1 0)] [(1, bTerm t0)]) hF ?_
   refine blockQ_norm ?_
   refine seqQ_norm ?_
   refine sN ?_
   refine sN ?_
   obtain ⟨r_14_2, hr_14_2, h⟩ := bsome h
   refine rg hc none [oN, oN, oc (.bool r_14_2), oN] [(2, I size2), (3, .bool closed3), (4, .ra 1 0), (61, .bool (!r_14_2))] [(1, bTerm t0)] (ai (spec_l2Typed_s _ _ hr_14_2) (ai bod_164 (ai (oi (.bool r_14_2)) trivial))) ?_
   refine seqQ_norm ?_
   rcases itesome h with ⟨hb_14, h⟩ | ⟨hb_14, h⟩
   ·refine cF (!r_14_2) (nF hb_14) ?_
    refine Wp.skipN (by kernel_rfl) ?_
    refine seqQ_norm ?_
    refine sN ?_
    obtain ⟨v_15, hj_16, h⟩ := bsome h
    refine Wp.into (x := .normal) (mkS [(8, .bool v_15)] []) ?_ ?_
    ·replace h := hj_16
     obtain ⟨r_16_2, hr_16_2, h⟩ := bsome h
     rcases itesome h with ⟨hb_16_0, h⟩ | ⟨hb_16_0, h⟩
     ·obtain ⟨r_16_8, hr_16_8, h⟩ := bsome h
      refine rg hc none [oN, oN, oc (.bool r_16_2), oN, oN, oN, oN, oN, oc (.bool r_16_8), oT, oN] [(8, .bool r_16_8)] [] (ai (spec_l2Type_s _ _ hr_16_2) (ai bod_86 (ai (oi (.bool r_16_2)) (ar 5 hb_16_0 (ai (spec_l2Graded_s _ _ hr_16_8) (ai bod_87 (ai (oi (.bool r_16_8)) (ai hb_16_0 trivial)))))))) ?_
      obtain rfl := Option.some.inj h
      exact Into.mk
     ·refine rg hc none [oN, oN, oc (.bool r_16_2), oN, o_, o_, o_, o_, o_, oF, oN] [(8, .bool false)] [] (ai (spec_l2Type_s _ _ hr_16_2) (ai bod_86 (ai (oi (.bool r_16_2)) (ar 5 (neT hb_16_0) (ai hb_16_0 trivial))))) ?_
      obtain rfl := Option.some.inj h
      exact Into.mk
    ·clear hj_16
     refine seqQ_norm ?_
     refine Wp.retN (by kernel_rfl) ?_
     obtain rfl := Option.some.inj h
     exact RetQ.ret (fl := [true]) (by kernel_rfl)
   ·refine cT (!r_14_2) (nT hb_14) ?_
    refine sN ?_
    refine rg hc none [oN, oN, some (.eqv (.no) ⟨[(64, I (t0.fType.length : Int))], [], []⟩), oN, oN] [(8, .bool ((t0.fType.length : Int) == 0))] [] (ai (lenT (d := 64) I t0.fType) trivial) ?_
    refine seqQ_norm ?_
    refine Wp.retN (by kernel_rfl) ?_
    refine seqQ_ret ?_
    obtain rfl := Option.some.inj h
    exact RetQ.ret (fl := [true]) (by kernel_rfl)
  ·refine Wp.mono hF ?_
   rintro _ _ ⟨rfl, hfin⟩
   refine blockQ_ret ?_
   refine seqQ_ret ?_
   obtain rfl := Option.some.inj h
   exact ⟨.inl rfl, hfin⟩
def spec_l2Adds (p : Int × Int) : Option (Int) :=
 match p with
 | (op0, kid1) =>
  (
   if (op0 == 5) = true then
    some ((kid1 == 1))
   else
    some (false)
  ) >>= fun v_1 =>
  if v_1 = true then
   some 2
  else
   (
    if (op0 == 8) = true then
     if (decide (kid1 > 0)) = true then
      some (true)
     else
      if (op0 == 9) = true then
       some (true)
      else
       if (op0 == 12) = true then
        some ((kid1 == 1))
       else
        some (false)
    else
     if (op0 == 9) = true then
      some (true)
     else
      if (op0 == 12) = true then
       some ((kid1 == 1))
      else
       some (false)
   ) >>= fun v_4 =>
   if v_4 = true then
    some 1
   else
    some 0
def M_spec_l2Adds (p : Int × Int) (r : Int) : Prop :=
 match p with
 | (op0, kid1) => FnSound Try.prog 134 [I op0, I kid1] (I r) []
theorem spec_l2Adds_s : ∀ p r, spec_l2Adds p = some r → M_spec_l2Adds p r := by
 rintro ⟨op0, kid1⟩ r h
 unfold spec_l2Adds at h
 show FnSound Try.prog 134 [I op0, I kid1] (I r) []
 refine FnSound.body0 tiok (fn := Try.f134) (code := B134) (by kernel_rfl) (by kernel_rfl) (by kernel_rfl) (by kernel_rfl) (nt := 31) (by kernel_rfl) (by kernel_rfl) (T := [(0, I op0), (1, I kid1)]) (O := []) (by kernel_rfl) (by kernel_rfl) (fun c hc => ?_)
 refine sN ?_
 refine rg0 hc 1 [(0, I op0), (1, I kid1)] [] ?_
 refine seqQ_norm ?_
 refine sN ?_
 refine Wp.blockN (i := 0) (by kernel_rfl) ?_
 refine sN ?_
 obtain ⟨v_1, hj_2, h⟩ := bsome h
 refine Wp.into (x := .normal) (mkS [(0, I op0), (1, I kid1), (5, .bool v_1)] []) ?_ ?_
 ·replace h := hj_2
  rcases itesome h with ⟨hb_1_0, h⟩ | ⟨hb_1_0, h⟩
  ·refine rg hc none [oN, oN, oN, oN, oN, oT, oN] [(0, I op0), (1, I kid1), (5, .bool (kid1 == 1))] [] (ar 3 hb_1_0 trivial) ?_
   obtain rfl := Option.some.inj h
   exact Into.mk
  ·refine rg hc none [oN, oN, oN, o_, o_, oF, oN] [(0, I op0), (1, I kid1), (5, .bool false)] [] (ar 2 (neT hb_1_0) (ai hb_1_0 trivial)) ?_
   obtain rfl := Option.some.inj h
   exact Into.mk
 ·clear hj_2
  refine seqQ_norm ?_
  rcases itesome h with ⟨hb_3, h⟩ | ⟨hb_3, h⟩
  ·refine cT v_1 hb_3 ?_
   refine sN ?_
   refine rg0 hc 1 [(4, I 2)] [] ?_
   refine seqQ_norm ?_
   refine Wp.retN (by kernel_rfl) ?_
   refine blockQ_ret ?_
   refine seqQ_ret ?_
   obtain rfl := Option.some.inj h
   exact RetQ.ret (fl := [true]) (by kernel_rfl)
  ·refine cF v_1 hb_3 ?_
   refine sN ?_
   obtain ⟨v_4, hj_5, h⟩ := bsome h
   refine Wp.into (x := .normal) (mkS [(12, .bool v_4)] []) ?_ ?_
   ·replace h := hj_5
    rcases itesome h with ⟨hb_3_0, h⟩ | ⟨hb_3_0, h⟩
    ·rcases itesome h with ⟨hb_3_1, h⟩ | ⟨hb_3_1, h⟩
     ·refine rg hc none [oN, oN, oN, oN, oN, oT, oN, o_, o_, oT, oN, o_, o_, o_, o_, o_, o_, oT, oN] [(12, .bool true)] [] (ar 3 hb_3_0 (ar 2 (neF hb_3_1) (ai hb_3_1 (ar 4 nf (ai tt trivial))))) ?_
      obtain rfl := Option.some.inj h
      exact Into.mk
     ·rcases itesome h with ⟨hb_3_2, h⟩ | ⟨hb_3_2, h⟩
      ·refine rg hc none [oN, oN, oN, oN, oN, oT, oN, oN, oN, oF, oN, o_, o_, o_, o_, o_, o_, oT, oN] [(12, .bool true)] [] (ar 3 hb_3_0 (ar 3 hb_3_1 (ar 4 (neF hb_3_2) (ai hb_3_2 trivial)))) ?_
       obtain rfl := Option.some.inj h
       exact Into.mk
      ·rcases itesome h with ⟨hb_3_3, h⟩ | ⟨hb_3_3, h⟩
       ·refine rg hc none [oN, oN, oN, oN, oN, oT, oN, oN, oN, oF, oN, oN, oN, oN, oN, oN, oT, oF, oN] [(12, .bool (kid1 == 1))] [] (ar 3 hb_3_0 (ar 3 hb_3_1 (ar 3 hb_3_2 (ar 2 hb_3_3 (ai hb_3_2 (ai hb_3_3 (ai hb_3_2 trivial))))))) ?_
        obtain rfl := Option.some.inj h
        exact Into.mk
       ·refine rg hc none [oN, oN, oN, oN, oN, oT, oN, oN, oN, oF, oN, oN, oN, oN, o_, o_, oF, oF, oN] [(12, .bool false)] [] (ar 3 hb_3_0 (ar 3 hb_3_1 (ar 3 hb_3_2 (ar 2 (neT hb_3_3) (ai hb_3_2 (ai hb_3_3 (ai hb_3_2 trivial))))))) ?_
        obtain rfl := Option.some.inj h
        exact Into.mk
    ·rcases itesome h with ⟨hb_3_1, h⟩ | ⟨hb_3_1, h⟩
     ·refine rg hc none [oN, oN, oN, o_, o_, oF, oN, oN, oN, oF, oN, o_, o_, o_, o_, o_, o_, oT, oN] [(12, .bool true)] [] (ar 2 (neT hb_3_0) (ai hb_3_0 (ar 3 (rfl : false = false) (ar 4 (neF hb_3_1) (ai hb_3_1 trivial))))) ?_
      obtain rfl := Option.some.inj h
      exact Into.mk
     ·rcases itesome h with ⟨hb_3_2, h⟩ | ⟨hb_3_2, h⟩
      ·refine rg hc none [oN, oN, oN, o_, o_, oF, oN, oN, oN, oF, oN, oN, oN, oN, oN, oN, oT, oF, oN] [(12, .bool (kid1 == 1))] [] (ar 2 (neT hb_3_0) (ai hb_3_0 (ar 3 (rfl : false = false) (ar 3 hb_3_1 (ar 2 hb_3_2 (ai hb_3_1 (ai hb_3_2 (ai hb_3_1 trivial)))))))) ?_
       obtain rfl := Option.some.inj h
       exact Into.mk
      ·refine rg hc none [oN, oN, oN, o_, o_, oF, oN, oN, oN, oF, oN, oN, oN, oN, o_, o_, oF, oF, oN] [(12, .bool false)] [] (ar 2 (neT hb_3_0) (ai hb_3_0 (ar 3 (rfl : false = false) (ar 3 hb_3_1 (ar 2 (neT hb_3_2) (ai hb_3_1 (ai hb_3_2 (ai hb_3_1 trivial)))))))) ?_
       obtain rfl := Option.some.inj h
       exact Into.mk
   ·clear hj_5
    refine seqQ_norm ?_
    rcases itesome h with ⟨hb_6, h⟩ | ⟨hb_6, h⟩
    ·refine cT v_4 hb_6 ?_
     refine sN ?_
     refine rg0 hc 1 [(4, I 1)] [] ?_
     refine seqQ_norm ?_
     refine Wp.retN (by kernel_rfl) ?_
     refine blockQ_ret ?_
     refine seqQ_ret ?_
     obtain rfl := Option.some.inj h
     exact RetQ.ret (fl := [true]) (by kernel_rfl)
    ·refine cF v_4 hb_6 ?_
     refine Wp.skipN (by kernel_rfl) ?_
     refine blockQ_norm ?_
     refine seqQ_norm ?_
     refine sN ?_
     refine rg0 hc 1 [(4, I 0)] [] ?_
     refine seqQ_norm ?_
     refine Wp.retN (by kernel_rfl) ?_
     obtain rfl := Option.some.inj h
     exact RetQ.ret (fl := [true]) (by kernel_rfl)
def spec_l2Term_F1 (c : Ctx) : (Unit) ⊕ (Bool) → Exit → AState → Prop
 | .inl _ => Into c (.exit 0) (mkS [] [])
 | .inr r => RetE TIx Try.f85 [] (.bool r)
mutual
def spec_l2Term (p : GTerm × Int × Int × Bool) : Option (Bool) :=
 match p with
 | (t0, n1, size2, closed3) =>
  (spec_l2Node (t0, n1, size2, closed3)) >>= fun r_1_4 =>
  if r_1_4 = true then
   (spec_l2Term_l0 (t0, n1, size2, closed3, 0)) >>= fun fl => match fl with
   | .inl () =>
    some true
   | .inr r =>
    some r
  else
   some false
 partial_fixpoint
def spec_l2Term_l0 (p : GTerm × Int × Int × Bool × Int) : Option ((Unit) ⊕ (Bool)) :=
 match p with
 | (t0, n1, size2, closed3, k_4) =>
  if (decide (k_4 < (t0.fKids.length : Int))) = true then
   (idx t0.fKids k_4) >>= fun e_6_3 =>
   (spec_l2Adds (t0.fOp, k_4)) >>= fun r_6_9 =>
   (spec_l2Term (e_6_3, (wr (n1 + r_6_9)), size2, closed3)) >>= fun r_6_13 =>
   if r_6_13 = true then
    spec_l2Term_l0 (t0, n1, size2, closed3, (wr (k_4 + 1)))
   else
    some (.inr false)
  else
   some (.inl ())
 partial_fixpoint
end
def M_spec_l2Term (p : GTerm × Int × Int × Bool) (r : Bool) : Prop :=
 match p with
 | (t0, n1, size2, closed3) => FnSound Try.prog 85 [aTerm t0, I n1, I size2, .bool closed3] (.bool r) []
def M_spec_l2Term_l0 (p : GTerm × Int × Int × Bool × Int) (fl : (Unit) ⊕ (Bool)) : Prop :=
 match p with
 | (t0, n1, size2, closed3, k_4) => ∀ c : Ctx, c.nt = 38 → WpL Try.prog c (cl (cl (cr (cl (cr (cr B85)))))) (spec_l2Term_F1 c fl) (mkS [(1, I n1), (2, I size2), (3, .bool closed3), (4, .ra 1 0), (9, I k_4)] [(1, bTerm t0)])
theorem spec_l2Term_all : (∀ p r, spec_l2Term p = some r → M_spec_l2Term p r) ∧ (∀ p r, spec_l2Term_l0 p = some r → M_spec_l2Term_l0 p r) := by
 refine spec_l2Term.mutual_partial_correctness M_spec_l2Term M_spec_l2Term_l0 ?_ ?_
 ·rintro spec_l2Term_l0_f spec_l2Term_l0_ih ⟨t0, n1, size2, closed3⟩ r h
  show FnSound Try.prog 85 [aTerm t0, I n1, I size2, .bool closed3] (.bool r) []
  refine FnSound.body0 tiok (fn := Try.f85) (code := B85) (by kernel_rfl) (by kernel_rfl) (by kernel_rfl) (by kernel_rfl) (nt := 38) (by kernel_rfl) (by kernel_rfl) (T := [(0, aTerm t0), (1, I n1), (2, I size2), (3, .bool closed3)]) (O := []) (by kernel_rfl) (by kernel_rfl) (fun c hc => ?_)
  refine sN ?_
  refine rg hc none [some (.new 1), oN] [(1, I n1), (2, I size2), (3, .bool closed3), (4, .ra 1 0)] [(1, bTerm t0)] trivial ?_
  refine seqQ_norm ?_
  refine sN ?_
  refine sN ?_
  obtain ⟨r_1_4, hr_1_4, h⟩ := bsome h
  refine rg hc none [oN, oN, oN, oN, oc (.bool r_1_4), oN] [(1, I n1), (2, I size2), (3, .bool closed3), (4, .ra 1 0), (15, .bool (!r_1_4))] [(1, bTerm t0)] (ai (spec_l2Node_s _ _ hr_1_4) (ai bod_133 (ai (oi (.bool r_1_4)) trivial))) ?_
  refine seqQ_norm ?_
  rcases itesome h with ⟨hb_1, h⟩ | ⟨hb_1, h⟩
  ·refine cF (!r_1_4) (nF hb_1) ?_
   refine Wp.skipN (by kernel_rfl) ?_
   refine seqQ_norm ?_
   refine sN ?_
   refine sN ?_
   refine rg0 hc 1 [(1, I n1), (2, I size2), (3, .bool closed3), (4, .ra 1 0), (9, I 0)] [(1, bTerm t0)] ?_
   refine seqQ_norm ?_
   refine Wp.blockN (i := 0) (by kernel_rfl) ?_
   obtain ⟨fl, hl_7, h⟩ := bsome h
   have hL := spec_l2Term_l0_ih _ _ hl_7 c hc
   refine Wp.loopN (by kernel_rfl) ?_
   rcases fl with ⟨⟩ | r
   ·refine WpL.into (e := (.exit 0)) (mkS [] []) hL ?_
    refine blockQ_hit ?_
    refine seqQ_norm ?_
    refine sN ?_
    refine rg0 hc 1 [(8, .bool true)] [] ?_
    refine seqQ_norm ?_
    refine Wp.retN (by kernel_rfl) ?_
    obtain rfl := Option.some.inj h
    exact RetQ.ret (fl := [true]) (by kernel_rfl)
   ·refine WpL.mono hL ?_
    rintro _ _ ⟨rfl, hfin⟩
    refine blockQ_ret ?_
    refine seqQ_ret ?_
    obtain rfl := Option.some.inj h
    exact ⟨.inl rfl, hfin⟩
  ·refine cT (!r_1_4) (nT hb_1) ?_
   refine sN ?_
   refine rg0 hc 1 [(8, .bool false)] [] ?_
   refine seqQ_norm ?_
   refine Wp.retN (by kernel_rfl) ?_
   refine seqQ_ret ?_
   obtain rfl := Option.some.inj h
   exact RetQ.ret (fl := [true]) (by kernel_rfl)
 ·rintro spec_l2Term_f spec_l2Term_l0_f spec_l2Term_ih spec_l2Term_l0_ih ⟨t0, n1, size2, closed3, k_4⟩ r h
  intro c hc
  show WpL Try.prog c (cl (cl (cr (cl (cr (cr B85)))))) (spec_l2Term_F1 c r) (mkS [(1, I n1), (2, I size2), (3, .bool closed3), (4, .ra 1 0), (9, I k_4)] [(1, bTerm t0)])
  refine WpL.step ?_
  refine sN ?_
  refine sN ?_
  refine rg hc none [oN, oN, oN, some (.eqv (.no) ⟨[(19, I (t0.fKids.length : Int))], [], []⟩), oN] [(1, I n1), (2, I size2), (3, .bool closed3), (4, .ra 1 0), (9, I k_4), (20, .bool (decide (k_4 < (t0.fKids.length : Int))))] [(1, bTerm t0)] (ai (lenT (d := 19) GTerm_S t0.fKids) trivial) ?_
  refine seqQ_norm ?_
  rcases itesome h with ⟨hb_5, h⟩ | ⟨hb_5, h⟩
  ·refine cT ((decide (k_4 < (t0.fKids.length : Int)))) hb_5 ?_
   refine Wp.skipN (by kernel_rfl) ?_
   refine seqQ_norm ?_
   refine sN ?_
   refine Wp.blockN (i := 1) (by kernel_rfl) ?_
   refine sN ?_
   obtain ⟨e_6_3, hi_6_3, h⟩ := bsome h
   obtain ⟨r_6_9, hr_6_9, h⟩ := bsome h
   obtain ⟨r_6_13, hr_6_13, h⟩ := bsome h
   refine rg hc (rx [[0], [1], [0], [3], [4], [0], [0], [0, 6], [0], [0, 6, 7, 8], [0, 5, 6, 7, 8, 9], [0], [0], [13], [14]]) [oN, oN, oN, some (.el (aTerm e_6_3)), oN, oN, oN, oN, oN, oc (I r_6_9), oN, oN, oN, oc (.bool r_6_13), oN] [(1, I n1), (2, I size2), (3, .bool closed3), (4, .ra 1 0), (9, I k_4), (37, .bool (!r_6_13))] [(1, bTerm t0)] (ai (idx_sl (enc := GTerm_S) (x := aTerm e_6_3) hi_6_3 (eq_GTerm_S e_6_3)) (ai (spec_l2Adds_s _ _ hr_6_9) (ai bod_134 (ai (oi (I r_6_9)) (ai (spec_l2Term_ih _ _ hr_6_13) (ai bod_85 (ai (oi (.bool r_6_13)) trivial))))))) ?_
   refine seqQ_norm ?_
   rcases itesome h with ⟨hb_6, h⟩ | ⟨hb_6, h⟩
   ·refine cF (!r_6_13) (nF hb_6) ?_
    refine Wp.skipN (by kernel_rfl) ?_
    refine blockQ_norm ?_
    refine seqQ_norm ?_
    refine rg0 hc 3 [(1, I n1), (2, I size2), (3, .bool closed3), (4, .ra 1 0), (9, I (wr (k_4 + 1)))] [(1, bTerm t0)] ?_
    refine loopQ_norm ?_
    exact (spec_l2Term_l0_ih _ _ h c hc)
   ·refine cT (!r_6_13) (nT hb_6) ?_
    refine sN ?_
    refine rg0 hc 1 [(8, .bool false)] [] ?_
    refine seqQ_norm ?_
    refine Wp.retN (by kernel_rfl) ?_
    refine blockQ_ret ?_
    refine seqQ_ret ?_
    refine loopQ_ret ?_
    obtain rfl := Option.some.inj h
    exact RetE.ret (fl := [true]) (by kernel_rfl)
  ·refine cF ((decide (k_4 < (t0.fKids.length : Int)))) hb_5 ?_
   refine Wp.exitN (i := 0) (by kernel_rfl) ?_
   refine seqQ_exit ?_
   refine loopQ_exit ?_
   obtain rfl := Option.some.inj h
   exact Into.view (fun a w hv => SRx.renL [] hv (by kernel_rfl) (by kernel_rfl) (by kernel_rfl))
theorem spec_l2Term_s : ∀ p r, spec_l2Term p = some r → M_spec_l2Term p r := spec_l2Term_all.1
theorem spec_l2Term_l0_s : ∀ p r, spec_l2Term_l0 p = some r → M_spec_l2Term_l0 p r := spec_l2Term_all.2
def spec_IsJudgment_F1 (c : Ctx) : (Unit) ⊕ (Bool) → Exit → AState → Prop
 | .inl _ => Into c (.exit 0) (mkS [] [])
 | .inr r => RetE TIx Try.f36 [] (.bool r)
def spec_IsJudgment_l0 (p : GSystem × GJudgment × Int) : Option ((Unit) ⊕ (Bool)) :=
 match p with
 | (s0, j1, i_8) =>
  if (decide (i_8 < (j1.fBudgets.length : Int))) = true then
   (
    (idx j1.fBudgets i_8) >>= fun e_6_3 =>
    (spec_l1In (e_6_3, 0, (wr (s0.fSize - 1)))) >>= fun r_6_8 =>
    if r_6_8 = true then
     (idx j1.fCtx i_8) >>= fun e_6_14 =>
     (spec_l2Type e_6_14) >>= fun r_6_16 =>
     if r_6_16 = true then
      (idx j1.fCtx i_8) >>= fun e_6_23 =>
      (spec_l2Graded (e_6_23, s0.fSize, true)) >>= fun r_6_27 =>
      some ((!r_6_27))
     else
      some (true)
    else
     some (true)
   ) >>= fun v_10 =>
   if v_10 = true then
    some (.inr false)
   else
    spec_IsJudgment_l0 (s0, j1, (wr (i_8 + 1)))
  else
   some (.inl ())
 partial_fixpoint
def M_spec_IsJudgment_l0 (p : GSystem × GJudgment × Int) (fl : (Unit) ⊕ (Bool)) : Prop :=
 match p with
 | (s0, j1, i_8) => ∀ c : Ctx, c.nt = 80 → WpL Try.prog c (cl (cl (cr (cl (cr (cr B36)))))) (spec_IsJudgment_F1 c fl) (mkS [(2, .ra 1 0), (3, .ra 2 0), (5, I i_8)] [(1, bSystem s0), (2, bJudgment j1)])
theorem spec_IsJudgment_l0_s : ∀ p r, spec_IsJudgment_l0 p = some r → M_spec_IsJudgment_l0 p r := by
 refine spec_IsJudgment_l0.partial_correctness M_spec_IsJudgment_l0 ?_
 rintro spec_IsJudgment_l0_f spec_IsJudgment_l0_ih ⟨s0, j1, i_8⟩ r h
 intro c hc
 show WpL Try.prog c (cl (cl (cr (cl (cr (cr B36)))))) (spec_IsJudgment_F1 c r) (mkS [(2, .ra 1 0), (3, .ra 2 0), (5, I i_8)] [(1, bSystem s0), (2, bJudgment j1)])
 refine WpL.step ?_
 refine sN ?_
 refine sN ?_
 refine rg hc none [oN, oN, oN, some (.eqv (.no) ⟨[(46, I (j1.fBudgets.length : Int))], [], []⟩), oN] [(2, .ra 1 0), (3, .ra 2 0), (5, I i_8), (47, .bool (decide (i_8 < (j1.fBudgets.length : Int))))] [(1, bSystem s0), (2, bJudgment j1)] (ai (lenT (d := 46) I j1.fBudgets) trivial) ?_
 refine seqQ_norm ?_
 rcases itesome h with ⟨hb_9, h⟩ | ⟨hb_9, h⟩
 ·refine cT ((decide (i_8 < (j1.fBudgets.length : Int)))) hb_9 ?_
  refine Wp.skipN (by kernel_rfl) ?_
  refine seqQ_norm ?_
  refine sN ?_
  refine Wp.blockN (i := 1) (by kernel_rfl) ?_
  refine sN ?_
  obtain ⟨v_10, hj_11, h⟩ := bsome h
  refine Wp.into (x := .normal) (mkS [(2, .ra 1 0), (3, .ra 2 0), (5, I i_8), (79, .bool v_10)] [(1, bSystem s0), (2, bJudgment j1)]) ?_ ?_
  ·replace h := hj_11
   obtain ⟨e_6_3, hi_6_3, h⟩ := bsome h
   obtain ⟨r_6_8, hr_6_8, h⟩ := bsome h
   rcases itesome h with ⟨hb_6_0, h⟩ | ⟨hb_6_0, h⟩
   ·obtain ⟨e_6_14, hi_6_14, h⟩ := bsome h
    obtain ⟨r_6_16, hr_6_16, h⟩ := bsome h
    rcases itesome h with ⟨hb_6_1, h⟩ | ⟨hb_6_1, h⟩
    ·obtain ⟨e_6_23, hi_6_23, h⟩ := bsome h
     obtain ⟨r_6_27, hr_6_27, h⟩ := bsome h
     refine rg hc ah3_0 [oN, oN, oN, some (.el (I e_6_3)), oN, oN, oN, oN, oc (.bool r_6_8), oN, oN, oN, oN, oN, some (.el (sI e_6_14)), oN, oc (.bool r_6_16), oN, oF, oN, oN, oN, oN, some (.el (sI e_6_23)), oN, oN, oN, oc (.bool r_6_27), oN, oF] [(2, .ra 1 0), (3, .ra 2 0), (5, I i_8), (79, .bool (!r_6_27))] [(1, bSystem s0), (2, bJudgment j1)] (ai (ix hi_6_3) (ai (spec_l1In_s _ _ hr_6_8) (ai bod_57 (ai (oi (.bool r_6_8)) (ar 4 (nF hb_6_0) (ai (idx_sl (enc := LI_s) (x := sI e_6_14) hi_6_14 (eq_LI_s e_6_14)) (ar 2 (nF hb_6_0) (ai (spec_l2Type_s _ _ hr_6_16) (ai bod_86 (ai (oi (.bool r_6_16)) (ar 2 (nF hb_6_0) (ar 4 (nF hb_6_1) (ai (idx_sl (enc := LI_s) (x := sI e_6_23) hi_6_23 (eq_LI_s e_6_23)) (ar 4 (nF hb_6_1) (ai (spec_l2Graded_s _ _ hr_6_27) (ai bod_87 (ai (oi (.bool r_6_27)) (ar 2 (nF hb_6_1) trivial)))))))))))))))))) ?_
     obtain rfl := Option.some.inj h
     exact Into.mk
    ·refine rg hc ah3_0 [oN, oN, oN, some (.el (I e_6_3)), oN, oN, oN, oN, oc (.bool r_6_8), oN, oN, oN, oN, oN, some (.el (sI e_6_14)), oN, oc (.bool r_6_16), oN, oF, oN, o_, o_, o_, o_, o_, o_, o_, o_, o_, oT] [(2, .ra 1 0), (3, .ra 2 0), (5, I i_8), (79, .bool true)] [(1, bSystem s0), (2, bJudgment j1)] (ai (ix hi_6_3) (ai (spec_l1In_s _ _ hr_6_8) (ai bod_57 (ai (oi (.bool r_6_8)) (ar 4 (nF hb_6_0) (ai (idx_sl (enc := LI_s) (x := sI e_6_14) hi_6_14 (eq_LI_s e_6_14)) (ar 2 (nF hb_6_0) (ai (spec_l2Type_s _ _ hr_6_16) (ai bod_86 (ai (oi (.bool r_6_16)) (ar 2 (nF hb_6_0) (ar 9 (neF (nT hb_6_1)) (ai (nT hb_6_1) trivial))))))))))))) ?_
     obtain rfl := Option.some.inj h
     exact Into.mk
   ·refine rg hc ah3_0 [oN, oN, oN, some (.el (I e_6_3)), oN, oN, oN, oN, oc (.bool r_6_8), oN, oN, o_, o_, o_, o_, o_, o_, o_, oT, oN, o_, o_, o_, o_, o_, o_, o_, o_, o_, oT] [(2, .ra 1 0), (3, .ra 2 0), (5, I i_8), (79, .bool true)] [(1, bSystem s0), (2, bJudgment j1)] (ai (ix hi_6_3) (ai (spec_l1In_s _ _ hr_6_8) (ai bod_57 (ai (oi (.bool r_6_8)) (ar 7 (neF (nT hb_6_0)) (ai (nT hb_6_0) (ar 9 nf (ai tt trivial)))))))) ?_
    obtain rfl := Option.some.inj h
    exact Into.mk
  ·clear hj_11
   refine seqQ_norm ?_
   rcases itesome h with ⟨hb_12, h⟩ | ⟨hb_12, h⟩
   ·refine cT v_10 hb_12 ?_
    refine sN ?_
    refine rg0 hc 1 [(4, .bool false)] [] ?_
    refine seqQ_norm ?_
    refine Wp.retN (by kernel_rfl) ?_
    refine blockQ_ret ?_
    refine seqQ_ret ?_
    refine loopQ_ret ?_
    obtain rfl := Option.some.inj h
    exact RetE.ret (fl := [true]) (by kernel_rfl)
   ·refine cF v_10 hb_12 ?_
    refine Wp.skipN (by kernel_rfl) ?_
    refine blockQ_norm ?_
    refine seqQ_norm ?_
    refine rg0 hc 3 [(2, .ra 1 0), (3, .ra 2 0), (5, I (wr (i_8 + 1)))] [(1, bSystem s0), (2, bJudgment j1)] ?_
    refine loopQ_norm ?_
    exact (spec_IsJudgment_l0_ih _ _ h c hc)
 ·refine cF ((decide (i_8 < (j1.fBudgets.length : Int)))) hb_9 ?_
  refine Wp.exitN (i := 0) (by kernel_rfl) ?_
  refine seqQ_exit ?_
  refine loopQ_exit ?_
  obtain rfl := Option.some.inj h
  exact Into.view (fun a w hv => SRx.renL [] hv (by kernel_rfl) (by kernel_rfl) (by kernel_rfl))
def spec_IsJudgment (p : GSystem × GJudgment) : Option (Bool) :=
 match p with
 | (s0, j1) =>
  (
   (spec_IsType (s0, j1.fType)) >>= fun r_1_3 =>
   if r_1_3 = true then
    if (decide ((j1.fCtx.length : Int) > 400)) = true then
     some (true)
    else
     if ((j1.fBudgets.length : Int) != (j1.fCtx.length : Int)) = true then
      some (true)
     else
      (spec_l2Left (j1.fTerm, 400)) >>= fun r_1_23 =>
      if (decide (r_1_23 < 0)) = true then
       some (true)
      else
       (spec_l2Term (j1.fTerm, (j1.fCtx.length : Int), s0.fSize, true)) >>= fun r_1_34 =>
       some ((!r_1_34))
   else
    some (true)
  ) >>= fun v_1 =>
  if v_1 = true then
   some false
  else
   (spec_IsJudgment_l0 (s0, j1, 0)) >>= fun fl => match fl with
   | .inl () =>
    some true
   | .inr r =>
    some r
def M_spec_IsJudgment (p : GSystem × GJudgment) (r : Bool) : Prop :=
 match p with
 | (s0, j1) => FnSound Try.prog 36 [aSystem s0, aJudgment j1] (.bool r) []
theorem spec_IsJudgment_s : ∀ p r, spec_IsJudgment p = some r → M_spec_IsJudgment p r := by
 rintro ⟨s0, j1⟩ r h
 unfold spec_IsJudgment at h
 show FnSound Try.prog 36 [aSystem s0, aJudgment j1] (.bool r) []
 refine FnSound.body0 tiok (fn := Try.f36) (code := B36) (by kernel_rfl) (by kernel_rfl) (by kernel_rfl) (by kernel_rfl) (nt := 80) (by kernel_rfl) (by kernel_rfl) (T := [(0, aSystem s0), (1, aJudgment j1)]) (O := []) (by kernel_rfl) (by kernel_rfl) (fun c hc => ?_)
 refine sN ?_
 refine rg hc none [some (.new 1), some (.new 2), oN] [(2, .ra 1 0), (3, .ra 2 0)] [(1, bSystem s0), (2, bJudgment j1)] trivial ?_
 refine seqQ_norm ?_
 refine sN ?_
 refine sN ?_
 obtain ⟨v_1, hj_2, h⟩ := bsome h
 refine Wp.into (x := .normal) (mkS [(2, .ra 1 0), (3, .ra 2 0), (42, .bool v_1)] [(1, bSystem s0), (2, bJudgment j1)]) ?_ ?_
 ·replace h := hj_2
  obtain ⟨r_1_3, hr_1_3, h⟩ := bsome h
  rcases itesome h with ⟨hb_1_0, h⟩ | ⟨hb_1_0, h⟩
  ·rcases itesome h with ⟨hb_1_1, h⟩ | ⟨hb_1_1, h⟩
   ·refine rg hc none [oN, oN, oN, oc (.bool r_1_3), oN, oN, oN, oN, some (.eqv (.no) ⟨[(14, I (j1.fCtx.length : Int))], [], []⟩), oN, oF, oN, o_, o_, o_, o_, o_, o_, o_, oT, oN, o_, o_, o_, o_, oT, oN, o_, o_, o_, o_, o_, o_, o_, o_, o_, oT] [(2, .ra 1 0), (3, .ra 2 0), (42, .bool true)] [(1, bSystem s0), (2, bJudgment j1)] (ai (spec_IsType_s _ _ hr_1_3) (ai bod_44 (ai (oi (.bool r_1_3)) (ar 3 (nF hb_1_0) (ai (lenT (d := 14) LI_s j1.fCtx) (ar 2 (nF hb_1_0) (ar 7 (neF hb_1_1) (ai hb_1_1 (ar 4 nf (ai tt (ar 9 nf (ai tt trivial)))))))))))) ?_
    obtain rfl := Option.some.inj h
    exact Into.mk
   ·rcases itesome h with ⟨hb_1_2, h⟩ | ⟨hb_1_2, h⟩
    ·refine rg hc none [oN, oN, oN, oc (.bool r_1_3), oN, oN, oN, oN, some (.eqv (.no) ⟨[(14, I (j1.fCtx.length : Int))], [], []⟩), oN, oF, oN, oN, oN, some (.eqv (.no) ⟨[(20, I (j1.fBudgets.length : Int))], [], []⟩), oN, oN, some (.eqv (.no) ⟨[(23, I (j1.fCtx.length : Int))], [], []⟩), oN, oF, oN, o_, o_, o_, o_, oT, oN, o_, o_, o_, o_, o_, o_, o_, o_, o_, oT] [(2, .ra 1 0), (3, .ra 2 0), (42, .bool true)] [(1, bSystem s0), (2, bJudgment j1)] (ai (spec_IsType_s _ _ hr_1_3) (ai bod_44 (ai (oi (.bool r_1_3)) (ar 3 (nF hb_1_0) (ai (lenT (d := 14) LI_s j1.fCtx) (ar 2 (nF hb_1_0) (ar 3 hb_1_1 (ai (lenT (d := 20) I j1.fBudgets) (ar 3 hb_1_1 (ai (lenT (d := 23) LI_s j1.fCtx) (ar 2 hb_1_1 (ar 4 (neF hb_1_2) (ai hb_1_2 (ar 9 nf (ai tt trivial))))))))))))))) ?_
     obtain rfl := Option.some.inj h
     exact Into.mk
    ·obtain ⟨r_1_23, hr_1_23, h⟩ := bsome h
     rcases itesome h with ⟨hb_1_3, h⟩ | ⟨hb_1_3, h⟩
     ·refine rg hc none [oN, oN, oN, oc (.bool r_1_3), oN, oN, oN, oN, some (.eqv (.no) ⟨[(14, I (j1.fCtx.length : Int))], [], []⟩), oN, oF, oN, oN, oN, some (.eqv (.no) ⟨[(20, I (j1.fBudgets.length : Int))], [], []⟩), oN, oN, some (.eqv (.no) ⟨[(23, I (j1.fCtx.length : Int))], [], []⟩), oN, oF, oN, oN, oN, oc (I r_1_23), oN, oF, oN, o_, o_, o_, o_, o_, o_, o_, o_, o_, oT] [(2, .ra 1 0), (3, .ra 2 0), (42, .bool true)] [(1, bSystem s0), (2, bJudgment j1)] (ai (spec_IsType_s _ _ hr_1_3) (ai bod_44 (ai (oi (.bool r_1_3)) (ar 3 (nF hb_1_0) (ai (lenT (d := 14) LI_s j1.fCtx) (ar 2 (nF hb_1_0) (ar 3 hb_1_1 (ai (lenT (d := 20) I j1.fBudgets) (ar 3 hb_1_1 (ai (lenT (d := 23) LI_s j1.fCtx) (ar 2 hb_1_1 (ar 3 hb_1_2 (ai (spec_l2Left_s _ _ hr_1_23) (ai bod_84 (ai (oi (I r_1_23)) (ar 2 hb_1_2 (ar 9 (neF hb_1_3) (ai hb_1_3 trivial)))))))))))))))))) ?_
      obtain rfl := Option.some.inj h
      exact Into.mk
     ·obtain ⟨r_1_34, hr_1_34, h⟩ := bsome h
      refine rg hc none [oN, oN, oN, oc (.bool r_1_3), oN, oN, oN, oN, some (.eqv (.no) ⟨[(14, I (j1.fCtx.length : Int))], [], []⟩), oN, oF, oN, oN, oN, some (.eqv (.no) ⟨[(20, I (j1.fBudgets.length : Int))], [], []⟩), oN, oN, some (.eqv (.no) ⟨[(23, I (j1.fCtx.length : Int))], [], []⟩), oN, oF, oN, oN, oN, oc (I r_1_23), oN, oF, oN, oN, oN, oN, oN, some (.eqv (.no) ⟨[(37, I (j1.fCtx.length : Int))], [], []⟩), oN, oN, oc (.bool r_1_34), oN, oF] [(2, .ra 1 0), (3, .ra 2 0), (42, .bool (!r_1_34))] [(1, bSystem s0), (2, bJudgment j1)] (ai (spec_IsType_s _ _ hr_1_3) (ai bod_44 (ai (oi (.bool r_1_3)) (ar 3 (nF hb_1_0) (ai (lenT (d := 14) LI_s j1.fCtx) (ar 2 (nF hb_1_0) (ar 3 hb_1_1 (ai (lenT (d := 20) I j1.fBudgets) (ar 3 hb_1_1 (ai (lenT (d := 23) LI_s j1.fCtx) (ar 2 hb_1_1 (ar 3 hb_1_2 (ai (spec_l2Left_s _ _ hr_1_23) (ai bod_84 (ai (oi (I r_1_23)) (ar 2 hb_1_2 (ar 5 hb_1_3 (ai (lenT (d := 37) LI_s j1.fCtx) (ar 3 hb_1_3 (ai (spec_l2Term_s _ _ hr_1_34) (ai bod_85 (ai (oi (.bool r_1_34)) (ar 2 hb_1_3 trivial))))))))))))))))))))))) ?_
      obtain rfl := Option.some.inj h
      exact Into.mk
  ·refine rg hc none [oN, oN, oN, oc (.bool r_1_3), oN, oN, o_, o_, o_, o_, oT, oN, o_, o_, o_, o_, o_, o_, o_, oT, oN, o_, o_, o_, o_, oT, oN, o_, o_, o_, o_, o_, o_, o_, o_, o_, oT] [(2, .ra 1 0), (3, .ra 2 0), (42, .bool true)] [(1, bSystem s0), (2, bJudgment j1)] (ai (spec_IsType_s _ _ hr_1_3) (ai bod_44 (ai (oi (.bool r_1_3)) (ar 4 (neF (nT hb_1_0)) (ai (nT hb_1_0) (ar 7 nf (ai tt (ar 4 nf (ai tt (ar 9 nf (ai tt trivial))))))))))) ?_
   obtain rfl := Option.some.inj h
   exact Into.mk
 ·clear hj_2
  refine seqQ_norm ?_
  rcases itesome h with ⟨hb_3, h⟩ | ⟨hb_3, h⟩
  ·refine cT v_1 hb_3 ?_
   refine sN ?_
   refine rg0 hc 1 [(4, .bool false)] [] ?_
   refine seqQ_norm ?_
   refine Wp.retN (by kernel_rfl) ?_
   refine seqQ_ret ?_
   obtain rfl := Option.some.inj h
   exact RetQ.ret (fl := [true]) (by kernel_rfl)
  ·refine cF v_1 hb_3 ?_
   refine Wp.skipN (by kernel_rfl) ?_
   refine seqQ_norm ?_
   refine sN ?_
   refine sN ?_
   refine rg0 hc 1 [(2, .ra 1 0), (3, .ra 2 0), (5, I 0)] [(1, bSystem s0), (2, bJudgment j1)] ?_
   refine seqQ_norm ?_
   refine Wp.blockN (i := 0) (by kernel_rfl) ?_
   obtain ⟨fl, hl_13, h⟩ := bsome h
   have hL := spec_IsJudgment_l0_s _ _ hl_13 c hc
   refine Wp.loopN (by kernel_rfl) ?_
   rcases fl with ⟨⟩ | r
   ·refine WpL.into (e := (.exit 0)) (mkS [] []) hL ?_
    refine blockQ_hit ?_
    refine seqQ_norm ?_
    refine sN ?_
    refine rg0 hc 1 [(4, .bool true)] [] ?_
    refine seqQ_norm ?_
    refine Wp.retN (by kernel_rfl) ?_
    obtain rfl := Option.some.inj h
    exact RetQ.ret (fl := [true]) (by kernel_rfl)
   ·refine WpL.mono hL ?_
    rintro _ _ ⟨rfl, hfin⟩
    refine blockQ_ret ?_
    refine seqQ_ret ?_
    obtain rfl := Option.some.inj h
    exact ⟨.inl rfl, hfin⟩
def impl_within (p : Int × Int × Int) : Option (Bool) :=
 match p with
 | (n0, low1, high2) =>
  (
   if (decide (n0 ≥ low1)) = true then
    some ((decide (n0 ≤ high2)))
   else
    some (false)
  ) >>= fun v_1 =>
  some v_1
def M_impl_within (p : Int × Int × Int) (r : Bool) : Prop :=
 match p with
 | (n0, low1, high2) => FnSound Try.prog 64 [I n0, I low1, I high2] (.bool r) []
theorem impl_within_s : ∀ p r, impl_within p = some r → M_impl_within p r := by
 rintro ⟨n0, low1, high2⟩ r h
 unfold impl_within at h
 show FnSound Try.prog 64 [I n0, I low1, I high2] (.bool r) []
 refine FnSound.body0 tiok (fn := Try.f64) (code := B64) (by kernel_rfl) (by kernel_rfl) (by kernel_rfl) (by kernel_rfl) (nt := 15) (by kernel_rfl) (by kernel_rfl) (T := [(0, I n0), (1, I low1), (2, I high2)]) (O := []) (by kernel_rfl) (by kernel_rfl) (fun c hc => ?_)
 refine sN ?_
 refine rg0 hc 1 [(0, I n0), (1, I low1), (2, I high2)] [] ?_
 refine seqQ_norm ?_
 refine sN ?_
 obtain ⟨v_1, hj_2, h⟩ := bsome h
 refine Wp.into (x := .normal) (mkS [(6, .bool v_1)] []) ?_ ?_
 ·replace h := hj_2
  rcases itesome h with ⟨hb_1_0, h⟩ | ⟨hb_1_0, h⟩
  ·refine rg hc none [oN, oN, oN, oN, oN, oN, oN, oT, oN] [(6, .bool (decide (n0 ≤ high2)))] [] (ar 4 hb_1_0 trivial) ?_
   obtain rfl := Option.some.inj h
   exact Into.mk
  ·refine rg hc none [oN, oN, oN, oN, o_, o_, o_, oF, oN] [(6, .bool false)] [] (ar 3 (neT hb_1_0) (ai hb_1_0 trivial)) ?_
   obtain rfl := Option.some.inj h
   exact Into.mk
 ·clear hj_2
  refine seqQ_norm ?_
  refine Wp.retN (by kernel_rfl) ?_
  obtain rfl := Option.some.inj h
  exact RetQ.ret (fl := [true]) (by kernel_rfl)
def impl_Systemhas (p : GSystem × Int) : Option (Bool) :=
 match p with
 | (s0, g1) =>
  (impl_within (g1, 0, (wr (s0.fSize - 1)))) >>= fun r_1_4 =>
  some r_1_4
def M_impl_Systemhas (p : GSystem × Int) (r : Bool) : Prop :=
 match p with
 | (s0, g1) => FnSound Try.prog 117 [aSystem s0, I g1] (.bool r) []
theorem impl_Systemhas_s : ∀ p r, impl_Systemhas p = some r → M_impl_Systemhas p r := by
 rintro ⟨s0, g1⟩ r h
 unfold impl_Systemhas at h
 show FnSound Try.prog 117 [aSystem s0, I g1] (.bool r) []
 refine FnSound.body0 tiok (fn := Try.f117) (code := B117) (by kernel_rfl) (by kernel_rfl) (by kernel_rfl) (by kernel_rfl) (nt := 10) (by kernel_rfl) (by kernel_rfl) (T := [(0, aSystem s0), (1, I g1)]) (O := []) (by kernel_rfl) (by kernel_rfl) (fun c hc => ?_)
 refine sN ?_
 refine rg hc none [some (.new 1), oN] [(1, I g1), (2, .ra 1 0)] [(1, bSystem s0)] trivial ?_
 refine seqQ_norm ?_
 refine sN ?_
 obtain ⟨r_1_4, hr_1_4, h⟩ := bsome h
 refine rg hc none [oN, oN, oN, oN, oc (.bool r_1_4), oN] [(4, .bool r_1_4)] [] (ai (impl_within_s _ _ hr_1_4) (ai bod_64 (ai (oi (.bool r_1_4)) trivial))) ?_
 refine seqQ_norm ?_
 refine Wp.retN (by kernel_rfl) ?_
 obtain rfl := Option.some.inj h
 exact RetQ.ret (fl := [true]) (by kernel_rfl)
def impl_Systemplus (p : GSystem × Int × Int) : Option (Int) :=
 match p with
 | (s0, a1, b2) =>
  (idx s0.fPlus (wr ((wr (a1 * s0.fSize)) + b2))) >>= fun e_1_8 =>
  some e_1_8
def M_impl_Systemplus (p : GSystem × Int × Int) (r : Int) : Prop :=
 match p with
 | (s0, a1, b2) => FnSound Try.prog 137 [aSystem s0, I a1, I b2] (I r) []
theorem impl_Systemplus_s : ∀ p r, impl_Systemplus p = some r → M_impl_Systemplus p r := by
 rintro ⟨s0, a1, b2⟩ r h
 unfold impl_Systemplus at h
 show FnSound Try.prog 137 [aSystem s0, I a1, I b2] (I r) []
 refine FnSound.body0 tiok (fn := Try.f137) (code := B137) (by kernel_rfl) (by kernel_rfl) (by kernel_rfl) (by kernel_rfl) (nt := 17) (by kernel_rfl) (by kernel_rfl) (T := [(0, aSystem s0), (1, I a1), (2, I b2)]) (O := []) (by kernel_rfl) (by kernel_rfl) (fun c hc => ?_)
 refine sN ?_
 refine rg hc none [some (.new 1), oN] [(1, I a1), (2, I b2), (3, .ra 1 0)] [(1, bSystem s0)] trivial ?_
 refine seqQ_norm ?_
 refine sN ?_
 obtain ⟨e_1_8, hi_1_8, h⟩ := bsome h
 refine rg hc none [oN, oN, oN, oN, oN, oN, oN, oN, some (.el (I e_1_8)), oN, oN] [(6, I e_1_8)] [] (ai (ix hi_1_8) trivial) ?_
 refine seqQ_norm ?_
 refine Wp.retN (by kernel_rfl) ?_
 obtain rfl := Option.some.inj h
 exact RetQ.ret (fl := [true]) (by kernel_rfl)
def impl_Systemtimes (p : GSystem × Int × Int) : Option (Int) :=
 match p with
 | (s0, a1, b2) =>
  (idx s0.fTimes (wr ((wr (a1 * s0.fSize)) + b2))) >>= fun e_1_8 =>
  some e_1_8
def M_impl_Systemtimes (p : GSystem × Int × Int) (r : Int) : Prop :=
 match p with
 | (s0, a1, b2) => FnSound Try.prog 138 [aSystem s0, I a1, I b2] (I r) []
theorem impl_Systemtimes_s : ∀ p r, impl_Systemtimes p = some r → M_impl_Systemtimes p r := by
 rintro ⟨s0, a1, b2⟩ r h
 unfold impl_Systemtimes at h
 show FnSound Try.prog 138 [aSystem s0, I a1, I b2] (I r) []
 refine FnSound.body0 tiok (fn := Try.f138) (code := B138) (by kernel_rfl) (by kernel_rfl) (by kernel_rfl) (by kernel_rfl) (nt := 17) (by kernel_rfl) (by kernel_rfl) (T := [(0, aSystem s0), (1, I a1), (2, I b2)]) (O := []) (by kernel_rfl) (by kernel_rfl) (fun c hc => ?_)
 refine sN ?_
 refine rg hc none [some (.new 1), oN] [(1, I a1), (2, I b2), (3, .ra 1 0)] [(1, bSystem s0)] trivial ?_
 refine seqQ_norm ?_
 refine sN ?_
 obtain ⟨e_1_8, hi_1_8, h⟩ := bsome h
 refine rg hc none [oN, oN, oN, oN, oN, oN, oN, oN, some (.el (I e_1_8)), oN, oN] [(6, I e_1_8)] [] (ai (ix hi_1_8) trivial) ?_
 refine seqQ_norm ?_
 refine Wp.retN (by kernel_rfl) ?_
 obtain rfl := Option.some.inj h
 exact RetQ.ret (fl := [true]) (by kernel_rfl)
def impl_Systembelow (p : GSystem × Int × Int) : Option (Bool) :=
 match p with
 | (s0, a1, b2) =>
  (idx s0.fBelow (wr ((wr (a1 * s0.fSize)) + b2))) >>= fun e_1_8 =>
  some e_1_8
def M_impl_Systembelow (p : GSystem × Int × Int) (r : Bool) : Prop :=
 match p with
 | (s0, a1, b2) => FnSound Try.prog 139 [aSystem s0, I a1, I b2] (.bool r) []
theorem impl_Systembelow_s : ∀ p r, impl_Systembelow p = some r → M_impl_Systembelow p r := by
 rintro ⟨s0, a1, b2⟩ r h
 unfold impl_Systembelow at h
 show FnSound Try.prog 139 [aSystem s0, I a1, I b2] (.bool r) []
 refine FnSound.body0 tiok (fn := Try.f139) (code := B139) (by kernel_rfl) (by kernel_rfl) (by kernel_rfl) (by kernel_rfl) (nt := 17) (by kernel_rfl) (by kernel_rfl) (T := [(0, aSystem s0), (1, I a1), (2, I b2)]) (O := []) (by kernel_rfl) (by kernel_rfl) (fun c hc => ?_)
 refine sN ?_
 refine rg hc none [some (.new 1), oN] [(1, I a1), (2, I b2), (3, .ra 1 0)] [(1, bSystem s0)] trivial ?_
 refine seqQ_norm ?_
 refine sN ?_
 obtain ⟨e_1_8, hi_1_8, h⟩ := bsome h
 refine rg hc none [oN, oN, oN, oN, oN, oN, oN, oN, some (.el (.bool e_1_8)), oN, oN] [(6, .bool e_1_8)] [] (ai (idx_sl (enc := AV.bool) (x := .bool e_1_8) hi_1_8 (eq_B e_1_8)) trivial) ?_
 refine seqQ_norm ?_
 refine Wp.retN (by kernel_rfl) ?_
 obtain rfl := Option.some.inj h
 exact RetQ.ret (fl := [true]) (by kernel_rfl)
def impl_Systemjoin_F1 (c : Ctx) (s0 : GSystem) (a1 : Int) (b2 : Int) (g_17 : Int) : Bool → Exit → AState → Prop
 | least_30 => Into c (.exit 2) (mkS [(1, I a1), (2, I b2), (3, .ra 1 0), (7, I g_17), (8, .bool least_30)] [(1, bSystem s0)])
end Go.Am
