/- Functions of the program as pure functions, and that it computes them. Printed by a program of mine (gen.py). -/
import Derived.Test.YtmdfopkcoinfeaaGPOF5
set_option linter.unusedVariables false
set_option linter.unusedSimpArgs false
set_option maxRecDepth 100000
namespace Go.Am
open Go Go.Proofs
def ah6_0 : Option (List (List Nat)) := rh [0, 0, 0, 3, 0, 0, 0, 7, 8, 9, 10, 10, 12, 13, 14, 14, 14, 17, 18, 19, 20, 20, 20, 23, 24, 25, 26, 27, 27, 27, 30, 31, 32]
def ah6_1 : Option (List (List Nat)) := rx [[0], [1], [2], [3], [0], [0, 4], [0, 4, 5], [7], [8], [9]]
def impl_IsSystem_l2 (p : GSystem × Int × Int) : Option ((Unit) ⊕ (Bool)) :=
 match p with
 | (s0, a_40, b_55) =>
  if (decide (b_55 < s0.fSize)) = true then
   (
    (impl_Systemplus (s0, a_40, b_55)) >>= fun r_18_3 =>
    (impl_Systemplus (s0, b_55, a_40)) >>= fun r_18_7 =>
    if (r_18_3 != r_18_7) = true then
     some (true)
    else
     if (a_40 != b_55) = true then
      (impl_Systembelow (s0, a_40, b_55)) >>= fun r_18_17 =>
      if r_18_17 = true then
       (impl_Systembelow (s0, b_55, a_40)) >>= fun r_18_23 =>
       if r_18_23 = true then
        some (true)
       else
        (impl_Systemjoin (s0, a_40, b_55)) >>= fun r_18_30 =>
        some ((decide (r_18_30 < 0)))
      else
       (impl_Systemjoin (s0, a_40, b_55)) >>= fun r_18_30 =>
       some ((decide (r_18_30 < 0)))
     else
      (impl_Systemjoin (s0, a_40, b_55)) >>= fun r_18_30 =>
      some ((decide (r_18_30 < 0)))
   ) >>= fun v_57 =>
   if v_57 = true then
    some (.inr false)
   else
    (impl_IsSystem_l1 (s0, a_40, b_55, 0)) >>= fun fl => match fl with
    | .inl () =>
     impl_IsSystem_l2 (s0, a_40, (wr (b_55 + 1)))
    | .inr r =>
     some (.inr r)
  else
   some (.inl ())
 partial_fixpoint
def M_impl_IsSystem_l2 (p : GSystem × Int × Int) (fl : (Unit) ⊕ (Bool)) : Prop :=
 match p with
 | (s0, a_40, b_55) => ∀ c : Ctx, c.nt = 157 → WpL Try.prog c (cl (cl (cr (cr (cl (cl (cr (cl (cl (cr (cl (cr (cr (cr (cr B83))))))))))))))) (impl_IsSystem_F3 c s0 a_40 fl) (mkS [(1, .ra 1 0), (3, I s0.fSize), (5, I a_40), (6, I b_55)] [(1, bSystem s0)])
theorem impl_IsSystem_l2_s : ∀ p r, impl_IsSystem_l2 p = some r → M_impl_IsSystem_l2 p r := by
 refine impl_IsSystem_l2.partial_correctness M_impl_IsSystem_l2 ?_
 rintro impl_IsSystem_l2_f impl_IsSystem_l2_ih ⟨s0, a_40, b_55⟩ r h
 intro c hc
 show WpL Try.prog c (cl (cl (cr (cr (cl (cl (cr (cl (cl (cr (cl (cr (cr (cr (cr B83))))))))))))))) (impl_IsSystem_F3 c s0 a_40 r) (mkS [(1, .ra 1 0), (3, I s0.fSize), (5, I a_40), (6, I b_55)] [(1, bSystem s0)])
 refine WpL.step ?_
 refine sN ?_
 refine sN ?_
 refine rg0 hc 3 [(1, .ra 1 0), (3, I s0.fSize), (5, I a_40), (6, I b_55), (110, .bool (decide (b_55 < s0.fSize)))] [(1, bSystem s0)] ?_
 refine seqQ_norm ?_
 rcases itesome h with ⟨hb_56, h⟩ | ⟨hb_56, h⟩
 ·refine cT ((decide (b_55 < s0.fSize))) hb_56 ?_
  refine Wp.skipN (by kernel_rfl) ?_
  refine seqQ_norm ?_
  refine sN ?_
  refine Wp.blockN (i := 5) (by kernel_rfl) ?_
  refine sN ?_
  refine sN ?_
  obtain ⟨v_57, hj_58, h⟩ := bsome h
  refine Wp.into (x := .normal) (mkS [(1, .ra 1 0), (3, I s0.fSize), (5, I a_40), (6, I b_55), (145, .bool v_57)] [(1, bSystem s0)]) ?_ ?_
  ·replace h := hj_58
   obtain ⟨r_18_3, hr_18_3, h⟩ := bsome h
   obtain ⟨r_18_7, hr_18_7, h⟩ := bsome h
   rcases itesome h with ⟨hb_18_0, h⟩ | ⟨hb_18_0, h⟩
   ·refine rg hc ah6_0 [oN, oN, oN, oc (I r_18_3), oN, oN, oN, oc (I r_18_7), oN, oN, o_, o_, o_, o_, o_, o_, o_, o_, o_, o_, o_, o_, o_, o_, o_, oT, oN, o_, o_, o_, o_, o_, oT] [(1, .ra 1 0), (3, I s0.fSize), (5, I a_40), (6, I b_55), (145, .bool true)] [(1, bSystem s0)] (ai (impl_Systemplus_s _ _ hr_18_3) (ai bod_118 (ai (oi (I r_18_3)) (ai (impl_Systemplus_s _ _ hr_18_7) (ai bod_118 (ai (oi (I r_18_7)) (ar 7 (neF hb_18_0) (ai hb_18_0 (ar 5 nf (ai tt trivial)))))))))) ?_
    obtain rfl := Option.some.inj h
    exact Into.mk
   ·rcases itesome h with ⟨hb_18_1, h⟩ | ⟨hb_18_1, h⟩
    ·obtain ⟨r_18_17, hr_18_17, h⟩ := bsome h
     rcases itesome h with ⟨hb_18_2, h⟩ | ⟨hb_18_2, h⟩
     ·obtain ⟨r_18_23, hr_18_23, h⟩ := bsome h
      rcases itesome h with ⟨hb_18_3, h⟩ | ⟨hb_18_3, h⟩
      ·refine rg hc ah6_0 [oN, oN, oN, oc (I r_18_3), oN, oN, oN, oc (I r_18_7), oN, oN, oN, oN, oN, oN, oN, oN, oN, oc (.bool r_18_17), oT, oN, oN, oN, oN, oc (.bool r_18_23), oT, oF, oN, o_, o_, o_, o_, o_, oT] [(1, .ra 1 0), (3, I s0.fSize), (5, I a_40), (6, I b_55), (145, .bool true)] [(1, bSystem s0)] (ai (impl_Systemplus_s _ _ hr_18_3) (ai bod_118 (ai (oi (I r_18_3)) (ai (impl_Systemplus_s _ _ hr_18_7) (ai bod_118 (ai (oi (I r_18_7)) (ar 4 hb_18_0 (ar 4 hb_18_1 (ai (impl_Systembelow_s _ _ hr_18_17) (ai bod_120 (ai (oi (.bool r_18_17)) (ai hb_18_0 (ai hb_18_1 (ai hb_18_0 (ar 4 hb_18_2 (ai (impl_Systembelow_s _ _ hr_18_23) (ai bod_120 (ai (oi (.bool r_18_23)) (ai hb_18_0 (ai hb_18_2 (ai hb_18_0 (ar 5 (neF hb_18_3) (ai hb_18_3 trivial))))))))))))))))))))))) ?_
       obtain rfl := Option.some.inj h
       exact Into.mk
      ·obtain ⟨r_18_30, hr_18_30, h⟩ := bsome h
       refine rg hc ah6_0 [oN, oN, oN, oc (I r_18_3), oN, oN, oN, oc (I r_18_7), oN, oN, oN, oN, oN, oN, oN, oN, oN, oc (.bool r_18_17), oT, oN, oN, oN, oN, oc (.bool r_18_23), oT, oF, oN, oN, oN, oN, oc (I r_18_30), oN, oF] [(1, .ra 1 0), (3, I s0.fSize), (5, I a_40), (6, I b_55), (145, .bool (decide (r_18_30 < 0)))] [(1, bSystem s0)] (ai (impl_Systemplus_s _ _ hr_18_3) (ai bod_118 (ai (oi (I r_18_3)) (ai (impl_Systemplus_s _ _ hr_18_7) (ai bod_118 (ai (oi (I r_18_7)) (ar 4 hb_18_0 (ar 4 hb_18_1 (ai (impl_Systembelow_s _ _ hr_18_17) (ai bod_120 (ai (oi (.bool r_18_17)) (ai hb_18_0 (ai hb_18_1 (ai hb_18_0 (ar 4 hb_18_2 (ai (impl_Systembelow_s _ _ hr_18_23) (ai bod_120 (ai (oi (.bool r_18_23)) (ai hb_18_0 (ai hb_18_2 (ai hb_18_0 (ar 4 hb_18_3 (ai (impl_Systemjoin_s _ _ hr_18_30) (ai bod_121 (ai (oi (I r_18_30)) (ar 2 hb_18_3 trivial)))))))))))))))))))))))))) ?_
       obtain rfl := Option.some.inj h
       exact Into.mk
     ·obtain ⟨r_18_30, hr_18_30, h⟩ := bsome h
      refine rg hc ah6_0 [oN, oN, oN, oc (I r_18_3), oN, oN, oN, oc (I r_18_7), oN, oN, oN, oN, oN, oN, oN, oN, oN, oc (.bool r_18_17), oT, oN, o_, o_, o_, o_, oF, oF, oN, oN, oN, oN, oc (I r_18_30), oN, oF] [(1, .ra 1 0), (3, I s0.fSize), (5, I a_40), (6, I b_55), (145, .bool (decide (r_18_30 < 0)))] [(1, bSystem s0)] (ai (impl_Systemplus_s _ _ hr_18_3) (ai bod_118 (ai (oi (I r_18_3)) (ai (impl_Systemplus_s _ _ hr_18_7) (ai bod_118 (ai (oi (I r_18_7)) (ar 4 hb_18_0 (ar 4 hb_18_1 (ai (impl_Systembelow_s _ _ hr_18_17) (ai bod_120 (ai (oi (.bool r_18_17)) (ai hb_18_0 (ai hb_18_1 (ai hb_18_0 (ar 4 (neT hb_18_2) (ai hb_18_0 (ai hb_18_2 (ai hb_18_0 (ar 4 (rfl : false = false) (ai (impl_Systemjoin_s _ _ hr_18_30) (ai bod_121 (ai (oi (I r_18_30)) (ar 2 (rfl : false = false) trivial))))))))))))))))))))))) ?_
      obtain rfl := Option.some.inj h
      exact Into.mk
    ·obtain ⟨r_18_30, hr_18_30, h⟩ := bsome h
     refine rg hc ah6_0 [oN, oN, oN, oc (I r_18_3), oN, oN, oN, oc (I r_18_7), oN, oN, oN, oN, oN, oN, o_, o_, o_, o_, oF, oN, o_, o_, o_, o_, oF, oF, oN, oN, oN, oN, oc (I r_18_30), oN, oF] [(1, .ra 1 0), (3, I s0.fSize), (5, I a_40), (6, I b_55), (145, .bool (decide (r_18_30 < 0)))] [(1, bSystem s0)] (ai (impl_Systemplus_s _ _ hr_18_3) (ai bod_118 (ai (oi (I r_18_3)) (ai (impl_Systemplus_s _ _ hr_18_7) (ai bod_118 (ai (oi (I r_18_7)) (ar 4 hb_18_0 (ar 4 (neT hb_18_1) (ai hb_18_0 (ai hb_18_1 (ai hb_18_0 (ar 4 (neT (rfl : false = false)) (ai hb_18_0 (ai (rfl : false = false) (ai hb_18_0 (ar 4 (rfl : false = false) (ai (impl_Systemjoin_s _ _ hr_18_30) (ai bod_121 (ai (oi (I r_18_30)) (ar 2 (rfl : false = false) trivial)))))))))))))))))))) ?_
     obtain rfl := Option.some.inj h
     exact Into.mk
  ·clear hj_58
   refine seqQ_norm ?_
   rcases itesome h with ⟨hb_59, h⟩ | ⟨hb_59, h⟩
   ·refine cT v_57 hb_59 ?_
    refine sN ?_
    refine rg0 hc 1 [(2, .bool false)] [] ?_
    refine seqQ_norm ?_
    refine Wp.retN (by kernel_rfl) ?_
    refine seqQ_ret ?_
    refine blockQ_ret ?_
    refine seqQ_ret ?_
    refine loopQ_ret ?_
    obtain rfl := Option.some.inj h
    exact RetE.ret (fl := [true]) (by kernel_rfl)
   ·refine cF v_57 hb_59 ?_
    refine Wp.skipN (by kernel_rfl) ?_
    refine seqQ_norm ?_
    refine sN ?_
    refine rg0 hc 1 [(1, .ra 1 0), (3, I s0.fSize), (5, I a_40), (6, I b_55), (7, I 0)] [(1, bSystem s0)] ?_
    refine seqQ_norm ?_
    refine Wp.blockN (i := 6) (by kernel_rfl) ?_
    obtain ⟨fl, hl_65, h⟩ := bsome h
    have hL := impl_IsSystem_l1_s _ _ hl_65 c hc
    refine Wp.loopN (by kernel_rfl) ?_
    rcases fl with ⟨⟩ | r
    ·refine WpL.into (e := (.exit 6)) (mkS [(1, .ra 1 0), (3, I s0.fSize), (5, I a_40), (6, I b_55)] [(1, bSystem s0)]) hL ?_
     refine blockQ_hit ?_
     refine blockQ_norm ?_
     refine seqQ_norm ?_
     refine rg0 hc 3 [(1, .ra 1 0), (3, I s0.fSize), (5, I a_40), (6, I (wr (b_55 + 1)))] [(1, bSystem s0)] ?_
     refine loopQ_norm ?_
     exact (impl_IsSystem_l2_ih _ _ h c hc)
    ·refine WpL.mono hL ?_
     rintro _ _ ⟨rfl, hfin⟩
     refine blockQ_ret ?_
     refine blockQ_ret ?_
     refine seqQ_ret ?_
     refine loopQ_ret ?_
     obtain rfl := Option.some.inj h
     exact ⟨rfl, hfin⟩
 ·refine cF ((decide (b_55 < s0.fSize))) hb_56 ?_
  refine Wp.exitN (i := 4) (by kernel_rfl) ?_
  refine seqQ_exit ?_
  refine loopQ_exit ?_
  obtain rfl := Option.some.inj h
  exact Into.view (fun a w hv => SRx.renL [] hv (by kernel_rfl) (by kernel_rfl) (by kernel_rfl))
def impl_IsSystem_F4 (c : Ctx) : (Unit) ⊕ (Bool) → Exit → AState → Prop
 | .inl _ => Into c (.exit 2) (mkS [] [])
 | .inr r => RetE TIx Try.f83 [] (.bool r)
def impl_IsSystem_l3 (p : GSystem × Int) : Option ((Unit) ⊕ (Bool)) :=
 match p with
 | (s0, a_40) =>
  if (decide (a_40 < s0.fSize)) = true then
   (
    (impl_Systemplus (s0, 0, a_40)) >>= fun r_13_2 =>
    if (r_13_2 != a_40) = true then
     some (true)
    else
     (impl_Systemtimes (s0, 1, a_40)) >>= fun r_13_8 =>
     if (r_13_8 != a_40) = true then
      some (true)
     else
      (impl_Systemtimes (s0, a_40, 1)) >>= fun r_13_15 =>
      if (r_13_15 != a_40) = true then
       some (true)
      else
       (impl_Systemtimes (s0, 0, a_40)) >>= fun r_13_22 =>
       if (r_13_22 != 0) = true then
        some (true)
       else
        (impl_Systemtimes (s0, a_40, 0)) >>= fun r_13_28 =>
        if (r_13_28 != 0) = true then
         some (true)
        else
         (impl_Systembelow (s0, a_40, a_40)) >>= fun r_13_35 =>
         some ((!r_13_35))
   ) >>= fun v_42 =>
   if v_42 = true then
    some (.inr false)
   else
    (impl_IsSystem_l2 (s0, a_40, 0)) >>= fun fl => match fl with
    | .inl () =>
     impl_IsSystem_l3 (s0, (wr (a_40 + 1)))
    | .inr r =>
     some (.inr r)
  else
   some (.inl ())
 partial_fixpoint
def M_impl_IsSystem_l3 (p : GSystem × Int) (fl : (Unit) ⊕ (Bool)) : Prop :=
 match p with
 | (s0, a_40) => ∀ c : Ctx, c.nt = 157 → WpL Try.prog c (cl (cl (cr (cl (cr (cr (cr (cr B83)))))))) (impl_IsSystem_F4 c fl) (mkS [(1, .ra 1 0), (3, I s0.fSize), (5, I a_40)] [(1, bSystem s0)])
theorem impl_IsSystem_l3_s : ∀ p r, impl_IsSystem_l3 p = some r → M_impl_IsSystem_l3 p r := by
 refine impl_IsSystem_l3.partial_correctness M_impl_IsSystem_l3 ?_
 rintro impl_IsSystem_l3_f impl_IsSystem_l3_ih ⟨s0, a_40⟩ r h
 intro c hc
 show WpL Try.prog c (cl (cl (cr (cl (cr (cr (cr (cr B83)))))))) (impl_IsSystem_F4 c r) (mkS [(1, .ra 1 0), (3, I s0.fSize), (5, I a_40)] [(1, bSystem s0)])
 refine WpL.step ?_
 refine sN ?_
 refine sN ?_
 refine rg0 hc 3 [(1, .ra 1 0), (3, I s0.fSize), (5, I a_40), (67, .bool (decide (a_40 < s0.fSize)))] [(1, bSystem s0)] ?_
 refine seqQ_norm ?_
 rcases itesome h with ⟨hb_41, h⟩ | ⟨hb_41, h⟩
 ·refine cT ((decide (a_40 < s0.fSize))) hb_41 ?_
  refine Wp.skipN (by kernel_rfl) ?_
  refine seqQ_norm ?_
  refine sN ?_
  refine Wp.blockN (i := 3) (by kernel_rfl) ?_
  refine sN ?_
  refine sN ?_
  obtain ⟨v_42, hj_43, h⟩ := bsome h
  refine Wp.into (x := .normal) (mkS [(1, .ra 1 0), (3, I s0.fSize), (5, I a_40), (107, .bool v_42)] [(1, bSystem s0)]) ?_ ?_
  ·replace h := hj_43
   obtain ⟨r_13_2, hr_13_2, h⟩ := bsome h
   rcases itesome h with ⟨hb_13_0, h⟩ | ⟨hb_13_0, h⟩
   ·refine rg hc none [oN, oN, oc (I r_13_2), oN, oN, oN, o_, o_, o_, o_, o_, oT, oN, o_, o_, o_, o_, o_, oT, oN, o_, o_, o_, o_, oT, oN, o_, o_, o_, o_, oT, oN, o_, o_, o_, o_, o_, oT] [(1, .ra 1 0), (3, I s0.fSize), (5, I a_40), (107, .bool true)] [(1, bSystem s0)] (ai (impl_Systemplus_s _ _ hr_13_2) (ai bod_118 (ai (oi (I r_13_2)) (ar 5 (neF hb_13_0) (ai hb_13_0 (ar 5 nf (ai tt (ar 4 nf (ai tt (ar 4 nf (ai tt (ar 5 nf (ai tt trivial))))))))))))) ?_
    obtain rfl := Option.some.inj h
    exact Into.mk
   ·obtain ⟨r_13_8, hr_13_8, h⟩ := bsome h
    rcases itesome h with ⟨hb_13_1, h⟩ | ⟨hb_13_1, h⟩
    ·refine rg hc none [oN, oN, oc (I r_13_2), oN, oN, oN, oN, oN, oc (I r_13_8), oN, oN, oF, oN, o_, o_, o_, o_, o_, oT, oN, o_, o_, o_, o_, oT, oN, o_, o_, o_, o_, oT, oN, o_, o_, o_, o_, o_, oT] [(1, .ra 1 0), (3, I s0.fSize), (5, I a_40), (107, .bool true)] [(1, bSystem s0)] (ai (impl_Systemplus_s _ _ hr_13_2) (ai bod_118 (ai (oi (I r_13_2)) (ar 3 hb_13_0 (ai (impl_Systemtimes_s _ _ hr_13_8) (ai bod_119 (ai (oi (I r_13_8)) (ar 3 hb_13_0 (ar 5 (neF hb_13_1) (ai hb_13_1 (ar 4 nf (ai tt (ar 4 nf (ai tt (ar 5 nf (ai tt trivial)))))))))))))))) ?_
     obtain rfl := Option.some.inj h
     exact Into.mk
    ·obtain ⟨r_13_15, hr_13_15, h⟩ := bsome h
     rcases itesome h with ⟨hb_13_2, h⟩ | ⟨hb_13_2, h⟩
     ·refine rg hc none [oN, oN, oc (I r_13_2), oN, oN, oN, oN, oN, oc (I r_13_8), oN, oN, oF, oN, oN, oN, oc (I r_13_15), oN, oN, oF, oN, o_, o_, o_, o_, oT, oN, o_, o_, o_, o_, oT, oN, o_, o_, o_, o_, o_, oT] [(1, .ra 1 0), (3, I s0.fSize), (5, I a_40), (107, .bool true)] [(1, bSystem s0)] (ai (impl_Systemplus_s _ _ hr_13_2) (ai bod_118 (ai (oi (I r_13_2)) (ar 3 hb_13_0 (ai (impl_Systemtimes_s _ _ hr_13_8) (ai bod_119 (ai (oi (I r_13_8)) (ar 3 hb_13_0 (ar 3 hb_13_1 (ai (impl_Systemtimes_s _ _ hr_13_15) (ai bod_119 (ai (oi (I r_13_15)) (ar 3 hb_13_1 (ar 4 (neF hb_13_2) (ai hb_13_2 (ar 4 nf (ai tt (ar 5 nf (ai tt trivial))))))))))))))))))) ?_
      obtain rfl := Option.some.inj h
      exact Into.mk
     ·obtain ⟨r_13_22, hr_13_22, h⟩ := bsome h
      rcases itesome h with ⟨hb_13_3, h⟩ | ⟨hb_13_3, h⟩
      ·refine rg hc none [oN, oN, oc (I r_13_2), oN, oN, oN, oN, oN, oc (I r_13_8), oN, oN, oF, oN, oN, oN, oc (I r_13_15), oN, oN, oF, oN, oN, oN, oc (I r_13_22), oN, oF, oN, o_, o_, o_, o_, oT, oN, o_, o_, o_, o_, o_, oT] [(1, .ra 1 0), (3, I s0.fSize), (5, I a_40), (107, .bool true)] [(1, bSystem s0)] (ai (impl_Systemplus_s _ _ hr_13_2) (ai bod_118 (ai (oi (I r_13_2)) (ar 3 hb_13_0 (ai (impl_Systemtimes_s _ _ hr_13_8) (ai bod_119 (ai (oi (I r_13_8)) (ar 3 hb_13_0 (ar 3 hb_13_1 (ai (impl_Systemtimes_s _ _ hr_13_15) (ai bod_119 (ai (oi (I r_13_15)) (ar 3 hb_13_1 (ar 3 hb_13_2 (ai (impl_Systemtimes_s _ _ hr_13_22) (ai bod_119 (ai (oi (I r_13_22)) (ar 2 hb_13_2 (ar 4 (neF hb_13_3) (ai hb_13_3 (ar 5 nf (ai tt trivial)))))))))))))))))))))) ?_
       obtain rfl := Option.some.inj h
       exact Into.mk
      ·obtain ⟨r_13_28, hr_13_28, h⟩ := bsome h
       rcases itesome h with ⟨hb_13_4, h⟩ | ⟨hb_13_4, h⟩
       ·refine rg hc none [oN, oN, oc (I r_13_2), oN, oN, oN, oN, oN, oc (I r_13_8), oN, oN, oF, oN, oN, oN, oc (I r_13_15), oN, oN, oF, oN, oN, oN, oc (I r_13_22), oN, oF, oN, oN, oN, oc (I r_13_28), oN, oF, oN, o_, o_, o_, o_, o_, oT] [(1, .ra 1 0), (3, I s0.fSize), (5, I a_40), (107, .bool true)] [(1, bSystem s0)] (ai (impl_Systemplus_s _ _ hr_13_2) (ai bod_118 (ai (oi (I r_13_2)) (ar 3 hb_13_0 (ai (impl_Systemtimes_s _ _ hr_13_8) (ai bod_119 (ai (oi (I r_13_8)) (ar 3 hb_13_0 (ar 3 hb_13_1 (ai (impl_Systemtimes_s _ _ hr_13_15) (ai bod_119 (ai (oi (I r_13_15)) (ar 3 hb_13_1 (ar 3 hb_13_2 (ai (impl_Systemtimes_s _ _ hr_13_22) (ai bod_119 (ai (oi (I r_13_22)) (ar 2 hb_13_2 (ar 3 hb_13_3 (ai (impl_Systemtimes_s _ _ hr_13_28) (ai bod_119 (ai (oi (I r_13_28)) (ar 2 hb_13_3 (ar 5 (neF hb_13_4) (ai hb_13_4 trivial))))))))))))))))))))))))) ?_
        obtain rfl := Option.some.inj h
        exact Into.mk
       ·obtain ⟨r_13_35, hr_13_35, h⟩ := bsome h
        refine rg hc none [oN, oN, oc (I r_13_2), oN, oN, oN, oN, oN, oc (I r_13_8), oN, oN, oF, oN, oN, oN, oc (I r_13_15), oN, oN, oF, oN, oN, oN, oc (I r_13_22), oN, oF, oN, oN, oN, oc (I r_13_28), oN, oF, oN, oN, oN, oN, oc (.bool r_13_35), oN, oF] [(1, .ra 1 0), (3, I s0.fSize), (5, I a_40), (107, .bool (!r_13_35))] [(1, bSystem s0)] (ai (impl_Systemplus_s _ _ hr_13_2) (ai bod_118 (ai (oi (I r_13_2)) (ar 3 hb_13_0 (ai (impl_Systemtimes_s _ _ hr_13_8) (ai bod_119 (ai (oi (I r_13_8)) (ar 3 hb_13_0 (ar 3 hb_13_1 (ai (impl_Systemtimes_s _ _ hr_13_15) (ai bod_119 (ai (oi (I r_13_15)) (ar 3 hb_13_1 (ar 3 hb_13_2 (ai (impl_Systemtimes_s _ _ hr_13_22) (ai bod_119 (ai (oi (I r_13_22)) (ar 2 hb_13_2 (ar 3 hb_13_3 (ai (impl_Systemtimes_s _ _ hr_13_28) (ai bod_119 (ai (oi (I r_13_28)) (ar 2 hb_13_3 (ar 4 hb_13_4 (ai (impl_Systembelow_s _ _ hr_13_35) (ai bod_120 (ai (oi (.bool r_13_35)) (ar 2 hb_13_4 trivial)))))))))))))))))))))))))))) ?_
        obtain rfl := Option.some.inj h
        exact Into.mk
  ·clear hj_43
   refine seqQ_norm ?_
   rcases itesome h with ⟨hb_44, h⟩ | ⟨hb_44, h⟩
   ·refine cT v_42 hb_44 ?_
    refine sN ?_
    refine rg0 hc 1 [(2, .bool false)] [] ?_
    refine seqQ_norm ?_
    refine Wp.retN (by kernel_rfl) ?_
    refine seqQ_ret ?_
    refine blockQ_ret ?_
    refine seqQ_ret ?_
    refine loopQ_ret ?_
    obtain rfl := Option.some.inj h
    exact RetE.ret (fl := [true]) (by kernel_rfl)
   ·refine cF v_42 hb_44 ?_
    refine Wp.skipN (by kernel_rfl) ?_
    refine seqQ_norm ?_
    refine sN ?_
    refine rg0 hc 1 [(1, .ra 1 0), (3, I s0.fSize), (5, I a_40), (6, I 0)] [(1, bSystem s0)] ?_
    refine seqQ_norm ?_
    refine Wp.blockN (i := 4) (by kernel_rfl) ?_
    obtain ⟨fl, hl_66, h⟩ := bsome h
    have hL := impl_IsSystem_l2_s _ _ hl_66 c hc
    refine Wp.loopN (by kernel_rfl) ?_
    rcases fl with ⟨⟩ | r
    ·refine WpL.into (e := (.exit 4)) (mkS [(1, .ra 1 0), (3, I s0.fSize), (5, I a_40)] [(1, bSystem s0)]) hL ?_
     refine blockQ_hit ?_
     refine blockQ_norm ?_
     refine seqQ_norm ?_
     refine rg0 hc 3 [(1, .ra 1 0), (3, I s0.fSize), (5, I (wr (a_40 + 1)))] [(1, bSystem s0)] ?_
     refine loopQ_norm ?_
     exact (impl_IsSystem_l3_ih _ _ h c hc)
    ·refine WpL.mono hL ?_
     rintro _ _ ⟨rfl, hfin⟩
     refine blockQ_ret ?_
     refine blockQ_ret ?_
     refine seqQ_ret ?_
     refine loopQ_ret ?_
     obtain rfl := Option.some.inj h
     exact ⟨rfl, hfin⟩
 ·refine cF ((decide (a_40 < s0.fSize))) hb_41 ?_
  refine Wp.exitN (i := 2) (by kernel_rfl) ?_
  refine seqQ_exit ?_
  refine loopQ_exit ?_
  obtain rfl := Option.some.inj h
  exact Into.view (fun a w hv => SRx.renL [] hv (by kernel_rfl) (by kernel_rfl) (by kernel_rfl))
def impl_IsSystem (s0 : GSystem) : Option (Bool) :=
  (
   (impl_within (s0.fSize, 2, 16)) >>= fun r_2_1 =>
   if r_2_1 = true then
    if ((s0.fPlus.length : Int) != (wr (s0.fSize * s0.fSize))) = true then
     some (true)
    else
     if ((s0.fTimes.length : Int) != (wr (s0.fSize * s0.fSize))) = true then
      some (true)
     else
      some (((s0.fBelow.length : Int) != (wr (s0.fSize * s0.fSize))))
   else
    some (true)
  ) >>= fun v_1 =>
  if v_1 = true then
   some false
  else
   (impl_IsSystem_l0 (s0, 0)) >>= fun fl => match fl with
   | .inl () =>
    (impl_IsSystem_l3 (s0, 0)) >>= fun fl => match fl with
    | .inl () =>
     some true
    | .inr r =>
     some r
   | .inr r =>
    some r
def M_impl_IsSystem (s0 : GSystem) (r : Bool) : Prop :=
 FnSound Try.prog 83 [aSystem s0] (.bool r) []
theorem impl_IsSystem_s : ∀ p r, impl_IsSystem p = some r → M_impl_IsSystem p r := by
 rintro s0 r h
 unfold impl_IsSystem at h
 show FnSound Try.prog 83 [aSystem s0] (.bool r) []
 refine FnSound.body0 tiok (fn := Try.f83) (code := B83) (by kernel_rfl) (by kernel_rfl) (by kernel_rfl) (by kernel_rfl) (nt := 157) (by kernel_rfl) (by kernel_rfl) (T := [(0, aSystem s0)]) (O := []) (by kernel_rfl) (by kernel_rfl) (fun c hc => ?_)
 refine sN ?_
 refine rg hc none [some (.new 1), oN] [(1, .ra 1 0)] [(1, bSystem s0)] trivial ?_
 refine seqQ_norm ?_
 refine sN ?_
 refine rg0 hc 3 [(1, .ra 1 0), (3, I s0.fSize)] [(1, bSystem s0)] ?_
 refine seqQ_norm ?_
 refine sN ?_
 refine sN ?_
 obtain ⟨v_1, hj_2, h⟩ := bsome h
 refine Wp.into (x := .normal) (mkS [(1, .ra 1 0), (3, I s0.fSize), (39, .bool v_1)] [(1, bSystem s0)]) ?_ ?_
 ·replace h := hj_2
  obtain ⟨r_2_1, hr_2_1, h⟩ := bsome h
  rcases itesome h with ⟨hb_2_0, h⟩ | ⟨hb_2_0, h⟩
  ·rcases itesome h with ⟨hb_2_1, h⟩ | ⟨hb_2_1, h⟩
   ·refine rg hc none [oN, oc (.bool r_2_1), oN, oN, oN, oN, some (.eqv (.no) ⟨[(16, I (s0.fPlus.length : Int))], [], []⟩), oN, oN, oN, oN, oF, oN, o_, o_, o_, o_, o_, o_, o_, oT, oN, o_, o_, o_, o_, o_, o_, o_, oT] [(1, .ra 1 0), (3, I s0.fSize), (39, .bool true)] [(1, bSystem s0)] (ai (impl_within_s _ _ hr_2_1) (ai bod_61 (ai (oi (.bool r_2_1)) (ar 3 (nF hb_2_0) (ai (lenT (d := 16) I s0.fPlus) (ar 5 (nF hb_2_0) (ar 7 (neF hb_2_1) (ai hb_2_1 (ar 7 nf (ai tt trivial)))))))))) ?_
    obtain rfl := Option.some.inj h
    exact Into.mk
   ·rcases itesome h with ⟨hb_2_2, h⟩ | ⟨hb_2_2, h⟩
    ·refine rg hc none [oN, oc (.bool r_2_1), oN, oN, oN, oN, some (.eqv (.no) ⟨[(16, I (s0.fPlus.length : Int))], [], []⟩), oN, oN, oN, oN, oF, oN, oN, oN, some (.eqv (.no) ⟨[(25, I (s0.fTimes.length : Int))], [], []⟩), oN, oN, oN, oN, oF, oN, o_, o_, o_, o_, o_, o_, o_, oT] [(1, .ra 1 0), (3, I s0.fSize), (39, .bool true)] [(1, bSystem s0)] (ai (impl_within_s _ _ hr_2_1) (ai bod_61 (ai (oi (.bool r_2_1)) (ar 3 (nF hb_2_0) (ai (lenT (d := 16) I s0.fPlus) (ar 5 (nF hb_2_0) (ar 3 hb_2_1 (ai (lenT (d := 25) I s0.fTimes) (ar 5 hb_2_1 (ar 7 (neF hb_2_2) (ai hb_2_2 trivial))))))))))) ?_
     obtain rfl := Option.some.inj h
     exact Into.mk
    ·refine rg hc none [oN, oc (.bool r_2_1), oN, oN, oN, oN, some (.eqv (.no) ⟨[(16, I (s0.fPlus.length : Int))], [], []⟩), oN, oN, oN, oN, oF, oN, oN, oN, some (.eqv (.no) ⟨[(25, I (s0.fTimes.length : Int))], [], []⟩), oN, oN, oN, oN, oF, oN, oN, oN, some (.eqv (.no) ⟨[(34, I (s0.fBelow.length : Int))], [], []⟩), oN, oN, oN, oN, oF] [(1, .ra 1 0), (3, I s0.fSize), (39, .bool ((s0.fBelow.length : Int) != (wr (s0.fSize * s0.fSize))))] [(1, bSystem s0)] (ai (impl_within_s _ _ hr_2_1) (ai bod_61 (ai (oi (.bool r_2_1)) (ar 3 (nF hb_2_0) (ai (lenT (d := 16) I s0.fPlus) (ar 5 (nF hb_2_0) (ar 3 hb_2_1 (ai (lenT (d := 25) I s0.fTimes) (ar 5 hb_2_1 (ar 3 hb_2_2 (ai (lenT (d := 34) AV.bool s0.fBelow) (ar 5 hb_2_2 trivial)))))))))))) ?_
     obtain rfl := Option.some.inj h
     exact Into.mk
  ·refine rg hc none [oN, oc (.bool r_2_1), oN, oN, o_, o_, o_, o_, o_, o_, o_, oT, oN, o_, o_, o_, o_, o_, o_, o_, oT, oN, o_, o_, o_, o_, o_, o_, o_, oT] [(1, .ra 1 0), (3, I s0.fSize), (39, .bool true)] [(1, bSystem s0)] (ai (impl_within_s _ _ hr_2_1) (ai bod_61 (ai (oi (.bool r_2_1)) (ar 7 (neF (nT hb_2_0)) (ai (nT hb_2_0) (ar 7 nf (ai tt (ar 7 nf (ai tt trivial))))))))) ?_
   obtain rfl := Option.some.inj h
   exact Into.mk
 ·clear hj_2
  refine seqQ_norm ?_
  rcases itesome h with ⟨hb_3, h⟩ | ⟨hb_3, h⟩
  ·refine cT v_1 hb_3 ?_
   refine sN ?_
   refine rg0 hc 1 [(2, .bool false)] [] ?_
   refine seqQ_norm ?_
   refine Wp.retN (by kernel_rfl) ?_
   refine seqQ_ret ?_
   obtain rfl := Option.some.inj h
   exact RetQ.ret (fl := [true]) (by kernel_rfl)
  ·refine cF v_1 hb_3 ?_
   refine Wp.skipN (by kernel_rfl) ?_
   refine seqQ_norm ?_
   refine sN ?_
   refine sN ?_
   refine rg hc none [oN, oN, some (.eqv (.no) ⟨[(42, I (s0.fPlus.length : Int))], [], []⟩), oN] [(1, .ra 1 0), (3, I s0.fSize), (42, I (s0.fPlus.length : Int)), (43, I 0)] [(1, bSystem s0)] (ai (lenT (d := 42) I s0.fPlus) trivial) ?_
   refine seqQ_norm ?_
   refine Wp.blockN (i := 0) (by kernel_rfl) ?_
   obtain ⟨fl, hl_13, h⟩ := bsome h
   have hL := impl_IsSystem_l0_s _ _ hl_13 c hc
   refine Wp.loopN (by kernel_rfl) ?_
   rcases fl with ⟨⟩ | r
   ·refine WpL.into (e := (.exit 0)) (mkS [(1, .ra 1 0), (3, I s0.fSize)] [(1, bSystem s0)]) hL ?_
    refine blockQ_hit ?_
    refine seqQ_norm ?_
    refine sN ?_
    refine sN ?_
    refine rg0 hc 1 [(1, .ra 1 0), (3, I s0.fSize), (5, I 0)] [(1, bSystem s0)] ?_
    refine seqQ_norm ?_
    refine Wp.blockN (i := 2) (by kernel_rfl) ?_
    obtain ⟨fl, hl_67, h⟩ := bsome h
    have hL := impl_IsSystem_l3_s _ _ hl_67 c hc
    refine Wp.loopN (by kernel_rfl) ?_
    rcases fl with ⟨⟩ | r
    ·refine WpL.into (e := (.exit 2)) (mkS [] []) hL ?_
     refine blockQ_hit ?_
     refine seqQ_norm ?_
     refine sN ?_
     refine rg0 hc 1 [(2, .bool true)] [] ?_
     refine seqQ_norm ?_
     refine Wp.retN (by kernel_rfl) ?_
     obtain rfl := Option.some.inj h
     exact RetQ.ret (fl := [true]) (by kernel_rfl)
    ·refine WpL.mono hL ?_
     rintro _ _ ⟨rfl, hfin⟩
     refine blockQ_ret ?_
     refine seqQ_ret ?_
     obtain rfl := Option.some.inj h
     exact ⟨.inl rfl, hfin⟩
   ·refine WpL.mono hL ?_
    rintro _ _ ⟨rfl, hfin⟩
    refine blockQ_ret ?_
    refine seqQ_ret ?_
    obtain rfl := Option.some.inj h
    exact ⟨.inl rfl, hfin⟩
def impl_IsData (p : GSystem × (List Int)) : Option (Bool) :=
 match p with
 | (s0, ty1) =>
  (
   (impl_isDataOf (s0, ty1)) >>= fun r_1_2 =>
   if r_1_2 = true then
    (impl_IsSystem s0) >>= fun r_1_5 =>
    some (r_1_5)
   else
    some (false)
  ) >>= fun v_1 =>
  some v_1
def M_impl_IsData (p : GSystem × (List Int)) (r : Bool) : Prop :=
 match p with
 | (s0, ty1) => FnSound Try.prog 75 [aSystem s0, sI ty1] (.bool r) []
theorem impl_IsData_s : ∀ p r, impl_IsData p = some r → M_impl_IsData p r := by
 rintro ⟨s0, ty1⟩ r h
 unfold impl_IsData at h
 show FnSound Try.prog 75 [aSystem s0, sI ty1] (.bool r) []
 refine FnSound.body0 tiok (fn := Try.f75) (code := B75) (by kernel_rfl) (by kernel_rfl) (by kernel_rfl) (by kernel_rfl) (nt := 12) (by kernel_rfl) (by kernel_rfl) (T := [(0, aSystem s0), (1, sI ty1)]) (O := []) (by kernel_rfl) (by kernel_rfl) (fun c hc => ?_)
 refine sN ?_
 refine rg hc none [some (.new 1), oN] [(1, sI ty1), (2, .ra 1 0)] [(1, bSystem s0)] trivial ?_
 refine seqQ_norm ?_
 refine sN ?_
 obtain ⟨v_1, hj_2, h⟩ := bsome h
 refine Wp.into (x := .normal) (mkS [(4, .bool v_1)] []) ?_ ?_
 ·replace h := hj_2
  obtain ⟨r_1_2, hr_1_2, h⟩ := bsome h
  rcases itesome h with ⟨hb_1_0, h⟩ | ⟨hb_1_0, h⟩
  ·obtain ⟨r_1_5, hr_1_5, h⟩ := bsome h
   refine rg hc none [oN, oN, oc (.bool r_1_2), oN, oN, oc (.bool r_1_5), oT, oN] [(4, .bool r_1_5)] [] (ai (impl_isDataOf_s _ _ hr_1_2) (ai bod_109 (ai (oi (.bool r_1_2)) (ar 2 hb_1_0 (ai (impl_IsSystem_s _ _ hr_1_5) (ai bod_83 (ai (oi (.bool r_1_5)) (ai hb_1_0 trivial)))))))) ?_
   obtain rfl := Option.some.inj h
   exact Into.mk
  ·refine rg hc none [oN, oN, oc (.bool r_1_2), oN, o_, o_, oF, oN] [(4, .bool false)] [] (ai (impl_isDataOf_s _ _ hr_1_2) (ai bod_109 (ai (oi (.bool r_1_2)) (ar 2 (neT hb_1_0) (ai hb_1_0 trivial))))) ?_
   obtain rfl := Option.some.inj h
   exact Into.mk
 ·clear hj_2
  refine seqQ_norm ?_
  refine Wp.retN (by kernel_rfl) ?_
  obtain rfl := Option.some.inj h
  exact RetQ.ret (fl := [true]) (by kernel_rfl)
def impl_parts_F1 (c : Ctx) : (List (List Int)) → Exit → AState → Prop
 | out_6 => Into c (.exit 0) (mkS [(3, .rs 3)] [(3, .arr (List.map LI_s out_6))])
def impl_parts_l0 (p : (List Int) × (List (List Int)) × Int) : Option ((List (List Int))) :=
 match p with
 | (ty0, out_4, at_2) =>
  if (decide (at_2 < (ty0.length : Int))) = true then
   (impl_typeEnd (ty0, at_2)) >>= fun r_4_2 =>
   (cut ty0 (some at_2) (some r_4_2) (some r_4_2)) >>= fun c_5_5 =>
   (fits (out_4.length + [c_5_5].length) 24) >>= fun _ =>
   impl_parts_l0 (ty0, (out_4 ++ [c_5_5]), r_4_2)
  else
   some (out_4)
 partial_fixpoint
def M_impl_parts_l0 (p : (List Int) × (List (List Int)) × Int) (fl : (List (List Int))) : Prop :=
 match p with
 | (ty0, out_4, at_2) => ∀ c : Ctx, c.nt = 23 → WpL Try.prog c (cl (cl (cr (cl (cr (cr B78)))))) (impl_parts_F1 c fl) (mkS [(0, sI ty0), (3, .rs 3), (4, I at_2)] [(3, .arr (List.map LI_s out_4))])
theorem impl_parts_l0_s : ∀ p r, impl_parts_l0 p = some r → M_impl_parts_l0 p r := by
 refine impl_parts_l0.partial_correctness M_impl_parts_l0 ?_
 rintro impl_parts_l0_f impl_parts_l0_ih ⟨ty0, out_4, at_2⟩ r h
 intro c hc
 show WpL Try.prog c (cl (cl (cr (cl (cr (cr B78)))))) (impl_parts_F1 c r) (mkS [(0, sI ty0), (3, .rs 3), (4, I at_2)] [(3, .arr (List.map LI_s out_4))])
 refine WpL.step ?_
 refine sN ?_
 refine sN ?_
 refine rg hc none [oN, oN, some (.eqv (.no) ⟨[(8, I (ty0.length : Int))], [], []⟩), oN] [(0, sI ty0), (3, .rs 3), (4, I at_2), (9, .bool (decide (at_2 < (ty0.length : Int))))] [(3, .arr (List.map LI_s out_4))] (ai (lenT (d := 8) I ty0) trivial) ?_
 refine seqQ_norm ?_
 rcases itesome h with ⟨hb_5, h⟩ | ⟨hb_5, h⟩
 ·refine cT ((decide (at_2 < (ty0.length : Int)))) hb_5 ?_
  refine Wp.skipN (by kernel_rfl) ?_
  refine seqQ_norm ?_
  refine Wp.blockN (i := 1) (by kernel_rfl) ?_
  refine sN ?_
  obtain ⟨r_4_2, hr_4_2, h⟩ := bsome h
  refine rg hc none [oN, oN, oc (I r_4_2), oN] [(0, sI ty0), (3, .rs 3), (4, I at_2), (5, I r_4_2)] [(3, .arr (List.map LI_s out_4))] (ai (impl_typeEnd_s _ _ hr_4_2) (ai bod_110 (ai (oi (I r_4_2)) trivial))) ?_
  refine seqQ_norm ?_
  refine sN ?_
  obtain ⟨c_5_5, hs_5_5, h⟩ := bsome h
  obtain ⟨_, hk_5_7, h⟩ := bsome h
  refine rg hc none [oN, oN, oN, oN, oN, some (.eqv (.no) ⟨[(18, sI c_5_5)], [], []⟩), some (.mk 6 false), some (.eqv (.mk 7 true) ⟨[(20, .rs 7)], [(7, some (.arr (List.map LI_s (out_4 ++ [c_5_5])))), (3, none), (6, none)], [7]⟩), oN] [(0, sI ty0), (3, .rs 7), (5, I r_4_2)] [(7, .arr (List.map LI_s (out_4 ++ [c_5_5])))] (ai (cut_wr (d := 18) I hs_5_5) (ai (cut_ob (enc := I) (sz := 1) sz_I hs_5_5) (ai (congrArg (fun z => (⟨[(20, .rs 7)], [(7, some (.arr z)), (3, none), (6, none)], [7]⟩ : Wr)) ((List.map_append).symm : (List.map LI_s out_4) ++ (List.map LI_s [c_5_5]) = List.map LI_s (out_4 ++ [c_5_5]))) (ai (app_ob (enc1 := LI_s) (enc2 := LI_s) (e1 := out_4) (e2 := [c_5_5]) (sz := 1) ek_LI_s ek_LI_s hk_5_7) trivial)))) ?_
  refine seqQ_norm ?_
  refine rg0 hc 2 [(0, sI ty0), (3, .rs 7), (4, I r_4_2)] [(7, .arr (List.map LI_s (out_4 ++ [c_5_5])))] ?_
  refine blockQ_norm ?_
  refine loopQ_norm ?_
  exact WpL.view (fun a w hv => SRx.renL [(3, 7)] hv (by kernel_rfl) (by kernel_rfl) (by kernel_rfl)) (impl_parts_l0_ih _ _ h c hc)
 ·refine cF ((decide (at_2 < (ty0.length : Int)))) hb_5 ?_
  refine Wp.exitN (i := 0) (by kernel_rfl) ?_
  refine seqQ_exit ?_
  refine loopQ_exit ?_
  obtain rfl := Option.some.inj h
  exact Into.view (fun a w hv => SRx.renL [] hv (by kernel_rfl) (by kernel_rfl) (by kernel_rfl))
def impl_parts (ty0 : (List Int)) : Option ((List (List Int))) :=
  (impl_parts_l0 (ty0, [], 1)) >>= fun out_6 =>
  some out_6
def M_impl_parts (ty0 : (List Int)) (r : (List (List Int))) : Prop :=
 FnSound Try.prog 78 [sI ty0] (.osl (List.map LI_s r)) []
theorem impl_parts_s : ∀ p r, impl_parts p = some r → M_impl_parts p r := by
 rintro ty0 r h
 unfold impl_parts at h
 show FnSound Try.prog 78 [sI ty0] (.osl (List.map LI_s r)) []
 refine FnSound.body0 tiok (fn := Try.f78) (code := B78) (by kernel_rfl) (by kernel_rfl) (by kernel_rfl) (by kernel_rfl) (nt := 23) (by kernel_rfl) (by kernel_rfl) (T := [(0, sI ty0)]) (O := []) (by kernel_rfl) (by kernel_rfl) (fun c hc => ?_)
 refine sN ?_
 refine rg0 hc 1 [(0, sI ty0)] [] ?_
 refine seqQ_norm ?_
 refine sN ?_
 refine rg0 hc 1 [(0, sI ty0), (3, .nils)] [] ?_
 refine seqQ_norm ?_
 refine sN ?_
 refine sN ?_
 refine rg0 hc 1 [(0, sI ty0), (3, .nils), (4, I 1)] [] ?_
 refine seqQ_norm ?_
 refine Wp.blockN (i := 0) (by kernel_rfl) ?_
 obtain ⟨out_6, hl_7, h⟩ := bsome h
 have hL := impl_parts_l0_s _ _ hl_7 c hc
 refine Wp.loopN (by kernel_rfl) (WpL.view (fun a w hv => SRx.renL [(3, 8)] (SRx.nilTL 3 8 hv (by kernel_rfl) (by kernel_rfl)) (by kernel_rfl) (by kernel_rfl) (by kernel_rfl)) (?_ : WpL _ c _ _ (mkS [(0, sI ty0), (3, .rs 3), (4, I 1)] [(3, .arr (List.map LI_s []))])))
 ·refine WpL.into (e := (.exit 0)) (mkS [(3, .rs 3)] [(3, .arr (List.map LI_s out_6))]) hL ?_
  refine blockQ_hit ?_
  refine seqQ_norm ?_
  refine sN ?_
  refine rg0 hc 2 [(2, .rs 3)] [(3, .arr (List.map LI_s out_6))] ?_
  refine seqQ_norm ?_
  refine Wp.retN (by kernel_rfl) ?_
  obtain rfl := Option.some.inj h
  exact RetQ.ret (fl := [true]) (by kernel_rfl)
def impl_count (ty0 : (List Int)) : Option (Int) :=
  (idx ty0 0) >>= fun e_1_1 =>
  (impl_shape e_1_1) >>= fun (r_1_3_0, r_1_3_1) =>
  (impl_parts ty0) >>= fun r_2_1 =>
  (
   if (r_1_3_0 == 1) = true then
    (idx r_2_1 0) >>= fun e_6_1 =>
    (impl_count e_6_1) >>= fun r_6_3 =>
    (idx r_2_1 1) >>= fun e_6_5 =>
    (impl_count e_6_5) >>= fun r_6_7 =>
    some ((wr (r_6_3 * r_6_7)))
   else
    (
     if (r_1_3_0 == 2) = true then
      (idx r_2_1 0) >>= fun e_8_1 =>
      (impl_count e_8_1) >>= fun r_8_3 =>
      (idx r_2_1 1) >>= fun e_8_5 =>
      (impl_count e_8_5) >>= fun r_8_7 =>
      some ((wr (r_8_3 + r_8_7)))
     else
      (
       if (r_1_3_0 == 4) = true then
        (idx r_2_1 0) >>= fun e_10_1 =>
        (impl_count e_10_1) >>= fun r_10_3 =>
        some (r_10_3)
       else
        some (3)
      ) >>= fun n_4 =>
      some (n_4)
    ) >>= fun n_6 =>
    some (n_6)
  ) >>= fun n_8 =>
  some (mnx false n_8 301)
 partial_fixpoint
def M_impl_count (ty0 : (List Int)) (r : Int) : Prop :=
 FnSound Try.prog 76 [sI ty0] (I r) []
theorem impl_count_s : ∀ p r, impl_count p = some r → M_impl_count p r := by
 refine impl_count.partial_correctness M_impl_count ?_
 rintro impl_count_f impl_count_ih ty0 r h
 show FnSound Try.prog 76 [sI ty0] (I r) []
 refine FnSound.body0 tiok (fn := Try.f76) (code := B76) (by kernel_rfl) (by kernel_rfl) (by kernel_rfl) (by kernel_rfl) (nt := 47) (by kernel_rfl) (by kernel_rfl) (T := [(0, sI ty0)]) (O := []) (by kernel_rfl) (by kernel_rfl) (fun c hc => ?_)
 refine sN ?_
 refine rg0 hc 1 [(0, sI ty0)] [] ?_
 refine seqQ_norm ?_
 refine sN ?_
 obtain ⟨e_1_1, hi_1_1, h⟩ := bsome h
 obtain ⟨⟨r_1_3_0, r_1_3_1⟩, hr_1_3, h⟩ := bsome h
 refine rg hc none [oN, some (.el (I e_1_1)), oN, oc (.tup [I r_1_3_0, I r_1_3_1]), oN, oN, oN, oN, oN] [(0, sI ty0), (3, I r_1_3_0)] [] (ai (ix hi_1_1) (ai (impl_shape_s _ _ hr_1_3) (ai bod_77 (ai (oi (.tup [I r_1_3_0, I r_1_3_1])) trivial)))) ?_
 refine seqQ_norm ?_
 refine sN ?_
 obtain ⟨r_2_1, hr_2_1, h⟩ := bsome h
 refine rg hc none [oN, oc (.osl (List.map LI_s r_2_1)), oN] [(3, I r_1_3_0), (5, .rs 1)] [(1, .arr (List.map LI_s r_2_1))] (ai (impl_parts_s _ _ hr_2_1) (ai bod_78 (ai (oi (.osl (List.map LI_s r_2_1))) trivial))) ?_
 refine seqQ_norm ?_
 refine sN ?_
 refine rg0 hc 1 [(3, I r_1_3_0), (5, .rs 1), (6, I 3)] [(1, .arr (List.map LI_s r_2_1))] ?_
 refine seqQ_norm ?_
 refine sN ?_
 refine sN ?_
 refine rg0 hc 1 [(5, .rs 1), (6, I 3), (16, I r_1_3_0)] [(1, .arr (List.map LI_s r_2_1))] ?_
 refine seqQ_norm ?_
 refine Wp.blockN (i := 0) (by kernel_rfl) ?_
 refine sN ?_
 refine rg0 hc 2 [(5, .rs 1), (6, I 3), (16, I r_1_3_0), (17, .bool (r_1_3_0 == 1))] [(1, .arr (List.map LI_s r_2_1))] ?_
 refine seqQ_norm ?_
 obtain ⟨n_8, hj_9, h⟩ := bsome h
 refine Wp.into (x := .normal) (mkS [(6, I n_8)] []) ?_ ?_
 ·replace h := hj_9
  rcases itesome h with ⟨hb_1, h⟩ | ⟨hb_1, h⟩
  ·refine cT ((r_1_3_0 == 1)) hb_1 ?_
   obtain ⟨e_6_1, hi_6_1, h⟩ := bsome h
   obtain ⟨r_6_3, hr_6_3, h⟩ := bsome h
   obtain ⟨e_6_5, hi_6_5, h⟩ := bsome h
   obtain ⟨r_6_7, hr_6_7, h⟩ := bsome h
   refine rg hc ah6_1 [oN, oN, some (.el (sI e_6_1)), oc (I r_6_3), oN, oN, some (.el (sI e_6_5)), oc (I r_6_7), oN, oN] [(6, I (wr (r_6_3 * r_6_7)))] [] (ai (idx_own (enc := LI_s) hi_6_1) (ai (idx_sl (enc := LI_s) (x := sI e_6_1) hi_6_1 (eq_LI_s e_6_1)).2 (ai (impl_count_ih _ _ hr_6_3) (ai bod_76 (ai (oi (I r_6_3)) (ai (idx_own (enc := LI_s) hi_6_5) (ai (idx_sl (enc := LI_s) (x := sI e_6_5) hi_6_5 (eq_LI_s e_6_5)).2 (ai (impl_count_ih _ _ hr_6_7) (ai bod_76 (ai (oi (I r_6_7)) trivial)))))))))) ?_
   obtain rfl := Option.some.inj h
   exact Into.mk
  ·refine cF ((r_1_3_0 == 1)) hb_1 ?_
   refine sN ?_
   refine rg0 hc 2 [(5, .rs 1), (6, I 3), (16, I r_1_3_0), (28, .bool (r_1_3_0 == 2))] [(1, .arr (List.map LI_s r_2_1))] ?_
   refine seqQ_norm ?_
   obtain ⟨n_6, hj_7, h⟩ := bsome h
   refine Wp.into (x := .normal) (mkS [(6, I n_6)] []) ?_ ?_
   ·replace h := hj_7
    rcases itesome h with ⟨hb_2, h⟩ | ⟨hb_2, h⟩
    ·refine cT ((r_1_3_0 == 2)) hb_2 ?_
     obtain ⟨e_8_1, hi_8_1, h⟩ := bsome h
     obtain ⟨r_8_3, hr_8_3, h⟩ := bsome h
     obtain ⟨e_8_5, hi_8_5, h⟩ := bsome h
     obtain ⟨r_8_7, hr_8_7, h⟩ := bsome h
     refine rg hc ah6_1 [oN, oN, some (.el (sI e_8_1)), oc (I r_8_3), oN, oN, some (.el (sI e_8_5)), oc (I r_8_7), oN, oN] [(6, I (wr (r_8_3 + r_8_7)))] [] (ai (idx_own (enc := LI_s) hi_8_1) (ai (idx_sl (enc := LI_s) (x := sI e_8_1) hi_8_1 (eq_LI_s e_8_1)).2 (ai (impl_count_ih _ _ hr_8_3) (ai bod_76 (ai (oi (I r_8_3)) (ai (idx_own (enc := LI_s) hi_8_5) (ai (idx_sl (enc := LI_s) (x := sI e_8_5) hi_8_5 (eq_LI_s e_8_5)).2 (ai (impl_count_ih _ _ hr_8_7) (ai bod_76 (ai (oi (I r_8_7)) trivial)))))))))) ?_
     obtain rfl := Option.some.inj h
     exact Into.mk
    ·refine cF ((r_1_3_0 == 2)) hb_2 ?_
     refine sN ?_
     refine rg0 hc 2 [(5, .rs 1), (6, I 3), (39, .bool (r_1_3_0 == 4))] [(1, .arr (List.map LI_s r_2_1))] ?_
     refine seqQ_norm ?_
     obtain ⟨n_4, hj_5, h⟩ := bsome h
     refine Wp.into (x := .normal) (mkS [(6, I n_4)] []) ?_ ?_
     ·replace h := hj_5
      rcases itesome h with ⟨hb_3, h⟩ | ⟨hb_3, h⟩
      ·refine cT ((r_1_3_0 == 4)) hb_3 ?_
       obtain ⟨e_10_1, hi_10_1, h⟩ := bsome h
       obtain ⟨r_10_3, hr_10_3, h⟩ := bsome h
       refine rg hc none [oN, oN, some (.el (sI e_10_1)), oc (I r_10_3), oN] [(6, I r_10_3)] [] (ai (idx_own (enc := LI_s) hi_10_1) (ai (idx_sl (enc := LI_s) (x := sI e_10_1) hi_10_1 (eq_LI_s e_10_1)).2 (ai (impl_count_ih _ _ hr_10_3) (ai bod_76 (ai (oi (I r_10_3)) trivial))))) ?_
       obtain rfl := Option.some.inj h
       exact Into.mk
      ·refine cF ((r_1_3_0 == 4)) hb_3 ?_
       refine Wp.skipN (by kernel_rfl) ?_
       obtain rfl := Option.some.inj h
       exact Into.view (fun a w hv => SRx.renL [] hv (by kernel_rfl) (by kernel_rfl) (by kernel_rfl))
     ·clear hj_5
      obtain rfl := Option.some.inj h
      exact Into.mk
   ·clear hj_7
    obtain rfl := Option.some.inj h
    exact Into.mk
 ·clear hj_9
  refine blockQ_norm ?_
  refine seqQ_norm ?_
  refine sN ?_
  refine rg0 hc 3 [(2, I (mnx false n_8 301))] [] ?_
  refine seqQ_norm ?_
  refine Wp.retN (by kernel_rfl) ?_
  obtain rfl := Option.some.inj h
  exact RetQ.ret (fl := [true]) (by kernel_rfl)
def impl_CountValues (p : GSystem × (List Int)) : Option (Int) :=
 match p with
 | (s0, ty1) =>
  (
   (impl_IsData (s0, ty1)) >>= fun r_1_2 =>
   if r_1_2 = true then
    (impl_count ty1) >>= fun r_1_6 =>
    some ((decide (r_1_6 > 300)))
   else
    some (true)
  ) >>= fun v_1 =>
  if v_1 = true then
   some (-1)
  else
   (impl_count ty1) >>= fun r_3_1 =>
   some r_3_1
def M_impl_CountValues (p : GSystem × (List Int)) (r : Int) : Prop :=
 match p with
 | (s0, ty1) => FnSound Try.prog 39 [aSystem s0, sI ty1] (I r) []
theorem impl_CountValues_s : ∀ p r, impl_CountValues p = some r → M_impl_CountValues p r := by
 rintro ⟨s0, ty1⟩ r h
 unfold impl_CountValues at h
 show FnSound Try.prog 39 [aSystem s0, sI ty1] (I r) []
 refine FnSound.body0 tiok (fn := Try.f39) (code := B39) (by kernel_rfl) (by kernel_rfl) (by kernel_rfl) (by kernel_rfl) (nt := 16) (by kernel_rfl) (by kernel_rfl) (T := [(0, aSystem s0), (1, sI ty1)]) (O := []) (by kernel_rfl) (by kernel_rfl) (fun c hc => ?_)
 refine sN ?_
 refine rg hc none [some (.new 1), oN] [(1, sI ty1), (2, .ra 1 0)] [(1, bSystem s0)] trivial ?_
 refine seqQ_norm ?_
 refine sN ?_
 refine sN ?_
 obtain ⟨v_1, hj_2, h⟩ := bsome h
 refine Wp.into (x := .normal) (mkS [(1, sI ty1), (13, .bool v_1)] []) ?_ ?_
 ·replace h := hj_2
  obtain ⟨r_1_2, hr_1_2, h⟩ := bsome h
  rcases itesome h with ⟨hb_1_0, h⟩ | ⟨hb_1_0, h⟩
  ·obtain ⟨r_1_6, hr_1_6, h⟩ := bsome h
   refine rg hc none [oN, oN, oc (.bool r_1_2), oN, oN, oN, oc (I r_1_6), oN, oF] [(1, sI ty1), (13, .bool (decide (r_1_6 > 300)))] [] (ai (impl_IsData_s _ _ hr_1_2) (ai bod_75 (ai (oi (.bool r_1_2)) (ar 2 (nF hb_1_0) (ai (impl_count_s _ _ hr_1_6) (ai bod_76 (ai (oi (I r_1_6)) (ar 2 (nF hb_1_0) trivial)))))))) ?_
   obtain rfl := Option.some.inj h
   exact Into.mk
  ·refine rg hc none [oN, oN, oc (.bool r_1_2), oN, oN, o_, o_, o_, oT] [(1, sI ty1), (13, .bool true)] [] (ai (impl_IsData_s _ _ hr_1_2) (ai bod_75 (ai (oi (.bool r_1_2)) (ar 3 (neF (nT hb_1_0)) (ai (nT hb_1_0) trivial))))) ?_
   obtain rfl := Option.some.inj h
   exact Into.mk
 ·clear hj_2
  refine seqQ_norm ?_
  rcases itesome h with ⟨hb_3, h⟩ | ⟨hb_3, h⟩
  ·refine cT v_1 hb_3 ?_
   refine sN ?_
   refine rg0 hc 1 [(4, I (-1))] [] ?_
   refine seqQ_norm ?_
   refine Wp.retN (by kernel_rfl) ?_
   refine seqQ_ret ?_
   obtain rfl := Option.some.inj h
   exact RetQ.ret (fl := [true]) (by kernel_rfl)
  ·refine cF v_1 hb_3 ?_
   refine Wp.skipN (by kernel_rfl) ?_
   refine seqQ_norm ?_
   refine sN ?_
   obtain ⟨r_3_1, hr_3_1, h⟩ := bsome h
   refine rg hc none [oN, oc (I r_3_1), oN] [(4, I r_3_1)] [] (ai (impl_count_s _ _ hr_3_1) (ai bod_76 (ai (oi (I r_3_1)) trivial))) ?_
   refine seqQ_norm ?_
   refine Wp.retN (by kernel_rfl) ?_
   obtain rfl := Option.some.inj h
   exact RetQ.ret (fl := [true]) (by kernel_rfl)
def slices_Equal_int_F1 (c : Ctx) : (Unit) ⊕ (Bool) → Exit → AState → Prop
 | .inl _ => Into c (.exit 0) (mkS [] [])
 | .inr r => RetE TIx Try.f79 [] (.bool r)
def slices_Equal_int_l0 (p : (List Int) × (List Int) × Int) : Option ((Unit) ⊕ (Bool)) :=
 match p with
 | (s10, s21, w_4) =>
  if (decide (w_4 < (s10.length : Int))) = true then
   (idx s10 w_4) >>= fun e_6_2 =>
   (idx s21 w_4) >>= fun e_6_6 =>
   if (e_6_2 != e_6_6) = true then
    some (.inr false)
   else
    slices_Equal_int_l0 (s10, s21, (wr (w_4 + 1)))
  else
   some (.inl ())
 partial_fixpoint
def M_slices_Equal_int_l0 (p : (List Int) × (List Int) × Int) (fl : (Unit) ⊕ (Bool)) : Prop :=
 match p with
 | (s10, s21, w_4) => ∀ c : Ctx, c.nt = 26 → WpL Try.prog c (cl (cl (cr (cl (cr (cr B79)))))) (slices_Equal_int_F1 c fl) (mkS [(0, sI s10), (1, sI s21), (12, I (s10.length : Int)), (13, I w_4)] [])
theorem slices_Equal_int_l0_s : ∀ p r, slices_Equal_int_l0 p = some r → M_slices_Equal_int_l0 p r := by
 refine slices_Equal_int_l0.partial_correctness M_slices_Equal_int_l0 ?_
 rintro slices_Equal_int_l0_f slices_Equal_int_l0_ih ⟨s10, s21, w_4⟩ r h
 intro c hc
 show WpL Try.prog c (cl (cl (cr (cl (cr (cr B79)))))) (slices_Equal_int_F1 c r) (mkS [(0, sI s10), (1, sI s21), (12, I (s10.length : Int)), (13, I w_4)] [])
 refine WpL.step ?_
 refine sN ?_
 refine rg0 hc 1 [(0, sI s10), (1, sI s21), (12, I (s10.length : Int)), (13, I w_4), (14, .bool (decide (w_4 < (s10.length : Int))))] [] ?_
 refine seqQ_norm ?_
 refine sN ?_
 rcases itesome h with ⟨hb_5, h⟩ | ⟨hb_5, h⟩
 ·refine cT ((decide (w_4 < (s10.length : Int)))) hb_5 ?_
  refine Wp.skipN (by kernel_rfl) ?_
  refine seqQ_norm ?_
  refine sN ?_
  refine Wp.blockN (i := 1) (by kernel_rfl) ?_
  refine sN ?_
  refine rg0 hc 2 [(0, sI s10), (1, sI s21), (5, I w_4), (12, I (s10.length : Int)), (13, I w_4)] [] ?_
  refine seqQ_norm ?_
  refine sN ?_
  obtain ⟨e_6_2, hi_6_2, h⟩ := bsome h
  obtain ⟨e_6_6, hi_6_6, h⟩ := bsome h
  refine rg hc (rx [[0], [0], [2], [3], [0], [0], [0, 4, 5], [0, 4, 5, 6], [8]]) [oN, oN, some (.el (I e_6_2)), oN, oN, oN, some (.el (I e_6_6)), oN, oN] [(0, sI s10), (1, sI s21), (12, I (s10.length : Int)), (13, I w_4), (24, .bool (e_6_2 != e_6_6))] [] (ai (ix hi_6_2) (ai (ix hi_6_6) trivial)) ?_
  refine seqQ_norm ?_
  rcases itesome h with ⟨hb_6, h⟩ | ⟨hb_6, h⟩
  ·refine cT ((e_6_2 != e_6_6)) hb_6 ?_
   refine sN ?_
   refine rg0 hc 1 [(4, .bool false)] [] ?_
   refine seqQ_norm ?_
   refine Wp.retN (by kernel_rfl) ?_
   refine blockQ_ret ?_
   refine seqQ_ret ?_
   refine loopQ_ret ?_
   obtain rfl := Option.some.inj h
   exact RetE.ret (fl := [true]) (by kernel_rfl)
  ·refine cF ((e_6_2 != e_6_6)) hb_6 ?_
   refine Wp.skipN (by kernel_rfl) ?_
   refine blockQ_norm ?_
   refine seqQ_norm ?_
   refine rg0 hc 2 [(0, sI s10), (1, sI s21), (12, I (s10.length : Int)), (13, I (wr (w_4 + 1)))] [] ?_
   refine loopQ_norm ?_
   exact (slices_Equal_int_l0_ih _ _ h c hc)
 ·refine cF ((decide (w_4 < (s10.length : Int)))) hb_5 ?_
  refine Wp.exitN (i := 0) (by kernel_rfl) ?_
  refine seqQ_exit ?_
  refine loopQ_exit ?_
  obtain rfl := Option.some.inj h
  exact Into.view (fun a w hv => SRx.renL [] hv (by kernel_rfl) (by kernel_rfl) (by kernel_rfl))
def slices_Equal_int (p : (List Int) × (List Int)) : Option (Bool) :=
 match p with
 | (s10, s21) =>
  if ((s10.length : Int) != (s21.length : Int)) = true then
   some false
  else
   (slices_Equal_int_l0 (s10, s21, 0)) >>= fun fl => match fl with
   | .inl () =>
    some true
   | .inr r =>
    some r
def M_slices_Equal_int (p : (List Int) × (List Int)) (r : Bool) : Prop :=
 match p with
 | (s10, s21) => FnSound Try.prog 79 [sI s10, sI s21] (.bool r) []
theorem slices_Equal_int_s : ∀ p r, slices_Equal_int p = some r → M_slices_Equal_int p r := by
 rintro ⟨s10, s21⟩ r h
 unfold slices_Equal_int at h
 show FnSound Try.prog 79 [sI s10, sI s21] (.bool r) []
 refine FnSound.body0 tiok (fn := Try.f79) (code := B79) (by kernel_rfl) (by kernel_rfl) (by kernel_rfl) (by kernel_rfl) (nt := 26) (by kernel_rfl) (by kernel_rfl) (T := [(0, sI s10), (1, sI s21)]) (O := []) (by kernel_rfl) (by kernel_rfl) (fun c hc => ?_)
 refine sN ?_
 refine rg0 hc 1 [(0, sI s10), (1, sI s21)] [] ?_
 refine seqQ_norm ?_
 refine sN ?_
 refine sN ?_
 refine rg hc none [oN, some (.eqv (.no) ⟨[(7, I (s10.length : Int))], [], []⟩), oN, some (.eqv (.no) ⟨[(9, I (s21.length : Int))], [], []⟩), oN] [(0, sI s10), (1, sI s21), (10, .bool ((s10.length : Int) != (s21.length : Int)))] [] (ai (lenT (d := 7) I s10) (ai (lenT (d := 9) I s21) trivial)) ?_
 refine seqQ_norm ?_
 rcases itesome h with ⟨hb_1, h⟩ | ⟨hb_1, h⟩
 ·refine cT (((s10.length : Int) != (s21.length : Int))) hb_1 ?_
  refine sN ?_
  refine rg0 hc 1 [(4, .bool false)] [] ?_
  refine seqQ_norm ?_
  refine Wp.retN (by kernel_rfl) ?_
  refine seqQ_ret ?_
  obtain rfl := Option.some.inj h
  exact RetQ.ret (fl := [true]) (by kernel_rfl)
 ·refine cF (((s10.length : Int) != (s21.length : Int))) hb_1 ?_
  refine Wp.skipN (by kernel_rfl) ?_
  refine seqQ_norm ?_
  refine sN ?_
  refine sN ?_
  refine rg hc none [oN, some (.eqv (.no) ⟨[(12, I (s10.length : Int))], [], []⟩), oN] [(0, sI s10), (1, sI s21), (12, I (s10.length : Int)), (13, I 0)] [] (ai (lenT (d := 12) I s10) trivial) ?_
  refine seqQ_norm ?_
  refine Wp.blockN (i := 0) (by kernel_rfl) ?_
  obtain ⟨fl, hl_7, h⟩ := bsome h
  have hL := slices_Equal_int_l0_s _ _ hl_7 c hc
  refine Wp.loopN (by kernel_rfl) ?_
  rcases fl with ⟨⟩ | r
  ·refine WpL.into (e := (.exit 0)) (mkS [] []) hL ?_
   refine blockQ_hit ?_
   refine seqQ_norm ?_
   refine sN ?_
   refine rg0 hc 1 [(4, .bool true)] [] ?_
   refine seqQ_norm ?_
   refine Wp.retN (by kernel_rfl) ?_
   obtain rfl := Option.some.inj h
   exact RetQ.ret (fl := [true]) (by kernel_rfl)
  ·refine WpL.mono hL ?_
   rintro _ _ ⟨rfl, hfin⟩
   refine blockQ_ret ?_
   refine seqQ_ret ?_
   obtain rfl := Option.some.inj h
   exact ⟨.inl rfl, hfin⟩
end Go.Am
