/- Functions of the program as pure functions, and that it computes them. Printed by a program of mine (gen.py). -/
import Derived.Test.YtmdfopkcoinfeaaGEVF6
set_option linter.unusedVariables false
set_option linter.unusedSimpArgs false
set_option maxRecDepth 100000
namespace Go.Am
open Go Go.Proofs
def impl_IsSystem (s0 : GSystem) : Option (Bool) :=
  (
   (impl_within (s0.fSize, 2, 16)) >>= fun r_2_1 =>
   if r_2_1 = true then
    if ((s0.fPlus.length : Int) != (wr (s0.fSize * s0.fSize))) = true then
     some (true)
    else
     if ((s0.fTimes.length : Int) != (wr (s0.fSize * s0.fSize))) = true then
      some (true)
     else
      some (((s0.fBelow.length : Int) != (wr (s0.fSize * s0.fSize))))
   else
    some (true)
  ) >>= fun v_1 =>
  if v_1 = true then
   some false
  else
   (impl_IsSystem_l0 (s0, 0)) >>= fun fl => match fl with
   | .inl () =>
    (impl_IsSystem_l3 (s0, 0)) >>= fun fl => match fl with
    | .inl () =>
     some true
    | .inr r =>
     some r
   | .inr r =>
    some r
def M_impl_IsSystem (s0 : GSystem) (r : Bool) : Prop :=
 FnSound Try.prog 83 [aSystem s0] (.bool r) []
theorem impl_IsSystem_s : ∀ p r, impl_IsSystem p = some r → M_impl_IsSystem p r := by
 rintro s0 r h
 unfold impl_IsSystem at h
 show FnSound Try.prog 83 [aSystem s0] (.bool r) []
 refine FnSound.body0 tiok (fn := Try.f83) (code := B83) (by kernel_rfl) (by kernel_rfl) (by kernel_rfl) (by kernel_rfl) (nt := 157) (by kernel_rfl) (by kernel_rfl) (T := [(0, aSystem s0)]) (O := []) (by kernel_rfl) (by kernel_rfl) (fun c hc => ?_)
 refine sN ?_
 refine rg hc none [some (.new 1), oN] [(1, .ra 1 0)] [(1, bSystem s0)] trivial ?_
 refine seqQ_norm ?_
 refine sN ?_
 refine rg0 hc 3 [(1, .ra 1 0), (3, I s0.fSize)] [(1, bSystem s0)] ?_
 refine seqQ_norm ?_
 refine sN ?_
 refine sN ?_
 obtain ⟨v_1, hj_2, h⟩ := bsome h
 refine Wp.into (x := .normal) (mkS [(1, .ra 1 0), (3, I s0.fSize), (39, .bool v_1)] [(1, bSystem s0)]) ?_ ?_
 ·replace h := hj_2
  obtain ⟨r_2_1, hr_2_1, h⟩ := bsome h
  rcases itesome h with ⟨hb_2_0, h⟩ | ⟨hb_2_0, h⟩
  ·rcases itesome h with ⟨hb_2_1, h⟩ | ⟨hb_2_1, h⟩
   ·refine rg hc none [oN, oc (.bool r_2_1), oN, oN, oN, oN, some (.eqv (.no) ⟨[(16, I (s0.fPlus.length : Int))], [], []⟩), oN, oN, oN, oN, oF, oN, o_, o_, o_, o_, o_, o_, o_, oT, oN, o_, o_, o_, o_, o_, o_, o_, oT] [(1, .ra 1 0), (3, I s0.fSize), (39, .bool true)] [(1, bSystem s0)] (ai (impl_within_s _ _ hr_2_1) (ai bod_61 (ai (oi (.bool r_2_1)) (ar 3 (nF hb_2_0) (ai (lenT (d := 16) I s0.fPlus) (ar 5 (nF hb_2_0) (ar 7 (neF hb_2_1) (ai hb_2_1 (ar 7 nf (ai tt trivial)))))))))) ?_
    obtain rfl := Option.some.inj h
    exact Into.mk
   ·rcases itesome h with ⟨hb_2_2, h⟩ | ⟨hb_2_2, h⟩
    ·refine rg hc none [oN, oc (.bool r_2_1), oN, oN, oN, oN, some (.eqv (.no) ⟨[(16, I (s0.fPlus.length : Int))], [], []⟩), oN, oN, oN, oN, oF, oN, oN, oN, some (.eqv (.no) ⟨[(25, I (s0.fTimes.length : Int))], [], []⟩), oN, oN, oN, oN, oF, oN, o_, o_, o_, o_, o_, o_, o_, oT] [(1, .ra 1 0), (3, I s0.fSize), (39, .bool true)] [(1, bSystem s0)] (ai (impl_within_s _ _ hr_2_1) (ai bod_61 (ai (oi (.bool r_2_1)) (ar 3 (nF hb_2_0) (ai (lenT (d := 16) I s0.fPlus) (ar 5 (nF hb_2_0) (ar 3 hb_2_1 (ai (lenT (d := 25) I s0.fTimes) (ar 5 hb_2_1 (ar 7 (neF hb_2_2) (ai hb_2_2 trivial))))))))))) ?_
     obtain rfl := Option.some.inj h
     exact Into.mk
    ·refine rg hc none [oN, oc (.bool r_2_1), oN, oN, oN, oN, some (.eqv (.no) ⟨[(16, I (s0.fPlus.length : Int))], [], []⟩), oN, oN, oN, oN, oF, oN, oN, oN, some (.eqv (.no) ⟨[(25, I (s0.fTimes.length : Int))], [], []⟩), oN, oN, oN, oN, oF, oN, oN, oN, some (.eqv (.no) ⟨[(34, I (s0.fBelow.length : Int))], [], []⟩), oN, oN, oN, oN, oF] [(1, .ra 1 0), (3, I s0.fSize), (39, .bool ((s0.fBelow.length : Int) != (wr (s0.fSize * s0.fSize))))] [(1, bSystem s0)] (ai (impl_within_s _ _ hr_2_1) (ai bod_61 (ai (oi (.bool r_2_1)) (ar 3 (nF hb_2_0) (ai (lenT (d := 16) I s0.fPlus) (ar 5 (nF hb_2_0) (ar 3 hb_2_1 (ai (lenT (d := 25) I s0.fTimes) (ar 5 hb_2_1 (ar 3 hb_2_2 (ai (lenT (d := 34) AV.bool s0.fBelow) (ar 5 hb_2_2 trivial)))))))))))) ?_
     obtain rfl := Option.some.inj h
     exact Into.mk
  ·refine rg hc none [oN, oc (.bool r_2_1), oN, oN, o_, o_, o_, o_, o_, o_, o_, oT, oN, o_, o_, o_, o_, o_, o_, o_, oT, oN, o_, o_, o_, o_, o_, o_, o_, oT] [(1, .ra 1 0), (3, I s0.fSize), (39, .bool true)] [(1, bSystem s0)] (ai (impl_within_s _ _ hr_2_1) (ai bod_61 (ai (oi (.bool r_2_1)) (ar 7 (neF (nT hb_2_0)) (ai (nT hb_2_0) (ar 7 nf (ai tt (ar 7 nf (ai tt trivial))))))))) ?_
   obtain rfl := Option.some.inj h
   exact Into.mk
 ·clear hj_2
  refine seqQ_norm ?_
  rcases itesome h with ⟨hb_3, h⟩ | ⟨hb_3, h⟩
  ·refine cT v_1 hb_3 ?_
   refine sN ?_
   refine rg0 hc 1 [(2, .bool false)] [] ?_
   refine seqQ_norm ?_
   refine Wp.retN (by kernel_rfl) ?_
   refine seqQ_ret ?_
   obtain rfl := Option.some.inj h
   exact RetQ.ret (fl := [true]) (by kernel_rfl)
  ·refine cF v_1 hb_3 ?_
   refine Wp.skipN (by kernel_rfl) ?_
   refine seqQ_norm ?_
   refine sN ?_
   refine sN ?_
   refine rg hc none [oN, oN, some (.eqv (.no) ⟨[(42, I (s0.fPlus.length : Int))], [], []⟩), oN] [(1, .ra 1 0), (3, I s0.fSize), (42, I (s0.fPlus.length : Int)), (43, I 0)] [(1, bSystem s0)] (ai (lenT (d := 42) I s0.fPlus) trivial) ?_
   refine seqQ_norm ?_
   refine Wp.blockN (i := 0) (by kernel_rfl) ?_
   obtain ⟨fl, hl_13, h⟩ := bsome h
   have hL := impl_IsSystem_l0_s _ _ hl_13 c hc
   refine Wp.loopN (by kernel_rfl) ?_
   rcases fl with ⟨⟩ | r
   ·refine WpL.into (e := (.exit 0)) (mkS [(1, .ra 1 0), (3, I s0.fSize)] [(1, bSystem s0)]) hL ?_
    refine blockQ_hit ?_
    refine seqQ_norm ?_
    refine sN ?_
    refine sN ?_
    refine rg0 hc 1 [(1, .ra 1 0), (3, I s0.fSize), (5, I 0)] [(1, bSystem s0)] ?_
    refine seqQ_norm ?_
    refine Wp.blockN (i := 2) (by kernel_rfl) ?_
    obtain ⟨fl, hl_67, h⟩ := bsome h
    have hL := impl_IsSystem_l3_s _ _ hl_67 c hc
    refine Wp.loopN (by kernel_rfl) ?_
    rcases fl with ⟨⟩ | r
    ·refine WpL.into (e := (.exit 2)) (mkS [] []) hL ?_
     refine blockQ_hit ?_
     refine seqQ_norm ?_
     refine sN ?_
     refine rg0 hc 1 [(2, .bool true)] [] ?_
     refine seqQ_norm ?_
     refine Wp.retN (by kernel_rfl) ?_
     obtain rfl := Option.some.inj h
     exact RetQ.ret (fl := [true]) (by kernel_rfl)
    ·refine WpL.mono hL ?_
     rintro _ _ ⟨rfl, hfin⟩
     refine blockQ_ret ?_
     refine seqQ_ret ?_
     obtain rfl := Option.some.inj h
     exact ⟨.inl rfl, hfin⟩
   ·refine WpL.mono hL ?_
    rintro _ _ ⟨rfl, hfin⟩
    refine blockQ_ret ?_
    refine seqQ_ret ?_
    obtain rfl := Option.some.inj h
    exact ⟨.inl rfl, hfin⟩
def impl_isView_F1 (c : Ctx) (s0 : GSystem) (in1 : List Bool) (a_15 : Int) : (Unit) ⊕ (Bool) → Exit → AState → Prop
 | .inl _ => Into c (.exit 2) (mkS [(1, sB in1), (2, .ra 1 0), (5, I a_15)] [(1, bSystem s0)])
 | .inr r => RetE TIx Try.f85 [] (.bool r)
end Go.Am
