/- Functions of the program as pure functions, and that it computes them. Printed by a program of mine (gen.py). -/
import Derived.Test.YtmdfopkcoinfeaaGAVF10
set_option linter.unusedVariables false
set_option linter.unusedSimpArgs false
set_option maxRecDepth 100000
namespace Go.Am
open Go Go.Proofs
def ah11_0 : Option (List (List Nat)) := rx [[0], [0], [2], [3], [0], [0], [0, 4, 5], [0, 4, 5, 6], [8]]
def ah11_1 : Option (List (List Nat)) := rx [[0], [0], [0, 1], [3], [4]]
def impl_AlikeValues (p : GSystem × (List Int) × (List Int) × GTerm × GTerm) : Option (Bool) :=
 match p with
 | (s0, view1, ty2, v3, w4) =>
  (
   (impl_IsView (s0, view1)) >>= fun r_1_2 =>
   if r_1_2 = true then
    (impl_IsValue (s0, ty2, v3)) >>= fun r_1_7 =>
    if r_1_7 = true then
     (impl_IsValue (s0, ty2, w4)) >>= fun r_1_13 =>
     if r_1_13 = true then
      (impl_alike (view1, ty2, v3, w4)) >>= fun r_1_20 =>
      some (r_1_20)
     else
      some (false)
    else
     some (false)
   else
    some (false)
  ) >>= fun v_1 =>
  some v_1
def M_impl_AlikeValues (p : GSystem × (List Int) × (List Int) × GTerm × GTerm) (r : Bool) : Prop :=
 match p with
 | (s0, view1, ty2, v3, w4) => FnSound Try.prog 19 [aSystem s0, sI view1, sI ty2, aTerm v3, aTerm w4] (.bool r) []
theorem impl_AlikeValues_s : ∀ p r, impl_AlikeValues p = some r → M_impl_AlikeValues p r := by
 rintro ⟨s0, view1, ty2, v3, w4⟩ r h
 unfold impl_AlikeValues at h
 show FnSound Try.prog 19 [aSystem s0, sI view1, sI ty2, aTerm v3, aTerm w4] (.bool r) []
 refine FnSound.body0 tiok (fn := Try.f19) (code := B19) (by kernel_rfl) (by kernel_rfl) (by kernel_rfl) (by kernel_rfl) (nt := 33) (by kernel_rfl) (by kernel_rfl) (T := [(0, aSystem s0), (1, sI view1), (2, sI ty2), (3, aTerm v3), (4, aTerm w4)]) (O := []) (by kernel_rfl) (by kernel_rfl) (fun c hc => ?_)
 refine sN ?_
 refine rg hc none [some (.new 1), some (.new 2), some (.new 3), oN] [(1, sI view1), (2, sI ty2), (5, .ra 1 0), (8, .ra 2 0), (9, .ra 3 0)] [(1, bSystem s0), (2, bTerm v3), (3, bTerm w4)] trivial ?_
 refine seqQ_norm ?_
 refine sN ?_
 obtain ⟨v_1, hj_2, h⟩ := bsome h
 refine Wp.into (x := .normal) (mkS [(10, .bool v_1)] []) ?_ ?_
 ·replace h := hj_2
  obtain ⟨r_1_2, hr_1_2, h⟩ := bsome h
  rcases itesome h with ⟨hb_1_0, h⟩ | ⟨hb_1_0, h⟩
  ·obtain ⟨r_1_7, hr_1_7, h⟩ := bsome h
   rcases itesome h with ⟨hb_1_1, h⟩ | ⟨hb_1_1, h⟩
   ·obtain ⟨r_1_13, hr_1_13, h⟩ := bsome h
    rcases itesome h with ⟨hb_1_2, h⟩ | ⟨hb_1_2, h⟩
    ·obtain ⟨r_1_20, hr_1_20, h⟩ := bsome h
     refine rg hc none [oN, oN, oc (.bool r_1_2), oN, oN, oN, oN, oc (.bool r_1_7), oT, oN, oN, oN, oN, oc (.bool r_1_13), oT, oN, oN, oN, oN, oN, oc (.bool r_1_20), oT, oN] [(10, .bool r_1_20)] [] (ai (impl_IsView_s _ _ hr_1_2) (ai bod_46 (ai (oi (.bool r_1_2)) (ar 4 hb_1_0 (ai (impl_IsValue_s _ _ hr_1_7) (ai bod_47 (ai (oi (.bool r_1_7)) (ai hb_1_0 (ar 4 hb_1_1 (ai (impl_IsValue_s _ _ hr_1_13) (ai bod_47 (ai (oi (.bool r_1_13)) (ai hb_1_1 (ar 5 hb_1_2 (ai (impl_alike_s _ _ hr_1_20) (ai bod_48 (ai (oi (.bool r_1_20)) (ai hb_1_2 trivial)))))))))))))))))) ?_
     obtain rfl := Option.some.inj h
     exact Into.mk
    ·refine rg hc none [oN, oN, oc (.bool r_1_2), oN, oN, oN, oN, oc (.bool r_1_7), oT, oN, oN, oN, oN, oc (.bool r_1_13), oT, oN, o_, o_, o_, o_, o_, oF, oN] [(10, .bool false)] [] (ai (impl_IsView_s _ _ hr_1_2) (ai bod_46 (ai (oi (.bool r_1_2)) (ar 4 hb_1_0 (ai (impl_IsValue_s _ _ hr_1_7) (ai bod_47 (ai (oi (.bool r_1_7)) (ai hb_1_0 (ar 4 hb_1_1 (ai (impl_IsValue_s _ _ hr_1_13) (ai bod_47 (ai (oi (.bool r_1_13)) (ai hb_1_1 (ar 5 (neT hb_1_2) (ai hb_1_2 trivial))))))))))))))) ?_
     obtain rfl := Option.some.inj h
     exact Into.mk
   ·refine rg hc none [oN, oN, oc (.bool r_1_2), oN, oN, oN, oN, oc (.bool r_1_7), oT, oN, o_, o_, o_, o_, oF, oN, o_, o_, o_, o_, o_, oF, oN] [(10, .bool false)] [] (ai (impl_IsView_s _ _ hr_1_2) (ai bod_46 (ai (oi (.bool r_1_2)) (ar 4 hb_1_0 (ai (impl_IsValue_s _ _ hr_1_7) (ai bod_47 (ai (oi (.bool r_1_7)) (ai hb_1_0 (ar 4 (neT hb_1_1) (ai hb_1_1 (ar 5 (neT (rfl : false = false)) (ai (rfl : false = false) trivial)))))))))))) ?_
    obtain rfl := Option.some.inj h
    exact Into.mk
  ·refine rg hc none [oN, oN, oc (.bool r_1_2), oN, o_, o_, o_, o_, oF, oN, o_, o_, o_, o_, oF, oN, o_, o_, o_, o_, o_, oF, oN] [(10, .bool false)] [] (ai (impl_IsView_s _ _ hr_1_2) (ai bod_46 (ai (oi (.bool r_1_2)) (ar 4 (neT hb_1_0) (ai hb_1_0 (ar 4 (neT (rfl : false = false)) (ai (rfl : false = false) (ar 5 (neT (rfl : false = false)) (ai (rfl : false = false) trivial))))))))) ?_
   obtain rfl := Option.some.inj h
   exact Into.mk
 ·clear hj_2
  refine seqQ_norm ?_
  refine Wp.retN (by kernel_rfl) ?_
  obtain rfl := Option.some.inj h
  exact RetQ.ret (fl := [true]) (by kernel_rfl)
def laws_eqIntS_F1 (c : Ctx) : (Unit) ⊕ (Bool) → Exit → AState → Prop
 | .inl _ => Into c (.exit 0) (mkS [] [])
 | .inr r => RetE TIx Try.f16 [] (.bool r)
def laws_eqIntS_l0 (p : (List Int) × (List Int) × Int) : Option ((Unit) ⊕ (Bool)) :=
 match p with
 | (a0, b1, i_4) =>
  if (decide (i_4 < (a0.length : Int))) = true then
   (idx a0 i_4) >>= fun e_6_2 =>
   (idx b1 i_4) >>= fun e_6_6 =>
   if (e_6_2 != e_6_6) = true then
    some (.inr false)
   else
    laws_eqIntS_l0 (a0, b1, (wr (i_4 + 1)))
  else
   some (.inl ())
 partial_fixpoint
def M_laws_eqIntS_l0 (p : (List Int) × (List Int) × Int) (fl : (Unit) ⊕ (Bool)) : Prop :=
 match p with
 | (a0, b1, i_4) => ∀ c : Ctx, c.nt = 26 → WpL Try.prog c (cl (cl (cr (cl (cr (cr B16)))))) (laws_eqIntS_F1 c fl) (mkS [(0, sI a0), (1, sI b1), (5, I i_4)] [])
theorem laws_eqIntS_l0_s : ∀ p r, laws_eqIntS_l0 p = some r → M_laws_eqIntS_l0 p r := by
 refine laws_eqIntS_l0.partial_correctness M_laws_eqIntS_l0 ?_
 rintro laws_eqIntS_l0_f laws_eqIntS_l0_ih ⟨a0, b1, i_4⟩ r h
 intro c hc
 show WpL Try.prog c (cl (cl (cr (cl (cr (cr B16)))))) (laws_eqIntS_F1 c r) (mkS [(0, sI a0), (1, sI b1), (5, I i_4)] [])
 refine WpL.step ?_
 refine sN ?_
 refine sN ?_
 refine rg hc none [oN, oN, some (.eqv (.no) ⟨[(13, I (a0.length : Int))], [], []⟩), oN] [(0, sI a0), (1, sI b1), (5, I i_4), (14, .bool (decide (i_4 < (a0.length : Int))))] [] (ai (lenT (d := 13) I a0) trivial) ?_
 refine seqQ_norm ?_
 rcases itesome h with ⟨hb_5, h⟩ | ⟨hb_5, h⟩
 ·refine cT ((decide (i_4 < (a0.length : Int)))) hb_5 ?_
  refine Wp.skipN (by kernel_rfl) ?_
  refine seqQ_norm ?_
  refine sN ?_
  refine Wp.blockN (i := 1) (by kernel_rfl) ?_
  refine sN ?_
  obtain ⟨e_6_2, hi_6_2, h⟩ := bsome h
  obtain ⟨e_6_6, hi_6_6, h⟩ := bsome h
  refine rg hc ah11_0 [oN, oN, some (.el (I e_6_2)), oN, oN, oN, some (.el (I e_6_6)), oN, oN] [(0, sI a0), (1, sI b1), (5, I i_4), (25, .bool (e_6_2 != e_6_6))] [] (ai (ix hi_6_2) (ai (ix hi_6_6) trivial)) ?_
  refine seqQ_norm ?_
  rcases itesome h with ⟨hb_6, h⟩ | ⟨hb_6, h⟩
  ·refine cT ((e_6_2 != e_6_6)) hb_6 ?_
   refine sN ?_
   refine rg0 hc 1 [(4, .bool false)] [] ?_
   refine seqQ_norm ?_
   refine Wp.retN (by kernel_rfl) ?_
   refine blockQ_ret ?_
   refine seqQ_ret ?_
   refine loopQ_ret ?_
   obtain rfl := Option.some.inj h
   exact RetE.ret (fl := [true]) (by kernel_rfl)
  ·refine cF ((e_6_2 != e_6_6)) hb_6 ?_
   refine Wp.skipN (by kernel_rfl) ?_
   refine blockQ_norm ?_
   refine seqQ_norm ?_
   refine rg0 hc 3 [(0, sI a0), (1, sI b1), (5, I (wr (i_4 + 1)))] [] ?_
   refine loopQ_norm ?_
   exact (laws_eqIntS_l0_ih _ _ h c hc)
 ·refine cF ((decide (i_4 < (a0.length : Int)))) hb_5 ?_
  refine Wp.exitN (i := 0) (by kernel_rfl) ?_
  refine seqQ_exit ?_
  refine loopQ_exit ?_
  obtain rfl := Option.some.inj h
  exact Into.view (fun a w hv => SRx.renL [] hv (by kernel_rfl) (by kernel_rfl) (by kernel_rfl))
def laws_eqIntS (p : (List Int) × (List Int)) : Option (Bool) :=
 match p with
 | (a0, b1) =>
  if ((a0.length : Int) != (b1.length : Int)) = true then
   some false
  else
   (laws_eqIntS_l0 (a0, b1, 0)) >>= fun fl => match fl with
   | .inl () =>
    some true
   | .inr r =>
    some r
def M_laws_eqIntS (p : (List Int) × (List Int)) (r : Bool) : Prop :=
 match p with
 | (a0, b1) => FnSound Try.prog 16 [sI a0, sI b1] (.bool r) []
theorem laws_eqIntS_s : ∀ p r, laws_eqIntS p = some r → M_laws_eqIntS p r := by
 rintro ⟨a0, b1⟩ r h
 unfold laws_eqIntS at h
 show FnSound Try.prog 16 [sI a0, sI b1] (.bool r) []
 refine FnSound.body0 tiok (fn := Try.f16) (code := B16) (by kernel_rfl) (by kernel_rfl) (by kernel_rfl) (by kernel_rfl) (nt := 26) (by kernel_rfl) (by kernel_rfl) (T := [(0, sI a0), (1, sI b1)]) (O := []) (by kernel_rfl) (by kernel_rfl) (fun c hc => ?_)
 refine sN ?_
 refine rg0 hc 1 [(0, sI a0), (1, sI b1)] [] ?_
 refine seqQ_norm ?_
 refine sN ?_
 refine sN ?_
 refine rg hc none [oN, some (.eqv (.no) ⟨[(7, I (a0.length : Int))], [], []⟩), oN, some (.eqv (.no) ⟨[(9, I (b1.length : Int))], [], []⟩), oN] [(0, sI a0), (1, sI b1), (10, .bool ((a0.length : Int) != (b1.length : Int)))] [] (ai (lenT (d := 7) I a0) (ai (lenT (d := 9) I b1) trivial)) ?_
 refine seqQ_norm ?_
 rcases itesome h with ⟨hb_1, h⟩ | ⟨hb_1, h⟩
 ·refine cT (((a0.length : Int) != (b1.length : Int))) hb_1 ?_
  refine sN ?_
  refine rg0 hc 1 [(4, .bool false)] [] ?_
  refine seqQ_norm ?_
  refine Wp.retN (by kernel_rfl) ?_
  refine seqQ_ret ?_
  obtain rfl := Option.some.inj h
  exact RetQ.ret (fl := [true]) (by kernel_rfl)
 ·refine cF (((a0.length : Int) != (b1.length : Int))) hb_1 ?_
  refine Wp.skipN (by kernel_rfl) ?_
  refine seqQ_norm ?_
  refine sN ?_
  refine sN ?_
  refine rg0 hc 1 [(0, sI a0), (1, sI b1), (5, I 0)] [] ?_
  refine seqQ_norm ?_
  refine Wp.blockN (i := 0) (by kernel_rfl) ?_
  obtain ⟨fl, hl_7, h⟩ := bsome h
  have hL := laws_eqIntS_l0_s _ _ hl_7 c hc
  refine Wp.loopN (by kernel_rfl) ?_
  rcases fl with ⟨⟩ | r
  ·refine WpL.into (e := (.exit 0)) (mkS [] []) hL ?_
   refine blockQ_hit ?_
   refine seqQ_norm ?_
   refine sN ?_
   refine rg0 hc 1 [(4, .bool true)] [] ?_
   refine seqQ_norm ?_
   refine Wp.retN (by kernel_rfl) ?_
   obtain rfl := Option.some.inj h
   exact RetQ.ret (fl := [true]) (by kernel_rfl)
  ·refine WpL.mono hL ?_
   rintro _ _ ⟨rfl, hfin⟩
   refine blockQ_ret ?_
   refine seqQ_ret ?_
   obtain rfl := Option.some.inj h
   exact ⟨.inl rfl, hfin⟩
def laws_eqBoolS_F1 (c : Ctx) : (Unit) ⊕ (Bool) → Exit → AState → Prop
 | .inl _ => Into c (.exit 0) (mkS [] [])
 | .inr r => RetE TIx Try.f42 [] (.bool r)
def laws_eqBoolS_l0 (p : (List Bool) × (List Bool) × Int) : Option ((Unit) ⊕ (Bool)) :=
 match p with
 | (a0, b1, i_4) =>
  if (decide (i_4 < (a0.length : Int))) = true then
   (idx a0 i_4) >>= fun e_6_2 =>
   (idx b1 i_4) >>= fun e_6_6 =>
   if (e_6_2 == e_6_6) = true then
    laws_eqBoolS_l0 (a0, b1, (wr (i_4 + 1)))
   else
    some (.inr false)
  else
   some (.inl ())
 partial_fixpoint
def M_laws_eqBoolS_l0 (p : (List Bool) × (List Bool) × Int) (fl : (Unit) ⊕ (Bool)) : Prop :=
 match p with
 | (a0, b1, i_4) => ∀ c : Ctx, c.nt = 26 → WpL Try.prog c (cl (cl (cr (cl (cr (cr B42)))))) (laws_eqBoolS_F1 c fl) (mkS [(0, sB a0), (1, sB b1), (5, I i_4)] [])
theorem laws_eqBoolS_l0_s : ∀ p r, laws_eqBoolS_l0 p = some r → M_laws_eqBoolS_l0 p r := by
 refine laws_eqBoolS_l0.partial_correctness M_laws_eqBoolS_l0 ?_
 rintro laws_eqBoolS_l0_f laws_eqBoolS_l0_ih ⟨a0, b1, i_4⟩ r h
 intro c hc
 show WpL Try.prog c (cl (cl (cr (cl (cr (cr B42)))))) (laws_eqBoolS_F1 c r) (mkS [(0, sB a0), (1, sB b1), (5, I i_4)] [])
 refine WpL.step ?_
 refine sN ?_
 refine sN ?_
 refine rg hc none [oN, oN, some (.eqv (.no) ⟨[(13, I (a0.length : Int))], [], []⟩), oN] [(0, sB a0), (1, sB b1), (5, I i_4), (14, .bool (decide (i_4 < (a0.length : Int))))] [] (ai (lenT (d := 13) AV.bool a0) trivial) ?_
 refine seqQ_norm ?_
 rcases itesome h with ⟨hb_5, h⟩ | ⟨hb_5, h⟩
 ·refine cT ((decide (i_4 < (a0.length : Int)))) hb_5 ?_
  refine Wp.skipN (by kernel_rfl) ?_
  refine seqQ_norm ?_
  refine sN ?_
  refine Wp.blockN (i := 1) (by kernel_rfl) ?_
  refine sN ?_
  obtain ⟨e_6_2, hi_6_2, h⟩ := bsome h
  obtain ⟨e_6_6, hi_6_6, h⟩ := bsome h
  refine rg hc ah11_0 [oN, oN, some (.el (.bool e_6_2)), oN, oN, oN, some (.el (.bool e_6_6)), oN, oN] [(0, sB a0), (1, sB b1), (5, I i_4), (25, .bool (!(e_6_2 == e_6_6)))] [] (ai (idx_sl (enc := AV.bool) (x := .bool e_6_2) hi_6_2 (eq_B e_6_2)) (ai (idx_sl (enc := AV.bool) (x := .bool e_6_6) hi_6_6 (eq_B e_6_6)) trivial)) ?_
  refine seqQ_norm ?_
  rcases itesome h with ⟨hb_6, h⟩ | ⟨hb_6, h⟩
  ·refine cF ((!(e_6_2 == e_6_6))) (nF hb_6) ?_
   refine Wp.skipN (by kernel_rfl) ?_
   refine blockQ_norm ?_
   refine seqQ_norm ?_
   refine rg0 hc 3 [(0, sB a0), (1, sB b1), (5, I (wr (i_4 + 1)))] [] ?_
   refine loopQ_norm ?_
   exact (laws_eqBoolS_l0_ih _ _ h c hc)
  ·refine cT ((!(e_6_2 == e_6_6))) (nT hb_6) ?_
   refine sN ?_
   refine rg0 hc 1 [(4, .bool false)] [] ?_
   refine seqQ_norm ?_
   refine Wp.retN (by kernel_rfl) ?_
   refine blockQ_ret ?_
   refine seqQ_ret ?_
   refine loopQ_ret ?_
   obtain rfl := Option.some.inj h
   exact RetE.ret (fl := [true]) (by kernel_rfl)
 ·refine cF ((decide (i_4 < (a0.length : Int)))) hb_5 ?_
  refine Wp.exitN (i := 0) (by kernel_rfl) ?_
  refine seqQ_exit ?_
  refine loopQ_exit ?_
  obtain rfl := Option.some.inj h
  exact Into.view (fun a w hv => SRx.renL [] hv (by kernel_rfl) (by kernel_rfl) (by kernel_rfl))
def laws_eqBoolS (p : (List Bool) × (List Bool)) : Option (Bool) :=
 match p with
 | (a0, b1) =>
  if ((a0.length : Int) != (b1.length : Int)) = true then
   some false
  else
   (laws_eqBoolS_l0 (a0, b1, 0)) >>= fun fl => match fl with
   | .inl () =>
    some true
   | .inr r =>
    some r
def M_laws_eqBoolS (p : (List Bool) × (List Bool)) (r : Bool) : Prop :=
 match p with
 | (a0, b1) => FnSound Try.prog 42 [sB a0, sB b1] (.bool r) []
theorem laws_eqBoolS_s : ∀ p r, laws_eqBoolS p = some r → M_laws_eqBoolS p r := by
 rintro ⟨a0, b1⟩ r h
 unfold laws_eqBoolS at h
 show FnSound Try.prog 42 [sB a0, sB b1] (.bool r) []
 refine FnSound.body0 tiok (fn := Try.f42) (code := B42) (by kernel_rfl) (by kernel_rfl) (by kernel_rfl) (by kernel_rfl) (nt := 26) (by kernel_rfl) (by kernel_rfl) (T := [(0, sB a0), (1, sB b1)]) (O := []) (by kernel_rfl) (by kernel_rfl) (fun c hc => ?_)
 refine sN ?_
 refine rg0 hc 1 [(0, sB a0), (1, sB b1)] [] ?_
 refine seqQ_norm ?_
 refine sN ?_
 refine sN ?_
 refine rg hc none [oN, some (.eqv (.no) ⟨[(7, I (a0.length : Int))], [], []⟩), oN, some (.eqv (.no) ⟨[(9, I (b1.length : Int))], [], []⟩), oN] [(0, sB a0), (1, sB b1), (10, .bool ((a0.length : Int) != (b1.length : Int)))] [] (ai (lenT (d := 7) AV.bool a0) (ai (lenT (d := 9) AV.bool b1) trivial)) ?_
 refine seqQ_norm ?_
 rcases itesome h with ⟨hb_1, h⟩ | ⟨hb_1, h⟩
 ·refine cT (((a0.length : Int) != (b1.length : Int))) hb_1 ?_
  refine sN ?_
  refine rg0 hc 1 [(4, .bool false)] [] ?_
  refine seqQ_norm ?_
  refine Wp.retN (by kernel_rfl) ?_
  refine seqQ_ret ?_
  obtain rfl := Option.some.inj h
  exact RetQ.ret (fl := [true]) (by kernel_rfl)
 ·refine cF (((a0.length : Int) != (b1.length : Int))) hb_1 ?_
  refine Wp.skipN (by kernel_rfl) ?_
  refine seqQ_norm ?_
  refine sN ?_
  refine sN ?_
  refine rg0 hc 1 [(0, sB a0), (1, sB b1), (5, I 0)] [] ?_
  refine seqQ_norm ?_
  refine Wp.blockN (i := 0) (by kernel_rfl) ?_
  obtain ⟨fl, hl_7, h⟩ := bsome h
  have hL := laws_eqBoolS_l0_s _ _ hl_7 c hc
  refine Wp.loopN (by kernel_rfl) ?_
  rcases fl with ⟨⟩ | r
  ·refine WpL.into (e := (.exit 0)) (mkS [] []) hL ?_
   refine blockQ_hit ?_
   refine seqQ_norm ?_
   refine sN ?_
   refine rg0 hc 1 [(4, .bool true)] [] ?_
   refine seqQ_norm ?_
   refine Wp.retN (by kernel_rfl) ?_
   obtain rfl := Option.some.inj h
   exact RetQ.ret (fl := [true]) (by kernel_rfl)
  ·refine WpL.mono hL ?_
   rintro _ _ ⟨rfl, hfin⟩
   refine blockQ_ret ?_
   refine seqQ_ret ?_
   obtain rfl := Option.some.inj h
   exact ⟨.inl rfl, hfin⟩
def laws_eqSystem (p : GSystem × GSystem) : Option (Bool) :=
 match p with
 | (a0, b1) =>
  if (a0.fSize != b1.fSize) = true then
   some false
  else
   (laws_eqIntS (a0.fPlus, b1.fPlus)) >>= fun r_3_4 =>
   if r_3_4 = true then
    (laws_eqIntS (a0.fTimes, b1.fTimes)) >>= fun r_5_4 =>
    if r_5_4 = true then
     (laws_eqBoolS (a0.fBelow, b1.fBelow)) >>= fun r_7_4 =>
     if r_7_4 = true then
      some true
     else
      some false
    else
     some false
   else
    some false
def M_laws_eqSystem (p : GSystem × GSystem) (r : Bool) : Prop :=
 match p with
 | (a0, b1) => FnSound Try.prog 15 [aSystem a0, aSystem b1] (.bool r) []
theorem laws_eqSystem_s : ∀ p r, laws_eqSystem p = some r → M_laws_eqSystem p r := by
 rintro ⟨a0, b1⟩ r h
 unfold laws_eqSystem at h
 show FnSound Try.prog 15 [aSystem a0, aSystem b1] (.bool r) []
 refine FnSound.body0 tiok (fn := Try.f15) (code := B15) (by kernel_rfl) (by kernel_rfl) (by kernel_rfl) (by kernel_rfl) (nt := 28) (by kernel_rfl) (by kernel_rfl) (T := [(0, aSystem a0), (1, aSystem b1)]) (O := []) (by kernel_rfl) (by kernel_rfl) (fun c hc => ?_)
 refine sN ?_
 refine rg hc none [some (.new 1), some (.new 2), oN] [(2, .ra 1 0), (3, .ra 2 0)] [(1, bSystem a0), (2, bSystem b1)] trivial ?_
 refine seqQ_norm ?_
 refine sN ?_
 refine sN ?_
 refine rg0 hc 5 [(2, .ra 1 0), (3, .ra 2 0), (9, .bool (a0.fSize != b1.fSize))] [(1, bSystem a0), (2, bSystem b1)] ?_
 refine seqQ_norm ?_
 rcases itesome h with ⟨hb_1, h⟩ | ⟨hb_1, h⟩
 ·refine cT ((a0.fSize != b1.fSize)) hb_1 ?_
  refine sN ?_
  refine rg0 hc 1 [(4, .bool false)] [] ?_
  refine seqQ_norm ?_
  refine Wp.retN (by kernel_rfl) ?_
  refine seqQ_ret ?_
  obtain rfl := Option.some.inj h
  exact RetQ.ret (fl := [true]) (by kernel_rfl)
 ·refine cF ((a0.fSize != b1.fSize)) hb_1 ?_
  refine Wp.skipN (by kernel_rfl) ?_
  refine seqQ_norm ?_
  refine sN ?_
  refine sN ?_
  obtain ⟨r_3_4, hr_3_4, h⟩ := bsome h
  refine rg hc none [oN, oN, oN, oN, oc (.bool r_3_4), oN] [(2, .ra 1 0), (3, .ra 2 0), (15, .bool (!r_3_4))] [(1, bSystem a0), (2, bSystem b1)] (ai (laws_eqIntS_s _ _ hr_3_4) (ai bod_16 (ai (oi (.bool r_3_4)) trivial))) ?_
  refine seqQ_norm ?_
  rcases itesome h with ⟨hb_2, h⟩ | ⟨hb_2, h⟩
  ·refine cF (!r_3_4) (nF hb_2) ?_
   refine Wp.skipN (by kernel_rfl) ?_
   refine seqQ_norm ?_
   refine sN ?_
   refine sN ?_
   obtain ⟨r_5_4, hr_5_4, h⟩ := bsome h
   refine rg hc none [oN, oN, oN, oN, oc (.bool r_5_4), oN] [(2, .ra 1 0), (3, .ra 2 0), (21, .bool (!r_5_4))] [(1, bSystem a0), (2, bSystem b1)] (ai (laws_eqIntS_s _ _ hr_5_4) (ai bod_16 (ai (oi (.bool r_5_4)) trivial))) ?_
   refine seqQ_norm ?_
   rcases itesome h with ⟨hb_3, h⟩ | ⟨hb_3, h⟩
   ·refine cF (!r_5_4) (nF hb_3) ?_
    refine Wp.skipN (by kernel_rfl) ?_
    refine seqQ_norm ?_
    refine sN ?_
    refine sN ?_
    obtain ⟨r_7_4, hr_7_4, h⟩ := bsome h
    refine rg hc none [oN, oN, oN, oN, oc (.bool r_7_4), oN] [(27, .bool (!r_7_4))] [] (ai (laws_eqBoolS_s _ _ hr_7_4) (ai bod_42 (ai (oi (.bool r_7_4)) trivial))) ?_
    refine seqQ_norm ?_
    rcases itesome h with ⟨hb_4, h⟩ | ⟨hb_4, h⟩
    ·refine cF (!r_7_4) (nF hb_4) ?_
     refine Wp.skipN (by kernel_rfl) ?_
     refine seqQ_norm ?_
     refine sN ?_
     refine rg0 hc 1 [(4, .bool true)] [] ?_
     refine seqQ_norm ?_
     refine Wp.retN (by kernel_rfl) ?_
     obtain rfl := Option.some.inj h
     exact RetQ.ret (fl := [true]) (by kernel_rfl)
    ·refine cT (!r_7_4) (nT hb_4) ?_
     refine sN ?_
     refine rg0 hc 1 [(4, .bool false)] [] ?_
     refine seqQ_norm ?_
     refine Wp.retN (by kernel_rfl) ?_
     refine seqQ_ret ?_
     obtain rfl := Option.some.inj h
     exact RetQ.ret (fl := [true]) (by kernel_rfl)
   ·refine cT (!r_5_4) (nT hb_3) ?_
    refine sN ?_
    refine rg0 hc 1 [(4, .bool false)] [] ?_
    refine seqQ_norm ?_
    refine Wp.retN (by kernel_rfl) ?_
    refine seqQ_ret ?_
    obtain rfl := Option.some.inj h
    exact RetQ.ret (fl := [true]) (by kernel_rfl)
  ·refine cT (!r_3_4) (nT hb_2) ?_
   refine sN ?_
   refine rg0 hc 1 [(4, .bool false)] [] ?_
   refine seqQ_norm ?_
   refine Wp.retN (by kernel_rfl) ?_
   refine seqQ_ret ?_
   obtain rfl := Option.some.inj h
   exact RetQ.ret (fl := [true]) (by kernel_rfl)
def laws_eqTermS_F1 (c : Ctx) : (Unit) ⊕ (Bool) → Exit → AState → Prop
 | .inl _ => Into c (.exit 0) (mkS [] [])
 | .inr r => RetE TIx Try.f43 [] (.bool r)
mutual
def laws_eqTerm (p : GTerm × GTerm) : Option (Bool) :=
 match p with
 | (a0, b1) =>
  if (a0.fOp != b1.fOp) = true then
   some false
  else
   if (a0.fN != b1.fN) = true then
    some false
   else
    (laws_eqIntS (a0.fType, b1.fType)) >>= fun r_5_4 =>
    if r_5_4 = true then
     (laws_eqTermS (a0.fKids, b1.fKids)) >>= fun r_7_4 =>
     if r_7_4 = true then
      some true
     else
      some false
    else
     some false
 partial_fixpoint
def laws_eqTermS (p : (List GTerm) × (List GTerm)) : Option (Bool) :=
 match p with
 | (a0, b1) =>
  if ((a0.length : Int) != (b1.length : Int)) = true then
   some false
  else
   (laws_eqTermS_l0 (a0, b1, 0)) >>= fun fl => match fl with
   | .inl () =>
    some true
   | .inr r =>
    some r
 partial_fixpoint
def laws_eqTermS_l0 (p : (List GTerm) × (List GTerm) × Int) : Option ((Unit) ⊕ (Bool)) :=
 match p with
 | (a0, b1, i_4) =>
  if (decide (i_4 < (a0.length : Int))) = true then
   (idx a0 i_4) >>= fun e_6_2 =>
   (idx b1 i_4) >>= fun e_6_6 =>
   (laws_eqTerm (e_6_2, e_6_6)) >>= fun r_6_8 =>
   if r_6_8 = true then
    laws_eqTermS_l0 (a0, b1, (wr (i_4 + 1)))
   else
    some (.inr false)
  else
   some (.inl ())
 partial_fixpoint
end
def M_laws_eqTerm (p : GTerm × GTerm) (r : Bool) : Prop :=
 match p with
 | (a0, b1) => FnSound Try.prog 17 [aTerm a0, aTerm b1] (.bool r) []
def M_laws_eqTermS (p : (List GTerm) × (List GTerm)) (r : Bool) : Prop :=
 match p with
 | (a0, b1) => FnSound Try.prog 43 [.sl (List.map GTerm_S a0), .sl (List.map GTerm_S b1)] (.bool r) []
def M_laws_eqTermS_l0 (p : (List GTerm) × (List GTerm) × Int) (fl : (Unit) ⊕ (Bool)) : Prop :=
 match p with
 | (a0, b1, i_4) => ∀ c : Ctx, c.nt = 27 → WpL Try.prog c (cl (cl (cr (cl (cr (cr B43)))))) (laws_eqTermS_F1 c fl) (mkS [(0, .sl (List.map GTerm_S a0)), (1, .sl (List.map GTerm_S b1)), (5, I i_4)] [])
theorem laws_eqTerm_all : (∀ p r, laws_eqTerm p = some r → M_laws_eqTerm p r) ∧ (∀ p r, laws_eqTermS p = some r → M_laws_eqTermS p r) ∧ (∀ p r, laws_eqTermS_l0 p = some r → M_laws_eqTermS_l0 p r) := by
 refine laws_eqTerm.mutual_partial_correctness M_laws_eqTerm M_laws_eqTermS M_laws_eqTermS_l0 ?_ ?_ ?_
 ·rintro laws_eqTermS_f laws_eqTermS_ih ⟨a0, b1⟩ r h
  show FnSound Try.prog 17 [aTerm a0, aTerm b1] (.bool r) []
  refine FnSound.body0 tiok (fn := Try.f17) (code := B17) (by kernel_rfl) (by kernel_rfl) (by kernel_rfl) (by kernel_rfl) (nt := 27) (by kernel_rfl) (by kernel_rfl) (T := [(0, aTerm a0), (1, aTerm b1)]) (O := []) (by kernel_rfl) (by kernel_rfl) (fun c hc => ?_)
  refine sN ?_
  refine rg hc none [some (.new 1), some (.new 2), oN] [(2, .ra 1 0), (3, .ra 2 0)] [(1, bTerm a0), (2, bTerm b1)] trivial ?_
  refine seqQ_norm ?_
  refine sN ?_
  refine sN ?_
  refine rg0 hc 5 [(2, .ra 1 0), (3, .ra 2 0), (9, .bool (a0.fOp != b1.fOp))] [(1, bTerm a0), (2, bTerm b1)] ?_
  refine seqQ_norm ?_
  rcases itesome h with ⟨hb_1, h⟩ | ⟨hb_1, h⟩
  ·refine cT ((a0.fOp != b1.fOp)) hb_1 ?_
   refine sN ?_
   refine rg0 hc 1 [(4, .bool false)] [] ?_
   refine seqQ_norm ?_
   refine Wp.retN (by kernel_rfl) ?_
   refine seqQ_ret ?_
   obtain rfl := Option.some.inj h
   exact RetQ.ret (fl := [true]) (by kernel_rfl)
  ·refine cF ((a0.fOp != b1.fOp)) hb_1 ?_
   refine Wp.skipN (by kernel_rfl) ?_
   refine seqQ_norm ?_
   refine sN ?_
   refine sN ?_
   refine rg0 hc 5 [(2, .ra 1 0), (3, .ra 2 0), (14, .bool (a0.fN != b1.fN))] [(1, bTerm a0), (2, bTerm b1)] ?_
   refine seqQ_norm ?_
   rcases itesome h with ⟨hb_2, h⟩ | ⟨hb_2, h⟩
   ·refine cT ((a0.fN != b1.fN)) hb_2 ?_
    refine sN ?_
    refine rg0 hc 1 [(4, .bool false)] [] ?_
    refine seqQ_norm ?_
    refine Wp.retN (by kernel_rfl) ?_
    refine seqQ_ret ?_
    obtain rfl := Option.some.inj h
    exact RetQ.ret (fl := [true]) (by kernel_rfl)
   ·refine cF ((a0.fN != b1.fN)) hb_2 ?_
    refine Wp.skipN (by kernel_rfl) ?_
    refine seqQ_norm ?_
    refine sN ?_
    refine sN ?_
    obtain ⟨r_5_4, hr_5_4, h⟩ := bsome h
    refine rg hc none [oN, oN, oN, oN, oc (.bool r_5_4), oN] [(2, .ra 1 0), (3, .ra 2 0), (20, .bool (!r_5_4))] [(1, bTerm a0), (2, bTerm b1)] (ai (laws_eqIntS_s _ _ hr_5_4) (ai bod_16 (ai (oi (.bool r_5_4)) trivial))) ?_
    refine seqQ_norm ?_
    rcases itesome h with ⟨hb_3, h⟩ | ⟨hb_3, h⟩
    ·refine cF (!r_5_4) (nF hb_3) ?_
     refine Wp.skipN (by kernel_rfl) ?_
     refine seqQ_norm ?_
     refine sN ?_
     refine sN ?_
     obtain ⟨r_7_4, hr_7_4, h⟩ := bsome h
     refine rg hc none [oN, oN, oN, oN, oc (.bool r_7_4), oN] [(26, .bool (!r_7_4))] [] (ai (laws_eqTermS_ih _ _ hr_7_4) (ai bod_43 (ai (oi (.bool r_7_4)) trivial))) ?_
     refine seqQ_norm ?_
     rcases itesome h with ⟨hb_4, h⟩ | ⟨hb_4, h⟩
     ·refine cF (!r_7_4) (nF hb_4) ?_
      refine Wp.skipN (by kernel_rfl) ?_
      refine seqQ_norm ?_
      refine sN ?_
      refine rg0 hc 1 [(4, .bool true)] [] ?_
      refine seqQ_norm ?_
      refine Wp.retN (by kernel_rfl) ?_
      obtain rfl := Option.some.inj h
      exact RetQ.ret (fl := [true]) (by kernel_rfl)
     ·refine cT (!r_7_4) (nT hb_4) ?_
      refine sN ?_
      refine rg0 hc 1 [(4, .bool false)] [] ?_
      refine seqQ_norm ?_
      refine Wp.retN (by kernel_rfl) ?_
      refine seqQ_ret ?_
      obtain rfl := Option.some.inj h
      exact RetQ.ret (fl := [true]) (by kernel_rfl)
    ·refine cT (!r_5_4) (nT hb_3) ?_
     refine sN ?_
     refine rg0 hc 1 [(4, .bool false)] [] ?_
     refine seqQ_norm ?_
     refine Wp.retN (by kernel_rfl) ?_
     refine seqQ_ret ?_
     obtain rfl := Option.some.inj h
     exact RetQ.ret (fl := [true]) (by kernel_rfl)
 ·rintro laws_eqTermS_l0_f laws_eqTermS_l0_ih ⟨a0, b1⟩ r h
  show FnSound Try.prog 43 [.sl (List.map GTerm_S a0), .sl (List.map GTerm_S b1)] (.bool r) []
  refine FnSound.body0 tiok (fn := Try.f43) (code := B43) (by kernel_rfl) (by kernel_rfl) (by kernel_rfl) (by kernel_rfl) (nt := 27) (by kernel_rfl) (by kernel_rfl) (T := [(0, .sl (List.map GTerm_S a0)), (1, .sl (List.map GTerm_S b1))]) (O := []) (by kernel_rfl) (by kernel_rfl) (fun c hc => ?_)
  refine sN ?_
  refine rg0 hc 1 [(0, .sl (List.map GTerm_S a0)), (1, .sl (List.map GTerm_S b1))] [] ?_
  refine seqQ_norm ?_
  refine sN ?_
  refine sN ?_
  refine rg hc none [oN, some (.eqv (.no) ⟨[(7, I (a0.length : Int))], [], []⟩), oN, some (.eqv (.no) ⟨[(9, I (b1.length : Int))], [], []⟩), oN] [(0, .sl (List.map GTerm_S a0)), (1, .sl (List.map GTerm_S b1)), (10, .bool ((a0.length : Int) != (b1.length : Int)))] [] (ai (lenT (d := 7) GTerm_S a0) (ai (lenT (d := 9) GTerm_S b1) trivial)) ?_
  refine seqQ_norm ?_
  rcases itesome h with ⟨hb_1, h⟩ | ⟨hb_1, h⟩
  ·refine cT (((a0.length : Int) != (b1.length : Int))) hb_1 ?_
   refine sN ?_
   refine rg0 hc 1 [(4, .bool false)] [] ?_
   refine seqQ_norm ?_
   refine Wp.retN (by kernel_rfl) ?_
   refine seqQ_ret ?_
   obtain rfl := Option.some.inj h
   exact RetQ.ret (fl := [true]) (by kernel_rfl)
  ·refine cF (((a0.length : Int) != (b1.length : Int))) hb_1 ?_
   refine Wp.skipN (by kernel_rfl) ?_
   refine seqQ_norm ?_
   refine sN ?_
   refine sN ?_
   refine rg0 hc 1 [(0, .sl (List.map GTerm_S a0)), (1, .sl (List.map GTerm_S b1)), (5, I 0)] [] ?_
   refine seqQ_norm ?_
   refine Wp.blockN (i := 0) (by kernel_rfl) ?_
   obtain ⟨fl, hl_7, h⟩ := bsome h
   have hL := laws_eqTermS_l0_ih _ _ hl_7 c hc
   refine Wp.loopN (by kernel_rfl) ?_
   rcases fl with ⟨⟩ | r
   ·refine WpL.into (e := (.exit 0)) (mkS [] []) hL ?_
    refine blockQ_hit ?_
    refine seqQ_norm ?_
    refine sN ?_
    refine rg0 hc 1 [(4, .bool true)] [] ?_
    refine seqQ_norm ?_
    refine Wp.retN (by kernel_rfl) ?_
    obtain rfl := Option.some.inj h
    exact RetQ.ret (fl := [true]) (by kernel_rfl)
   ·refine WpL.mono hL ?_
    rintro _ _ ⟨rfl, hfin⟩
    refine blockQ_ret ?_
    refine seqQ_ret ?_
    obtain rfl := Option.some.inj h
    exact ⟨.inl rfl, hfin⟩
 ·rintro laws_eqTerm_f laws_eqTermS_l0_f laws_eqTerm_ih laws_eqTermS_l0_ih ⟨a0, b1, i_4⟩ r h
  intro c hc
  show WpL Try.prog c (cl (cl (cr (cl (cr (cr B43)))))) (laws_eqTermS_F1 c r) (mkS [(0, .sl (List.map GTerm_S a0)), (1, .sl (List.map GTerm_S b1)), (5, I i_4)] [])
  refine WpL.step ?_
  refine sN ?_
  refine sN ?_
  refine rg hc none [oN, oN, some (.eqv (.no) ⟨[(13, I (a0.length : Int))], [], []⟩), oN] [(0, .sl (List.map GTerm_S a0)), (1, .sl (List.map GTerm_S b1)), (5, I i_4), (14, .bool (decide (i_4 < (a0.length : Int))))] [] (ai (lenT (d := 13) GTerm_S a0) trivial) ?_
  refine seqQ_norm ?_
  rcases itesome h with ⟨hb_5, h⟩ | ⟨hb_5, h⟩
  ·refine cT ((decide (i_4 < (a0.length : Int)))) hb_5 ?_
   refine Wp.skipN (by kernel_rfl) ?_
   refine seqQ_norm ?_
   refine sN ?_
   refine Wp.blockN (i := 1) (by kernel_rfl) ?_
   refine sN ?_
   obtain ⟨e_6_2, hi_6_2, h⟩ := bsome h
   obtain ⟨e_6_6, hi_6_6, h⟩ := bsome h
   obtain ⟨r_6_8, hr_6_8, h⟩ := bsome h
   refine rg hc (rx [[0], [0], [2], [3], [0], [0], [0, 4, 5], [0, 4, 5, 6], [8], [9]]) [oN, oN, some (.el (aTerm e_6_2)), oN, oN, oN, some (.el (aTerm e_6_6)), oN, oc (.bool r_6_8), oN] [(0, .sl (List.map GTerm_S a0)), (1, .sl (List.map GTerm_S b1)), (5, I i_4), (26, .bool (!r_6_8))] [] (ai (idx_sl (enc := GTerm_S) (x := aTerm e_6_2) hi_6_2 (eq_GTerm_S e_6_2)) (ai (idx_sl (enc := GTerm_S) (x := aTerm e_6_6) hi_6_6 (eq_GTerm_S e_6_6)) (ai (laws_eqTerm_ih _ _ hr_6_8) (ai bod_17 (ai (oi (.bool r_6_8)) trivial))))) ?_
   refine seqQ_norm ?_
   rcases itesome h with ⟨hb_6, h⟩ | ⟨hb_6, h⟩
   ·refine cF (!r_6_8) (nF hb_6) ?_
    refine Wp.skipN (by kernel_rfl) ?_
    refine blockQ_norm ?_
    refine seqQ_norm ?_
    refine rg0 hc 3 [(0, .sl (List.map GTerm_S a0)), (1, .sl (List.map GTerm_S b1)), (5, I (wr (i_4 + 1)))] [] ?_
    refine loopQ_norm ?_
    exact (laws_eqTermS_l0_ih _ _ h c hc)
   ·refine cT (!r_6_8) (nT hb_6) ?_
    refine sN ?_
    refine rg0 hc 1 [(4, .bool false)] [] ?_
    refine seqQ_norm ?_
    refine Wp.retN (by kernel_rfl) ?_
    refine blockQ_ret ?_
    refine seqQ_ret ?_
    refine loopQ_ret ?_
    obtain rfl := Option.some.inj h
    exact RetE.ret (fl := [true]) (by kernel_rfl)
  ·refine cF ((decide (i_4 < (a0.length : Int)))) hb_5 ?_
   refine Wp.exitN (i := 0) (by kernel_rfl) ?_
   refine seqQ_exit ?_
   refine loopQ_exit ?_
   obtain rfl := Option.some.inj h
   exact Into.view (fun a w hv => SRx.renL [] hv (by kernel_rfl) (by kernel_rfl) (by kernel_rfl))
theorem laws_eqTerm_s : ∀ p r, laws_eqTerm p = some r → M_laws_eqTerm p r := laws_eqTerm_all.1
theorem laws_eqTermS_s : ∀ p r, laws_eqTermS p = some r → M_laws_eqTermS p r := laws_eqTerm_all.2.1
theorem laws_eqTermS_l0_s : ∀ p r, laws_eqTermS_l0 p = some r → M_laws_eqTermS_l0 p r := laws_eqTerm_all.2.2
def laws_FnExactAlikeValues (p : GSystem × (List Int) × (List Int) × GTerm × GTerm) : Option (Bool) :=
 match p with
 | (aS0, aView1, aTy2, aV3, aW4) =>
  if (decide ((aView1.length : Int) > 1048576)) = true then
   some true
  else
   if (decide ((aTy2.length : Int) > 1048576)) = true then
    some true
   else
    (laws_szSystem (aS0, 1048576)) >>= fun r_6_2 =>
    if (decide (r_6_2 < 0)) = true then
     some true
    else
     (laws_szTerm (aV3, r_6_2)) >>= fun r_9_2 =>
     if (decide (r_9_2 < 0)) = true then
      some true
     else
      (laws_szTerm (aW4, r_9_2)) >>= fun r_12_2 =>
      if (decide (r_12_2 < 0)) = true then
       some true
      else
       (laws_toSystem aS0) >>= fun r_15_1 =>
       (laws_toIntS aView1) >>= fun r_15_3 =>
       (laws_toIntS aTy2) >>= fun r_15_5 =>
       (laws_toTerm aV3) >>= fun r_15_7 =>
       (laws_toTerm aW4) >>= fun r_15_9 =>
       (spec_AlikeValues (r_15_1, r_15_3, r_15_5, r_15_7, r_15_9)) >>= fun r_15_10 =>
       (laws_toSystem aS0) >>= fun r_16_1 =>
       (laws_toIntS aView1) >>= fun r_17_1 =>
       (laws_toIntS aTy2) >>= fun r_18_1 =>
       (laws_toTerm aV3) >>= fun r_19_1 =>
       (laws_toTerm aW4) >>= fun r_20_1 =>
       (impl_AlikeValues (r_16_1, r_17_1, r_18_1, r_19_1, r_20_1)) >>= fun r_21_5 =>
       if (r_21_5 == r_15_10) = true then
        (laws_toSystem aS0) >>= fun r_24_2 =>
        (laws_eqSystem (r_16_1, r_24_2)) >>= fun r_24_3 =>
        if r_24_3 = true then
         (laws_toIntS aView1) >>= fun r_26_2 =>
         (laws_eqIntS (r_17_1, r_26_2)) >>= fun r_26_3 =>
         if r_26_3 = true then
          (laws_toIntS aTy2) >>= fun r_28_2 =>
          (laws_eqIntS (r_18_1, r_28_2)) >>= fun r_28_3 =>
          if r_28_3 = true then
           (laws_toTerm aV3) >>= fun r_30_2 =>
           (laws_eqTerm (r_19_1, r_30_2)) >>= fun r_30_3 =>
           if r_30_3 = true then
            (laws_toTerm aW4) >>= fun r_32_2 =>
            (laws_eqTerm (r_20_1, r_32_2)) >>= fun r_32_3 =>
            if r_32_3 = true then
             some true
            else
             some false
           else
            some false
          else
           some false
         else
          some false
        else
         some false
       else
        some false
def M_laws_FnExactAlikeValues (p : GSystem × (List Int) × (List Int) × GTerm × GTerm) (r : Bool) : Prop :=
 match p with
 | (aS0, aView1, aTy2, aV3, aW4) => FnSound Try.prog 4 [aSystem aS0, sI aView1, sI aTy2, aTerm aV3, aTerm aW4] (.bool r) []
theorem laws_FnExactAlikeValues_s : ∀ p r, laws_FnExactAlikeValues p = some r → M_laws_FnExactAlikeValues p r := by
 rintro ⟨aS0, aView1, aTy2, aV3, aW4⟩ r h
 unfold laws_FnExactAlikeValues at h
 show FnSound Try.prog 4 [aSystem aS0, sI aView1, sI aTy2, aTerm aV3, aTerm aW4] (.bool r) []
 refine FnSound.body0 tiok (fn := Try.f4) (code := B4) (by kernel_rfl) (by kernel_rfl) (by kernel_rfl) (by kernel_rfl) (nt := 95) (by kernel_rfl) (by kernel_rfl) (T := [(0, aSystem aS0), (1, sI aView1), (2, sI aTy2), (3, aTerm aV3), (4, aTerm aW4)]) (O := []) (by kernel_rfl) (by kernel_rfl) (fun c hc => ?_)
 refine sN ?_
 refine rg hc none [some (.new 1), some (.new 2), some (.new 3), oN] [(1, sI aView1), (2, sI aTy2), (5, .ra 1 0), (8, .ra 2 0), (9, .ra 3 0)] [(1, bSystem aS0), (2, bTerm aV3), (3, bTerm aW4)] trivial ?_
 refine seqQ_norm ?_
 refine sN ?_
 refine sN ?_
 refine rg hc none [oN, some (.eqv (.no) ⟨[(20, I (aView1.length : Int))], [], []⟩), oN] [(1, sI aView1), (2, sI aTy2), (5, .ra 1 0), (8, .ra 2 0), (9, .ra 3 0), (21, .bool (decide ((aView1.length : Int) > 1048576)))] [(1, bSystem aS0), (2, bTerm aV3), (3, bTerm aW4)] (ai (lenT (d := 20) I aView1) trivial) ?_
 refine seqQ_norm ?_
 rcases itesome h with ⟨hb_1, h⟩ | ⟨hb_1, h⟩
 ·refine cT ((decide ((aView1.length : Int) > 1048576))) hb_1 ?_
  refine sN ?_
  refine rg0 hc 1 [(10, .bool true)] [] ?_
  refine seqQ_norm ?_
  refine Wp.retN (by kernel_rfl) ?_
  refine seqQ_ret ?_
  obtain rfl := Option.some.inj h
  exact RetQ.ret (fl := [true]) (by kernel_rfl)
 ·refine cF ((decide ((aView1.length : Int) > 1048576))) hb_1 ?_
  refine Wp.skipN (by kernel_rfl) ?_
  refine seqQ_norm ?_
  refine sN ?_
  refine sN ?_
  refine rg hc none [oN, some (.eqv (.no) ⟨[(23, I (aTy2.length : Int))], [], []⟩), oN] [(1, sI aView1), (2, sI aTy2), (5, .ra 1 0), (8, .ra 2 0), (9, .ra 3 0), (24, .bool (decide ((aTy2.length : Int) > 1048576)))] [(1, bSystem aS0), (2, bTerm aV3), (3, bTerm aW4)] (ai (lenT (d := 23) I aTy2) trivial) ?_
  refine seqQ_norm ?_
  rcases itesome h with ⟨hb_2, h⟩ | ⟨hb_2, h⟩
  ·refine cT ((decide ((aTy2.length : Int) > 1048576))) hb_2 ?_
   refine sN ?_
   refine rg0 hc 1 [(10, .bool true)] [] ?_
   refine seqQ_norm ?_
   refine Wp.retN (by kernel_rfl) ?_
   refine seqQ_ret ?_
   obtain rfl := Option.some.inj h
   exact RetQ.ret (fl := [true]) (by kernel_rfl)
  ·refine cF ((decide ((aTy2.length : Int) > 1048576))) hb_2 ?_
   refine Wp.skipN (by kernel_rfl) ?_
   refine seqQ_norm ?_
   refine sN ?_
   refine rg0 hc 1 [(1, sI aView1), (2, sI aTy2), (5, .ra 1 0), (8, .ra 2 0), (9, .ra 3 0), (11, I 1048576)] [(1, bSystem aS0), (2, bTerm aV3), (3, bTerm aW4)] ?_
   refine seqQ_norm ?_
   refine sN ?_
   obtain ⟨r_6_2, hr_6_2, h⟩ := bsome h
   refine rg hc none [oN, oN, oc (I r_6_2), oN] [(1, sI aView1), (2, sI aTy2), (5, .ra 1 0), (8, .ra 2 0), (9, .ra 3 0), (11, I r_6_2)] [(1, bSystem aS0), (2, bTerm aV3), (3, bTerm aW4)] (ai (laws_szSystem_s _ _ hr_6_2) (ai bod_8 (ai (oi (I r_6_2)) trivial))) ?_
   refine seqQ_norm ?_
   refine sN ?_
   refine sN ?_
   refine rg0 hc 2 [(1, sI aView1), (2, sI aTy2), (5, .ra 1 0), (8, .ra 2 0), (9, .ra 3 0), (11, I r_6_2), (29, .bool (decide (r_6_2 < 0)))] [(1, bSystem aS0), (2, bTerm aV3), (3, bTerm aW4)] ?_
   refine seqQ_norm ?_
   rcases itesome h with ⟨hb_3, h⟩ | ⟨hb_3, h⟩
   ·refine cT ((decide (r_6_2 < 0))) hb_3 ?_
    refine sN ?_
    refine rg0 hc 1 [(10, .bool true)] [] ?_
    refine seqQ_norm ?_
    refine Wp.retN (by kernel_rfl) ?_
    refine seqQ_ret ?_
    obtain rfl := Option.some.inj h
    exact RetQ.ret (fl := [true]) (by kernel_rfl)
   ·refine cF ((decide (r_6_2 < 0))) hb_3 ?_
    refine Wp.skipN (by kernel_rfl) ?_
    refine seqQ_norm ?_
    refine sN ?_
    obtain ⟨r_9_2, hr_9_2, h⟩ := bsome h
    refine rg hc none [oN, oN, oc (I r_9_2), oN] [(1, sI aView1), (2, sI aTy2), (5, .ra 1 0), (8, .ra 2 0), (9, .ra 3 0), (11, I r_9_2)] [(1, bSystem aS0), (2, bTerm aV3), (3, bTerm aW4)] (ai (laws_szTerm_s _ _ hr_9_2) (ai bod_9 (ai (oi (I r_9_2)) trivial))) ?_
    refine seqQ_norm ?_
    refine sN ?_
    refine sN ?_
    refine rg0 hc 2 [(1, sI aView1), (2, sI aTy2), (5, .ra 1 0), (8, .ra 2 0), (9, .ra 3 0), (11, I r_9_2), (34, .bool (decide (r_9_2 < 0)))] [(1, bSystem aS0), (2, bTerm aV3), (3, bTerm aW4)] ?_
    refine seqQ_norm ?_
    rcases itesome h with ⟨hb_4, h⟩ | ⟨hb_4, h⟩
    ·refine cT ((decide (r_9_2 < 0))) hb_4 ?_
     refine sN ?_
     refine rg0 hc 1 [(10, .bool true)] [] ?_
     refine seqQ_norm ?_
     refine Wp.retN (by kernel_rfl) ?_
     refine seqQ_ret ?_
     obtain rfl := Option.some.inj h
     exact RetQ.ret (fl := [true]) (by kernel_rfl)
    ·refine cF ((decide (r_9_2 < 0))) hb_4 ?_
     refine Wp.skipN (by kernel_rfl) ?_
     refine seqQ_norm ?_
     refine sN ?_
     obtain ⟨r_12_2, hr_12_2, h⟩ := bsome h
     refine rg hc none [oN, oN, oc (I r_12_2), oN] [(1, sI aView1), (2, sI aTy2), (5, .ra 1 0), (8, .ra 2 0), (9, .ra 3 0), (11, I r_12_2)] [(1, bSystem aS0), (2, bTerm aV3), (3, bTerm aW4)] (ai (laws_szTerm_s _ _ hr_12_2) (ai bod_9 (ai (oi (I r_12_2)) trivial))) ?_
     refine seqQ_norm ?_
     refine sN ?_
     refine sN ?_
     refine rg0 hc 2 [(1, sI aView1), (2, sI aTy2), (5, .ra 1 0), (8, .ra 2 0), (9, .ra 3 0), (39, .bool (decide (r_12_2 < 0)))] [(1, bSystem aS0), (2, bTerm aV3), (3, bTerm aW4)] ?_
     refine seqQ_norm ?_
     rcases itesome h with ⟨hb_5, h⟩ | ⟨hb_5, h⟩
     ·refine cT ((decide (r_12_2 < 0))) hb_5 ?_
      refine sN ?_
      refine rg0 hc 1 [(10, .bool true)] [] ?_
      refine seqQ_norm ?_
      refine Wp.retN (by kernel_rfl) ?_
      refine seqQ_ret ?_
      obtain rfl := Option.some.inj h
      exact RetQ.ret (fl := [true]) (by kernel_rfl)
     ·refine cF ((decide (r_12_2 < 0))) hb_5 ?_
      refine Wp.skipN (by kernel_rfl) ?_
      refine seqQ_norm ?_
      refine sN ?_
      obtain ⟨r_15_1, hr_15_1, h⟩ := bsome h
      obtain ⟨r_15_3, hr_15_3, h⟩ := bsome h
      obtain ⟨r_15_5, hr_15_5, h⟩ := bsome h
      obtain ⟨r_15_7, hr_15_7, h⟩ := bsome h
      obtain ⟨r_15_9, hr_15_9, h⟩ := bsome h
      obtain ⟨r_15_10, hr_15_10, h⟩ := bsome h
      refine rg hc (rh [0, 1, 0, 3, 0, 5, 0, 7, 0, 9, 10, 11]) [oN, some (.call (qSystem r_15_1) [] 4), oN, some (.call (.osl (List.map I r_15_3)) [] 7), oN, some (.call (.osl (List.map I r_15_5)) [] 8), oN, some (.call (qTerm r_15_7) [] 9), oN, some (.call (qTerm r_15_9) [] 11), oc (.bool r_15_10), oN] [(1, sI aView1), (2, sI aTy2), (5, .ra 1 0), (8, .ra 2 0), (9, .ra 3 0), (12, .bool r_15_10)] [(1, bSystem aS0), (2, bTerm aV3), (3, bTerm aW4)] (ai (laws_toSystem_s _ _ hr_15_1) (ai bod_11 (ai (oi (qSystem r_15_1)) (ai (laws_toIntS_s _ _ hr_15_3) (ai bod_12 (ai (oi (.osl (List.map I r_15_3))) (ai (laws_toIntS_s _ _ hr_15_5) (ai bod_12 (ai (oi (.osl (List.map I r_15_5))) (ai (laws_toTerm_s _ _ hr_15_7) (ai bod_13 (ai (oi (qTerm r_15_7)) (ai (laws_toTerm_s _ _ hr_15_9) (ai bod_13 (ai (oi (qTerm r_15_9)) (ai (FnSound.args (A1 := [hSystem r_15_1, .sl (shares (List.map I r_15_3)), .sl (shares (List.map I r_15_5)), hTerm r_15_7, hTerm r_15_9]) (A2 := [aSystem r_15_1, sI r_15_3, sI r_15_5, aTerm r_15_7, aTerm r_15_9]) (by simp only [sI, sB, aSystem, aTerm, hSystem, hTerm, List.map_nil, sh_B, sh_GTerm_O, sh_I]) (spec_AlikeValues_s _ _ hr_15_10)) (ai bod_18 (ai (Or.inr rfl : ([4, 5, 6, 7, 8, 9, 10, 11, 12] : List Nat) = [] ∨ noSh (.bool r_15_10) = true) trivial)))))))))))))))))) ?_
      refine seqQ_norm ?_
      refine sN ?_
      obtain ⟨r_16_1, hr_16_1, h⟩ := bsome h
      refine rg hc none [oN, some (.call (qSystem r_16_1) [] 13), some (.new 16), oN] [(1, sI aView1), (2, sI aTy2), (5, .ra 1 0), (8, .ra 2 0), (9, .ra 3 0), (12, .bool r_15_10), (13, .ra 16 0)] [(1, bSystem aS0), (2, bTerm aV3), (3, bTerm aW4), (13, .arr (List.map I r_16_1.fPlus)), (14, .arr (List.map I r_16_1.fTimes)), (15, .arr (List.map AV.bool r_16_1.fBelow)), (16, .box [I r_16_1.fSize, .rs 13, .rs 14, .rs 15])] (ai (laws_toSystem_s _ _ hr_16_1) (ai bod_11 (ai (oi (qSystem r_16_1)) trivial))) ?_
      refine seqQ_norm ?_
      refine sN ?_
      obtain ⟨r_17_1, hr_17_1, h⟩ := bsome h
      refine rg hc none [oN, some (.call (.osl (List.map I r_17_1)) [] 17), oN] [(1, sI aView1), (2, sI aTy2), (5, .ra 1 0), (8, .ra 2 0), (9, .ra 3 0), (12, .bool r_15_10), (13, .ra 16 0), (14, .rs 17)] [(1, bSystem aS0), (2, bTerm aV3), (3, bTerm aW4), (13, .arr (List.map I r_16_1.fPlus)), (14, .arr (List.map I r_16_1.fTimes)), (15, .arr (List.map AV.bool r_16_1.fBelow)), (16, .box [I r_16_1.fSize, .rs 13, .rs 14, .rs 15]), (17, .arr (List.map I r_17_1))] (ai (laws_toIntS_s _ _ hr_17_1) (ai bod_12 (ai (oi (.osl (List.map I r_17_1))) trivial))) ?_
      refine seqQ_norm ?_
      refine sN ?_
      obtain ⟨r_18_1, hr_18_1, h⟩ := bsome h
      refine rg hc none [oN, some (.call (.osl (List.map I r_18_1)) [] 18), oN] [(1, sI aView1), (2, sI aTy2), (5, .ra 1 0), (8, .ra 2 0), (9, .ra 3 0), (12, .bool r_15_10), (13, .ra 16 0), (14, .rs 17), (15, .rs 18)] [(1, bSystem aS0), (2, bTerm aV3), (3, bTerm aW4), (13, .arr (List.map I r_16_1.fPlus)), (14, .arr (List.map I r_16_1.fTimes)), (15, .arr (List.map AV.bool r_16_1.fBelow)), (16, .box [I r_16_1.fSize, .rs 13, .rs 14, .rs 15]), (17, .arr (List.map I r_17_1)), (18, .arr (List.map I r_18_1))] (ai (laws_toIntS_s _ _ hr_18_1) (ai bod_12 (ai (oi (.osl (List.map I r_18_1))) trivial))) ?_
      refine seqQ_norm ?_
      refine sN ?_
      obtain ⟨r_19_1, hr_19_1, h⟩ := bsome h
      refine rg hc none [oN, some (.call (qTerm r_19_1) [] 19), some (.new 21), oN] [(1, sI aView1), (2, sI aTy2), (5, .ra 1 0), (8, .ra 2 0), (9, .ra 3 0), (12, .bool r_15_10), (13, .ra 16 0), (14, .rs 17), (15, .rs 18), (16, .ra 21 0)] [(1, bSystem aS0), (2, bTerm aV3), (3, bTerm aW4), (13, .arr (List.map I r_16_1.fPlus)), (14, .arr (List.map I r_16_1.fTimes)), (15, .arr (List.map AV.bool r_16_1.fBelow)), (16, .box [I r_16_1.fSize, .rs 13, .rs 14, .rs 15]), (17, .arr (List.map I r_17_1)), (18, .arr (List.map I r_18_1)), (19, .arr (List.map I r_19_1.fType)), (20, .arr (List.map GTerm_O r_19_1.fKids)), (21, .box [I r_19_1.fOp, I r_19_1.fN, .rs 19, .rs 20])] (ai (laws_toTerm_s _ _ hr_19_1) (ai bod_13 (ai (oi (qTerm r_19_1)) trivial))) ?_
      refine seqQ_norm ?_
      refine sN ?_
      obtain ⟨r_20_1, hr_20_1, h⟩ := bsome h
      refine rg hc none [oN, some (.call (qTerm r_20_1) [] 22), some (.new 24), oN] [(1, sI aView1), (2, sI aTy2), (5, .ra 1 0), (8, .ra 2 0), (9, .ra 3 0), (12, .bool r_15_10), (13, .ra 16 0), (14, .rs 17), (15, .rs 18), (16, .ra 21 0), (17, .ra 24 0)] [(1, bSystem aS0), (2, bTerm aV3), (3, bTerm aW4), (13, .arr (List.map I r_16_1.fPlus)), (14, .arr (List.map I r_16_1.fTimes)), (15, .arr (List.map AV.bool r_16_1.fBelow)), (16, .box [I r_16_1.fSize, .rs 13, .rs 14, .rs 15]), (17, .arr (List.map I r_17_1)), (18, .arr (List.map I r_18_1)), (19, .arr (List.map I r_19_1.fType)), (20, .arr (List.map GTerm_O r_19_1.fKids)), (21, .box [I r_19_1.fOp, I r_19_1.fN, .rs 19, .rs 20]), (22, .arr (List.map I r_20_1.fType)), (23, .arr (List.map GTerm_O r_20_1.fKids)), (24, .box [I r_20_1.fOp, I r_20_1.fN, .rs 22, .rs 23])] (ai (laws_toTerm_s _ _ hr_20_1) (ai bod_13 (ai (oi (qTerm r_20_1)) trivial))) ?_
      refine seqQ_norm ?_
      refine sN ?_
      obtain ⟨r_21_5, hr_21_5, h⟩ := bsome h
      refine rg hc none [oN, oN, oN, oN, oN, oc (.bool r_21_5), oN] [(1, sI aView1), (2, sI aTy2), (5, .ra 1 0), (8, .ra 2 0), (9, .ra 3 0), (12, .bool r_15_10), (13, .ra 16 0), (14, .rs 17), (15, .rs 18), (16, .ra 21 0), (17, .ra 24 0), (18, .bool r_21_5)] [(1, bSystem aS0), (2, bTerm aV3), (3, bTerm aW4), (13, .arr (List.map I r_16_1.fPlus)), (14, .arr (List.map I r_16_1.fTimes)), (15, .arr (List.map AV.bool r_16_1.fBelow)), (16, .box [I r_16_1.fSize, .rs 13, .rs 14, .rs 15]), (17, .arr (List.map I r_17_1)), (18, .arr (List.map I r_18_1)), (19, .arr (List.map I r_19_1.fType)), (20, .arr (List.map GTerm_O r_19_1.fKids)), (21, .box [I r_19_1.fOp, I r_19_1.fN, .rs 19, .rs 20]), (22, .arr (List.map I r_20_1.fType)), (23, .arr (List.map GTerm_O r_20_1.fKids)), (24, .box [I r_20_1.fOp, I r_20_1.fN, .rs 22, .rs 23])] (ai (FnSound.args (A1 := [hSystem r_16_1, .sl (shares (List.map I r_17_1)), .sl (shares (List.map I r_18_1)), hTerm r_19_1, hTerm r_20_1]) (A2 := [aSystem r_16_1, sI r_17_1, sI r_18_1, aTerm r_19_1, aTerm r_20_1]) (by simp only [sI, sB, aSystem, aTerm, hSystem, hTerm, List.map_nil, sh_B, sh_GTerm_O, sh_I]) (impl_AlikeValues_s _ _ hr_21_5)) (ai bod_19 (ai (Or.inr rfl : ([13, 14, 15, 17, 18, 19, 20, 22, 23] : List Nat) = [] ∨ noSh (.bool r_21_5) = true) trivial))) ?_
      refine seqQ_norm ?_
      refine sN ?_
      refine sN ?_
      refine rg0 hc 3 [(1, sI aView1), (2, sI aTy2), (5, .ra 1 0), (8, .ra 2 0), (9, .ra 3 0), (13, .ra 16 0), (14, .rs 17), (15, .rs 18), (16, .ra 21 0), (17, .ra 24 0), (69, .bool (!(r_21_5 == r_15_10)))] [(1, bSystem aS0), (2, bTerm aV3), (3, bTerm aW4), (13, .arr (List.map I r_16_1.fPlus)), (14, .arr (List.map I r_16_1.fTimes)), (15, .arr (List.map AV.bool r_16_1.fBelow)), (16, .box [I r_16_1.fSize, .rs 13, .rs 14, .rs 15]), (17, .arr (List.map I r_17_1)), (18, .arr (List.map I r_18_1)), (19, .arr (List.map I r_19_1.fType)), (20, .arr (List.map GTerm_O r_19_1.fKids)), (21, .box [I r_19_1.fOp, I r_19_1.fN, .rs 19, .rs 20]), (22, .arr (List.map I r_20_1.fType)), (23, .arr (List.map GTerm_O r_20_1.fKids)), (24, .box [I r_20_1.fOp, I r_20_1.fN, .rs 22, .rs 23])] ?_
      refine seqQ_norm ?_
      rcases itesome h with ⟨hb_6, h⟩ | ⟨hb_6, h⟩
      ·refine cF ((!(r_21_5 == r_15_10))) (nF hb_6) ?_
       refine Wp.skipN (by kernel_rfl) ?_
       refine seqQ_norm ?_
       refine sN ?_
       refine sN ?_
       obtain ⟨r_24_2, hr_24_2, h⟩ := bsome h
       obtain ⟨r_24_3, hr_24_3, h⟩ := bsome h
       refine rg hc ah11_1 [oN, oN, some (.call (qSystem r_24_2) [] 25), oc (.bool r_24_3), oN] [(1, sI aView1), (2, sI aTy2), (8, .ra 2 0), (9, .ra 3 0), (14, .rs 17), (15, .rs 18), (16, .ra 21 0), (17, .ra 24 0), (74, .bool (!r_24_3))] [(2, bTerm aV3), (3, bTerm aW4), (17, .arr (List.map I r_17_1)), (18, .arr (List.map I r_18_1)), (19, .arr (List.map I r_19_1.fType)), (20, .arr (List.map GTerm_O r_19_1.fKids)), (21, .box [I r_19_1.fOp, I r_19_1.fN, .rs 19, .rs 20]), (22, .arr (List.map I r_20_1.fType)), (23, .arr (List.map GTerm_O r_20_1.fKids)), (24, .box [I r_20_1.fOp, I r_20_1.fN, .rs 22, .rs 23])] (ai (laws_toSystem_s _ _ hr_24_2) (ai bod_11 (ai (oi (qSystem r_24_2)) (ai (FnSound.args (A1 := [hSystem r_16_1, hSystem r_24_2]) (A2 := [aSystem r_16_1, aSystem r_24_2]) (by simp only [sI, sB, aSystem, aTerm, hSystem, hTerm, List.map_nil, sh_B, sh_I]) (laws_eqSystem_s _ _ hr_24_3)) (ai bod_15 (ai (Or.inr rfl : ([13, 14, 15, 25, 26, 27] : List Nat) = [] ∨ noSh (.bool r_24_3) = true) trivial)))))) ?_
       refine seqQ_norm ?_
       rcases itesome h with ⟨hb_7, h⟩ | ⟨hb_7, h⟩
       ·refine cF (!r_24_3) (nF hb_7) ?_
        refine Wp.skipN (by kernel_rfl) ?_
        refine seqQ_norm ?_
        refine sN ?_
        refine sN ?_
        obtain ⟨r_26_2, hr_26_2, h⟩ := bsome h
        obtain ⟨r_26_3, hr_26_3, h⟩ := bsome h
        refine rg hc none [oN, oN, some (.call (.osl (List.map I r_26_2)) [] 28), oc (.bool r_26_3), oN] [(2, sI aTy2), (8, .ra 2 0), (9, .ra 3 0), (15, .rs 18), (16, .ra 21 0), (17, .ra 24 0), (79, .bool (!r_26_3))] [(2, bTerm aV3), (3, bTerm aW4), (18, .arr (List.map I r_18_1)), (19, .arr (List.map I r_19_1.fType)), (20, .arr (List.map GTerm_O r_19_1.fKids)), (21, .box [I r_19_1.fOp, I r_19_1.fN, .rs 19, .rs 20]), (22, .arr (List.map I r_20_1.fType)), (23, .arr (List.map GTerm_O r_20_1.fKids)), (24, .box [I r_20_1.fOp, I r_20_1.fN, .rs 22, .rs 23])] (ai (laws_toIntS_s _ _ hr_26_2) (ai bod_12 (ai (oi (.osl (List.map I r_26_2))) (ai (FnSound.args (A1 := [.sl (shares (List.map I r_17_1)), .sl (shares (List.map I r_26_2))]) (A2 := [sI r_17_1, sI r_26_2]) (by simp only [sI, sB, aSystem, aTerm, hSystem, hTerm, List.map_nil, sh_I]) (laws_eqIntS_s _ _ hr_26_3)) (ai bod_16 (ai (Or.inr rfl : ([17, 28] : List Nat) = [] ∨ noSh (.bool r_26_3) = true) trivial)))))) ?_
        refine seqQ_norm ?_
        rcases itesome h with ⟨hb_8, h⟩ | ⟨hb_8, h⟩
        ·refine cF (!r_26_3) (nF hb_8) ?_
         refine Wp.skipN (by kernel_rfl) ?_
         refine seqQ_norm ?_
         refine sN ?_
         refine sN ?_
         obtain ⟨r_28_2, hr_28_2, h⟩ := bsome h
         obtain ⟨r_28_3, hr_28_3, h⟩ := bsome h
         refine rg hc none [oN, oN, some (.call (.osl (List.map I r_28_2)) [] 29), oc (.bool r_28_3), oN] [(8, .ra 2 0), (9, .ra 3 0), (16, .ra 21 0), (17, .ra 24 0), (84, .bool (!r_28_3))] [(2, bTerm aV3), (3, bTerm aW4), (19, .arr (List.map I r_19_1.fType)), (20, .arr (List.map GTerm_O r_19_1.fKids)), (21, .box [I r_19_1.fOp, I r_19_1.fN, .rs 19, .rs 20]), (22, .arr (List.map I r_20_1.fType)), (23, .arr (List.map GTerm_O r_20_1.fKids)), (24, .box [I r_20_1.fOp, I r_20_1.fN, .rs 22, .rs 23])] (ai (laws_toIntS_s _ _ hr_28_2) (ai bod_12 (ai (oi (.osl (List.map I r_28_2))) (ai (FnSound.args (A1 := [.sl (shares (List.map I r_18_1)), .sl (shares (List.map I r_28_2))]) (A2 := [sI r_18_1, sI r_28_2]) (by simp only [sI, sB, aSystem, aTerm, hSystem, hTerm, List.map_nil, sh_I]) (laws_eqIntS_s _ _ hr_28_3)) (ai bod_16 (ai (Or.inr rfl : ([18, 29] : List Nat) = [] ∨ noSh (.bool r_28_3) = true) trivial)))))) ?_
         refine seqQ_norm ?_
         rcases itesome h with ⟨hb_9, h⟩ | ⟨hb_9, h⟩
         ·refine cF (!r_28_3) (nF hb_9) ?_
          refine Wp.skipN (by kernel_rfl) ?_
          refine seqQ_norm ?_
          refine sN ?_
          refine sN ?_
          obtain ⟨r_30_2, hr_30_2, h⟩ := bsome h
          obtain ⟨r_30_3, hr_30_3, h⟩ := bsome h
          refine rg hc ah11_1 [oN, oN, some (.call (qTerm r_30_2) [] 30), oc (.bool r_30_3), oN] [(9, .ra 3 0), (17, .ra 24 0), (89, .bool (!r_30_3))] [(3, bTerm aW4), (22, .arr (List.map I r_20_1.fType)), (23, .arr (List.map GTerm_O r_20_1.fKids)), (24, .box [I r_20_1.fOp, I r_20_1.fN, .rs 22, .rs 23])] (ai (laws_toTerm_s _ _ hr_30_2) (ai bod_13 (ai (oi (qTerm r_30_2)) (ai (FnSound.args (A1 := [hTerm r_19_1, hTerm r_30_2]) (A2 := [aTerm r_19_1, aTerm r_30_2]) (by simp only [sI, sB, aSystem, aTerm, hSystem, hTerm, List.map_nil, sh_GTerm_O, sh_I]) (laws_eqTerm_s _ _ hr_30_3)) (ai bod_17 (ai (Or.inr rfl : ([19, 20, 30, 31] : List Nat) = [] ∨ noSh (.bool r_30_3) = true) trivial)))))) ?_
          refine seqQ_norm ?_
          rcases itesome h with ⟨hb_10, h⟩ | ⟨hb_10, h⟩
          ·refine cF (!r_30_3) (nF hb_10) ?_
           refine Wp.skipN (by kernel_rfl) ?_
           refine seqQ_norm ?_
           refine sN ?_
           refine sN ?_
           obtain ⟨r_32_2, hr_32_2, h⟩ := bsome h
           obtain ⟨r_32_3, hr_32_3, h⟩ := bsome h
           refine rg hc ah11_1 [oN, oN, some (.call (qTerm r_32_2) [] 32), oc (.bool r_32_3), oN] [(94, .bool (!r_32_3))] [] (ai (laws_toTerm_s _ _ hr_32_2) (ai bod_13 (ai (oi (qTerm r_32_2)) (ai (FnSound.args (A1 := [hTerm r_20_1, hTerm r_32_2]) (A2 := [aTerm r_20_1, aTerm r_32_2]) (by simp only [sI, sB, aSystem, aTerm, hSystem, hTerm, List.map_nil, sh_GTerm_O, sh_I]) (laws_eqTerm_s _ _ hr_32_3)) (ai bod_17 (ai (Or.inr rfl : ([22, 23, 32, 33] : List Nat) = [] ∨ noSh (.bool r_32_3) = true) trivial)))))) ?_
           refine seqQ_norm ?_
           rcases itesome h with ⟨hb_11, h⟩ | ⟨hb_11, h⟩
           ·refine cF (!r_32_3) (nF hb_11) ?_
            refine Wp.skipN (by kernel_rfl) ?_
            refine seqQ_norm ?_
            refine sN ?_
            refine rg0 hc 1 [(10, .bool true)] [] ?_
            refine seqQ_norm ?_
            refine Wp.retN (by kernel_rfl) ?_
            obtain rfl := Option.some.inj h
            exact RetQ.ret (fl := [true]) (by kernel_rfl)
           ·refine cT (!r_32_3) (nT hb_11) ?_
            refine sN ?_
            refine rg0 hc 1 [(10, .bool false)] [] ?_
            refine seqQ_norm ?_
            refine Wp.retN (by kernel_rfl) ?_
            refine seqQ_ret ?_
            obtain rfl := Option.some.inj h
            exact RetQ.ret (fl := [true]) (by kernel_rfl)
          ·refine cT (!r_30_3) (nT hb_10) ?_
           refine sN ?_
           refine rg0 hc 1 [(10, .bool false)] [] ?_
           refine seqQ_norm ?_
           refine Wp.retN (by kernel_rfl) ?_
           refine seqQ_ret ?_
           obtain rfl := Option.some.inj h
           exact RetQ.ret (fl := [true]) (by kernel_rfl)
         ·refine cT (!r_28_3) (nT hb_9) ?_
          refine sN ?_
          refine rg0 hc 1 [(10, .bool false)] [] ?_
          refine seqQ_norm ?_
          refine Wp.retN (by kernel_rfl) ?_
          refine seqQ_ret ?_
          obtain rfl := Option.some.inj h
          exact RetQ.ret (fl := [true]) (by kernel_rfl)
        ·refine cT (!r_26_3) (nT hb_8) ?_
         refine sN ?_
         refine rg0 hc 1 [(10, .bool false)] [] ?_
         refine seqQ_norm ?_
         refine Wp.retN (by kernel_rfl) ?_
         refine seqQ_ret ?_
         obtain rfl := Option.some.inj h
         exact RetQ.ret (fl := [true]) (by kernel_rfl)
       ·refine cT (!r_24_3) (nT hb_7) ?_
        refine sN ?_
        refine rg0 hc 1 [(10, .bool false)] [] ?_
        refine seqQ_norm ?_
        refine Wp.retN (by kernel_rfl) ?_
        refine seqQ_ret ?_
        obtain rfl := Option.some.inj h
        exact RetQ.ret (fl := [true]) (by kernel_rfl)
      ·refine cT ((!(r_21_5 == r_15_10))) (nT hb_6) ?_
       refine sN ?_
       refine rg0 hc 1 [(10, .bool false)] [] ?_
       refine seqQ_norm ?_
       refine Wp.retN (by kernel_rfl) ?_
       refine seqQ_ret ?_
       obtain rfl := Option.some.inj h
       exact RetQ.ret (fl := [true]) (by kernel_rfl)
end Go.Am
