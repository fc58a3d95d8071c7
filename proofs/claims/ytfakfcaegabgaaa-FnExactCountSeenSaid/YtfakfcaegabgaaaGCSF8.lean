/- Functions of the program as pure functions, and that it computes them. Printed by a program of mine (gen.py). -/
import Derived.Test.YtfakfcaegabgaaaGCSF7
set_option linter.unusedVariables false
set_option linter.unusedSimpArgs false
set_option maxRecDepth 100000
namespace Go.Am
open Go Go.Proofs
def ah8_0 : Option (List (List Nat)) := rx [[0], [0], [0, 1], [0, 1, 2], [4], [0], [0], [0, 6], [0, 6, 7], [9], [10], [11]]
def ah8_1 : Option (List (List Nat)) := rx [[0], [0], [2], [3], [0], [0], [0, 4, 5], [0, 4, 5, 6], [8]]
def impl_seen (p : (List Int) × (List Int)) : Option (Int) :=
 match p with
 | (view0, ty1) =>
  (idx ty1 0) >>= fun e_1_1 =>
  (impl_shape e_1_1) >>= fun (r_1_3_0, r_1_3_1) =>
  (impl_parts ty1) >>= fun r_2_1 =>
  if (r_1_3_0 == 1) = true then
   (idx r_2_1 0) >>= fun e_4_2 =>
   (impl_seen (view0, e_4_2)) >>= fun r_4_4 =>
   (idx r_2_1 1) >>= fun e_4_7 =>
   (impl_seen (view0, e_4_7)) >>= fun r_4_9 =>
   some (wr (r_4_4 * r_4_9))
  else
   if (r_1_3_0 == 2) = true then
    (idx r_2_1 0) >>= fun e_6_2 =>
    (impl_seen (view0, e_6_2)) >>= fun r_6_4 =>
    (idx r_2_1 1) >>= fun e_6_7 =>
    (impl_seen (view0, e_6_7)) >>= fun r_6_9 =>
    some (wr (r_6_4 + r_6_9))
   else
    (
     if (r_1_3_0 == 4) = true then
      (slices_Contains_int (view0, r_1_3_1)) >>= fun r_7_5 =>
      some ((!r_7_5))
     else
      some (false)
    ) >>= fun v_3 =>
    if v_3 = true then
     some 1
    else
     if (r_1_3_0 == 4) = true then
      (idx r_2_1 0) >>= fun e_10_2 =>
      (impl_seen (view0, e_10_2)) >>= fun r_10_4 =>
      some r_10_4
     else
      some 3
 partial_fixpoint
def M_impl_seen (p : (List Int) × (List Int)) (r : Int) : Prop :=
 match p with
 | (view0, ty1) => FnSound Try.prog 71 [sI view0, sI ty1] (I r) []
theorem impl_seen_s : ∀ p r, impl_seen p = some r → M_impl_seen p r := by
 refine impl_seen.partial_correctness M_impl_seen ?_
 rintro impl_seen_f impl_seen_ih ⟨view0, ty1⟩ r h
 show FnSound Try.prog 71 [sI view0, sI ty1] (I r) []
 refine FnSound.body0 tiok (fn := Try.f71) (code := B71) (by kernel_rfl) (by kernel_rfl) (by kernel_rfl) (by kernel_rfl) (nt := 62) (by kernel_rfl) (by kernel_rfl) (T := [(0, sI view0), (1, sI ty1)]) (O := []) (by kernel_rfl) (by kernel_rfl) (fun c hc => ?_)
 refine sN ?_
 refine rg0 hc 1 [(0, sI view0), (1, sI ty1)] [] ?_
 refine seqQ_norm ?_
 refine sN ?_
 obtain ⟨e_1_1, hi_1_1, h⟩ := bsome h
 obtain ⟨⟨r_1_3_0, r_1_3_1⟩, hr_1_3, h⟩ := bsome h
 refine rg hc none [oN, some (.el (I e_1_1)), oN, oc (.tup [I r_1_3_0, I r_1_3_1]), oN, oN, oN, oN, oN] [(0, sI view0), (1, sI ty1), (5, I r_1_3_0), (6, I r_1_3_1)] [] (ai (ix hi_1_1) (ai (impl_shape_s _ _ hr_1_3) (ai bod_103 (ai (oi (.tup [I r_1_3_0, I r_1_3_1])) trivial)))) ?_
 refine seqQ_norm ?_
 refine sN ?_
 obtain ⟨r_2_1, hr_2_1, h⟩ := bsome h
 refine rg hc none [oN, oc (.osl (List.map LI_s r_2_1)), oN] [(0, sI view0), (5, I r_1_3_0), (6, I r_1_3_1), (7, .rs 1)] [(1, .arr (List.map LI_s r_2_1))] (ai (impl_parts_s _ _ hr_2_1) (ai bod_104 (ai (oi (.osl (List.map LI_s r_2_1))) trivial))) ?_
 refine seqQ_norm ?_
 refine sN ?_
 refine Wp.blockN (i := 0) (by kernel_rfl) ?_
 refine sN ?_
 refine rg0 hc 3 [(0, sI view0), (5, I r_1_3_0), (6, I r_1_3_1), (7, .rs 1), (17, .bool (r_1_3_0 == 1))] [(1, .arr (List.map LI_s r_2_1))] ?_
 refine seqQ_norm ?_
 rcases itesome h with ⟨hb_1, h⟩ | ⟨hb_1, h⟩
 ·refine cT ((r_1_3_0 == 1)) hb_1 ?_
  refine sN ?_
  obtain ⟨e_4_2, hi_4_2, h⟩ := bsome h
  obtain ⟨r_4_4, hr_4_4, h⟩ := bsome h
  obtain ⟨e_4_7, hi_4_7, h⟩ := bsome h
  obtain ⟨r_4_9, hr_4_9, h⟩ := bsome h
  refine rg hc ah8_0 [oN, oN, oN, some (.el (sI e_4_2)), oc (I r_4_4), oN, oN, oN, some (.el (sI e_4_7)), oc (I r_4_9), oN, oN] [(4, I (wr (r_4_4 * r_4_9)))] [] (ai (idx_own (enc := LI_s) hi_4_2) (ai (idx_sl (enc := LI_s) (x := sI e_4_2) hi_4_2 (eq_LI_s e_4_2)).2 (ai (impl_seen_ih _ _ hr_4_4) (ai bod_71 (ai (oi (I r_4_4)) (ai (idx_own (enc := LI_s) hi_4_7) (ai (idx_sl (enc := LI_s) (x := sI e_4_7) hi_4_7 (eq_LI_s e_4_7)).2 (ai (impl_seen_ih _ _ hr_4_9) (ai bod_71 (ai (oi (I r_4_9)) trivial)))))))))) ?_
  refine seqQ_norm ?_
  refine Wp.retN (by kernel_rfl) ?_
  refine blockQ_ret ?_
  refine seqQ_ret ?_
  obtain rfl := Option.some.inj h
  exact RetQ.ret (fl := [true]) (by kernel_rfl)
 ·refine cF ((r_1_3_0 == 1)) hb_1 ?_
  refine sN ?_
  refine rg0 hc 3 [(0, sI view0), (5, I r_1_3_0), (6, I r_1_3_1), (7, .rs 1), (31, .bool (r_1_3_0 == 2))] [(1, .arr (List.map LI_s r_2_1))] ?_
  refine seqQ_norm ?_
  rcases itesome h with ⟨hb_2, h⟩ | ⟨hb_2, h⟩
  ·refine cT ((r_1_3_0 == 2)) hb_2 ?_
   refine sN ?_
   obtain ⟨e_6_2, hi_6_2, h⟩ := bsome h
   obtain ⟨r_6_4, hr_6_4, h⟩ := bsome h
   obtain ⟨e_6_7, hi_6_7, h⟩ := bsome h
   obtain ⟨r_6_9, hr_6_9, h⟩ := bsome h
   refine rg hc ah8_0 [oN, oN, oN, some (.el (sI e_6_2)), oc (I r_6_4), oN, oN, oN, some (.el (sI e_6_7)), oc (I r_6_9), oN, oN] [(4, I (wr (r_6_4 + r_6_9)))] [] (ai (idx_own (enc := LI_s) hi_6_2) (ai (idx_sl (enc := LI_s) (x := sI e_6_2) hi_6_2 (eq_LI_s e_6_2)).2 (ai (impl_seen_ih _ _ hr_6_4) (ai bod_71 (ai (oi (I r_6_4)) (ai (idx_own (enc := LI_s) hi_6_7) (ai (idx_sl (enc := LI_s) (x := sI e_6_7) hi_6_7 (eq_LI_s e_6_7)).2 (ai (impl_seen_ih _ _ hr_6_9) (ai bod_71 (ai (oi (I r_6_9)) trivial)))))))))) ?_
   refine seqQ_norm ?_
   refine Wp.retN (by kernel_rfl) ?_
   refine blockQ_ret ?_
   refine seqQ_ret ?_
   obtain rfl := Option.some.inj h
   exact RetQ.ret (fl := [true]) (by kernel_rfl)
  ·refine cF ((r_1_3_0 == 2)) hb_2 ?_
   refine sN ?_
   obtain ⟨v_3, hj_4, h⟩ := bsome h
   refine Wp.into (x := .normal) (mkS [(0, sI view0), (5, I r_1_3_0), (7, .rs 1), (45, .bool v_3)] [(1, .arr (List.map LI_s r_2_1))]) ?_ ?_
   ·replace h := hj_4
    rcases itesome h with ⟨hb_7_0, h⟩ | ⟨hb_7_0, h⟩
    ·obtain ⟨r_7_5, hr_7_5, h⟩ := bsome h
     refine rg hc none [oN, oN, oN, oN, oN, oc (.bool r_7_5), oN, oT, oN] [(0, sI view0), (5, I r_1_3_0), (7, .rs 1), (45, .bool (!r_7_5))] [(1, .arr (List.map LI_s r_2_1))] (ar 3 hb_7_0 (ai (slices_Contains_int_s _ _ hr_7_5) (ai bod_120 (ai (oi (.bool r_7_5)) (ar 2 hb_7_0 trivial))))) ?_
     obtain rfl := Option.some.inj h
     exact Into.mk
    ·refine rg hc none [oN, oN, oN, o_, o_, o_, o_, oF, oN] [(0, sI view0), (5, I r_1_3_0), (7, .rs 1), (45, .bool false)] [(1, .arr (List.map LI_s r_2_1))] (ar 4 (neT hb_7_0) (ai hb_7_0 trivial)) ?_
     obtain rfl := Option.some.inj h
     exact Into.mk
   ·clear hj_4
    refine seqQ_norm ?_
    rcases itesome h with ⟨hb_5, h⟩ | ⟨hb_5, h⟩
    ·refine cT v_3 hb_5 ?_
     refine sN ?_
     refine rg0 hc 1 [(4, I 1)] [] ?_
     refine seqQ_norm ?_
     refine Wp.retN (by kernel_rfl) ?_
     refine blockQ_ret ?_
     refine seqQ_ret ?_
     obtain rfl := Option.some.inj h
     exact RetQ.ret (fl := [true]) (by kernel_rfl)
    ·refine cF v_3 hb_5 ?_
     refine sN ?_
     refine rg0 hc 3 [(0, sI view0), (7, .rs 1), (54, .bool (r_1_3_0 == 4))] [(1, .arr (List.map LI_s r_2_1))] ?_
     refine seqQ_norm ?_
     rcases itesome h with ⟨hb_6, h⟩ | ⟨hb_6, h⟩
     ·refine cT ((r_1_3_0 == 4)) hb_6 ?_
      refine sN ?_
      obtain ⟨e_10_2, hi_10_2, h⟩ := bsome h
      obtain ⟨r_10_4, hr_10_4, h⟩ := bsome h
      refine rg hc none [oN, oN, oN, some (.el (sI e_10_2)), oc (I r_10_4), oN] [(4, I r_10_4)] [] (ai (idx_own (enc := LI_s) hi_10_2) (ai (idx_sl (enc := LI_s) (x := sI e_10_2) hi_10_2 (eq_LI_s e_10_2)).2 (ai (impl_seen_ih _ _ hr_10_4) (ai bod_71 (ai (oi (I r_10_4)) trivial))))) ?_
      refine seqQ_norm ?_
      refine Wp.retN (by kernel_rfl) ?_
      refine blockQ_ret ?_
      refine seqQ_ret ?_
      obtain rfl := Option.some.inj h
      exact RetQ.ret (fl := [true]) (by kernel_rfl)
     ·refine cF ((r_1_3_0 == 4)) hb_6 ?_
      refine Wp.skipN (by kernel_rfl) ?_
      refine blockQ_norm ?_
      refine seqQ_norm ?_
      refine sN ?_
      refine rg0 hc 1 [(4, I 3)] [] ?_
      refine seqQ_norm ?_
      refine Wp.retN (by kernel_rfl) ?_
      obtain rfl := Option.some.inj h
      exact RetQ.ret (fl := [true]) (by kernel_rfl)
def impl_CountSeen (p : GSystem × (List Int) × (List Int)) : Option (Int) :=
 match p with
 | (s0, view1, ty2) =>
  (
   (impl_IsView (s0, view1)) >>= fun r_1_2 =>
   if r_1_2 = true then
    (impl_CountValues (s0, ty2)) >>= fun r_1_7 =>
    some ((decide (r_1_7 < 0)))
   else
    some (true)
  ) >>= fun v_1 =>
  if v_1 = true then
   some (-1)
  else
   (impl_seen (view1, ty2)) >>= fun r_3_2 =>
   some r_3_2
def M_impl_CountSeen (p : GSystem × (List Int) × (List Int)) (r : Int) : Prop :=
 match p with
 | (s0, view1, ty2) => FnSound Try.prog 28 [aSystem s0, sI view1, sI ty2] (I r) []
theorem impl_CountSeen_s : ∀ p r, impl_CountSeen p = some r → M_impl_CountSeen p r := by
 rintro ⟨s0, view1, ty2⟩ r h
 unfold impl_CountSeen at h
 show FnSound Try.prog 28 [aSystem s0, sI view1, sI ty2] (I r) []
 refine FnSound.body0 tiok (fn := Try.f28) (code := B28) (by kernel_rfl) (by kernel_rfl) (by kernel_rfl) (by kernel_rfl) (nt := 20) (by kernel_rfl) (by kernel_rfl) (T := [(0, aSystem s0), (1, sI view1), (2, sI ty2)]) (O := []) (by kernel_rfl) (by kernel_rfl) (fun c hc => ?_)
 refine sN ?_
 refine rg hc none [some (.new 1), oN] [(1, sI view1), (2, sI ty2), (3, .ra 1 0)] [(1, bSystem s0)] trivial ?_
 refine seqQ_norm ?_
 refine sN ?_
 refine sN ?_
 obtain ⟨v_1, hj_2, h⟩ := bsome h
 refine Wp.into (x := .normal) (mkS [(1, sI view1), (2, sI ty2), (16, .bool v_1)] []) ?_ ?_
 ·replace h := hj_2
  obtain ⟨r_1_2, hr_1_2, h⟩ := bsome h
  rcases itesome h with ⟨hb_1_0, h⟩ | ⟨hb_1_0, h⟩
  ·obtain ⟨r_1_7, hr_1_7, h⟩ := bsome h
   refine rg hc none [oN, oN, oc (.bool r_1_2), oN, oN, oN, oN, oc (I r_1_7), oN, oF] [(1, sI view1), (2, sI ty2), (16, .bool (decide (r_1_7 < 0)))] [] (ai (impl_IsView_s _ _ hr_1_2) (ai bod_69 (ai (oi (.bool r_1_2)) (ar 3 (nF hb_1_0) (ai (impl_CountValues_s _ _ hr_1_7) (ai bod_70 (ai (oi (I r_1_7)) (ar 2 (nF hb_1_0) trivial)))))))) ?_
   obtain rfl := Option.some.inj h
   exact Into.mk
  ·refine rg hc none [oN, oN, oc (.bool r_1_2), oN, oN, o_, o_, o_, o_, oT] [(1, sI view1), (2, sI ty2), (16, .bool true)] [] (ai (impl_IsView_s _ _ hr_1_2) (ai bod_69 (ai (oi (.bool r_1_2)) (ar 4 (neF (nT hb_1_0)) (ai (nT hb_1_0) trivial))))) ?_
   obtain rfl := Option.some.inj h
   exact Into.mk
 ·clear hj_2
  refine seqQ_norm ?_
  rcases itesome h with ⟨hb_3, h⟩ | ⟨hb_3, h⟩
  ·refine cT v_1 hb_3 ?_
   refine sN ?_
   refine rg0 hc 1 [(6, I (-1))] [] ?_
   refine seqQ_norm ?_
   refine Wp.retN (by kernel_rfl) ?_
   refine seqQ_ret ?_
   obtain rfl := Option.some.inj h
   exact RetQ.ret (fl := [true]) (by kernel_rfl)
  ·refine cF v_1 hb_3 ?_
   refine Wp.skipN (by kernel_rfl) ?_
   refine seqQ_norm ?_
   refine sN ?_
   obtain ⟨r_3_2, hr_3_2, h⟩ := bsome h
   refine rg hc none [oN, oN, oc (I r_3_2), oN] [(6, I r_3_2)] [] (ai (impl_seen_s _ _ hr_3_2) (ai bod_71 (ai (oi (I r_3_2)) trivial))) ?_
   refine seqQ_norm ?_
   refine Wp.retN (by kernel_rfl) ?_
   obtain rfl := Option.some.inj h
   exact RetQ.ret (fl := [true]) (by kernel_rfl)
def laws_eqIntS_F1 (c : Ctx) : (Unit) ⊕ (Bool) → Exit → AState → Prop
 | .inl _ => Into c (.exit 0) (mkS [] [])
 | .inr r => RetE TIx Try.f18 [] (.bool r)
def laws_eqIntS_l0 (p : (List Int) × (List Int) × Int) : Option ((Unit) ⊕ (Bool)) :=
 match p with
 | (a0, b1, i_4) =>
  if (decide (i_4 < (a0.length : Int))) = true then
   (idx a0 i_4) >>= fun e_6_2 =>
   (idx b1 i_4) >>= fun e_6_6 =>
   if (e_6_2 != e_6_6) = true then
    some (.inr false)
   else
    laws_eqIntS_l0 (a0, b1, (wr (i_4 + 1)))
  else
   some (.inl ())
 partial_fixpoint
def M_laws_eqIntS_l0 (p : (List Int) × (List Int) × Int) (fl : (Unit) ⊕ (Bool)) : Prop :=
 match p with
 | (a0, b1, i_4) => ∀ c : Ctx, c.nt = 26 → WpL Try.prog c (cl (cl (cr (cl (cr (cr B18)))))) (laws_eqIntS_F1 c fl) (mkS [(0, sI a0), (1, sI b1), (5, I i_4)] [])
theorem laws_eqIntS_l0_s : ∀ p r, laws_eqIntS_l0 p = some r → M_laws_eqIntS_l0 p r := by
 refine laws_eqIntS_l0.partial_correctness M_laws_eqIntS_l0 ?_
 rintro laws_eqIntS_l0_f laws_eqIntS_l0_ih ⟨a0, b1, i_4⟩ r h
 intro c hc
 show WpL Try.prog c (cl (cl (cr (cl (cr (cr B18)))))) (laws_eqIntS_F1 c r) (mkS [(0, sI a0), (1, sI b1), (5, I i_4)] [])
 refine WpL.step ?_
 refine sN ?_
 refine sN ?_
 refine rg hc none [oN, oN, some (.eqv (.no) ⟨[(13, I (a0.length : Int))], [], []⟩), oN] [(0, sI a0), (1, sI b1), (5, I i_4), (14, .bool (decide (i_4 < (a0.length : Int))))] [] (ai (lenT (d := 13) I a0) trivial) ?_
 refine seqQ_norm ?_
 rcases itesome h with ⟨hb_5, h⟩ | ⟨hb_5, h⟩
 ·refine cT ((decide (i_4 < (a0.length : Int)))) hb_5 ?_
  refine Wp.skipN (by kernel_rfl) ?_
  refine seqQ_norm ?_
  refine sN ?_
  refine Wp.blockN (i := 1) (by kernel_rfl) ?_
  refine sN ?_
  obtain ⟨e_6_2, hi_6_2, h⟩ := bsome h
  obtain ⟨e_6_6, hi_6_6, h⟩ := bsome h
  refine rg hc ah8_1 [oN, oN, some (.el (I e_6_2)), oN, oN, oN, some (.el (I e_6_6)), oN, oN] [(0, sI a0), (1, sI b1), (5, I i_4), (25, .bool (e_6_2 != e_6_6))] [] (ai (ix hi_6_2) (ai (ix hi_6_6) trivial)) ?_
  refine seqQ_norm ?_
  rcases itesome h with ⟨hb_6, h⟩ | ⟨hb_6, h⟩
  ·refine cT ((e_6_2 != e_6_6)) hb_6 ?_
   refine sN ?_
   refine rg0 hc 1 [(4, .bool false)] [] ?_
   refine seqQ_norm ?_
   refine Wp.retN (by kernel_rfl) ?_
   refine blockQ_ret ?_
   refine seqQ_ret ?_
   refine loopQ_ret ?_
   obtain rfl := Option.some.inj h
   exact RetE.ret (fl := [true]) (by kernel_rfl)
  ·refine cF ((e_6_2 != e_6_6)) hb_6 ?_
   refine Wp.skipN (by kernel_rfl) ?_
   refine blockQ_norm ?_
   refine seqQ_norm ?_
   refine rg0 hc 3 [(0, sI a0), (1, sI b1), (5, I (wr (i_4 + 1)))] [] ?_
   refine loopQ_norm ?_
   exact (laws_eqIntS_l0_ih _ _ h c hc)
 ·refine cF ((decide (i_4 < (a0.length : Int)))) hb_5 ?_
  refine Wp.exitN (i := 0) (by kernel_rfl) ?_
  refine seqQ_exit ?_
  refine loopQ_exit ?_
  obtain rfl := Option.some.inj h
  exact Into.view (fun a w hv => SRx.renL [] hv (by kernel_rfl) (by kernel_rfl) (by kernel_rfl))
def laws_eqIntS (p : (List Int) × (List Int)) : Option (Bool) :=
 match p with
 | (a0, b1) =>
  if ((a0.length : Int) != (b1.length : Int)) = true then
   some false
  else
   (laws_eqIntS_l0 (a0, b1, 0)) >>= fun fl => match fl with
   | .inl () =>
    some true
   | .inr r =>
    some r
def M_laws_eqIntS (p : (List Int) × (List Int)) (r : Bool) : Prop :=
 match p with
 | (a0, b1) => FnSound Try.prog 18 [sI a0, sI b1] (.bool r) []
theorem laws_eqIntS_s : ∀ p r, laws_eqIntS p = some r → M_laws_eqIntS p r := by
 rintro ⟨a0, b1⟩ r h
 unfold laws_eqIntS at h
 show FnSound Try.prog 18 [sI a0, sI b1] (.bool r) []
 refine FnSound.body0 tiok (fn := Try.f18) (code := B18) (by kernel_rfl) (by kernel_rfl) (by kernel_rfl) (by kernel_rfl) (nt := 26) (by kernel_rfl) (by kernel_rfl) (T := [(0, sI a0), (1, sI b1)]) (O := []) (by kernel_rfl) (by kernel_rfl) (fun c hc => ?_)
 refine sN ?_
 refine rg0 hc 1 [(0, sI a0), (1, sI b1)] [] ?_
 refine seqQ_norm ?_
 refine sN ?_
 refine sN ?_
 refine rg hc none [oN, some (.eqv (.no) ⟨[(7, I (a0.length : Int))], [], []⟩), oN, some (.eqv (.no) ⟨[(9, I (b1.length : Int))], [], []⟩), oN] [(0, sI a0), (1, sI b1), (10, .bool ((a0.length : Int) != (b1.length : Int)))] [] (ai (lenT (d := 7) I a0) (ai (lenT (d := 9) I b1) trivial)) ?_
 refine seqQ_norm ?_
 rcases itesome h with ⟨hb_1, h⟩ | ⟨hb_1, h⟩
 ·refine cT (((a0.length : Int) != (b1.length : Int))) hb_1 ?_
  refine sN ?_
  refine rg0 hc 1 [(4, .bool false)] [] ?_
  refine seqQ_norm ?_
  refine Wp.retN (by kernel_rfl) ?_
  refine seqQ_ret ?_
  obtain rfl := Option.some.inj h
  exact RetQ.ret (fl := [true]) (by kernel_rfl)
 ·refine cF (((a0.length : Int) != (b1.length : Int))) hb_1 ?_
  refine Wp.skipN (by kernel_rfl) ?_
  refine seqQ_norm ?_
  refine sN ?_
  refine sN ?_
  refine rg0 hc 1 [(0, sI a0), (1, sI b1), (5, I 0)] [] ?_
  refine seqQ_norm ?_
  refine Wp.blockN (i := 0) (by kernel_rfl) ?_
  obtain ⟨fl, hl_7, h⟩ := bsome h
  have hL := laws_eqIntS_l0_s _ _ hl_7 c hc
  refine Wp.loopN (by kernel_rfl) ?_
  rcases fl with ⟨⟩ | r
  ·refine WpL.into (e := (.exit 0)) (mkS [] []) hL ?_
   refine blockQ_hit ?_
   refine seqQ_norm ?_
   refine sN ?_
   refine rg0 hc 1 [(4, .bool true)] [] ?_
   refine seqQ_norm ?_
   refine Wp.retN (by kernel_rfl) ?_
   obtain rfl := Option.some.inj h
   exact RetQ.ret (fl := [true]) (by kernel_rfl)
  ·refine WpL.mono hL ?_
   rintro _ _ ⟨rfl, hfin⟩
   refine blockQ_ret ?_
   refine seqQ_ret ?_
   obtain rfl := Option.some.inj h
   exact ⟨.inl rfl, hfin⟩
def laws_eqBoolS_F1 (c : Ctx) : (Unit) ⊕ (Bool) → Exit → AState → Prop
 | .inl _ => Into c (.exit 0) (mkS [] [])
 | .inr r => RetE TIx Try.f50 [] (.bool r)
def laws_eqBoolS_l0 (p : (List Bool) × (List Bool) × Int) : Option ((Unit) ⊕ (Bool)) :=
 match p with
 | (a0, b1, i_4) =>
  if (decide (i_4 < (a0.length : Int))) = true then
   (idx a0 i_4) >>= fun e_6_2 =>
   (idx b1 i_4) >>= fun e_6_6 =>
   if (e_6_2 == e_6_6) = true then
    laws_eqBoolS_l0 (a0, b1, (wr (i_4 + 1)))
   else
    some (.inr false)
  else
   some (.inl ())
 partial_fixpoint
def M_laws_eqBoolS_l0 (p : (List Bool) × (List Bool) × Int) (fl : (Unit) ⊕ (Bool)) : Prop :=
 match p with
 | (a0, b1, i_4) => ∀ c : Ctx, c.nt = 26 → WpL Try.prog c (cl (cl (cr (cl (cr (cr B50)))))) (laws_eqBoolS_F1 c fl) (mkS [(0, sB a0), (1, sB b1), (5, I i_4)] [])
theorem laws_eqBoolS_l0_s : ∀ p r, laws_eqBoolS_l0 p = some r → M_laws_eqBoolS_l0 p r := by
 refine laws_eqBoolS_l0.partial_correctness M_laws_eqBoolS_l0 ?_
 rintro laws_eqBoolS_l0_f laws_eqBoolS_l0_ih ⟨a0, b1, i_4⟩ r h
 intro c hc
 show WpL Try.prog c (cl (cl (cr (cl (cr (cr B50)))))) (laws_eqBoolS_F1 c r) (mkS [(0, sB a0), (1, sB b1), (5, I i_4)] [])
 refine WpL.step ?_
 refine sN ?_
 refine sN ?_
 refine rg hc none [oN, oN, some (.eqv (.no) ⟨[(13, I (a0.length : Int))], [], []⟩), oN] [(0, sB a0), (1, sB b1), (5, I i_4), (14, .bool (decide (i_4 < (a0.length : Int))))] [] (ai (lenT (d := 13) AV.bool a0) trivial) ?_
 refine seqQ_norm ?_
 rcases itesome h with ⟨hb_5, h⟩ | ⟨hb_5, h⟩
 ·refine cT ((decide (i_4 < (a0.length : Int)))) hb_5 ?_
  refine Wp.skipN (by kernel_rfl) ?_
  refine seqQ_norm ?_
  refine sN ?_
  refine Wp.blockN (i := 1) (by kernel_rfl) ?_
  refine sN ?_
  obtain ⟨e_6_2, hi_6_2, h⟩ := bsome h
  obtain ⟨e_6_6, hi_6_6, h⟩ := bsome h
  refine rg hc ah8_1 [oN, oN, some (.el (.bool e_6_2)), oN, oN, oN, some (.el (.bool e_6_6)), oN, oN] [(0, sB a0), (1, sB b1), (5, I i_4), (25, .bool (!(e_6_2 == e_6_6)))] [] (ai (idx_sl (enc := AV.bool) (x := .bool e_6_2) hi_6_2 (eq_B e_6_2)) (ai (idx_sl (enc := AV.bool) (x := .bool e_6_6) hi_6_6 (eq_B e_6_6)) trivial)) ?_
  refine seqQ_norm ?_
  rcases itesome h with ⟨hb_6, h⟩ | ⟨hb_6, h⟩
  ·refine cF ((!(e_6_2 == e_6_6))) (nF hb_6) ?_
   refine Wp.skipN (by kernel_rfl) ?_
   refine blockQ_norm ?_
   refine seqQ_norm ?_
   refine rg0 hc 3 [(0, sB a0), (1, sB b1), (5, I (wr (i_4 + 1)))] [] ?_
   refine loopQ_norm ?_
   exact (laws_eqBoolS_l0_ih _ _ h c hc)
  ·refine cT ((!(e_6_2 == e_6_6))) (nT hb_6) ?_
   refine sN ?_
   refine rg0 hc 1 [(4, .bool false)] [] ?_
   refine seqQ_norm ?_
   refine Wp.retN (by kernel_rfl) ?_
   refine blockQ_ret ?_
   refine seqQ_ret ?_
   refine loopQ_ret ?_
   obtain rfl := Option.some.inj h
   exact RetE.ret (fl := [true]) (by kernel_rfl)
 ·refine cF ((decide (i_4 < (a0.length : Int)))) hb_5 ?_
  refine Wp.exitN (i := 0) (by kernel_rfl) ?_
  refine seqQ_exit ?_
  refine loopQ_exit ?_
  obtain rfl := Option.some.inj h
  exact Into.view (fun a w hv => SRx.renL [] hv (by kernel_rfl) (by kernel_rfl) (by kernel_rfl))
def laws_eqBoolS (p : (List Bool) × (List Bool)) : Option (Bool) :=
 match p with
 | (a0, b1) =>
  if ((a0.length : Int) != (b1.length : Int)) = true then
   some false
  else
   (laws_eqBoolS_l0 (a0, b1, 0)) >>= fun fl => match fl with
   | .inl () =>
    some true
   | .inr r =>
    some r
def M_laws_eqBoolS (p : (List Bool) × (List Bool)) (r : Bool) : Prop :=
 match p with
 | (a0, b1) => FnSound Try.prog 50 [sB a0, sB b1] (.bool r) []
theorem laws_eqBoolS_s : ∀ p r, laws_eqBoolS p = some r → M_laws_eqBoolS p r := by
 rintro ⟨a0, b1⟩ r h
 unfold laws_eqBoolS at h
 show FnSound Try.prog 50 [sB a0, sB b1] (.bool r) []
 refine FnSound.body0 tiok (fn := Try.f50) (code := B50) (by kernel_rfl) (by kernel_rfl) (by kernel_rfl) (by kernel_rfl) (nt := 26) (by kernel_rfl) (by kernel_rfl) (T := [(0, sB a0), (1, sB b1)]) (O := []) (by kernel_rfl) (by kernel_rfl) (fun c hc => ?_)
 refine sN ?_
 refine rg0 hc 1 [(0, sB a0), (1, sB b1)] [] ?_
 refine seqQ_norm ?_
 refine sN ?_
 refine sN ?_
 refine rg hc none [oN, some (.eqv (.no) ⟨[(7, I (a0.length : Int))], [], []⟩), oN, some (.eqv (.no) ⟨[(9, I (b1.length : Int))], [], []⟩), oN] [(0, sB a0), (1, sB b1), (10, .bool ((a0.length : Int) != (b1.length : Int)))] [] (ai (lenT (d := 7) AV.bool a0) (ai (lenT (d := 9) AV.bool b1) trivial)) ?_
 refine seqQ_norm ?_
 rcases itesome h with ⟨hb_1, h⟩ | ⟨hb_1, h⟩
 ·refine cT (((a0.length : Int) != (b1.length : Int))) hb_1 ?_
  refine sN ?_
  refine rg0 hc 1 [(4, .bool false)] [] ?_
  refine seqQ_norm ?_
  refine Wp.retN (by kernel_rfl) ?_
  refine seqQ_ret ?_
  obtain rfl := Option.some.inj h
  exact RetQ.ret (fl := [true]) (by kernel_rfl)
 ·refine cF (((a0.length : Int) != (b1.length : Int))) hb_1 ?_
  refine Wp.skipN (by kernel_rfl) ?_
  refine seqQ_norm ?_
  refine sN ?_
  refine sN ?_
  refine rg0 hc 1 [(0, sB a0), (1, sB b1), (5, I 0)] [] ?_
  refine seqQ_norm ?_
  refine Wp.blockN (i := 0) (by kernel_rfl) ?_
  obtain ⟨fl, hl_7, h⟩ := bsome h
  have hL := laws_eqBoolS_l0_s _ _ hl_7 c hc
  refine Wp.loopN (by kernel_rfl) ?_
  rcases fl with ⟨⟩ | r
  ·refine WpL.into (e := (.exit 0)) (mkS [] []) hL ?_
   refine blockQ_hit ?_
   refine seqQ_norm ?_
   refine sN ?_
   refine rg0 hc 1 [(4, .bool true)] [] ?_
   refine seqQ_norm ?_
   refine Wp.retN (by kernel_rfl) ?_
   obtain rfl := Option.some.inj h
   exact RetQ.ret (fl := [true]) (by kernel_rfl)
  ·refine WpL.mono hL ?_
   rintro _ _ ⟨rfl, hfin⟩
   refine blockQ_ret ?_
   refine seqQ_ret ?_
   obtain rfl := Option.some.inj h
   exact ⟨.inl rfl, hfin⟩
def laws_eqSystem (p : GSystem × GSystem) : Option (Bool) :=
 match p with
 | (a0, b1) =>
  if (a0.fSize != b1.fSize) = true then
   some false
  else
   (laws_eqIntS (a0.fPlus, b1.fPlus)) >>= fun r_3_4 =>
   if r_3_4 = true then
    (laws_eqIntS (a0.fTimes, b1.fTimes)) >>= fun r_5_4 =>
    if r_5_4 = true then
     (laws_eqBoolS (a0.fBelow, b1.fBelow)) >>= fun r_7_4 =>
     if r_7_4 = true then
      some true
     else
      some false
    else
     some false
   else
    some false
def M_laws_eqSystem (p : GSystem × GSystem) (r : Bool) : Prop :=
 match p with
 | (a0, b1) => FnSound Try.prog 17 [aSystem a0, aSystem b1] (.bool r) []
theorem laws_eqSystem_s : ∀ p r, laws_eqSystem p = some r → M_laws_eqSystem p r := by
 rintro ⟨a0, b1⟩ r h
 unfold laws_eqSystem at h
 show FnSound Try.prog 17 [aSystem a0, aSystem b1] (.bool r) []
 refine FnSound.body0 tiok (fn := Try.f17) (code := B17) (by kernel_rfl) (by kernel_rfl) (by kernel_rfl) (by kernel_rfl) (nt := 28) (by kernel_rfl) (by kernel_rfl) (T := [(0, aSystem a0), (1, aSystem b1)]) (O := []) (by kernel_rfl) (by kernel_rfl) (fun c hc => ?_)
 refine sN ?_
 refine rg hc none [some (.new 1), some (.new 2), oN] [(2, .ra 1 0), (3, .ra 2 0)] [(1, bSystem a0), (2, bSystem b1)] trivial ?_
 refine seqQ_norm ?_
 refine sN ?_
 refine sN ?_
 refine rg0 hc 5 [(2, .ra 1 0), (3, .ra 2 0), (9, .bool (a0.fSize != b1.fSize))] [(1, bSystem a0), (2, bSystem b1)] ?_
 refine seqQ_norm ?_
 rcases itesome h with ⟨hb_1, h⟩ | ⟨hb_1, h⟩
 ·refine cT ((a0.fSize != b1.fSize)) hb_1 ?_
  refine sN ?_
  refine rg0 hc 1 [(4, .bool false)] [] ?_
  refine seqQ_norm ?_
  refine Wp.retN (by kernel_rfl) ?_
  refine seqQ_ret ?_
  obtain rfl := Option.some.inj h
  exact RetQ.ret (fl := [true]) (by kernel_rfl)
 ·refine cF ((a0.fSize != b1.fSize)) hb_1 ?_
  refine Wp.skipN (by kernel_rfl) ?_
  refine seqQ_norm ?_
  refine sN ?_
  refine sN ?_
  obtain ⟨r_3_4, hr_3_4, h⟩ := bsome h
  refine rg hc none [oN, oN, oN, oN, oc (.bool r_3_4), oN] [(2, .ra 1 0), (3, .ra 2 0), (15, .bool (!r_3_4))] [(1, bSystem a0), (2, bSystem b1)] (ai (laws_eqIntS_s _ _ hr_3_4) (ai bod_18 (ai (oi (.bool r_3_4)) trivial))) ?_
  refine seqQ_norm ?_
  rcases itesome h with ⟨hb_2, h⟩ | ⟨hb_2, h⟩
  ·refine cF (!r_3_4) (nF hb_2) ?_
   refine Wp.skipN (by kernel_rfl) ?_
   refine seqQ_norm ?_
   refine sN ?_
   refine sN ?_
   obtain ⟨r_5_4, hr_5_4, h⟩ := bsome h
   refine rg hc none [oN, oN, oN, oN, oc (.bool r_5_4), oN] [(2, .ra 1 0), (3, .ra 2 0), (21, .bool (!r_5_4))] [(1, bSystem a0), (2, bSystem b1)] (ai (laws_eqIntS_s _ _ hr_5_4) (ai bod_18 (ai (oi (.bool r_5_4)) trivial))) ?_
   refine seqQ_norm ?_
   rcases itesome h with ⟨hb_3, h⟩ | ⟨hb_3, h⟩
   ·refine cF (!r_5_4) (nF hb_3) ?_
    refine Wp.skipN (by kernel_rfl) ?_
    refine seqQ_norm ?_
    refine sN ?_
    refine sN ?_
    obtain ⟨r_7_4, hr_7_4, h⟩ := bsome h
    refine rg hc none [oN, oN, oN, oN, oc (.bool r_7_4), oN] [(27, .bool (!r_7_4))] [] (ai (laws_eqBoolS_s _ _ hr_7_4) (ai bod_50 (ai (oi (.bool r_7_4)) trivial))) ?_
    refine seqQ_norm ?_
    rcases itesome h with ⟨hb_4, h⟩ | ⟨hb_4, h⟩
    ·refine cF (!r_7_4) (nF hb_4) ?_
     refine Wp.skipN (by kernel_rfl) ?_
     refine seqQ_norm ?_
     refine sN ?_
     refine rg0 hc 1 [(4, .bool true)] [] ?_
     refine seqQ_norm ?_
     refine Wp.retN (by kernel_rfl) ?_
     obtain rfl := Option.some.inj h
     exact RetQ.ret (fl := [true]) (by kernel_rfl)
    ·refine cT (!r_7_4) (nT hb_4) ?_
     refine sN ?_
     refine rg0 hc 1 [(4, .bool false)] [] ?_
     refine seqQ_norm ?_
     refine Wp.retN (by kernel_rfl) ?_
     refine seqQ_ret ?_
     obtain rfl := Option.some.inj h
     exact RetQ.ret (fl := [true]) (by kernel_rfl)
   ·refine cT (!r_5_4) (nT hb_3) ?_
    refine sN ?_
    refine rg0 hc 1 [(4, .bool false)] [] ?_
    refine seqQ_norm ?_
    refine Wp.retN (by kernel_rfl) ?_
    refine seqQ_ret ?_
    obtain rfl := Option.some.inj h
    exact RetQ.ret (fl := [true]) (by kernel_rfl)
  ·refine cT (!r_3_4) (nT hb_2) ?_
   refine sN ?_
   refine rg0 hc 1 [(4, .bool false)] [] ?_
   refine seqQ_norm ?_
   refine Wp.retN (by kernel_rfl) ?_
   refine seqQ_ret ?_
   obtain rfl := Option.some.inj h
   exact RetQ.ret (fl := [true]) (by kernel_rfl)
def laws_FnExactCountSeen (p : GSystem × (List Int) × (List Int)) : Option (Bool) :=
 match p with
 | (aS0, aView1, aTy2) =>
  if (decide ((aView1.length : Int) > 1048576)) = true then
   some true
  else
   if (decide ((aTy2.length : Int) > 1048576)) = true then
    some true
   else
    (laws_szSystem (aS0, 1048576)) >>= fun r_6_2 =>
    if (decide (r_6_2 < 0)) = true then
     some true
    else
     (laws_toSystem aS0) >>= fun r_9_1 =>
     (laws_toIntS aView1) >>= fun r_9_3 =>
     (laws_toIntS aTy2) >>= fun r_9_5 =>
     (spec_CountSeen (r_9_1, r_9_3, r_9_5)) >>= fun r_9_6 =>
     (laws_toSystem aS0) >>= fun r_10_1 =>
     (laws_toIntS aView1) >>= fun r_11_1 =>
     (laws_toIntS aTy2) >>= fun r_12_1 =>
     (impl_CountSeen (r_10_1, r_11_1, r_12_1)) >>= fun r_13_3 =>
     if (r_13_3 != r_9_6) = true then
      some false
     else
      (laws_toSystem aS0) >>= fun r_16_2 =>
      (laws_eqSystem (r_10_1, r_16_2)) >>= fun r_16_3 =>
      if r_16_3 = true then
       (laws_toIntS aView1) >>= fun r_18_2 =>
       (laws_eqIntS (r_11_1, r_18_2)) >>= fun r_18_3 =>
       if r_18_3 = true then
        (laws_toIntS aTy2) >>= fun r_20_2 =>
        (laws_eqIntS (r_12_1, r_20_2)) >>= fun r_20_3 =>
        if r_20_3 = true then
         some true
        else
         some false
       else
        some false
      else
       some false
def M_laws_FnExactCountSeen (p : GSystem × (List Int) × (List Int)) (r : Bool) : Prop :=
 match p with
 | (aS0, aView1, aTy2) => FnSound Try.prog 5 [aSystem aS0, sI aView1, sI aTy2] (.bool r) []
theorem laws_FnExactCountSeen_s : ∀ p r, laws_FnExactCountSeen p = some r → M_laws_FnExactCountSeen p r := by
 rintro ⟨aS0, aView1, aTy2⟩ r h
 unfold laws_FnExactCountSeen at h
 show FnSound Try.prog 5 [aSystem aS0, sI aView1, sI aTy2] (.bool r) []
 refine FnSound.body0 tiok (fn := Try.f5) (code := B5) (by kernel_rfl) (by kernel_rfl) (by kernel_rfl) (by kernel_rfl) (nt := 59) (by kernel_rfl) (by kernel_rfl) (T := [(0, aSystem aS0), (1, sI aView1), (2, sI aTy2)]) (O := []) (by kernel_rfl) (by kernel_rfl) (fun c hc => ?_)
 refine sN ?_
 refine rg hc none [some (.new 1), oN] [(1, sI aView1), (2, sI aTy2), (3, .ra 1 0)] [(1, bSystem aS0)] trivial ?_
 refine seqQ_norm ?_
 refine sN ?_
 refine sN ?_
 refine rg hc none [oN, some (.eqv (.no) ⟨[(14, I (aView1.length : Int))], [], []⟩), oN] [(1, sI aView1), (2, sI aTy2), (3, .ra 1 0), (15, .bool (decide ((aView1.length : Int) > 1048576)))] [(1, bSystem aS0)] (ai (lenT (d := 14) I aView1) trivial) ?_
 refine seqQ_norm ?_
 rcases itesome h with ⟨hb_1, h⟩ | ⟨hb_1, h⟩
 ·refine cT ((decide ((aView1.length : Int) > 1048576))) hb_1 ?_
  refine sN ?_
  refine rg0 hc 1 [(6, .bool true)] [] ?_
  refine seqQ_norm ?_
  refine Wp.retN (by kernel_rfl) ?_
  refine seqQ_ret ?_
  obtain rfl := Option.some.inj h
  exact RetQ.ret (fl := [true]) (by kernel_rfl)
 ·refine cF ((decide ((aView1.length : Int) > 1048576))) hb_1 ?_
  refine Wp.skipN (by kernel_rfl) ?_
  refine seqQ_norm ?_
  refine sN ?_
  refine sN ?_
  refine rg hc none [oN, some (.eqv (.no) ⟨[(17, I (aTy2.length : Int))], [], []⟩), oN] [(1, sI aView1), (2, sI aTy2), (3, .ra 1 0), (18, .bool (decide ((aTy2.length : Int) > 1048576)))] [(1, bSystem aS0)] (ai (lenT (d := 17) I aTy2) trivial) ?_
  refine seqQ_norm ?_
  rcases itesome h with ⟨hb_2, h⟩ | ⟨hb_2, h⟩
  ·refine cT ((decide ((aTy2.length : Int) > 1048576))) hb_2 ?_
   refine sN ?_
   refine rg0 hc 1 [(6, .bool true)] [] ?_
   refine seqQ_norm ?_
   refine Wp.retN (by kernel_rfl) ?_
   refine seqQ_ret ?_
   obtain rfl := Option.some.inj h
   exact RetQ.ret (fl := [true]) (by kernel_rfl)
  ·refine cF ((decide ((aTy2.length : Int) > 1048576))) hb_2 ?_
   refine Wp.skipN (by kernel_rfl) ?_
   refine seqQ_norm ?_
   refine sN ?_
   refine rg0 hc 1 [(1, sI aView1), (2, sI aTy2), (3, .ra 1 0), (7, I 1048576)] [(1, bSystem aS0)] ?_
   refine seqQ_norm ?_
   refine sN ?_
   obtain ⟨r_6_2, hr_6_2, h⟩ := bsome h
   refine rg hc none [oN, oN, oc (I r_6_2), oN] [(1, sI aView1), (2, sI aTy2), (3, .ra 1 0), (7, I r_6_2)] [(1, bSystem aS0)] (ai (laws_szSystem_s _ _ hr_6_2) (ai bod_11 (ai (oi (I r_6_2)) trivial))) ?_
   refine seqQ_norm ?_
   refine sN ?_
   refine sN ?_
   refine rg0 hc 2 [(1, sI aView1), (2, sI aTy2), (3, .ra 1 0), (23, .bool (decide (r_6_2 < 0)))] [(1, bSystem aS0)] ?_
   refine seqQ_norm ?_
   rcases itesome h with ⟨hb_3, h⟩ | ⟨hb_3, h⟩
   ·refine cT ((decide (r_6_2 < 0))) hb_3 ?_
    refine sN ?_
    refine rg0 hc 1 [(6, .bool true)] [] ?_
    refine seqQ_norm ?_
    refine Wp.retN (by kernel_rfl) ?_
    refine seqQ_ret ?_
    obtain rfl := Option.some.inj h
    exact RetQ.ret (fl := [true]) (by kernel_rfl)
   ·refine cF ((decide (r_6_2 < 0))) hb_3 ?_
    refine Wp.skipN (by kernel_rfl) ?_
    refine seqQ_norm ?_
    refine sN ?_
    obtain ⟨r_9_1, hr_9_1, h⟩ := bsome h
    obtain ⟨r_9_3, hr_9_3, h⟩ := bsome h
    obtain ⟨r_9_5, hr_9_5, h⟩ := bsome h
    obtain ⟨r_9_6, hr_9_6, h⟩ := bsome h
    refine rg hc none [oN, some (.call (qSystem r_9_1) [] 2), oN, some (.call (.osl (List.map I r_9_3)) [] 5), oN, some (.call (.osl (List.map I r_9_5)) [] 6), oc (I r_9_6), oN] [(1, sI aView1), (2, sI aTy2), (3, .ra 1 0), (8, I r_9_6)] [(1, bSystem aS0)] (ai (laws_toSystem_s _ _ hr_9_1) (ai bod_13 (ai (oi (qSystem r_9_1)) (ai (laws_toIntS_s _ _ hr_9_3) (ai bod_14 (ai (oi (.osl (List.map I r_9_3))) (ai (laws_toIntS_s _ _ hr_9_5) (ai bod_14 (ai (oi (.osl (List.map I r_9_5))) (ai (FnSound.args (A1 := [hSystem r_9_1, .sl (shares (List.map I r_9_3)), .sl (shares (List.map I r_9_5))]) (A2 := [aSystem r_9_1, sI r_9_3, sI r_9_5]) (by simp only [sI, sB, aSystem, hSystem, List.map_nil, sh_B, sh_I]) (spec_CountSeen_s _ _ hr_9_6)) (ai bod_27 (ai (Or.inr rfl : ([2, 3, 4, 5, 6] : List Nat) = [] ∨ noSh (I r_9_6) = true) trivial)))))))))))) ?_
    refine seqQ_norm ?_
    refine sN ?_
    obtain ⟨r_10_1, hr_10_1, h⟩ := bsome h
    refine rg hc none [oN, some (.call (qSystem r_10_1) [] 7), some (.new 10), oN] [(1, sI aView1), (2, sI aTy2), (3, .ra 1 0), (8, I r_9_6), (9, .ra 10 0)] [(1, bSystem aS0), (7, .arr (List.map I r_10_1.fPlus)), (8, .arr (List.map I r_10_1.fTimes)), (9, .arr (List.map AV.bool r_10_1.fBelow)), (10, .box [I r_10_1.fSize, .rs 7, .rs 8, .rs 9])] (ai (laws_toSystem_s _ _ hr_10_1) (ai bod_13 (ai (oi (qSystem r_10_1)) trivial))) ?_
    refine seqQ_norm ?_
    refine sN ?_
    obtain ⟨r_11_1, hr_11_1, h⟩ := bsome h
    refine rg hc none [oN, some (.call (.osl (List.map I r_11_1)) [] 11), oN] [(1, sI aView1), (2, sI aTy2), (3, .ra 1 0), (8, I r_9_6), (9, .ra 10 0), (10, .rs 11)] [(1, bSystem aS0), (7, .arr (List.map I r_10_1.fPlus)), (8, .arr (List.map I r_10_1.fTimes)), (9, .arr (List.map AV.bool r_10_1.fBelow)), (10, .box [I r_10_1.fSize, .rs 7, .rs 8, .rs 9]), (11, .arr (List.map I r_11_1))] (ai (laws_toIntS_s _ _ hr_11_1) (ai bod_14 (ai (oi (.osl (List.map I r_11_1))) trivial))) ?_
    refine seqQ_norm ?_
    refine sN ?_
    obtain ⟨r_12_1, hr_12_1, h⟩ := bsome h
    refine rg hc none [oN, some (.call (.osl (List.map I r_12_1)) [] 12), oN] [(1, sI aView1), (2, sI aTy2), (3, .ra 1 0), (8, I r_9_6), (9, .ra 10 0), (10, .rs 11), (11, .rs 12)] [(1, bSystem aS0), (7, .arr (List.map I r_10_1.fPlus)), (8, .arr (List.map I r_10_1.fTimes)), (9, .arr (List.map AV.bool r_10_1.fBelow)), (10, .box [I r_10_1.fSize, .rs 7, .rs 8, .rs 9]), (11, .arr (List.map I r_11_1)), (12, .arr (List.map I r_12_1))] (ai (laws_toIntS_s _ _ hr_12_1) (ai bod_14 (ai (oi (.osl (List.map I r_12_1))) trivial))) ?_
    refine seqQ_norm ?_
    refine sN ?_
    obtain ⟨r_13_3, hr_13_3, h⟩ := bsome h
    refine rg hc none [oN, oN, oN, oc (I r_13_3), oN] [(1, sI aView1), (2, sI aTy2), (3, .ra 1 0), (8, I r_9_6), (9, .ra 10 0), (10, .rs 11), (11, .rs 12), (12, I r_13_3)] [(1, bSystem aS0), (7, .arr (List.map I r_10_1.fPlus)), (8, .arr (List.map I r_10_1.fTimes)), (9, .arr (List.map AV.bool r_10_1.fBelow)), (10, .box [I r_10_1.fSize, .rs 7, .rs 8, .rs 9]), (11, .arr (List.map I r_11_1)), (12, .arr (List.map I r_12_1))] (ai (FnSound.args (A1 := [hSystem r_10_1, .sl (shares (List.map I r_11_1)), .sl (shares (List.map I r_12_1))]) (A2 := [aSystem r_10_1, sI r_11_1, sI r_12_1]) (by simp only [sI, sB, aSystem, hSystem, List.map_nil, sh_B, sh_I]) (impl_CountSeen_s _ _ hr_13_3)) (ai bod_28 (ai (Or.inr rfl : ([7, 8, 9, 11, 12] : List Nat) = [] ∨ noSh (I r_13_3) = true) trivial))) ?_
    refine seqQ_norm ?_
    refine sN ?_
    refine sN ?_
    refine rg0 hc 3 [(1, sI aView1), (2, sI aTy2), (3, .ra 1 0), (9, .ra 10 0), (10, .rs 11), (11, .rs 12), (43, .bool (r_13_3 != r_9_6))] [(1, bSystem aS0), (7, .arr (List.map I r_10_1.fPlus)), (8, .arr (List.map I r_10_1.fTimes)), (9, .arr (List.map AV.bool r_10_1.fBelow)), (10, .box [I r_10_1.fSize, .rs 7, .rs 8, .rs 9]), (11, .arr (List.map I r_11_1)), (12, .arr (List.map I r_12_1))] ?_
    refine seqQ_norm ?_
    rcases itesome h with ⟨hb_4, h⟩ | ⟨hb_4, h⟩
    ·refine cT ((r_13_3 != r_9_6)) hb_4 ?_
     refine sN ?_
     refine rg0 hc 1 [(6, .bool false)] [] ?_
     refine seqQ_norm ?_
     refine Wp.retN (by kernel_rfl) ?_
     refine seqQ_ret ?_
     obtain rfl := Option.some.inj h
     exact RetQ.ret (fl := [true]) (by kernel_rfl)
    ·refine cF ((r_13_3 != r_9_6)) hb_4 ?_
     refine Wp.skipN (by kernel_rfl) ?_
     refine seqQ_norm ?_
     refine sN ?_
     refine sN ?_
     obtain ⟨r_16_2, hr_16_2, h⟩ := bsome h
     obtain ⟨r_16_3, hr_16_3, h⟩ := bsome h
     refine rg hc (rx [[0], [0], [0, 1], [3], [4]]) [oN, oN, some (.call (qSystem r_16_2) [] 13), oc (.bool r_16_3), oN] [(1, sI aView1), (2, sI aTy2), (10, .rs 11), (11, .rs 12), (48, .bool (!r_16_3))] [(11, .arr (List.map I r_11_1)), (12, .arr (List.map I r_12_1))] (ai (laws_toSystem_s _ _ hr_16_2) (ai bod_13 (ai (oi (qSystem r_16_2)) (ai (FnSound.args (A1 := [hSystem r_10_1, hSystem r_16_2]) (A2 := [aSystem r_10_1, aSystem r_16_2]) (by simp only [sI, sB, aSystem, hSystem, List.map_nil, sh_B, sh_I]) (laws_eqSystem_s _ _ hr_16_3)) (ai bod_17 (ai (Or.inr rfl : ([7, 8, 9, 13, 14, 15] : List Nat) = [] ∨ noSh (.bool r_16_3) = true) trivial)))))) ?_
     refine seqQ_norm ?_
     rcases itesome h with ⟨hb_5, h⟩ | ⟨hb_5, h⟩
     ·refine cF (!r_16_3) (nF hb_5) ?_
      refine Wp.skipN (by kernel_rfl) ?_
      refine seqQ_norm ?_
      refine sN ?_
      refine sN ?_
      obtain ⟨r_18_2, hr_18_2, h⟩ := bsome h
      obtain ⟨r_18_3, hr_18_3, h⟩ := bsome h
      refine rg hc none [oN, oN, some (.call (.osl (List.map I r_18_2)) [] 16), oc (.bool r_18_3), oN] [(2, sI aTy2), (11, .rs 12), (53, .bool (!r_18_3))] [(12, .arr (List.map I r_12_1))] (ai (laws_toIntS_s _ _ hr_18_2) (ai bod_14 (ai (oi (.osl (List.map I r_18_2))) (ai (FnSound.args (A1 := [.sl (shares (List.map I r_11_1)), .sl (shares (List.map I r_18_2))]) (A2 := [sI r_11_1, sI r_18_2]) (by simp only [sI, sB, aSystem, hSystem, List.map_nil, sh_I]) (laws_eqIntS_s _ _ hr_18_3)) (ai bod_18 (ai (Or.inr rfl : ([11, 16] : List Nat) = [] ∨ noSh (.bool r_18_3) = true) trivial)))))) ?_
      refine seqQ_norm ?_
      rcases itesome h with ⟨hb_6, h⟩ | ⟨hb_6, h⟩
      ·refine cF (!r_18_3) (nF hb_6) ?_
       refine Wp.skipN (by kernel_rfl) ?_
       refine seqQ_norm ?_
       refine sN ?_
       refine sN ?_
       obtain ⟨r_20_2, hr_20_2, h⟩ := bsome h
       obtain ⟨r_20_3, hr_20_3, h⟩ := bsome h
       refine rg hc none [oN, oN, some (.call (.osl (List.map I r_20_2)) [] 17), oc (.bool r_20_3), oN] [(58, .bool (!r_20_3))] [] (ai (laws_toIntS_s _ _ hr_20_2) (ai bod_14 (ai (oi (.osl (List.map I r_20_2))) (ai (FnSound.args (A1 := [.sl (shares (List.map I r_12_1)), .sl (shares (List.map I r_20_2))]) (A2 := [sI r_12_1, sI r_20_2]) (by simp only [sI, sB, aSystem, hSystem, List.map_nil, sh_I]) (laws_eqIntS_s _ _ hr_20_3)) (ai bod_18 (ai (Or.inr rfl : ([12, 17] : List Nat) = [] ∨ noSh (.bool r_20_3) = true) trivial)))))) ?_
       refine seqQ_norm ?_
       rcases itesome h with ⟨hb_7, h⟩ | ⟨hb_7, h⟩
       ·refine cF (!r_20_3) (nF hb_7) ?_
        refine Wp.skipN (by kernel_rfl) ?_
        refine seqQ_norm ?_
        refine sN ?_
        refine rg0 hc 1 [(6, .bool true)] [] ?_
        refine seqQ_norm ?_
        refine Wp.retN (by kernel_rfl) ?_
        obtain rfl := Option.some.inj h
        exact RetQ.ret (fl := [true]) (by kernel_rfl)
       ·refine cT (!r_20_3) (nT hb_7) ?_
        refine sN ?_
        refine rg0 hc 1 [(6, .bool false)] [] ?_
        refine seqQ_norm ?_
        refine Wp.retN (by kernel_rfl) ?_
        refine seqQ_ret ?_
        obtain rfl := Option.some.inj h
        exact RetQ.ret (fl := [true]) (by kernel_rfl)
      ·refine cT (!r_18_3) (nT hb_6) ?_
       refine sN ?_
       refine rg0 hc 1 [(6, .bool false)] [] ?_
       refine seqQ_norm ?_
       refine Wp.retN (by kernel_rfl) ?_
       refine seqQ_ret ?_
       obtain rfl := Option.some.inj h
       exact RetQ.ret (fl := [true]) (by kernel_rfl)
     ·refine cT (!r_16_3) (nT hb_5) ?_
      refine sN ?_
      refine rg0 hc 1 [(6, .bool false)] [] ?_
      refine seqQ_norm ?_
      refine Wp.retN (by kernel_rfl) ?_
      refine seqQ_ret ?_
      obtain rfl := Option.some.inj h
      exact RetQ.ret (fl := [true]) (by kernel_rfl)
end Go.Am
