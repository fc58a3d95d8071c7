/- Functions of the program as pure functions, and that it computes them. Printed by a program of mine (gen.py). -/
import Derived.Test.YtfakfcaegabgaaaGCTF4
set_option linter.unusedVariables false
set_option linter.unusedSimpArgs false
set_option maxRecDepth 100000
namespace Go.Am
open Go Go.Proofs
mutual
def laws_heldTermS (p : (List GTerm) × Int) : Option (Int) :=
 match p with
 | (a0, k1) =>
  (laws_heldTermS_l0 (a0, k1, 0)) >>= fun fl => match fl with
  | .inl k_13 =>
   some k_13
  | .inr r =>
   some r
 partial_fixpoint
def laws_heldTermS_l0 (p : (List GTerm) × Int × Int) : Option ((Int) ⊕ (Int)) :=
 match p with
 | (a0, k_6, i_7) =>
  if (decide (i_7 < (a0.length : Int))) = true then
   (idx a0 i_7) >>= fun e_4_2 =>
   if (e_4_2.fOp != k_6) = true then
    some (.inr (-1))
   else
    (idx a0 i_7) >>= fun e_7_2 =>
    if (e_7_2.fN != (wr (k_6 + 1))) = true then
     some (.inr (-1))
    else
     (idx a0 i_7) >>= fun e_10_2 =>
     (laws_heldIntS (e_10_2.fType, (wr ((wr (k_6 + 1)) + 1)))) >>= fun r_10_6 =>
     if (decide (r_10_6 < 0)) = true then
      some (.inr (-1))
     else
      (idx a0 i_7) >>= fun e_13_2 =>
      (laws_heldTermS (e_13_2.fKids, r_10_6)) >>= fun r_13_6 =>
      if (decide (r_13_6 < 0)) = true then
       some (.inr (-1))
      else
       laws_heldTermS_l0 (a0, r_13_6, (wr (i_7 + 1)))
  else
   some (.inl k_6)
 partial_fixpoint
end
def M_laws_heldTermS (p : (List GTerm) × Int) (r : Int) : Prop :=
 match p with
 | (a0, k1) => FnSound Try.prog 54 [.sl (List.map GTerm_S a0), I k1] (I r) []
def M_laws_heldTermS_l0 (p : (List GTerm) × Int × Int) (fl : (Int) ⊕ (Int)) : Prop :=
 match p with
 | (a0, k_6, i_7) => ∀ c : Ctx, c.nt = 49 → WpL Try.prog c (cl (cl (cr (cl (cr B54))))) (laws_heldTermS_F1 c fl) (mkS [(0, .sl (List.map GTerm_S a0)), (1, I k_6), (5, I i_7)] [])
theorem laws_heldTermS_all : (∀ p r, laws_heldTermS p = some r → M_laws_heldTermS p r) ∧ (∀ p r, laws_heldTermS_l0 p = some r → M_laws_heldTermS_l0 p r) := by
 refine laws_heldTermS.mutual_partial_correctness M_laws_heldTermS M_laws_heldTermS_l0 ?_ ?_
 ·rintro laws_heldTermS_l0_f laws_heldTermS_l0_ih ⟨a0, k1⟩ r h
  show FnSound Try.prog 54 [.sl (List.map GTerm_S a0), I k1] (I r) []
  refine FnSound.body0 tiok (fn := Try.f54) (code := B54) (by kernel_rfl) (by kernel_rfl) (by kernel_rfl) (by kernel_rfl) (nt := 49) (by kernel_rfl) (by kernel_rfl) (T := [(0, .sl (List.map GTerm_S a0)), (1, I k1)]) (O := []) (by kernel_rfl) (by kernel_rfl) (fun c hc => ?_)
  refine sN ?_
  refine rg0 hc 1 [(0, .sl (List.map GTerm_S a0)), (1, I k1)] [] ?_
  refine seqQ_norm ?_
  refine sN ?_
  refine sN ?_
  refine rg0 hc 1 [(0, .sl (List.map GTerm_S a0)), (1, I k1), (5, I 0)] [] ?_
  refine seqQ_norm ?_
  refine Wp.blockN (i := 0) (by kernel_rfl) ?_
  obtain ⟨fl, hl_14, h⟩ := bsome h
  have hL := laws_heldTermS_l0_ih _ _ hl_14 c hc
  refine Wp.loopN (by kernel_rfl) ?_
  rcases fl with k_13 | r
  ·refine WpL.into (e := (.exit 0)) (mkS [(1, I k_13)] []) hL ?_
   refine blockQ_hit ?_
   refine seqQ_norm ?_
   refine sN ?_
   refine rg0 hc 2 [(4, I k_13)] [] ?_
   refine seqQ_norm ?_
   refine Wp.retN (by kernel_rfl) ?_
   obtain rfl := Option.some.inj h
   exact RetQ.ret (fl := [true]) (by kernel_rfl)
  ·refine WpL.mono hL ?_
   rintro _ _ ⟨rfl, hfin⟩
   refine blockQ_ret ?_
   refine seqQ_ret ?_
   obtain rfl := Option.some.inj h
   exact ⟨.inl rfl, hfin⟩
 ·rintro laws_heldTermS_f laws_heldTermS_l0_f laws_heldTermS_ih laws_heldTermS_l0_ih ⟨a0, k_6, i_7⟩ r h
  intro c hc
  show WpL Try.prog c (cl (cl (cr (cl (cr B54))))) (laws_heldTermS_F1 c r) (mkS [(0, .sl (List.map GTerm_S a0)), (1, I k_6), (5, I i_7)] [])
  refine WpL.step ?_
  refine sN ?_
  refine sN ?_
  refine rg hc none [oN, oN, some (.eqv (.no) ⟨[(8, I (a0.length : Int))], [], []⟩), oN] [(0, .sl (List.map GTerm_S a0)), (1, I k_6), (5, I i_7), (9, .bool (decide (i_7 < (a0.length : Int))))] [] (ai (lenT (d := 8) GTerm_S a0) trivial) ?_
  refine seqQ_norm ?_
  rcases itesome h with ⟨hb_8, h⟩ | ⟨hb_8, h⟩
  ·refine cT ((decide (i_7 < (a0.length : Int)))) hb_8 ?_
   refine Wp.skipN (by kernel_rfl) ?_
   refine seqQ_norm ?_
   refine sN ?_
   refine Wp.blockN (i := 1) (by kernel_rfl) ?_
   refine sN ?_
   refine sN ?_
   obtain ⟨e_4_2, hi_4_2, h⟩ := bsome h
   refine rg hc none [oN, oN, some (.el (aTerm e_4_2)), oN, oN, oN, oN] [(0, .sl (List.map GTerm_S a0)), (1, I k_6), (5, I i_7), (18, .bool (e_4_2.fOp != k_6))] [] (ai (idx_sl (enc := GTerm_S) (x := aTerm e_4_2) hi_4_2 (eq_GTerm_S e_4_2)) trivial) ?_
   refine seqQ_norm ?_
   rcases itesome h with ⟨hb_9, h⟩ | ⟨hb_9, h⟩
   ·refine cT ((e_4_2.fOp != k_6)) hb_9 ?_
    refine sN ?_
    refine rg0 hc 1 [(4, I (-1))] [] ?_
    refine seqQ_norm ?_
    refine Wp.retN (by kernel_rfl) ?_
    refine seqQ_ret ?_
    refine blockQ_ret ?_
    refine seqQ_ret ?_
    refine loopQ_ret ?_
    obtain rfl := Option.some.inj h
    exact RetE.ret (fl := [true]) (by kernel_rfl)
   ·refine cF ((e_4_2.fOp != k_6)) hb_9 ?_
    refine Wp.skipN (by kernel_rfl) ?_
    refine seqQ_norm ?_
    refine sN ?_
    refine rg0 hc 3 [(0, .sl (List.map GTerm_S a0)), (1, I (wr (k_6 + 1))), (5, I i_7)] [] ?_
    refine seqQ_norm ?_
    refine sN ?_
    refine sN ?_
    obtain ⟨e_7_2, hi_7_2, h⟩ := bsome h
    refine rg hc none [oN, oN, some (.el (aTerm e_7_2)), oN, oN, oN, oN] [(0, .sl (List.map GTerm_S a0)), (1, I (wr (k_6 + 1))), (5, I i_7), (27, .bool (e_7_2.fN != (wr (k_6 + 1))))] [] (ai (idx_sl (enc := GTerm_S) (x := aTerm e_7_2) hi_7_2 (eq_GTerm_S e_7_2)) trivial) ?_
    refine seqQ_norm ?_
    rcases itesome h with ⟨hb_10, h⟩ | ⟨hb_10, h⟩
    ·refine cT ((e_7_2.fN != (wr (k_6 + 1)))) hb_10 ?_
     refine sN ?_
     refine rg0 hc 1 [(4, I (-1))] [] ?_
     refine seqQ_norm ?_
     refine Wp.retN (by kernel_rfl) ?_
     refine seqQ_ret ?_
     refine blockQ_ret ?_
     refine seqQ_ret ?_
     refine loopQ_ret ?_
     obtain rfl := Option.some.inj h
     exact RetE.ret (fl := [true]) (by kernel_rfl)
    ·refine cF ((e_7_2.fN != (wr (k_6 + 1)))) hb_10 ?_
     refine Wp.skipN (by kernel_rfl) ?_
     refine seqQ_norm ?_
     refine sN ?_
     refine rg0 hc 3 [(0, .sl (List.map GTerm_S a0)), (1, I (wr ((wr (k_6 + 1)) + 1))), (5, I i_7)] [] ?_
     refine seqQ_norm ?_
     refine sN ?_
     obtain ⟨e_10_2, hi_10_2, h⟩ := bsome h
     obtain ⟨r_10_6, hr_10_6, h⟩ := bsome h
     refine rg hc none [oN, oN, some (.el (aTerm e_10_2)), oN, oN, oN, oc (I r_10_6), oN] [(0, .sl (List.map GTerm_S a0)), (1, I r_10_6), (5, I i_7)] [] (ai (idx_sl (enc := GTerm_S) (x := aTerm e_10_2) hi_10_2 (eq_GTerm_S e_10_2)) (ai (laws_heldIntS_s _ _ hr_10_6) (ai bod_53 (ai (oi (I r_10_6)) trivial)))) ?_
     refine seqQ_norm ?_
     refine sN ?_
     refine sN ?_
     refine rg0 hc 2 [(0, .sl (List.map GTerm_S a0)), (1, I r_10_6), (5, I i_7), (38, .bool (decide (r_10_6 < 0)))] [] ?_
     refine seqQ_norm ?_
     rcases itesome h with ⟨hb_11, h⟩ | ⟨hb_11, h⟩
     ·refine cT ((decide (r_10_6 < 0))) hb_11 ?_
      refine sN ?_
      refine rg0 hc 1 [(4, I (-1))] [] ?_
      refine seqQ_norm ?_
      refine Wp.retN (by kernel_rfl) ?_
      refine seqQ_ret ?_
      refine blockQ_ret ?_
      refine seqQ_ret ?_
      refine loopQ_ret ?_
      obtain rfl := Option.some.inj h
      exact RetE.ret (fl := [true]) (by kernel_rfl)
     ·refine cF ((decide (r_10_6 < 0))) hb_11 ?_
      refine Wp.skipN (by kernel_rfl) ?_
      refine seqQ_norm ?_
      refine sN ?_
      obtain ⟨e_13_2, hi_13_2, h⟩ := bsome h
      obtain ⟨r_13_6, hr_13_6, h⟩ := bsome h
      refine rg hc none [oN, oN, some (.el (aTerm e_13_2)), oN, oN, oN, oc (I r_13_6), oN] [(0, .sl (List.map GTerm_S a0)), (1, I r_13_6), (5, I i_7)] [] (ai (idx_sl (enc := GTerm_S) (x := aTerm e_13_2) hi_13_2 (eq_GTerm_S e_13_2)) (ai (laws_heldTermS_ih _ _ hr_13_6) (ai bod_54 (ai (oi (I r_13_6)) trivial)))) ?_
      refine seqQ_norm ?_
      refine sN ?_
      refine rg0 hc 2 [(0, .sl (List.map GTerm_S a0)), (1, I r_13_6), (5, I i_7), (47, .bool (decide (r_13_6 < 0)))] [] ?_
      refine seqQ_norm ?_
      rcases itesome h with ⟨hb_12, h⟩ | ⟨hb_12, h⟩
      ·refine cT ((decide (r_13_6 < 0))) hb_12 ?_
       refine sN ?_
       refine rg0 hc 1 [(4, I (-1))] [] ?_
       refine seqQ_norm ?_
       refine Wp.retN (by kernel_rfl) ?_
       refine blockQ_ret ?_
       refine seqQ_ret ?_
       refine loopQ_ret ?_
       obtain rfl := Option.some.inj h
       exact RetE.ret (fl := [true]) (by kernel_rfl)
      ·refine cF ((decide (r_13_6 < 0))) hb_12 ?_
       refine Wp.skipN (by kernel_rfl) ?_
       refine blockQ_norm ?_
       refine seqQ_norm ?_
       refine rg0 hc 3 [(0, .sl (List.map GTerm_S a0)), (1, I r_13_6), (5, I (wr (i_7 + 1)))] [] ?_
       refine loopQ_norm ?_
       exact (laws_heldTermS_l0_ih _ _ h c hc)
  ·refine cF ((decide (i_7 < (a0.length : Int)))) hb_8 ?_
   refine Wp.exitN (i := 0) (by kernel_rfl) ?_
   refine seqQ_exit ?_
   refine loopQ_exit ?_
   obtain rfl := Option.some.inj h
   exact Into.view (fun a w hv => SRx.renL [] hv (by kernel_rfl) (by kernel_rfl) (by kernel_rfl))
theorem laws_heldTermS_s : ∀ p r, laws_heldTermS p = some r → M_laws_heldTermS p r := laws_heldTermS_all.1
theorem laws_heldTermS_l0_s : ∀ p r, laws_heldTermS_l0 p = some r → M_laws_heldTermS_l0 p r := laws_heldTermS_all.2
def laws_heldTerm (p : GTerm × Int) : Option (Int) :=
 match p with
 | (a0, k1) =>
  (laws_heldIntS (a0.fType, k1)) >>= fun r_1_3 =>
  if (decide (r_1_3 < 0)) = true then
   some (-1)
  else
   (laws_heldTermS (a0.fKids, r_1_3)) >>= fun r_4_3 =>
   if (decide (r_4_3 < 0)) = true then
    some (-1)
   else
    some r_4_3
def M_laws_heldTerm (p : GTerm × Int) (r : Int) : Prop :=
 match p with
 | (a0, k1) => FnSound Try.prog 22 [aTerm a0, I k1] (I r) []
theorem laws_heldTerm_s : ∀ p r, laws_heldTerm p = some r → M_laws_heldTerm p r := by
 rintro ⟨a0, k1⟩ r h
 unfold laws_heldTerm at h
 show FnSound Try.prog 22 [aTerm a0, I k1] (I r) []
 refine FnSound.body0 tiok (fn := Try.f22) (code := B22) (by kernel_rfl) (by kernel_rfl) (by kernel_rfl) (by kernel_rfl) (nt := 18) (by kernel_rfl) (by kernel_rfl) (T := [(0, aTerm a0), (1, I k1)]) (O := []) (by kernel_rfl) (by kernel_rfl) (fun c hc => ?_)
 refine sN ?_
 refine rg hc none [some (.new 1), oN] [(1, I k1), (2, .ra 1 0)] [(1, bTerm a0)] trivial ?_
 refine seqQ_norm ?_
 refine sN ?_
 obtain ⟨r_1_3, hr_1_3, h⟩ := bsome h
 refine rg hc none [oN, oN, oN, oc (I r_1_3), oN] [(1, I r_1_3), (2, .ra 1 0)] [(1, bTerm a0)] (ai (laws_heldIntS_s _ _ hr_1_3) (ai bod_53 (ai (oi (I r_1_3)) trivial))) ?_
 refine seqQ_norm ?_
 refine sN ?_
 refine sN ?_
 refine rg0 hc 2 [(1, I r_1_3), (2, .ra 1 0), (10, .bool (decide (r_1_3 < 0)))] [(1, bTerm a0)] ?_
 refine seqQ_norm ?_
 rcases itesome h with ⟨hb_1, h⟩ | ⟨hb_1, h⟩
 ·refine cT ((decide (r_1_3 < 0))) hb_1 ?_
  refine sN ?_
  refine rg0 hc 1 [(4, I (-1))] [] ?_
  refine seqQ_norm ?_
  refine Wp.retN (by kernel_rfl) ?_
  refine seqQ_ret ?_
  obtain rfl := Option.some.inj h
  exact RetQ.ret (fl := [true]) (by kernel_rfl)
 ·refine cF ((decide (r_1_3 < 0))) hb_1 ?_
  refine Wp.skipN (by kernel_rfl) ?_
  refine seqQ_norm ?_
  refine sN ?_
  obtain ⟨r_4_3, hr_4_3, h⟩ := bsome h
  refine rg hc none [oN, oN, oN, oc (I r_4_3), oN] [(1, I r_4_3)] [] (ai (laws_heldTermS_s _ _ hr_4_3) (ai bod_54 (ai (oi (I r_4_3)) trivial))) ?_
  refine seqQ_norm ?_
  refine sN ?_
  refine sN ?_
  refine rg0 hc 2 [(1, I r_4_3), (16, .bool (decide (r_4_3 < 0)))] [] ?_
  refine seqQ_norm ?_
  rcases itesome h with ⟨hb_2, h⟩ | ⟨hb_2, h⟩
  ·refine cT ((decide (r_4_3 < 0))) hb_2 ?_
   refine sN ?_
   refine rg0 hc 1 [(4, I (-1))] [] ?_
   refine seqQ_norm ?_
   refine Wp.retN (by kernel_rfl) ?_
   refine seqQ_ret ?_
   obtain rfl := Option.some.inj h
   exact RetQ.ret (fl := [true]) (by kernel_rfl)
  ·refine cF ((decide (r_4_3 < 0))) hb_2 ?_
   refine Wp.skipN (by kernel_rfl) ?_
   refine seqQ_norm ?_
   refine sN ?_
   refine rg0 hc 2 [(4, I r_4_3)] [] ?_
   refine seqQ_norm ?_
   refine Wp.retN (by kernel_rfl) ?_
   obtain rfl := Option.some.inj h
   exact RetQ.ret (fl := [true]) (by kernel_rfl)
def laws_FnExactContract (aT0 : GTerm) : Option (Bool) :=
  (laws_szTerm (aT0, 1048576)) >>= fun r_2_2 =>
  if (decide (r_2_2 < 0)) = true then
   some true
  else
   (laws_toTerm aT0) >>= fun r_5_1 =>
   (spec_Contract r_5_1) >>= fun (r_5_2_0, r_5_2_1) =>
   (laws_toTerm aT0) >>= fun r_6_1 =>
   (impl_Contract r_6_1) >>= fun (r_7_1_0, r_7_1_1) =>
   (
    (laws_eqTerm (r_7_1_0, r_5_2_0)) >>= fun r_8_2 =>
    if r_8_2 = true then
     some ((!(r_7_1_1 == r_5_2_1)))
    else
     some (true)
   ) >>= fun v_2 =>
   if v_2 = true then
    some false
   else
    (laws_toTerm aT0) >>= fun r_10_2 =>
    (laws_eqTerm (r_6_1, r_10_2)) >>= fun r_10_3 =>
    if r_10_3 = true then
     (laws_markTerm (r_6_1, 1)) >>= fun (r_13_2, o_13_2_0) =>
     (
      if (decide (r_13_2 < 0)) = true then
       some (true)
      else
       (laws_eqTerm (r_7_1_0, r_5_2_0)) >>= fun r_14_5 =>
       if r_14_5 = true then
        some ((!(r_7_1_1 == r_5_2_1)))
       else
        some (true)
     ) >>= fun v_6 =>
     if v_6 = true then
      some false
     else
      (laws_markTerm (r_7_1_0, 1)) >>= fun (r_17_2, o_17_2_0) =>
      (laws_heldTerm ((GTerm.mk r_7_1_0.fOp r_7_1_0.fN o_17_2_0.fType o_17_2_0.fKids), 1)) >>= fun r_19_2 =>
      if (decide (r_19_2 < 0)) = true then
       some false
      else
       if (r_19_2 != r_17_2) = true then
        some false
       else
        (laws_toTerm aT0) >>= fun r_24_1 =>
        (impl_Contract r_24_1) >>= fun (r_24_2_0, r_24_2_1) =>
        (
         (laws_eqTerm (r_24_2_0, r_5_2_0)) >>= fun r_25_2 =>
         if r_25_2 = true then
          some ((!(r_24_2_1 == r_5_2_1)))
         else
          some (true)
        ) >>= fun v_11 =>
        if v_11 = true then
         some false
        else
         (laws_heldTerm ((GTerm.mk r_7_1_0.fOp r_7_1_0.fN o_17_2_0.fType o_17_2_0.fKids), 1)) >>= fun r_28_2 =>
         if (decide (r_28_2 < 0)) = true then
          some false
         else
          if (r_28_2 != r_17_2) = true then
           some false
          else
           some true
    else
     some false
def M_laws_FnExactContract (aT0 : GTerm) (r : Bool) : Prop :=
 FnSound Try.prog 8 [aTerm aT0] (.bool r) []
theorem laws_FnExactContract_s : ∀ p r, laws_FnExactContract p = some r → M_laws_FnExactContract p r := by
 rintro aT0 r h
 unfold laws_FnExactContract at h
 show FnSound Try.prog 8 [aTerm aT0] (.bool r) []
 refine FnSound.body0 tiok (fn := Try.f8) (code := B8) (by kernel_rfl) (by kernel_rfl) (by kernel_rfl) (by kernel_rfl) (nt := 96) (by kernel_rfl) (by kernel_rfl) (T := [(0, aTerm aT0)]) (O := []) (by kernel_rfl) (by kernel_rfl) (fun c hc => ?_)
 refine sN ?_
 refine rg hc none [some (.new 1), oN] [(1, .ra 1 0)] [(1, bTerm aT0)] trivial ?_
 refine seqQ_norm ?_
 refine sN ?_
 refine rg0 hc 1 [(1, .ra 1 0), (3, I 1048576)] [(1, bTerm aT0)] ?_
 refine seqQ_norm ?_
 refine sN ?_
 obtain ⟨r_2_2, hr_2_2, h⟩ := bsome h
 refine rg hc none [oN, oN, oc (I r_2_2), oN] [(1, .ra 1 0), (3, I r_2_2)] [(1, bTerm aT0)] (ai (laws_szTerm_s _ _ hr_2_2) (ai bod_23 (ai (oi (I r_2_2)) trivial))) ?_
 refine seqQ_norm ?_
 refine sN ?_
 refine sN ?_
 refine rg0 hc 2 [(1, .ra 1 0), (18, .bool (decide (r_2_2 < 0)))] [(1, bTerm aT0)] ?_
 refine seqQ_norm ?_
 rcases itesome h with ⟨hb_1, h⟩ | ⟨hb_1, h⟩
 ·refine cT ((decide (r_2_2 < 0))) hb_1 ?_
  refine sN ?_
  refine rg0 hc 1 [(2, .bool true)] [] ?_
  refine seqQ_norm ?_
  refine Wp.retN (by kernel_rfl) ?_
  refine seqQ_ret ?_
  obtain rfl := Option.some.inj h
  exact RetQ.ret (fl := [true]) (by kernel_rfl)
 ·refine cF ((decide (r_2_2 < 0))) hb_1 ?_
  refine Wp.skipN (by kernel_rfl) ?_
  refine seqQ_norm ?_
  refine sN ?_
  obtain ⟨r_5_1, hr_5_1, h⟩ := bsome h
  obtain ⟨⟨r_5_2_0, r_5_2_1⟩, hr_5_2, h⟩ := bsome h
  refine rg hc none [oN, some (.call (qTerm r_5_1) [] 2), some (.call (.tup [qTerm r_5_2_0, .bool r_5_2_1]) [] 4), oN, oN, oN, some (.new 6), oN, oN] [(1, .ra 1 0), (4, .ra 6 0), (5, .bool r_5_2_1)] [(1, bTerm aT0), (4, .arr (List.map I r_5_2_0.fType)), (5, .arr (List.map GTerm_O r_5_2_0.fKids)), (6, .box [I r_5_2_0.fOp, I r_5_2_0.fN, .rs 4, .rs 5])] (ai (laws_toTerm_s _ _ hr_5_1) (ai bod_25 (ai (oi (qTerm r_5_1)) (ai (FnSound.args (A1 := [hTerm r_5_1]) (A2 := [aTerm r_5_1]) (by simp only [sI, sB, aTerm, hTerm, List.map_nil, sh_GTerm_O, sh_I]) (spec_Contract_s _ _ hr_5_2)) (ai bod_33 (ai (Or.inr (nsh_cons (nsh_cons rfl (nsh_cons rfl (nsh_cons (nsh_row nsh_I r_5_2_0.fType) (nsh_cons (nsh_row nsh_GTerm_O r_5_2_0.fKids) rfl)))) (nsh_cons rfl rfl)) : ([2, 3] : List Nat) = [] ∨ noSh (.tup [qTerm r_5_2_0, .bool r_5_2_1]) = true) trivial)))))) ?_
  refine seqQ_norm ?_
  refine sN ?_
  obtain ⟨r_6_1, hr_6_1, h⟩ := bsome h
  refine rg hc none [oN, some (.call (qTerm r_6_1) [] 7), some (.new 9), oN] [(1, .ra 1 0), (4, .ra 6 0), (5, .bool r_5_2_1), (6, .ra 9 0)] [(1, bTerm aT0), (4, .arr (List.map I r_5_2_0.fType)), (5, .arr (List.map GTerm_O r_5_2_0.fKids)), (6, .box [I r_5_2_0.fOp, I r_5_2_0.fN, .rs 4, .rs 5]), (7, .arr (List.map I r_6_1.fType)), (8, .arr (List.map GTerm_O r_6_1.fKids)), (9, .box [I r_6_1.fOp, I r_6_1.fN, .rs 7, .rs 8])] (ai (laws_toTerm_s _ _ hr_6_1) (ai bod_25 (ai (oi (qTerm r_6_1)) trivial))) ?_
  refine seqQ_norm ?_
  refine sN ?_
  obtain ⟨⟨r_7_1_0, r_7_1_1⟩, hr_7_1, h⟩ := bsome h
  refine rg hc none [oN, some (.call (.tup [qTerm r_7_1_0, .bool r_7_1_1]) [] 10), oN, oN, oN, some (.new 12), oN, oN] [(1, .ra 1 0), (4, .ra 6 0), (5, .bool r_5_2_1), (6, .ra 9 0), (7, .ra 12 0), (8, .bool r_7_1_1)] [(1, bTerm aT0), (4, .arr (List.map I r_5_2_0.fType)), (5, .arr (List.map GTerm_O r_5_2_0.fKids)), (6, .box [I r_5_2_0.fOp, I r_5_2_0.fN, .rs 4, .rs 5]), (7, .arr (List.map I r_6_1.fType)), (8, .arr (List.map GTerm_O r_6_1.fKids)), (9, .box [I r_6_1.fOp, I r_6_1.fN, .rs 7, .rs 8]), (10, .arr (List.map I r_7_1_0.fType)), (11, .arr (List.map GTerm_O r_7_1_0.fKids)), (12, .box [I r_7_1_0.fOp, I r_7_1_0.fN, .rs 10, .rs 11])] (ai (FnSound.args (A1 := [hTerm r_6_1]) (A2 := [aTerm r_6_1]) (by simp only [sI, sB, aTerm, hTerm, List.map_nil, sh_GTerm_O, sh_I]) (impl_Contract_s _ _ hr_7_1)) (ai bod_34 (ai (Or.inr (nsh_cons (nsh_cons rfl (nsh_cons rfl (nsh_cons (nsh_row nsh_I r_7_1_0.fType) (nsh_cons (nsh_row nsh_GTerm_O r_7_1_0.fKids) rfl)))) (nsh_cons rfl rfl)) : ([7, 8] : List Nat) = [] ∨ noSh (.tup [qTerm r_7_1_0, .bool r_7_1_1]) = true) trivial))) ?_
  refine seqQ_norm ?_
  refine sN ?_
  refine sN ?_
  obtain ⟨v_2, hj_3, h⟩ := bsome h
  refine Wp.into (x := .normal) (mkS [(1, .ra 1 0), (4, .ra 6 0), (5, .bool r_5_2_1), (6, .ra 9 0), (7, .ra 12 0), (8, .bool r_7_1_1), (40, .bool v_2)] [(1, bTerm aT0), (4, .arr (List.map I r_5_2_0.fType)), (5, .arr (List.map GTerm_O r_5_2_0.fKids)), (6, .box [I r_5_2_0.fOp, I r_5_2_0.fN, .rs 4, .rs 5]), (7, .arr (List.map I r_6_1.fType)), (8, .arr (List.map GTerm_O r_6_1.fKids)), (9, .box [I r_6_1.fOp, I r_6_1.fN, .rs 7, .rs 8]), (10, .arr (List.map I r_7_1_0.fType)), (11, .arr (List.map GTerm_O r_7_1_0.fKids)), (12, .box [I r_7_1_0.fOp, I r_7_1_0.fN, .rs 10, .rs 11])]) ?_ ?_
  ·replace h := hj_3
   obtain ⟨r_8_2, hr_8_2, h⟩ := bsome h
   rcases itesome h with ⟨hb_8_0, h⟩ | ⟨hb_8_0, h⟩
   ·refine rg hc none [oN, oN, oc (.bool r_8_2), oN, oN, oN, oN, oN, oF] [(1, .ra 1 0), (4, .ra 6 0), (5, .bool r_5_2_1), (6, .ra 9 0), (7, .ra 12 0), (8, .bool r_7_1_1), (40, .bool (!(r_7_1_1 == r_5_2_1)))] [(1, bTerm aT0), (4, .arr (List.map I r_5_2_0.fType)), (5, .arr (List.map GTerm_O r_5_2_0.fKids)), (6, .box [I r_5_2_0.fOp, I r_5_2_0.fN, .rs 4, .rs 5]), (7, .arr (List.map I r_6_1.fType)), (8, .arr (List.map GTerm_O r_6_1.fKids)), (9, .box [I r_6_1.fOp, I r_6_1.fN, .rs 7, .rs 8]), (10, .arr (List.map I r_7_1_0.fType)), (11, .arr (List.map GTerm_O r_7_1_0.fKids)), (12, .box [I r_7_1_0.fOp, I r_7_1_0.fN, .rs 10, .rs 11])] (ai (FnSound.args (A1 := [hTerm r_7_1_0, hTerm r_5_2_0]) (A2 := [aTerm r_7_1_0, aTerm r_5_2_0]) (by simp only [sI, sB, aTerm, hTerm, List.map_nil, sh_GTerm_O, sh_I]) (laws_eqTerm_s _ _ hr_8_2)) (ai bod_16 (ai (Or.inr rfl : ([10, 11, 4, 5] : List Nat) = [] ∨ noSh (.bool r_8_2) = true) (ar 4 (nF hb_8_0) trivial)))) ?_
    obtain rfl := Option.some.inj h
    exact Into.mk
   ·refine rg hc none [oN, oN, oc (.bool r_8_2), oN, oN, o_, o_, o_, oT] [(1, .ra 1 0), (4, .ra 6 0), (5, .bool r_5_2_1), (6, .ra 9 0), (7, .ra 12 0), (8, .bool r_7_1_1), (40, .bool true)] [(1, bTerm aT0), (4, .arr (List.map I r_5_2_0.fType)), (5, .arr (List.map GTerm_O r_5_2_0.fKids)), (6, .box [I r_5_2_0.fOp, I r_5_2_0.fN, .rs 4, .rs 5]), (7, .arr (List.map I r_6_1.fType)), (8, .arr (List.map GTerm_O r_6_1.fKids)), (9, .box [I r_6_1.fOp, I r_6_1.fN, .rs 7, .rs 8]), (10, .arr (List.map I r_7_1_0.fType)), (11, .arr (List.map GTerm_O r_7_1_0.fKids)), (12, .box [I r_7_1_0.fOp, I r_7_1_0.fN, .rs 10, .rs 11])] (ai (FnSound.args (A1 := [hTerm r_7_1_0, hTerm r_5_2_0]) (A2 := [aTerm r_7_1_0, aTerm r_5_2_0]) (by simp only [sI, sB, aTerm, hTerm, List.map_nil, sh_GTerm_O, sh_I]) (laws_eqTerm_s _ _ hr_8_2)) (ai bod_16 (ai (Or.inr rfl : ([10, 11, 4, 5] : List Nat) = [] ∨ noSh (.bool r_8_2) = true) (ar 3 (neF (nT hb_8_0)) (ai (nT hb_8_0) trivial))))) ?_
    obtain rfl := Option.some.inj h
    exact Into.mk
  ·clear hj_3
   refine seqQ_norm ?_
   rcases itesome h with ⟨hb_4, h⟩ | ⟨hb_4, h⟩
   ·refine cT v_2 hb_4 ?_
    refine sN ?_
    refine rg0 hc 1 [(2, .bool false)] [] ?_
    refine seqQ_norm ?_
    refine Wp.retN (by kernel_rfl) ?_
    refine seqQ_ret ?_
    obtain rfl := Option.some.inj h
    exact RetQ.ret (fl := [true]) (by kernel_rfl)
   ·refine cF v_2 hb_4 ?_
    refine Wp.skipN (by kernel_rfl) ?_
    refine seqQ_norm ?_
    refine sN ?_
    refine sN ?_
    obtain ⟨r_10_2, hr_10_2, h⟩ := bsome h
    obtain ⟨r_10_3, hr_10_3, h⟩ := bsome h
    refine rg hc (rx [[0], [0], [0, 1], [3], [4]]) [oN, oN, some (.call (qTerm r_10_2) [] 13), oc (.bool r_10_3), oN] [(1, .ra 1 0), (4, .ra 6 0), (5, .bool r_5_2_1), (6, .ra 9 0), (7, .ra 12 0), (8, .bool r_7_1_1), (45, .bool (!r_10_3))] [(1, bTerm aT0), (4, .arr (List.map I r_5_2_0.fType)), (5, .arr (List.map GTerm_O r_5_2_0.fKids)), (6, .box [I r_5_2_0.fOp, I r_5_2_0.fN, .rs 4, .rs 5]), (7, .arr (List.map I r_6_1.fType)), (8, .arr (List.map GTerm_O r_6_1.fKids)), (9, .box [I r_6_1.fOp, I r_6_1.fN, .rs 7, .rs 8]), (10, .arr (List.map I r_7_1_0.fType)), (11, .arr (List.map GTerm_O r_7_1_0.fKids)), (12, .box [I r_7_1_0.fOp, I r_7_1_0.fN, .rs 10, .rs 11])] (ai (laws_toTerm_s _ _ hr_10_2) (ai bod_25 (ai (oi (qTerm r_10_2)) (ai (FnSound.args (A1 := [hTerm r_6_1, hTerm r_10_2]) (A2 := [aTerm r_6_1, aTerm r_10_2]) (by simp only [sI, sB, aTerm, hTerm, List.map_nil, sh_GTerm_O, sh_I]) (laws_eqTerm_s _ _ hr_10_3)) (ai bod_16 (ai (Or.inr rfl : ([7, 8, 13, 14] : List Nat) = [] ∨ noSh (.bool r_10_3) = true) trivial)))))) ?_
    refine seqQ_norm ?_
    rcases itesome h with ⟨hb_5, h⟩ | ⟨hb_5, h⟩
    ·refine cF (!r_10_3) (nF hb_5) ?_
     refine Wp.skipN (by kernel_rfl) ?_
     refine seqQ_norm ?_
     refine sN ?_
     refine rg0 hc 1 [(1, .ra 1 0), (4, .ra 6 0), (5, .bool r_5_2_1), (6, .ra 9 0), (7, .ra 12 0), (8, .bool r_7_1_1), (9, I 1)] [(1, bTerm aT0), (4, .arr (List.map I r_5_2_0.fType)), (5, .arr (List.map GTerm_O r_5_2_0.fKids)), (6, .box [I r_5_2_0.fOp, I r_5_2_0.fN, .rs 4, .rs 5]), (7, .arr (List.map I r_6_1.fType)), (8, .arr (List.map GTerm_O r_6_1.fKids)), (9, .box [I r_6_1.fOp, I r_6_1.fN, .rs 7, .rs 8]), (10, .arr (List.map I r_7_1_0.fType)), (11, .arr (List.map GTerm_O r_7_1_0.fKids)), (12, .box [I r_7_1_0.fOp, I r_7_1_0.fN, .rs 10, .rs 11])] ?_
     refine seqQ_norm ?_
     refine sN ?_
     obtain ⟨⟨r_13_2, o_13_2_0⟩, hr_13_2, h⟩ := bsome h
     refine rg hc none [oN, oN, some (.call (I r_13_2) [.agg [.undef, .undef, .osl (List.map I o_13_2_0.fType), .osl (List.map GTerm_O o_13_2_0.fKids)], .undef] 1), oN] [(1, .ra 1 0), (4, .ra 6 0), (5, .bool r_5_2_1), (7, .ra 12 0), (8, .bool r_7_1_1), (9, I r_13_2)] [(1, bTerm aT0), (4, .arr (List.map I r_5_2_0.fType)), (5, .arr (List.map GTerm_O r_5_2_0.fKids)), (6, .box [I r_5_2_0.fOp, I r_5_2_0.fN, .rs 4, .rs 5]), (10, .arr (List.map I r_7_1_0.fType)), (11, .arr (List.map GTerm_O r_7_1_0.fKids)), (12, .box [I r_7_1_0.fOp, I r_7_1_0.fN, .rs 10, .rs 11])] (ai (laws_markTerm_s _ _ hr_13_2) (ai bod_21 trivial)) ?_
     refine seqQ_norm ?_
     refine sN ?_
     refine sN ?_
     obtain ⟨v_6, hj_7, h⟩ := bsome h
     refine Wp.into (x := .normal) (mkS [(1, .ra 1 0), (4, .ra 6 0), (5, .bool r_5_2_1), (7, .ra 12 0), (61, .bool v_6)] [(1, bTerm aT0), (4, .arr (List.map I r_5_2_0.fType)), (5, .arr (List.map GTerm_O r_5_2_0.fKids)), (6, .box [I r_5_2_0.fOp, I r_5_2_0.fN, .rs 4, .rs 5]), (10, .arr (List.map I r_7_1_0.fType)), (11, .arr (List.map GTerm_O r_7_1_0.fKids)), (12, .box [I r_7_1_0.fOp, I r_7_1_0.fN, .rs 10, .rs 11])]) ?_ ?_
     ·replace h := hj_7
      rcases itesome h with ⟨hb_14_0, h⟩ | ⟨hb_14_0, h⟩
      ·refine rg hc none [oN, oN, oN, o_, o_, o_, o_, oT, oN, o_, o_, o_, oT] [(1, .ra 1 0), (4, .ra 6 0), (5, .bool r_5_2_1), (7, .ra 12 0), (61, .bool true)] [(1, bTerm aT0), (4, .arr (List.map I r_5_2_0.fType)), (5, .arr (List.map GTerm_O r_5_2_0.fKids)), (6, .box [I r_5_2_0.fOp, I r_5_2_0.fN, .rs 4, .rs 5]), (10, .arr (List.map I r_7_1_0.fType)), (11, .arr (List.map GTerm_O r_7_1_0.fKids)), (12, .box [I r_7_1_0.fOp, I r_7_1_0.fN, .rs 10, .rs 11])] (ar 4 (neF hb_14_0) (ai hb_14_0 (ar 3 nf (ai tt trivial)))) ?_
       obtain rfl := Option.some.inj h
       exact Into.mk
      ·obtain ⟨r_14_5, hr_14_5, h⟩ := bsome h
       rcases itesome h with ⟨hb_14_1, h⟩ | ⟨hb_14_1, h⟩
       ·refine rg hc none [oN, oN, oN, oN, oN, oc (.bool r_14_5), oN, oF, oN, oN, oN, oN, oF] [(1, .ra 1 0), (4, .ra 6 0), (5, .bool r_5_2_1), (7, .ra 12 0), (61, .bool (!(r_7_1_1 == r_5_2_1)))] [(1, bTerm aT0), (4, .arr (List.map I r_5_2_0.fType)), (5, .arr (List.map GTerm_O r_5_2_0.fKids)), (6, .box [I r_5_2_0.fOp, I r_5_2_0.fN, .rs 4, .rs 5]), (10, .arr (List.map I r_7_1_0.fType)), (11, .arr (List.map GTerm_O r_7_1_0.fKids)), (12, .box [I r_7_1_0.fOp, I r_7_1_0.fN, .rs 10, .rs 11])] (ar 3 hb_14_0 (ai (FnSound.args (A1 := [hTerm r_7_1_0, hTerm r_5_2_0]) (A2 := [aTerm r_7_1_0, aTerm r_5_2_0]) (by simp only [sI, sB, aTerm, hTerm, List.map_nil, sh_GTerm_O, sh_I]) (laws_eqTerm_s _ _ hr_14_5)) (ai bod_16 (ai (Or.inr rfl : ([10, 11, 4, 5] : List Nat) = [] ∨ noSh (.bool r_14_5) = true) (ar 2 hb_14_0 (ar 4 (nF hb_14_1) trivial)))))) ?_
        obtain rfl := Option.some.inj h
        exact Into.mk
       ·refine rg hc none [oN, oN, oN, oN, oN, oc (.bool r_14_5), oN, oF, oN, o_, o_, o_, oT] [(1, .ra 1 0), (4, .ra 6 0), (5, .bool r_5_2_1), (7, .ra 12 0), (61, .bool true)] [(1, bTerm aT0), (4, .arr (List.map I r_5_2_0.fType)), (5, .arr (List.map GTerm_O r_5_2_0.fKids)), (6, .box [I r_5_2_0.fOp, I r_5_2_0.fN, .rs 4, .rs 5]), (10, .arr (List.map I r_7_1_0.fType)), (11, .arr (List.map GTerm_O r_7_1_0.fKids)), (12, .box [I r_7_1_0.fOp, I r_7_1_0.fN, .rs 10, .rs 11])] (ar 3 hb_14_0 (ai (FnSound.args (A1 := [hTerm r_7_1_0, hTerm r_5_2_0]) (A2 := [aTerm r_7_1_0, aTerm r_5_2_0]) (by simp only [sI, sB, aTerm, hTerm, List.map_nil, sh_GTerm_O, sh_I]) (laws_eqTerm_s _ _ hr_14_5)) (ai bod_16 (ai (Or.inr rfl : ([10, 11, 4, 5] : List Nat) = [] ∨ noSh (.bool r_14_5) = true) (ar 2 hb_14_0 (ar 3 (neF (nT hb_14_1)) (ai (nT hb_14_1) trivial))))))) ?_
        obtain rfl := Option.some.inj h
        exact Into.mk
     ·clear hj_7
      refine seqQ_norm ?_
      rcases itesome h with ⟨hb_8, h⟩ | ⟨hb_8, h⟩
      ·refine cT v_6 hb_8 ?_
       refine sN ?_
       refine rg0 hc 1 [(2, .bool false)] [] ?_
       refine seqQ_norm ?_
       refine Wp.retN (by kernel_rfl) ?_
       refine seqQ_ret ?_
       obtain rfl := Option.some.inj h
       exact RetQ.ret (fl := [true]) (by kernel_rfl)
      ·refine cF v_6 hb_8 ?_
       refine Wp.skipN (by kernel_rfl) ?_
       refine seqQ_norm ?_
       refine sN ?_
       refine rg0 hc 1 [(1, .ra 1 0), (4, .ra 6 0), (5, .bool r_5_2_1), (7, .ra 12 0), (10, I 1)] [(1, bTerm aT0), (4, .arr (List.map I r_5_2_0.fType)), (5, .arr (List.map GTerm_O r_5_2_0.fKids)), (6, .box [I r_5_2_0.fOp, I r_5_2_0.fN, .rs 4, .rs 5]), (10, .arr (List.map I r_7_1_0.fType)), (11, .arr (List.map GTerm_O r_7_1_0.fKids)), (12, .box [I r_7_1_0.fOp, I r_7_1_0.fN, .rs 10, .rs 11])] ?_
       refine seqQ_norm ?_
       refine sN ?_
       obtain ⟨⟨r_17_2, o_17_2_0⟩, hr_17_2, h⟩ := bsome h
       refine rg hc none [oN, oN, some (.call (I r_17_2) [.agg [.undef, .undef, .osl (List.map I o_17_2_0.fType), .osl (List.map GTerm_O o_17_2_0.fKids)], .undef] 1), oN] [(1, .ra 1 0), (4, .ra 6 0), (5, .bool r_5_2_1), (7, .ra 12 0), (10, I r_17_2)] [(1, bTerm aT0), (4, .arr (List.map I r_5_2_0.fType)), (5, .arr (List.map GTerm_O r_5_2_0.fKids)), (6, .box [I r_5_2_0.fOp, I r_5_2_0.fN, .rs 4, .rs 5]), (10, .arr (List.map I o_17_2_0.fType)), (11, .arr (List.map GTerm_O o_17_2_0.fKids)), (12, .box [I r_7_1_0.fOp, I r_7_1_0.fN, .rs 10, .rs 11])] (ai (laws_markTerm_s _ _ hr_17_2) (ai bod_21 trivial)) ?_
       refine seqQ_norm ?_
       refine sN ?_
       refine rg0 hc 1 [(1, .ra 1 0), (4, .ra 6 0), (5, .bool r_5_2_1), (7, .ra 12 0), (10, I r_17_2), (11, I 1)] [(1, bTerm aT0), (4, .arr (List.map I r_5_2_0.fType)), (5, .arr (List.map GTerm_O r_5_2_0.fKids)), (6, .box [I r_5_2_0.fOp, I r_5_2_0.fN, .rs 4, .rs 5]), (10, .arr (List.map I o_17_2_0.fType)), (11, .arr (List.map GTerm_O o_17_2_0.fKids)), (12, .box [I r_7_1_0.fOp, I r_7_1_0.fN, .rs 10, .rs 11])] ?_
       refine seqQ_norm ?_
       refine sN ?_
       obtain ⟨r_19_2, hr_19_2, h⟩ := bsome h
       refine rg hc none [oN, oN, oc (I r_19_2), oN] [(1, .ra 1 0), (4, .ra 6 0), (5, .bool r_5_2_1), (7, .ra 12 0), (10, I r_17_2), (11, I r_19_2)] [(1, bTerm aT0), (4, .arr (List.map I r_5_2_0.fType)), (5, .arr (List.map GTerm_O r_5_2_0.fKids)), (6, .box [I r_5_2_0.fOp, I r_5_2_0.fN, .rs 4, .rs 5]), (10, .arr (List.map I o_17_2_0.fType)), (11, .arr (List.map GTerm_O o_17_2_0.fKids)), (12, .box [I r_7_1_0.fOp, I r_7_1_0.fN, .rs 10, .rs 11])] (ai (FnSound.args (A1 := [.agg [I r_7_1_0.fOp, I r_7_1_0.fN, .sl (shares (List.map I o_17_2_0.fType)), .sl (shares (List.map GTerm_O o_17_2_0.fKids))], I 1]) (A2 := [.agg [I r_7_1_0.fOp, I r_7_1_0.fN, sI o_17_2_0.fType, .sl (List.map GTerm_S o_17_2_0.fKids)], I 1]) (by simp only [sI, sB, aTerm, hTerm, List.map_nil, sh_GTerm_O, sh_I]) (laws_heldTerm_s _ _ hr_19_2)) (ai bod_22 (ai (Or.inr rfl : ([10, 11] : List Nat) = [] ∨ noSh (I r_19_2) = true) trivial))) ?_
       refine seqQ_norm ?_
       refine sN ?_
       refine sN ?_
       refine rg0 hc 2 [(1, .ra 1 0), (4, .ra 6 0), (5, .bool r_5_2_1), (7, .ra 12 0), (10, I r_17_2), (11, I r_19_2), (69, .bool (decide (r_19_2 < 0)))] [(1, bTerm aT0), (4, .arr (List.map I r_5_2_0.fType)), (5, .arr (List.map GTerm_O r_5_2_0.fKids)), (6, .box [I r_5_2_0.fOp, I r_5_2_0.fN, .rs 4, .rs 5]), (10, .arr (List.map I o_17_2_0.fType)), (11, .arr (List.map GTerm_O o_17_2_0.fKids)), (12, .box [I r_7_1_0.fOp, I r_7_1_0.fN, .rs 10, .rs 11])] ?_
       refine seqQ_norm ?_
       rcases itesome h with ⟨hb_9, h⟩ | ⟨hb_9, h⟩
       ·refine cT ((decide (r_19_2 < 0))) hb_9 ?_
        refine sN ?_
        refine rg0 hc 1 [(2, .bool false)] [] ?_
        refine seqQ_norm ?_
        refine Wp.retN (by kernel_rfl) ?_
        refine seqQ_ret ?_
        obtain rfl := Option.some.inj h
        exact RetQ.ret (fl := [true]) (by kernel_rfl)
       ·refine cF ((decide (r_19_2 < 0))) hb_9 ?_
        refine Wp.skipN (by kernel_rfl) ?_
        refine seqQ_norm ?_
        refine sN ?_
        refine sN ?_
        refine rg0 hc 3 [(1, .ra 1 0), (4, .ra 6 0), (5, .bool r_5_2_1), (7, .ra 12 0), (10, I r_17_2), (72, .bool (r_19_2 != r_17_2))] [(1, bTerm aT0), (4, .arr (List.map I r_5_2_0.fType)), (5, .arr (List.map GTerm_O r_5_2_0.fKids)), (6, .box [I r_5_2_0.fOp, I r_5_2_0.fN, .rs 4, .rs 5]), (10, .arr (List.map I o_17_2_0.fType)), (11, .arr (List.map GTerm_O o_17_2_0.fKids)), (12, .box [I r_7_1_0.fOp, I r_7_1_0.fN, .rs 10, .rs 11])] ?_
        refine seqQ_norm ?_
        rcases itesome h with ⟨hb_10, h⟩ | ⟨hb_10, h⟩
        ·refine cT ((r_19_2 != r_17_2)) hb_10 ?_
         refine sN ?_
         refine rg0 hc 1 [(2, .bool false)] [] ?_
         refine seqQ_norm ?_
         refine Wp.retN (by kernel_rfl) ?_
         refine seqQ_ret ?_
         obtain rfl := Option.some.inj h
         exact RetQ.ret (fl := [true]) (by kernel_rfl)
        ·refine cF ((r_19_2 != r_17_2)) hb_10 ?_
         refine Wp.skipN (by kernel_rfl) ?_
         refine seqQ_norm ?_
         refine sN ?_
         obtain ⟨r_24_1, hr_24_1, h⟩ := bsome h
         obtain ⟨⟨r_24_2_0, r_24_2_1⟩, hr_24_2, h⟩ := bsome h
         refine rg hc none [oN, some (.call (qTerm r_24_1) [] 15), some (.call (.tup [qTerm r_24_2_0, .bool r_24_2_1]) [] 17), oN, oN, oN, some (.new 19), oN, oN] [(4, .ra 6 0), (5, .bool r_5_2_1), (7, .ra 12 0), (10, I r_17_2), (12, .ra 19 0), (13, .bool r_24_2_1)] [(4, .arr (List.map I r_5_2_0.fType)), (5, .arr (List.map GTerm_O r_5_2_0.fKids)), (6, .box [I r_5_2_0.fOp, I r_5_2_0.fN, .rs 4, .rs 5]), (10, .arr (List.map I o_17_2_0.fType)), (11, .arr (List.map GTerm_O o_17_2_0.fKids)), (12, .box [I r_7_1_0.fOp, I r_7_1_0.fN, .rs 10, .rs 11]), (17, .arr (List.map I r_24_2_0.fType)), (18, .arr (List.map GTerm_O r_24_2_0.fKids)), (19, .box [I r_24_2_0.fOp, I r_24_2_0.fN, .rs 17, .rs 18])] (ai (laws_toTerm_s _ _ hr_24_1) (ai bod_25 (ai (oi (qTerm r_24_1)) (ai (FnSound.args (A1 := [hTerm r_24_1]) (A2 := [aTerm r_24_1]) (by simp only [sI, sB, aTerm, hTerm, List.map_nil, sh_GTerm_O, sh_I]) (impl_Contract_s _ _ hr_24_2)) (ai bod_34 (ai (Or.inr (nsh_cons (nsh_cons rfl (nsh_cons rfl (nsh_cons (nsh_row nsh_I r_24_2_0.fType) (nsh_cons (nsh_row nsh_GTerm_O r_24_2_0.fKids) rfl)))) (nsh_cons rfl rfl)) : ([15, 16] : List Nat) = [] ∨ noSh (.tup [qTerm r_24_2_0, .bool r_24_2_1]) = true) trivial)))))) ?_
         refine seqQ_norm ?_
         refine sN ?_
         refine sN ?_
         obtain ⟨v_11, hj_12, h⟩ := bsome h
         refine Wp.into (x := .normal) (mkS [(7, .ra 12 0), (10, I r_17_2), (87, .bool v_11)] [(10, .arr (List.map I o_17_2_0.fType)), (11, .arr (List.map GTerm_O o_17_2_0.fKids)), (12, .box [I r_7_1_0.fOp, I r_7_1_0.fN, .rs 10, .rs 11])]) ?_ ?_
         ·replace h := hj_12
          obtain ⟨r_25_2, hr_25_2, h⟩ := bsome h
          rcases itesome h with ⟨hb_25_0, h⟩ | ⟨hb_25_0, h⟩
          ·refine rg hc none [oN, oN, oc (.bool r_25_2), oN, oN, oN, oN, oN, oF] [(7, .ra 12 0), (10, I r_17_2), (87, .bool (!(r_24_2_1 == r_5_2_1)))] [(10, .arr (List.map I o_17_2_0.fType)), (11, .arr (List.map GTerm_O o_17_2_0.fKids)), (12, .box [I r_7_1_0.fOp, I r_7_1_0.fN, .rs 10, .rs 11])] (ai (FnSound.args (A1 := [hTerm r_24_2_0, hTerm r_5_2_0]) (A2 := [aTerm r_24_2_0, aTerm r_5_2_0]) (by simp only [sI, sB, aTerm, hTerm, List.map_nil, sh_GTerm_O, sh_I]) (laws_eqTerm_s _ _ hr_25_2)) (ai bod_16 (ai (Or.inr rfl : ([17, 18, 4, 5] : List Nat) = [] ∨ noSh (.bool r_25_2) = true) (ar 4 (nF hb_25_0) trivial)))) ?_
           obtain rfl := Option.some.inj h
           exact Into.mk
          ·refine rg hc none [oN, oN, oc (.bool r_25_2), oN, oN, o_, o_, o_, oT] [(7, .ra 12 0), (10, I r_17_2), (87, .bool true)] [(10, .arr (List.map I o_17_2_0.fType)), (11, .arr (List.map GTerm_O o_17_2_0.fKids)), (12, .box [I r_7_1_0.fOp, I r_7_1_0.fN, .rs 10, .rs 11])] (ai (FnSound.args (A1 := [hTerm r_24_2_0, hTerm r_5_2_0]) (A2 := [aTerm r_24_2_0, aTerm r_5_2_0]) (by simp only [sI, sB, aTerm, hTerm, List.map_nil, sh_GTerm_O, sh_I]) (laws_eqTerm_s _ _ hr_25_2)) (ai bod_16 (ai (Or.inr rfl : ([17, 18, 4, 5] : List Nat) = [] ∨ noSh (.bool r_25_2) = true) (ar 3 (neF (nT hb_25_0)) (ai (nT hb_25_0) trivial))))) ?_
           obtain rfl := Option.some.inj h
           exact Into.mk
         ·clear hj_12
          refine seqQ_norm ?_
          rcases itesome h with ⟨hb_13, h⟩ | ⟨hb_13, h⟩
          ·refine cT v_11 hb_13 ?_
           refine sN ?_
           refine rg0 hc 1 [(2, .bool false)] [] ?_
           refine seqQ_norm ?_
           refine Wp.retN (by kernel_rfl) ?_
           refine seqQ_ret ?_
           obtain rfl := Option.some.inj h
           exact RetQ.ret (fl := [true]) (by kernel_rfl)
          ·refine cF v_11 hb_13 ?_
           refine Wp.skipN (by kernel_rfl) ?_
           refine seqQ_norm ?_
           refine sN ?_
           refine rg0 hc 1 [(7, .ra 12 0), (10, I r_17_2), (11, I 1)] [(10, .arr (List.map I o_17_2_0.fType)), (11, .arr (List.map GTerm_O o_17_2_0.fKids)), (12, .box [I r_7_1_0.fOp, I r_7_1_0.fN, .rs 10, .rs 11])] ?_
           refine seqQ_norm ?_
           refine sN ?_
           obtain ⟨r_28_2, hr_28_2, h⟩ := bsome h
           refine rg hc none [oN, oN, oc (I r_28_2), oN] [(10, I r_17_2), (11, I r_28_2)] [] (ai (FnSound.args (A1 := [.agg [I r_7_1_0.fOp, I r_7_1_0.fN, .sl (shares (List.map I o_17_2_0.fType)), .sl (shares (List.map GTerm_O o_17_2_0.fKids))], I 1]) (A2 := [.agg [I r_7_1_0.fOp, I r_7_1_0.fN, sI o_17_2_0.fType, .sl (List.map GTerm_S o_17_2_0.fKids)], I 1]) (by simp only [sI, sB, aTerm, hTerm, List.map_nil, sh_GTerm_O, sh_I]) (laws_heldTerm_s _ _ hr_28_2)) (ai bod_22 (ai (Or.inr rfl : ([10, 11] : List Nat) = [] ∨ noSh (I r_28_2) = true) trivial))) ?_
           refine seqQ_norm ?_
           refine sN ?_
           refine sN ?_
           refine rg0 hc 2 [(10, I r_17_2), (11, I r_28_2), (92, .bool (decide (r_28_2 < 0)))] [] ?_
           refine seqQ_norm ?_
           rcases itesome h with ⟨hb_14, h⟩ | ⟨hb_14, h⟩
           ·refine cT ((decide (r_28_2 < 0))) hb_14 ?_
            refine sN ?_
            refine rg0 hc 1 [(2, .bool false)] [] ?_
            refine seqQ_norm ?_
            refine Wp.retN (by kernel_rfl) ?_
            refine seqQ_ret ?_
            obtain rfl := Option.some.inj h
            exact RetQ.ret (fl := [true]) (by kernel_rfl)
           ·refine cF ((decide (r_28_2 < 0))) hb_14 ?_
            refine Wp.skipN (by kernel_rfl) ?_
            refine seqQ_norm ?_
            refine sN ?_
            refine sN ?_
            refine rg0 hc 3 [(95, .bool (r_28_2 != r_17_2))] [] ?_
            refine seqQ_norm ?_
            rcases itesome h with ⟨hb_15, h⟩ | ⟨hb_15, h⟩
            ·refine cT ((r_28_2 != r_17_2)) hb_15 ?_
             refine sN ?_
             refine rg0 hc 1 [(2, .bool false)] [] ?_
             refine seqQ_norm ?_
             refine Wp.retN (by kernel_rfl) ?_
             refine seqQ_ret ?_
             obtain rfl := Option.some.inj h
             exact RetQ.ret (fl := [true]) (by kernel_rfl)
            ·refine cF ((r_28_2 != r_17_2)) hb_15 ?_
             refine Wp.skipN (by kernel_rfl) ?_
             refine seqQ_norm ?_
             refine sN ?_
             refine rg0 hc 1 [(2, .bool true)] [] ?_
             refine seqQ_norm ?_
             refine Wp.retN (by kernel_rfl) ?_
             obtain rfl := Option.some.inj h
             exact RetQ.ret (fl := [true]) (by kernel_rfl)
    ·refine cT (!r_10_3) (nT hb_5) ?_
     refine sN ?_
     refine rg0 hc 1 [(2, .bool false)] [] ?_
     refine seqQ_norm ?_
     refine Wp.retN (by kernel_rfl) ?_
     refine seqQ_ret ?_
     obtain rfl := Option.some.inj h
     exact RetQ.ret (fl := [true]) (by kernel_rfl)
end Go.Am
