/- Functions of the program as pure functions, and that it computes them. Printed by a program of mine (gen.py). -/
import Derived.Test.YtmdfopkcoinfeaaGPOF7
set_option linter.unusedVariables false
set_option linter.unusedSimpArgs false
set_option maxRecDepth 100000
namespace Go.Am
open Go Go.Proofs
def ah8_0 : Option (List (List Nat)) := rx [[0], [0], [0, 1], [3], [4]]
def laws_eqSystem (p : GSystem × GSystem) : Option (Bool) :=
 match p with
 | (a0, b1) =>
  if (a0.fSize != b1.fSize) = true then
   some false
  else
   (laws_eqIntS (a0.fPlus, b1.fPlus)) >>= fun r_3_4 =>
   if r_3_4 = true then
    (laws_eqIntS (a0.fTimes, b1.fTimes)) >>= fun r_5_4 =>
    if r_5_4 = true then
     (laws_eqBoolS (a0.fBelow, b1.fBelow)) >>= fun r_7_4 =>
     if r_7_4 = true then
      some true
     else
      some false
    else
     some false
   else
    some false
def M_laws_eqSystem (p : GSystem × GSystem) (r : Bool) : Prop :=
 match p with
 | (a0, b1) => FnSound Try.prog 15 [aSystem a0, aSystem b1] (.bool r) []
theorem laws_eqSystem_s : ∀ p r, laws_eqSystem p = some r → M_laws_eqSystem p r := by
 rintro ⟨a0, b1⟩ r h
 unfold laws_eqSystem at h
 show FnSound Try.prog 15 [aSystem a0, aSystem b1] (.bool r) []
 refine FnSound.body0 tiok (fn := Try.f15) (code := B15) (by kernel_rfl) (by kernel_rfl) (by kernel_rfl) (by kernel_rfl) (nt := 28) (by kernel_rfl) (by kernel_rfl) (T := [(0, aSystem a0), (1, aSystem b1)]) (O := []) (by kernel_rfl) (by kernel_rfl) (fun c hc => ?_)
 refine sN ?_
 refine rg hc none [some (.new 1), some (.new 2), oN] [(2, .ra 1 0), (3, .ra 2 0)] [(1, bSystem a0), (2, bSystem b1)] trivial ?_
 refine seqQ_norm ?_
 refine sN ?_
 refine sN ?_
 refine rg0 hc 5 [(2, .ra 1 0), (3, .ra 2 0), (9, .bool (a0.fSize != b1.fSize))] [(1, bSystem a0), (2, bSystem b1)] ?_
 refine seqQ_norm ?_
 rcases itesome h with ⟨hb_1, h⟩ | ⟨hb_1, h⟩
 ·refine cT ((a0.fSize != b1.fSize)) hb_1 ?_
  refine sN ?_
  refine rg0 hc 1 [(4, .bool false)] [] ?_
  refine seqQ_norm ?_
  refine Wp.retN (by kernel_rfl) ?_
  refine seqQ_ret ?_
  obtain rfl := Option.some.inj h
  exact RetQ.ret (fl := [true]) (by kernel_rfl)
 ·refine cF ((a0.fSize != b1.fSize)) hb_1 ?_
  refine Wp.skipN (by kernel_rfl) ?_
  refine seqQ_norm ?_
  refine sN ?_
  refine sN ?_
  obtain ⟨r_3_4, hr_3_4, h⟩ := bsome h
  refine rg hc none [oN, oN, oN, oN, oc (.bool r_3_4), oN] [(2, .ra 1 0), (3, .ra 2 0), (15, .bool (!r_3_4))] [(1, bSystem a0), (2, bSystem b1)] (ai (laws_eqIntS_s _ _ hr_3_4) (ai bod_16 (ai (oi (.bool r_3_4)) trivial))) ?_
  refine seqQ_norm ?_
  rcases itesome h with ⟨hb_2, h⟩ | ⟨hb_2, h⟩
  ·refine cF (!r_3_4) (nF hb_2) ?_
   refine Wp.skipN (by kernel_rfl) ?_
   refine seqQ_norm ?_
   refine sN ?_
   refine sN ?_
   obtain ⟨r_5_4, hr_5_4, h⟩ := bsome h
   refine rg hc none [oN, oN, oN, oN, oc (.bool r_5_4), oN] [(2, .ra 1 0), (3, .ra 2 0), (21, .bool (!r_5_4))] [(1, bSystem a0), (2, bSystem b1)] (ai (laws_eqIntS_s _ _ hr_5_4) (ai bod_16 (ai (oi (.bool r_5_4)) trivial))) ?_
   refine seqQ_norm ?_
   rcases itesome h with ⟨hb_3, h⟩ | ⟨hb_3, h⟩
   ·refine cF (!r_5_4) (nF hb_3) ?_
    refine Wp.skipN (by kernel_rfl) ?_
    refine seqQ_norm ?_
    refine sN ?_
    refine sN ?_
    obtain ⟨r_7_4, hr_7_4, h⟩ := bsome h
    refine rg hc none [oN, oN, oN, oN, oc (.bool r_7_4), oN] [(27, .bool (!r_7_4))] [] (ai (laws_eqBoolS_s _ _ hr_7_4) (ai bod_42 (ai (oi (.bool r_7_4)) trivial))) ?_
    refine seqQ_norm ?_
    rcases itesome h with ⟨hb_4, h⟩ | ⟨hb_4, h⟩
    ·refine cF (!r_7_4) (nF hb_4) ?_
     refine Wp.skipN (by kernel_rfl) ?_
     refine seqQ_norm ?_
     refine sN ?_
     refine rg0 hc 1 [(4, .bool true)] [] ?_
     refine seqQ_norm ?_
     refine Wp.retN (by kernel_rfl) ?_
     obtain rfl := Option.some.inj h
     exact RetQ.ret (fl := [true]) (by kernel_rfl)
    ·refine cT (!r_7_4) (nT hb_4) ?_
     refine sN ?_
     refine rg0 hc 1 [(4, .bool false)] [] ?_
     refine seqQ_norm ?_
     refine Wp.retN (by kernel_rfl) ?_
     refine seqQ_ret ?_
     obtain rfl := Option.some.inj h
     exact RetQ.ret (fl := [true]) (by kernel_rfl)
   ·refine cT (!r_5_4) (nT hb_3) ?_
    refine sN ?_
    refine rg0 hc 1 [(4, .bool false)] [] ?_
    refine seqQ_norm ?_
    refine Wp.retN (by kernel_rfl) ?_
    refine seqQ_ret ?_
    obtain rfl := Option.some.inj h
    exact RetQ.ret (fl := [true]) (by kernel_rfl)
  ·refine cT (!r_3_4) (nT hb_2) ?_
   refine sN ?_
   refine rg0 hc 1 [(4, .bool false)] [] ?_
   refine seqQ_norm ?_
   refine Wp.retN (by kernel_rfl) ?_
   refine seqQ_ret ?_
   obtain rfl := Option.some.inj h
   exact RetQ.ret (fl := [true]) (by kernel_rfl)
def laws_eqTermS_F1 (c : Ctx) : (Unit) ⊕ (Bool) → Exit → AState → Prop
 | .inl _ => Into c (.exit 0) (mkS [] [])
 | .inr r => RetE TIx Try.f43 [] (.bool r)
mutual
def laws_eqTerm (p : GTerm × GTerm) : Option (Bool) :=
 match p with
 | (a0, b1) =>
  if (a0.fOp != b1.fOp) = true then
   some false
  else
   if (a0.fN != b1.fN) = true then
    some false
   else
    (laws_eqIntS (a0.fType, b1.fType)) >>= fun r_5_4 =>
    if r_5_4 = true then
     (laws_eqTermS (a0.fKids, b1.fKids)) >>= fun r_7_4 =>
     if r_7_4 = true then
      some true
     else
      some false
    else
     some false
 partial_fixpoint
def laws_eqTermS (p : (List GTerm) × (List GTerm)) : Option (Bool) :=
 match p with
 | (a0, b1) =>
  if ((a0.length : Int) != (b1.length : Int)) = true then
   some false
  else
   (laws_eqTermS_l0 (a0, b1, 0)) >>= fun fl => match fl with
   | .inl () =>
    some true
   | .inr r =>
    some r
 partial_fixpoint
def laws_eqTermS_l0 (p : (List GTerm) × (List GTerm) × Int) : Option ((Unit) ⊕ (Bool)) :=
 match p with
 | (a0, b1, i_4) =>
  if (decide (i_4 < (a0.length : Int))) = true then
   (idx a0 i_4) >>= fun e_6_2 =>
   (idx b1 i_4) >>= fun e_6_6 =>
   (laws_eqTerm (e_6_2, e_6_6)) >>= fun r_6_8 =>
   if r_6_8 = true then
    laws_eqTermS_l0 (a0, b1, (wr (i_4 + 1)))
   else
    some (.inr false)
  else
   some (.inl ())
 partial_fixpoint
end
def M_laws_eqTerm (p : GTerm × GTerm) (r : Bool) : Prop :=
 match p with
 | (a0, b1) => FnSound Try.prog 17 [aTerm a0, aTerm b1] (.bool r) []
def M_laws_eqTermS (p : (List GTerm) × (List GTerm)) (r : Bool) : Prop :=
 match p with
 | (a0, b1) => FnSound Try.prog 43 [.sl (List.map GTerm_S a0), .sl (List.map GTerm_S b1)] (.bool r) []
def M_laws_eqTermS_l0 (p : (List GTerm) × (List GTerm) × Int) (fl : (Unit) ⊕ (Bool)) : Prop :=
 match p with
 | (a0, b1, i_4) => ∀ c : Ctx, c.nt = 27 → WpL Try.prog c (cl (cl (cr (cl (cr (cr B43)))))) (laws_eqTermS_F1 c fl) (mkS [(0, .sl (List.map GTerm_S a0)), (1, .sl (List.map GTerm_S b1)), (5, I i_4)] [])
theorem laws_eqTerm_all : (∀ p r, laws_eqTerm p = some r → M_laws_eqTerm p r) ∧ (∀ p r, laws_eqTermS p = some r → M_laws_eqTermS p r) ∧ (∀ p r, laws_eqTermS_l0 p = some r → M_laws_eqTermS_l0 p r) := by
 refine laws_eqTerm.mutual_partial_correctness M_laws_eqTerm M_laws_eqTermS M_laws_eqTermS_l0 ?_ ?_ ?_
 ·rintro laws_eqTermS_f laws_eqTermS_ih ⟨a0, b1⟩ r h
  show FnSound Try.prog 17 [aTerm a0, aTerm b1] (.bool r) []
  refine FnSound.body0 tiok (fn := Try.f17) (code := B17) (by kernel_rfl) (by kernel_rfl) (by kernel_rfl) (by kernel_rfl) (nt := 27) (by kernel_rfl) (by kernel_rfl) (T := [(0, aTerm a0), (1, aTerm b1)]) (O := []) (by kernel_rfl) (by kernel_rfl) (fun c hc => ?_)
  refine sN ?_
  refine rg hc none [some (.new 1), some (.new 2), oN] [(2, .ra 1 0), (3, .ra 2 0)] [(1, bTerm a0), (2, bTerm b1)] trivial ?_
  refine seqQ_norm ?_
  refine sN ?_
  refine sN ?_
  refine rg0 hc 5 [(2, .ra 1 0), (3, .ra 2 0), (9, .bool (a0.fOp != b1.fOp))] [(1, bTerm a0), (2, bTerm b1)] ?_
  refine seqQ_norm ?_
  rcases itesome h with ⟨hb_1, h⟩ | ⟨hb_1, h⟩
  ·refine cT ((a0.fOp != b1.fOp)) hb_1 ?_
   refine sN ?_
   refine rg0 hc 1 [(4, .bool false)] [] ?_
   refine seqQ_norm ?_
   refine Wp.retN (by kernel_rfl) ?_
   refine seqQ_ret ?_
   obtain rfl := Option.some.inj h
   exact RetQ.ret (fl := [true]) (by kernel_rfl)
  ·refine cF ((a0.fOp != b1.fOp)) hb_1 ?_
   refine Wp.skipN (by kernel_rfl) ?_
   refine seqQ_norm ?_
   refine sN ?_
   refine sN ?_
   refine rg0 hc 5 [(2, .ra 1 0), (3, .ra 2 0), (14, .bool (a0.fN != b1.fN))] [(1, bTerm a0), (2, bTerm b1)] ?_
   refine seqQ_norm ?_
   rcases itesome h with ⟨hb_2, h⟩ | ⟨hb_2, h⟩
   ·refine cT ((a0.fN != b1.fN)) hb_2 ?_
    refine sN ?_
    refine rg0 hc 1 [(4, .bool false)] [] ?_
    refine seqQ_norm ?_
    refine Wp.retN (by kernel_rfl) ?_
    refine seqQ_ret ?_
    obtain rfl := Option.some.inj h
    exact RetQ.ret (fl := [true]) (by kernel_rfl)
   ·refine cF ((a0.fN != b1.fN)) hb_2 ?_
    refine Wp.skipN (by kernel_rfl) ?_
    refine seqQ_norm ?_
    refine sN ?_
    refine sN ?_
    obtain ⟨r_5_4, hr_5_4, h⟩ := bsome h
    refine rg hc none [oN, oN, oN, oN, oc (.bool r_5_4), oN] [(2, .ra 1 0), (3, .ra 2 0), (20, .bool (!r_5_4))] [(1, bTerm a0), (2, bTerm b1)] (ai (laws_eqIntS_s _ _ hr_5_4) (ai bod_16 (ai (oi (.bool r_5_4)) trivial))) ?_
    refine seqQ_norm ?_
    rcases itesome h with ⟨hb_3, h⟩ | ⟨hb_3, h⟩
    ·refine cF (!r_5_4) (nF hb_3) ?_
     refine Wp.skipN (by kernel_rfl) ?_
     refine seqQ_norm ?_
     refine sN ?_
     refine sN ?_
     obtain ⟨r_7_4, hr_7_4, h⟩ := bsome h
     refine rg hc none [oN, oN, oN, oN, oc (.bool r_7_4), oN] [(26, .bool (!r_7_4))] [] (ai (laws_eqTermS_ih _ _ hr_7_4) (ai bod_43 (ai (oi (.bool r_7_4)) trivial))) ?_
     refine seqQ_norm ?_
     rcases itesome h with ⟨hb_4, h⟩ | ⟨hb_4, h⟩
     ·refine cF (!r_7_4) (nF hb_4) ?_
      refine Wp.skipN (by kernel_rfl) ?_
      refine seqQ_norm ?_
      refine sN ?_
      refine rg0 hc 1 [(4, .bool true)] [] ?_
      refine seqQ_norm ?_
      refine Wp.retN (by kernel_rfl) ?_
      obtain rfl := Option.some.inj h
      exact RetQ.ret (fl := [true]) (by kernel_rfl)
     ·refine cT (!r_7_4) (nT hb_4) ?_
      refine sN ?_
      refine rg0 hc 1 [(4, .bool false)] [] ?_
      refine seqQ_norm ?_
      refine Wp.retN (by kernel_rfl) ?_
      refine seqQ_ret ?_
      obtain rfl := Option.some.inj h
      exact RetQ.ret (fl := [true]) (by kernel_rfl)
    ·refine cT (!r_5_4) (nT hb_3) ?_
     refine sN ?_
     refine rg0 hc 1 [(4, .bool false)] [] ?_
     refine seqQ_norm ?_
     refine Wp.retN (by kernel_rfl) ?_
     refine seqQ_ret ?_
     obtain rfl := Option.some.inj h
     exact RetQ.ret (fl := [true]) (by kernel_rfl)
 ·rintro laws_eqTermS_l0_f laws_eqTermS_l0_ih ⟨a0, b1⟩ r h
  show FnSound Try.prog 43 [.sl (List.map GTerm_S a0), .sl (List.map GTerm_S b1)] (.bool r) []
  refine FnSound.body0 tiok (fn := Try.f43) (code := B43) (by kernel_rfl) (by kernel_rfl) (by kernel_rfl) (by kernel_rfl) (nt := 27) (by kernel_rfl) (by kernel_rfl) (T := [(0, .sl (List.map GTerm_S a0)), (1, .sl (List.map GTerm_S b1))]) (O := []) (by kernel_rfl) (by kernel_rfl) (fun c hc => ?_)
  refine sN ?_
  refine rg0 hc 1 [(0, .sl (List.map GTerm_S a0)), (1, .sl (List.map GTerm_S b1))] [] ?_
  refine seqQ_norm ?_
  refine sN ?_
  refine sN ?_
  refine rg hc none [oN, some (.eqv (.no) ⟨[(7, I (a0.length : Int))], [], []⟩), oN, some (.eqv (.no) ⟨[(9, I (b1.length : Int))], [], []⟩), oN] [(0, .sl (List.map GTerm_S a0)), (1, .sl (List.map GTerm_S b1)), (10, .bool ((a0.length : Int) != (b1.length : Int)))] [] (ai (lenT (d := 7) GTerm_S a0) (ai (lenT (d := 9) GTerm_S b1) trivial)) ?_
  refine seqQ_norm ?_
  rcases itesome h with ⟨hb_1, h⟩ | ⟨hb_1, h⟩
  ·refine cT (((a0.length : Int) != (b1.length : Int))) hb_1 ?_
   refine sN ?_
   refine rg0 hc 1 [(4, .bool false)] [] ?_
   refine seqQ_norm ?_
   refine Wp.retN (by kernel_rfl) ?_
   refine seqQ_ret ?_
   obtain rfl := Option.some.inj h
   exact RetQ.ret (fl := [true]) (by kernel_rfl)
  ·refine cF (((a0.length : Int) != (b1.length : Int))) hb_1 ?_
   refine Wp.skipN (by kernel_rfl) ?_
   refine seqQ_norm ?_
   refine sN ?_
   refine sN ?_
   refine rg0 hc 1 [(0, .sl (List.map GTerm_S a0)), (1, .sl (List.map GTerm_S b1)), (5, I 0)] [] ?_
   refine seqQ_norm ?_
   refine Wp.blockN (i := 0) (by kernel_rfl) ?_
   obtain ⟨fl, hl_7, h⟩ := bsome h
   have hL := laws_eqTermS_l0_ih _ _ hl_7 c hc
   refine Wp.loopN (by kernel_rfl) ?_
   rcases fl with ⟨⟩ | r
   ·refine WpL.into (e := (.exit 0)) (mkS [] []) hL ?_
    refine blockQ_hit ?_
    refine seqQ_norm ?_
    refine sN ?_
    refine rg0 hc 1 [(4, .bool true)] [] ?_
    refine seqQ_norm ?_
    refine Wp.retN (by kernel_rfl) ?_
    obtain rfl := Option.some.inj h
    exact RetQ.ret (fl := [true]) (by kernel_rfl)
   ·refine WpL.mono hL ?_
    rintro _ _ ⟨rfl, hfin⟩
    refine blockQ_ret ?_
    refine seqQ_ret ?_
    obtain rfl := Option.some.inj h
    exact ⟨.inl rfl, hfin⟩
 ·rintro laws_eqTerm_f laws_eqTermS_l0_f laws_eqTerm_ih laws_eqTermS_l0_ih ⟨a0, b1, i_4⟩ r h
  intro c hc
  show WpL Try.prog c (cl (cl (cr (cl (cr (cr B43)))))) (laws_eqTermS_F1 c r) (mkS [(0, .sl (List.map GTerm_S a0)), (1, .sl (List.map GTerm_S b1)), (5, I i_4)] [])
  refine WpL.step ?_
  refine sN ?_
  refine sN ?_
  refine rg hc none [oN, oN, some (.eqv (.no) ⟨[(13, I (a0.length : Int))], [], []⟩), oN] [(0, .sl (List.map GTerm_S a0)), (1, .sl (List.map GTerm_S b1)), (5, I i_4), (14, .bool (decide (i_4 < (a0.length : Int))))] [] (ai (lenT (d := 13) GTerm_S a0) trivial) ?_
  refine seqQ_norm ?_
  rcases itesome h with ⟨hb_5, h⟩ | ⟨hb_5, h⟩
  ·refine cT ((decide (i_4 < (a0.length : Int)))) hb_5 ?_
   refine Wp.skipN (by kernel_rfl) ?_
   refine seqQ_norm ?_
   refine sN ?_
   refine Wp.blockN (i := 1) (by kernel_rfl) ?_
   refine sN ?_
   obtain ⟨e_6_2, hi_6_2, h⟩ := bsome h
   obtain ⟨e_6_6, hi_6_6, h⟩ := bsome h
   obtain ⟨r_6_8, hr_6_8, h⟩ := bsome h
   refine rg hc (rx [[0], [0], [2], [3], [0], [0], [0, 4, 5], [0, 4, 5, 6], [8], [9]]) [oN, oN, some (.el (aTerm e_6_2)), oN, oN, oN, some (.el (aTerm e_6_6)), oN, oc (.bool r_6_8), oN] [(0, .sl (List.map GTerm_S a0)), (1, .sl (List.map GTerm_S b1)), (5, I i_4), (26, .bool (!r_6_8))] [] (ai (idx_sl (enc := GTerm_S) (x := aTerm e_6_2) hi_6_2 (eq_GTerm_S e_6_2)) (ai (idx_sl (enc := GTerm_S) (x := aTerm e_6_6) hi_6_6 (eq_GTerm_S e_6_6)) (ai (laws_eqTerm_ih _ _ hr_6_8) (ai bod_17 (ai (oi (.bool r_6_8)) trivial))))) ?_
   refine seqQ_norm ?_
   rcases itesome h with ⟨hb_6, h⟩ | ⟨hb_6, h⟩
   ·refine cF (!r_6_8) (nF hb_6) ?_
    refine Wp.skipN (by kernel_rfl) ?_
    refine blockQ_norm ?_
    refine seqQ_norm ?_
    refine rg0 hc 3 [(0, .sl (List.map GTerm_S a0)), (1, .sl (List.map GTerm_S b1)), (5, I (wr (i_4 + 1)))] [] ?_
    refine loopQ_norm ?_
    exact (laws_eqTermS_l0_ih _ _ h c hc)
   ·refine cT (!r_6_8) (nT hb_6) ?_
    refine sN ?_
    refine rg0 hc 1 [(4, .bool false)] [] ?_
    refine seqQ_norm ?_
    refine Wp.retN (by kernel_rfl) ?_
    refine blockQ_ret ?_
    refine seqQ_ret ?_
    refine loopQ_ret ?_
    obtain rfl := Option.some.inj h
    exact RetE.ret (fl := [true]) (by kernel_rfl)
  ·refine cF ((decide (i_4 < (a0.length : Int)))) hb_5 ?_
   refine Wp.exitN (i := 0) (by kernel_rfl) ?_
   refine seqQ_exit ?_
   refine loopQ_exit ?_
   obtain rfl := Option.some.inj h
   exact Into.view (fun a w hv => SRx.renL [] hv (by kernel_rfl) (by kernel_rfl) (by kernel_rfl))
theorem laws_eqTerm_s : ∀ p r, laws_eqTerm p = some r → M_laws_eqTerm p r := laws_eqTerm_all.1
theorem laws_eqTermS_s : ∀ p r, laws_eqTermS p = some r → M_laws_eqTermS p r := laws_eqTerm_all.2.1
theorem laws_eqTermS_l0_s : ∀ p r, laws_eqTermS_l0 p = some r → M_laws_eqTermS_l0 p r := laws_eqTerm_all.2.2
def laws_FnExactPlaceOf (p : GSystem × (List Int) × GTerm) : Option (Bool) :=
 match p with
 | (aS0, aTy1, aV2) =>
  if (decide ((aTy1.length : Int) > 1048576)) = true then
   some true
  else
   (laws_szSystem (aS0, 1048576)) >>= fun r_4_2 =>
   if (decide (r_4_2 < 0)) = true then
    some true
   else
    (laws_szTerm (aV2, r_4_2)) >>= fun r_7_2 =>
    if (decide (r_7_2 < 0)) = true then
     some true
    else
     (laws_toSystem aS0) >>= fun r_10_1 =>
     (laws_toIntS aTy1) >>= fun r_10_3 =>
     (laws_toTerm aV2) >>= fun r_10_5 =>
     (spec_PlaceOf (r_10_1, r_10_3, r_10_5)) >>= fun r_10_6 =>
     (laws_toSystem aS0) >>= fun r_11_1 =>
     (laws_toIntS aTy1) >>= fun r_12_1 =>
     (laws_toTerm aV2) >>= fun r_13_1 =>
     (impl_PlaceOf (r_11_1, r_12_1, r_13_1)) >>= fun r_14_3 =>
     if (r_14_3 != r_10_6) = true then
      some false
     else
      (laws_toSystem aS0) >>= fun r_17_2 =>
      (laws_eqSystem (r_11_1, r_17_2)) >>= fun r_17_3 =>
      if r_17_3 = true then
       (laws_toIntS aTy1) >>= fun r_19_2 =>
       (laws_eqIntS (r_12_1, r_19_2)) >>= fun r_19_3 =>
       if r_19_3 = true then
        (laws_toTerm aV2) >>= fun r_21_2 =>
        (laws_eqTerm (r_13_1, r_21_2)) >>= fun r_21_3 =>
        if r_21_3 = true then
         some true
        else
         some false
       else
        some false
      else
       some false
def M_laws_FnExactPlaceOf (p : GSystem × (List Int) × GTerm) (r : Bool) : Prop :=
 match p with
 | (aS0, aTy1, aV2) => FnSound Try.prog 3 [aSystem aS0, sI aTy1, aTerm aV2] (.bool r) []
theorem laws_FnExactPlaceOf_s : ∀ p r, laws_FnExactPlaceOf p = some r → M_laws_FnExactPlaceOf p r := by
 rintro ⟨aS0, aTy1, aV2⟩ r h
 unfold laws_FnExactPlaceOf at h
 show FnSound Try.prog 3 [aSystem aS0, sI aTy1, aTerm aV2] (.bool r) []
 refine FnSound.body0 tiok (fn := Try.f3) (code := B3) (by kernel_rfl) (by kernel_rfl) (by kernel_rfl) (by kernel_rfl) (nt := 61) (by kernel_rfl) (by kernel_rfl) (T := [(0, aSystem aS0), (1, sI aTy1), (2, aTerm aV2)]) (O := []) (by kernel_rfl) (by kernel_rfl) (fun c hc => ?_)
 refine sN ?_
 refine rg hc none [some (.new 1), some (.new 2), oN] [(1, sI aTy1), (3, .ra 1 0), (5, .ra 2 0)] [(1, bSystem aS0), (2, bTerm aV2)] trivial ?_
 refine seqQ_norm ?_
 refine sN ?_
 refine sN ?_
 refine rg hc none [oN, some (.eqv (.no) ⟨[(14, I (aTy1.length : Int))], [], []⟩), oN] [(1, sI aTy1), (3, .ra 1 0), (5, .ra 2 0), (15, .bool (decide ((aTy1.length : Int) > 1048576)))] [(1, bSystem aS0), (2, bTerm aV2)] (ai (lenT (d := 14) I aTy1) trivial) ?_
 refine seqQ_norm ?_
 rcases itesome h with ⟨hb_1, h⟩ | ⟨hb_1, h⟩
 ·refine cT ((decide ((aTy1.length : Int) > 1048576))) hb_1 ?_
  refine sN ?_
  refine rg0 hc 1 [(6, .bool true)] [] ?_
  refine seqQ_norm ?_
  refine Wp.retN (by kernel_rfl) ?_
  refine seqQ_ret ?_
  obtain rfl := Option.some.inj h
  exact RetQ.ret (fl := [true]) (by kernel_rfl)
 ·refine cF ((decide ((aTy1.length : Int) > 1048576))) hb_1 ?_
  refine Wp.skipN (by kernel_rfl) ?_
  refine seqQ_norm ?_
  refine sN ?_
  refine rg0 hc 1 [(1, sI aTy1), (3, .ra 1 0), (5, .ra 2 0), (7, I 1048576)] [(1, bSystem aS0), (2, bTerm aV2)] ?_
  refine seqQ_norm ?_
  refine sN ?_
  obtain ⟨r_4_2, hr_4_2, h⟩ := bsome h
  refine rg hc none [oN, oN, oc (I r_4_2), oN] [(1, sI aTy1), (3, .ra 1 0), (5, .ra 2 0), (7, I r_4_2)] [(1, bSystem aS0), (2, bTerm aV2)] (ai (laws_szSystem_s _ _ hr_4_2) (ai bod_8 (ai (oi (I r_4_2)) trivial))) ?_
  refine seqQ_norm ?_
  refine sN ?_
  refine sN ?_
  refine rg0 hc 2 [(1, sI aTy1), (3, .ra 1 0), (5, .ra 2 0), (7, I r_4_2), (20, .bool (decide (r_4_2 < 0)))] [(1, bSystem aS0), (2, bTerm aV2)] ?_
  refine seqQ_norm ?_
  rcases itesome h with ⟨hb_2, h⟩ | ⟨hb_2, h⟩
  ·refine cT ((decide (r_4_2 < 0))) hb_2 ?_
   refine sN ?_
   refine rg0 hc 1 [(6, .bool true)] [] ?_
   refine seqQ_norm ?_
   refine Wp.retN (by kernel_rfl) ?_
   refine seqQ_ret ?_
   obtain rfl := Option.some.inj h
   exact RetQ.ret (fl := [true]) (by kernel_rfl)
  ·refine cF ((decide (r_4_2 < 0))) hb_2 ?_
   refine Wp.skipN (by kernel_rfl) ?_
   refine seqQ_norm ?_
   refine sN ?_
   obtain ⟨r_7_2, hr_7_2, h⟩ := bsome h
   refine rg hc none [oN, oN, oc (I r_7_2), oN] [(1, sI aTy1), (3, .ra 1 0), (5, .ra 2 0), (7, I r_7_2)] [(1, bSystem aS0), (2, bTerm aV2)] (ai (laws_szTerm_s _ _ hr_7_2) (ai bod_9 (ai (oi (I r_7_2)) trivial))) ?_
   refine seqQ_norm ?_
   refine sN ?_
   refine sN ?_
   refine rg0 hc 2 [(1, sI aTy1), (3, .ra 1 0), (5, .ra 2 0), (25, .bool (decide (r_7_2 < 0)))] [(1, bSystem aS0), (2, bTerm aV2)] ?_
   refine seqQ_norm ?_
   rcases itesome h with ⟨hb_3, h⟩ | ⟨hb_3, h⟩
   ·refine cT ((decide (r_7_2 < 0))) hb_3 ?_
    refine sN ?_
    refine rg0 hc 1 [(6, .bool true)] [] ?_
    refine seqQ_norm ?_
    refine Wp.retN (by kernel_rfl) ?_
    refine seqQ_ret ?_
    obtain rfl := Option.some.inj h
    exact RetQ.ret (fl := [true]) (by kernel_rfl)
   ·refine cF ((decide (r_7_2 < 0))) hb_3 ?_
    refine Wp.skipN (by kernel_rfl) ?_
    refine seqQ_norm ?_
    refine sN ?_
    obtain ⟨r_10_1, hr_10_1, h⟩ := bsome h
    obtain ⟨r_10_3, hr_10_3, h⟩ := bsome h
    obtain ⟨r_10_5, hr_10_5, h⟩ := bsome h
    obtain ⟨r_10_6, hr_10_6, h⟩ := bsome h
    refine rg hc (rh [0, 1, 0, 3, 0, 5, 6, 7]) [oN, some (.call (qSystem r_10_1) [] 3), oN, some (.call (.osl (List.map I r_10_3)) [] 6), oN, some (.call (qTerm r_10_5) [] 7), oc (I r_10_6), oN] [(1, sI aTy1), (3, .ra 1 0), (5, .ra 2 0), (8, I r_10_6)] [(1, bSystem aS0), (2, bTerm aV2)] (ai (laws_toSystem_s _ _ hr_10_1) (ai bod_11 (ai (oi (qSystem r_10_1)) (ai (laws_toIntS_s _ _ hr_10_3) (ai bod_12 (ai (oi (.osl (List.map I r_10_3))) (ai (laws_toTerm_s _ _ hr_10_5) (ai bod_13 (ai (oi (qTerm r_10_5)) (ai (FnSound.args (A1 := [hSystem r_10_1, .sl (shares (List.map I r_10_3)), hTerm r_10_5]) (A2 := [aSystem r_10_1, sI r_10_3, aTerm r_10_5]) (by simp only [sI, sB, aSystem, aTerm, hSystem, hTerm, List.map_nil, sh_B, sh_GTerm_O, sh_I]) (spec_PlaceOf_s _ _ hr_10_6)) (ai bod_10 (ai (Or.inr rfl : ([3, 4, 5, 6, 7, 8] : List Nat) = [] ∨ noSh (I r_10_6) = true) trivial)))))))))))) ?_
    refine seqQ_norm ?_
    refine sN ?_
    obtain ⟨r_11_1, hr_11_1, h⟩ := bsome h
    refine rg hc none [oN, some (.call (qSystem r_11_1) [] 9), some (.new 12), oN] [(1, sI aTy1), (3, .ra 1 0), (5, .ra 2 0), (8, I r_10_6), (9, .ra 12 0)] [(1, bSystem aS0), (2, bTerm aV2), (9, .arr (List.map I r_11_1.fPlus)), (10, .arr (List.map I r_11_1.fTimes)), (11, .arr (List.map AV.bool r_11_1.fBelow)), (12, .box [I r_11_1.fSize, .rs 9, .rs 10, .rs 11])] (ai (laws_toSystem_s _ _ hr_11_1) (ai bod_11 (ai (oi (qSystem r_11_1)) trivial))) ?_
    refine seqQ_norm ?_
    refine sN ?_
    obtain ⟨r_12_1, hr_12_1, h⟩ := bsome h
    refine rg hc none [oN, some (.call (.osl (List.map I r_12_1)) [] 13), oN] [(1, sI aTy1), (3, .ra 1 0), (5, .ra 2 0), (8, I r_10_6), (9, .ra 12 0), (10, .rs 13)] [(1, bSystem aS0), (2, bTerm aV2), (9, .arr (List.map I r_11_1.fPlus)), (10, .arr (List.map I r_11_1.fTimes)), (11, .arr (List.map AV.bool r_11_1.fBelow)), (12, .box [I r_11_1.fSize, .rs 9, .rs 10, .rs 11]), (13, .arr (List.map I r_12_1))] (ai (laws_toIntS_s _ _ hr_12_1) (ai bod_12 (ai (oi (.osl (List.map I r_12_1))) trivial))) ?_
    refine seqQ_norm ?_
    refine sN ?_
    obtain ⟨r_13_1, hr_13_1, h⟩ := bsome h
    refine rg hc none [oN, some (.call (qTerm r_13_1) [] 14), some (.new 16), oN] [(1, sI aTy1), (3, .ra 1 0), (5, .ra 2 0), (8, I r_10_6), (9, .ra 12 0), (10, .rs 13), (11, .ra 16 0)] [(1, bSystem aS0), (2, bTerm aV2), (9, .arr (List.map I r_11_1.fPlus)), (10, .arr (List.map I r_11_1.fTimes)), (11, .arr (List.map AV.bool r_11_1.fBelow)), (12, .box [I r_11_1.fSize, .rs 9, .rs 10, .rs 11]), (13, .arr (List.map I r_12_1)), (14, .arr (List.map I r_13_1.fType)), (15, .arr (List.map GTerm_O r_13_1.fKids)), (16, .box [I r_13_1.fOp, I r_13_1.fN, .rs 14, .rs 15])] (ai (laws_toTerm_s _ _ hr_13_1) (ai bod_13 (ai (oi (qTerm r_13_1)) trivial))) ?_
    refine seqQ_norm ?_
    refine sN ?_
    obtain ⟨r_14_3, hr_14_3, h⟩ := bsome h
    refine rg hc none [oN, oN, oN, oc (I r_14_3), oN] [(1, sI aTy1), (3, .ra 1 0), (5, .ra 2 0), (8, I r_10_6), (9, .ra 12 0), (10, .rs 13), (11, .ra 16 0), (12, I r_14_3)] [(1, bSystem aS0), (2, bTerm aV2), (9, .arr (List.map I r_11_1.fPlus)), (10, .arr (List.map I r_11_1.fTimes)), (11, .arr (List.map AV.bool r_11_1.fBelow)), (12, .box [I r_11_1.fSize, .rs 9, .rs 10, .rs 11]), (13, .arr (List.map I r_12_1)), (14, .arr (List.map I r_13_1.fType)), (15, .arr (List.map GTerm_O r_13_1.fKids)), (16, .box [I r_13_1.fOp, I r_13_1.fN, .rs 14, .rs 15])] (ai (FnSound.args (A1 := [hSystem r_11_1, .sl (shares (List.map I r_12_1)), hTerm r_13_1]) (A2 := [aSystem r_11_1, sI r_12_1, aTerm r_13_1]) (by simp only [sI, sB, aSystem, aTerm, hSystem, hTerm, List.map_nil, sh_B, sh_GTerm_O, sh_I]) (impl_PlaceOf_s _ _ hr_14_3)) (ai bod_14 (ai (Or.inr rfl : ([9, 10, 11, 13, 14, 15] : List Nat) = [] ∨ noSh (I r_14_3) = true) trivial))) ?_
    refine seqQ_norm ?_
    refine sN ?_
    refine sN ?_
    refine rg0 hc 3 [(1, sI aTy1), (3, .ra 1 0), (5, .ra 2 0), (9, .ra 12 0), (10, .rs 13), (11, .ra 16 0), (45, .bool (r_14_3 != r_10_6))] [(1, bSystem aS0), (2, bTerm aV2), (9, .arr (List.map I r_11_1.fPlus)), (10, .arr (List.map I r_11_1.fTimes)), (11, .arr (List.map AV.bool r_11_1.fBelow)), (12, .box [I r_11_1.fSize, .rs 9, .rs 10, .rs 11]), (13, .arr (List.map I r_12_1)), (14, .arr (List.map I r_13_1.fType)), (15, .arr (List.map GTerm_O r_13_1.fKids)), (16, .box [I r_13_1.fOp, I r_13_1.fN, .rs 14, .rs 15])] ?_
    refine seqQ_norm ?_
    rcases itesome h with ⟨hb_4, h⟩ | ⟨hb_4, h⟩
    ·refine cT ((r_14_3 != r_10_6)) hb_4 ?_
     refine sN ?_
     refine rg0 hc 1 [(6, .bool false)] [] ?_
     refine seqQ_norm ?_
     refine Wp.retN (by kernel_rfl) ?_
     refine seqQ_ret ?_
     obtain rfl := Option.some.inj h
     exact RetQ.ret (fl := [true]) (by kernel_rfl)
    ·refine cF ((r_14_3 != r_10_6)) hb_4 ?_
     refine Wp.skipN (by kernel_rfl) ?_
     refine seqQ_norm ?_
     refine sN ?_
     refine sN ?_
     obtain ⟨r_17_2, hr_17_2, h⟩ := bsome h
     obtain ⟨r_17_3, hr_17_3, h⟩ := bsome h
     refine rg hc ah8_0 [oN, oN, some (.call (qSystem r_17_2) [] 17), oc (.bool r_17_3), oN] [(1, sI aTy1), (5, .ra 2 0), (10, .rs 13), (11, .ra 16 0), (50, .bool (!r_17_3))] [(2, bTerm aV2), (13, .arr (List.map I r_12_1)), (14, .arr (List.map I r_13_1.fType)), (15, .arr (List.map GTerm_O r_13_1.fKids)), (16, .box [I r_13_1.fOp, I r_13_1.fN, .rs 14, .rs 15])] (ai (laws_toSystem_s _ _ hr_17_2) (ai bod_11 (ai (oi (qSystem r_17_2)) (ai (FnSound.args (A1 := [hSystem r_11_1, hSystem r_17_2]) (A2 := [aSystem r_11_1, aSystem r_17_2]) (by simp only [sI, sB, aSystem, aTerm, hSystem, hTerm, List.map_nil, sh_B, sh_I]) (laws_eqSystem_s _ _ hr_17_3)) (ai bod_15 (ai (Or.inr rfl : ([9, 10, 11, 17, 18, 19] : List Nat) = [] ∨ noSh (.bool r_17_3) = true) trivial)))))) ?_
     refine seqQ_norm ?_
     rcases itesome h with ⟨hb_5, h⟩ | ⟨hb_5, h⟩
     ·refine cF (!r_17_3) (nF hb_5) ?_
      refine Wp.skipN (by kernel_rfl) ?_
      refine seqQ_norm ?_
      refine sN ?_
      refine sN ?_
      obtain ⟨r_19_2, hr_19_2, h⟩ := bsome h
      obtain ⟨r_19_3, hr_19_3, h⟩ := bsome h
      refine rg hc none [oN, oN, some (.call (.osl (List.map I r_19_2)) [] 20), oc (.bool r_19_3), oN] [(5, .ra 2 0), (11, .ra 16 0), (55, .bool (!r_19_3))] [(2, bTerm aV2), (14, .arr (List.map I r_13_1.fType)), (15, .arr (List.map GTerm_O r_13_1.fKids)), (16, .box [I r_13_1.fOp, I r_13_1.fN, .rs 14, .rs 15])] (ai (laws_toIntS_s _ _ hr_19_2) (ai bod_12 (ai (oi (.osl (List.map I r_19_2))) (ai (FnSound.args (A1 := [.sl (shares (List.map I r_12_1)), .sl (shares (List.map I r_19_2))]) (A2 := [sI r_12_1, sI r_19_2]) (by simp only [sI, sB, aSystem, aTerm, hSystem, hTerm, List.map_nil, sh_I]) (laws_eqIntS_s _ _ hr_19_3)) (ai bod_16 (ai (Or.inr rfl : ([13, 20] : List Nat) = [] ∨ noSh (.bool r_19_3) = true) trivial)))))) ?_
      refine seqQ_norm ?_
      rcases itesome h with ⟨hb_6, h⟩ | ⟨hb_6, h⟩
      ·refine cF (!r_19_3) (nF hb_6) ?_
       refine Wp.skipN (by kernel_rfl) ?_
       refine seqQ_norm ?_
       refine sN ?_
       refine sN ?_
       obtain ⟨r_21_2, hr_21_2, h⟩ := bsome h
       obtain ⟨r_21_3, hr_21_3, h⟩ := bsome h
       refine rg hc ah8_0 [oN, oN, some (.call (qTerm r_21_2) [] 21), oc (.bool r_21_3), oN] [(60, .bool (!r_21_3))] [] (ai (laws_toTerm_s _ _ hr_21_2) (ai bod_13 (ai (oi (qTerm r_21_2)) (ai (FnSound.args (A1 := [hTerm r_13_1, hTerm r_21_2]) (A2 := [aTerm r_13_1, aTerm r_21_2]) (by simp only [sI, sB, aSystem, aTerm, hSystem, hTerm, List.map_nil, sh_GTerm_O, sh_I]) (laws_eqTerm_s _ _ hr_21_3)) (ai bod_17 (ai (Or.inr rfl : ([14, 15, 21, 22] : List Nat) = [] ∨ noSh (.bool r_21_3) = true) trivial)))))) ?_
       refine seqQ_norm ?_
       rcases itesome h with ⟨hb_7, h⟩ | ⟨hb_7, h⟩
       ·refine cF (!r_21_3) (nF hb_7) ?_
        refine Wp.skipN (by kernel_rfl) ?_
        refine seqQ_norm ?_
        refine sN ?_
        refine rg0 hc 1 [(6, .bool true)] [] ?_
        refine seqQ_norm ?_
        refine Wp.retN (by kernel_rfl) ?_
        obtain rfl := Option.some.inj h
        exact RetQ.ret (fl := [true]) (by kernel_rfl)
       ·refine cT (!r_21_3) (nT hb_7) ?_
        refine sN ?_
        refine rg0 hc 1 [(6, .bool false)] [] ?_
        refine seqQ_norm ?_
        refine Wp.retN (by kernel_rfl) ?_
        refine seqQ_ret ?_
        obtain rfl := Option.some.inj h
        exact RetQ.ret (fl := [true]) (by kernel_rfl)
      ·refine cT (!r_19_3) (nT hb_6) ?_
       refine sN ?_
       refine rg0 hc 1 [(6, .bool false)] [] ?_
       refine seqQ_norm ?_
       refine Wp.retN (by kernel_rfl) ?_
       refine seqQ_ret ?_
       obtain rfl := Option.some.inj h
       exact RetQ.ret (fl := [true]) (by kernel_rfl)
     ·refine cT (!r_17_3) (nT hb_5) ?_
      refine sN ?_
      refine rg0 hc 1 [(6, .bool false)] [] ?_
      refine seqQ_norm ?_
      refine Wp.retN (by kernel_rfl) ?_
      refine seqQ_ret ?_
      obtain rfl := Option.some.inj h
      exact RetQ.ret (fl := [true]) (by kernel_rfl)
end Go.Am
