/- Functions of the program as pure functions, and that it computes them. Printed by a program of mine (gen.py). -/
import Derived.Test.YtfakfcaegabgaaaGIJF6
set_option linter.unusedVariables false
set_option linter.unusedSimpArgs false
set_option maxRecDepth 100000
namespace Go.Am
open Go Go.Proofs
def ah7_0 : Option (List (List Nat)) := rx [[0], [0], [0, 1], [3], [4]]
mutual
def laws_eqTerm (p : GTerm × GTerm) : Option (Bool) :=
 match p with
 | (a0, b1) =>
  if (a0.fOp != b1.fOp) = true then
   some false
  else
   if (a0.fN != b1.fN) = true then
    some false
   else
    (laws_eqIntS (a0.fType, b1.fType)) >>= fun r_5_4 =>
    if r_5_4 = true then
     (laws_eqTermS (a0.fKids, b1.fKids)) >>= fun r_7_4 =>
     if r_7_4 = true then
      some true
     else
      some false
    else
     some false
 partial_fixpoint
def laws_eqTermS (p : (List GTerm) × (List GTerm)) : Option (Bool) :=
 match p with
 | (a0, b1) =>
  if ((a0.length : Int) != (b1.length : Int)) = true then
   some false
  else
   (laws_eqTermS_l0 (a0, b1, 0)) >>= fun fl => match fl with
   | .inl () =>
    some true
   | .inr r =>
    some r
 partial_fixpoint
def laws_eqTermS_l0 (p : (List GTerm) × (List GTerm) × Int) : Option ((Unit) ⊕ (Bool)) :=
 match p with
 | (a0, b1, i_4) =>
  if (decide (i_4 < (a0.length : Int))) = true then
   (idx a0 i_4) >>= fun e_6_2 =>
   (idx b1 i_4) >>= fun e_6_6 =>
   (laws_eqTerm (e_6_2, e_6_6)) >>= fun r_6_8 =>
   if r_6_8 = true then
    laws_eqTermS_l0 (a0, b1, (wr (i_4 + 1)))
   else
    some (.inr false)
  else
   some (.inl ())
 partial_fixpoint
end
def M_laws_eqTerm (p : GTerm × GTerm) (r : Bool) : Prop :=
 match p with
 | (a0, b1) => FnSound Try.prog 16 [aTerm a0, aTerm b1] (.bool r) []
def M_laws_eqTermS (p : (List GTerm) × (List GTerm)) (r : Bool) : Prop :=
 match p with
 | (a0, b1) => FnSound Try.prog 49 [.sl (List.map GTerm_S a0), .sl (List.map GTerm_S b1)] (.bool r) []
def M_laws_eqTermS_l0 (p : (List GTerm) × (List GTerm) × Int) (fl : (Unit) ⊕ (Bool)) : Prop :=
 match p with
 | (a0, b1, i_4) => ∀ c : Ctx, c.nt = 27 → WpL Try.prog c (cl (cl (cr (cl (cr (cr B49)))))) (laws_eqTermS_F1 c fl) (mkS [(0, .sl (List.map GTerm_S a0)), (1, .sl (List.map GTerm_S b1)), (5, I i_4)] [])
theorem laws_eqTerm_all : (∀ p r, laws_eqTerm p = some r → M_laws_eqTerm p r) ∧ (∀ p r, laws_eqTermS p = some r → M_laws_eqTermS p r) ∧ (∀ p r, laws_eqTermS_l0 p = some r → M_laws_eqTermS_l0 p r) := by
 refine laws_eqTerm.mutual_partial_correctness M_laws_eqTerm M_laws_eqTermS M_laws_eqTermS_l0 ?_ ?_ ?_
 ·rintro laws_eqTermS_f laws_eqTermS_ih ⟨a0, b1⟩ r h
  show FnSound Try.prog 16 [aTerm a0, aTerm b1] (.bool r) []
  refine FnSound.body0 tiok (fn := Try.f16) (code := B16) (by kernel_rfl) (by kernel_rfl) (by kernel_rfl) (by kernel_rfl) (nt := 27) (by kernel_rfl) (by kernel_rfl) (T := [(0, aTerm a0), (1, aTerm b1)]) (O := []) (by kernel_rfl) (by kernel_rfl) (fun c hc => ?_)
  refine sN ?_
  refine rg hc none [some (.new 1), some (.new 2), oN] [(2, .ra 1 0), (3, .ra 2 0)] [(1, bTerm a0), (2, bTerm b1)] trivial ?_
  refine seqQ_norm ?_
  refine sN ?_
  refine sN ?_
  refine rg0 hc 5 [(2, .ra 1 0), (3, .ra 2 0), (9, .bool (a0.fOp != b1.fOp))] [(1, bTerm a0), (2, bTerm b1)] ?_
  refine seqQ_norm ?_
  rcases itesome h with ⟨hb_1, h⟩ | ⟨hb_1, h⟩
  ·refine cT ((a0.fOp != b1.fOp)) hb_1 ?_
   refine sN ?_
   refine rg0 hc 1 [(4, .bool false)] [] ?_
   refine seqQ_norm ?_
   refine Wp.retN (by kernel_rfl) ?_
   refine seqQ_ret ?_
   obtain rfl := Option.some.inj h
   exact RetQ.ret (fl := [true]) (by kernel_rfl)
  ·refine cF ((a0.fOp != b1.fOp)) hb_1 ?_
   refine Wp.skipN (by kernel_rfl) ?_
   refine seqQ_norm ?_
   refine sN ?_
   refine sN ?_
   refine rg0 hc 5 [(2, .ra 1 0), (3, .ra 2 0), (14, .bool (a0.fN != b1.fN))] [(1, bTerm a0), (2, bTerm b1)] ?_
   refine seqQ_norm ?_
   rcases itesome h with ⟨hb_2, h⟩ | ⟨hb_2, h⟩
   ·refine cT ((a0.fN != b1.fN)) hb_2 ?_
    refine sN ?_
    refine rg0 hc 1 [(4, .bool false)] [] ?_
    refine seqQ_norm ?_
    refine Wp.retN (by kernel_rfl) ?_
    refine seqQ_ret ?_
    obtain rfl := Option.some.inj h
    exact RetQ.ret (fl := [true]) (by kernel_rfl)
   ·refine cF ((a0.fN != b1.fN)) hb_2 ?_
    refine Wp.skipN (by kernel_rfl) ?_
    refine seqQ_norm ?_
    refine sN ?_
    refine sN ?_
    obtain ⟨r_5_4, hr_5_4, h⟩ := bsome h
    refine rg hc none [oN, oN, oN, oN, oc (.bool r_5_4), oN] [(2, .ra 1 0), (3, .ra 2 0), (20, .bool (!r_5_4))] [(1, bTerm a0), (2, bTerm b1)] (ai (laws_eqIntS_s _ _ hr_5_4) (ai bod_18 (ai (oi (.bool r_5_4)) trivial))) ?_
    refine seqQ_norm ?_
    rcases itesome h with ⟨hb_3, h⟩ | ⟨hb_3, h⟩
    ·refine cF (!r_5_4) (nF hb_3) ?_
     refine Wp.skipN (by kernel_rfl) ?_
     refine seqQ_norm ?_
     refine sN ?_
     refine sN ?_
     obtain ⟨r_7_4, hr_7_4, h⟩ := bsome h
     refine rg hc none [oN, oN, oN, oN, oc (.bool r_7_4), oN] [(26, .bool (!r_7_4))] [] (ai (laws_eqTermS_ih _ _ hr_7_4) (ai bod_49 (ai (oi (.bool r_7_4)) trivial))) ?_
     refine seqQ_norm ?_
     rcases itesome h with ⟨hb_4, h⟩ | ⟨hb_4, h⟩
     ·refine cF (!r_7_4) (nF hb_4) ?_
      refine Wp.skipN (by kernel_rfl) ?_
      refine seqQ_norm ?_
      refine sN ?_
      refine rg0 hc 1 [(4, .bool true)] [] ?_
      refine seqQ_norm ?_
      refine Wp.retN (by kernel_rfl) ?_
      obtain rfl := Option.some.inj h
      exact RetQ.ret (fl := [true]) (by kernel_rfl)
     ·refine cT (!r_7_4) (nT hb_4) ?_
      refine sN ?_
      refine rg0 hc 1 [(4, .bool false)] [] ?_
      refine seqQ_norm ?_
      refine Wp.retN (by kernel_rfl) ?_
      refine seqQ_ret ?_
      obtain rfl := Option.some.inj h
      exact RetQ.ret (fl := [true]) (by kernel_rfl)
    ·refine cT (!r_5_4) (nT hb_3) ?_
     refine sN ?_
     refine rg0 hc 1 [(4, .bool false)] [] ?_
     refine seqQ_norm ?_
     refine Wp.retN (by kernel_rfl) ?_
     refine seqQ_ret ?_
     obtain rfl := Option.some.inj h
     exact RetQ.ret (fl := [true]) (by kernel_rfl)
 ·rintro laws_eqTermS_l0_f laws_eqTermS_l0_ih ⟨a0, b1⟩ r h
  show FnSound Try.prog 49 [.sl (List.map GTerm_S a0), .sl (List.map GTerm_S b1)] (.bool r) []
  refine FnSound.body0 tiok (fn := Try.f49) (code := B49) (by kernel_rfl) (by kernel_rfl) (by kernel_rfl) (by kernel_rfl) (nt := 27) (by kernel_rfl) (by kernel_rfl) (T := [(0, .sl (List.map GTerm_S a0)), (1, .sl (List.map GTerm_S b1))]) (O := []) (by kernel_rfl) (by kernel_rfl) (fun c hc => ?_)
  refine sN ?_
  refine rg0 hc 1 [(0, .sl (List.map GTerm_S a0)), (1, .sl (List.map GTerm_S b1))] [] ?_
  refine seqQ_norm ?_
  refine sN ?_
  refine sN ?_
  refine rg hc none [oN, some (.eqv (.no) ⟨[(7, I (a0.length : Int))], [], []⟩), oN, some (.eqv (.no) ⟨[(9, I (b1.length : Int))], [], []⟩), oN] [(0, .sl (List.map GTerm_S a0)), (1, .sl (List.map GTerm_S b1)), (10, .bool ((a0.length : Int) != (b1.length : Int)))] [] (ai (lenT (d := 7) GTerm_S a0) (ai (lenT (d := 9) GTerm_S b1) trivial)) ?_
  refine seqQ_norm ?_
  rcases itesome h with ⟨hb_1, h⟩ | ⟨hb_1, h⟩
  ·refine cT (((a0.length : Int) != (b1.length : Int))) hb_1 ?_
   refine sN ?_
   refine rg0 hc 1 [(4, .bool false)] [] ?_
   refine seqQ_norm ?_
   refine Wp.retN (by kernel_rfl) ?_
   refine seqQ_ret ?_
   obtain rfl := Option.some.inj h
   exact RetQ.ret (fl := [true]) (by kernel_rfl)
  ·refine cF (((a0.length : Int) != (b1.length : Int))) hb_1 ?_
   refine Wp.skipN (by kernel_rfl) ?_
   refine seqQ_norm ?_
   refine sN ?_
   refine sN ?_
   refine rg0 hc 1 [(0, .sl (List.map GTerm_S a0)), (1, .sl (List.map GTerm_S b1)), (5, I 0)] [] ?_
   refine seqQ_norm ?_
   refine Wp.blockN (i := 0) (by kernel_rfl) ?_
   obtain ⟨fl, hl_7, h⟩ := bsome h
   have hL := laws_eqTermS_l0_ih _ _ hl_7 c hc
   refine Wp.loopN (by kernel_rfl) ?_
   rcases fl with ⟨⟩ | r
   ·refine WpL.into (e := (.exit 0)) (mkS [] []) hL ?_
    refine blockQ_hit ?_
    refine seqQ_norm ?_
    refine sN ?_
    refine rg0 hc 1 [(4, .bool true)] [] ?_
    refine seqQ_norm ?_
    refine Wp.retN (by kernel_rfl) ?_
    obtain rfl := Option.some.inj h
    exact RetQ.ret (fl := [true]) (by kernel_rfl)
   ·refine WpL.mono hL ?_
    rintro _ _ ⟨rfl, hfin⟩
    refine blockQ_ret ?_
    refine seqQ_ret ?_
    obtain rfl := Option.some.inj h
    exact ⟨.inl rfl, hfin⟩
 ·rintro laws_eqTerm_f laws_eqTermS_l0_f laws_eqTerm_ih laws_eqTermS_l0_ih ⟨a0, b1, i_4⟩ r h
  intro c hc
  show WpL Try.prog c (cl (cl (cr (cl (cr (cr B49)))))) (laws_eqTermS_F1 c r) (mkS [(0, .sl (List.map GTerm_S a0)), (1, .sl (List.map GTerm_S b1)), (5, I i_4)] [])
  refine WpL.step ?_
  refine sN ?_
  refine sN ?_
  refine rg hc none [oN, oN, some (.eqv (.no) ⟨[(13, I (a0.length : Int))], [], []⟩), oN] [(0, .sl (List.map GTerm_S a0)), (1, .sl (List.map GTerm_S b1)), (5, I i_4), (14, .bool (decide (i_4 < (a0.length : Int))))] [] (ai (lenT (d := 13) GTerm_S a0) trivial) ?_
  refine seqQ_norm ?_
  rcases itesome h with ⟨hb_5, h⟩ | ⟨hb_5, h⟩
  ·refine cT ((decide (i_4 < (a0.length : Int)))) hb_5 ?_
   refine Wp.skipN (by kernel_rfl) ?_
   refine seqQ_norm ?_
   refine sN ?_
   refine Wp.blockN (i := 1) (by kernel_rfl) ?_
   refine sN ?_
   obtain ⟨e_6_2, hi_6_2, h⟩ := bsome h
   obtain ⟨e_6_6, hi_6_6, h⟩ := bsome h
   obtain ⟨r_6_8, hr_6_8, h⟩ := bsome h
   refine rg hc (rx [[0], [0], [2], [3], [0], [0], [0, 4, 5], [0, 4, 5, 6], [8], [9]]) [oN, oN, some (.el (aTerm e_6_2)), oN, oN, oN, some (.el (aTerm e_6_6)), oN, oc (.bool r_6_8), oN] [(0, .sl (List.map GTerm_S a0)), (1, .sl (List.map GTerm_S b1)), (5, I i_4), (26, .bool (!r_6_8))] [] (ai (idx_sl (enc := GTerm_S) (x := aTerm e_6_2) hi_6_2 (eq_GTerm_S e_6_2)) (ai (idx_sl (enc := GTerm_S) (x := aTerm e_6_6) hi_6_6 (eq_GTerm_S e_6_6)) (ai (laws_eqTerm_ih _ _ hr_6_8) (ai bod_16 (ai (oi (.bool r_6_8)) trivial))))) ?_
   refine seqQ_norm ?_
   rcases itesome h with ⟨hb_6, h⟩ | ⟨hb_6, h⟩
   ·refine cF (!r_6_8) (nF hb_6) ?_
    refine Wp.skipN (by kernel_rfl) ?_
    refine blockQ_norm ?_
    refine seqQ_norm ?_
    refine rg0 hc 3 [(0, .sl (List.map GTerm_S a0)), (1, .sl (List.map GTerm_S b1)), (5, I (wr (i_4 + 1)))] [] ?_
    refine loopQ_norm ?_
    exact (laws_eqTermS_l0_ih _ _ h c hc)
   ·refine cT (!r_6_8) (nT hb_6) ?_
    refine sN ?_
    refine rg0 hc 1 [(4, .bool false)] [] ?_
    refine seqQ_norm ?_
    refine Wp.retN (by kernel_rfl) ?_
    refine blockQ_ret ?_
    refine seqQ_ret ?_
    refine loopQ_ret ?_
    obtain rfl := Option.some.inj h
    exact RetE.ret (fl := [true]) (by kernel_rfl)
  ·refine cF ((decide (i_4 < (a0.length : Int)))) hb_5 ?_
   refine Wp.exitN (i := 0) (by kernel_rfl) ?_
   refine seqQ_exit ?_
   refine loopQ_exit ?_
   obtain rfl := Option.some.inj h
   exact Into.view (fun a w hv => SRx.renL [] hv (by kernel_rfl) (by kernel_rfl) (by kernel_rfl))
theorem laws_eqTerm_s : ∀ p r, laws_eqTerm p = some r → M_laws_eqTerm p r := laws_eqTerm_all.1
theorem laws_eqTermS_s : ∀ p r, laws_eqTermS p = some r → M_laws_eqTermS p r := laws_eqTerm_all.2.1
theorem laws_eqTermS_l0_s : ∀ p r, laws_eqTermS_l0 p = some r → M_laws_eqTermS_l0 p r := laws_eqTerm_all.2.2
def laws_eqJudgment (p : GJudgment × GJudgment) : Option (Bool) :=
 match p with
 | (a0, b1) =>
  (laws_eqIntSS (a0.fCtx, b1.fCtx)) >>= fun r_1_4 =>
  if r_1_4 = true then
   (laws_eqIntS (a0.fBudgets, b1.fBudgets)) >>= fun r_3_4 =>
   if r_3_4 = true then
    (laws_eqTerm (a0.fTerm, b1.fTerm)) >>= fun r_5_4 =>
    if r_5_4 = true then
     (laws_eqIntS (a0.fType, b1.fType)) >>= fun r_7_4 =>
     if r_7_4 = true then
      (laws_eqIntS (a0.fFrom, b1.fFrom)) >>= fun r_9_4 =>
      if r_9_4 = true then
       some true
      else
       some false
     else
      some false
    else
     some false
   else
    some false
  else
   some false
def M_laws_eqJudgment (p : GJudgment × GJudgment) (r : Bool) : Prop :=
 match p with
 | (a0, b1) => FnSound Try.prog 39 [aJudgment a0, aJudgment b1] (.bool r) []
theorem laws_eqJudgment_s : ∀ p r, laws_eqJudgment p = some r → M_laws_eqJudgment p r := by
 rintro ⟨a0, b1⟩ r h
 unfold laws_eqJudgment at h
 show FnSound Try.prog 39 [aJudgment a0, aJudgment b1] (.bool r) []
 refine FnSound.body0 tiok (fn := Try.f39) (code := B39) (by kernel_rfl) (by kernel_rfl) (by kernel_rfl) (by kernel_rfl) (nt := 35) (by kernel_rfl) (by kernel_rfl) (T := [(0, aJudgment a0), (1, aJudgment b1)]) (O := []) (by kernel_rfl) (by kernel_rfl) (fun c hc => ?_)
 refine sN ?_
 refine rg hc none [some (.new 1), some (.new 2), oN] [(2, .ra 1 0), (3, .ra 2 0)] [(1, bJudgment a0), (2, bJudgment b1)] trivial ?_
 refine seqQ_norm ?_
 refine sN ?_
 refine sN ?_
 obtain ⟨r_1_4, hr_1_4, h⟩ := bsome h
 refine rg hc none [oN, oN, oN, oN, oc (.bool r_1_4), oN] [(2, .ra 1 0), (3, .ra 2 0), (10, .bool (!r_1_4))] [(1, bJudgment a0), (2, bJudgment b1)] (ai (laws_eqIntSS_s _ _ hr_1_4) (ai bod_91 (ai (oi (.bool r_1_4)) trivial))) ?_
 refine seqQ_norm ?_
 rcases itesome h with ⟨hb_1, h⟩ | ⟨hb_1, h⟩
 ·refine cF (!r_1_4) (nF hb_1) ?_
  refine Wp.skipN (by kernel_rfl) ?_
  refine seqQ_norm ?_
  refine sN ?_
  refine sN ?_
  obtain ⟨r_3_4, hr_3_4, h⟩ := bsome h
  refine rg hc none [oN, oN, oN, oN, oc (.bool r_3_4), oN] [(2, .ra 1 0), (3, .ra 2 0), (16, .bool (!r_3_4))] [(1, bJudgment a0), (2, bJudgment b1)] (ai (laws_eqIntS_s _ _ hr_3_4) (ai bod_18 (ai (oi (.bool r_3_4)) trivial))) ?_
  refine seqQ_norm ?_
  rcases itesome h with ⟨hb_2, h⟩ | ⟨hb_2, h⟩
  ·refine cF (!r_3_4) (nF hb_2) ?_
   refine Wp.skipN (by kernel_rfl) ?_
   refine seqQ_norm ?_
   refine sN ?_
   refine sN ?_
   obtain ⟨r_5_4, hr_5_4, h⟩ := bsome h
   refine rg hc none [oN, oN, oN, oN, oc (.bool r_5_4), oN] [(2, .ra 1 0), (3, .ra 2 0), (22, .bool (!r_5_4))] [(1, bJudgment a0), (2, bJudgment b1)] (ai (laws_eqTerm_s _ _ hr_5_4) (ai bod_16 (ai (oi (.bool r_5_4)) trivial))) ?_
   refine seqQ_norm ?_
   rcases itesome h with ⟨hb_3, h⟩ | ⟨hb_3, h⟩
   ·refine cF (!r_5_4) (nF hb_3) ?_
    refine Wp.skipN (by kernel_rfl) ?_
    refine seqQ_norm ?_
    refine sN ?_
    refine sN ?_
    obtain ⟨r_7_4, hr_7_4, h⟩ := bsome h
    refine rg hc none [oN, oN, oN, oN, oc (.bool r_7_4), oN] [(2, .ra 1 0), (3, .ra 2 0), (28, .bool (!r_7_4))] [(1, bJudgment a0), (2, bJudgment b1)] (ai (laws_eqIntS_s _ _ hr_7_4) (ai bod_18 (ai (oi (.bool r_7_4)) trivial))) ?_
    refine seqQ_norm ?_
    rcases itesome h with ⟨hb_4, h⟩ | ⟨hb_4, h⟩
    ·refine cF (!r_7_4) (nF hb_4) ?_
     refine Wp.skipN (by kernel_rfl) ?_
     refine seqQ_norm ?_
     refine sN ?_
     refine sN ?_
     obtain ⟨r_9_4, hr_9_4, h⟩ := bsome h
     refine rg hc none [oN, oN, oN, oN, oc (.bool r_9_4), oN] [(34, .bool (!r_9_4))] [] (ai (laws_eqIntS_s _ _ hr_9_4) (ai bod_18 (ai (oi (.bool r_9_4)) trivial))) ?_
     refine seqQ_norm ?_
     rcases itesome h with ⟨hb_5, h⟩ | ⟨hb_5, h⟩
     ·refine cF (!r_9_4) (nF hb_5) ?_
      refine Wp.skipN (by kernel_rfl) ?_
      refine seqQ_norm ?_
      refine sN ?_
      refine rg0 hc 1 [(4, .bool true)] [] ?_
      refine seqQ_norm ?_
      refine Wp.retN (by kernel_rfl) ?_
      obtain rfl := Option.some.inj h
      exact RetQ.ret (fl := [true]) (by kernel_rfl)
     ·refine cT (!r_9_4) (nT hb_5) ?_
      refine sN ?_
      refine rg0 hc 1 [(4, .bool false)] [] ?_
      refine seqQ_norm ?_
      refine Wp.retN (by kernel_rfl) ?_
      refine seqQ_ret ?_
      obtain rfl := Option.some.inj h
      exact RetQ.ret (fl := [true]) (by kernel_rfl)
    ·refine cT (!r_7_4) (nT hb_4) ?_
     refine sN ?_
     refine rg0 hc 1 [(4, .bool false)] [] ?_
     refine seqQ_norm ?_
     refine Wp.retN (by kernel_rfl) ?_
     refine seqQ_ret ?_
     obtain rfl := Option.some.inj h
     exact RetQ.ret (fl := [true]) (by kernel_rfl)
   ·refine cT (!r_5_4) (nT hb_3) ?_
    refine sN ?_
    refine rg0 hc 1 [(4, .bool false)] [] ?_
    refine seqQ_norm ?_
    refine Wp.retN (by kernel_rfl) ?_
    refine seqQ_ret ?_
    obtain rfl := Option.some.inj h
    exact RetQ.ret (fl := [true]) (by kernel_rfl)
  ·refine cT (!r_3_4) (nT hb_2) ?_
   refine sN ?_
   refine rg0 hc 1 [(4, .bool false)] [] ?_
   refine seqQ_norm ?_
   refine Wp.retN (by kernel_rfl) ?_
   refine seqQ_ret ?_
   obtain rfl := Option.some.inj h
   exact RetQ.ret (fl := [true]) (by kernel_rfl)
 ·refine cT (!r_1_4) (nT hb_1) ?_
  refine sN ?_
  refine rg0 hc 1 [(4, .bool false)] [] ?_
  refine seqQ_norm ?_
  refine Wp.retN (by kernel_rfl) ?_
  refine seqQ_ret ?_
  obtain rfl := Option.some.inj h
  exact RetQ.ret (fl := [true]) (by kernel_rfl)
def laws_FnExactIsJudgment (p : GSystem × GJudgment) : Option (Bool) :=
 match p with
 | (aS0, aJ1) =>
  (laws_szSystem (aS0, 1048576)) >>= fun r_2_2 =>
  if (decide (r_2_2 < 0)) = true then
   some true
  else
   (laws_szJudgment (aJ1, r_2_2)) >>= fun r_5_2 =>
   if (decide (r_5_2 < 0)) = true then
    some true
   else
    (laws_toSystem aS0) >>= fun r_8_1 =>
    (laws_toJudgment aJ1) >>= fun r_8_3 =>
    (spec_IsJudgment (r_8_1, r_8_3)) >>= fun r_8_4 =>
    (laws_toSystem aS0) >>= fun r_9_1 =>
    (laws_toJudgment aJ1) >>= fun r_10_1 =>
    (impl_IsJudgment (r_9_1, r_10_1)) >>= fun r_11_2 =>
    if (r_11_2 == r_8_4) = true then
     (laws_toSystem aS0) >>= fun r_14_2 =>
     (laws_eqSystem (r_9_1, r_14_2)) >>= fun r_14_3 =>
     if r_14_3 = true then
      (laws_toJudgment aJ1) >>= fun r_16_2 =>
      (laws_eqJudgment (r_10_1, r_16_2)) >>= fun r_16_3 =>
      if r_16_3 = true then
       some true
      else
       some false
     else
      some false
    else
     some false
def M_laws_FnExactIsJudgment (p : GSystem × GJudgment) (r : Bool) : Prop :=
 match p with
 | (aS0, aJ1) => FnSound Try.prog 9 [aSystem aS0, aJudgment aJ1] (.bool r) []
theorem laws_FnExactIsJudgment_s : ∀ p r, laws_FnExactIsJudgment p = some r → M_laws_FnExactIsJudgment p r := by
 rintro ⟨aS0, aJ1⟩ r h
 unfold laws_FnExactIsJudgment at h
 show FnSound Try.prog 9 [aSystem aS0, aJudgment aJ1] (.bool r) []
 refine FnSound.body0 tiok (fn := Try.f9) (code := B9) (by kernel_rfl) (by kernel_rfl) (by kernel_rfl) (by kernel_rfl) (nt := 45) (by kernel_rfl) (by kernel_rfl) (T := [(0, aSystem aS0), (1, aJudgment aJ1)]) (O := []) (by kernel_rfl) (by kernel_rfl) (fun c hc => ?_)
 refine sN ?_
 refine rg hc none [some (.new 1), some (.new 2), oN] [(2, .ra 1 0), (3, .ra 2 0)] [(1, bSystem aS0), (2, bJudgment aJ1)] trivial ?_
 refine seqQ_norm ?_
 refine sN ?_
 refine rg0 hc 1 [(2, .ra 1 0), (3, .ra 2 0), (5, I 1048576)] [(1, bSystem aS0), (2, bJudgment aJ1)] ?_
 refine seqQ_norm ?_
 refine sN ?_
 obtain ⟨r_2_2, hr_2_2, h⟩ := bsome h
 refine rg hc none [oN, oN, oc (I r_2_2), oN] [(2, .ra 1 0), (3, .ra 2 0), (5, I r_2_2)] [(1, bSystem aS0), (2, bJudgment aJ1)] (ai (laws_szSystem_s _ _ hr_2_2) (ai bod_11 (ai (oi (I r_2_2)) trivial))) ?_
 refine seqQ_norm ?_
 refine sN ?_
 refine sN ?_
 refine rg0 hc 2 [(2, .ra 1 0), (3, .ra 2 0), (5, I r_2_2), (14, .bool (decide (r_2_2 < 0)))] [(1, bSystem aS0), (2, bJudgment aJ1)] ?_
 refine seqQ_norm ?_
 rcases itesome h with ⟨hb_1, h⟩ | ⟨hb_1, h⟩
 ·refine cT ((decide (r_2_2 < 0))) hb_1 ?_
  refine sN ?_
  refine rg0 hc 1 [(4, .bool true)] [] ?_
  refine seqQ_norm ?_
  refine Wp.retN (by kernel_rfl) ?_
  refine seqQ_ret ?_
  obtain rfl := Option.some.inj h
  exact RetQ.ret (fl := [true]) (by kernel_rfl)
 ·refine cF ((decide (r_2_2 < 0))) hb_1 ?_
  refine Wp.skipN (by kernel_rfl) ?_
  refine seqQ_norm ?_
  refine sN ?_
  obtain ⟨r_5_2, hr_5_2, h⟩ := bsome h
  refine rg hc none [oN, oN, oc (I r_5_2), oN] [(2, .ra 1 0), (3, .ra 2 0), (5, I r_5_2)] [(1, bSystem aS0), (2, bJudgment aJ1)] (ai (laws_szJudgment_s _ _ hr_5_2) (ai bod_35 (ai (oi (I r_5_2)) trivial))) ?_
  refine seqQ_norm ?_
  refine sN ?_
  refine sN ?_
  refine rg0 hc 2 [(2, .ra 1 0), (3, .ra 2 0), (19, .bool (decide (r_5_2 < 0)))] [(1, bSystem aS0), (2, bJudgment aJ1)] ?_
  refine seqQ_norm ?_
  rcases itesome h with ⟨hb_2, h⟩ | ⟨hb_2, h⟩
  ·refine cT ((decide (r_5_2 < 0))) hb_2 ?_
   refine sN ?_
   refine rg0 hc 1 [(4, .bool true)] [] ?_
   refine seqQ_norm ?_
   refine Wp.retN (by kernel_rfl) ?_
   refine seqQ_ret ?_
   obtain rfl := Option.some.inj h
   exact RetQ.ret (fl := [true]) (by kernel_rfl)
  ·refine cF ((decide (r_5_2 < 0))) hb_2 ?_
   refine Wp.skipN (by kernel_rfl) ?_
   refine seqQ_norm ?_
   refine sN ?_
   obtain ⟨r_8_1, hr_8_1, h⟩ := bsome h
   obtain ⟨r_8_3, hr_8_3, h⟩ := bsome h
   obtain ⟨r_8_4, hr_8_4, h⟩ := bsome h
   refine rg hc (rh [0, 1, 0, 3, 4, 5]) [oN, some (.call (qSystem r_8_1) [] 3), oN, some (.call (qJudgment r_8_3) [] 6), oc (.bool r_8_4), oN] [(2, .ra 1 0), (3, .ra 2 0), (6, .bool r_8_4)] [(1, bSystem aS0), (2, bJudgment aJ1)] (ai (laws_toSystem_s _ _ hr_8_1) (ai bod_13 (ai (oi (qSystem r_8_1)) (ai (laws_toJudgment_s _ _ hr_8_3) (ai bod_37 (ai (oi (qJudgment r_8_3)) (ai (FnSound.args (A1 := [hSystem r_8_1, hJudgment r_8_3]) (A2 := [aSystem r_8_1, aJudgment r_8_3]) (by simp only [sI, sB, aSystem, aTerm, aJudgment, hSystem, hTerm, hJudgment, List.map_nil, sh_B, sh_GTerm_O, sh_I, sh_LI_o]) (spec_IsJudgment_s _ _ hr_8_4)) (ai bod_36 (ai (Or.inr rfl : ([3, 4, 5, 6, 7, 8, 9, 10, 11] : List Nat) = [] ∨ noSh (.bool r_8_4) = true) trivial))))))))) ?_
   refine seqQ_norm ?_
   refine sN ?_
   obtain ⟨r_9_1, hr_9_1, h⟩ := bsome h
   refine rg hc none [oN, some (.call (qSystem r_9_1) [] 12), some (.new 15), oN] [(2, .ra 1 0), (3, .ra 2 0), (6, .bool r_8_4), (7, .ra 15 0)] [(1, bSystem aS0), (2, bJudgment aJ1), (12, .arr (List.map I r_9_1.fPlus)), (13, .arr (List.map I r_9_1.fTimes)), (14, .arr (List.map AV.bool r_9_1.fBelow)), (15, .box [I r_9_1.fSize, .rs 12, .rs 13, .rs 14])] (ai (laws_toSystem_s _ _ hr_9_1) (ai bod_13 (ai (oi (qSystem r_9_1)) trivial))) ?_
   refine seqQ_norm ?_
   refine sN ?_
   obtain ⟨r_10_1, hr_10_1, h⟩ := bsome h
   refine rg hc none [oN, some (.call (qJudgment r_10_1) [] 16), some (.new 22), oN] [(2, .ra 1 0), (3, .ra 2 0), (6, .bool r_8_4), (7, .ra 15 0), (8, .ra 22 0)] [(1, bSystem aS0), (2, bJudgment aJ1), (12, .arr (List.map I r_9_1.fPlus)), (13, .arr (List.map I r_9_1.fTimes)), (14, .arr (List.map AV.bool r_9_1.fBelow)), (15, .box [I r_9_1.fSize, .rs 12, .rs 13, .rs 14]), (16, .arr (List.map LI_o r_10_1.fCtx)), (17, .arr (List.map I r_10_1.fBudgets)), (18, .arr (List.map I r_10_1.fTerm.fType)), (19, .arr (List.map GTerm_O r_10_1.fTerm.fKids)), (20, .arr (List.map I r_10_1.fType)), (21, .arr (List.map I r_10_1.fFrom)), (22, .box [.rs 16, .rs 17, I r_10_1.fTerm.fOp, I r_10_1.fTerm.fN, .rs 18, .rs 19, .rs 20, .rs 21])] (ai (laws_toJudgment_s _ _ hr_10_1) (ai bod_37 (ai (oi (qJudgment r_10_1)) trivial))) ?_
   refine seqQ_norm ?_
   refine sN ?_
   obtain ⟨r_11_2, hr_11_2, h⟩ := bsome h
   refine rg hc none [oN, oN, oc (.bool r_11_2), oN] [(2, .ra 1 0), (3, .ra 2 0), (6, .bool r_8_4), (7, .ra 15 0), (8, .ra 22 0), (9, .bool r_11_2)] [(1, bSystem aS0), (2, bJudgment aJ1), (12, .arr (List.map I r_9_1.fPlus)), (13, .arr (List.map I r_9_1.fTimes)), (14, .arr (List.map AV.bool r_9_1.fBelow)), (15, .box [I r_9_1.fSize, .rs 12, .rs 13, .rs 14]), (16, .arr (List.map LI_o r_10_1.fCtx)), (17, .arr (List.map I r_10_1.fBudgets)), (18, .arr (List.map I r_10_1.fTerm.fType)), (19, .arr (List.map GTerm_O r_10_1.fTerm.fKids)), (20, .arr (List.map I r_10_1.fType)), (21, .arr (List.map I r_10_1.fFrom)), (22, .box [.rs 16, .rs 17, I r_10_1.fTerm.fOp, I r_10_1.fTerm.fN, .rs 18, .rs 19, .rs 20, .rs 21])] (ai (FnSound.args (A1 := [hSystem r_9_1, hJudgment r_10_1]) (A2 := [aSystem r_9_1, aJudgment r_10_1]) (by simp only [sI, sB, aSystem, aTerm, aJudgment, hSystem, hTerm, hJudgment, List.map_nil, sh_B, sh_GTerm_O, sh_I, sh_LI_o]) (impl_IsJudgment_s _ _ hr_11_2)) (ai bod_38 (ai (Or.inr rfl : ([12, 13, 14, 16, 17, 18, 19, 20, 21] : List Nat) = [] ∨ noSh (.bool r_11_2) = true) trivial))) ?_
   refine seqQ_norm ?_
   refine sN ?_
   refine sN ?_
   refine rg0 hc 3 [(2, .ra 1 0), (3, .ra 2 0), (7, .ra 15 0), (8, .ra 22 0), (34, .bool (!(r_11_2 == r_8_4)))] [(1, bSystem aS0), (2, bJudgment aJ1), (12, .arr (List.map I r_9_1.fPlus)), (13, .arr (List.map I r_9_1.fTimes)), (14, .arr (List.map AV.bool r_9_1.fBelow)), (15, .box [I r_9_1.fSize, .rs 12, .rs 13, .rs 14]), (16, .arr (List.map LI_o r_10_1.fCtx)), (17, .arr (List.map I r_10_1.fBudgets)), (18, .arr (List.map I r_10_1.fTerm.fType)), (19, .arr (List.map GTerm_O r_10_1.fTerm.fKids)), (20, .arr (List.map I r_10_1.fType)), (21, .arr (List.map I r_10_1.fFrom)), (22, .box [.rs 16, .rs 17, I r_10_1.fTerm.fOp, I r_10_1.fTerm.fN, .rs 18, .rs 19, .rs 20, .rs 21])] ?_
   refine seqQ_norm ?_
   rcases itesome h with ⟨hb_3, h⟩ | ⟨hb_3, h⟩
   ·refine cF ((!(r_11_2 == r_8_4))) (nF hb_3) ?_
    refine Wp.skipN (by kernel_rfl) ?_
    refine seqQ_norm ?_
    refine sN ?_
    refine sN ?_
    obtain ⟨r_14_2, hr_14_2, h⟩ := bsome h
    obtain ⟨r_14_3, hr_14_3, h⟩ := bsome h
    refine rg hc ah7_0 [oN, oN, some (.call (qSystem r_14_2) [] 23), oc (.bool r_14_3), oN] [(3, .ra 2 0), (8, .ra 22 0), (39, .bool (!r_14_3))] [(2, bJudgment aJ1), (16, .arr (List.map LI_o r_10_1.fCtx)), (17, .arr (List.map I r_10_1.fBudgets)), (18, .arr (List.map I r_10_1.fTerm.fType)), (19, .arr (List.map GTerm_O r_10_1.fTerm.fKids)), (20, .arr (List.map I r_10_1.fType)), (21, .arr (List.map I r_10_1.fFrom)), (22, .box [.rs 16, .rs 17, I r_10_1.fTerm.fOp, I r_10_1.fTerm.fN, .rs 18, .rs 19, .rs 20, .rs 21])] (ai (laws_toSystem_s _ _ hr_14_2) (ai bod_13 (ai (oi (qSystem r_14_2)) (ai (FnSound.args (A1 := [hSystem r_9_1, hSystem r_14_2]) (A2 := [aSystem r_9_1, aSystem r_14_2]) (by simp only [sI, sB, aSystem, aTerm, aJudgment, hSystem, hTerm, hJudgment, List.map_nil, sh_B, sh_I]) (laws_eqSystem_s _ _ hr_14_3)) (ai bod_17 (ai (Or.inr rfl : ([12, 13, 14, 23, 24, 25] : List Nat) = [] ∨ noSh (.bool r_14_3) = true) trivial)))))) ?_
    refine seqQ_norm ?_
    rcases itesome h with ⟨hb_4, h⟩ | ⟨hb_4, h⟩
    ·refine cF (!r_14_3) (nF hb_4) ?_
     refine Wp.skipN (by kernel_rfl) ?_
     refine seqQ_norm ?_
     refine sN ?_
     refine sN ?_
     obtain ⟨r_16_2, hr_16_2, h⟩ := bsome h
     obtain ⟨r_16_3, hr_16_3, h⟩ := bsome h
     refine rg hc ah7_0 [oN, oN, some (.call (qJudgment r_16_2) [] 26), oc (.bool r_16_3), oN] [(44, .bool (!r_16_3))] [] (ai (laws_toJudgment_s _ _ hr_16_2) (ai bod_37 (ai (oi (qJudgment r_16_2)) (ai (FnSound.args (A1 := [hJudgment r_10_1, hJudgment r_16_2]) (A2 := [aJudgment r_10_1, aJudgment r_16_2]) (by simp only [sI, sB, aSystem, aTerm, aJudgment, hSystem, hTerm, hJudgment, List.map_nil, sh_GTerm_O, sh_I, sh_LI_o]) (laws_eqJudgment_s _ _ hr_16_3)) (ai bod_39 (ai (Or.inr rfl : ([16, 17, 18, 19, 20, 21, 26, 27, 28, 29, 30, 31] : List Nat) = [] ∨ noSh (.bool r_16_3) = true) trivial)))))) ?_
     refine seqQ_norm ?_
     rcases itesome h with ⟨hb_5, h⟩ | ⟨hb_5, h⟩
     ·refine cF (!r_16_3) (nF hb_5) ?_
      refine Wp.skipN (by kernel_rfl) ?_
      refine seqQ_norm ?_
      refine sN ?_
      refine rg0 hc 1 [(4, .bool true)] [] ?_
      refine seqQ_norm ?_
      refine Wp.retN (by kernel_rfl) ?_
      obtain rfl := Option.some.inj h
      exact RetQ.ret (fl := [true]) (by kernel_rfl)
     ·refine cT (!r_16_3) (nT hb_5) ?_
      refine sN ?_
      refine rg0 hc 1 [(4, .bool false)] [] ?_
      refine seqQ_norm ?_
      refine Wp.retN (by kernel_rfl) ?_
      refine seqQ_ret ?_
      obtain rfl := Option.some.inj h
      exact RetQ.ret (fl := [true]) (by kernel_rfl)
    ·refine cT (!r_14_3) (nT hb_4) ?_
     refine sN ?_
     refine rg0 hc 1 [(4, .bool false)] [] ?_
     refine seqQ_norm ?_
     refine Wp.retN (by kernel_rfl) ?_
     refine seqQ_ret ?_
     obtain rfl := Option.some.inj h
     exact RetQ.ret (fl := [true]) (by kernel_rfl)
   ·refine cT ((!(r_11_2 == r_8_4))) (nT hb_3) ?_
    refine sN ?_
    refine rg0 hc 1 [(4, .bool false)] [] ?_
    refine seqQ_norm ?_
    refine Wp.retN (by kernel_rfl) ?_
    refine seqQ_ret ?_
    obtain rfl := Option.some.inj h
    exact RetQ.ret (fl := [true]) (by kernel_rfl)
end Go.Am
