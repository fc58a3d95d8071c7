/- Functions of the program as pure functions, and that it computes them. Printed by a program of mine (gen.py). -/
import Derived.Test.YtfakfcaegabgaaaGCTF1
set_option linter.unusedVariables false
set_option linter.unusedSimpArgs false
set_option maxRecDepth 100000
namespace Go.Am
open Go Go.Proofs
mutual
def spec_l2Put (p : GTerm × Int × GTerm × Int) : Option (GTerm) :=
 match p with
 | (t0, i1, u2, deep3) =>
  (spec_l1Copy t0.fType) >>= fun r_1_6 =>
  ((
   if (t0.fOp == 0) = true then
    if (t0.fN == (wr (i1 + deep3))) = true then
     (spec_l2Shift (u2, deep3, 0)) >>= fun r_4_2 =>
     some (.inr r_4_2)
    else
     (
      if (decide (t0.fN > (wr (i1 + deep3)))) = true then
       some ((wr (t0.fN - 1)))
      else
       some (t0.fN)
     ) >>= fun out_4 =>
     some (.inl out_4)
   else
    some (.inl t0.fN)) : Option ((Int) ⊕ (GTerm))) >>= fun fl => match fl with
  | .inl out_6 =>
   (spec_l2Put_l0 (t0, i1, u2, deep3, r_1_6, out_6, [], 0)) >>= fun out_13 =>
   some (GTerm.mk t0.fOp out_6 r_1_6 out_13)
  | .inr r =>
   some r
 partial_fixpoint
def spec_l2Put_l0 (p : GTerm × Int × GTerm × Int × (List Int) × Int × (List GTerm) × Int) : Option ((List GTerm)) :=
 match p with
 | (t0, i1, u2, deep3, r_1_6, out_6, out_11, k_9) =>
  if (decide (k_9 < (t0.fKids.length : Int))) = true then
   (idx t0.fKids k_9) >>= fun e_10_5 =>
   (spec_l2Adds (t0.fOp, k_9)) >>= fun r_10_13 =>
   (spec_l2Put (e_10_5, i1, u2, (wr (deep3 + r_10_13)))) >>= fun r_10_15 =>
   (fits (out_11.length + [r_10_15].length) 64) >>= fun _ =>
   spec_l2Put_l0 (t0, i1, u2, deep3, r_1_6, out_6, (out_11 ++ [r_10_15]), (wr (k_9 + 1)))
  else
   some (out_11)
 partial_fixpoint
end
def M_spec_l2Put (p : GTerm × Int × GTerm × Int) (r : GTerm) : Prop :=
 match p with
 | (t0, i1, u2, deep3) => FnSound Try.prog 129 [aTerm t0, I i1, aTerm u2, I deep3] (qTerm r) []
def M_spec_l2Put_l0 (p : GTerm × Int × GTerm × Int × (List Int) × Int × (List GTerm) × Int) (fl : (List GTerm)) : Prop :=
 match p with
 | (t0, i1, u2, deep3, r_1_6, out_6, out_11, k_9) => ∀ c : Ctx, c.nt = 68 → WpL Try.prog c (cl (cl (cr (cl (cr (cr (cr B129))))))) (spec_l2Put_F2 c t0 r_1_6 out_6 fl) (mkS [(1, I i1), (3, I deep3), (4, .ra 1 0), (6, .ra 2 0), (8, .ra 3 0), (9, .ra 5 0), (10, I k_9)] [(1, bTerm t0), (2, bTerm u2), (3, .box [I 0, I 0, .nils, .nils]), (4, .arr (List.map I r_1_6)), (5, .box [I t0.fOp, I out_6, .rs 4, .rs 12]), (12, .arr (List.map GTerm_O out_11))])
theorem spec_l2Put_all : (∀ p r, spec_l2Put p = some r → M_spec_l2Put p r) ∧ (∀ p r, spec_l2Put_l0 p = some r → M_spec_l2Put_l0 p r) := by
 refine spec_l2Put.mutual_partial_correctness M_spec_l2Put M_spec_l2Put_l0 ?_ ?_
 ·rintro spec_l2Put_l0_f spec_l2Put_l0_ih ⟨t0, i1, u2, deep3⟩ r h
  show FnSound Try.prog 129 [aTerm t0, I i1, aTerm u2, I deep3] (qTerm r) []
  refine FnSound.body0 tiok (fn := Try.f129) (code := B129) (by kernel_rfl) (by kernel_rfl) (by kernel_rfl) (by kernel_rfl) (nt := 68) (by kernel_rfl) (by kernel_rfl) (T := [(0, aTerm t0), (1, I i1), (2, aTerm u2), (3, I deep3)]) (O := []) (by kernel_rfl) (by kernel_rfl) (fun c hc => ?_)
  refine sN ?_
  refine rg hc none [some (.new 1), some (.new 2), some (.new 3)] [(1, I i1), (3, I deep3), (4, .ra 1 0), (6, .ra 2 0), (8, .ra 3 0)] [(1, bTerm t0), (2, bTerm u2), (3, .box [I 0, I 0, .nils, .nils])] trivial ?_
  refine seqQ_norm ?_
  refine sN ?_
  obtain ⟨r_1_6, hr_1_6, h⟩ := bsome h
  refine rg hc (rx [[0], [1], [0], [0, 2], [0], [0, 4], [0, 4, 5], [7], [0], [9]]) [oN, oN, oN, oN, oN, oN, some (.call (.osl (List.map I r_1_6)) [] 4), oN, some (.new 5), oN] [(1, I i1), (3, I deep3), (4, .ra 1 0), (6, .ra 2 0), (8, .ra 3 0), (9, .ra 5 0)] [(1, bTerm t0), (2, bTerm u2), (3, .box [I 0, I 0, .nils, .nils]), (4, .arr (List.map I r_1_6)), (5, .box [I t0.fOp, I t0.fN, .rs 4, .nils])] (ai (spec_l1Copy_s _ _ hr_1_6) (ai bod_149 (ai (oi (.osl (List.map I r_1_6))) trivial))) ?_
  refine seqQ_norm ?_
  refine sN ?_
  refine sN ?_
  refine rg0 hc 3 [(1, I i1), (3, I deep3), (4, .ra 1 0), (6, .ra 2 0), (8, .ra 3 0), (9, .ra 5 0), (21, .bool (t0.fOp == 0))] [(1, bTerm t0), (2, bTerm u2), (3, .box [I 0, I 0, .nils, .nils]), (4, .arr (List.map I r_1_6)), (5, .box [I t0.fOp, I t0.fN, .rs 4, .nils])] ?_
  refine seqQ_norm ?_
  obtain ⟨fl, hj_7, h⟩ := bsome h
  have hF : Wp Try.prog c (cr (cl (cr (cr B129)))) (spec_l2Put_F1 c t0 i1 u2 deep3 r_1_6 fl) (mkS [(1, I i1), (3, I deep3), (4, .ra 1 0), (6, .ra 2 0), (8, .ra 3 0), (9, .ra 5 0), (21, .bool (t0.fOp == 0))] [(1, bTerm t0), (2, bTerm u2), (3, .box [I 0, I 0, .nils, .nils]), (4, .arr (List.map I r_1_6)), (5, .box [I t0.fOp, I t0.fN, .rs 4, .nils])]) := by
   replace h := hj_7
   rcases itesome h with ⟨hb_1, h⟩ | ⟨hb_1, h⟩
   ·refine cT ((t0.fOp == 0)) hb_1 ?_
    refine sN ?_
    refine sN ?_
    refine rg0 hc 6 [(1, I i1), (3, I deep3), (4, .ra 1 0), (6, .ra 2 0), (8, .ra 3 0), (9, .ra 5 0), (27, .bool (t0.fN == (wr (i1 + deep3))))] [(1, bTerm t0), (2, bTerm u2), (3, .box [I 0, I 0, .nils, .nils]), (4, .arr (List.map I r_1_6)), (5, .box [I t0.fOp, I t0.fN, .rs 4, .nils])] ?_
    refine seqQ_norm ?_
    rcases itesome h with ⟨hb_2, h⟩ | ⟨hb_2, h⟩
    ·refine cT ((t0.fN == (wr (i1 + deep3)))) hb_2 ?_
     refine sN ?_
     obtain ⟨r_4_2, hr_4_2, h⟩ := bsome h
     refine rg hc none [oN, oN, some (.call (qTerm r_4_2) [] 6), oN] [(8, .ra 3 0)] [(3, .box [I r_4_2.fOp, I r_4_2.fN, .rs 6, .rs 7]), (6, .arr (List.map I r_4_2.fType)), (7, .arr (List.map GTerm_O r_4_2.fKids))] (ai (spec_l2Shift_s _ _ hr_4_2) (ai bod_125 (ai (oi (qTerm r_4_2)) trivial))) ?_
     refine seqQ_norm ?_
     refine Wp.retN (by kernel_rfl) ?_
     refine seqQ_ret ?_
     obtain rfl := Option.some.inj h
     exact RetE.ret (fl := [true]) (by kernel_rfl)
    ·refine cF ((t0.fN == (wr (i1 + deep3)))) hb_2 ?_
     refine Wp.skipN (by kernel_rfl) ?_
     refine seqQ_norm ?_
     refine sN ?_
     refine rg0 hc 6 [(1, I i1), (3, I deep3), (4, .ra 1 0), (6, .ra 2 0), (8, .ra 3 0), (9, .ra 5 0), (36, .bool (decide (t0.fN > (wr (i1 + deep3)))))] [(1, bTerm t0), (2, bTerm u2), (3, .box [I 0, I 0, .nils, .nils]), (4, .arr (List.map I r_1_6)), (5, .box [I t0.fOp, I t0.fN, .rs 4, .nils])] ?_
     refine seqQ_norm ?_
     obtain ⟨out_4, hj_5, h⟩ := bsome h
     refine Wp.into (x := .normal) (mkS [(1, I i1), (3, I deep3), (4, .ra 1 0), (6, .ra 2 0), (8, .ra 3 0), (9, .ra 5 0)] [(1, bTerm t0), (2, bTerm u2), (3, .box [I 0, I 0, .nils, .nils]), (4, .arr (List.map I r_1_6)), (5, .box [I t0.fOp, I out_4, .rs 4, .nils])]) ?_ ?_
     ·replace h := hj_5
      rcases itesome h with ⟨hb_3, h⟩ | ⟨hb_3, h⟩
      ·refine cT ((decide (t0.fN > (wr (i1 + deep3))))) hb_3 ?_
       refine rg0 hc 5 [(1, I i1), (3, I deep3), (4, .ra 1 0), (6, .ra 2 0), (8, .ra 3 0), (9, .ra 5 0)] [(1, bTerm t0), (2, bTerm u2), (3, .box [I 0, I 0, .nils, .nils]), (4, .arr (List.map I r_1_6)), (5, .box [I t0.fOp, I (wr (t0.fN - 1)), .rs 4, .nils])] ?_
       obtain rfl := Option.some.inj h
       exact Into.mk
      ·refine cF ((decide (t0.fN > (wr (i1 + deep3))))) hb_3 ?_
       refine Wp.skipN (by kernel_rfl) ?_
       obtain rfl := Option.some.inj h
       exact Into.view (fun a w hv => SRx.renL [] hv (by kernel_rfl) (by kernel_rfl) (by kernel_rfl))
     ·clear hj_5
      obtain rfl := Option.some.inj h
      exact Into.mk
   ·refine cF ((t0.fOp == 0)) hb_1 ?_
    refine Wp.skipN (by kernel_rfl) ?_
    obtain rfl := Option.some.inj h
    exact Into.view (fun a w hv => SRx.renL [] hv (by kernel_rfl) (by kernel_rfl) (by kernel_rfl))
  rcases fl with out_6 | r
  ·refine Wp.into (x := .normal) (mkS [(1, I i1), (3, I deep3), (4, .ra 1 0), (6, .ra 2 0), (8, .ra 3 0), (9, .ra 5 0)] [(1, bTerm t0), (2, bTerm u2), (3, .box [I 0, I 0, .nils, .nils]), (4, .arr (List.map I r_1_6)), (5, .box [I t0.fOp, I out_6, .rs 4, .nils])]) hF ?_
   refine seqQ_norm ?_
   refine sN ?_
   refine sN ?_
   refine rg0 hc 1 [(1, I i1), (3, I deep3), (4, .ra 1 0), (6, .ra 2 0), (8, .ra 3 0), (9, .ra 5 0), (10, I 0)] [(1, bTerm t0), (2, bTerm u2), (3, .box [I 0, I 0, .nils, .nils]), (4, .arr (List.map I r_1_6)), (5, .box [I t0.fOp, I out_6, .rs 4, .nils])] ?_
   refine seqQ_norm ?_
   refine Wp.blockN (i := 0) (by kernel_rfl) ?_
   obtain ⟨out_13, hl_14, h⟩ := bsome h
   have hL := spec_l2Put_l0_ih _ _ hl_14 c hc
   refine Wp.loopN (by kernel_rfl) (WpL.view (fun a w hv => SRx.renL [(12, 21)] (SRx.nilBL 5 3 21 [I t0.fOp, I out_6, .rs 4, .nils] hv (by kernel_rfl) (by kernel_rfl) (by kernel_rfl)) (by kernel_rfl) (by kernel_rfl) (by kernel_rfl)) (?_ : WpL _ c _ _ (mkS [(1, I i1), (3, I deep3), (4, .ra 1 0), (6, .ra 2 0), (8, .ra 3 0), (9, .ra 5 0), (10, I 0)] [(1, bTerm t0), (2, bTerm u2), (3, .box [I 0, I 0, .nils, .nils]), (4, .arr (List.map I r_1_6)), (5, .box [I t0.fOp, I out_6, .rs 4, .rs 12]), (12, .arr (List.map GTerm_O []))])))
   ·refine WpL.into (e := (.exit 0)) (mkS [(8, .ra 3 0), (9, .ra 5 0)] [(3, .box [I 0, I 0, .nils, .nils]), (4, .arr (List.map I r_1_6)), (5, .box [I t0.fOp, I out_6, .rs 4, .rs 12]), (12, .arr (List.map GTerm_O out_13))]) hL ?_
    refine blockQ_hit ?_
    refine seqQ_norm ?_
    refine sN ?_
    refine rg0 hc 2 [(8, .ra 3 0)] [(3, .box [I t0.fOp, I out_6, .rs 4, .rs 12]), (4, .arr (List.map I r_1_6)), (12, .arr (List.map GTerm_O out_13))] ?_
    refine seqQ_norm ?_
    refine Wp.retN (by kernel_rfl) ?_
    obtain rfl := Option.some.inj h
    exact RetQ.ret (fl := [true]) (by kernel_rfl)
  ·refine Wp.mono hF ?_
   rintro _ _ ⟨rfl, hfin⟩
   refine seqQ_ret ?_
   obtain rfl := Option.some.inj h
   exact ⟨.inl rfl, hfin⟩
 ·rintro spec_l2Put_f spec_l2Put_l0_f spec_l2Put_ih spec_l2Put_l0_ih ⟨t0, i1, u2, deep3, r_1_6, out_6, out_11, k_9⟩ r h
  intro c hc
  show WpL Try.prog c (cl (cl (cr (cl (cr (cr (cr B129))))))) (spec_l2Put_F2 c t0 r_1_6 out_6 r) (mkS [(1, I i1), (3, I deep3), (4, .ra 1 0), (6, .ra 2 0), (8, .ra 3 0), (9, .ra 5 0), (10, I k_9)] [(1, bTerm t0), (2, bTerm u2), (3, .box [I 0, I 0, .nils, .nils]), (4, .arr (List.map I r_1_6)), (5, .box [I t0.fOp, I out_6, .rs 4, .rs 12]), (12, .arr (List.map GTerm_O out_11))])
  refine WpL.step ?_
  refine sN ?_
  refine sN ?_
  refine rg hc none [oN, oN, oN, some (.eqv (.no) ⟨[(44, I (t0.fKids.length : Int))], [], []⟩), oN] [(1, I i1), (3, I deep3), (4, .ra 1 0), (6, .ra 2 0), (8, .ra 3 0), (9, .ra 5 0), (10, I k_9), (45, .bool (decide (k_9 < (t0.fKids.length : Int))))] [(1, bTerm t0), (2, bTerm u2), (3, .box [I 0, I 0, .nils, .nils]), (4, .arr (List.map I r_1_6)), (5, .box [I t0.fOp, I out_6, .rs 4, .rs 12]), (12, .arr (List.map GTerm_O out_11))] (ai (lenT (d := 44) GTerm_S t0.fKids) trivial) ?_
  refine seqQ_norm ?_
  rcases itesome h with ⟨hb_12, h⟩ | ⟨hb_12, h⟩
  ·refine cT ((decide (k_9 < (t0.fKids.length : Int)))) hb_12 ?_
   refine Wp.skipN (by kernel_rfl) ?_
   refine seqQ_norm ?_
   refine sN ?_
   refine Wp.blockN (i := 1) (by kernel_rfl) ?_
   obtain ⟨e_10_5, hi_10_5, h⟩ := bsome h
   obtain ⟨r_10_13, hr_10_13, h⟩ := bsome h
   obtain ⟨r_10_15, hr_10_15, h⟩ := bsome h
   obtain ⟨_, hk_10_17, h⟩ := bsome h
   refine rg hc (rx [[0], [1], [0], [0, 2], [0], [0, 2, 3, 4], [0, 2, 3, 4, 5], [0], [0], [0], [0], [0, 10], [0], [0, 10, 11, 12], [0, 9, 10, 11, 12, 13], [0, 2, 3, 4, 5, 6, 7, 8, 9, 10, 11, 12, 13, 14], [0, 2, 3, 4, 5, 6, 7, 8, 9, 10, 11, 12, 13, 14, 15], [17], [18], [19]]) [oN, oN, oN, oN, oN, some (.el (aTerm e_10_5)), oN, oN, oN, oN, oN, oN, oN, oc (I r_10_13), oN, some (.call (qTerm r_10_15) [] 17), some (.eqv (.mk 19 true) ⟨[(64, .rs 19)], [(19, some (.arr (List.map GTerm_O [r_10_15]))), (17, none), (18, none)], [19]⟩), some (.eqv (.mk 20 true) ⟨[(65, .rs 20)], [(20, some (.arr (List.map GTerm_O (out_11 ++ [r_10_15])))), (12, none), (19, none)], [20]⟩), oN, oN] [(1, I i1), (3, I deep3), (4, .ra 1 0), (6, .ra 2 0), (8, .ra 3 0), (9, .ra 5 0), (10, I k_9)] [(1, bTerm t0), (2, bTerm u2), (3, .box [I 0, I 0, .nils, .nils]), (4, .arr (List.map I r_1_6)), (5, .box [I t0.fOp, I out_6, .rs 4, .rs 20]), (20, .arr (List.map GTerm_O (out_11 ++ [r_10_15])))] (ai (idx_sl (enc := GTerm_S) (x := aTerm e_10_5) hi_10_5 (eq_GTerm_S e_10_5)) (ai (spec_l2Adds_s _ _ hr_10_13) (ai bod_134 (ai (oi (I r_10_13)) (ai (spec_l2Put_ih _ _ hr_10_15) (ai bod_129 (ai (oi (qTerm r_10_15)) (ai (congrArg (fun z => (⟨[(64, .rs 19)], [(19, some (.arr z)), (17, none), (18, none)], [19]⟩ : Wr)) ((rows1 (eq_GTerm_O r_10_15) rows0) : [AV.agg [I r_10_15.fOp, I r_10_15.fN, AV.osl (List.map I r_10_15.fType), AV.osl (List.map GTerm_O r_10_15.fKids)]] = List.map GTerm_O [r_10_15])) (ai (congrArg (fun z => (⟨[(65, .rs 20)], [(20, some (.arr z)), (12, none), (19, none)], [20]⟩ : Wr)) ((List.map_append).symm : (List.map GTerm_O out_11) ++ (List.map GTerm_O [r_10_15]) = List.map GTerm_O (out_11 ++ [r_10_15]))) (ai (app_ob (enc1 := GTerm_O) (enc2 := GTerm_O) (e1 := out_11) (e2 := [r_10_15]) (sz := 4) ek_GTerm_O ek_GTerm_O hk_10_17) trivial)))))))))) ?_
   refine blockQ_norm ?_
   refine seqQ_norm ?_
   refine rg0 hc 3 [(1, I i1), (3, I deep3), (4, .ra 1 0), (6, .ra 2 0), (8, .ra 3 0), (9, .ra 5 0), (10, I (wr (k_9 + 1)))] [(1, bTerm t0), (2, bTerm u2), (3, .box [I 0, I 0, .nils, .nils]), (4, .arr (List.map I r_1_6)), (5, .box [I t0.fOp, I out_6, .rs 4, .rs 20]), (20, .arr (List.map GTerm_O (out_11 ++ [r_10_15])))] ?_
   refine loopQ_norm ?_
   exact WpL.view (fun a w hv => SRx.renL [(12, 20)] hv (by kernel_rfl) (by kernel_rfl) (by kernel_rfl)) (spec_l2Put_l0_ih _ _ h c hc)
  ·refine cF ((decide (k_9 < (t0.fKids.length : Int)))) hb_12 ?_
   refine Wp.exitN (i := 0) (by kernel_rfl) ?_
   refine seqQ_exit ?_
   refine loopQ_exit ?_
   obtain rfl := Option.some.inj h
   exact Into.view (fun a w hv => SRx.renL [] hv (by kernel_rfl) (by kernel_rfl) (by kernel_rfl))
theorem spec_l2Put_s : ∀ p r, spec_l2Put p = some r → M_spec_l2Put p r := spec_l2Put_all.1
theorem spec_l2Put_l0_s : ∀ p r, spec_l2Put_l0 p = some r → M_spec_l2Put_l0 p r := spec_l2Put_all.2
def spec_l4Contracted (t0 : GTerm) : Option (GTerm × Bool) :=
  (idx t0.fKids 0) >>= fun e_1_2 =>
  if (t0.fOp == 2) = true then
   (idx t0.fKids 1) >>= fun e_4_4 =>
   some ((GTerm.mk 1 (Int.tmod (wr (e_1_2.fN + e_4_4.fN)) 3) [] []), true)
  else
   if (t0.fOp == 3) = true then
    if (e_1_2.fN == 0) = true then
     (idx t0.fKids 1) >>= fun e_7_2 =>
     (spec_l2Shift (e_7_2, 0, 0)) >>= fun r_7_4 =>
     some (r_7_4, true)
    else
     (idx t0.fKids 2) >>= fun e_8_2 =>
     (spec_l2Shift (e_8_2, 0, 0)) >>= fun r_8_4 =>
     some (r_8_4, true)
   else
    (spec_l4Body t0) >>= fun r_9_1 =>
    if (t0.fOp == 5) = true then
     (spec_l4Size r_9_1) >>= fun r_11_1 =>
     (spec_l2Uses (r_9_1, 1)) >>= fun r_11_3 =>
     (idx e_1_2.fKids 0) >>= fun e_11_6 =>
     (spec_l4Size e_11_6) >>= fun r_11_8 =>
     (spec_l2Uses (r_9_1, 0)) >>= fun r_11_13 =>
     (idx e_1_2.fKids 1) >>= fun e_11_16 =>
     (spec_l4Size e_11_16) >>= fun r_11_18 =>
     if (decide ((wr ((wr (r_11_1 + (wr (r_11_3 * (wr (r_11_8 - 1)))))) + (wr (r_11_13 * (wr (r_11_18 - 1)))))) > 400)) = true then
      some ((GTerm.mk 0 0 [] []), false)
     else
      (idx e_1_2.fKids 1) >>= fun e_14_3 =>
      (spec_l2Shift (e_14_3, 1, 0)) >>= fun r_14_5 =>
      (spec_l2Put (r_9_1, 0, r_14_5, 0)) >>= fun r_14_6 =>
      (idx e_1_2.fKids 0) >>= fun e_14_9 =>
      (spec_l2Put (r_14_6, 0, e_14_9, 0)) >>= fun r_14_11 =>
      some (r_14_11, true)
    else
     (
      if (t0.fOp == 10) = true then
       (idx t0.fKids 1) >>= fun e_17_2 =>
       some ((e_17_2.fOp, e_17_2.fN, e_17_2.fType, e_17_2.fKids))
      else
       (idx e_1_2.fKids 0) >>= fun e_18_2 =>
       some ((e_18_2.fOp, e_18_2.fN, e_18_2.fType, e_18_2.fKids))
     ) >>= fun (arg_7, arg_8, arg_9, arg_10) =>
     (spec_l4Size r_9_1) >>= fun r_19_1 =>
     (spec_l2Uses (r_9_1, 0)) >>= fun r_19_3 =>
     (spec_l4Size (GTerm.mk arg_7 arg_8 arg_9 arg_10)) >>= fun r_19_5 =>
     if (decide ((wr (r_19_1 + (wr (r_19_3 * (wr (r_19_5 - 1)))))) > 400)) = true then
      some ((GTerm.mk 0 0 [] []), false)
     else
      (spec_l2Put (r_9_1, 0, (GTerm.mk arg_7 arg_8 arg_9 arg_10), 0)) >>= fun r_21_2 =>
      some (r_21_2, true)
def M_spec_l4Contracted (t0 : GTerm) (r : GTerm × Bool) : Prop :=
 FnSound Try.prog 80 [aTerm t0] (.tup [.agg [I r.1.fOp, I r.1.fN, .osl (List.map I r.1.fType), .osl (List.map GTerm_O r.1.fKids)], .bool r.2]) []
theorem spec_l4Contracted_s : ∀ p r, spec_l4Contracted p = some r → M_spec_l4Contracted p r := by
 rintro t0 r h
 unfold spec_l4Contracted at h
 show FnSound Try.prog 80 [aTerm t0] (.tup [.agg [I r.1.fOp, I r.1.fN, .osl (List.map I r.1.fType), .osl (List.map GTerm_O r.1.fKids)], .bool r.2]) []
 refine FnSound.body0 tiok (fn := Try.f80) (code := B80) (by kernel_rfl) (by kernel_rfl) (by kernel_rfl) (by kernel_rfl) (nt := 109) (by kernel_rfl) (by kernel_rfl) (T := [(0, aTerm t0)]) (O := []) (by kernel_rfl) (by kernel_rfl) (fun c hc => ?_)
 refine sN ?_
 refine rg hc none [some (.new 1), some (.new 2), oN] [(1, .ra 1 0), (2, .ra 2 0)] [(1, bTerm t0), (2, .box [I 0, I 0, .nils, .nils])] trivial ?_
 refine seqQ_norm ?_
 refine sN ?_
 obtain ⟨e_1_2, hi_1_2, h⟩ := bsome h
 refine rg hc none [oN, oN, some (.el (aTerm e_1_2)), oN, some (.new 3), oN] [(1, .ra 1 0), (2, .ra 2 0), (4, .ra 3 0)] [(1, bTerm t0), (2, .box [I 0, I 0, .nils, .nils]), (3, bTerm e_1_2)] (ai (idx_sl (enc := GTerm_S) (x := aTerm e_1_2) hi_1_2 (eq_GTerm_S e_1_2)) trivial) ?_
 refine seqQ_norm ?_
 refine sN ?_
 refine sN ?_
 refine rg0 hc 2 [(1, .ra 1 0), (2, .ra 2 0), (4, .ra 3 0), (13, I t0.fOp)] [(1, bTerm t0), (2, .box [I 0, I 0, .nils, .nils]), (3, bTerm e_1_2)] ?_
 refine seqQ_norm ?_
 refine Wp.blockN (i := 0) (by kernel_rfl) ?_
 refine sN ?_
 refine rg0 hc 2 [(1, .ra 1 0), (2, .ra 2 0), (4, .ra 3 0), (13, I t0.fOp), (14, .bool (t0.fOp == 2))] [(1, bTerm t0), (2, .box [I 0, I 0, .nils, .nils]), (3, bTerm e_1_2)] ?_
 refine seqQ_norm ?_
 rcases itesome h with ⟨hb_1, h⟩ | ⟨hb_1, h⟩
 ·refine cT ((t0.fOp == 2)) hb_1 ?_
  refine sN ?_
  obtain ⟨e_4_4, hi_4_4, h⟩ := bsome h
  refine rg hc (rx [[0], [1], [0], [0, 2], [0, 2, 3], [0, 2, 3, 4], [0, 2, 3, 4, 5], [7], [8], [9], [10], [11]]) [oN, oN, oN, oN, some (.el (aTerm e_4_4)), oN, oN, oN, oN, oN, oN, oN] [(2, .ra 2 0), (3, .bool true)] [(2, .box [I 1, I (Int.tmod (wr (e_1_2.fN + e_4_4.fN)) 3), .nils, .nils])] (ai (idx_sl (enc := GTerm_S) (x := aTerm e_4_4) hi_4_4 (eq_GTerm_S e_4_4)) (ai ((by decide) : (3 : Int) ≠ 0) trivial)) ?_
  refine seqQ_norm ?_
  refine Wp.retN (by kernel_rfl) ?_
  refine blockQ_ret ?_
  refine seqQ_ret ?_
  obtain rfl := Option.some.inj h
  exact RetQ.ret (fl := [true, true]) (by kernel_rfl)
 ·refine cF ((t0.fOp == 2)) hb_1 ?_
  refine sN ?_
  refine rg0 hc 2 [(1, .ra 1 0), (2, .ra 2 0), (4, .ra 3 0), (26, .bool (t0.fOp == 3))] [(1, bTerm t0), (2, .box [I 0, I 0, .nils, .nils]), (3, bTerm e_1_2)] ?_
  refine seqQ_norm ?_
  rcases itesome h with ⟨hb_2, h⟩ | ⟨hb_2, h⟩
  ·refine cT ((t0.fOp == 3)) hb_2 ?_
   refine sN ?_
   refine sN ?_
   refine rg0 hc 3 [(1, .ra 1 0), (2, .ra 2 0), (30, .bool (e_1_2.fN == 0))] [(1, bTerm t0), (2, .box [I 0, I 0, .nils, .nils])] ?_
   refine seqQ_norm ?_
   rcases itesome h with ⟨hb_3, h⟩ | ⟨hb_3, h⟩
   ·refine cT ((e_1_2.fN == 0)) hb_3 ?_
    refine sN ?_
    obtain ⟨e_7_2, hi_7_2, h⟩ := bsome h
    obtain ⟨r_7_4, hr_7_4, h⟩ := bsome h
    refine rg hc none [oN, oN, some (.el (aTerm e_7_2)), oN, some (.call (qTerm r_7_4) [] 4), oN, oN] [(2, .ra 2 0), (3, .bool true)] [(2, .box [I r_7_4.fOp, I r_7_4.fN, .rs 4, .rs 5]), (4, .arr (List.map I r_7_4.fType)), (5, .arr (List.map GTerm_O r_7_4.fKids))] (ai (idx_sl (enc := GTerm_S) (x := aTerm e_7_2) hi_7_2 (eq_GTerm_S e_7_2)) (ai (spec_l2Shift_s _ _ hr_7_4) (ai bod_125 (ai (oi (qTerm r_7_4)) trivial)))) ?_
    refine seqQ_norm ?_
    refine Wp.retN (by kernel_rfl) ?_
    refine seqQ_ret ?_
    refine blockQ_ret ?_
    refine seqQ_ret ?_
    obtain rfl := Option.some.inj h
    exact RetQ.ret (fl := [true, true]) (by kernel_rfl)
   ·refine cF ((e_1_2.fN == 0)) hb_3 ?_
    refine Wp.skipN (by kernel_rfl) ?_
    refine seqQ_norm ?_
    refine sN ?_
    obtain ⟨e_8_2, hi_8_2, h⟩ := bsome h
    obtain ⟨r_8_4, hr_8_4, h⟩ := bsome h
    refine rg hc none [oN, oN, some (.el (aTerm e_8_2)), oN, some (.call (qTerm r_8_4) [] 6), oN, oN] [(2, .ra 2 0), (3, .bool true)] [(2, .box [I r_8_4.fOp, I r_8_4.fN, .rs 6, .rs 7]), (6, .arr (List.map I r_8_4.fType)), (7, .arr (List.map GTerm_O r_8_4.fKids))] (ai (idx_sl (enc := GTerm_S) (x := aTerm e_8_2) hi_8_2 (eq_GTerm_S e_8_2)) (ai (spec_l2Shift_s _ _ hr_8_4) (ai bod_125 (ai (oi (qTerm r_8_4)) trivial)))) ?_
    refine seqQ_norm ?_
    refine Wp.retN (by kernel_rfl) ?_
    refine blockQ_ret ?_
    refine seqQ_ret ?_
    obtain rfl := Option.some.inj h
    exact RetQ.ret (fl := [true, true]) (by kernel_rfl)
  ·refine cF ((t0.fOp == 3)) hb_2 ?_
   refine Wp.skipN (by kernel_rfl) ?_
   refine blockQ_norm ?_
   refine seqQ_norm ?_
   refine sN ?_
   obtain ⟨r_9_1, hr_9_1, h⟩ := bsome h
   refine rg hc none [oN, oc (aTerm r_9_1), some (.new 8), oN] [(1, .ra 1 0), (2, .ra 2 0), (4, .ra 3 0), (5, .ra 8 0)] [(1, bTerm t0), (2, .box [I 0, I 0, .nils, .nils]), (3, bTerm e_1_2), (8, bTerm r_9_1)] (ai (spec_l4Body_s _ _ hr_9_1) (ai bod_126 (ai (oi (aTerm r_9_1)) trivial))) ?_
   refine seqQ_norm ?_
   refine sN ?_
   refine sN ?_
   refine rg0 hc 3 [(1, .ra 1 0), (2, .ra 2 0), (4, .ra 3 0), (5, .ra 8 0), (45, .bool (t0.fOp == 5))] [(1, bTerm t0), (2, .box [I 0, I 0, .nils, .nils]), (3, bTerm e_1_2), (8, bTerm r_9_1)] ?_
   refine seqQ_norm ?_
   rcases itesome h with ⟨hb_4, h⟩ | ⟨hb_4, h⟩
   ·refine cT ((t0.fOp == 5)) hb_4 ?_
    refine sN ?_
    obtain ⟨r_11_1, hr_11_1, h⟩ := bsome h
    obtain ⟨r_11_3, hr_11_3, h⟩ := bsome h
    obtain ⟨e_11_6, hi_11_6, h⟩ := bsome h
    obtain ⟨r_11_8, hr_11_8, h⟩ := bsome h
    obtain ⟨r_11_13, hr_11_13, h⟩ := bsome h
    obtain ⟨e_11_16, hi_11_16, h⟩ := bsome h
    obtain ⟨r_11_18, hr_11_18, h⟩ := bsome h
    refine rg hc (rx [[0], [1], [0], [3], [0], [0, 4], [0, 4, 5], [0, 4, 5, 6], [8], [9], [10], [11], [0], [9, 12], [0], [0, 14], [0, 14, 15], [0, 14, 15, 16], [9, 12, 13, 14, 15, 16, 17], [9, 12, 13, 14, 15, 16, 17, 18], [9, 12, 13, 14, 15, 16, 17, 18, 19], [21], [22]]) [oN, oc (I r_11_1), oN, oc (I r_11_3), oN, oN, some (.el (aTerm e_11_6)), oN, oc (I r_11_8), oN, oN, oN, oN, oc (I r_11_13), oN, oN, some (.el (aTerm e_11_16)), oN, oc (I r_11_18), oN, oN, oN, oN] [(2, .ra 2 0), (4, .ra 3 0), (5, .ra 8 0), (6, I (wr ((wr (r_11_1 + (wr (r_11_3 * (wr (r_11_8 - 1)))))) + (wr (r_11_13 * (wr (r_11_18 - 1)))))))] [(2, .box [I 0, I 0, .nils, .nils]), (3, bTerm e_1_2), (8, bTerm r_9_1)] (ai (spec_l4Size_s _ _ hr_11_1) (ai bod_127 (ai (oi (I r_11_1)) (ai (spec_l2Uses_s _ _ hr_11_3) (ai bod_128 (ai (oi (I r_11_3)) (ai (idx_sl (enc := GTerm_S) (x := aTerm e_11_6) hi_11_6 (eq_GTerm_S e_11_6)) (ai (spec_l4Size_s _ _ hr_11_8) (ai bod_127 (ai (oi (I r_11_8)) (ai (spec_l2Uses_s _ _ hr_11_13) (ai bod_128 (ai (oi (I r_11_13)) (ai (idx_sl (enc := GTerm_S) (x := aTerm e_11_16) hi_11_16 (eq_GTerm_S e_11_16)) (ai (spec_l4Size_s _ _ hr_11_18) (ai bod_127 (ai (oi (I r_11_18)) trivial))))))))))))))))) ?_
    refine seqQ_norm ?_
    refine sN ?_
    refine sN ?_
    refine rg0 hc 2 [(2, .ra 2 0), (4, .ra 3 0), (5, .ra 8 0), (69, .bool (decide ((wr ((wr (r_11_1 + (wr (r_11_3 * (wr (r_11_8 - 1)))))) + (wr (r_11_13 * (wr (r_11_18 - 1)))))) > 400)))] [(2, .box [I 0, I 0, .nils, .nils]), (3, bTerm e_1_2), (8, bTerm r_9_1)] ?_
    refine seqQ_norm ?_
    rcases itesome h with ⟨hb_5, h⟩ | ⟨hb_5, h⟩
    ·refine cT ((decide ((wr ((wr (r_11_1 + (wr (r_11_3 * (wr (r_11_8 - 1)))))) + (wr (r_11_13 * (wr (r_11_18 - 1)))))) > 400))) hb_5 ?_
     refine sN ?_
     refine rg0 hc 3 [(2, .ra 2 0), (3, .bool false)] [(2, .box [I 0, I 0, .nils, .nils])] ?_
     refine seqQ_norm ?_
     refine Wp.retN (by kernel_rfl) ?_
     refine seqQ_ret ?_
     refine seqQ_ret ?_
     obtain rfl := Option.some.inj h
     exact RetQ.ret (fl := [true, true]) (by kernel_rfl)
    ·refine cF ((decide ((wr ((wr (r_11_1 + (wr (r_11_3 * (wr (r_11_8 - 1)))))) + (wr (r_11_13 * (wr (r_11_18 - 1)))))) > 400))) hb_5 ?_
     refine Wp.skipN (by kernel_rfl) ?_
     refine seqQ_norm ?_
     refine sN ?_
     obtain ⟨e_14_3, hi_14_3, h⟩ := bsome h
     obtain ⟨r_14_5, hr_14_5, h⟩ := bsome h
     obtain ⟨r_14_6, hr_14_6, h⟩ := bsome h
     obtain ⟨e_14_9, hi_14_9, h⟩ := bsome h
     obtain ⟨r_14_11, hr_14_11, h⟩ := bsome h
     refine rg hc (rx [[0], [0], [0, 1], [0, 1, 2], [0, 1, 2, 3], [0, 1, 2, 3, 4], [6], [0], [0, 7], [0, 7, 8], [0, 7, 8, 9], [11], [12], [13]]) [oN, oN, oN, some (.el (aTerm e_14_3)), oN, some (.call (qTerm r_14_5) [] 9), some (.call (qTerm r_14_6) [] 11), oN, oN, some (.el (aTerm e_14_9)), oN, some (.call (qTerm r_14_11) [] 13), oN, oN] [(2, .ra 2 0), (3, .bool true)] [(2, .box [I r_14_11.fOp, I r_14_11.fN, .rs 13, .rs 14]), (13, .arr (List.map I r_14_11.fType)), (14, .arr (List.map GTerm_O r_14_11.fKids))] (ai (idx_sl (enc := GTerm_S) (x := aTerm e_14_3) hi_14_3 (eq_GTerm_S e_14_3)) (ai (spec_l2Shift_s _ _ hr_14_5) (ai bod_125 (ai (oi (qTerm r_14_5)) (ai (FnSound.args (A1 := [aTerm r_9_1, I 0, hTerm r_14_5, I 0]) (A2 := [aTerm r_9_1, I 0, aTerm r_14_5, I 0]) (by simp only [sI, sB, aTerm, hTerm, List.map_nil, sh_GTerm_O, sh_I]) (spec_l2Put_s _ _ hr_14_6)) (ai bod_129 (ai (Or.inr (nsh_cons rfl (nsh_cons rfl (nsh_cons (nsh_row nsh_I r_14_6.fType) (nsh_cons (nsh_row nsh_GTerm_O r_14_6.fKids) rfl)))) : ([9, 10] : List Nat) = [] ∨ noSh (qTerm r_14_6) = true) (ai (idx_sl (enc := GTerm_S) (x := aTerm e_14_9) hi_14_9 (eq_GTerm_S e_14_9)) (ai (FnSound.args (A1 := [hTerm r_14_6, I 0, aTerm e_14_9, I 0]) (A2 := [aTerm r_14_6, I 0, aTerm e_14_9, I 0]) (by simp only [sI, sB, aTerm, hTerm, List.map_nil, sh_GTerm_O, sh_I]) (spec_l2Put_s _ _ hr_14_11)) (ai bod_129 (ai (Or.inr (nsh_cons rfl (nsh_cons rfl (nsh_cons (nsh_row nsh_I r_14_11.fType) (nsh_cons (nsh_row nsh_GTerm_O r_14_11.fKids) rfl)))) : ([11, 12] : List Nat) = [] ∨ noSh (qTerm r_14_11) = true) trivial))))))))))) ?_
     refine seqQ_norm ?_
     refine Wp.retN (by kernel_rfl) ?_
     refine seqQ_ret ?_
     obtain rfl := Option.some.inj h
     exact RetQ.ret (fl := [true, true]) (by kernel_rfl)
   ·refine cF ((t0.fOp == 5)) hb_4 ?_
    refine Wp.skipN (by kernel_rfl) ?_
    refine seqQ_norm ?_
    refine sN ?_
    refine rg hc none [oN, some (.new 15), oN] [(1, .ra 1 0), (2, .ra 2 0), (4, .ra 3 0), (5, .ra 8 0), (7, .ra 15 0)] [(1, bTerm t0), (2, .box [I 0, I 0, .nils, .nils]), (3, bTerm e_1_2), (8, bTerm r_9_1), (15, bTerm e_1_2)] trivial ?_
    refine seqQ_norm ?_
    refine sN ?_
    refine sN ?_
    refine rg0 hc 3 [(1, .ra 1 0), (2, .ra 2 0), (4, .ra 3 0), (5, .ra 8 0), (7, .ra 15 0), (86, .bool (t0.fOp == 10))] [(1, bTerm t0), (2, .box [I 0, I 0, .nils, .nils]), (3, bTerm e_1_2), (8, bTerm r_9_1), (15, bTerm e_1_2)] ?_
    refine seqQ_norm ?_
    obtain ⟨⟨arg_7, arg_8, arg_9, arg_10⟩, hj_11, h⟩ := bsome h
    refine Wp.into (x := .normal) (mkS [(2, .ra 2 0), (5, .ra 8 0), (7, .ra 15 0)] [(2, .box [I 0, I 0, .nils, .nils]), (8, bTerm r_9_1), (15, .box [I arg_7, I arg_8, sI arg_9, .sl (List.map GTerm_S arg_10)])]) ?_ ?_
    ·replace h := hj_11
     rcases itesome h with ⟨hb_6, h⟩ | ⟨hb_6, h⟩
     ·refine cT ((t0.fOp == 10)) hb_6 ?_
      obtain ⟨e_17_2, hi_17_2, h⟩ := bsome h
      refine rg hc none [oN, oN, some (.el (aTerm e_17_2)), oN, oN] [(2, .ra 2 0), (5, .ra 8 0), (7, .ra 15 0)] [(2, .box [I 0, I 0, .nils, .nils]), (8, bTerm r_9_1), (15, bTerm e_17_2)] (ai (idx_sl (enc := GTerm_S) (x := aTerm e_17_2) hi_17_2 (eq_GTerm_S e_17_2)) trivial) ?_
      obtain ⟨rfl, hq0⟩ := Prod.mk.inj (Option.some.inj h)
      obtain ⟨rfl, hq1⟩ := Prod.mk.inj (hq0)
      obtain ⟨rfl, rfl⟩ := Prod.mk.inj (hq1)
      exact Into.mk
     ·refine cF ((t0.fOp == 10)) hb_6 ?_
      obtain ⟨e_18_2, hi_18_2, h⟩ := bsome h
      refine rg hc none [oN, oN, some (.el (aTerm e_18_2)), oN, oN] [(2, .ra 2 0), (5, .ra 8 0), (7, .ra 15 0)] [(2, .box [I 0, I 0, .nils, .nils]), (8, bTerm r_9_1), (15, bTerm e_18_2)] (ai (idx_sl (enc := GTerm_S) (x := aTerm e_18_2) hi_18_2 (eq_GTerm_S e_18_2)) trivial) ?_
      obtain ⟨rfl, hq0⟩ := Prod.mk.inj (Option.some.inj h)
      obtain ⟨rfl, hq1⟩ := Prod.mk.inj (hq0)
      obtain ⟨rfl, rfl⟩ := Prod.mk.inj (hq1)
      exact Into.mk
    ·clear hj_11
     refine seqQ_norm ?_
     refine sN ?_
     refine sN ?_
     obtain ⟨r_19_1, hr_19_1, h⟩ := bsome h
     obtain ⟨r_19_3, hr_19_3, h⟩ := bsome h
     obtain ⟨r_19_5, hr_19_5, h⟩ := bsome h
     refine rg hc (rh [0, 1, 0, 3, 0, 5, 6, 7, 8, 9]) [oN, oc (I r_19_1), oN, oc (I r_19_3), oN, oc (I r_19_5), oN, oN, oN, oN] [(2, .ra 2 0), (5, .ra 8 0), (7, .ra 15 0), (104, .bool (decide ((wr (r_19_1 + (wr (r_19_3 * (wr (r_19_5 - 1)))))) > 400)))] [(2, .box [I 0, I 0, .nils, .nils]), (8, bTerm r_9_1), (15, .box [I arg_7, I arg_8, sI arg_9, .sl (List.map GTerm_S arg_10)])] (ai (spec_l4Size_s _ _ hr_19_1) (ai bod_127 (ai (oi (I r_19_1)) (ai (spec_l2Uses_s _ _ hr_19_3) (ai bod_128 (ai (oi (I r_19_3)) (ai (spec_l4Size_s _ _ hr_19_5) (ai bod_127 (ai (oi (I r_19_5)) trivial))))))))) ?_
     refine seqQ_norm ?_
     rcases itesome h with ⟨hb_12, h⟩ | ⟨hb_12, h⟩
     ·refine cT ((decide ((wr (r_19_1 + (wr (r_19_3 * (wr (r_19_5 - 1)))))) > 400))) hb_12 ?_
      refine sN ?_
      refine rg0 hc 3 [(2, .ra 2 0), (3, .bool false)] [(2, .box [I 0, I 0, .nils, .nils])] ?_
      refine seqQ_norm ?_
      refine Wp.retN (by kernel_rfl) ?_
      refine seqQ_ret ?_
      obtain rfl := Option.some.inj h
      exact RetQ.ret (fl := [true, true]) (by kernel_rfl)
     ·refine cF ((decide ((wr (r_19_1 + (wr (r_19_3 * (wr (r_19_5 - 1)))))) > 400))) hb_12 ?_
      refine Wp.skipN (by kernel_rfl) ?_
      refine seqQ_norm ?_
      refine sN ?_
      obtain ⟨r_21_2, hr_21_2, h⟩ := bsome h
      refine rg hc none [oN, oN, some (.call (qTerm r_21_2) [] 16), oN, oN] [(2, .ra 2 0), (3, .bool true)] [(2, .box [I r_21_2.fOp, I r_21_2.fN, .rs 16, .rs 17]), (16, .arr (List.map I r_21_2.fType)), (17, .arr (List.map GTerm_O r_21_2.fKids))] (ai (spec_l2Put_s _ _ hr_21_2) (ai bod_129 (ai (oi (qTerm r_21_2)) trivial))) ?_
      refine seqQ_norm ?_
      refine Wp.retN (by kernel_rfl) ?_
      obtain rfl := Option.some.inj h
      exact RetQ.ret (fl := [true, true]) (by kernel_rfl)
def spec_Contract (t0 : GTerm) : Option (GTerm × Bool) :=
  (spec_IsRedex t0) >>= fun r_1_1 =>
  if r_1_1 = true then
   (spec_l4Contracted t0) >>= fun (r_3_1_0, r_3_1_1) =>
   some (r_3_1_0, r_3_1_1)
  else
   some ((GTerm.mk 0 0 [] []), false)
def M_spec_Contract (t0 : GTerm) (r : GTerm × Bool) : Prop :=
 FnSound Try.prog 33 [aTerm t0] (.tup [.agg [I r.1.fOp, I r.1.fN, .osl (List.map I r.1.fType), .osl (List.map GTerm_O r.1.fKids)], .bool r.2]) []
theorem spec_Contract_s : ∀ p r, spec_Contract p = some r → M_spec_Contract p r := by
 rintro t0 r h
 unfold spec_Contract at h
 show FnSound Try.prog 33 [aTerm t0] (.tup [.agg [I r.1.fOp, I r.1.fN, .osl (List.map I r.1.fType), .osl (List.map GTerm_O r.1.fKids)], .bool r.2]) []
 refine FnSound.body0 tiok (fn := Try.f33) (code := B33) (by kernel_rfl) (by kernel_rfl) (by kernel_rfl) (by kernel_rfl) (nt := 12) (by kernel_rfl) (by kernel_rfl) (T := [(0, aTerm t0)]) (O := []) (by kernel_rfl) (by kernel_rfl) (fun c hc => ?_)
 refine sN ?_
 refine rg hc none [some (.new 1), some (.new 2), oN] [(1, .ra 1 0), (2, .ra 2 0)] [(1, bTerm t0), (2, .box [I 0, I 0, .nils, .nils])] trivial ?_
 refine seqQ_norm ?_
 refine sN ?_
 refine sN ?_
 obtain ⟨r_1_1, hr_1_1, h⟩ := bsome h
 refine rg hc none [oN, oc (.bool r_1_1), oN] [(1, .ra 1 0), (2, .ra 2 0), (6, .bool (!r_1_1))] [(1, bTerm t0), (2, .box [I 0, I 0, .nils, .nils])] (ai (spec_IsRedex_s _ _ hr_1_1) (ai bod_79 (ai (oi (.bool r_1_1)) trivial))) ?_
 refine seqQ_norm ?_
 rcases itesome h with ⟨hb_1, h⟩ | ⟨hb_1, h⟩
 ·refine cF (!r_1_1) (nF hb_1) ?_
  refine Wp.skipN (by kernel_rfl) ?_
  refine seqQ_norm ?_
  refine sN ?_
  obtain ⟨⟨r_3_1_0, r_3_1_1⟩, hr_3_1, h⟩ := bsome h
  refine rg hc none [oN, some (.call (.tup [qTerm r_3_1_0, .bool r_3_1_1]) [] 3), oN, oN, oN, oN] [(2, .ra 2 0), (3, .bool r_3_1_1)] [(2, .box [I r_3_1_0.fOp, I r_3_1_0.fN, .rs 3, .rs 4]), (3, .arr (List.map I r_3_1_0.fType)), (4, .arr (List.map GTerm_O r_3_1_0.fKids))] (ai (spec_l4Contracted_s _ _ hr_3_1) (ai bod_80 (ai (oi (.tup [qTerm r_3_1_0, .bool r_3_1_1])) trivial))) ?_
  refine seqQ_norm ?_
  refine Wp.retN (by kernel_rfl) ?_
  obtain rfl := Option.some.inj h
  exact RetQ.ret (fl := [true, true]) (by kernel_rfl)
 ·refine cT (!r_1_1) (nT hb_1) ?_
  refine sN ?_
  refine rg0 hc 3 [(2, .ra 2 0), (3, .bool false)] [(2, .box [I 0, I 0, .nils, .nils])] ?_
  refine seqQ_norm ?_
  refine Wp.retN (by kernel_rfl) ?_
  refine seqQ_ret ?_
  obtain rfl := Option.some.inj h
  exact RetQ.ret (fl := [true, true]) (by kernel_rfl)
def impl_within (p : Int × Int × Int) : Option (Bool) :=
 match p with
 | (n0, low1, high2) =>
  (
   if (decide (n0 ≥ low1)) = true then
    some ((decide (n0 ≤ high2)))
   else
    some (false)
  ) >>= fun v_1 =>
  some v_1
def M_impl_within (p : Int × Int × Int) (r : Bool) : Prop :=
 match p with
 | (n0, low1, high2) => FnSound Try.prog 64 [I n0, I low1, I high2] (.bool r) []
theorem impl_within_s : ∀ p r, impl_within p = some r → M_impl_within p r := by
 rintro ⟨n0, low1, high2⟩ r h
 unfold impl_within at h
 show FnSound Try.prog 64 [I n0, I low1, I high2] (.bool r) []
 refine FnSound.body0 tiok (fn := Try.f64) (code := B64) (by kernel_rfl) (by kernel_rfl) (by kernel_rfl) (by kernel_rfl) (nt := 15) (by kernel_rfl) (by kernel_rfl) (T := [(0, I n0), (1, I low1), (2, I high2)]) (O := []) (by kernel_rfl) (by kernel_rfl) (fun c hc => ?_)
 refine sN ?_
 refine rg0 hc 1 [(0, I n0), (1, I low1), (2, I high2)] [] ?_
 refine seqQ_norm ?_
 refine sN ?_
 obtain ⟨v_1, hj_2, h⟩ := bsome h
 refine Wp.into (x := .normal) (mkS [(6, .bool v_1)] []) ?_ ?_
 ·replace h := hj_2
  rcases itesome h with ⟨hb_1_0, h⟩ | ⟨hb_1_0, h⟩
  ·refine rg hc none [oN, oN, oN, oN, oN, oN, oN, oT, oN] [(6, .bool (decide (n0 ≤ high2)))] [] (ar 4 hb_1_0 trivial) ?_
   obtain rfl := Option.some.inj h
   exact Into.mk
  ·refine rg hc none [oN, oN, oN, oN, o_, o_, o_, oF, oN] [(6, .bool false)] [] (ar 3 (neT hb_1_0) (ai hb_1_0 trivial)) ?_
   obtain rfl := Option.some.inj h
   exact Into.mk
 ·clear hj_2
  refine seqQ_norm ?_
  refine Wp.retN (by kernel_rfl) ?_
  obtain rfl := Option.some.inj h
  exact RetQ.ret (fl := [true]) (by kernel_rfl)
def impl_formOf (op0 : Int) : Option (GForm × Bool) :=
  (impl_within (op0, 0, 12)) >>= fun r_1_1 =>
  if r_1_1 = true then
   (idx [(GForm.mk (ByteArray.mk #[120]) 0 false false), (GForm.mk ByteArray.empty 0 false false), (GForm.mk (ByteArray.mk #[97, 100, 100]) 2 false false), (GForm.mk (ByteArray.mk #[105, 102]) 3 false false), (GForm.mk (ByteArray.mk #[112, 97, 105, 114]) 2 false false), (GForm.mk (ByteArray.mk #[115, 112, 108, 105, 116]) 2 true false), (GForm.mk (ByteArray.mk #[108, 101, 102, 116]) 1 false true), (GForm.mk (ByteArray.mk #[114, 105, 103, 104, 116]) 1 false true), (GForm.mk (ByteArray.mk #[99, 97, 115, 101]) 3 true false), (GForm.mk (ByteArray.mk #[102, 117, 110]) 1 true true), (GForm.mk (ByteArray.mk #[97, 112, 112]) 2 false false), (GForm.mk (ByteArray.mk #[98, 111, 120]) 1 true false), (GForm.mk (ByteArray.mk #[111, 112, 101, 110]) 2 true false)] op0) >>= fun e_3_15 =>
   some (e_3_15, true)
  else
   some ((GForm.mk ByteArray.empty 0 false false), false)
def M_impl_formOf (op0 : Int) (r : GForm × Bool) : Prop :=
 FnSound Try.prog 111 [I op0] (.tup [.agg [.str r.1.fword, I r.1.fkids, .bool r.1.fgrade, .bool r.1.ftyped], .bool r.2]) []
theorem impl_formOf_s : ∀ p r, impl_formOf p = some r → M_impl_formOf p r := by
 rintro op0 r h
 unfold impl_formOf at h
 show FnSound Try.prog 111 [I op0] (.tup [.agg [.str r.1.fword, I r.1.fkids, .bool r.1.fgrade, .bool r.1.ftyped], .bool r.2]) []
 refine FnSound.body0 tiok (fn := Try.f111) (code := B111) (by kernel_rfl) (by kernel_rfl) (by kernel_rfl) (by kernel_rfl) (nt := 25) (by kernel_rfl) (by kernel_rfl) (T := [(0, I op0)]) (O := []) (by kernel_rfl) (by kernel_rfl) (fun c hc => ?_)
 refine sN ?_
 refine rg hc none [some (.new 1), oN] [(0, I op0), (2, .ra 1 0)] [(1, .box [.str ByteArray.empty, I 0, .bool false, .bool false])] trivial ?_
 refine seqQ_norm ?_
 refine sN ?_
 refine sN ?_
 obtain ⟨r_1_1, hr_1_1, h⟩ := bsome h
 refine rg hc none [oN, oc (.bool r_1_1), oN] [(0, I op0), (2, .ra 1 0), (6, .bool (!r_1_1))] [(1, .box [.str ByteArray.empty, I 0, .bool false, .bool false])] (ai (impl_within_s _ _ hr_1_1) (ai bod_64 (ai (oi (.bool r_1_1)) trivial))) ?_
 refine seqQ_norm ?_
 rcases itesome h with ⟨hb_1, h⟩ | ⟨hb_1, h⟩
 ·refine cF (!r_1_1) (nF hb_1) ?_
  refine Wp.skipN (by kernel_rfl) ?_
  refine seqQ_norm ?_
  refine sN ?_
  obtain ⟨e_3_15, hi_3_15, h⟩ := bsome h
  refine rg hc none [oN, oN, oN, oN, oN, oN, oN, oN, oN, oN, oN, oN, oN, some (.mk 2 true), oN, oN, some (.el (.agg [.str e_3_15.fword, I e_3_15.fkids, .bool e_3_15.fgrade, .bool e_3_15.ftyped])), oN, oN] [(2, .ra 1 0), (3, .bool true)] [(1, .box [.str e_3_15.fword, I e_3_15.fkids, .bool e_3_15.fgrade, .bool e_3_15.ftyped])] (ai (idx_own (enc := GForm_v) hi_3_15) (ai (idx_sl (enc := GForm_v) (x := .agg [.str e_3_15.fword, I e_3_15.fkids, .bool e_3_15.fgrade, .bool e_3_15.ftyped]) hi_3_15 (eq_GForm_v e_3_15)).2 trivial)) ?_
  refine seqQ_norm ?_
  refine Wp.retN (by kernel_rfl) ?_
  obtain rfl := Option.some.inj h
  exact RetQ.ret (fl := [true, true]) (by kernel_rfl)
 ·refine cT (!r_1_1) (nT hb_1) ?_
  refine sN ?_
  refine rg0 hc 3 [(2, .ra 1 0), (3, .bool false)] [(1, .box [.str ByteArray.empty, I 0, .bool false, .bool false])] ?_
  refine seqQ_norm ?_
  refine Wp.retN (by kernel_rfl) ?_
  refine seqQ_ret ?_
  obtain rfl := Option.some.inj h
  exact RetQ.ret (fl := [true, true]) (by kernel_rfl)
def impl_writtenSize_c1 (g0 : Int) : Option (Bool) :=
  (impl_within (g0, (-1), 15)) >>= fun r_1_1 =>
  some r_1_1
def M_impl_writtenSize_c1 (g0 : Int) (r : Bool) : Prop :=
 FnSound Try.prog 152 [I g0] (.bool r) []
theorem impl_writtenSize_c1_s : ∀ p r, impl_writtenSize_c1 p = some r → M_impl_writtenSize_c1 p r := by
 rintro g0 r h
 unfold impl_writtenSize_c1 at h
 show FnSound Try.prog 152 [I g0] (.bool r) []
 refine FnSound.body0 tiok (fn := Try.f152) (code := B152) (by kernel_rfl) (by kernel_rfl) (by kernel_rfl) (by kernel_rfl) (nt := 5) (by kernel_rfl) (by kernel_rfl) (T := [(0, I g0)]) (O := []) (by kernel_rfl) (by kernel_rfl) (fun c hc => ?_)
 refine sN ?_
 refine rg0 hc 1 [(0, I g0)] [] ?_
 refine seqQ_norm ?_
 refine sN ?_
 obtain ⟨r_1_1, hr_1_1, h⟩ := bsome h
 refine rg hc none [oN, oc (.bool r_1_1), oN] [(2, .bool r_1_1)] [] (ai (impl_within_s _ _ hr_1_1) (ai bod_64 (ai (oi (.bool r_1_1)) trivial))) ?_
 refine seqQ_norm ?_
 refine Wp.retN (by kernel_rfl) ?_
 obtain rfl := Option.some.inj h
 exact RetQ.ret (fl := [true]) (by kernel_rfl)
def impl_shape (code0 : Int) : Option (Int × Int) :=
  (impl_within (code0, 0, 2)) >>= fun r_1_1 =>
  if r_1_1 = true then
   some (code0, (-1))
  else
   (impl_within (code0, 3, 18)) >>= fun r_3_1 =>
   if r_3_1 = true then
    some (3, (wr (code0 - 3)))
   else
    (impl_within (code0, 19, 34)) >>= fun r_5_1 =>
    if r_5_1 = true then
     some (4, (wr (code0 - 19)))
    else
     if (code0 == 35) = true then
      some (3, (-1))
     else
      if (code0 == 36) = true then
       some (4, (-1))
      else
       some (5, (-1))
def M_impl_shape (code0 : Int) (r : Int × Int) : Prop :=
 FnSound Try.prog 103 [I code0] (.tup [I r.1, I r.2]) []
theorem impl_shape_s : ∀ p r, impl_shape p = some r → M_impl_shape p r := by
 rintro code0 r h
 unfold impl_shape at h
 show FnSound Try.prog 103 [I code0] (.tup [I r.1, I r.2]) []
 refine FnSound.body0 tiok (fn := Try.f103) (code := B103) (by kernel_rfl) (by kernel_rfl) (by kernel_rfl) (by kernel_rfl) (nt := 24) (by kernel_rfl) (by kernel_rfl) (T := [(0, I code0)]) (O := []) (by kernel_rfl) (by kernel_rfl) (fun c hc => ?_)
 refine sN ?_
 refine rg0 hc 2 [(0, I code0)] [] ?_
 refine seqQ_norm ?_
 refine sN ?_
 refine Wp.blockN (i := 0) (by kernel_rfl) ?_
 refine sN ?_
 obtain ⟨r_1_1, hr_1_1, h⟩ := bsome h
 refine rg hc none [oN, oc (.bool r_1_1), oN] [(0, I code0), (4, .bool r_1_1)] [] (ai (impl_within_s _ _ hr_1_1) (ai bod_64 (ai (oi (.bool r_1_1)) trivial))) ?_
 refine seqQ_norm ?_
 rcases itesome h with ⟨hb_1, h⟩ | ⟨hb_1, h⟩
 ·refine cT r_1_1 hb_1 ?_
  refine sN ?_
  refine rg0 hc 3 [(2, I code0), (3, I (-1))] [] ?_
  refine seqQ_norm ?_
  refine Wp.retN (by kernel_rfl) ?_
  refine blockQ_ret ?_
  refine seqQ_ret ?_
  obtain rfl := Option.some.inj h
  exact RetQ.ret (fl := [true, true]) (by kernel_rfl)
 ·refine cF r_1_1 hb_1 ?_
  refine sN ?_
  obtain ⟨r_3_1, hr_3_1, h⟩ := bsome h
  refine rg hc none [oN, oc (.bool r_3_1), oN] [(0, I code0), (8, .bool r_3_1)] [] (ai (impl_within_s _ _ hr_3_1) (ai bod_64 (ai (oi (.bool r_3_1)) trivial))) ?_
  refine seqQ_norm ?_
  rcases itesome h with ⟨hb_2, h⟩ | ⟨hb_2, h⟩
  ·refine cT r_3_1 hb_2 ?_
   refine sN ?_
   refine rg0 hc 4 [(2, I 3), (3, I (wr (code0 - 3)))] [] ?_
   refine seqQ_norm ?_
   refine Wp.retN (by kernel_rfl) ?_
   refine blockQ_ret ?_
   refine seqQ_ret ?_
   obtain rfl := Option.some.inj h
   exact RetQ.ret (fl := [true, true]) (by kernel_rfl)
  ·refine cF r_3_1 hb_2 ?_
   refine sN ?_
   obtain ⟨r_5_1, hr_5_1, h⟩ := bsome h
   refine rg hc none [oN, oc (.bool r_5_1), oN] [(0, I code0), (13, .bool r_5_1)] [] (ai (impl_within_s _ _ hr_5_1) (ai bod_64 (ai (oi (.bool r_5_1)) trivial))) ?_
   refine seqQ_norm ?_
   rcases itesome h with ⟨hb_3, h⟩ | ⟨hb_3, h⟩
   ·refine cT r_5_1 hb_3 ?_
    refine sN ?_
    refine rg0 hc 4 [(2, I 4), (3, I (wr (code0 - 19)))] [] ?_
    refine seqQ_norm ?_
    refine Wp.retN (by kernel_rfl) ?_
    refine blockQ_ret ?_
    refine seqQ_ret ?_
    obtain rfl := Option.some.inj h
    exact RetQ.ret (fl := [true, true]) (by kernel_rfl)
   ·refine cF r_5_1 hb_3 ?_
    refine sN ?_
    refine rg0 hc 3 [(0, I code0), (18, .bool (code0 == 35))] [] ?_
    refine seqQ_norm ?_
    rcases itesome h with ⟨hb_4, h⟩ | ⟨hb_4, h⟩
    ·refine cT ((code0 == 35)) hb_4 ?_
     refine sN ?_
     refine rg0 hc 2 [(2, I 3), (3, I (-1))] [] ?_
     refine seqQ_norm ?_
     refine Wp.retN (by kernel_rfl) ?_
     refine blockQ_ret ?_
     refine seqQ_ret ?_
     obtain rfl := Option.some.inj h
     exact RetQ.ret (fl := [true, true]) (by kernel_rfl)
    ·refine cF ((code0 == 35)) hb_4 ?_
     refine sN ?_
     refine rg0 hc 3 [(21, .bool (code0 == 36))] [] ?_
     refine seqQ_norm ?_
     rcases itesome h with ⟨hb_5, h⟩ | ⟨hb_5, h⟩
     ·refine cT ((code0 == 36)) hb_5 ?_
      refine sN ?_
      refine rg0 hc 2 [(2, I 4), (3, I (-1))] [] ?_
      refine seqQ_norm ?_
      refine Wp.retN (by kernel_rfl) ?_
      refine blockQ_ret ?_
      refine seqQ_ret ?_
      obtain rfl := Option.some.inj h
      exact RetQ.ret (fl := [true, true]) (by kernel_rfl)
     ·refine cF ((code0 == 36)) hb_5 ?_
      refine Wp.skipN (by kernel_rfl) ?_
      refine blockQ_norm ?_
      refine seqQ_norm ?_
      refine sN ?_
      refine rg0 hc 2 [(2, I 5), (3, I (-1))] [] ?_
      refine seqQ_norm ?_
      refine Wp.retN (by kernel_rfl) ?_
      obtain rfl := Option.some.inj h
      exact RetQ.ret (fl := [true, true]) (by kernel_rfl)
def impl_typeEnd (p : (List Int) × Int) : Option (Int) :=
 match p with
 | (ty0, at1) =>
  (
   if (decide (at1 < 0)) = true then
    some (true)
   else
    some ((decide (at1 ≥ (ty0.length : Int))))
  ) >>= fun v_1 =>
  if v_1 = true then
   some (-1)
  else
   (idx ty0 at1) >>= fun e_3_2 =>
   (impl_shape e_3_2) >>= fun (r_3_4_0, r_3_4_1) =>
   if (r_3_4_0 == 0) = true then
    some (wr (at1 + 1))
   else
    if (r_3_4_0 == 4) = true then
     (impl_typeEnd (ty0, (wr (at1 + 1)))) >>= fun r_8_3 =>
     some r_8_3
    else
     if (r_3_4_0 == 5) = true then
      some (-1)
     else
      (impl_typeEnd (ty0, (wr (at1 + 1)))) >>= fun r_11_4 =>
      (impl_typeEnd (ty0, r_11_4)) >>= fun r_11_5 =>
      some r_11_5
 partial_fixpoint
def M_impl_typeEnd (p : (List Int) × Int) (r : Int) : Prop :=
 match p with
 | (ty0, at1) => FnSound Try.prog 151 [sI ty0, I at1] (I r) []
theorem impl_typeEnd_s : ∀ p r, impl_typeEnd p = some r → M_impl_typeEnd p r := by
 refine impl_typeEnd.partial_correctness M_impl_typeEnd ?_
 rintro impl_typeEnd_f impl_typeEnd_ih ⟨ty0, at1⟩ r h
 show FnSound Try.prog 151 [sI ty0, I at1] (I r) []
 refine FnSound.body0 tiok (fn := Try.f151) (code := B151) (by kernel_rfl) (by kernel_rfl) (by kernel_rfl) (by kernel_rfl) (nt := 42) (by kernel_rfl) (by kernel_rfl) (T := [(0, sI ty0), (1, I at1)]) (O := []) (by kernel_rfl) (by kernel_rfl) (fun c hc => ?_)
 refine sN ?_
 refine rg0 hc 1 [(0, sI ty0), (1, I at1)] [] ?_
 refine seqQ_norm ?_
 refine sN ?_
 refine sN ?_
 obtain ⟨v_1, hj_2, h⟩ := bsome h
 refine Wp.into (x := .normal) (mkS [(0, sI ty0), (1, I at1), (14, .bool v_1)] []) ?_ ?_
 ·replace h := hj_2
  rcases itesome h with ⟨hb_1_0, h⟩ | ⟨hb_1_0, h⟩
  ·refine rg hc none [oN, oN, oN, o_, o_, o_, o_, oT] [(0, sI ty0), (1, I at1), (14, .bool true)] [] (ar 4 (neF hb_1_0) (ai hb_1_0 trivial)) ?_
   obtain rfl := Option.some.inj h
   exact Into.mk
  ·refine rg hc none [oN, oN, oN, oN, oN, some (.eqv (.no) ⟨[(12, I (ty0.length : Int))], [], []⟩), oN, oF] [(0, sI ty0), (1, I at1), (14, .bool (decide (at1 ≥ (ty0.length : Int))))] [] (ar 3 hb_1_0 (ai (lenT (d := 12) I ty0) (ar 2 hb_1_0 trivial))) ?_
   obtain rfl := Option.some.inj h
   exact Into.mk
 ·clear hj_2
  refine seqQ_norm ?_
  rcases itesome h with ⟨hb_3, h⟩ | ⟨hb_3, h⟩
  ·refine cT v_1 hb_3 ?_
   refine sN ?_
   refine rg0 hc 1 [(4, I (-1))] [] ?_
   refine seqQ_norm ?_
   refine Wp.retN (by kernel_rfl) ?_
   refine seqQ_ret ?_
   obtain rfl := Option.some.inj h
   exact RetQ.ret (fl := [true]) (by kernel_rfl)
  ·refine cF v_1 hb_3 ?_
   refine Wp.skipN (by kernel_rfl) ?_
   refine seqQ_norm ?_
   refine sN ?_
   obtain ⟨e_3_2, hi_3_2, h⟩ := bsome h
   obtain ⟨⟨r_3_4_0, r_3_4_1⟩, hr_3_4, h⟩ := bsome h
   refine rg hc none [oN, oN, some (.el (I e_3_2)), oN, oc (.tup [I r_3_4_0, I r_3_4_1]), oN, oN, oN, oN, oN] [(0, sI ty0), (1, I at1), (5, I r_3_4_0)] [] (ai (ix hi_3_2) (ai (impl_shape_s _ _ hr_3_4) (ai bod_103 (ai (oi (.tup [I r_3_4_0, I r_3_4_1])) trivial)))) ?_
   refine seqQ_norm ?_
   refine sN ?_
   refine sN ?_
   refine rg0 hc 1 [(0, sI ty0), (1, I at1), (23, I r_3_4_0)] [] ?_
   refine seqQ_norm ?_
   refine Wp.blockN (i := 0) (by kernel_rfl) ?_
   refine sN ?_
   refine rg0 hc 2 [(0, sI ty0), (1, I at1), (23, I r_3_4_0), (24, .bool (r_3_4_0 == 0))] [] ?_
   refine seqQ_norm ?_
   rcases itesome h with ⟨hb_4, h⟩ | ⟨hb_4, h⟩
   ·refine cT ((r_3_4_0 == 0)) hb_4 ?_
    refine sN ?_
    refine rg0 hc 3 [(4, I (wr (at1 + 1)))] [] ?_
    refine seqQ_norm ?_
    refine Wp.retN (by kernel_rfl) ?_
    refine blockQ_ret ?_
    refine seqQ_ret ?_
    obtain rfl := Option.some.inj h
    exact RetQ.ret (fl := [true]) (by kernel_rfl)
   ·refine cF ((r_3_4_0 == 0)) hb_4 ?_
    refine sN ?_
    refine rg0 hc 2 [(0, sI ty0), (1, I at1), (23, I r_3_4_0), (28, .bool (r_3_4_0 == 4))] [] ?_
    refine seqQ_norm ?_
    rcases itesome h with ⟨hb_5, h⟩ | ⟨hb_5, h⟩
    ·refine cT ((r_3_4_0 == 4)) hb_5 ?_
     refine sN ?_
     obtain ⟨r_8_3, hr_8_3, h⟩ := bsome h
     refine rg hc none [oN, oN, oN, oc (I r_8_3), oN] [(4, I r_8_3)] [] (ai (impl_typeEnd_ih _ _ hr_8_3) (ai bod_151 (ai (oi (I r_8_3)) trivial))) ?_
     refine seqQ_norm ?_
     refine Wp.retN (by kernel_rfl) ?_
     refine blockQ_ret ?_
     refine seqQ_ret ?_
     obtain rfl := Option.some.inj h
     exact RetQ.ret (fl := [true]) (by kernel_rfl)
    ·refine cF ((r_3_4_0 == 4)) hb_5 ?_
     refine sN ?_
     refine rg0 hc 2 [(0, sI ty0), (1, I at1), (34, .bool (r_3_4_0 == 5))] [] ?_
     refine seqQ_norm ?_
     rcases itesome h with ⟨hb_6, h⟩ | ⟨hb_6, h⟩
     ·refine cT ((r_3_4_0 == 5)) hb_6 ?_
      refine sN ?_
      refine rg0 hc 1 [(4, I (-1))] [] ?_
      refine seqQ_norm ?_
      refine Wp.retN (by kernel_rfl) ?_
      refine blockQ_ret ?_
      refine seqQ_ret ?_
      obtain rfl := Option.some.inj h
      exact RetQ.ret (fl := [true]) (by kernel_rfl)
     ·refine cF ((r_3_4_0 == 5)) hb_6 ?_
      refine Wp.skipN (by kernel_rfl) ?_
      refine blockQ_norm ?_
      refine seqQ_norm ?_
      refine sN ?_
      obtain ⟨r_11_4, hr_11_4, h⟩ := bsome h
      obtain ⟨r_11_5, hr_11_5, h⟩ := bsome h
      refine rg hc none [oN, oN, oN, oN, oc (I r_11_4), oc (I r_11_5), oN] [(4, I r_11_5)] [] (ai (impl_typeEnd_ih _ _ hr_11_4) (ai bod_151 (ai (oi (I r_11_4)) (ai (impl_typeEnd_ih _ _ hr_11_5) (ai bod_151 (ai (oi (I r_11_5)) trivial)))))) ?_
      refine seqQ_norm ?_
      refine Wp.retN (by kernel_rfl) ?_
      obtain rfl := Option.some.inj h
      exact RetQ.ret (fl := [true]) (by kernel_rfl)
def impl_isWrittenType (ty0 : (List Int)) : Option (Bool) :=
  (
   (impl_within ((ty0.length : Int), 1, 40)) >>= fun r_1_2 =>
   if r_1_2 = true then
    (impl_typeEnd (ty0, 0)) >>= fun r_1_5 =>
    some ((r_1_5 == (ty0.length : Int)))
   else
    some (false)
  ) >>= fun v_1 =>
  some v_1
def M_impl_isWrittenType (ty0 : (List Int)) (r : Bool) : Prop :=
 FnSound Try.prog 150 [sI ty0] (.bool r) []
theorem impl_isWrittenType_s : ∀ p r, impl_isWrittenType p = some r → M_impl_isWrittenType p r := by
 rintro ty0 r h
 unfold impl_isWrittenType at h
 show FnSound Try.prog 150 [sI ty0] (.bool r) []
 refine FnSound.body0 tiok (fn := Try.f150) (code := B150) (by kernel_rfl) (by kernel_rfl) (by kernel_rfl) (by kernel_rfl) (nt := 13) (by kernel_rfl) (by kernel_rfl) (T := [(0, sI ty0)]) (O := []) (by kernel_rfl) (by kernel_rfl) (fun c hc => ?_)
 refine sN ?_
 refine rg0 hc 1 [(0, sI ty0)] [] ?_
 refine seqQ_norm ?_
 refine sN ?_
 obtain ⟨v_1, hj_2, h⟩ := bsome h
 refine Wp.into (x := .normal) (mkS [(2, .bool v_1)] []) ?_ ?_
 ·replace h := hj_2
  obtain ⟨r_1_2, hr_1_2, h⟩ := bsome h
  rcases itesome h with ⟨hb_1_0, h⟩ | ⟨hb_1_0, h⟩
  ·obtain ⟨r_1_5, hr_1_5, h⟩ := bsome h
   refine rg hc none [oN, some (.eqv (.no) ⟨[(4, I (ty0.length : Int))], [], []⟩), oc (.bool r_1_2), oN, oN, oc (I r_1_5), oN, some (.eqv (.no) ⟨[(10, I (ty0.length : Int))], [], []⟩), oN, oT, oN] [(2, .bool (r_1_5 == (ty0.length : Int)))] [] (ai (lenT (d := 4) I ty0) (ai (impl_within_s _ _ hr_1_2) (ai bod_64 (ai (oi (.bool r_1_2)) (ar 2 hb_1_0 (ai (impl_typeEnd_s _ _ hr_1_5) (ai bod_151 (ai (oi (I r_1_5)) (ar 2 hb_1_0 (ai (lenT (d := 10) I ty0) (ar 2 hb_1_0 trivial))))))))))) ?_
   obtain rfl := Option.some.inj h
   exact Into.mk
  ·refine rg hc none [oN, some (.eqv (.no) ⟨[(4, I (ty0.length : Int))], [], []⟩), oc (.bool r_1_2), oN, o_, o_, o_, o_, o_, oF, oN] [(2, .bool false)] [] (ai (lenT (d := 4) I ty0) (ai (impl_within_s _ _ hr_1_2) (ai bod_64 (ai (oi (.bool r_1_2)) (ar 5 (neT hb_1_0) (ai hb_1_0 trivial)))))) ?_
   obtain rfl := Option.some.inj h
   exact Into.mk
 ·clear hj_2
  refine seqQ_norm ?_
  refine Wp.retN (by kernel_rfl) ?_
  obtain rfl := Option.some.inj h
  exact RetQ.ret (fl := [true]) (by kernel_rfl)
def impl_adds (p : Int × Int) : Option (Int) :=
 match p with
 | (op0, kid1) =>
  (
   if (op0 == 5) = true then
    some ((kid1 == 1))
   else
    some (false)
  ) >>= fun v_1 =>
  if v_1 = true then
   some 2
  else
   (
    if (op0 == 8) = true then
     some ((decide (kid1 > 0)))
    else
     some (false)
   ) >>= fun v_4 =>
   (
    if v_4 = true then
     some (v_4)
    else
     (
      if (op0 == 9) = true then
       some ((op0 == 9))
      else
       (
        if (op0 == 12) = true then
         some ((kid1 == 1))
        else
         some (false)
       ) >>= fun v_8 =>
       some (v_8)
     ) >>= fun j_10 =>
     some (j_10)
   ) >>= fun j_12 =>
   if j_12 = true then
    some 1
   else
    some 0
def M_impl_adds (p : Int × Int) (r : Int) : Prop :=
 match p with
 | (op0, kid1) => FnSound Try.prog 165 [I op0, I kid1] (I r) []
theorem impl_adds_s : ∀ p r, impl_adds p = some r → M_impl_adds p r := by
 rintro ⟨op0, kid1⟩ r h
 unfold impl_adds at h
 show FnSound Try.prog 165 [I op0, I kid1] (I r) []
 refine FnSound.body0 tiok (fn := Try.f165) (code := B165) (by kernel_rfl) (by kernel_rfl) (by kernel_rfl) (by kernel_rfl) (nt := 27) (by kernel_rfl) (by kernel_rfl) (T := [(0, I op0), (1, I kid1)]) (O := []) (by kernel_rfl) (by kernel_rfl) (fun c hc => ?_)
 refine sN ?_
 refine rg0 hc 1 [(0, I op0), (1, I kid1)] [] ?_
 refine seqQ_norm ?_
 refine sN ?_
 refine Wp.blockN (i := 0) (by kernel_rfl) ?_
 refine sN ?_
 obtain ⟨v_1, hj_2, h⟩ := bsome h
 refine Wp.into (x := .normal) (mkS [(0, I op0), (1, I kid1), (5, .bool v_1)] []) ?_ ?_
 ·replace h := hj_2
  rcases itesome h with ⟨hb_1_0, h⟩ | ⟨hb_1_0, h⟩
  ·refine rg hc none [oN, oN, oN, oN, oN, oT, oN] [(0, I op0), (1, I kid1), (5, .bool (kid1 == 1))] [] (ar 3 hb_1_0 trivial) ?_
   obtain rfl := Option.some.inj h
   exact Into.mk
  ·refine rg hc none [oN, oN, oN, o_, o_, oF, oN] [(0, I op0), (1, I kid1), (5, .bool false)] [] (ar 2 (neT hb_1_0) (ai hb_1_0 trivial)) ?_
   obtain rfl := Option.some.inj h
   exact Into.mk
 ·clear hj_2
  refine seqQ_norm ?_
  rcases itesome h with ⟨hb_3, h⟩ | ⟨hb_3, h⟩
  ·refine cT v_1 hb_3 ?_
   refine sN ?_
   refine rg0 hc 1 [(4, I 2)] [] ?_
   refine seqQ_norm ?_
   refine Wp.retN (by kernel_rfl) ?_
   refine blockQ_ret ?_
   refine seqQ_ret ?_
   obtain rfl := Option.some.inj h
   exact RetQ.ret (fl := [true]) (by kernel_rfl)
  ·refine cF v_1 hb_3 ?_
   refine sN ?_
   refine sN ?_
   obtain ⟨v_4, hj_5, h⟩ := bsome h
   refine Wp.into (x := .normal) (mkS [(0, I op0), (1, I kid1), (12, .bool v_4)] []) ?_ ?_
   ·replace h := hj_5
    rcases itesome h with ⟨hb_3_0, h⟩ | ⟨hb_3_0, h⟩
    ·refine rg hc none [oN, oN, oN, oN, oN, oT, oN] [(0, I op0), (1, I kid1), (12, .bool (decide (kid1 > 0)))] [] (ar 3 hb_3_0 trivial) ?_
     obtain rfl := Option.some.inj h
     exact Into.mk
    ·refine rg hc none [oN, oN, oN, o_, o_, oF, oN] [(0, I op0), (1, I kid1), (12, .bool false)] [] (ar 2 (neT hb_3_0) (ai hb_3_0 trivial)) ?_
     obtain rfl := Option.some.inj h
     exact Into.mk
   ·clear hj_5
    refine seqQ_norm ?_
    obtain ⟨j_12, hj_13, h⟩ := bsome h
    refine Wp.into (x := .normal) (mkS [(12, .bool j_12)] []) ?_ ?_
    ·replace h := hj_13
     rcases itesome h with ⟨hb_6, h⟩ | ⟨hb_6, h⟩
     ·refine cT v_4 hb_6 ?_
      refine Wp.skipN (by kernel_rfl) ?_
      obtain rfl := Option.some.inj h
      exact Into.view (fun a w hv => SRx.renL [] hv (by kernel_rfl) (by kernel_rfl) (by kernel_rfl))
     ·refine cF v_4 hb_6 ?_
      refine sN ?_
      refine rg0 hc 3 [(0, I op0), (1, I kid1), (12, .bool (op0 == 9))] [] ?_
      refine seqQ_norm ?_
      obtain ⟨j_10, hj_11, h⟩ := bsome h
      refine Wp.into (x := .normal) (mkS [(12, .bool j_10)] []) ?_ ?_
      ·replace h := hj_11
       rcases itesome h with ⟨hb_7, h⟩ | ⟨hb_7, h⟩
       ·refine cT ((op0 == 9)) hb_7 ?_
        refine Wp.skipN (by kernel_rfl) ?_
        obtain rfl := Option.some.inj h
        exact Into.view (fun a w hv => SRx.renL [] hv (by kernel_rfl) (by kernel_rfl) (by kernel_rfl))
       ·refine cF ((op0 == 9)) hb_7 ?_
        obtain ⟨v_8, hj_9, h⟩ := bsome h
        refine Wp.into (x := .normal) (mkS [(12, .bool v_8)] []) ?_ ?_
        ·replace h := hj_9
         rcases itesome h with ⟨hb_5_0, h⟩ | ⟨hb_5_0, h⟩
         ·refine rg hc none [oN, oN, oN, oN, oN, oT, oN] [(12, .bool (kid1 == 1))] [] (ar 3 hb_5_0 trivial) ?_
          obtain rfl := Option.some.inj h
          exact Into.mk
         ·refine rg hc none [oN, oN, oN, o_, o_, oF, oN] [(12, .bool false)] [] (ar 2 (neT hb_5_0) (ai hb_5_0 trivial)) ?_
          obtain rfl := Option.some.inj h
          exact Into.mk
        ·clear hj_9
         obtain rfl := Option.some.inj h
         exact Into.mk
      ·clear hj_11
       obtain rfl := Option.some.inj h
       exact Into.mk
    ·clear hj_13
     refine seqQ_norm ?_
     rcases itesome h with ⟨hb_14, h⟩ | ⟨hb_14, h⟩
     ·refine cT j_12 hb_14 ?_
      refine sN ?_
      refine rg0 hc 1 [(4, I 1)] [] ?_
      refine seqQ_norm ?_
      refine Wp.retN (by kernel_rfl) ?_
      refine blockQ_ret ?_
      refine seqQ_ret ?_
      obtain rfl := Option.some.inj h
      exact RetQ.ret (fl := [true]) (by kernel_rfl)
     ·refine cF j_12 hb_14 ?_
      refine Wp.skipN (by kernel_rfl) ?_
      refine blockQ_norm ?_
      refine seqQ_norm ?_
      refine sN ?_
      refine rg0 hc 1 [(4, I 0)] [] ?_
      refine seqQ_norm ?_
      refine Wp.retN (by kernel_rfl) ?_
      obtain rfl := Option.some.inj h
      exact RetQ.ret (fl := [true]) (by kernel_rfl)
def impl_check_Kimpl_writtenSize_c1_Kimpl_isWrittenType_F1 (c : Ctx) : (Int) ⊕ (Int) → Exit → AState → Prop
 | .inl nodes_27 => Into c (.exit 1) (mkS [(4, I nodes_27)] [])
 | .inr r => RetE TIx Try.f142 [] (I r)
end Go.Am
