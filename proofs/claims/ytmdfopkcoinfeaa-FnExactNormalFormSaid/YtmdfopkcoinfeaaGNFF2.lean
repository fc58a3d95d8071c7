/- Functions of the program as pure functions, and that it computes them. Printed by a program of mine (gen.py). -/
import Derived.Test.YtmdfopkcoinfeaaGNFF1
set_option linter.unusedVariables false
set_option linter.unusedSimpArgs false
set_option maxRecDepth 100000
namespace Go.Am
open Go Go.Proofs
def ah2_0 : Option (List (List Nat)) := rx [[0], [1], [0], [0, 2], [0], [0, 4], [0, 4, 5], [7], [0], [9]]
def spec_TermAt (p : GTerm × (List Int)) : Option (GTerm × Bool) :=
 match p with
 | (t0, path1) =>
  (spec_IsWritten t0) >>= fun r_1_1 =>
  if r_1_1 = true then
   (spec_TermAt_l0 (path1, t0.fOp, t0.fN, t0.fType, t0.fKids, 0)) >>= fun fl => match fl with
   | .inl (t_11, t_12, t_13, t_14) =>
    (spec_l2Shift ((GTerm.mk t_11 t_12 t_13 t_14), 0, 0)) >>= fun r_9_1 =>
    some (r_9_1, true)
   | .inr r =>
    some r
  else
   some ((GTerm.mk 0 0 [] []), false)
def M_spec_TermAt (p : GTerm × (List Int)) (r : GTerm × Bool) : Prop :=
 match p with
 | (t0, path1) => FnSound Try.prog 88 [aTerm t0, sI path1] (.tup [.agg [I r.1.fOp, I r.1.fN, .osl (List.map I r.1.fType), .osl (List.map GTerm_O r.1.fKids)], .bool r.2]) []
theorem spec_TermAt_s : ∀ p r, spec_TermAt p = some r → M_spec_TermAt p r := by
 rintro ⟨t0, path1⟩ r h
 unfold spec_TermAt at h
 show FnSound Try.prog 88 [aTerm t0, sI path1] (.tup [.agg [I r.1.fOp, I r.1.fN, .osl (List.map I r.1.fType), .osl (List.map GTerm_O r.1.fKids)], .bool r.2]) []
 refine FnSound.body0 tiok (fn := Try.f88) (code := B88) (by kernel_rfl) (by kernel_rfl) (by kernel_rfl) (by kernel_rfl) (nt := 38) (by kernel_rfl) (by kernel_rfl) (T := [(0, aTerm t0), (1, sI path1)]) (O := []) (by kernel_rfl) (by kernel_rfl) (fun c hc => ?_)
 refine sN ?_
 refine rg hc none [some (.new 1), some (.new 2), oN] [(1, sI path1), (2, .ra 1 0), (4, .ra 2 0)] [(1, bTerm t0), (2, .box [I 0, I 0, .nils, .nils])] trivial ?_
 refine seqQ_norm ?_
 refine sN ?_
 refine sN ?_
 obtain ⟨r_1_1, hr_1_1, h⟩ := bsome h
 refine rg hc none [oN, oc (.bool r_1_1), oN] [(1, sI path1), (2, .ra 1 0), (4, .ra 2 0), (9, .bool (!r_1_1))] [(1, bTerm t0), (2, .box [I 0, I 0, .nils, .nils])] (ai (spec_IsWritten_s _ _ hr_1_1) (ai bod_56 (ai (oi (.bool r_1_1)) trivial))) ?_
 refine seqQ_norm ?_
 rcases itesome h with ⟨hb_1, h⟩ | ⟨hb_1, h⟩
 ·refine cF (!r_1_1) (nF hb_1) ?_
  refine Wp.skipN (by kernel_rfl) ?_
  refine seqQ_norm ?_
  refine sN ?_
  refine sN ?_
  refine rg0 hc 1 [(1, sI path1), (2, .ra 1 0), (4, .ra 2 0), (6, I 0)] [(1, bTerm t0), (2, .box [I 0, I 0, .nils, .nils])] ?_
  refine seqQ_norm ?_
  refine Wp.blockN (i := 0) (by kernel_rfl) ?_
  obtain ⟨fl, hl_15, h⟩ := bsome h
  have hL := spec_TermAt_l0_s _ _ hl_15 c hc
  refine Wp.loopN (by kernel_rfl) ?_
  rcases fl with ⟨t_11, t_12, t_13, t_14⟩ | r
  ·refine WpL.into (e := (.exit 0)) (mkS [(2, .ra 1 0), (4, .ra 2 0)] [(1, .box [I t_11, I t_12, sI t_13, .sl (List.map GTerm_S t_14)]), (2, .box [I 0, I 0, .nils, .nils])]) hL ?_
   refine blockQ_hit ?_
   refine seqQ_norm ?_
   refine sN ?_
   obtain ⟨r_9_1, hr_9_1, h⟩ := bsome h
   refine rg hc none [oN, some (.call (qTerm r_9_1) [] 3), oN, oN] [(4, .ra 2 0), (5, .bool true)] [(2, .box [I r_9_1.fOp, I r_9_1.fN, .rs 3, .rs 4]), (3, .arr (List.map I r_9_1.fType)), (4, .arr (List.map GTerm_O r_9_1.fKids))] (ai (spec_l2Shift_s _ _ hr_9_1) (ai bod_58 (ai (oi (qTerm r_9_1)) trivial))) ?_
   refine seqQ_norm ?_
   refine Wp.retN (by kernel_rfl) ?_
   obtain rfl := Option.some.inj h
   exact RetQ.ret (fl := [true, true]) (by kernel_rfl)
  ·refine WpL.mono hL ?_
   rintro _ _ ⟨rfl, hfin⟩
   refine blockQ_ret ?_
   refine seqQ_ret ?_
   obtain rfl := Option.some.inj h
   exact ⟨.inl rfl, hfin⟩
 ·refine cT (!r_1_1) (nT hb_1) ?_
  refine sN ?_
  refine rg0 hc 3 [(4, .ra 2 0), (5, .bool false)] [(2, .box [I 0, I 0, .nils, .nils])] ?_
  refine seqQ_norm ?_
  refine Wp.retN (by kernel_rfl) ?_
  refine seqQ_ret ?_
  obtain rfl := Option.some.inj h
  exact RetQ.ret (fl := [true, true]) (by kernel_rfl)
def spec_l4Body (t0 : GTerm) : Option (GTerm) :=
  if (t0.fOp == 10) = true then
   (idx t0.fKids 0) >>= fun e_2_2 =>
   (idx e_2_2.fKids 0) >>= fun e_2_5 =>
   some e_2_5
  else
   (
    if (t0.fOp == 8) = true then
     (idx t0.fKids 0) >>= fun e_3_6 =>
     some ((e_3_6.fOp == 7))
    else
     some (false)
   ) >>= fun v_2 =>
   if v_2 = true then
    (idx t0.fKids 2) >>= fun e_4_2 =>
    some e_4_2
   else
    (idx t0.fKids 1) >>= fun e_5_2 =>
    some e_5_2
def M_spec_l4Body (t0 : GTerm) (r : GTerm) : Prop :=
 FnSound Try.prog 124 [aTerm t0] (aTerm r) []
theorem spec_l4Body_s : ∀ p r, spec_l4Body p = some r → M_spec_l4Body p r := by
 rintro t0 r h
 unfold spec_l4Body at h
 show FnSound Try.prog 124 [aTerm t0] (aTerm r) []
 refine FnSound.body0 tiok (fn := Try.f124) (code := B124) (by kernel_rfl) (by kernel_rfl) (by kernel_rfl) (by kernel_rfl) (nt := 34) (by kernel_rfl) (by kernel_rfl) (T := [(0, aTerm t0)]) (O := []) (by kernel_rfl) (by kernel_rfl) (fun c hc => ?_)
 refine sN ?_
 refine rg hc none [some (.new 1), some (.new 2)] [(1, .ra 1 0), (2, .ra 2 0)] [(1, bTerm t0), (2, .box [I 0, I 0, .nils, .nils])] trivial ?_
 refine seqQ_norm ?_
 refine sN ?_
 refine Wp.blockN (i := 0) (by kernel_rfl) ?_
 refine sN ?_
 refine rg0 hc 4 [(1, .ra 1 0), (2, .ra 2 0), (3, .bool (t0.fOp == 10))] [(1, bTerm t0), (2, .box [I 0, I 0, .nils, .nils])] ?_
 refine seqQ_norm ?_
 rcases itesome h with ⟨hb_1, h⟩ | ⟨hb_1, h⟩
 ·refine cT ((t0.fOp == 10)) hb_1 ?_
  refine sN ?_
  obtain ⟨e_2_2, hi_2_2, h⟩ := bsome h
  obtain ⟨e_2_5, hi_2_5, h⟩ := bsome h
  refine rg hc none [oN, oN, some (.el (aTerm e_2_2)), oN, oN, some (.el (aTerm e_2_5)), oN, oN] [(2, .ra 2 0)] [(2, bTerm e_2_5)] (ai (idx_sl (enc := GTerm_S) (x := aTerm e_2_2) hi_2_2 (eq_GTerm_S e_2_2)) (ai (idx_sl (enc := GTerm_S) (x := aTerm e_2_5) hi_2_5 (eq_GTerm_S e_2_5)) trivial)) ?_
  refine seqQ_norm ?_
  refine Wp.retN (by kernel_rfl) ?_
  refine blockQ_ret ?_
  refine seqQ_ret ?_
  obtain rfl := Option.some.inj h
  exact RetQ.ret (fl := [false]) (by kernel_rfl)
 ·refine cF ((t0.fOp == 10)) hb_1 ?_
  refine sN ?_
  obtain ⟨v_2, hj_3, h⟩ := bsome h
  refine Wp.into (x := .normal) (mkS [(1, .ra 1 0), (2, .ra 2 0), (14, .bool v_2)] [(1, bTerm t0), (2, .box [I 0, I 0, .nils, .nils])]) ?_ ?_
  ·replace h := hj_3
   rcases itesome h with ⟨hb_3_0, h⟩ | ⟨hb_3_0, h⟩
   ·obtain ⟨e_3_6, hi_3_6, h⟩ := bsome h
    refine rg hc none [oN, oN, oN, oN, oN, oN, some (.el (aTerm e_3_6)), oN, oN, oN, oT, oN] [(1, .ra 1 0), (2, .ra 2 0), (14, .bool (e_3_6.fOp == 7))] [(1, bTerm t0), (2, .box [I 0, I 0, .nils, .nils])] (ar 3 hb_3_0 (ai (idx_sl (enc := GTerm_S) (x := aTerm e_3_6) hi_3_6 (eq_GTerm_S e_3_6)) (ar 4 hb_3_0 trivial))) ?_
    obtain rfl := Option.some.inj h
    exact Into.mk
   ·refine rg hc none [oN, oN, oN, oN, o_, o_, o_, o_, o_, o_, oF, oN] [(1, .ra 1 0), (2, .ra 2 0), (14, .bool false)] [(1, bTerm t0), (2, .box [I 0, I 0, .nils, .nils])] (ar 6 (neT hb_3_0) (ai hb_3_0 trivial)) ?_
    obtain rfl := Option.some.inj h
    exact Into.mk
  ·clear hj_3
   refine seqQ_norm ?_
   rcases itesome h with ⟨hb_4, h⟩ | ⟨hb_4, h⟩
   ·refine cT v_2 hb_4 ?_
    refine sN ?_
    obtain ⟨e_4_2, hi_4_2, h⟩ := bsome h
    refine rg hc none [oN, oN, some (.el (aTerm e_4_2)), oN, oN] [(2, .ra 2 0)] [(2, bTerm e_4_2)] (ai (idx_sl (enc := GTerm_S) (x := aTerm e_4_2) hi_4_2 (eq_GTerm_S e_4_2)) trivial) ?_
    refine seqQ_norm ?_
    refine Wp.retN (by kernel_rfl) ?_
    refine blockQ_ret ?_
    refine seqQ_ret ?_
    obtain rfl := Option.some.inj h
    exact RetQ.ret (fl := [false]) (by kernel_rfl)
   ·refine cF v_2 hb_4 ?_
    refine Wp.skipN (by kernel_rfl) ?_
    refine blockQ_norm ?_
    refine seqQ_norm ?_
    refine sN ?_
    obtain ⟨e_5_2, hi_5_2, h⟩ := bsome h
    refine rg hc none [oN, oN, some (.el (aTerm e_5_2)), oN, oN] [(2, .ra 2 0)] [(2, bTerm e_5_2)] (ai (idx_sl (enc := GTerm_S) (x := aTerm e_5_2) hi_5_2 (eq_GTerm_S e_5_2)) trivial) ?_
    refine seqQ_norm ?_
    refine Wp.retN (by kernel_rfl) ?_
    obtain rfl := Option.some.inj h
    exact RetQ.ret (fl := [false]) (by kernel_rfl)
def spec_l4Size (t0 : GTerm) : Option (Int) :=
  (spec_l2Left (t0, 400)) >>= fun r_1_1 =>
  some (wr (400 - r_1_1))
def M_spec_l4Size (t0 : GTerm) (r : Int) : Prop :=
 FnSound Try.prog 125 [aTerm t0] (I r) []
theorem spec_l4Size_s : ∀ p r, spec_l4Size p = some r → M_spec_l4Size p r := by
 rintro t0 r h
 unfold spec_l4Size at h
 show FnSound Try.prog 125 [aTerm t0] (I r) []
 refine FnSound.body0 tiok (fn := Try.f125) (code := B125) (by kernel_rfl) (by kernel_rfl) (by kernel_rfl) (by kernel_rfl) (nt := 6) (by kernel_rfl) (by kernel_rfl) (T := [(0, aTerm t0)]) (O := []) (by kernel_rfl) (by kernel_rfl) (fun c hc => ?_)
 refine sN ?_
 refine rg hc none [some (.new 1), oN] [(1, .ra 1 0)] [(1, bTerm t0)] trivial ?_
 refine seqQ_norm ?_
 refine sN ?_
 obtain ⟨r_1_1, hr_1_1, h⟩ := bsome h
 refine rg hc none [oN, oc (I r_1_1), oN, oN] [(2, I (wr (400 - r_1_1)))] [] (ai (spec_l2Left_s _ _ hr_1_1) (ai bod_97 (ai (oi (I r_1_1)) trivial))) ?_
 refine seqQ_norm ?_
 refine Wp.retN (by kernel_rfl) ?_
 obtain rfl := Option.some.inj h
 exact RetQ.ret (fl := [true]) (by kernel_rfl)
def spec_l2Uses_F1 (c : Ctx) : Int → Exit → AState → Prop
 | n_7 => Into c (.exit 0) (mkS [(5, I n_7)] [])
mutual
def spec_l2Uses (p : GTerm × Int) : Option (Int) :=
 match p with
 | (t0, i1) =>
  if (t0.fOp == 0) = true then
   if (t0.fN == i1) = true then
    some 1
   else
    some 0
  else
   (spec_l2Uses_l0 (t0, i1, 0, 0)) >>= fun n_7 =>
   some n_7
 partial_fixpoint
def spec_l2Uses_l0 (p : GTerm × Int × Int × Int) : Option (Int) :=
 match p with
 | (t0, i1, n_4, k_5) =>
  if (decide (k_5 < (t0.fKids.length : Int))) = true then
   (idx t0.fKids k_5) >>= fun e_9_4 =>
   (spec_l2Adds (t0.fOp, k_5)) >>= fun r_9_10 =>
   (spec_l2Uses (e_9_4, (wr (i1 + r_9_10)))) >>= fun r_9_12 =>
   spec_l2Uses_l0 (t0, i1, (wr (n_4 + r_9_12)), (wr (k_5 + 1)))
  else
   some (n_4)
 partial_fixpoint
end
def M_spec_l2Uses (p : GTerm × Int) (r : Int) : Prop :=
 match p with
 | (t0, i1) => FnSound Try.prog 126 [aTerm t0, I i1] (I r) []
def M_spec_l2Uses_l0 (p : GTerm × Int × Int × Int) (fl : Int) : Prop :=
 match p with
 | (t0, i1, n_4, k_5) => ∀ c : Ctx, c.nt = 36 → WpL Try.prog c (cl (cl (cr (cl (cr (cr (cr B126))))))) (spec_l2Uses_F1 c fl) (mkS [(1, I i1), (2, .ra 1 0), (5, I n_4), (6, I k_5)] [(1, bTerm t0)])
theorem spec_l2Uses_all : (∀ p r, spec_l2Uses p = some r → M_spec_l2Uses p r) ∧ (∀ p r, spec_l2Uses_l0 p = some r → M_spec_l2Uses_l0 p r) := by
 refine spec_l2Uses.mutual_partial_correctness M_spec_l2Uses M_spec_l2Uses_l0 ?_ ?_
 ·rintro spec_l2Uses_l0_f spec_l2Uses_l0_ih ⟨t0, i1⟩ r h
  show FnSound Try.prog 126 [aTerm t0, I i1] (I r) []
  refine FnSound.body0 tiok (fn := Try.f126) (code := B126) (by kernel_rfl) (by kernel_rfl) (by kernel_rfl) (by kernel_rfl) (nt := 36) (by kernel_rfl) (by kernel_rfl) (T := [(0, aTerm t0), (1, I i1)]) (O := []) (by kernel_rfl) (by kernel_rfl) (fun c hc => ?_)
  refine sN ?_
  refine rg hc none [some (.new 1), oN] [(1, I i1), (2, .ra 1 0)] [(1, bTerm t0)] trivial ?_
  refine seqQ_norm ?_
  refine sN ?_
  refine sN ?_
  refine rg0 hc 3 [(1, I i1), (2, .ra 1 0), (9, .bool (t0.fOp == 0))] [(1, bTerm t0)] ?_
  refine seqQ_norm ?_
  rcases itesome h with ⟨hb_1, h⟩ | ⟨hb_1, h⟩
  ·refine cT ((t0.fOp == 0)) hb_1 ?_
   refine sN ?_
   refine sN ?_
   refine rg0 hc 4 [(13, .bool (t0.fN == i1))] [] ?_
   refine seqQ_norm ?_
   rcases itesome h with ⟨hb_2, h⟩ | ⟨hb_2, h⟩
   ·refine cT ((t0.fN == i1)) hb_2 ?_
    refine sN ?_
    refine rg0 hc 1 [(4, I 1)] [] ?_
    refine seqQ_norm ?_
    refine Wp.retN (by kernel_rfl) ?_
    refine seqQ_ret ?_
    refine seqQ_ret ?_
    obtain rfl := Option.some.inj h
    exact RetQ.ret (fl := [true]) (by kernel_rfl)
   ·refine cF ((t0.fN == i1)) hb_2 ?_
    refine Wp.skipN (by kernel_rfl) ?_
    refine seqQ_norm ?_
    refine sN ?_
    refine rg0 hc 1 [(4, I 0)] [] ?_
    refine seqQ_norm ?_
    refine Wp.retN (by kernel_rfl) ?_
    refine seqQ_ret ?_
    obtain rfl := Option.some.inj h
    exact RetQ.ret (fl := [true]) (by kernel_rfl)
  ·refine cF ((t0.fOp == 0)) hb_1 ?_
   refine Wp.skipN (by kernel_rfl) ?_
   refine seqQ_norm ?_
   refine sN ?_
   refine rg0 hc 1 [(1, I i1), (2, .ra 1 0), (5, I 0)] [(1, bTerm t0)] ?_
   refine seqQ_norm ?_
   refine sN ?_
   refine sN ?_
   refine rg0 hc 1 [(1, I i1), (2, .ra 1 0), (5, I 0), (6, I 0)] [(1, bTerm t0)] ?_
   refine seqQ_norm ?_
   refine Wp.blockN (i := 0) (by kernel_rfl) ?_
   obtain ⟨n_7, hl_8, h⟩ := bsome h
   have hL := spec_l2Uses_l0_ih _ _ hl_8 c hc
   refine Wp.loopN (by kernel_rfl) ?_
   ·refine WpL.into (e := (.exit 0)) (mkS [(5, I n_7)] []) hL ?_
    refine blockQ_hit ?_
    refine seqQ_norm ?_
    refine sN ?_
    refine rg0 hc 2 [(4, I n_7)] [] ?_
    refine seqQ_norm ?_
    refine Wp.retN (by kernel_rfl) ?_
    obtain rfl := Option.some.inj h
    exact RetQ.ret (fl := [true]) (by kernel_rfl)
 ·rintro spec_l2Uses_f spec_l2Uses_l0_f spec_l2Uses_ih spec_l2Uses_l0_ih ⟨t0, i1, n_4, k_5⟩ r h
  intro c hc
  show WpL Try.prog c (cl (cl (cr (cl (cr (cr (cr B126))))))) (spec_l2Uses_F1 c r) (mkS [(1, I i1), (2, .ra 1 0), (5, I n_4), (6, I k_5)] [(1, bTerm t0)])
  refine WpL.step ?_
  refine sN ?_
  refine sN ?_
  refine rg hc none [oN, oN, oN, some (.eqv (.no) ⟨[(17, I (t0.fKids.length : Int))], [], []⟩), oN] [(1, I i1), (2, .ra 1 0), (5, I n_4), (6, I k_5), (18, .bool (decide (k_5 < (t0.fKids.length : Int))))] [(1, bTerm t0)] (ai (lenT (d := 17) GTerm_S t0.fKids) trivial) ?_
  refine seqQ_norm ?_
  rcases itesome h with ⟨hb_6, h⟩ | ⟨hb_6, h⟩
  ·refine cT ((decide (k_5 < (t0.fKids.length : Int)))) hb_6 ?_
   refine Wp.skipN (by kernel_rfl) ?_
   refine seqQ_norm ?_
   refine sN ?_
   refine Wp.blockN (i := 1) (by kernel_rfl) ?_
   obtain ⟨e_9_4, hi_9_4, h⟩ := bsome h
   obtain ⟨r_9_10, hr_9_10, h⟩ := bsome h
   obtain ⟨r_9_12, hr_9_12, h⟩ := bsome h
   refine rg hc (rx [[0], [0], [0, 1], [0], [0, 1, 2, 3], [0, 1, 2, 3, 4], [0], [0], [0, 7], [0], [0, 7, 8, 9], [0, 6, 7, 8, 9, 10], [0, 1, 2, 3, 4, 5, 6, 7, 8, 9, 10, 11], [13], [14]]) [oN, oN, oN, oN, some (.el (aTerm e_9_4)), oN, oN, oN, oN, oN, oc (I r_9_10), oN, oc (I r_9_12), oN, oN] [(1, I i1), (2, .ra 1 0), (5, I (wr (n_4 + r_9_12))), (6, I k_5)] [(1, bTerm t0)] (ai (idx_sl (enc := GTerm_S) (x := aTerm e_9_4) hi_9_4 (eq_GTerm_S e_9_4)) (ai (spec_l2Adds_s _ _ hr_9_10) (ai bod_100 (ai (oi (I r_9_10)) (ai (spec_l2Uses_ih _ _ hr_9_12) (ai bod_126 (ai (oi (I r_9_12)) trivial))))))) ?_
   refine blockQ_norm ?_
   refine seqQ_norm ?_
   refine rg0 hc 3 [(1, I i1), (2, .ra 1 0), (5, I (wr (n_4 + r_9_12))), (6, I (wr (k_5 + 1)))] [(1, bTerm t0)] ?_
   refine loopQ_norm ?_
   exact (spec_l2Uses_l0_ih _ _ h c hc)
  ·refine cF ((decide (k_5 < (t0.fKids.length : Int)))) hb_6 ?_
   refine Wp.exitN (i := 0) (by kernel_rfl) ?_
   refine seqQ_exit ?_
   refine loopQ_exit ?_
   obtain rfl := Option.some.inj h
   exact Into.view (fun a w hv => SRx.renL [] hv (by kernel_rfl) (by kernel_rfl) (by kernel_rfl))
theorem spec_l2Uses_s : ∀ p r, spec_l2Uses p = some r → M_spec_l2Uses p r := spec_l2Uses_all.1
theorem spec_l2Uses_l0_s : ∀ p r, spec_l2Uses_l0 p = some r → M_spec_l2Uses_l0 p r := spec_l2Uses_all.2
def spec_l2Put_F2 (c : Ctx) (t0 : GTerm) (r_1_6 : List Int) (out_6 : Int) : (List GTerm) → Exit → AState → Prop
 | out_13 => Into c (.exit 0) (mkS [(8, .ra 3 0), (9, .ra 5 0)] [(3, .box [I 0, I 0, .nils, .nils]), (4, .arr (List.map I r_1_6)), (5, .box [I t0.fOp, I out_6, .rs 4, .rs 12]), (12, .arr (List.map GTerm_O out_13))])
def spec_l2Put_F1 (c : Ctx) (t0 : GTerm) (i1 : Int) (u2 : GTerm) (deep3 : Int) (r_1_6 : List Int) : (Int) ⊕ (GTerm) → Exit → AState → Prop
 | .inl out_6 => Into c .normal (mkS [(1, I i1), (3, I deep3), (4, .ra 1 0), (6, .ra 2 0), (8, .ra 3 0), (9, .ra 5 0)] [(1, bTerm t0), (2, bTerm u2), (3, .box [I 0, I 0, .nils, .nils]), (4, .arr (List.map I r_1_6)), (5, .box [I t0.fOp, I out_6, .rs 4, .nils])])
 | .inr r => RetE TIx Try.f127 [] (qTerm r)
mutual
def spec_l2Put (p : GTerm × Int × GTerm × Int) : Option (GTerm) :=
 match p with
 | (t0, i1, u2, deep3) =>
  (spec_l1Copy t0.fType) >>= fun r_1_6 =>
  ((
   if (t0.fOp == 0) = true then
    if (t0.fN == (wr (i1 + deep3))) = true then
     (spec_l2Shift (u2, deep3, 0)) >>= fun r_4_2 =>
     some (.inr r_4_2)
    else
     (
      if (decide (t0.fN > (wr (i1 + deep3)))) = true then
       some ((wr (t0.fN - 1)))
      else
       some (t0.fN)
     ) >>= fun out_4 =>
     some (.inl out_4)
   else
    some (.inl t0.fN)) : Option ((Int) ⊕ (GTerm))) >>= fun fl => match fl with
  | .inl out_6 =>
   (spec_l2Put_l0 (t0, i1, u2, deep3, r_1_6, out_6, [], 0)) >>= fun out_13 =>
   some (GTerm.mk t0.fOp out_6 r_1_6 out_13)
  | .inr r =>
   some r
 partial_fixpoint
def spec_l2Put_l0 (p : GTerm × Int × GTerm × Int × (List Int) × Int × (List GTerm) × Int) : Option ((List GTerm)) :=
 match p with
 | (t0, i1, u2, deep3, r_1_6, out_6, out_11, k_9) =>
  if (decide (k_9 < (t0.fKids.length : Int))) = true then
   (idx t0.fKids k_9) >>= fun e_10_5 =>
   (spec_l2Adds (t0.fOp, k_9)) >>= fun r_10_13 =>
   (spec_l2Put (e_10_5, i1, u2, (wr (deep3 + r_10_13)))) >>= fun r_10_15 =>
   (fits (out_11.length + [r_10_15].length) 64) >>= fun _ =>
   spec_l2Put_l0 (t0, i1, u2, deep3, r_1_6, out_6, (out_11 ++ [r_10_15]), (wr (k_9 + 1)))
  else
   some (out_11)
 partial_fixpoint
end
def M_spec_l2Put (p : GTerm × Int × GTerm × Int) (r : GTerm) : Prop :=
 match p with
 | (t0, i1, u2, deep3) => FnSound Try.prog 127 [aTerm t0, I i1, aTerm u2, I deep3] (qTerm r) []
def M_spec_l2Put_l0 (p : GTerm × Int × GTerm × Int × (List Int) × Int × (List GTerm) × Int) (fl : (List GTerm)) : Prop :=
 match p with
 | (t0, i1, u2, deep3, r_1_6, out_6, out_11, k_9) => ∀ c : Ctx, c.nt = 68 → WpL Try.prog c (cl (cl (cr (cl (cr (cr (cr B127))))))) (spec_l2Put_F2 c t0 r_1_6 out_6 fl) (mkS [(1, I i1), (3, I deep3), (4, .ra 1 0), (6, .ra 2 0), (8, .ra 3 0), (9, .ra 5 0), (10, I k_9)] [(1, bTerm t0), (2, bTerm u2), (3, .box [I 0, I 0, .nils, .nils]), (4, .arr (List.map I r_1_6)), (5, .box [I t0.fOp, I out_6, .rs 4, .rs 12]), (12, .arr (List.map GTerm_O out_11))])
theorem spec_l2Put_all : (∀ p r, spec_l2Put p = some r → M_spec_l2Put p r) ∧ (∀ p r, spec_l2Put_l0 p = some r → M_spec_l2Put_l0 p r) := by
 refine spec_l2Put.mutual_partial_correctness M_spec_l2Put M_spec_l2Put_l0 ?_ ?_
 ·rintro spec_l2Put_l0_f spec_l2Put_l0_ih ⟨t0, i1, u2, deep3⟩ r h
  show FnSound Try.prog 127 [aTerm t0, I i1, aTerm u2, I deep3] (qTerm r) []
  refine FnSound.body0 tiok (fn := Try.f127) (code := B127) (by kernel_rfl) (by kernel_rfl) (by kernel_rfl) (by kernel_rfl) (nt := 68) (by kernel_rfl) (by kernel_rfl) (T := [(0, aTerm t0), (1, I i1), (2, aTerm u2), (3, I deep3)]) (O := []) (by kernel_rfl) (by kernel_rfl) (fun c hc => ?_)
  refine sN ?_
  refine rg hc none [some (.new 1), some (.new 2), some (.new 3)] [(1, I i1), (3, I deep3), (4, .ra 1 0), (6, .ra 2 0), (8, .ra 3 0)] [(1, bTerm t0), (2, bTerm u2), (3, .box [I 0, I 0, .nils, .nils])] trivial ?_
  refine seqQ_norm ?_
  refine sN ?_
  obtain ⟨r_1_6, hr_1_6, h⟩ := bsome h
  refine rg hc ah2_0 [oN, oN, oN, oN, oN, oN, some (.call (.osl (List.map I r_1_6)) [] 4), oN, some (.new 5), oN] [(1, I i1), (3, I deep3), (4, .ra 1 0), (6, .ra 2 0), (8, .ra 3 0), (9, .ra 5 0)] [(1, bTerm t0), (2, bTerm u2), (3, .box [I 0, I 0, .nils, .nils]), (4, .arr (List.map I r_1_6)), (5, .box [I t0.fOp, I t0.fN, .rs 4, .nils])] (ai (spec_l1Copy_s _ _ hr_1_6) (ai bod_99 (ai (oi (.osl (List.map I r_1_6))) trivial))) ?_
  refine seqQ_norm ?_
  refine sN ?_
  refine sN ?_
  refine rg0 hc 3 [(1, I i1), (3, I deep3), (4, .ra 1 0), (6, .ra 2 0), (8, .ra 3 0), (9, .ra 5 0), (21, .bool (t0.fOp == 0))] [(1, bTerm t0), (2, bTerm u2), (3, .box [I 0, I 0, .nils, .nils]), (4, .arr (List.map I r_1_6)), (5, .box [I t0.fOp, I t0.fN, .rs 4, .nils])] ?_
  refine seqQ_norm ?_
  obtain ⟨fl, hj_7, h⟩ := bsome h
  have hF : Wp Try.prog c (cr (cl (cr (cr B127)))) (spec_l2Put_F1 c t0 i1 u2 deep3 r_1_6 fl) (mkS [(1, I i1), (3, I deep3), (4, .ra 1 0), (6, .ra 2 0), (8, .ra 3 0), (9, .ra 5 0), (21, .bool (t0.fOp == 0))] [(1, bTerm t0), (2, bTerm u2), (3, .box [I 0, I 0, .nils, .nils]), (4, .arr (List.map I r_1_6)), (5, .box [I t0.fOp, I t0.fN, .rs 4, .nils])]) := by
   replace h := hj_7
   rcases itesome h with ⟨hb_1, h⟩ | ⟨hb_1, h⟩
   ·refine cT ((t0.fOp == 0)) hb_1 ?_
    refine sN ?_
    refine sN ?_
    refine rg0 hc 6 [(1, I i1), (3, I deep3), (4, .ra 1 0), (6, .ra 2 0), (8, .ra 3 0), (9, .ra 5 0), (27, .bool (t0.fN == (wr (i1 + deep3))))] [(1, bTerm t0), (2, bTerm u2), (3, .box [I 0, I 0, .nils, .nils]), (4, .arr (List.map I r_1_6)), (5, .box [I t0.fOp, I t0.fN, .rs 4, .nils])] ?_
    refine seqQ_norm ?_
    rcases itesome h with ⟨hb_2, h⟩ | ⟨hb_2, h⟩
    ·refine cT ((t0.fN == (wr (i1 + deep3)))) hb_2 ?_
     refine sN ?_
     obtain ⟨r_4_2, hr_4_2, h⟩ := bsome h
     refine rg hc none [oN, oN, some (.call (qTerm r_4_2) [] 6), oN] [(8, .ra 3 0)] [(3, .box [I r_4_2.fOp, I r_4_2.fN, .rs 6, .rs 7]), (6, .arr (List.map I r_4_2.fType)), (7, .arr (List.map GTerm_O r_4_2.fKids))] (ai (spec_l2Shift_s _ _ hr_4_2) (ai bod_58 (ai (oi (qTerm r_4_2)) trivial))) ?_
     refine seqQ_norm ?_
     refine Wp.retN (by kernel_rfl) ?_
     refine seqQ_ret ?_
     obtain rfl := Option.some.inj h
     exact RetE.ret (fl := [true]) (by kernel_rfl)
    ·refine cF ((t0.fN == (wr (i1 + deep3)))) hb_2 ?_
     refine Wp.skipN (by kernel_rfl) ?_
     refine seqQ_norm ?_
     refine sN ?_
     refine rg0 hc 6 [(1, I i1), (3, I deep3), (4, .ra 1 0), (6, .ra 2 0), (8, .ra 3 0), (9, .ra 5 0), (36, .bool (decide (t0.fN > (wr (i1 + deep3)))))] [(1, bTerm t0), (2, bTerm u2), (3, .box [I 0, I 0, .nils, .nils]), (4, .arr (List.map I r_1_6)), (5, .box [I t0.fOp, I t0.fN, .rs 4, .nils])] ?_
     refine seqQ_norm ?_
     obtain ⟨out_4, hj_5, h⟩ := bsome h
     refine Wp.into (x := .normal) (mkS [(1, I i1), (3, I deep3), (4, .ra 1 0), (6, .ra 2 0), (8, .ra 3 0), (9, .ra 5 0)] [(1, bTerm t0), (2, bTerm u2), (3, .box [I 0, I 0, .nils, .nils]), (4, .arr (List.map I r_1_6)), (5, .box [I t0.fOp, I out_4, .rs 4, .nils])]) ?_ ?_
     ·replace h := hj_5
      rcases itesome h with ⟨hb_3, h⟩ | ⟨hb_3, h⟩
      ·refine cT ((decide (t0.fN > (wr (i1 + deep3))))) hb_3 ?_
       refine rg0 hc 5 [(1, I i1), (3, I deep3), (4, .ra 1 0), (6, .ra 2 0), (8, .ra 3 0), (9, .ra 5 0)] [(1, bTerm t0), (2, bTerm u2), (3, .box [I 0, I 0, .nils, .nils]), (4, .arr (List.map I r_1_6)), (5, .box [I t0.fOp, I (wr (t0.fN - 1)), .rs 4, .nils])] ?_
       obtain rfl := Option.some.inj h
       exact Into.mk
      ·refine cF ((decide (t0.fN > (wr (i1 + deep3))))) hb_3 ?_
       refine Wp.skipN (by kernel_rfl) ?_
       obtain rfl := Option.some.inj h
       exact Into.view (fun a w hv => SRx.renL [] hv (by kernel_rfl) (by kernel_rfl) (by kernel_rfl))
     ·clear hj_5
      obtain rfl := Option.some.inj h
      exact Into.mk
   ·refine cF ((t0.fOp == 0)) hb_1 ?_
    refine Wp.skipN (by kernel_rfl) ?_
    obtain rfl := Option.some.inj h
    exact Into.view (fun a w hv => SRx.renL [] hv (by kernel_rfl) (by kernel_rfl) (by kernel_rfl))
  rcases fl with out_6 | r
  ·refine Wp.into (x := .normal) (mkS [(1, I i1), (3, I deep3), (4, .ra 1 0), (6, .ra 2 0), (8, .ra 3 0), (9, .ra 5 0)] [(1, bTerm t0), (2, bTerm u2), (3, .box [I 0, I 0, .nils, .nils]), (4, .arr (List.map I r_1_6)), (5, .box [I t0.fOp, I out_6, .rs 4, .nils])]) hF ?_
   refine seqQ_norm ?_
   refine sN ?_
   refine sN ?_
   refine rg0 hc 1 [(1, I i1), (3, I deep3), (4, .ra 1 0), (6, .ra 2 0), (8, .ra 3 0), (9, .ra 5 0), (10, I 0)] [(1, bTerm t0), (2, bTerm u2), (3, .box [I 0, I 0, .nils, .nils]), (4, .arr (List.map I r_1_6)), (5, .box [I t0.fOp, I out_6, .rs 4, .nils])] ?_
   refine seqQ_norm ?_
   refine Wp.blockN (i := 0) (by kernel_rfl) ?_
   obtain ⟨out_13, hl_14, h⟩ := bsome h
   have hL := spec_l2Put_l0_ih _ _ hl_14 c hc
   refine Wp.loopN (by kernel_rfl) (WpL.view (fun a w hv => SRx.renL [(12, 21)] (SRx.nilBL 5 3 21 [I t0.fOp, I out_6, .rs 4, .nils] hv (by kernel_rfl) (by kernel_rfl) (by kernel_rfl)) (by kernel_rfl) (by kernel_rfl) (by kernel_rfl)) (?_ : WpL _ c _ _ (mkS [(1, I i1), (3, I deep3), (4, .ra 1 0), (6, .ra 2 0), (8, .ra 3 0), (9, .ra 5 0), (10, I 0)] [(1, bTerm t0), (2, bTerm u2), (3, .box [I 0, I 0, .nils, .nils]), (4, .arr (List.map I r_1_6)), (5, .box [I t0.fOp, I out_6, .rs 4, .rs 12]), (12, .arr (List.map GTerm_O []))])))
   ·refine WpL.into (e := (.exit 0)) (mkS [(8, .ra 3 0), (9, .ra 5 0)] [(3, .box [I 0, I 0, .nils, .nils]), (4, .arr (List.map I r_1_6)), (5, .box [I t0.fOp, I out_6, .rs 4, .rs 12]), (12, .arr (List.map GTerm_O out_13))]) hL ?_
    refine blockQ_hit ?_
    refine seqQ_norm ?_
    refine sN ?_
    refine rg0 hc 2 [(8, .ra 3 0)] [(3, .box [I t0.fOp, I out_6, .rs 4, .rs 12]), (4, .arr (List.map I r_1_6)), (12, .arr (List.map GTerm_O out_13))] ?_
    refine seqQ_norm ?_
    refine Wp.retN (by kernel_rfl) ?_
    obtain rfl := Option.some.inj h
    exact RetQ.ret (fl := [true]) (by kernel_rfl)
  ·refine Wp.mono hF ?_
   rintro _ _ ⟨rfl, hfin⟩
   refine seqQ_ret ?_
   obtain rfl := Option.some.inj h
   exact ⟨.inl rfl, hfin⟩
 ·rintro spec_l2Put_f spec_l2Put_l0_f spec_l2Put_ih spec_l2Put_l0_ih ⟨t0, i1, u2, deep3, r_1_6, out_6, out_11, k_9⟩ r h
  intro c hc
  show WpL Try.prog c (cl (cl (cr (cl (cr (cr (cr B127))))))) (spec_l2Put_F2 c t0 r_1_6 out_6 r) (mkS [(1, I i1), (3, I deep3), (4, .ra 1 0), (6, .ra 2 0), (8, .ra 3 0), (9, .ra 5 0), (10, I k_9)] [(1, bTerm t0), (2, bTerm u2), (3, .box [I 0, I 0, .nils, .nils]), (4, .arr (List.map I r_1_6)), (5, .box [I t0.fOp, I out_6, .rs 4, .rs 12]), (12, .arr (List.map GTerm_O out_11))])
  refine WpL.step ?_
  refine sN ?_
  refine sN ?_
  refine rg hc none [oN, oN, oN, some (.eqv (.no) ⟨[(44, I (t0.fKids.length : Int))], [], []⟩), oN] [(1, I i1), (3, I deep3), (4, .ra 1 0), (6, .ra 2 0), (8, .ra 3 0), (9, .ra 5 0), (10, I k_9), (45, .bool (decide (k_9 < (t0.fKids.length : Int))))] [(1, bTerm t0), (2, bTerm u2), (3, .box [I 0, I 0, .nils, .nils]), (4, .arr (List.map I r_1_6)), (5, .box [I t0.fOp, I out_6, .rs 4, .rs 12]), (12, .arr (List.map GTerm_O out_11))] (ai (lenT (d := 44) GTerm_S t0.fKids) trivial) ?_
  refine seqQ_norm ?_
  rcases itesome h with ⟨hb_12, h⟩ | ⟨hb_12, h⟩
  ·refine cT ((decide (k_9 < (t0.fKids.length : Int)))) hb_12 ?_
   refine Wp.skipN (by kernel_rfl) ?_
   refine seqQ_norm ?_
   refine sN ?_
   refine Wp.blockN (i := 1) (by kernel_rfl) ?_
   obtain ⟨e_10_5, hi_10_5, h⟩ := bsome h
   obtain ⟨r_10_13, hr_10_13, h⟩ := bsome h
   obtain ⟨r_10_15, hr_10_15, h⟩ := bsome h
   obtain ⟨_, hk_10_17, h⟩ := bsome h
   refine rg hc (rx [[0], [1], [0], [0, 2], [0], [0, 2, 3, 4], [0, 2, 3, 4, 5], [0], [0], [0], [0], [0, 10], [0], [0, 10, 11, 12], [0, 9, 10, 11, 12, 13], [0, 2, 3, 4, 5, 6, 7, 8, 9, 10, 11, 12, 13, 14], [0, 2, 3, 4, 5, 6, 7, 8, 9, 10, 11, 12, 13, 14, 15], [17], [18], [19]]) [oN, oN, oN, oN, oN, some (.el (aTerm e_10_5)), oN, oN, oN, oN, oN, oN, oN, oc (I r_10_13), oN, some (.call (qTerm r_10_15) [] 17), some (.eqv (.mk 19 true) ⟨[(64, .rs 19)], [(19, some (.arr (List.map GTerm_O [r_10_15]))), (17, none), (18, none)], [19]⟩), some (.eqv (.mk 20 true) ⟨[(65, .rs 20)], [(20, some (.arr (List.map GTerm_O (out_11 ++ [r_10_15])))), (12, none), (19, none)], [20]⟩), oN, oN] [(1, I i1), (3, I deep3), (4, .ra 1 0), (6, .ra 2 0), (8, .ra 3 0), (9, .ra 5 0), (10, I k_9)] [(1, bTerm t0), (2, bTerm u2), (3, .box [I 0, I 0, .nils, .nils]), (4, .arr (List.map I r_1_6)), (5, .box [I t0.fOp, I out_6, .rs 4, .rs 20]), (20, .arr (List.map GTerm_O (out_11 ++ [r_10_15])))] (ai (idx_sl (enc := GTerm_S) (x := aTerm e_10_5) hi_10_5 (eq_GTerm_S e_10_5)) (ai (spec_l2Adds_s _ _ hr_10_13) (ai bod_100 (ai (oi (I r_10_13)) (ai (spec_l2Put_ih _ _ hr_10_15) (ai bod_127 (ai (oi (qTerm r_10_15)) (ai (congrArg (fun z => (⟨[(64, .rs 19)], [(19, some (.arr z)), (17, none), (18, none)], [19]⟩ : Wr)) ((rows1 (eq_GTerm_O r_10_15) rows0) : [AV.agg [I r_10_15.fOp, I r_10_15.fN, AV.osl (List.map I r_10_15.fType), AV.osl (List.map GTerm_O r_10_15.fKids)]] = List.map GTerm_O [r_10_15])) (ai (congrArg (fun z => (⟨[(65, .rs 20)], [(20, some (.arr z)), (12, none), (19, none)], [20]⟩ : Wr)) ((List.map_append).symm : (List.map GTerm_O out_11) ++ (List.map GTerm_O [r_10_15]) = List.map GTerm_O (out_11 ++ [r_10_15]))) (ai (app_ob (enc1 := GTerm_O) (enc2 := GTerm_O) (e1 := out_11) (e2 := [r_10_15]) (sz := 4) ek_GTerm_O ek_GTerm_O hk_10_17) trivial)))))))))) ?_
   refine blockQ_norm ?_
   refine seqQ_norm ?_
   refine rg0 hc 3 [(1, I i1), (3, I deep3), (4, .ra 1 0), (6, .ra 2 0), (8, .ra 3 0), (9, .ra 5 0), (10, I (wr (k_9 + 1)))] [(1, bTerm t0), (2, bTerm u2), (3, .box [I 0, I 0, .nils, .nils]), (4, .arr (List.map I r_1_6)), (5, .box [I t0.fOp, I out_6, .rs 4, .rs 20]), (20, .arr (List.map GTerm_O (out_11 ++ [r_10_15])))] ?_
   refine loopQ_norm ?_
   exact WpL.view (fun a w hv => SRx.renL [(12, 20)] hv (by kernel_rfl) (by kernel_rfl) (by kernel_rfl)) (spec_l2Put_l0_ih _ _ h c hc)
  ·refine cF ((decide (k_9 < (t0.fKids.length : Int)))) hb_12 ?_
   refine Wp.exitN (i := 0) (by kernel_rfl) ?_
   refine seqQ_exit ?_
   refine loopQ_exit ?_
   obtain rfl := Option.some.inj h
   exact Into.view (fun a w hv => SRx.renL [] hv (by kernel_rfl) (by kernel_rfl) (by kernel_rfl))
theorem spec_l2Put_s : ∀ p r, spec_l2Put p = some r → M_spec_l2Put p r := spec_l2Put_all.1
theorem spec_l2Put_l0_s : ∀ p r, spec_l2Put_l0 p = some r → M_spec_l2Put_l0 p r := spec_l2Put_all.2
def spec_l4Contracted (t0 : GTerm) : Option (GTerm × Bool) :=
  (idx t0.fKids 0) >>= fun e_1_2 =>
  if (t0.fOp == 2) = true then
   (idx t0.fKids 1) >>= fun e_4_4 =>
   some ((GTerm.mk 1 (Int.tmod (wr (e_1_2.fN + e_4_4.fN)) 3) [] []), true)
  else
   if (t0.fOp == 3) = true then
    if (e_1_2.fN == 0) = true then
     (idx t0.fKids 1) >>= fun e_7_2 =>
     (spec_l2Shift (e_7_2, 0, 0)) >>= fun r_7_4 =>
     some (r_7_4, true)
    else
     (idx t0.fKids 2) >>= fun e_8_2 =>
     (spec_l2Shift (e_8_2, 0, 0)) >>= fun r_8_4 =>
     some (r_8_4, true)
   else
    (spec_l4Body t0) >>= fun r_9_1 =>
    if (t0.fOp == 5) = true then
     (spec_l4Size r_9_1) >>= fun r_11_1 =>
     (spec_l2Uses (r_9_1, 1)) >>= fun r_11_3 =>
     (idx e_1_2.fKids 0) >>= fun e_11_6 =>
     (spec_l4Size e_11_6) >>= fun r_11_8 =>
     (spec_l2Uses (r_9_1, 0)) >>= fun r_11_13 =>
     (idx e_1_2.fKids 1) >>= fun e_11_16 =>
     (spec_l4Size e_11_16) >>= fun r_11_18 =>
     if (decide ((wr ((wr (r_11_1 + (wr (r_11_3 * (wr (r_11_8 - 1)))))) + (wr (r_11_13 * (wr (r_11_18 - 1)))))) > 400)) = true then
      some ((GTerm.mk 0 0 [] []), false)
     else
      (idx e_1_2.fKids 1) >>= fun e_14_3 =>
      (spec_l2Shift (e_14_3, 1, 0)) >>= fun r_14_5 =>
      (spec_l2Put (r_9_1, 0, r_14_5, 0)) >>= fun r_14_6 =>
      (idx e_1_2.fKids 0) >>= fun e_14_9 =>
      (spec_l2Put (r_14_6, 0, e_14_9, 0)) >>= fun r_14_11 =>
      some (r_14_11, true)
    else
     (
      if (t0.fOp == 10) = true then
       (idx t0.fKids 1) >>= fun e_17_2 =>
       some ((e_17_2.fOp, e_17_2.fN, e_17_2.fType, e_17_2.fKids))
      else
       (idx e_1_2.fKids 0) >>= fun e_18_2 =>
       some ((e_18_2.fOp, e_18_2.fN, e_18_2.fType, e_18_2.fKids))
     ) >>= fun (arg_7, arg_8, arg_9, arg_10) =>
     (spec_l4Size r_9_1) >>= fun r_19_1 =>
     (spec_l2Uses (r_9_1, 0)) >>= fun r_19_3 =>
     (spec_l4Size (GTerm.mk arg_7 arg_8 arg_9 arg_10)) >>= fun r_19_5 =>
     if (decide ((wr (r_19_1 + (wr (r_19_3 * (wr (r_19_5 - 1)))))) > 400)) = true then
      some ((GTerm.mk 0 0 [] []), false)
     else
      (spec_l2Put (r_9_1, 0, (GTerm.mk arg_7 arg_8 arg_9 arg_10), 0)) >>= fun r_21_2 =>
      some (r_21_2, true)
def M_spec_l4Contracted (t0 : GTerm) (r : GTerm × Bool) : Prop :=
 FnSound Try.prog 90 [aTerm t0] (.tup [.agg [I r.1.fOp, I r.1.fN, .osl (List.map I r.1.fType), .osl (List.map GTerm_O r.1.fKids)], .bool r.2]) []
theorem spec_l4Contracted_s : ∀ p r, spec_l4Contracted p = some r → M_spec_l4Contracted p r := by
 rintro t0 r h
 unfold spec_l4Contracted at h
 show FnSound Try.prog 90 [aTerm t0] (.tup [.agg [I r.1.fOp, I r.1.fN, .osl (List.map I r.1.fType), .osl (List.map GTerm_O r.1.fKids)], .bool r.2]) []
 refine FnSound.body0 tiok (fn := Try.f90) (code := B90) (by kernel_rfl) (by kernel_rfl) (by kernel_rfl) (by kernel_rfl) (nt := 109) (by kernel_rfl) (by kernel_rfl) (T := [(0, aTerm t0)]) (O := []) (by kernel_rfl) (by kernel_rfl) (fun c hc => ?_)
 refine sN ?_
 refine rg hc none [some (.new 1), some (.new 2), oN] [(1, .ra 1 0), (2, .ra 2 0)] [(1, bTerm t0), (2, .box [I 0, I 0, .nils, .nils])] trivial ?_
 refine seqQ_norm ?_
 refine sN ?_
 obtain ⟨e_1_2, hi_1_2, h⟩ := bsome h
 refine rg hc none [oN, oN, some (.el (aTerm e_1_2)), oN, some (.new 3), oN] [(1, .ra 1 0), (2, .ra 2 0), (4, .ra 3 0)] [(1, bTerm t0), (2, .box [I 0, I 0, .nils, .nils]), (3, bTerm e_1_2)] (ai (idx_sl (enc := GTerm_S) (x := aTerm e_1_2) hi_1_2 (eq_GTerm_S e_1_2)) trivial) ?_
 refine seqQ_norm ?_
 refine sN ?_
 refine sN ?_
 refine rg0 hc 2 [(1, .ra 1 0), (2, .ra 2 0), (4, .ra 3 0), (13, I t0.fOp)] [(1, bTerm t0), (2, .box [I 0, I 0, .nils, .nils]), (3, bTerm e_1_2)] ?_
 refine seqQ_norm ?_
 refine Wp.blockN (i := 0) (by kernel_rfl) ?_
 refine sN ?_
 refine rg0 hc 2 [(1, .ra 1 0), (2, .ra 2 0), (4, .ra 3 0), (13, I t0.fOp), (14, .bool (t0.fOp == 2))] [(1, bTerm t0), (2, .box [I 0, I 0, .nils, .nils]), (3, bTerm e_1_2)] ?_
 refine seqQ_norm ?_
 rcases itesome h with ⟨hb_1, h⟩ | ⟨hb_1, h⟩
 ·refine cT ((t0.fOp == 2)) hb_1 ?_
  refine sN ?_
  obtain ⟨e_4_4, hi_4_4, h⟩ := bsome h
  refine rg hc (rx [[0], [1], [0], [0, 2], [0, 2, 3], [0, 2, 3, 4], [0, 2, 3, 4, 5], [7], [8], [9], [10], [11]]) [oN, oN, oN, oN, some (.el (aTerm e_4_4)), oN, oN, oN, oN, oN, oN, oN] [(2, .ra 2 0), (3, .bool true)] [(2, .box [I 1, I (Int.tmod (wr (e_1_2.fN + e_4_4.fN)) 3), .nils, .nils])] (ai (idx_sl (enc := GTerm_S) (x := aTerm e_4_4) hi_4_4 (eq_GTerm_S e_4_4)) (ai ((by decide) : (3 : Int) ≠ 0) trivial)) ?_
  refine seqQ_norm ?_
  refine Wp.retN (by kernel_rfl) ?_
  refine blockQ_ret ?_
  refine seqQ_ret ?_
  obtain rfl := Option.some.inj h
  exact RetQ.ret (fl := [true, true]) (by kernel_rfl)
 ·refine cF ((t0.fOp == 2)) hb_1 ?_
  refine sN ?_
  refine rg0 hc 2 [(1, .ra 1 0), (2, .ra 2 0), (4, .ra 3 0), (26, .bool (t0.fOp == 3))] [(1, bTerm t0), (2, .box [I 0, I 0, .nils, .nils]), (3, bTerm e_1_2)] ?_
  refine seqQ_norm ?_
  rcases itesome h with ⟨hb_2, h⟩ | ⟨hb_2, h⟩
  ·refine cT ((t0.fOp == 3)) hb_2 ?_
   refine sN ?_
   refine sN ?_
   refine rg0 hc 3 [(1, .ra 1 0), (2, .ra 2 0), (30, .bool (e_1_2.fN == 0))] [(1, bTerm t0), (2, .box [I 0, I 0, .nils, .nils])] ?_
   refine seqQ_norm ?_
   rcases itesome h with ⟨hb_3, h⟩ | ⟨hb_3, h⟩
   ·refine cT ((e_1_2.fN == 0)) hb_3 ?_
    refine sN ?_
    obtain ⟨e_7_2, hi_7_2, h⟩ := bsome h
    obtain ⟨r_7_4, hr_7_4, h⟩ := bsome h
    refine rg hc none [oN, oN, some (.el (aTerm e_7_2)), oN, some (.call (qTerm r_7_4) [] 4), oN, oN] [(2, .ra 2 0), (3, .bool true)] [(2, .box [I r_7_4.fOp, I r_7_4.fN, .rs 4, .rs 5]), (4, .arr (List.map I r_7_4.fType)), (5, .arr (List.map GTerm_O r_7_4.fKids))] (ai (idx_sl (enc := GTerm_S) (x := aTerm e_7_2) hi_7_2 (eq_GTerm_S e_7_2)) (ai (spec_l2Shift_s _ _ hr_7_4) (ai bod_58 (ai (oi (qTerm r_7_4)) trivial)))) ?_
    refine seqQ_norm ?_
    refine Wp.retN (by kernel_rfl) ?_
    refine seqQ_ret ?_
    refine blockQ_ret ?_
    refine seqQ_ret ?_
    obtain rfl := Option.some.inj h
    exact RetQ.ret (fl := [true, true]) (by kernel_rfl)
   ·refine cF ((e_1_2.fN == 0)) hb_3 ?_
    refine Wp.skipN (by kernel_rfl) ?_
    refine seqQ_norm ?_
    refine sN ?_
    obtain ⟨e_8_2, hi_8_2, h⟩ := bsome h
    obtain ⟨r_8_4, hr_8_4, h⟩ := bsome h
    refine rg hc none [oN, oN, some (.el (aTerm e_8_2)), oN, some (.call (qTerm r_8_4) [] 6), oN, oN] [(2, .ra 2 0), (3, .bool true)] [(2, .box [I r_8_4.fOp, I r_8_4.fN, .rs 6, .rs 7]), (6, .arr (List.map I r_8_4.fType)), (7, .arr (List.map GTerm_O r_8_4.fKids))] (ai (idx_sl (enc := GTerm_S) (x := aTerm e_8_2) hi_8_2 (eq_GTerm_S e_8_2)) (ai (spec_l2Shift_s _ _ hr_8_4) (ai bod_58 (ai (oi (qTerm r_8_4)) trivial)))) ?_
    refine seqQ_norm ?_
    refine Wp.retN (by kernel_rfl) ?_
    refine blockQ_ret ?_
    refine seqQ_ret ?_
    obtain rfl := Option.some.inj h
    exact RetQ.ret (fl := [true, true]) (by kernel_rfl)
  ·refine cF ((t0.fOp == 3)) hb_2 ?_
   refine Wp.skipN (by kernel_rfl) ?_
   refine blockQ_norm ?_
   refine seqQ_norm ?_
   refine sN ?_
   obtain ⟨r_9_1, hr_9_1, h⟩ := bsome h
   refine rg hc none [oN, oc (aTerm r_9_1), some (.new 8), oN] [(1, .ra 1 0), (2, .ra 2 0), (4, .ra 3 0), (5, .ra 8 0)] [(1, bTerm t0), (2, .box [I 0, I 0, .nils, .nils]), (3, bTerm e_1_2), (8, bTerm r_9_1)] (ai (spec_l4Body_s _ _ hr_9_1) (ai bod_124 (ai (oi (aTerm r_9_1)) trivial))) ?_
   refine seqQ_norm ?_
   refine sN ?_
   refine sN ?_
   refine rg0 hc 3 [(1, .ra 1 0), (2, .ra 2 0), (4, .ra 3 0), (5, .ra 8 0), (45, .bool (t0.fOp == 5))] [(1, bTerm t0), (2, .box [I 0, I 0, .nils, .nils]), (3, bTerm e_1_2), (8, bTerm r_9_1)] ?_
   refine seqQ_norm ?_
   rcases itesome h with ⟨hb_4, h⟩ | ⟨hb_4, h⟩
   ·refine cT ((t0.fOp == 5)) hb_4 ?_
    refine sN ?_
    obtain ⟨r_11_1, hr_11_1, h⟩ := bsome h
    obtain ⟨r_11_3, hr_11_3, h⟩ := bsome h
    obtain ⟨e_11_6, hi_11_6, h⟩ := bsome h
    obtain ⟨r_11_8, hr_11_8, h⟩ := bsome h
    obtain ⟨r_11_13, hr_11_13, h⟩ := bsome h
    obtain ⟨e_11_16, hi_11_16, h⟩ := bsome h
    obtain ⟨r_11_18, hr_11_18, h⟩ := bsome h
    refine rg hc (rx [[0], [1], [0], [3], [0], [0, 4], [0, 4, 5], [0, 4, 5, 6], [8], [9], [10], [11], [0], [9, 12], [0], [0, 14], [0, 14, 15], [0, 14, 15, 16], [9, 12, 13, 14, 15, 16, 17], [9, 12, 13, 14, 15, 16, 17, 18], [9, 12, 13, 14, 15, 16, 17, 18, 19], [21], [22]]) [oN, oc (I r_11_1), oN, oc (I r_11_3), oN, oN, some (.el (aTerm e_11_6)), oN, oc (I r_11_8), oN, oN, oN, oN, oc (I r_11_13), oN, oN, some (.el (aTerm e_11_16)), oN, oc (I r_11_18), oN, oN, oN, oN] [(2, .ra 2 0), (4, .ra 3 0), (5, .ra 8 0), (6, I (wr ((wr (r_11_1 + (wr (r_11_3 * (wr (r_11_8 - 1)))))) + (wr (r_11_13 * (wr (r_11_18 - 1)))))))] [(2, .box [I 0, I 0, .nils, .nils]), (3, bTerm e_1_2), (8, bTerm r_9_1)] (ai (spec_l4Size_s _ _ hr_11_1) (ai bod_125 (ai (oi (I r_11_1)) (ai (spec_l2Uses_s _ _ hr_11_3) (ai bod_126 (ai (oi (I r_11_3)) (ai (idx_sl (enc := GTerm_S) (x := aTerm e_11_6) hi_11_6 (eq_GTerm_S e_11_6)) (ai (spec_l4Size_s _ _ hr_11_8) (ai bod_125 (ai (oi (I r_11_8)) (ai (spec_l2Uses_s _ _ hr_11_13) (ai bod_126 (ai (oi (I r_11_13)) (ai (idx_sl (enc := GTerm_S) (x := aTerm e_11_16) hi_11_16 (eq_GTerm_S e_11_16)) (ai (spec_l4Size_s _ _ hr_11_18) (ai bod_125 (ai (oi (I r_11_18)) trivial))))))))))))))))) ?_
    refine seqQ_norm ?_
    refine sN ?_
    refine sN ?_
    refine rg0 hc 2 [(2, .ra 2 0), (4, .ra 3 0), (5, .ra 8 0), (69, .bool (decide ((wr ((wr (r_11_1 + (wr (r_11_3 * (wr (r_11_8 - 1)))))) + (wr (r_11_13 * (wr (r_11_18 - 1)))))) > 400)))] [(2, .box [I 0, I 0, .nils, .nils]), (3, bTerm e_1_2), (8, bTerm r_9_1)] ?_
    refine seqQ_norm ?_
    rcases itesome h with ⟨hb_5, h⟩ | ⟨hb_5, h⟩
    ·refine cT ((decide ((wr ((wr (r_11_1 + (wr (r_11_3 * (wr (r_11_8 - 1)))))) + (wr (r_11_13 * (wr (r_11_18 - 1)))))) > 400))) hb_5 ?_
     refine sN ?_
     refine rg0 hc 3 [(2, .ra 2 0), (3, .bool false)] [(2, .box [I 0, I 0, .nils, .nils])] ?_
     refine seqQ_norm ?_
     refine Wp.retN (by kernel_rfl) ?_
     refine seqQ_ret ?_
     refine seqQ_ret ?_
     obtain rfl := Option.some.inj h
     exact RetQ.ret (fl := [true, true]) (by kernel_rfl)
    ·refine cF ((decide ((wr ((wr (r_11_1 + (wr (r_11_3 * (wr (r_11_8 - 1)))))) + (wr (r_11_13 * (wr (r_11_18 - 1)))))) > 400))) hb_5 ?_
     refine Wp.skipN (by kernel_rfl) ?_
     refine seqQ_norm ?_
     refine sN ?_
     obtain ⟨e_14_3, hi_14_3, h⟩ := bsome h
     obtain ⟨r_14_5, hr_14_5, h⟩ := bsome h
     obtain ⟨r_14_6, hr_14_6, h⟩ := bsome h
     obtain ⟨e_14_9, hi_14_9, h⟩ := bsome h
     obtain ⟨r_14_11, hr_14_11, h⟩ := bsome h
     refine rg hc (rx [[0], [0], [0, 1], [0, 1, 2], [0, 1, 2, 3], [0, 1, 2, 3, 4], [6], [0], [0, 7], [0, 7, 8], [0, 7, 8, 9], [11], [12], [13]]) [oN, oN, oN, some (.el (aTerm e_14_3)), oN, some (.call (qTerm r_14_5) [] 9), some (.call (qTerm r_14_6) [] 11), oN, oN, some (.el (aTerm e_14_9)), oN, some (.call (qTerm r_14_11) [] 13), oN, oN] [(2, .ra 2 0), (3, .bool true)] [(2, .box [I r_14_11.fOp, I r_14_11.fN, .rs 13, .rs 14]), (13, .arr (List.map I r_14_11.fType)), (14, .arr (List.map GTerm_O r_14_11.fKids))] (ai (idx_sl (enc := GTerm_S) (x := aTerm e_14_3) hi_14_3 (eq_GTerm_S e_14_3)) (ai (spec_l2Shift_s _ _ hr_14_5) (ai bod_58 (ai (oi (qTerm r_14_5)) (ai (FnSound.args (A1 := [aTerm r_9_1, I 0, hTerm r_14_5, I 0]) (A2 := [aTerm r_9_1, I 0, aTerm r_14_5, I 0]) (by simp only [sI, sB, aTerm, hTerm, List.map_nil, sh_GTerm_O, sh_I]) (spec_l2Put_s _ _ hr_14_6)) (ai bod_127 (ai (Or.inr (nsh_cons rfl (nsh_cons rfl (nsh_cons (nsh_row nsh_I r_14_6.fType) (nsh_cons (nsh_row nsh_GTerm_O r_14_6.fKids) rfl)))) : ([9, 10] : List Nat) = [] ∨ noSh (qTerm r_14_6) = true) (ai (idx_sl (enc := GTerm_S) (x := aTerm e_14_9) hi_14_9 (eq_GTerm_S e_14_9)) (ai (FnSound.args (A1 := [hTerm r_14_6, I 0, aTerm e_14_9, I 0]) (A2 := [aTerm r_14_6, I 0, aTerm e_14_9, I 0]) (by simp only [sI, sB, aTerm, hTerm, List.map_nil, sh_GTerm_O, sh_I]) (spec_l2Put_s _ _ hr_14_11)) (ai bod_127 (ai (Or.inr (nsh_cons rfl (nsh_cons rfl (nsh_cons (nsh_row nsh_I r_14_11.fType) (nsh_cons (nsh_row nsh_GTerm_O r_14_11.fKids) rfl)))) : ([11, 12] : List Nat) = [] ∨ noSh (qTerm r_14_11) = true) trivial))))))))))) ?_
     refine seqQ_norm ?_
     refine Wp.retN (by kernel_rfl) ?_
     refine seqQ_ret ?_
     obtain rfl := Option.some.inj h
     exact RetQ.ret (fl := [true, true]) (by kernel_rfl)
   ·refine cF ((t0.fOp == 5)) hb_4 ?_
    refine Wp.skipN (by kernel_rfl) ?_
    refine seqQ_norm ?_
    refine sN ?_
    refine rg hc none [oN, some (.new 15), oN] [(1, .ra 1 0), (2, .ra 2 0), (4, .ra 3 0), (5, .ra 8 0), (7, .ra 15 0)] [(1, bTerm t0), (2, .box [I 0, I 0, .nils, .nils]), (3, bTerm e_1_2), (8, bTerm r_9_1), (15, bTerm e_1_2)] trivial ?_
    refine seqQ_norm ?_
    refine sN ?_
    refine sN ?_
    refine rg0 hc 3 [(1, .ra 1 0), (2, .ra 2 0), (4, .ra 3 0), (5, .ra 8 0), (7, .ra 15 0), (86, .bool (t0.fOp == 10))] [(1, bTerm t0), (2, .box [I 0, I 0, .nils, .nils]), (3, bTerm e_1_2), (8, bTerm r_9_1), (15, bTerm e_1_2)] ?_
    refine seqQ_norm ?_
    obtain ⟨⟨arg_7, arg_8, arg_9, arg_10⟩, hj_11, h⟩ := bsome h
    refine Wp.into (x := .normal) (mkS [(2, .ra 2 0), (5, .ra 8 0), (7, .ra 15 0)] [(2, .box [I 0, I 0, .nils, .nils]), (8, bTerm r_9_1), (15, .box [I arg_7, I arg_8, sI arg_9, .sl (List.map GTerm_S arg_10)])]) ?_ ?_
    ·replace h := hj_11
     rcases itesome h with ⟨hb_6, h⟩ | ⟨hb_6, h⟩
     ·refine cT ((t0.fOp == 10)) hb_6 ?_
      obtain ⟨e_17_2, hi_17_2, h⟩ := bsome h
      refine rg hc none [oN, oN, some (.el (aTerm e_17_2)), oN, oN] [(2, .ra 2 0), (5, .ra 8 0), (7, .ra 15 0)] [(2, .box [I 0, I 0, .nils, .nils]), (8, bTerm r_9_1), (15, bTerm e_17_2)] (ai (idx_sl (enc := GTerm_S) (x := aTerm e_17_2) hi_17_2 (eq_GTerm_S e_17_2)) trivial) ?_
      obtain ⟨rfl, hq0⟩ := Prod.mk.inj (Option.some.inj h)
      obtain ⟨rfl, hq1⟩ := Prod.mk.inj (hq0)
      obtain ⟨rfl, rfl⟩ := Prod.mk.inj (hq1)
      exact Into.mk
     ·refine cF ((t0.fOp == 10)) hb_6 ?_
      obtain ⟨e_18_2, hi_18_2, h⟩ := bsome h
      refine rg hc none [oN, oN, some (.el (aTerm e_18_2)), oN, oN] [(2, .ra 2 0), (5, .ra 8 0), (7, .ra 15 0)] [(2, .box [I 0, I 0, .nils, .nils]), (8, bTerm r_9_1), (15, bTerm e_18_2)] (ai (idx_sl (enc := GTerm_S) (x := aTerm e_18_2) hi_18_2 (eq_GTerm_S e_18_2)) trivial) ?_
      obtain ⟨rfl, hq0⟩ := Prod.mk.inj (Option.some.inj h)
      obtain ⟨rfl, hq1⟩ := Prod.mk.inj (hq0)
      obtain ⟨rfl, rfl⟩ := Prod.mk.inj (hq1)
      exact Into.mk
    ·clear hj_11
     refine seqQ_norm ?_
     refine sN ?_
     refine sN ?_
     obtain ⟨r_19_1, hr_19_1, h⟩ := bsome h
     obtain ⟨r_19_3, hr_19_3, h⟩ := bsome h
     obtain ⟨r_19_5, hr_19_5, h⟩ := bsome h
     refine rg hc (rh [0, 1, 0, 3, 0, 5, 6, 7, 8, 9]) [oN, oc (I r_19_1), oN, oc (I r_19_3), oN, oc (I r_19_5), oN, oN, oN, oN] [(2, .ra 2 0), (5, .ra 8 0), (7, .ra 15 0), (104, .bool (decide ((wr (r_19_1 + (wr (r_19_3 * (wr (r_19_5 - 1)))))) > 400)))] [(2, .box [I 0, I 0, .nils, .nils]), (8, bTerm r_9_1), (15, .box [I arg_7, I arg_8, sI arg_9, .sl (List.map GTerm_S arg_10)])] (ai (spec_l4Size_s _ _ hr_19_1) (ai bod_125 (ai (oi (I r_19_1)) (ai (spec_l2Uses_s _ _ hr_19_3) (ai bod_126 (ai (oi (I r_19_3)) (ai (spec_l4Size_s _ _ hr_19_5) (ai bod_125 (ai (oi (I r_19_5)) trivial))))))))) ?_
     refine seqQ_norm ?_
     rcases itesome h with ⟨hb_12, h⟩ | ⟨hb_12, h⟩
     ·refine cT ((decide ((wr (r_19_1 + (wr (r_19_3 * (wr (r_19_5 - 1)))))) > 400))) hb_12 ?_
      refine sN ?_
      refine rg0 hc 3 [(2, .ra 2 0), (3, .bool false)] [(2, .box [I 0, I 0, .nils, .nils])] ?_
      refine seqQ_norm ?_
      refine Wp.retN (by kernel_rfl) ?_
      refine seqQ_ret ?_
      obtain rfl := Option.some.inj h
      exact RetQ.ret (fl := [true, true]) (by kernel_rfl)
     ·refine cF ((decide ((wr (r_19_1 + (wr (r_19_3 * (wr (r_19_5 - 1)))))) > 400))) hb_12 ?_
      refine Wp.skipN (by kernel_rfl) ?_
      refine seqQ_norm ?_
      refine sN ?_
      obtain ⟨r_21_2, hr_21_2, h⟩ := bsome h
      refine rg hc none [oN, oN, some (.call (qTerm r_21_2) [] 16), oN, oN] [(2, .ra 2 0), (3, .bool true)] [(2, .box [I r_21_2.fOp, I r_21_2.fN, .rs 16, .rs 17]), (16, .arr (List.map I r_21_2.fType)), (17, .arr (List.map GTerm_O r_21_2.fKids))] (ai (spec_l2Put_s _ _ hr_21_2) (ai bod_127 (ai (oi (qTerm r_21_2)) trivial))) ?_
      refine seqQ_norm ?_
      refine Wp.retN (by kernel_rfl) ?_
      obtain rfl := Option.some.inj h
      exact RetQ.ret (fl := [true, true]) (by kernel_rfl)
def spec_l4Set_F1 (c : Ctx) (t0 : GTerm) (r_3_6 : List Int) : (List GTerm) → Exit → AState → Prop
 | out_16 => Into c (.exit 0) (mkS [(6, .ra 3 0), (7, .ra 7 0)] [(3, .box [I 0, I 0, .nils, .nils]), (6, .arr (List.map I r_3_6)), (7, .box [I t0.fOp, I t0.fN, .rs 6, .rs 16]), (16, .arr (List.map GTerm_O out_16))])
mutual
def spec_l4Set (p : GTerm × (List Int) × GTerm) : Option (GTerm) :=
 match p with
 | (t0, path1, u2) =>
  if ((path1.length : Int) == 0) = true then
   (spec_l2Shift (u2, 0, 0)) >>= fun r_2_1 =>
   some r_2_1
  else
   (spec_l1Copy t0.fType) >>= fun r_3_6 =>
   (spec_l4Set_l0 (t0, path1, u2, r_3_6, [], 0)) >>= fun out_16 =>
   some (GTerm.mk t0.fOp t0.fN r_3_6 out_16)
 partial_fixpoint
def spec_l4Set_l0 (p : GTerm × (List Int) × GTerm × (List Int) × (List GTerm) × Int) : Option ((List GTerm)) :=
 match p with
 | (t0, path1, u2, r_3_6, out_11, k_6) =>
  if (decide (k_6 < (t0.fKids.length : Int))) = true then
   (idx path1 0) >>= fun e_7_2 =>
   (
    if (k_6 == e_7_2) = true then
     (idx t0.fKids k_6) >>= fun e_8_5 =>
     (cut path1 (some 1) none none) >>= fun c_8_8 =>
     (spec_l4Set (e_8_5, c_8_8, u2)) >>= fun r_8_10 =>
     (fits (out_11.length + [r_8_10].length) 64) >>= fun _ =>
     some ((out_11 ++ [r_8_10]))
    else
     (idx t0.fKids k_6) >>= fun e_9_5 =>
     (spec_l2Shift (e_9_5, 0, 0)) >>= fun r_9_7 =>
     (fits (out_11.length + [r_9_7].length) 64) >>= fun _ =>
     some ((out_11 ++ [r_9_7]))
   ) >>= fun out_14 =>
   spec_l4Set_l0 (t0, path1, u2, r_3_6, out_14, (wr (k_6 + 1)))
  else
   some (out_11)
 partial_fixpoint
end
def M_spec_l4Set (p : GTerm × (List Int) × GTerm) (r : GTerm) : Prop :=
 match p with
 | (t0, path1, u2) => FnSound Try.prog 128 [aTerm t0, sI path1, aTerm u2] (qTerm r) []
def M_spec_l4Set_l0 (p : GTerm × (List Int) × GTerm × (List Int) × (List GTerm) × Int) (fl : (List GTerm)) : Prop :=
 match p with
 | (t0, path1, u2, r_3_6, out_11, k_6) => ∀ c : Ctx, c.nt = 60 → WpL Try.prog c (cl (cl (cr (cl (cr (cr (cr B128))))))) (spec_l4Set_F1 c t0 r_3_6 fl) (mkS [(1, sI path1), (3, .ra 1 0), (5, .ra 2 0), (6, .ra 3 0), (7, .ra 7 0), (8, I k_6)] [(1, bTerm t0), (2, bTerm u2), (3, .box [I 0, I 0, .nils, .nils]), (6, .arr (List.map I r_3_6)), (7, .box [I t0.fOp, I t0.fN, .rs 6, .rs 16]), (16, .arr (List.map GTerm_O out_11))])
theorem spec_l4Set_all : (∀ p r, spec_l4Set p = some r → M_spec_l4Set p r) ∧ (∀ p r, spec_l4Set_l0 p = some r → M_spec_l4Set_l0 p r) := by
 refine spec_l4Set.mutual_partial_correctness M_spec_l4Set M_spec_l4Set_l0 ?_ ?_
 ·rintro spec_l4Set_l0_f spec_l4Set_l0_ih ⟨t0, path1, u2⟩ r h
  show FnSound Try.prog 128 [aTerm t0, sI path1, aTerm u2] (qTerm r) []
  refine FnSound.body0 tiok (fn := Try.f128) (code := B128) (by kernel_rfl) (by kernel_rfl) (by kernel_rfl) (by kernel_rfl) (nt := 60) (by kernel_rfl) (by kernel_rfl) (T := [(0, aTerm t0), (1, sI path1), (2, aTerm u2)]) (O := []) (by kernel_rfl) (by kernel_rfl) (fun c hc => ?_)
  refine sN ?_
  refine rg hc none [some (.new 1), some (.new 2), some (.new 3)] [(1, sI path1), (3, .ra 1 0), (5, .ra 2 0), (6, .ra 3 0)] [(1, bTerm t0), (2, bTerm u2), (3, .box [I 0, I 0, .nils, .nils])] trivial ?_
  refine seqQ_norm ?_
  refine sN ?_
  refine sN ?_
  refine rg hc none [oN, some (.eqv (.no) ⟨[(10, I (path1.length : Int))], [], []⟩), oN] [(1, sI path1), (3, .ra 1 0), (5, .ra 2 0), (6, .ra 3 0), (11, .bool ((path1.length : Int) == 0))] [(1, bTerm t0), (2, bTerm u2), (3, .box [I 0, I 0, .nils, .nils])] (ai (lenT (d := 10) I path1) trivial) ?_
  refine seqQ_norm ?_
  rcases itesome h with ⟨hb_1, h⟩ | ⟨hb_1, h⟩
  ·refine cT (((path1.length : Int) == 0)) hb_1 ?_
   refine sN ?_
   obtain ⟨r_2_1, hr_2_1, h⟩ := bsome h
   refine rg hc none [oN, some (.call (qTerm r_2_1) [] 4), oN] [(6, .ra 3 0)] [(3, .box [I r_2_1.fOp, I r_2_1.fN, .rs 4, .rs 5]), (4, .arr (List.map I r_2_1.fType)), (5, .arr (List.map GTerm_O r_2_1.fKids))] (ai (spec_l2Shift_s _ _ hr_2_1) (ai bod_58 (ai (oi (qTerm r_2_1)) trivial))) ?_
   refine seqQ_norm ?_
   refine Wp.retN (by kernel_rfl) ?_
   refine seqQ_ret ?_
   obtain rfl := Option.some.inj h
   exact RetQ.ret (fl := [true]) (by kernel_rfl)
  ·refine cF (((path1.length : Int) == 0)) hb_1 ?_
   refine Wp.skipN (by kernel_rfl) ?_
   refine seqQ_norm ?_
   refine sN ?_
   obtain ⟨r_3_6, hr_3_6, h⟩ := bsome h
   refine rg hc ah2_0 [oN, oN, oN, oN, oN, oN, some (.call (.osl (List.map I r_3_6)) [] 6), oN, some (.new 7), oN] [(1, sI path1), (3, .ra 1 0), (5, .ra 2 0), (6, .ra 3 0), (7, .ra 7 0)] [(1, bTerm t0), (2, bTerm u2), (3, .box [I 0, I 0, .nils, .nils]), (6, .arr (List.map I r_3_6)), (7, .box [I t0.fOp, I t0.fN, .rs 6, .nils])] (ai (spec_l1Copy_s _ _ hr_3_6) (ai bod_99 (ai (oi (.osl (List.map I r_3_6))) trivial))) ?_
   refine seqQ_norm ?_
   refine sN ?_
   refine sN ?_
   refine rg0 hc 1 [(1, sI path1), (3, .ra 1 0), (5, .ra 2 0), (6, .ra 3 0), (7, .ra 7 0), (8, I 0)] [(1, bTerm t0), (2, bTerm u2), (3, .box [I 0, I 0, .nils, .nils]), (6, .arr (List.map I r_3_6)), (7, .box [I t0.fOp, I t0.fN, .rs 6, .nils])] ?_
   refine seqQ_norm ?_
   refine Wp.blockN (i := 0) (by kernel_rfl) ?_
   obtain ⟨out_16, hl_17, h⟩ := bsome h
   have hL := spec_l4Set_l0_ih _ _ hl_17 c hc
   refine Wp.loopN (by kernel_rfl) (WpL.view (fun a w hv => SRx.renL [(16, 33)] (SRx.nilBL 7 3 33 [I t0.fOp, I t0.fN, .rs 6, .nils] hv (by kernel_rfl) (by kernel_rfl) (by kernel_rfl)) (by kernel_rfl) (by kernel_rfl) (by kernel_rfl)) (?_ : WpL _ c _ _ (mkS [(1, sI path1), (3, .ra 1 0), (5, .ra 2 0), (6, .ra 3 0), (7, .ra 7 0), (8, I 0)] [(1, bTerm t0), (2, bTerm u2), (3, .box [I 0, I 0, .nils, .nils]), (6, .arr (List.map I r_3_6)), (7, .box [I t0.fOp, I t0.fN, .rs 6, .rs 16]), (16, .arr (List.map GTerm_O []))])))
   ·refine WpL.into (e := (.exit 0)) (mkS [(6, .ra 3 0), (7, .ra 7 0)] [(3, .box [I 0, I 0, .nils, .nils]), (6, .arr (List.map I r_3_6)), (7, .box [I t0.fOp, I t0.fN, .rs 6, .rs 16]), (16, .arr (List.map GTerm_O out_16))]) hL ?_
    refine blockQ_hit ?_
    refine seqQ_norm ?_
    refine sN ?_
    refine rg0 hc 2 [(6, .ra 3 0)] [(3, .box [I t0.fOp, I t0.fN, .rs 6, .rs 16]), (6, .arr (List.map I r_3_6)), (16, .arr (List.map GTerm_O out_16))] ?_
    refine seqQ_norm ?_
    refine Wp.retN (by kernel_rfl) ?_
    obtain rfl := Option.some.inj h
    exact RetQ.ret (fl := [true]) (by kernel_rfl)
 ·rintro spec_l4Set_f spec_l4Set_l0_f spec_l4Set_ih spec_l4Set_l0_ih ⟨t0, path1, u2, r_3_6, out_11, k_6⟩ r h
  intro c hc
  show WpL Try.prog c (cl (cl (cr (cl (cr (cr (cr B128))))))) (spec_l4Set_F1 c t0 r_3_6 r) (mkS [(1, sI path1), (3, .ra 1 0), (5, .ra 2 0), (6, .ra 3 0), (7, .ra 7 0), (8, I k_6)] [(1, bTerm t0), (2, bTerm u2), (3, .box [I 0, I 0, .nils, .nils]), (6, .arr (List.map I r_3_6)), (7, .box [I t0.fOp, I t0.fN, .rs 6, .rs 16]), (16, .arr (List.map GTerm_O out_11))])
  refine WpL.step ?_
  refine sN ?_
  refine sN ?_
  refine rg hc none [oN, oN, oN, some (.eqv (.no) ⟨[(25, I (t0.fKids.length : Int))], [], []⟩), oN] [(1, sI path1), (3, .ra 1 0), (5, .ra 2 0), (6, .ra 3 0), (7, .ra 7 0), (8, I k_6), (26, .bool (decide (k_6 < (t0.fKids.length : Int))))] [(1, bTerm t0), (2, bTerm u2), (3, .box [I 0, I 0, .nils, .nils]), (6, .arr (List.map I r_3_6)), (7, .box [I t0.fOp, I t0.fN, .rs 6, .rs 16]), (16, .arr (List.map GTerm_O out_11))] (ai (lenT (d := 25) GTerm_S t0.fKids) trivial) ?_
  refine seqQ_norm ?_
  rcases itesome h with ⟨hb_12, h⟩ | ⟨hb_12, h⟩
  ·refine cT ((decide (k_6 < (t0.fKids.length : Int)))) hb_12 ?_
   refine Wp.skipN (by kernel_rfl) ?_
   refine seqQ_norm ?_
   refine sN ?_
   refine Wp.blockN (i := 1) (by kernel_rfl) ?_
   refine sN ?_
   obtain ⟨e_7_2, hi_7_2, h⟩ := bsome h
   refine rg hc none [oN, oN, some (.el (I e_7_2)), oN, oN] [(1, sI path1), (3, .ra 1 0), (5, .ra 2 0), (6, .ra 3 0), (7, .ra 7 0), (8, I k_6), (33, .bool (k_6 == e_7_2))] [(1, bTerm t0), (2, bTerm u2), (3, .box [I 0, I 0, .nils, .nils]), (6, .arr (List.map I r_3_6)), (7, .box [I t0.fOp, I t0.fN, .rs 6, .rs 16]), (16, .arr (List.map GTerm_O out_11))] (ai (ix hi_7_2) trivial) ?_
   refine seqQ_norm ?_
   obtain ⟨out_14, hj_15, h⟩ := bsome h
   refine Wp.into (x := .normal) (mkS [(1, sI path1), (3, .ra 1 0), (5, .ra 2 0), (6, .ra 3 0), (7, .ra 7 0), (8, I k_6)] [(1, bTerm t0), (2, bTerm u2), (3, .box [I 0, I 0, .nils, .nils]), (6, .arr (List.map I r_3_6)), (7, .box [I t0.fOp, I t0.fN, .rs 6, .rs 28]), (28, .arr (List.map GTerm_O out_14))]) ?_ ?_
   ·replace h := hj_15
    rcases itesome h with ⟨hb_13, h⟩ | ⟨hb_13, h⟩
    ·refine cT ((k_6 == e_7_2)) hb_13 ?_
     obtain ⟨e_8_5, hi_8_5, h⟩ := bsome h
     obtain ⟨c_8_8, hs_8_8, h⟩ := bsome h
     obtain ⟨r_8_10, hr_8_10, h⟩ := bsome h
     obtain ⟨_, hk_8_12, h⟩ := bsome h
     refine rg hc (rx [[0], [1], [0], [0, 2], [0], [0, 2, 3, 4], [0, 2, 3, 4, 5], [0], [0, 7], [0], [0, 2, 3, 4, 5, 6, 7, 8, 9], [0, 2, 3, 4, 5, 6, 7, 8, 9, 10], [12], [13], [14]]) [oN, oN, oN, oN, oN, some (.el (aTerm e_8_5)), oN, oN, some (.eqv (.no) ⟨[(42, sI c_8_8)], [], []⟩), oN, some (.call (qTerm r_8_10) [] 25), some (.eqv (.mk 27 true) ⟨[(45, .rs 27)], [(27, some (.arr (List.map GTerm_O [r_8_10]))), (25, none), (26, none)], [27]⟩), some (.eqv (.mk 28 true) ⟨[(46, .rs 28)], [(28, some (.arr (List.map GTerm_O (out_11 ++ [r_8_10])))), (16, none), (27, none)], [28]⟩), oN, oN] [(1, sI path1), (3, .ra 1 0), (5, .ra 2 0), (6, .ra 3 0), (7, .ra 7 0), (8, I k_6)] [(1, bTerm t0), (2, bTerm u2), (3, .box [I 0, I 0, .nils, .nils]), (6, .arr (List.map I r_3_6)), (7, .box [I t0.fOp, I t0.fN, .rs 6, .rs 28]), (28, .arr (List.map GTerm_O (out_11 ++ [r_8_10])))] (ai (idx_sl (enc := GTerm_S) (x := aTerm e_8_5) hi_8_5 (eq_GTerm_S e_8_5)) (ai (cut_wr (d := 42) I hs_8_8) (ai (cut_ob (enc := I) (sz := 1) sz_I hs_8_8) (ai (spec_l4Set_ih _ _ hr_8_10) (ai bod_128 (ai (oi (qTerm r_8_10)) (ai (congrArg (fun z => (⟨[(45, .rs 27)], [(27, some (.arr z)), (25, none), (26, none)], [27]⟩ : Wr)) ((rows1 (eq_GTerm_O r_8_10) rows0) : [AV.agg [I r_8_10.fOp, I r_8_10.fN, AV.osl (List.map I r_8_10.fType), AV.osl (List.map GTerm_O r_8_10.fKids)]] = List.map GTerm_O [r_8_10])) (ai (congrArg (fun z => (⟨[(46, .rs 28)], [(28, some (.arr z)), (16, none), (27, none)], [28]⟩ : Wr)) ((List.map_append).symm : (List.map GTerm_O out_11) ++ (List.map GTerm_O [r_8_10]) = List.map GTerm_O (out_11 ++ [r_8_10]))) (ai (app_ob (enc1 := GTerm_O) (enc2 := GTerm_O) (e1 := out_11) (e2 := [r_8_10]) (sz := 4) ek_GTerm_O ek_GTerm_O hk_8_12) trivial))))))))) ?_
     obtain rfl := Option.some.inj h
     exact Into.mk
    ·refine cF ((k_6 == e_7_2)) hb_13 ?_
     obtain ⟨e_9_5, hi_9_5, h⟩ := bsome h
     obtain ⟨r_9_7, hr_9_7, h⟩ := bsome h
     obtain ⟨_, hk_9_9, h⟩ := bsome h
     refine rg hc (rx [[0], [1], [0], [0, 2], [0], [0, 2, 3, 4], [0, 2, 3, 4, 5], [0, 2, 3, 4, 5, 6], [0, 2, 3, 4, 5, 6, 7], [9], [10], [11]]) [oN, oN, oN, oN, oN, some (.el (aTerm e_9_5)), oN, some (.call (qTerm r_9_7) [] 29), some (.eqv (.mk 31 true) ⟨[(56, .rs 31)], [(31, some (.arr (List.map GTerm_O [r_9_7]))), (29, none), (30, none)], [31]⟩), some (.eqv (.mk 32 true) ⟨[(57, .rs 32)], [(32, some (.arr (List.map GTerm_O (out_11 ++ [r_9_7])))), (16, none), (31, none)], [32]⟩), oN, oN] [(1, sI path1), (3, .ra 1 0), (5, .ra 2 0), (6, .ra 3 0), (7, .ra 7 0), (8, I k_6)] [(1, bTerm t0), (2, bTerm u2), (3, .box [I 0, I 0, .nils, .nils]), (6, .arr (List.map I r_3_6)), (7, .box [I t0.fOp, I t0.fN, .rs 6, .rs 32]), (32, .arr (List.map GTerm_O (out_11 ++ [r_9_7])))] (ai (idx_sl (enc := GTerm_S) (x := aTerm e_9_5) hi_9_5 (eq_GTerm_S e_9_5)) (ai (spec_l2Shift_s _ _ hr_9_7) (ai bod_58 (ai (oi (qTerm r_9_7)) (ai (congrArg (fun z => (⟨[(56, .rs 31)], [(31, some (.arr z)), (29, none), (30, none)], [31]⟩ : Wr)) ((rows1 (eq_GTerm_O r_9_7) rows0) : [AV.agg [I r_9_7.fOp, I r_9_7.fN, AV.osl (List.map I r_9_7.fType), AV.osl (List.map GTerm_O r_9_7.fKids)]] = List.map GTerm_O [r_9_7])) (ai (congrArg (fun z => (⟨[(57, .rs 32)], [(32, some (.arr z)), (16, none), (31, none)], [32]⟩ : Wr)) ((List.map_append).symm : (List.map GTerm_O out_11) ++ (List.map GTerm_O [r_9_7]) = List.map GTerm_O (out_11 ++ [r_9_7]))) (ai (app_ob (enc1 := GTerm_O) (enc2 := GTerm_O) (e1 := out_11) (e2 := [r_9_7]) (sz := 4) ek_GTerm_O ek_GTerm_O hk_9_9) trivial))))))) ?_
     obtain rfl := Option.some.inj h
     exact Into.view (fun a w hv => SRx.renL [(28, 32)] hv (by kernel_rfl) (by kernel_rfl) (by kernel_rfl))
   ·clear hj_15
    refine blockQ_norm ?_
    refine seqQ_norm ?_
    refine rg0 hc 3 [(1, sI path1), (3, .ra 1 0), (5, .ra 2 0), (6, .ra 3 0), (7, .ra 7 0), (8, I (wr (k_6 + 1)))] [(1, bTerm t0), (2, bTerm u2), (3, .box [I 0, I 0, .nils, .nils]), (6, .arr (List.map I r_3_6)), (7, .box [I t0.fOp, I t0.fN, .rs 6, .rs 28]), (28, .arr (List.map GTerm_O out_14))] ?_
    refine loopQ_norm ?_
    exact WpL.view (fun a w hv => SRx.renL [(16, 28)] hv (by kernel_rfl) (by kernel_rfl) (by kernel_rfl)) (spec_l4Set_l0_ih _ _ h c hc)
  ·refine cF ((decide (k_6 < (t0.fKids.length : Int)))) hb_12 ?_
   refine Wp.exitN (i := 0) (by kernel_rfl) ?_
   refine seqQ_exit ?_
   refine loopQ_exit ?_
   obtain rfl := Option.some.inj h
   exact Into.view (fun a w hv => SRx.renL [] hv (by kernel_rfl) (by kernel_rfl) (by kernel_rfl))
theorem spec_l4Set_s : ∀ p r, spec_l4Set p = some r → M_spec_l4Set p r := spec_l4Set_all.1
theorem spec_l4Set_l0_s : ∀ p r, spec_l4Set_l0 p = some r → M_spec_l4Set_l0 p r := spec_l4Set_all.2
def spec_ReplaceAt (p : GTerm × (List Int) × GTerm) : Option (GTerm × Bool) :=
 match p with
 | (t0, path1, u2) =>
  (spec_TermAt (t0, path1)) >>= fun (r_1_2_0, r_1_2_1) =>
  (
   if r_1_2_1 = true then
    (spec_l2Left (u2, 400)) >>= fun r_2_4 =>
    some ((decide (r_2_4 < 0)))
   else
    some (true)
  ) >>= fun v_1 =>
  if v_1 = true then
   some ((GTerm.mk 0 0 [] []), false)
  else
   (spec_l4Set (t0, path1, u2)) >>= fun r_4_3 =>
   (spec_IsWritten r_4_3) >>= fun r_5_1 =>
   if r_5_1 = true then
    some (r_4_3, true)
   else
    some ((GTerm.mk 0 0 [] []), false)
def M_spec_ReplaceAt (p : GTerm × (List Int) × GTerm) (r : GTerm × Bool) : Prop :=
 match p with
 | (t0, path1, u2) => FnSound Try.prog 91 [aTerm t0, sI path1, aTerm u2] (.tup [.agg [I r.1.fOp, I r.1.fN, .osl (List.map I r.1.fType), .osl (List.map GTerm_O r.1.fKids)], .bool r.2]) []
theorem spec_ReplaceAt_s : ∀ p r, spec_ReplaceAt p = some r → M_spec_ReplaceAt p r := by
 rintro ⟨t0, path1, u2⟩ r h
 unfold spec_ReplaceAt at h
 show FnSound Try.prog 91 [aTerm t0, sI path1, aTerm u2] (.tup [.agg [I r.1.fOp, I r.1.fN, .osl (List.map I r.1.fType), .osl (List.map GTerm_O r.1.fKids)], .bool r.2]) []
 refine FnSound.body0 tiok (fn := Try.f91) (code := B91) (by kernel_rfl) (by kernel_rfl) (by kernel_rfl) (by kernel_rfl) (nt := 34) (by kernel_rfl) (by kernel_rfl) (T := [(0, aTerm t0), (1, sI path1), (2, aTerm u2)]) (O := []) (by kernel_rfl) (by kernel_rfl) (fun c hc => ?_)
 refine sN ?_
 refine rg hc none [some (.new 1), some (.new 2), some (.new 3), oN] [(1, sI path1), (3, .ra 1 0), (5, .ra 2 0), (6, .ra 3 0)] [(1, bTerm t0), (2, bTerm u2), (3, .box [I 0, I 0, .nils, .nils])] trivial ?_
 refine seqQ_norm ?_
 refine sN ?_
 obtain ⟨⟨r_1_2_0, r_1_2_1⟩, hr_1_2, h⟩ := bsome h
 refine rg hc none [oN, oN, some (.call (.tup [qTerm r_1_2_0, .bool r_1_2_1]) [] 4), oN, oN, oN, some (.new 6), oN, oN] [(1, sI path1), (3, .ra 1 0), (5, .ra 2 0), (6, .ra 3 0), (9, .bool r_1_2_1)] [(1, bTerm t0), (2, bTerm u2), (3, .box [I 0, I 0, .nils, .nils])] (ai (spec_TermAt_s _ _ hr_1_2) (ai bod_88 (ai (oi (.tup [qTerm r_1_2_0, .bool r_1_2_1])) trivial))) ?_
 refine seqQ_norm ?_
 refine sN ?_
 refine sN ?_
 obtain ⟨v_1, hj_2, h⟩ := bsome h
 refine Wp.into (x := .normal) (mkS [(1, sI path1), (3, .ra 1 0), (5, .ra 2 0), (6, .ra 3 0), (23, .bool v_1)] [(1, bTerm t0), (2, bTerm u2), (3, .box [I 0, I 0, .nils, .nils])]) ?_ ?_
 ·replace h := hj_2
  rcases itesome h with ⟨hb_2_0, h⟩ | ⟨hb_2_0, h⟩
  ·obtain ⟨r_2_4, hr_2_4, h⟩ := bsome h
   refine rg hc none [oN, oN, oN, oN, oc (I r_2_4), oN, oF] [(1, sI path1), (3, .ra 1 0), (5, .ra 2 0), (6, .ra 3 0), (23, .bool (decide (r_2_4 < 0)))] [(1, bTerm t0), (2, bTerm u2), (3, .box [I 0, I 0, .nils, .nils])] (ar 2 (nF hb_2_0) (ai (spec_l2Left_s _ _ hr_2_4) (ai bod_97 (ai (oi (I r_2_4)) (ar 2 (nF hb_2_0) trivial))))) ?_
   obtain rfl := Option.some.inj h
   exact Into.mk
  ·refine rg hc none [oN, oN, oN, o_, o_, o_, oT] [(1, sI path1), (3, .ra 1 0), (5, .ra 2 0), (6, .ra 3 0), (23, .bool true)] [(1, bTerm t0), (2, bTerm u2), (3, .box [I 0, I 0, .nils, .nils])] (ar 3 (neF (nT hb_2_0)) (ai (nT hb_2_0) trivial)) ?_
   obtain rfl := Option.some.inj h
   exact Into.mk
 ·clear hj_2
  refine seqQ_norm ?_
  rcases itesome h with ⟨hb_3, h⟩ | ⟨hb_3, h⟩
  ·refine cT v_1 hb_3 ?_
   refine sN ?_
   refine rg0 hc 3 [(6, .ra 3 0), (7, .bool false)] [(3, .box [I 0, I 0, .nils, .nils])] ?_
   refine seqQ_norm ?_
   refine Wp.retN (by kernel_rfl) ?_
   refine seqQ_ret ?_
   obtain rfl := Option.some.inj h
   exact RetQ.ret (fl := [true, true]) (by kernel_rfl)
  ·refine cF v_1 hb_3 ?_
   refine Wp.skipN (by kernel_rfl) ?_
   refine seqQ_norm ?_
   refine sN ?_
   obtain ⟨r_4_3, hr_4_3, h⟩ := bsome h
   refine rg hc none [oN, oN, oN, some (.call (qTerm r_4_3) [] 7), some (.new 9), oN] [(6, .ra 3 0), (10, .ra 9 0)] [(3, .box [I 0, I 0, .nils, .nils]), (7, .arr (List.map I r_4_3.fType)), (8, .arr (List.map GTerm_O r_4_3.fKids)), (9, .box [I r_4_3.fOp, I r_4_3.fN, .rs 7, .rs 8])] (ai (spec_l4Set_s _ _ hr_4_3) (ai bod_128 (ai (oi (qTerm r_4_3)) trivial))) ?_
   refine seqQ_norm ?_
   refine sN ?_
   refine sN ?_
   obtain ⟨r_5_1, hr_5_1, h⟩ := bsome h
   refine rg hc none [oN, oc (.bool r_5_1), oN] [(6, .ra 3 0), (10, .ra 9 0), (31, .bool (!r_5_1))] [(3, .box [I 0, I 0, .nils, .nils]), (7, .arr (List.map I r_4_3.fType)), (8, .arr (List.map GTerm_O r_4_3.fKids)), (9, .box [I r_4_3.fOp, I r_4_3.fN, .rs 7, .rs 8])] (ai (FnSound.args (A1 := [hTerm r_4_3]) (A2 := [aTerm r_4_3]) (by simp only [sI, sB, aTerm, hTerm, List.map_nil, sh_GTerm_O, sh_I]) (spec_IsWritten_s _ _ hr_5_1)) (ai bod_56 (ai (Or.inr rfl : ([7, 8] : List Nat) = [] ∨ noSh (.bool r_5_1) = true) trivial))) ?_
   refine seqQ_norm ?_
   rcases itesome h with ⟨hb_4, h⟩ | ⟨hb_4, h⟩
   ·refine cF (!r_5_1) (nF hb_4) ?_
    refine Wp.skipN (by kernel_rfl) ?_
    refine seqQ_norm ?_
    refine sN ?_
    refine rg0 hc 3 [(6, .ra 3 0), (7, .bool true)] [(3, .box [I r_4_3.fOp, I r_4_3.fN, .rs 7, .rs 8]), (7, .arr (List.map I r_4_3.fType)), (8, .arr (List.map GTerm_O r_4_3.fKids))] ?_
    refine seqQ_norm ?_
    refine Wp.retN (by kernel_rfl) ?_
    obtain rfl := Option.some.inj h
    exact RetQ.ret (fl := [true, true]) (by kernel_rfl)
   ·refine cT (!r_5_1) (nT hb_4) ?_
    refine sN ?_
    refine rg0 hc 3 [(6, .ra 3 0), (7, .bool false)] [(3, .box [I 0, I 0, .nils, .nils])] ?_
    refine seqQ_norm ?_
    refine Wp.retN (by kernel_rfl) ?_
    refine seqQ_ret ?_
    obtain rfl := Option.some.inj h
    exact RetQ.ret (fl := [true, true]) (by kernel_rfl)
end Go.Am
