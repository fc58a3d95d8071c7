/- Functions of the program as pure functions, and that it computes them. Printed by a program of mine (gen.py). -/
import Derived.Test.YtfakfcaegabgaaaGCAF3
set_option linter.unusedVariables false
set_option linter.unusedSimpArgs false
set_option maxRecDepth 100000
namespace Go.Am
open Go Go.Proofs
def ah4_0 : Option (List (List Nat)) := rx [[0], [1], [0], [0, 2], [0], [0, 4], [0, 4, 5], [7], [0], [9]]
def ah4_1 : Option (List (List Nat)) := rx [[0], [1], [0], [0], [0], [0, 4], [0], [0, 4, 5, 6], [0, 3, 4, 5, 6, 7], [0], [0, 2, 3, 4, 5, 6, 7, 8, 9], [0, 2, 3, 4, 5, 6, 7, 8, 9, 10], [12], [13], [14]]
def ah4_2 : Option (List (List Nat)) := rx [[0], [1], [2], [3], [0], [0, 4], [0, 4, 5], [0, 4, 5, 6], [8], [9]]
def impl_shifted_c1 (p : GTerm × Int × Int × Int) : Option (GTerm) :=
 match p with
 | (v0, deep1, cap0, cap1) =>
  (
   if (decide ((wr (v0.fN - deep1)) ≥ cap0)) = true then
    some ((wr (v0.fN + cap1)))
   else
    some (v0.fN)
  ) >>= fun v_2 =>
  (impl_copyTerm (GTerm.mk v0.fOp v_2 v0.fType v0.fKids)) >>= fun r_3_1 =>
  some r_3_1
def M_impl_shifted_c1 (p : GTerm × Int × Int × Int) (r : GTerm) : Prop :=
 match p with
 | (v0, deep1, cap0, cap1) => FnSound Try.prog 162 [aTerm v0, I deep1, .ptr [I cap0] 0, .ptr [I cap1] 0] (qTerm r) []
theorem impl_shifted_c1_s : ∀ p r, impl_shifted_c1 p = some r → M_impl_shifted_c1 p r := by
 rintro ⟨v0, deep1, cap0, cap1⟩ r h
 unfold impl_shifted_c1 at h
 show FnSound Try.prog 162 [aTerm v0, I deep1, .ptr [I cap0] 0, .ptr [I cap1] 0] (qTerm r) []
 refine FnSound.body0 tiok (fn := Try.f162) (code := B162) (by kernel_rfl) (by kernel_rfl) (by kernel_rfl) (by kernel_rfl) (nt := 20) (by kernel_rfl) (by kernel_rfl) (T := [(0, aTerm v0), (1, I deep1), (2, .ptr [I cap0] 0), (3, .ptr [I cap1] 0)]) (O := []) (by kernel_rfl) (by kernel_rfl) (fun c hc => ?_)
 refine sN ?_
 refine rg hc none [some (.new 1), some (.new 2)] [(1, I deep1), (2, .ptr [I cap0] 0), (3, .ptr [I cap1] 0), (4, .ra 1 0), (6, .ra 2 0)] [(1, bTerm v0), (2, .box [I 0, I 0, .nils, .nils])] trivial ?_
 refine seqQ_norm ?_
 refine sN ?_
 refine sN ?_
 refine rg0 hc 6 [(3, .ptr [I cap1] 0), (4, .ra 1 0), (6, .ra 2 0), (12, .bool (decide ((wr (v0.fN - deep1)) ≥ cap0)))] [(1, bTerm v0), (2, .box [I 0, I 0, .nils, .nils])] ?_
 refine seqQ_norm ?_
 obtain ⟨v_2, hj_3, h⟩ := bsome h
 refine Wp.into (x := .normal) (mkS [(4, .ra 1 0), (6, .ra 2 0)] [(1, .box [I v0.fOp, I v_2, sI v0.fType, .sl (List.map GTerm_S v0.fKids)]), (2, .box [I 0, I 0, .nils, .nils])]) ?_ ?_
 ·replace h := hj_3
  rcases itesome h with ⟨hb_1, h⟩ | ⟨hb_1, h⟩
  ·refine cT ((decide ((wr (v0.fN - deep1)) ≥ cap0))) hb_1 ?_
   refine rg0 hc 6 [(4, .ra 1 0), (6, .ra 2 0)] [(1, .box [I v0.fOp, I (wr (v0.fN + cap1)), sI v0.fType, .sl (List.map GTerm_S v0.fKids)]), (2, .box [I 0, I 0, .nils, .nils])] ?_
   obtain rfl := Option.some.inj h
   exact Into.mk
  ·refine cF ((decide ((wr (v0.fN - deep1)) ≥ cap0))) hb_1 ?_
   refine Wp.skipN (by kernel_rfl) ?_
   obtain rfl := Option.some.inj h
   exact Into.view (fun a w hv => SRx.renL [] hv (by kernel_rfl) (by kernel_rfl) (by kernel_rfl))
 ·clear hj_3
  refine seqQ_norm ?_
  refine sN ?_
  obtain ⟨r_3_1, hr_3_1, h⟩ := bsome h
  refine rg hc none [oN, some (.call (qTerm r_3_1) [] 3), oN] [(6, .ra 2 0)] [(2, .box [I r_3_1.fOp, I r_3_1.fN, .rs 3, .rs 4]), (3, .arr (List.map I r_3_1.fType)), (4, .arr (List.map GTerm_O r_3_1.fKids))] (ai (impl_copyTerm_s _ _ hr_3_1) (ai bod_130 (ai (oi (qTerm r_3_1)) trivial))) ?_
  refine seqQ_norm ?_
  refine Wp.retN (by kernel_rfl) ?_
  obtain rfl := Option.some.inj h
  exact RetQ.ret (fl := [true]) (by kernel_rfl)
def impl_renamed_Kimpl_shifted_c1_F1 (c : Ctx) (t0 : GTerm) (r_3_6 : List Int) : (List GTerm) → Exit → AState → Prop
 | out_7 => Into c (.exit 0) (mkS [(6, .ra 2 0), (7, .ra 6 0)] [(2, .box [I 0, I 0, .nils, .nils]), (5, .arr (List.map I r_3_6)), (6, .box [I t0.fOp, I t0.fN, .rs 5, .rs 12]), (12, .arr (List.map GTerm_O out_7))])
mutual
def impl_renamed_Kimpl_shifted_c1 (p : GTerm × Int × Int × Int) : Option (GTerm) :=
 match p with
 | (t0, deep1, clo2_0, clo2_1) =>
  if (t0.fOp == 0) = true then
   (impl_shifted_c1 (t0, deep1, clo2_0, clo2_1)) >>= fun r_2_3 =>
   some r_2_3
  else
   (slices_Clone_int t0.fType) >>= fun r_3_6 =>
   (impl_renamed_Kimpl_shifted_c1_l0 (t0, deep1, clo2_0, clo2_1, r_3_6, [], 0)) >>= fun out_7 =>
   some (GTerm.mk t0.fOp t0.fN r_3_6 out_7)
 partial_fixpoint
def impl_renamed_Kimpl_shifted_c1_l0 (p : GTerm × Int × Int × Int × (List Int) × (List GTerm) × Int) : Option ((List GTerm)) :=
 match p with
 | (t0, deep1, clo2_0, clo2_1, r_3_6, out_5, w_3) =>
  if (decide (w_3 < (t0.fKids.length : Int))) = true then
   (idx t0.fKids w_3) >>= fun e_6_1 =>
   (impl_adds (t0.fOp, w_3)) >>= fun r_7_7 =>
   (impl_renamed_Kimpl_shifted_c1 (e_6_1, (wr (deep1 + r_7_7)), clo2_0, clo2_1)) >>= fun r_7_10 =>
   (fits (out_5.length + [r_7_10].length) 64) >>= fun _ =>
   impl_renamed_Kimpl_shifted_c1_l0 (t0, deep1, clo2_0, clo2_1, r_3_6, (out_5 ++ [r_7_10]), (wr (w_3 + 1)))
  else
   some (out_5)
 partial_fixpoint
end
def M_impl_renamed_Kimpl_shifted_c1 (p : GTerm × Int × Int × Int) (r : GTerm) : Prop :=
 match p with
 | (t0, deep1, clo2_0, clo2_1) => FnSound Try.prog 160 [aTerm t0, I deep1, .fn 162 [.ptr [I clo2_0] 0, .ptr [I clo2_1] 0]] (qTerm r) []
def M_impl_renamed_Kimpl_shifted_c1_l0 (p : GTerm × Int × Int × Int × (List Int) × (List GTerm) × Int) (fl : (List GTerm)) : Prop :=
 match p with
 | (t0, deep1, clo2_0, clo2_1, r_3_6, out_5, w_3) => ∀ c : Ctx, c.nt = 49 → WpL Try.prog c (cl (cl (cr (cl (cr (cr (cr B160))))))) (impl_renamed_Kimpl_shifted_c1_F1 c t0 r_3_6 fl) (mkS [(1, I deep1), (2, .fn 162 [.ptr [I clo2_0] 0, .ptr [I clo2_1] 0]), (3, .ra 1 0), (6, .ra 2 0), (7, .ra 6 0), (26, .sl (List.map GTerm_S t0.fKids)), (27, I (t0.fKids.length : Int)), (28, I w_3)] [(1, bTerm t0), (2, .box [I 0, I 0, .nils, .nils]), (5, .arr (List.map I r_3_6)), (6, .box [I t0.fOp, I t0.fN, .rs 5, .rs 12]), (12, .arr (List.map GTerm_O out_5))])
theorem impl_renamed_Kimpl_shifted_c1_all : (∀ p r, impl_renamed_Kimpl_shifted_c1 p = some r → M_impl_renamed_Kimpl_shifted_c1 p r) ∧ (∀ p r, impl_renamed_Kimpl_shifted_c1_l0 p = some r → M_impl_renamed_Kimpl_shifted_c1_l0 p r) := by
 refine impl_renamed_Kimpl_shifted_c1.mutual_partial_correctness M_impl_renamed_Kimpl_shifted_c1 M_impl_renamed_Kimpl_shifted_c1_l0 ?_ ?_
 ·rintro impl_renamed_Kimpl_shifted_c1_l0_f impl_renamed_Kimpl_shifted_c1_l0_ih ⟨t0, deep1, clo2_0, clo2_1⟩ r h
  show FnSound Try.prog 160 [aTerm t0, I deep1, .fn 162 [.ptr [I clo2_0] 0, .ptr [I clo2_1] 0]] (qTerm r) []
  refine FnSound.body0 tiok (fn := Try.f160) (code := B160) (by kernel_rfl) (by kernel_rfl) (by kernel_rfl) (by kernel_rfl) (nt := 49) (by kernel_rfl) (by kernel_rfl) (T := [(0, aTerm t0), (1, I deep1), (2, .fn 162 [.ptr [I clo2_0] 0, .ptr [I clo2_1] 0])]) (O := []) (by kernel_rfl) (by kernel_rfl) (fun c hc => ?_)
  refine sN ?_
  refine rg hc none [some (.new 1), some (.new 2)] [(1, I deep1), (2, .fn 162 [.ptr [I clo2_0] 0, .ptr [I clo2_1] 0]), (3, .ra 1 0), (6, .ra 2 0)] [(1, bTerm t0), (2, .box [I 0, I 0, .nils, .nils])] trivial ?_
  refine seqQ_norm ?_
  refine sN ?_
  refine sN ?_
  refine rg0 hc 3 [(1, I deep1), (2, .fn 162 [.ptr [I clo2_0] 0, .ptr [I clo2_1] 0]), (3, .ra 1 0), (6, .ra 2 0), (12, .bool (t0.fOp == 0))] [(1, bTerm t0), (2, .box [I 0, I 0, .nils, .nils])] ?_
  refine seqQ_norm ?_
  rcases itesome h with ⟨hb_1, h⟩ | ⟨hb_1, h⟩
  ·refine cT ((t0.fOp == 0)) hb_1 ?_
   refine sN ?_
   obtain ⟨r_2_3, hr_2_3, h⟩ := bsome h
   refine rg hc none [oN, oN, oN, some (.call (qTerm r_2_3) [] 3), oN] [(6, .ra 2 0)] [(2, .box [I r_2_3.fOp, I r_2_3.fN, .rs 3, .rs 4]), (3, .arr (List.map I r_2_3.fType)), (4, .arr (List.map GTerm_O r_2_3.fKids))] (ai (impl_shifted_c1_s _ _ hr_2_3) (ai bod_162 (ai (oi (qTerm r_2_3)) trivial))) ?_
   refine seqQ_norm ?_
   refine Wp.retN (by kernel_rfl) ?_
   refine seqQ_ret ?_
   obtain rfl := Option.some.inj h
   exact RetQ.ret (fl := [true]) (by kernel_rfl)
  ·refine cF ((t0.fOp == 0)) hb_1 ?_
   refine Wp.skipN (by kernel_rfl) ?_
   refine seqQ_norm ?_
   refine sN ?_
   obtain ⟨r_3_6, hr_3_6, h⟩ := bsome h
   refine rg hc ah4_0 [oN, oN, oN, oN, oN, oN, some (.call (.osl (List.map I r_3_6)) [] 5), oN, some (.new 6), oN] [(1, I deep1), (2, .fn 162 [.ptr [I clo2_0] 0, .ptr [I clo2_1] 0]), (3, .ra 1 0), (6, .ra 2 0), (7, .ra 6 0)] [(1, bTerm t0), (2, .box [I 0, I 0, .nils, .nils]), (5, .arr (List.map I r_3_6)), (6, .box [I t0.fOp, I t0.fN, .rs 5, .nils])] (ai (slices_Clone_int_s _ _ hr_3_6) (ai bod_105 (ai (oi (.osl (List.map I r_3_6))) trivial))) ?_
   refine seqQ_norm ?_
   refine sN ?_
   refine sN ?_
   refine rg hc none [oN, oN, some (.eqv (.no) ⟨[(27, I (t0.fKids.length : Int))], [], []⟩), oN] [(1, I deep1), (2, .fn 162 [.ptr [I clo2_0] 0, .ptr [I clo2_1] 0]), (3, .ra 1 0), (6, .ra 2 0), (7, .ra 6 0), (26, .sl (List.map GTerm_S t0.fKids)), (27, I (t0.fKids.length : Int)), (28, I 0)] [(1, bTerm t0), (2, .box [I 0, I 0, .nils, .nils]), (5, .arr (List.map I r_3_6)), (6, .box [I t0.fOp, I t0.fN, .rs 5, .nils])] (ai (lenT (d := 27) GTerm_S t0.fKids) trivial) ?_
   refine seqQ_norm ?_
   refine Wp.blockN (i := 0) (by kernel_rfl) ?_
   obtain ⟨out_7, hl_8, h⟩ := bsome h
   have hL := impl_renamed_Kimpl_shifted_c1_l0_ih _ _ hl_8 c hc
   refine Wp.loopN (by kernel_rfl) (WpL.view (fun a w hv => SRx.renL [(12, 23)] (SRx.nilBL 6 3 23 [I t0.fOp, I t0.fN, .rs 5, .nils] hv (by kernel_rfl) (by kernel_rfl) (by kernel_rfl)) (by kernel_rfl) (by kernel_rfl) (by kernel_rfl)) (?_ : WpL _ c _ _ (mkS [(1, I deep1), (2, .fn 162 [.ptr [I clo2_0] 0, .ptr [I clo2_1] 0]), (3, .ra 1 0), (6, .ra 2 0), (7, .ra 6 0), (26, .sl (List.map GTerm_S t0.fKids)), (27, I (t0.fKids.length : Int)), (28, I 0)] [(1, bTerm t0), (2, .box [I 0, I 0, .nils, .nils]), (5, .arr (List.map I r_3_6)), (6, .box [I t0.fOp, I t0.fN, .rs 5, .rs 12]), (12, .arr (List.map GTerm_O []))])))
   ·refine WpL.into (e := (.exit 0)) (mkS [(6, .ra 2 0), (7, .ra 6 0)] [(2, .box [I 0, I 0, .nils, .nils]), (5, .arr (List.map I r_3_6)), (6, .box [I t0.fOp, I t0.fN, .rs 5, .rs 12]), (12, .arr (List.map GTerm_O out_7))]) hL ?_
    refine blockQ_hit ?_
    refine seqQ_norm ?_
    refine sN ?_
    refine rg0 hc 2 [(6, .ra 2 0)] [(2, .box [I t0.fOp, I t0.fN, .rs 5, .rs 12]), (5, .arr (List.map I r_3_6)), (12, .arr (List.map GTerm_O out_7))] ?_
    refine seqQ_norm ?_
    refine Wp.retN (by kernel_rfl) ?_
    obtain rfl := Option.some.inj h
    exact RetQ.ret (fl := [true]) (by kernel_rfl)
 ·rintro impl_renamed_Kimpl_shifted_c1_f impl_renamed_Kimpl_shifted_c1_l0_f impl_renamed_Kimpl_shifted_c1_ih impl_renamed_Kimpl_shifted_c1_l0_ih ⟨t0, deep1, clo2_0, clo2_1, r_3_6, out_5, w_3⟩ r h
  intro c hc
  show WpL Try.prog c (cl (cl (cr (cl (cr (cr (cr B160))))))) (impl_renamed_Kimpl_shifted_c1_F1 c t0 r_3_6 r) (mkS [(1, I deep1), (2, .fn 162 [.ptr [I clo2_0] 0, .ptr [I clo2_1] 0]), (3, .ra 1 0), (6, .ra 2 0), (7, .ra 6 0), (26, .sl (List.map GTerm_S t0.fKids)), (27, I (t0.fKids.length : Int)), (28, I w_3)] [(1, bTerm t0), (2, .box [I 0, I 0, .nils, .nils]), (5, .arr (List.map I r_3_6)), (6, .box [I t0.fOp, I t0.fN, .rs 5, .rs 12]), (12, .arr (List.map GTerm_O out_5))])
  refine WpL.step ?_
  refine sN ?_
  refine rg0 hc 1 [(1, I deep1), (2, .fn 162 [.ptr [I clo2_0] 0, .ptr [I clo2_1] 0]), (3, .ra 1 0), (6, .ra 2 0), (7, .ra 6 0), (26, .sl (List.map GTerm_S t0.fKids)), (27, I (t0.fKids.length : Int)), (28, I w_3), (29, .bool (decide (w_3 < (t0.fKids.length : Int))))] [(1, bTerm t0), (2, .box [I 0, I 0, .nils, .nils]), (5, .arr (List.map I r_3_6)), (6, .box [I t0.fOp, I t0.fN, .rs 5, .rs 12]), (12, .arr (List.map GTerm_O out_5))] ?_
  refine seqQ_norm ?_
  refine sN ?_
  rcases itesome h with ⟨hb_6, h⟩ | ⟨hb_6, h⟩
  ·refine cT ((decide (w_3 < (t0.fKids.length : Int)))) hb_6 ?_
   refine Wp.skipN (by kernel_rfl) ?_
   refine seqQ_norm ?_
   refine sN ?_
   refine Wp.blockN (i := 1) (by kernel_rfl) ?_
   refine sN ?_
   obtain ⟨e_6_1, hi_6_1, h⟩ := bsome h
   refine rg hc none [oN, some (.el (aTerm e_6_1)), oN, some (.new 18), oN, oN] [(1, I deep1), (2, .fn 162 [.ptr [I clo2_0] 0, .ptr [I clo2_1] 0]), (3, .ra 1 0), (6, .ra 2 0), (7, .ra 6 0), (8, I w_3), (9, .ra 18 0), (26, .sl (List.map GTerm_S t0.fKids)), (27, I (t0.fKids.length : Int)), (28, I w_3)] [(1, bTerm t0), (2, .box [I 0, I 0, .nils, .nils]), (5, .arr (List.map I r_3_6)), (6, .box [I t0.fOp, I t0.fN, .rs 5, .rs 12]), (12, .arr (List.map GTerm_O out_5)), (18, bTerm e_6_1)] (ai (idx_sl (enc := GTerm_S) (x := aTerm e_6_1) hi_6_1 (eq_GTerm_S e_6_1)) trivial) ?_
   refine seqQ_norm ?_
   obtain ⟨r_7_7, hr_7_7, h⟩ := bsome h
   obtain ⟨r_7_10, hr_7_10, h⟩ := bsome h
   obtain ⟨_, hk_7_12, h⟩ := bsome h
   refine rg hc ah4_1 [oN, oN, oN, oN, oN, oN, oN, oc (I r_7_7), oN, oN, some (.call (qTerm r_7_10) [] 19), some (.eqv (.mk 21 true) ⟨[(44, .rs 21)], [(21, some (.arr (List.map GTerm_O [r_7_10]))), (19, none), (20, none)], [21]⟩), some (.eqv (.mk 22 true) ⟨[(45, .rs 22)], [(22, some (.arr (List.map GTerm_O (out_5 ++ [r_7_10])))), (12, none), (21, none)], [22]⟩), oN, oN] [(1, I deep1), (2, .fn 162 [.ptr [I clo2_0] 0, .ptr [I clo2_1] 0]), (3, .ra 1 0), (6, .ra 2 0), (7, .ra 6 0), (26, .sl (List.map GTerm_S t0.fKids)), (27, I (t0.fKids.length : Int)), (28, I w_3)] [(1, bTerm t0), (2, .box [I 0, I 0, .nils, .nils]), (5, .arr (List.map I r_3_6)), (6, .box [I t0.fOp, I t0.fN, .rs 5, .rs 22]), (22, .arr (List.map GTerm_O (out_5 ++ [r_7_10])))] (ai (impl_adds_s _ _ hr_7_7) (ai bod_165 (ai (oi (I r_7_7)) (ai (impl_renamed_Kimpl_shifted_c1_ih _ _ hr_7_10) (ai bod_160 (ai (oi (qTerm r_7_10)) (ai (congrArg (fun z => (⟨[(44, .rs 21)], [(21, some (.arr z)), (19, none), (20, none)], [21]⟩ : Wr)) ((rows1 (eq_GTerm_O r_7_10) rows0) : [AV.agg [I r_7_10.fOp, I r_7_10.fN, AV.osl (List.map I r_7_10.fType), AV.osl (List.map GTerm_O r_7_10.fKids)]] = List.map GTerm_O [r_7_10])) (ai (congrArg (fun z => (⟨[(45, .rs 22)], [(22, some (.arr z)), (12, none), (21, none)], [22]⟩ : Wr)) ((List.map_append).symm : (List.map GTerm_O out_5) ++ (List.map GTerm_O [r_7_10]) = List.map GTerm_O (out_5 ++ [r_7_10]))) (ai (app_ob (enc1 := GTerm_O) (enc2 := GTerm_O) (e1 := out_5) (e2 := [r_7_10]) (sz := 4) ek_GTerm_O ek_GTerm_O hk_7_12) trivial))))))))) ?_
   refine blockQ_norm ?_
   refine seqQ_norm ?_
   refine rg0 hc 2 [(1, I deep1), (2, .fn 162 [.ptr [I clo2_0] 0, .ptr [I clo2_1] 0]), (3, .ra 1 0), (6, .ra 2 0), (7, .ra 6 0), (26, .sl (List.map GTerm_S t0.fKids)), (27, I (t0.fKids.length : Int)), (28, I (wr (w_3 + 1)))] [(1, bTerm t0), (2, .box [I 0, I 0, .nils, .nils]), (5, .arr (List.map I r_3_6)), (6, .box [I t0.fOp, I t0.fN, .rs 5, .rs 22]), (22, .arr (List.map GTerm_O (out_5 ++ [r_7_10])))] ?_
   refine loopQ_norm ?_
   exact WpL.view (fun a w hv => SRx.renL [(12, 22)] hv (by kernel_rfl) (by kernel_rfl) (by kernel_rfl)) (impl_renamed_Kimpl_shifted_c1_l0_ih _ _ h c hc)
  ·refine cF ((decide (w_3 < (t0.fKids.length : Int)))) hb_6 ?_
   refine Wp.exitN (i := 0) (by kernel_rfl) ?_
   refine seqQ_exit ?_
   refine loopQ_exit ?_
   obtain rfl := Option.some.inj h
   exact Into.view (fun a w hv => SRx.renL [] hv (by kernel_rfl) (by kernel_rfl) (by kernel_rfl))
theorem impl_renamed_Kimpl_shifted_c1_s : ∀ p r, impl_renamed_Kimpl_shifted_c1 p = some r → M_impl_renamed_Kimpl_shifted_c1 p r := impl_renamed_Kimpl_shifted_c1_all.1
theorem impl_renamed_Kimpl_shifted_c1_l0_s : ∀ p r, impl_renamed_Kimpl_shifted_c1_l0 p = some r → M_impl_renamed_Kimpl_shifted_c1_l0 p r := impl_renamed_Kimpl_shifted_c1_all.2
def impl_shifted (p : GTerm × Int × Int) : Option (GTerm) :=
 match p with
 | (t0, by1, from2) =>
  (impl_renamed_Kimpl_shifted_c1 (t0, 0, from2, by1)) >>= fun r_1_2 =>
  some r_1_2
def M_impl_shifted (p : GTerm × Int × Int) (r : GTerm) : Prop :=
 match p with
 | (t0, by1, from2) => FnSound Try.prog 132 [aTerm t0, I by1, I from2] (qTerm r) []
theorem impl_shifted_s : ∀ p r, impl_shifted p = some r → M_impl_shifted p r := by
 rintro ⟨t0, by1, from2⟩ r h
 unfold impl_shifted at h
 show FnSound Try.prog 132 [aTerm t0, I by1, I from2] (qTerm r) []
 refine FnSound.body0 tiok (fn := Try.f132) (code := B132) (by kernel_rfl) (by kernel_rfl) (by kernel_rfl) (by kernel_rfl) (nt := 10) (by kernel_rfl) (by kernel_rfl) (T := [(0, aTerm t0), (1, I by1), (2, I from2)]) (O := []) (by kernel_rfl) (by kernel_rfl) (fun c hc => ?_)
 refine sN ?_
 refine rg hc none [some (.new 1), some (.new 2), some (.new 3), some (.new 4)] [(3, .ra 1 0), (4, .ra 2 0), (5, .ra 3 0), (6, .ra 4 0)] [(1, bTerm t0), (2, .box [I by1]), (3, .box [I from2]), (4, .box [I 0, I 0, .nils, .nils])] trivial ?_
 refine seqQ_norm ?_
 refine sN ?_
 obtain ⟨r_1_2, hr_1_2, h⟩ := bsome h
 refine rg hc none [oN, oN, some (.call (qTerm r_1_2) [] 5), oN] [(6, .ra 4 0)] [(4, .box [I r_1_2.fOp, I r_1_2.fN, .rs 5, .rs 6]), (5, .arr (List.map I r_1_2.fType)), (6, .arr (List.map GTerm_O r_1_2.fKids))] (ai (impl_renamed_Kimpl_shifted_c1_s _ _ hr_1_2) (ai bod_160 (ai (Or.inr (nsh_cons rfl (nsh_cons rfl (nsh_cons (nsh_row nsh_I r_1_2.fType) (nsh_cons (nsh_row nsh_GTerm_O r_1_2.fKids) rfl)))) : ([3, 2] : List Nat) = [] ∨ noSh (qTerm r_1_2) = true) trivial))) ?_
 refine seqQ_norm ?_
 refine Wp.retN (by kernel_rfl) ?_
 obtain rfl := Option.some.inj h
 exact RetQ.ret (fl := [true]) (by kernel_rfl)
def impl_substituted_c1 (p : GTerm × Int × Int × GTerm) : Option (GTerm) :=
 match p with
 | (v0, deep1, cap0, cap1) =>
  if ((wr (v0.fN - deep1)) == cap0) = true then
   (impl_shifted (cap1, deep1, 0)) >>= fun r_3_2 =>
   some r_3_2
  else
   (
    if (decide ((wr (v0.fN - deep1)) > cap0)) = true then
     some ((wr (v0.fN - 1)))
    else
     some (v0.fN)
   ) >>= fun v_3 =>
   (impl_copyTerm (GTerm.mk v0.fOp v_3 v0.fType v0.fKids)) >>= fun r_6_1 =>
   some r_6_1
def M_impl_substituted_c1 (p : GTerm × Int × Int × GTerm) (r : GTerm) : Prop :=
 match p with
 | (v0, deep1, cap0, cap1) => FnSound Try.prog 161 [aTerm v0, I deep1, .ptr [I cap0] 0, .ptr [I cap1.fOp, I cap1.fN, sI cap1.fType, .sl (List.map GTerm_S cap1.fKids)] 0] (qTerm r) []
theorem impl_substituted_c1_s : ∀ p r, impl_substituted_c1 p = some r → M_impl_substituted_c1 p r := by
 rintro ⟨v0, deep1, cap0, cap1⟩ r h
 unfold impl_substituted_c1 at h
 show FnSound Try.prog 161 [aTerm v0, I deep1, .ptr [I cap0] 0, .ptr [I cap1.fOp, I cap1.fN, sI cap1.fType, .sl (List.map GTerm_S cap1.fKids)] 0] (qTerm r) []
 refine FnSound.body0 tiok (fn := Try.f161) (code := B161) (by kernel_rfl) (by kernel_rfl) (by kernel_rfl) (by kernel_rfl) (nt := 29) (by kernel_rfl) (by kernel_rfl) (T := [(0, aTerm v0), (1, I deep1), (2, .ptr [I cap0] 0), (3, .ptr [I cap1.fOp, I cap1.fN, sI cap1.fType, .sl (List.map GTerm_S cap1.fKids)] 0)]) (O := []) (by kernel_rfl) (by kernel_rfl) (fun c hc => ?_)
 refine sN ?_
 refine rg hc none [some (.new 1), some (.new 2)] [(1, I deep1), (2, .ptr [I cap0] 0), (3, .ptr [I cap1.fOp, I cap1.fN, sI cap1.fType, .sl (List.map GTerm_S cap1.fKids)] 0), (4, .ra 1 0), (6, .ra 2 0)] [(1, bTerm v0), (2, .box [I 0, I 0, .nils, .nils])] trivial ?_
 refine seqQ_norm ?_
 refine sN ?_
 refine sN ?_
 refine rg0 hc 5 [(1, I deep1), (2, .ptr [I cap0] 0), (3, .ptr [I cap1.fOp, I cap1.fN, sI cap1.fType, .sl (List.map GTerm_S cap1.fKids)] 0), (4, .ra 1 0), (6, .ra 2 0), (7, I (wr (v0.fN - deep1)))] [(1, bTerm v0), (2, .box [I 0, I 0, .nils, .nils])] ?_
 refine seqQ_norm ?_
 refine Wp.blockN (i := 0) (by kernel_rfl) ?_
 refine sN ?_
 refine rg0 hc 4 [(1, I deep1), (2, .ptr [I cap0] 0), (3, .ptr [I cap1.fOp, I cap1.fN, sI cap1.fType, .sl (List.map GTerm_S cap1.fKids)] 0), (4, .ra 1 0), (6, .ra 2 0), (7, I (wr (v0.fN - deep1))), (12, .bool ((wr (v0.fN - deep1)) == cap0))] [(1, bTerm v0), (2, .box [I 0, I 0, .nils, .nils])] ?_
 refine seqQ_norm ?_
 rcases itesome h with ⟨hb_1, h⟩ | ⟨hb_1, h⟩
 ·refine cT (((wr (v0.fN - deep1)) == cap0)) hb_1 ?_
  refine sN ?_
  obtain ⟨r_3_2, hr_3_2, h⟩ := bsome h
  refine rg hc none [oN, oN, some (.call (qTerm r_3_2) [] 3), oN] [(6, .ra 2 0)] [(2, .box [I r_3_2.fOp, I r_3_2.fN, .rs 3, .rs 4]), (3, .arr (List.map I r_3_2.fType)), (4, .arr (List.map GTerm_O r_3_2.fKids))] (ai (impl_shifted_s _ _ hr_3_2) (ai bod_132 (ai (oi (qTerm r_3_2)) trivial))) ?_
  refine seqQ_norm ?_
  refine Wp.retN (by kernel_rfl) ?_
  refine blockQ_ret ?_
  refine seqQ_ret ?_
  obtain rfl := Option.some.inj h
  exact RetQ.ret (fl := [true]) (by kernel_rfl)
 ·refine cF (((wr (v0.fN - deep1)) == cap0)) hb_1 ?_
  refine sN ?_
  refine rg0 hc 4 [(4, .ra 1 0), (6, .ra 2 0), (19, .bool (decide ((wr (v0.fN - deep1)) > cap0)))] [(1, bTerm v0), (2, .box [I 0, I 0, .nils, .nils])] ?_
  refine seqQ_norm ?_
  obtain ⟨v_3, hj_4, h⟩ := bsome h
  refine Wp.into (x := .normal) (mkS [(4, .ra 1 0), (6, .ra 2 0)] [(1, .box [I v0.fOp, I v_3, sI v0.fType, .sl (List.map GTerm_S v0.fKids)]), (2, .box [I 0, I 0, .nils, .nils])]) ?_ ?_
  ·replace h := hj_4
   rcases itesome h with ⟨hb_2, h⟩ | ⟨hb_2, h⟩
   ·refine cT ((decide ((wr (v0.fN - deep1)) > cap0))) hb_2 ?_
    refine rg0 hc 5 [(4, .ra 1 0), (6, .ra 2 0)] [(1, .box [I v0.fOp, I (wr (v0.fN - 1)), sI v0.fType, .sl (List.map GTerm_S v0.fKids)]), (2, .box [I 0, I 0, .nils, .nils])] ?_
    obtain rfl := Option.some.inj h
    exact Into.mk
   ·refine cF ((decide ((wr (v0.fN - deep1)) > cap0))) hb_2 ?_
    refine Wp.skipN (by kernel_rfl) ?_
    obtain rfl := Option.some.inj h
    exact Into.view (fun a w hv => SRx.renL [] hv (by kernel_rfl) (by kernel_rfl) (by kernel_rfl))
  ·clear hj_4
   refine blockQ_norm ?_
   refine seqQ_norm ?_
   refine sN ?_
   obtain ⟨r_6_1, hr_6_1, h⟩ := bsome h
   refine rg hc none [oN, some (.call (qTerm r_6_1) [] 5), oN] [(6, .ra 2 0)] [(2, .box [I r_6_1.fOp, I r_6_1.fN, .rs 5, .rs 6]), (5, .arr (List.map I r_6_1.fType)), (6, .arr (List.map GTerm_O r_6_1.fKids))] (ai (impl_copyTerm_s _ _ hr_6_1) (ai bod_130 (ai (oi (qTerm r_6_1)) trivial))) ?_
   refine seqQ_norm ?_
   refine Wp.retN (by kernel_rfl) ?_
   obtain rfl := Option.some.inj h
   exact RetQ.ret (fl := [true]) (by kernel_rfl)
def impl_renamed_Kimpl_substituted_c1_F1 (c : Ctx) (t0 : GTerm) (r_3_6 : List Int) : (List GTerm) → Exit → AState → Prop
 | out_7 => Into c (.exit 0) (mkS [(6, .ra 2 0), (7, .ra 6 0)] [(2, .box [I 0, I 0, .nils, .nils]), (5, .arr (List.map I r_3_6)), (6, .box [I t0.fOp, I t0.fN, .rs 5, .rs 12]), (12, .arr (List.map GTerm_O out_7))])
mutual
def impl_renamed_Kimpl_substituted_c1 (p : GTerm × Int × Int × GTerm) : Option (GTerm) :=
 match p with
 | (t0, deep1, clo2_0, clo2_1) =>
  if (t0.fOp == 0) = true then
   (impl_substituted_c1 (t0, deep1, clo2_0, clo2_1)) >>= fun r_2_3 =>
   some r_2_3
  else
   (slices_Clone_int t0.fType) >>= fun r_3_6 =>
   (impl_renamed_Kimpl_substituted_c1_l0 (t0, deep1, clo2_0, clo2_1, r_3_6, [], 0)) >>= fun out_7 =>
   some (GTerm.mk t0.fOp t0.fN r_3_6 out_7)
 partial_fixpoint
def impl_renamed_Kimpl_substituted_c1_l0 (p : GTerm × Int × Int × GTerm × (List Int) × (List GTerm) × Int) : Option ((List GTerm)) :=
 match p with
 | (t0, deep1, clo2_0, clo2_1, r_3_6, out_5, w_3) =>
  if (decide (w_3 < (t0.fKids.length : Int))) = true then
   (idx t0.fKids w_3) >>= fun e_6_1 =>
   (impl_adds (t0.fOp, w_3)) >>= fun r_7_7 =>
   (impl_renamed_Kimpl_substituted_c1 (e_6_1, (wr (deep1 + r_7_7)), clo2_0, clo2_1)) >>= fun r_7_10 =>
   (fits (out_5.length + [r_7_10].length) 64) >>= fun _ =>
   impl_renamed_Kimpl_substituted_c1_l0 (t0, deep1, clo2_0, clo2_1, r_3_6, (out_5 ++ [r_7_10]), (wr (w_3 + 1)))
  else
   some (out_5)
 partial_fixpoint
end
def M_impl_renamed_Kimpl_substituted_c1 (p : GTerm × Int × Int × GTerm) (r : GTerm) : Prop :=
 match p with
 | (t0, deep1, clo2_0, clo2_1) => FnSound Try.prog 160 [aTerm t0, I deep1, .fn 161 [.ptr [I clo2_0] 0, .ptr [I clo2_1.fOp, I clo2_1.fN, sI clo2_1.fType, .sl (List.map GTerm_S clo2_1.fKids)] 0]] (qTerm r) []
def M_impl_renamed_Kimpl_substituted_c1_l0 (p : GTerm × Int × Int × GTerm × (List Int) × (List GTerm) × Int) (fl : (List GTerm)) : Prop :=
 match p with
 | (t0, deep1, clo2_0, clo2_1, r_3_6, out_5, w_3) => ∀ c : Ctx, c.nt = 49 → WpL Try.prog c (cl (cl (cr (cl (cr (cr (cr B160))))))) (impl_renamed_Kimpl_substituted_c1_F1 c t0 r_3_6 fl) (mkS [(1, I deep1), (2, .fn 161 [.ptr [I clo2_0] 0, .ptr [I clo2_1.fOp, I clo2_1.fN, sI clo2_1.fType, .sl (List.map GTerm_S clo2_1.fKids)] 0]), (3, .ra 1 0), (6, .ra 2 0), (7, .ra 6 0), (26, .sl (List.map GTerm_S t0.fKids)), (27, I (t0.fKids.length : Int)), (28, I w_3)] [(1, bTerm t0), (2, .box [I 0, I 0, .nils, .nils]), (5, .arr (List.map I r_3_6)), (6, .box [I t0.fOp, I t0.fN, .rs 5, .rs 12]), (12, .arr (List.map GTerm_O out_5))])
theorem impl_renamed_Kimpl_substituted_c1_all : (∀ p r, impl_renamed_Kimpl_substituted_c1 p = some r → M_impl_renamed_Kimpl_substituted_c1 p r) ∧ (∀ p r, impl_renamed_Kimpl_substituted_c1_l0 p = some r → M_impl_renamed_Kimpl_substituted_c1_l0 p r) := by
 refine impl_renamed_Kimpl_substituted_c1.mutual_partial_correctness M_impl_renamed_Kimpl_substituted_c1 M_impl_renamed_Kimpl_substituted_c1_l0 ?_ ?_
 ·rintro impl_renamed_Kimpl_substituted_c1_l0_f impl_renamed_Kimpl_substituted_c1_l0_ih ⟨t0, deep1, clo2_0, clo2_1⟩ r h
  show FnSound Try.prog 160 [aTerm t0, I deep1, .fn 161 [.ptr [I clo2_0] 0, .ptr [I clo2_1.fOp, I clo2_1.fN, sI clo2_1.fType, .sl (List.map GTerm_S clo2_1.fKids)] 0]] (qTerm r) []
  refine FnSound.body0 tiok (fn := Try.f160) (code := B160) (by kernel_rfl) (by kernel_rfl) (by kernel_rfl) (by kernel_rfl) (nt := 49) (by kernel_rfl) (by kernel_rfl) (T := [(0, aTerm t0), (1, I deep1), (2, .fn 161 [.ptr [I clo2_0] 0, .ptr [I clo2_1.fOp, I clo2_1.fN, sI clo2_1.fType, .sl (List.map GTerm_S clo2_1.fKids)] 0])]) (O := []) (by kernel_rfl) (by kernel_rfl) (fun c hc => ?_)
  refine sN ?_
  refine rg hc none [some (.new 1), some (.new 2)] [(1, I deep1), (2, .fn 161 [.ptr [I clo2_0] 0, .ptr [I clo2_1.fOp, I clo2_1.fN, sI clo2_1.fType, .sl (List.map GTerm_S clo2_1.fKids)] 0]), (3, .ra 1 0), (6, .ra 2 0)] [(1, bTerm t0), (2, .box [I 0, I 0, .nils, .nils])] trivial ?_
  refine seqQ_norm ?_
  refine sN ?_
  refine sN ?_
  refine rg0 hc 3 [(1, I deep1), (2, .fn 161 [.ptr [I clo2_0] 0, .ptr [I clo2_1.fOp, I clo2_1.fN, sI clo2_1.fType, .sl (List.map GTerm_S clo2_1.fKids)] 0]), (3, .ra 1 0), (6, .ra 2 0), (12, .bool (t0.fOp == 0))] [(1, bTerm t0), (2, .box [I 0, I 0, .nils, .nils])] ?_
  refine seqQ_norm ?_
  rcases itesome h with ⟨hb_1, h⟩ | ⟨hb_1, h⟩
  ·refine cT ((t0.fOp == 0)) hb_1 ?_
   refine sN ?_
   obtain ⟨r_2_3, hr_2_3, h⟩ := bsome h
   refine rg hc none [oN, oN, oN, some (.call (qTerm r_2_3) [] 3), oN] [(6, .ra 2 0)] [(2, .box [I r_2_3.fOp, I r_2_3.fN, .rs 3, .rs 4]), (3, .arr (List.map I r_2_3.fType)), (4, .arr (List.map GTerm_O r_2_3.fKids))] (ai (impl_substituted_c1_s _ _ hr_2_3) (ai bod_161 (ai (oi (qTerm r_2_3)) trivial))) ?_
   refine seqQ_norm ?_
   refine Wp.retN (by kernel_rfl) ?_
   refine seqQ_ret ?_
   obtain rfl := Option.some.inj h
   exact RetQ.ret (fl := [true]) (by kernel_rfl)
  ·refine cF ((t0.fOp == 0)) hb_1 ?_
   refine Wp.skipN (by kernel_rfl) ?_
   refine seqQ_norm ?_
   refine sN ?_
   obtain ⟨r_3_6, hr_3_6, h⟩ := bsome h
   refine rg hc ah4_0 [oN, oN, oN, oN, oN, oN, some (.call (.osl (List.map I r_3_6)) [] 5), oN, some (.new 6), oN] [(1, I deep1), (2, .fn 161 [.ptr [I clo2_0] 0, .ptr [I clo2_1.fOp, I clo2_1.fN, sI clo2_1.fType, .sl (List.map GTerm_S clo2_1.fKids)] 0]), (3, .ra 1 0), (6, .ra 2 0), (7, .ra 6 0)] [(1, bTerm t0), (2, .box [I 0, I 0, .nils, .nils]), (5, .arr (List.map I r_3_6)), (6, .box [I t0.fOp, I t0.fN, .rs 5, .nils])] (ai (slices_Clone_int_s _ _ hr_3_6) (ai bod_105 (ai (oi (.osl (List.map I r_3_6))) trivial))) ?_
   refine seqQ_norm ?_
   refine sN ?_
   refine sN ?_
   refine rg hc none [oN, oN, some (.eqv (.no) ⟨[(27, I (t0.fKids.length : Int))], [], []⟩), oN] [(1, I deep1), (2, .fn 161 [.ptr [I clo2_0] 0, .ptr [I clo2_1.fOp, I clo2_1.fN, sI clo2_1.fType, .sl (List.map GTerm_S clo2_1.fKids)] 0]), (3, .ra 1 0), (6, .ra 2 0), (7, .ra 6 0), (26, .sl (List.map GTerm_S t0.fKids)), (27, I (t0.fKids.length : Int)), (28, I 0)] [(1, bTerm t0), (2, .box [I 0, I 0, .nils, .nils]), (5, .arr (List.map I r_3_6)), (6, .box [I t0.fOp, I t0.fN, .rs 5, .nils])] (ai (lenT (d := 27) GTerm_S t0.fKids) trivial) ?_
   refine seqQ_norm ?_
   refine Wp.blockN (i := 0) (by kernel_rfl) ?_
   obtain ⟨out_7, hl_8, h⟩ := bsome h
   have hL := impl_renamed_Kimpl_substituted_c1_l0_ih _ _ hl_8 c hc
   refine Wp.loopN (by kernel_rfl) (WpL.view (fun a w hv => SRx.renL [(12, 23)] (SRx.nilBL 6 3 23 [I t0.fOp, I t0.fN, .rs 5, .nils] hv (by kernel_rfl) (by kernel_rfl) (by kernel_rfl)) (by kernel_rfl) (by kernel_rfl) (by kernel_rfl)) (?_ : WpL _ c _ _ (mkS [(1, I deep1), (2, .fn 161 [.ptr [I clo2_0] 0, .ptr [I clo2_1.fOp, I clo2_1.fN, sI clo2_1.fType, .sl (List.map GTerm_S clo2_1.fKids)] 0]), (3, .ra 1 0), (6, .ra 2 0), (7, .ra 6 0), (26, .sl (List.map GTerm_S t0.fKids)), (27, I (t0.fKids.length : Int)), (28, I 0)] [(1, bTerm t0), (2, .box [I 0, I 0, .nils, .nils]), (5, .arr (List.map I r_3_6)), (6, .box [I t0.fOp, I t0.fN, .rs 5, .rs 12]), (12, .arr (List.map GTerm_O []))])))
   ·refine WpL.into (e := (.exit 0)) (mkS [(6, .ra 2 0), (7, .ra 6 0)] [(2, .box [I 0, I 0, .nils, .nils]), (5, .arr (List.map I r_3_6)), (6, .box [I t0.fOp, I t0.fN, .rs 5, .rs 12]), (12, .arr (List.map GTerm_O out_7))]) hL ?_
    refine blockQ_hit ?_
    refine seqQ_norm ?_
    refine sN ?_
    refine rg0 hc 2 [(6, .ra 2 0)] [(2, .box [I t0.fOp, I t0.fN, .rs 5, .rs 12]), (5, .arr (List.map I r_3_6)), (12, .arr (List.map GTerm_O out_7))] ?_
    refine seqQ_norm ?_
    refine Wp.retN (by kernel_rfl) ?_
    obtain rfl := Option.some.inj h
    exact RetQ.ret (fl := [true]) (by kernel_rfl)
 ·rintro impl_renamed_Kimpl_substituted_c1_f impl_renamed_Kimpl_substituted_c1_l0_f impl_renamed_Kimpl_substituted_c1_ih impl_renamed_Kimpl_substituted_c1_l0_ih ⟨t0, deep1, clo2_0, clo2_1, r_3_6, out_5, w_3⟩ r h
  intro c hc
  show WpL Try.prog c (cl (cl (cr (cl (cr (cr (cr B160))))))) (impl_renamed_Kimpl_substituted_c1_F1 c t0 r_3_6 r) (mkS [(1, I deep1), (2, .fn 161 [.ptr [I clo2_0] 0, .ptr [I clo2_1.fOp, I clo2_1.fN, sI clo2_1.fType, .sl (List.map GTerm_S clo2_1.fKids)] 0]), (3, .ra 1 0), (6, .ra 2 0), (7, .ra 6 0), (26, .sl (List.map GTerm_S t0.fKids)), (27, I (t0.fKids.length : Int)), (28, I w_3)] [(1, bTerm t0), (2, .box [I 0, I 0, .nils, .nils]), (5, .arr (List.map I r_3_6)), (6, .box [I t0.fOp, I t0.fN, .rs 5, .rs 12]), (12, .arr (List.map GTerm_O out_5))])
  refine WpL.step ?_
  refine sN ?_
  refine rg0 hc 1 [(1, I deep1), (2, .fn 161 [.ptr [I clo2_0] 0, .ptr [I clo2_1.fOp, I clo2_1.fN, sI clo2_1.fType, .sl (List.map GTerm_S clo2_1.fKids)] 0]), (3, .ra 1 0), (6, .ra 2 0), (7, .ra 6 0), (26, .sl (List.map GTerm_S t0.fKids)), (27, I (t0.fKids.length : Int)), (28, I w_3), (29, .bool (decide (w_3 < (t0.fKids.length : Int))))] [(1, bTerm t0), (2, .box [I 0, I 0, .nils, .nils]), (5, .arr (List.map I r_3_6)), (6, .box [I t0.fOp, I t0.fN, .rs 5, .rs 12]), (12, .arr (List.map GTerm_O out_5))] ?_
  refine seqQ_norm ?_
  refine sN ?_
  rcases itesome h with ⟨hb_6, h⟩ | ⟨hb_6, h⟩
  ·refine cT ((decide (w_3 < (t0.fKids.length : Int)))) hb_6 ?_
   refine Wp.skipN (by kernel_rfl) ?_
   refine seqQ_norm ?_
   refine sN ?_
   refine Wp.blockN (i := 1) (by kernel_rfl) ?_
   refine sN ?_
   obtain ⟨e_6_1, hi_6_1, h⟩ := bsome h
   refine rg hc none [oN, some (.el (aTerm e_6_1)), oN, some (.new 18), oN, oN] [(1, I deep1), (2, .fn 161 [.ptr [I clo2_0] 0, .ptr [I clo2_1.fOp, I clo2_1.fN, sI clo2_1.fType, .sl (List.map GTerm_S clo2_1.fKids)] 0]), (3, .ra 1 0), (6, .ra 2 0), (7, .ra 6 0), (8, I w_3), (9, .ra 18 0), (26, .sl (List.map GTerm_S t0.fKids)), (27, I (t0.fKids.length : Int)), (28, I w_3)] [(1, bTerm t0), (2, .box [I 0, I 0, .nils, .nils]), (5, .arr (List.map I r_3_6)), (6, .box [I t0.fOp, I t0.fN, .rs 5, .rs 12]), (12, .arr (List.map GTerm_O out_5)), (18, bTerm e_6_1)] (ai (idx_sl (enc := GTerm_S) (x := aTerm e_6_1) hi_6_1 (eq_GTerm_S e_6_1)) trivial) ?_
   refine seqQ_norm ?_
   obtain ⟨r_7_7, hr_7_7, h⟩ := bsome h
   obtain ⟨r_7_10, hr_7_10, h⟩ := bsome h
   obtain ⟨_, hk_7_12, h⟩ := bsome h
   refine rg hc ah4_1 [oN, oN, oN, oN, oN, oN, oN, oc (I r_7_7), oN, oN, some (.call (qTerm r_7_10) [] 19), some (.eqv (.mk 21 true) ⟨[(44, .rs 21)], [(21, some (.arr (List.map GTerm_O [r_7_10]))), (19, none), (20, none)], [21]⟩), some (.eqv (.mk 22 true) ⟨[(45, .rs 22)], [(22, some (.arr (List.map GTerm_O (out_5 ++ [r_7_10])))), (12, none), (21, none)], [22]⟩), oN, oN] [(1, I deep1), (2, .fn 161 [.ptr [I clo2_0] 0, .ptr [I clo2_1.fOp, I clo2_1.fN, sI clo2_1.fType, .sl (List.map GTerm_S clo2_1.fKids)] 0]), (3, .ra 1 0), (6, .ra 2 0), (7, .ra 6 0), (26, .sl (List.map GTerm_S t0.fKids)), (27, I (t0.fKids.length : Int)), (28, I w_3)] [(1, bTerm t0), (2, .box [I 0, I 0, .nils, .nils]), (5, .arr (List.map I r_3_6)), (6, .box [I t0.fOp, I t0.fN, .rs 5, .rs 22]), (22, .arr (List.map GTerm_O (out_5 ++ [r_7_10])))] (ai (impl_adds_s _ _ hr_7_7) (ai bod_165 (ai (oi (I r_7_7)) (ai (impl_renamed_Kimpl_substituted_c1_ih _ _ hr_7_10) (ai bod_160 (ai (oi (qTerm r_7_10)) (ai (congrArg (fun z => (⟨[(44, .rs 21)], [(21, some (.arr z)), (19, none), (20, none)], [21]⟩ : Wr)) ((rows1 (eq_GTerm_O r_7_10) rows0) : [AV.agg [I r_7_10.fOp, I r_7_10.fN, AV.osl (List.map I r_7_10.fType), AV.osl (List.map GTerm_O r_7_10.fKids)]] = List.map GTerm_O [r_7_10])) (ai (congrArg (fun z => (⟨[(45, .rs 22)], [(22, some (.arr z)), (12, none), (21, none)], [22]⟩ : Wr)) ((List.map_append).symm : (List.map GTerm_O out_5) ++ (List.map GTerm_O [r_7_10]) = List.map GTerm_O (out_5 ++ [r_7_10]))) (ai (app_ob (enc1 := GTerm_O) (enc2 := GTerm_O) (e1 := out_5) (e2 := [r_7_10]) (sz := 4) ek_GTerm_O ek_GTerm_O hk_7_12) trivial))))))))) ?_
   refine blockQ_norm ?_
   refine seqQ_norm ?_
   refine rg0 hc 2 [(1, I deep1), (2, .fn 161 [.ptr [I clo2_0] 0, .ptr [I clo2_1.fOp, I clo2_1.fN, sI clo2_1.fType, .sl (List.map GTerm_S clo2_1.fKids)] 0]), (3, .ra 1 0), (6, .ra 2 0), (7, .ra 6 0), (26, .sl (List.map GTerm_S t0.fKids)), (27, I (t0.fKids.length : Int)), (28, I (wr (w_3 + 1)))] [(1, bTerm t0), (2, .box [I 0, I 0, .nils, .nils]), (5, .arr (List.map I r_3_6)), (6, .box [I t0.fOp, I t0.fN, .rs 5, .rs 22]), (22, .arr (List.map GTerm_O (out_5 ++ [r_7_10])))] ?_
   refine loopQ_norm ?_
   exact WpL.view (fun a w hv => SRx.renL [(12, 22)] hv (by kernel_rfl) (by kernel_rfl) (by kernel_rfl)) (impl_renamed_Kimpl_substituted_c1_l0_ih _ _ h c hc)
  ·refine cF ((decide (w_3 < (t0.fKids.length : Int)))) hb_6 ?_
   refine Wp.exitN (i := 0) (by kernel_rfl) ?_
   refine seqQ_exit ?_
   refine loopQ_exit ?_
   obtain rfl := Option.some.inj h
   exact Into.view (fun a w hv => SRx.renL [] hv (by kernel_rfl) (by kernel_rfl) (by kernel_rfl))
theorem impl_renamed_Kimpl_substituted_c1_s : ∀ p r, impl_renamed_Kimpl_substituted_c1 p = some r → M_impl_renamed_Kimpl_substituted_c1 p r := impl_renamed_Kimpl_substituted_c1_all.1
theorem impl_renamed_Kimpl_substituted_c1_l0_s : ∀ p r, impl_renamed_Kimpl_substituted_c1_l0 p = some r → M_impl_renamed_Kimpl_substituted_c1_l0 p r := impl_renamed_Kimpl_substituted_c1_all.2
def impl_substituted (p : GTerm × Int × GTerm) : Option (GTerm) :=
 match p with
 | (t0, i1, u2) =>
  (impl_renamed_Kimpl_substituted_c1 (t0, 0, i1, u2)) >>= fun r_1_2 =>
  some r_1_2
def M_impl_substituted (p : GTerm × Int × GTerm) (r : GTerm) : Prop :=
 match p with
 | (t0, i1, u2) => FnSound Try.prog 131 [aTerm t0, I i1, aTerm u2] (qTerm r) []
theorem impl_substituted_s : ∀ p r, impl_substituted p = some r → M_impl_substituted p r := by
 rintro ⟨t0, i1, u2⟩ r h
 unfold impl_substituted at h
 show FnSound Try.prog 131 [aTerm t0, I i1, aTerm u2] (qTerm r) []
 refine FnSound.body0 tiok (fn := Try.f131) (code := B131) (by kernel_rfl) (by kernel_rfl) (by kernel_rfl) (by kernel_rfl) (nt := 10) (by kernel_rfl) (by kernel_rfl) (T := [(0, aTerm t0), (1, I i1), (2, aTerm u2)]) (O := []) (by kernel_rfl) (by kernel_rfl) (fun c hc => ?_)
 refine sN ?_
 refine rg hc none [some (.new 1), some (.new 2), some (.new 3), some (.new 4)] [(3, .ra 1 0), (4, .ra 2 0), (5, .ra 3 0), (6, .ra 4 0)] [(1, bTerm t0), (2, .box [I i1]), (3, bTerm u2), (4, .box [I 0, I 0, .nils, .nils])] trivial ?_
 refine seqQ_norm ?_
 refine sN ?_
 obtain ⟨r_1_2, hr_1_2, h⟩ := bsome h
 refine rg hc none [oN, oN, some (.call (qTerm r_1_2) [] 5), oN] [(6, .ra 4 0)] [(4, .box [I r_1_2.fOp, I r_1_2.fN, .rs 5, .rs 6]), (5, .arr (List.map I r_1_2.fType)), (6, .arr (List.map GTerm_O r_1_2.fKids))] (ai (impl_renamed_Kimpl_substituted_c1_s _ _ hr_1_2) (ai bod_160 (ai (Or.inr (nsh_cons rfl (nsh_cons rfl (nsh_cons (nsh_row nsh_I r_1_2.fType) (nsh_cons (nsh_row nsh_GTerm_O r_1_2.fKids) rfl)))) : ([2, 3] : List Nat) = [] ∨ noSh (qTerm r_1_2) = true) trivial))) ?_
 refine seqQ_norm ?_
 refine Wp.retN (by kernel_rfl) ?_
 obtain rfl := Option.some.inj h
 exact RetQ.ret (fl := [true]) (by kernel_rfl)
def impl_contracted (t0 : GTerm) : Option (GTerm) :=
  (idx t0.fKids 0) >>= fun e_1_2 =>
  if (t0.fOp == 2) = true then
   (idx t0.fKids 1) >>= fun e_4_4 =>
   some (GTerm.mk 1 (Int.tmod (wr (e_1_2.fN + e_4_4.fN)) 3) [] [])
  else
   if (t0.fOp == 3) = true then
    if (e_1_2.fN == 0) = true then
     (idx t0.fKids 1) >>= fun e_7_2 =>
     (impl_copyTerm e_7_2) >>= fun r_7_4 =>
     some r_7_4
    else
     (idx t0.fKids 2) >>= fun e_8_2 =>
     (impl_copyTerm e_8_2) >>= fun r_8_4 =>
     some r_8_4
   else
    if (t0.fOp == 10) = true then
     (idx e_1_2.fKids 0) >>= fun e_10_2 =>
     (idx t0.fKids 1) >>= fun e_10_6 =>
     (impl_substituted (e_10_2, 0, e_10_6)) >>= fun r_10_8 =>
     some r_10_8
    else
     if (t0.fOp == 5) = true then
      (idx t0.fKids 1) >>= fun e_12_2 =>
      (idx e_1_2.fKids 1) >>= fun e_12_6 =>
      (impl_shifted (e_12_6, 1, 0)) >>= fun r_12_8 =>
      (impl_substituted (e_12_2, 0, r_12_8)) >>= fun r_12_9 =>
      (idx e_1_2.fKids 0) >>= fun e_13_3 =>
      (impl_substituted (r_12_9, 0, e_13_3)) >>= fun r_13_5 =>
      some r_13_5
     else
      if (t0.fOp == 8) = true then
       (idx t0.fKids (wr ((wr (1 + e_1_2.fOp)) - 6))) >>= fun e_15_6 =>
       (idx e_1_2.fKids 0) >>= fun e_15_10 =>
       (impl_substituted (e_15_6, 0, e_15_10)) >>= fun r_15_12 =>
       some r_15_12
      else
       (idx t0.fKids 1) >>= fun e_16_2 =>
       (idx e_1_2.fKids 0) >>= fun e_16_6 =>
       (impl_substituted (e_16_2, 0, e_16_6)) >>= fun r_16_8 =>
       some r_16_8
def M_impl_contracted (t0 : GTerm) (r : GTerm) : Prop :=
 FnSound Try.prog 82 [aTerm t0] (qTerm r) []
theorem impl_contracted_s : ∀ p r, impl_contracted p = some r → M_impl_contracted p r := by
 rintro t0 r h
 unfold impl_contracted at h
 show FnSound Try.prog 82 [aTerm t0] (qTerm r) []
 refine FnSound.body0 tiok (fn := Try.f82) (code := B82) (by kernel_rfl) (by kernel_rfl) (by kernel_rfl) (by kernel_rfl) (nt := 91) (by kernel_rfl) (by kernel_rfl) (T := [(0, aTerm t0)]) (O := []) (by kernel_rfl) (by kernel_rfl) (fun c hc => ?_)
 refine sN ?_
 refine rg hc none [some (.new 1), some (.new 2)] [(1, .ra 1 0), (2, .ra 2 0)] [(1, bTerm t0), (2, .box [I 0, I 0, .nils, .nils])] trivial ?_
 refine seqQ_norm ?_
 refine sN ?_
 obtain ⟨e_1_2, hi_1_2, h⟩ := bsome h
 refine rg hc none [oN, oN, some (.el (aTerm e_1_2)), oN, some (.new 3), oN] [(1, .ra 1 0), (2, .ra 2 0), (3, .ra 3 0)] [(1, bTerm t0), (2, .box [I 0, I 0, .nils, .nils]), (3, bTerm e_1_2)] (ai (idx_sl (enc := GTerm_S) (x := aTerm e_1_2) hi_1_2 (eq_GTerm_S e_1_2)) trivial) ?_
 refine seqQ_norm ?_
 refine sN ?_
 refine sN ?_
 refine rg0 hc 2 [(1, .ra 1 0), (2, .ra 2 0), (3, .ra 3 0), (10, I t0.fOp)] [(1, bTerm t0), (2, .box [I 0, I 0, .nils, .nils]), (3, bTerm e_1_2)] ?_
 refine seqQ_norm ?_
 refine Wp.blockN (i := 0) (by kernel_rfl) ?_
 refine sN ?_
 refine rg0 hc 2 [(1, .ra 1 0), (2, .ra 2 0), (3, .ra 3 0), (10, I t0.fOp), (11, .bool (t0.fOp == 2))] [(1, bTerm t0), (2, .box [I 0, I 0, .nils, .nils]), (3, bTerm e_1_2)] ?_
 refine seqQ_norm ?_
 rcases itesome h with ⟨hb_1, h⟩ | ⟨hb_1, h⟩
 ·refine cT ((t0.fOp == 2)) hb_1 ?_
  refine sN ?_
  obtain ⟨e_4_4, hi_4_4, h⟩ := bsome h
  refine rg hc (rx [[0], [1], [0], [0, 2], [0, 2, 3], [0, 2, 3, 4], [0, 2, 3, 4, 5], [7], [8], [9], [10]]) [oN, oN, oN, oN, some (.el (aTerm e_4_4)), oN, oN, oN, oN, oN, oN] [(2, .ra 2 0)] [(2, .box [I 1, I (Int.tmod (wr (e_1_2.fN + e_4_4.fN)) 3), .nils, .nils])] (ai (idx_sl (enc := GTerm_S) (x := aTerm e_4_4) hi_4_4 (eq_GTerm_S e_4_4)) (ai ((by decide) : (3 : Int) ≠ 0) trivial)) ?_
  refine seqQ_norm ?_
  refine Wp.retN (by kernel_rfl) ?_
  refine blockQ_ret ?_
  refine seqQ_ret ?_
  obtain rfl := Option.some.inj h
  exact RetQ.ret (fl := [true]) (by kernel_rfl)
 ·refine cF ((t0.fOp == 2)) hb_1 ?_
  refine sN ?_
  refine rg0 hc 2 [(1, .ra 1 0), (2, .ra 2 0), (3, .ra 3 0), (10, I t0.fOp), (23, .bool (t0.fOp == 3))] [(1, bTerm t0), (2, .box [I 0, I 0, .nils, .nils]), (3, bTerm e_1_2)] ?_
  refine seqQ_norm ?_
  rcases itesome h with ⟨hb_2, h⟩ | ⟨hb_2, h⟩
  ·refine cT ((t0.fOp == 3)) hb_2 ?_
   refine sN ?_
   refine sN ?_
   refine rg0 hc 3 [(1, .ra 1 0), (2, .ra 2 0), (27, .bool (e_1_2.fN == 0))] [(1, bTerm t0), (2, .box [I 0, I 0, .nils, .nils])] ?_
   refine seqQ_norm ?_
   rcases itesome h with ⟨hb_3, h⟩ | ⟨hb_3, h⟩
   ·refine cT ((e_1_2.fN == 0)) hb_3 ?_
    refine sN ?_
    obtain ⟨e_7_2, hi_7_2, h⟩ := bsome h
    obtain ⟨r_7_4, hr_7_4, h⟩ := bsome h
    refine rg hc none [oN, oN, some (.el (aTerm e_7_2)), oN, some (.call (qTerm r_7_4) [] 4), oN] [(2, .ra 2 0)] [(2, .box [I r_7_4.fOp, I r_7_4.fN, .rs 4, .rs 5]), (4, .arr (List.map I r_7_4.fType)), (5, .arr (List.map GTerm_O r_7_4.fKids))] (ai (idx_sl (enc := GTerm_S) (x := aTerm e_7_2) hi_7_2 (eq_GTerm_S e_7_2)) (ai (impl_copyTerm_s _ _ hr_7_4) (ai bod_130 (ai (oi (qTerm r_7_4)) trivial)))) ?_
    refine seqQ_norm ?_
    refine Wp.retN (by kernel_rfl) ?_
    refine seqQ_ret ?_
    refine blockQ_ret ?_
    refine seqQ_ret ?_
    obtain rfl := Option.some.inj h
    exact RetQ.ret (fl := [true]) (by kernel_rfl)
   ·refine cF ((e_1_2.fN == 0)) hb_3 ?_
    refine Wp.skipN (by kernel_rfl) ?_
    refine seqQ_norm ?_
    refine sN ?_
    obtain ⟨e_8_2, hi_8_2, h⟩ := bsome h
    obtain ⟨r_8_4, hr_8_4, h⟩ := bsome h
    refine rg hc none [oN, oN, some (.el (aTerm e_8_2)), oN, some (.call (qTerm r_8_4) [] 6), oN] [(2, .ra 2 0)] [(2, .box [I r_8_4.fOp, I r_8_4.fN, .rs 6, .rs 7]), (6, .arr (List.map I r_8_4.fType)), (7, .arr (List.map GTerm_O r_8_4.fKids))] (ai (idx_sl (enc := GTerm_S) (x := aTerm e_8_2) hi_8_2 (eq_GTerm_S e_8_2)) (ai (impl_copyTerm_s _ _ hr_8_4) (ai bod_130 (ai (oi (qTerm r_8_4)) trivial)))) ?_
    refine seqQ_norm ?_
    refine Wp.retN (by kernel_rfl) ?_
    refine blockQ_ret ?_
    refine seqQ_ret ?_
    obtain rfl := Option.some.inj h
    exact RetQ.ret (fl := [true]) (by kernel_rfl)
  ·refine cF ((t0.fOp == 3)) hb_2 ?_
   refine sN ?_
   refine rg0 hc 2 [(1, .ra 1 0), (2, .ra 2 0), (3, .ra 3 0), (10, I t0.fOp), (38, .bool (t0.fOp == 10))] [(1, bTerm t0), (2, .box [I 0, I 0, .nils, .nils]), (3, bTerm e_1_2)] ?_
   refine seqQ_norm ?_
   rcases itesome h with ⟨hb_4, h⟩ | ⟨hb_4, h⟩
   ·refine cT ((t0.fOp == 10)) hb_4 ?_
    refine sN ?_
    obtain ⟨e_10_2, hi_10_2, h⟩ := bsome h
    obtain ⟨e_10_6, hi_10_6, h⟩ := bsome h
    obtain ⟨r_10_8, hr_10_8, h⟩ := bsome h
    refine rg hc ah4_2 [oN, oN, some (.el (aTerm e_10_2)), oN, oN, oN, some (.el (aTerm e_10_6)), oN, some (.call (qTerm r_10_8) [] 8), oN] [(2, .ra 2 0)] [(2, .box [I r_10_8.fOp, I r_10_8.fN, .rs 8, .rs 9]), (8, .arr (List.map I r_10_8.fType)), (9, .arr (List.map GTerm_O r_10_8.fKids))] (ai (idx_sl (enc := GTerm_S) (x := aTerm e_10_2) hi_10_2 (eq_GTerm_S e_10_2)) (ai (idx_sl (enc := GTerm_S) (x := aTerm e_10_6) hi_10_6 (eq_GTerm_S e_10_6)) (ai (impl_substituted_s _ _ hr_10_8) (ai bod_131 (ai (oi (qTerm r_10_8)) trivial))))) ?_
    refine seqQ_norm ?_
    refine Wp.retN (by kernel_rfl) ?_
    refine blockQ_ret ?_
    refine seqQ_ret ?_
    obtain rfl := Option.some.inj h
    exact RetQ.ret (fl := [true]) (by kernel_rfl)
   ·refine cF ((t0.fOp == 10)) hb_4 ?_
    refine sN ?_
    refine rg0 hc 2 [(1, .ra 1 0), (2, .ra 2 0), (3, .ra 3 0), (10, I t0.fOp), (49, .bool (t0.fOp == 5))] [(1, bTerm t0), (2, .box [I 0, I 0, .nils, .nils]), (3, bTerm e_1_2)] ?_
    refine seqQ_norm ?_
    rcases itesome h with ⟨hb_5, h⟩ | ⟨hb_5, h⟩
    ·refine cT ((t0.fOp == 5)) hb_5 ?_
     refine sN ?_
     obtain ⟨e_12_2, hi_12_2, h⟩ := bsome h
     obtain ⟨e_12_6, hi_12_6, h⟩ := bsome h
     obtain ⟨r_12_8, hr_12_8, h⟩ := bsome h
     obtain ⟨r_12_9, hr_12_9, h⟩ := bsome h
     refine rg hc (rx [[0], [1], [2], [3], [0], [0, 4], [0, 4, 5], [0, 4, 5, 6], [0, 4, 5, 6, 7], [9], [0], [11]]) [oN, oN, some (.el (aTerm e_12_2)), oN, oN, oN, some (.el (aTerm e_12_6)), oN, some (.call (qTerm r_12_8) [] 10), some (.call (qTerm r_12_9) [] 12), some (.new 14), oN] [(2, .ra 2 0), (3, .ra 3 0), (4, .ra 14 0)] [(2, .box [I 0, I 0, .nils, .nils]), (3, bTerm e_1_2), (12, .arr (List.map I r_12_9.fType)), (13, .arr (List.map GTerm_O r_12_9.fKids)), (14, .box [I r_12_9.fOp, I r_12_9.fN, .rs 12, .rs 13])] (ai (idx_sl (enc := GTerm_S) (x := aTerm e_12_2) hi_12_2 (eq_GTerm_S e_12_2)) (ai (idx_sl (enc := GTerm_S) (x := aTerm e_12_6) hi_12_6 (eq_GTerm_S e_12_6)) (ai (impl_shifted_s _ _ hr_12_8) (ai bod_132 (ai (oi (qTerm r_12_8)) (ai (FnSound.args (A1 := [aTerm e_12_2, I 0, hTerm r_12_8]) (A2 := [aTerm e_12_2, I 0, aTerm r_12_8]) (by simp only [sI, sB, aTerm, hTerm, List.map_nil, sh_GTerm_O, sh_I]) (impl_substituted_s _ _ hr_12_9)) (ai bod_131 (ai (Or.inr (nsh_cons rfl (nsh_cons rfl (nsh_cons (nsh_row nsh_I r_12_9.fType) (nsh_cons (nsh_row nsh_GTerm_O r_12_9.fKids) rfl)))) : ([10, 11] : List Nat) = [] ∨ noSh (qTerm r_12_9) = true) trivial)))))))) ?_
     refine seqQ_norm ?_
     refine sN ?_
     obtain ⟨e_13_3, hi_13_3, h⟩ := bsome h
     obtain ⟨r_13_5, hr_13_5, h⟩ := bsome h
     refine rg hc (rx [[0], [0], [0, 1], [0, 1, 2], [0, 1, 2, 3], [5], [6]]) [oN, oN, oN, some (.el (aTerm e_13_3)), oN, some (.call (qTerm r_13_5) [] 15), oN] [(2, .ra 2 0)] [(2, .box [I r_13_5.fOp, I r_13_5.fN, .rs 15, .rs 16]), (15, .arr (List.map I r_13_5.fType)), (16, .arr (List.map GTerm_O r_13_5.fKids))] (ai (idx_sl (enc := GTerm_S) (x := aTerm e_13_3) hi_13_3 (eq_GTerm_S e_13_3)) (ai (FnSound.args (A1 := [hTerm r_12_9, I 0, aTerm e_13_3]) (A2 := [aTerm r_12_9, I 0, aTerm e_13_3]) (by simp only [sI, sB, aTerm, hTerm, List.map_nil, sh_GTerm_O, sh_I]) (impl_substituted_s _ _ hr_13_5)) (ai bod_131 (ai (Or.inr (nsh_cons rfl (nsh_cons rfl (nsh_cons (nsh_row nsh_I r_13_5.fType) (nsh_cons (nsh_row nsh_GTerm_O r_13_5.fKids) rfl)))) : ([12, 13] : List Nat) = [] ∨ noSh (qTerm r_13_5) = true) trivial)))) ?_
     refine seqQ_norm ?_
     refine Wp.retN (by kernel_rfl) ?_
     refine blockQ_ret ?_
     refine seqQ_ret ?_
     obtain rfl := Option.some.inj h
     exact RetQ.ret (fl := [true]) (by kernel_rfl)
    ·refine cF ((t0.fOp == 5)) hb_5 ?_
     refine sN ?_
     refine rg0 hc 2 [(1, .ra 1 0), (2, .ra 2 0), (3, .ra 3 0), (67, .bool (t0.fOp == 8))] [(1, bTerm t0), (2, .box [I 0, I 0, .nils, .nils]), (3, bTerm e_1_2)] ?_
     refine seqQ_norm ?_
     rcases itesome h with ⟨hb_6, h⟩ | ⟨hb_6, h⟩
     ·refine cT ((t0.fOp == 8)) hb_6 ?_
      refine sN ?_
      obtain ⟨e_15_6, hi_15_6, h⟩ := bsome h
      obtain ⟨e_15_10, hi_15_10, h⟩ := bsome h
      obtain ⟨r_15_12, hr_15_12, h⟩ := bsome h
      refine rg hc (rx [[0], [1], [0], [0, 2], [0, 2, 3], [0, 2, 3, 4], [6], [7], [0], [0, 8], [0, 8, 9], [0, 8, 9, 10], [12], [13]]) [oN, oN, oN, oN, oN, oN, some (.el (aTerm e_15_6)), oN, oN, oN, some (.el (aTerm e_15_10)), oN, some (.call (qTerm r_15_12) [] 17), oN] [(2, .ra 2 0)] [(2, .box [I r_15_12.fOp, I r_15_12.fN, .rs 17, .rs 18]), (17, .arr (List.map I r_15_12.fType)), (18, .arr (List.map GTerm_O r_15_12.fKids))] (ai (idx_sl (enc := GTerm_S) (x := aTerm e_15_6) hi_15_6 (eq_GTerm_S e_15_6)) (ai (idx_sl (enc := GTerm_S) (x := aTerm e_15_10) hi_15_10 (eq_GTerm_S e_15_10)) (ai (impl_substituted_s _ _ hr_15_12) (ai bod_131 (ai (oi (qTerm r_15_12)) trivial))))) ?_
      refine seqQ_norm ?_
      refine Wp.retN (by kernel_rfl) ?_
      refine blockQ_ret ?_
      refine seqQ_ret ?_
      obtain rfl := Option.some.inj h
      exact RetQ.ret (fl := [true]) (by kernel_rfl)
     ·refine cF ((t0.fOp == 8)) hb_6 ?_
      refine Wp.skipN (by kernel_rfl) ?_
      refine blockQ_norm ?_
      refine seqQ_norm ?_
      refine sN ?_
      obtain ⟨e_16_2, hi_16_2, h⟩ := bsome h
      obtain ⟨e_16_6, hi_16_6, h⟩ := bsome h
      obtain ⟨r_16_8, hr_16_8, h⟩ := bsome h
      refine rg hc ah4_2 [oN, oN, some (.el (aTerm e_16_2)), oN, oN, oN, some (.el (aTerm e_16_6)), oN, some (.call (qTerm r_16_8) [] 19), oN] [(2, .ra 2 0)] [(2, .box [I r_16_8.fOp, I r_16_8.fN, .rs 19, .rs 20]), (19, .arr (List.map I r_16_8.fType)), (20, .arr (List.map GTerm_O r_16_8.fKids))] (ai (idx_sl (enc := GTerm_S) (x := aTerm e_16_2) hi_16_2 (eq_GTerm_S e_16_2)) (ai (idx_sl (enc := GTerm_S) (x := aTerm e_16_6) hi_16_6 (eq_GTerm_S e_16_6)) (ai (impl_substituted_s _ _ hr_16_8) (ai bod_131 (ai (oi (qTerm r_16_8)) trivial))))) ?_
      refine seqQ_norm ?_
      refine Wp.retN (by kernel_rfl) ?_
      obtain rfl := Option.some.inj h
      exact RetQ.ret (fl := [true]) (by kernel_rfl)
def impl_replaced (p : GTerm × (List Int) × GTerm) : Option (GTerm) :=
 match p with
 | (t0, path1, u2) =>
  if ((path1.length : Int) == 0) = true then
   (impl_copyTerm u2) >>= fun r_2_1 =>
   some r_2_1
  else
   (impl_copyTerm t0) >>= fun r_3_1 =>
   (idx path1 0) >>= fun e_4_3 =>
   (idx path1 0) >>= fun e_4_8 =>
   (idx t0.fKids e_4_8) >>= fun e_4_10 =>
   (cut path1 (some 1) none none) >>= fun c_4_13 =>
   (impl_replaced (e_4_10, c_4_13, u2)) >>= fun r_4_15 =>
   (idx r_3_1.fKids e_4_3) >>= fun e_4_16 =>
   some (GTerm.mk r_3_1.fOp r_3_1.fN r_3_1.fType (List.set r_3_1.fKids (Int.toNat e_4_3) r_4_15))
 partial_fixpoint
def M_impl_replaced (p : GTerm × (List Int) × GTerm) (r : GTerm) : Prop :=
 match p with
 | (t0, path1, u2) => FnSound Try.prog 97 [aTerm t0, sI path1, aTerm u2] (qTerm r) []
theorem impl_replaced_s : ∀ p r, impl_replaced p = some r → M_impl_replaced p r := by
 refine impl_replaced.partial_correctness M_impl_replaced ?_
 rintro impl_replaced_f impl_replaced_ih ⟨t0, path1, u2⟩ r h
 show FnSound Try.prog 97 [aTerm t0, sI path1, aTerm u2] (qTerm r) []
 refine FnSound.body0 tiok (fn := Try.f97) (code := B97) (by kernel_rfl) (by kernel_rfl) (by kernel_rfl) (by kernel_rfl) (nt := 33) (by kernel_rfl) (by kernel_rfl) (T := [(0, aTerm t0), (1, sI path1), (2, aTerm u2)]) (O := []) (by kernel_rfl) (by kernel_rfl) (fun c hc => ?_)
 refine sN ?_
 refine rg hc none [some (.new 1), some (.new 2), some (.new 3)] [(1, sI path1), (3, .ra 1 0), (5, .ra 2 0), (6, .ra 3 0)] [(1, bTerm t0), (2, bTerm u2), (3, .box [I 0, I 0, .nils, .nils])] trivial ?_
 refine seqQ_norm ?_
 refine sN ?_
 refine sN ?_
 refine rg hc none [oN, some (.eqv (.no) ⟨[(9, I (path1.length : Int))], [], []⟩), oN] [(1, sI path1), (3, .ra 1 0), (5, .ra 2 0), (6, .ra 3 0), (10, .bool ((path1.length : Int) == 0))] [(1, bTerm t0), (2, bTerm u2), (3, .box [I 0, I 0, .nils, .nils])] (ai (lenT (d := 9) I path1) trivial) ?_
 refine seqQ_norm ?_
 rcases itesome h with ⟨hb_1, h⟩ | ⟨hb_1, h⟩
 ·refine cT (((path1.length : Int) == 0)) hb_1 ?_
  refine sN ?_
  obtain ⟨r_2_1, hr_2_1, h⟩ := bsome h
  refine rg hc none [oN, some (.call (qTerm r_2_1) [] 4), oN] [(6, .ra 3 0)] [(3, .box [I r_2_1.fOp, I r_2_1.fN, .rs 4, .rs 5]), (4, .arr (List.map I r_2_1.fType)), (5, .arr (List.map GTerm_O r_2_1.fKids))] (ai (impl_copyTerm_s _ _ hr_2_1) (ai bod_130 (ai (oi (qTerm r_2_1)) trivial))) ?_
  refine seqQ_norm ?_
  refine Wp.retN (by kernel_rfl) ?_
  refine seqQ_ret ?_
  obtain rfl := Option.some.inj h
  exact RetQ.ret (fl := [true]) (by kernel_rfl)
 ·refine cF (((path1.length : Int) == 0)) hb_1 ?_
  refine Wp.skipN (by kernel_rfl) ?_
  refine seqQ_norm ?_
  refine sN ?_
  obtain ⟨r_3_1, hr_3_1, h⟩ := bsome h
  refine rg hc none [oN, some (.call (qTerm r_3_1) [] 6), some (.new 8), oN] [(1, sI path1), (3, .ra 1 0), (5, .ra 2 0), (6, .ra 3 0), (7, .ra 8 0)] [(1, bTerm t0), (2, bTerm u2), (3, .box [I 0, I 0, .nils, .nils]), (6, .arr (List.map I r_3_1.fType)), (7, .arr (List.map GTerm_O r_3_1.fKids)), (8, .box [I r_3_1.fOp, I r_3_1.fN, .rs 6, .rs 7])] (ai (impl_copyTerm_s _ _ hr_3_1) (ai bod_130 (ai (oi (qTerm r_3_1)) trivial))) ?_
  refine seqQ_norm ?_
  refine sN ?_
  obtain ⟨e_4_3, hi_4_3, h⟩ := bsome h
  obtain ⟨e_4_8, hi_4_8, h⟩ := bsome h
  obtain ⟨e_4_10, hi_4_10, h⟩ := bsome h
  obtain ⟨c_4_13, hs_4_13, h⟩ := bsome h
  obtain ⟨r_4_15, hr_4_15, h⟩ := bsome h
  obtain ⟨e_4_16, hi_4_16, h⟩ := bsome h
  refine rg hc (rx [[0], [1], [0], [0, 2], [0, 2, 3], [0], [0, 5], [0], [0, 7], [0, 7, 8], [0, 5, 6, 7, 8, 9], [0, 5, 6, 7, 8, 9, 10], [0], [0, 12], [0], [0, 5, 6, 7, 8, 9, 10, 11, 12, 13, 14], [16], [17]]) [oN, oN, oN, some (.el (I e_4_3)), oN, oN, oN, oN, some (.el (I e_4_8)), oN, some (.el (aTerm e_4_10)), oN, oN, some (.eqv (.no) ⟨[(28, sI c_4_13)], [], []⟩), oN, some (.call (qTerm r_4_15) [] 9), oN, some (.eqv (.mk 0 true) ⟨[], [(7, some (.arr (List.map GTerm_O (List.set r_3_1.fKids (Int.toNat e_4_3) r_4_15)))), (9, none), (10, none)], []⟩)] [(6, .ra 3 0), (7, .ra 8 0)] [(3, .box [I 0, I 0, .nils, .nils]), (6, .arr (List.map I r_3_1.fType)), (7, .arr (List.map GTerm_O (List.set r_3_1.fKids (Int.toNat e_4_3) r_4_15))), (8, .box [I r_3_1.fOp, I r_3_1.fN, .rs 6, .rs 7])] (ai (ix hi_4_3) (ai (ix hi_4_8) (ai (idx_sl (enc := GTerm_S) (x := aTerm e_4_10) hi_4_10 (eq_GTerm_S e_4_10)) (ai (cut_wr (d := 28) I hs_4_13) (ai (cut_ob (enc := I) (sz := 1) sz_I hs_4_13) (ai (impl_replaced_ih _ _ hr_4_15) (ai bod_97 (ai (oi (qTerm r_4_15)) (ai (idx_own (enc := GTerm_O) hi_4_16) (ai (congrArg (fun z => (⟨[], [(7, some (.arr z)), (9, none), (10, none)], []⟩ : Wr)) (set_row (enc := GTerm_O) (i := Int.toNat e_4_3) (l := r_3_1.fKids) (v := r_4_15) (x := AV.agg [I r_4_15.fOp, I r_4_15.fN, AV.osl (List.map I r_4_15.fType), AV.osl (List.map GTerm_O r_4_15.fKids)]) (eq_GTerm_O r_4_15))) (ai (own_set (enc := GTerm_O) (sz := 4) sz_GTerm_O hi_4_16) trivial))))))))))) ?_
  refine seqQ_norm ?_
  refine sN ?_
  refine rg0 hc 2 [(6, .ra 3 0)] [(3, .box [I r_3_1.fOp, I r_3_1.fN, .rs 6, .rs 7]), (6, .arr (List.map I r_3_1.fType)), (7, .arr (List.map GTerm_O (List.set r_3_1.fKids (Int.toNat e_4_3) r_4_15)))] ?_
  refine seqQ_norm ?_
  refine Wp.retN (by kernel_rfl) ?_
  obtain rfl := Option.some.inj h
  exact RetQ.ret (fl := [true]) (by kernel_rfl)
def impl_ContractAt (p : GTerm × (List Int)) : Option (GTerm × Bool) :=
 match p with
 | (t0, path1) =>
  (impl_IsWritten t0) >>= fun r_1_1 =>
  if r_1_1 = true then
   (impl_at (t0, path1)) >>= fun (r_3_2_0, r_3_2_1) =>
   (
    if r_3_2_1 = true then
     (impl_isRedex r_3_2_0) >>= fun r_4_4 =>
     some ((!r_4_4))
    else
     some (true)
   ) >>= fun v_2 =>
   if v_2 = true then
    some ((GTerm.mk 0 0 [] []), false)
   else
    (impl_contracted r_3_2_0) >>= fun r_6_3 =>
    (impl_replaced (t0, path1, r_6_3)) >>= fun r_6_4 =>
    (impl_IsWritten r_6_4) >>= fun r_7_1 =>
    if r_7_1 = true then
     some (r_6_4, true)
    else
     some ((GTerm.mk 0 0 [] []), false)
  else
   some ((GTerm.mk 0 0 [] []), false)
def M_impl_ContractAt (p : GTerm × (List Int)) (r : GTerm × Bool) : Prop :=
 match p with
 | (t0, path1) => FnSound Try.prog 41 [aTerm t0, sI path1] (.tup [.agg [I r.1.fOp, I r.1.fN, .osl (List.map I r.1.fType), .osl (List.map GTerm_O r.1.fKids)], .bool r.2]) []
theorem impl_ContractAt_s : ∀ p r, impl_ContractAt p = some r → M_impl_ContractAt p r := by
 rintro ⟨t0, path1⟩ r h
 unfold impl_ContractAt at h
 show FnSound Try.prog 41 [aTerm t0, sI path1] (.tup [.agg [I r.1.fOp, I r.1.fN, .osl (List.map I r.1.fType), .osl (List.map GTerm_O r.1.fKids)], .bool r.2]) []
 refine FnSound.body0 tiok (fn := Try.f41) (code := B41) (by kernel_rfl) (by kernel_rfl) (by kernel_rfl) (by kernel_rfl) (nt := 37) (by kernel_rfl) (by kernel_rfl) (T := [(0, aTerm t0), (1, sI path1)]) (O := []) (by kernel_rfl) (by kernel_rfl) (fun c hc => ?_)
 refine sN ?_
 refine rg hc none [some (.new 1), some (.new 2), oN] [(1, sI path1), (2, .ra 1 0), (4, .ra 2 0)] [(1, bTerm t0), (2, .box [I 0, I 0, .nils, .nils])] trivial ?_
 refine seqQ_norm ?_
 refine sN ?_
 refine sN ?_
 obtain ⟨r_1_1, hr_1_1, h⟩ := bsome h
 refine rg hc none [oN, oc (.bool r_1_1), oN] [(1, sI path1), (2, .ra 1 0), (4, .ra 2 0), (11, .bool (!r_1_1))] [(1, bTerm t0), (2, .box [I 0, I 0, .nils, .nils])] (ai (impl_IsWritten_s _ _ hr_1_1) (ai bod_60 (ai (oi (.bool r_1_1)) trivial))) ?_
 refine seqQ_norm ?_
 rcases itesome h with ⟨hb_1, h⟩ | ⟨hb_1, h⟩
 ·refine cF (!r_1_1) (nF hb_1) ?_
  refine Wp.skipN (by kernel_rfl) ?_
  refine seqQ_norm ?_
  refine sN ?_
  obtain ⟨⟨r_3_2_0, r_3_2_1⟩, hr_3_2, h⟩ := bsome h
  refine rg hc none [oN, oN, oc (.tup [aTerm r_3_2_0, .bool r_3_2_1]), oN, oN, oN, some (.new 3), oN, oN] [(1, sI path1), (2, .ra 1 0), (4, .ra 2 0), (6, .ra 3 0), (7, .bool r_3_2_1)] [(1, bTerm t0), (2, .box [I 0, I 0, .nils, .nils]), (3, bTerm r_3_2_0)] (ai (impl_at_s _ _ hr_3_2) (ai bod_95 (ai (oi (.tup [aTerm r_3_2_0, .bool r_3_2_1])) trivial))) ?_
  refine seqQ_norm ?_
  refine sN ?_
  refine sN ?_
  obtain ⟨v_2, hj_3, h⟩ := bsome h
  refine Wp.into (x := .normal) (mkS [(1, sI path1), (2, .ra 1 0), (4, .ra 2 0), (6, .ra 3 0), (25, .bool v_2)] [(1, bTerm t0), (2, .box [I 0, I 0, .nils, .nils]), (3, bTerm r_3_2_0)]) ?_ ?_
  ·replace h := hj_3
   rcases itesome h with ⟨hb_4_0, h⟩ | ⟨hb_4_0, h⟩
   ·obtain ⟨r_4_4, hr_4_4, h⟩ := bsome h
    refine rg hc none [oN, oN, oN, oN, oc (.bool r_4_4), oN, oF] [(1, sI path1), (2, .ra 1 0), (4, .ra 2 0), (6, .ra 3 0), (25, .bool (!r_4_4))] [(1, bTerm t0), (2, .box [I 0, I 0, .nils, .nils]), (3, bTerm r_3_2_0)] (ar 2 (nF hb_4_0) (ai (impl_isRedex_s _ _ hr_4_4) (ai bod_96 (ai (oi (.bool r_4_4)) (ar 2 (nF hb_4_0) trivial))))) ?_
    obtain rfl := Option.some.inj h
    exact Into.mk
   ·refine rg hc none [oN, oN, oN, o_, o_, o_, oT] [(1, sI path1), (2, .ra 1 0), (4, .ra 2 0), (6, .ra 3 0), (25, .bool true)] [(1, bTerm t0), (2, .box [I 0, I 0, .nils, .nils]), (3, bTerm r_3_2_0)] (ar 3 (neF (nT hb_4_0)) (ai (nT hb_4_0) trivial)) ?_
    obtain rfl := Option.some.inj h
    exact Into.mk
  ·clear hj_3
   refine seqQ_norm ?_
   rcases itesome h with ⟨hb_4, h⟩ | ⟨hb_4, h⟩
   ·refine cT v_2 hb_4 ?_
    refine sN ?_
    refine rg0 hc 3 [(4, .ra 2 0), (5, .bool false)] [(2, .box [I 0, I 0, .nils, .nils])] ?_
    refine seqQ_norm ?_
    refine Wp.retN (by kernel_rfl) ?_
    refine seqQ_ret ?_
    obtain rfl := Option.some.inj h
    exact RetQ.ret (fl := [true, true]) (by kernel_rfl)
   ·refine cF v_2 hb_4 ?_
    refine Wp.skipN (by kernel_rfl) ?_
    refine seqQ_norm ?_
    refine sN ?_
    obtain ⟨r_6_3, hr_6_3, h⟩ := bsome h
    obtain ⟨r_6_4, hr_6_4, h⟩ := bsome h
    refine rg hc (rx [[0], [0], [0], [0, 2], [4], [0], [6]]) [oN, oN, oN, some (.call (qTerm r_6_3) [] 4), some (.call (qTerm r_6_4) [] 6), some (.new 8), oN] [(4, .ra 2 0), (8, .ra 8 0)] [(2, .box [I 0, I 0, .nils, .nils]), (6, .arr (List.map I r_6_4.fType)), (7, .arr (List.map GTerm_O r_6_4.fKids)), (8, .box [I r_6_4.fOp, I r_6_4.fN, .rs 6, .rs 7])] (ai (impl_contracted_s _ _ hr_6_3) (ai bod_82 (ai (oi (qTerm r_6_3)) (ai (FnSound.args (A1 := [aTerm t0, sI path1, hTerm r_6_3]) (A2 := [aTerm t0, sI path1, aTerm r_6_3]) (by simp only [sI, sB, aTerm, hTerm, List.map_nil, sh_GTerm_O, sh_I]) (impl_replaced_s _ _ hr_6_4)) (ai bod_97 (ai (Or.inr (nsh_cons rfl (nsh_cons rfl (nsh_cons (nsh_row nsh_I r_6_4.fType) (nsh_cons (nsh_row nsh_GTerm_O r_6_4.fKids) rfl)))) : ([4, 5] : List Nat) = [] ∨ noSh (qTerm r_6_4) = true) trivial)))))) ?_
    refine seqQ_norm ?_
    refine sN ?_
    refine sN ?_
    obtain ⟨r_7_1, hr_7_1, h⟩ := bsome h
    refine rg hc none [oN, oc (.bool r_7_1), oN] [(4, .ra 2 0), (8, .ra 8 0), (34, .bool (!r_7_1))] [(2, .box [I 0, I 0, .nils, .nils]), (6, .arr (List.map I r_6_4.fType)), (7, .arr (List.map GTerm_O r_6_4.fKids)), (8, .box [I r_6_4.fOp, I r_6_4.fN, .rs 6, .rs 7])] (ai (FnSound.args (A1 := [hTerm r_6_4]) (A2 := [aTerm r_6_4]) (by simp only [sI, sB, aTerm, hTerm, List.map_nil, sh_GTerm_O, sh_I]) (impl_IsWritten_s _ _ hr_7_1)) (ai bod_60 (ai (Or.inr rfl : ([6, 7] : List Nat) = [] ∨ noSh (.bool r_7_1) = true) trivial))) ?_
    refine seqQ_norm ?_
    rcases itesome h with ⟨hb_5, h⟩ | ⟨hb_5, h⟩
    ·refine cF (!r_7_1) (nF hb_5) ?_
     refine Wp.skipN (by kernel_rfl) ?_
     refine seqQ_norm ?_
     refine sN ?_
     refine rg0 hc 3 [(4, .ra 2 0), (5, .bool true)] [(2, .box [I r_6_4.fOp, I r_6_4.fN, .rs 6, .rs 7]), (6, .arr (List.map I r_6_4.fType)), (7, .arr (List.map GTerm_O r_6_4.fKids))] ?_
     refine seqQ_norm ?_
     refine Wp.retN (by kernel_rfl) ?_
     obtain rfl := Option.some.inj h
     exact RetQ.ret (fl := [true, true]) (by kernel_rfl)
    ·refine cT (!r_7_1) (nT hb_5) ?_
     refine sN ?_
     refine rg0 hc 3 [(4, .ra 2 0), (5, .bool false)] [(2, .box [I 0, I 0, .nils, .nils])] ?_
     refine seqQ_norm ?_
     refine Wp.retN (by kernel_rfl) ?_
     refine seqQ_ret ?_
     obtain rfl := Option.some.inj h
     exact RetQ.ret (fl := [true, true]) (by kernel_rfl)
 ·refine cT (!r_1_1) (nT hb_1) ?_
  refine sN ?_
  refine rg0 hc 3 [(4, .ra 2 0), (5, .bool false)] [(2, .box [I 0, I 0, .nils, .nils])] ?_
  refine seqQ_norm ?_
  refine Wp.retN (by kernel_rfl) ?_
  refine seqQ_ret ?_
  obtain rfl := Option.some.inj h
  exact RetQ.ret (fl := [true, true]) (by kernel_rfl)
def laws_eqIntS_F1 (c : Ctx) : (Unit) ⊕ (Bool) → Exit → AState → Prop
 | .inl _ => Into c (.exit 0) (mkS [] [])
 | .inr r => RetE TIx Try.f18 [] (.bool r)
def laws_eqIntS_l0 (p : (List Int) × (List Int) × Int) : Option ((Unit) ⊕ (Bool)) :=
 match p with
 | (a0, b1, i_4) =>
  if (decide (i_4 < (a0.length : Int))) = true then
   (idx a0 i_4) >>= fun e_6_2 =>
   (idx b1 i_4) >>= fun e_6_6 =>
   if (e_6_2 != e_6_6) = true then
    some (.inr false)
   else
    laws_eqIntS_l0 (a0, b1, (wr (i_4 + 1)))
  else
   some (.inl ())
 partial_fixpoint
def M_laws_eqIntS_l0 (p : (List Int) × (List Int) × Int) (fl : (Unit) ⊕ (Bool)) : Prop :=
 match p with
 | (a0, b1, i_4) => ∀ c : Ctx, c.nt = 26 → WpL Try.prog c (cl (cl (cr (cl (cr (cr B18)))))) (laws_eqIntS_F1 c fl) (mkS [(0, sI a0), (1, sI b1), (5, I i_4)] [])
theorem laws_eqIntS_l0_s : ∀ p r, laws_eqIntS_l0 p = some r → M_laws_eqIntS_l0 p r := by
 refine laws_eqIntS_l0.partial_correctness M_laws_eqIntS_l0 ?_
 rintro laws_eqIntS_l0_f laws_eqIntS_l0_ih ⟨a0, b1, i_4⟩ r h
 intro c hc
 show WpL Try.prog c (cl (cl (cr (cl (cr (cr B18)))))) (laws_eqIntS_F1 c r) (mkS [(0, sI a0), (1, sI b1), (5, I i_4)] [])
 refine WpL.step ?_
 refine sN ?_
 refine sN ?_
 refine rg hc none [oN, oN, some (.eqv (.no) ⟨[(13, I (a0.length : Int))], [], []⟩), oN] [(0, sI a0), (1, sI b1), (5, I i_4), (14, .bool (decide (i_4 < (a0.length : Int))))] [] (ai (lenT (d := 13) I a0) trivial) ?_
 refine seqQ_norm ?_
 rcases itesome h with ⟨hb_5, h⟩ | ⟨hb_5, h⟩
 ·refine cT ((decide (i_4 < (a0.length : Int)))) hb_5 ?_
  refine Wp.skipN (by kernel_rfl) ?_
  refine seqQ_norm ?_
  refine sN ?_
  refine Wp.blockN (i := 1) (by kernel_rfl) ?_
  refine sN ?_
  obtain ⟨e_6_2, hi_6_2, h⟩ := bsome h
  obtain ⟨e_6_6, hi_6_6, h⟩ := bsome h
  refine rg hc (rx [[0], [0], [2], [3], [0], [0], [0, 4, 5], [0, 4, 5, 6], [8]]) [oN, oN, some (.el (I e_6_2)), oN, oN, oN, some (.el (I e_6_6)), oN, oN] [(0, sI a0), (1, sI b1), (5, I i_4), (25, .bool (e_6_2 != e_6_6))] [] (ai (ix hi_6_2) (ai (ix hi_6_6) trivial)) ?_
  refine seqQ_norm ?_
  rcases itesome h with ⟨hb_6, h⟩ | ⟨hb_6, h⟩
  ·refine cT ((e_6_2 != e_6_6)) hb_6 ?_
   refine sN ?_
   refine rg0 hc 1 [(4, .bool false)] [] ?_
   refine seqQ_norm ?_
   refine Wp.retN (by kernel_rfl) ?_
   refine blockQ_ret ?_
   refine seqQ_ret ?_
   refine loopQ_ret ?_
   obtain rfl := Option.some.inj h
   exact RetE.ret (fl := [true]) (by kernel_rfl)
  ·refine cF ((e_6_2 != e_6_6)) hb_6 ?_
   refine Wp.skipN (by kernel_rfl) ?_
   refine blockQ_norm ?_
   refine seqQ_norm ?_
   refine rg0 hc 3 [(0, sI a0), (1, sI b1), (5, I (wr (i_4 + 1)))] [] ?_
   refine loopQ_norm ?_
   exact (laws_eqIntS_l0_ih _ _ h c hc)
 ·refine cF ((decide (i_4 < (a0.length : Int)))) hb_5 ?_
  refine Wp.exitN (i := 0) (by kernel_rfl) ?_
  refine seqQ_exit ?_
  refine loopQ_exit ?_
  obtain rfl := Option.some.inj h
  exact Into.view (fun a w hv => SRx.renL [] hv (by kernel_rfl) (by kernel_rfl) (by kernel_rfl))
def laws_eqIntS (p : (List Int) × (List Int)) : Option (Bool) :=
 match p with
 | (a0, b1) =>
  if ((a0.length : Int) != (b1.length : Int)) = true then
   some false
  else
   (laws_eqIntS_l0 (a0, b1, 0)) >>= fun fl => match fl with
   | .inl () =>
    some true
   | .inr r =>
    some r
def M_laws_eqIntS (p : (List Int) × (List Int)) (r : Bool) : Prop :=
 match p with
 | (a0, b1) => FnSound Try.prog 18 [sI a0, sI b1] (.bool r) []
theorem laws_eqIntS_s : ∀ p r, laws_eqIntS p = some r → M_laws_eqIntS p r := by
 rintro ⟨a0, b1⟩ r h
 unfold laws_eqIntS at h
 show FnSound Try.prog 18 [sI a0, sI b1] (.bool r) []
 refine FnSound.body0 tiok (fn := Try.f18) (code := B18) (by kernel_rfl) (by kernel_rfl) (by kernel_rfl) (by kernel_rfl) (nt := 26) (by kernel_rfl) (by kernel_rfl) (T := [(0, sI a0), (1, sI b1)]) (O := []) (by kernel_rfl) (by kernel_rfl) (fun c hc => ?_)
 refine sN ?_
 refine rg0 hc 1 [(0, sI a0), (1, sI b1)] [] ?_
 refine seqQ_norm ?_
 refine sN ?_
 refine sN ?_
 refine rg hc none [oN, some (.eqv (.no) ⟨[(7, I (a0.length : Int))], [], []⟩), oN, some (.eqv (.no) ⟨[(9, I (b1.length : Int))], [], []⟩), oN] [(0, sI a0), (1, sI b1), (10, .bool ((a0.length : Int) != (b1.length : Int)))] [] (ai (lenT (d := 7) I a0) (ai (lenT (d := 9) I b1) trivial)) ?_
 refine seqQ_norm ?_
 rcases itesome h with ⟨hb_1, h⟩ | ⟨hb_1, h⟩
 ·refine cT (((a0.length : Int) != (b1.length : Int))) hb_1 ?_
  refine sN ?_
  refine rg0 hc 1 [(4, .bool false)] [] ?_
  refine seqQ_norm ?_
  refine Wp.retN (by kernel_rfl) ?_
  refine seqQ_ret ?_
  obtain rfl := Option.some.inj h
  exact RetQ.ret (fl := [true]) (by kernel_rfl)
 ·refine cF (((a0.length : Int) != (b1.length : Int))) hb_1 ?_
  refine Wp.skipN (by kernel_rfl) ?_
  refine seqQ_norm ?_
  refine sN ?_
  refine sN ?_
  refine rg0 hc 1 [(0, sI a0), (1, sI b1), (5, I 0)] [] ?_
  refine seqQ_norm ?_
  refine Wp.blockN (i := 0) (by kernel_rfl) ?_
  obtain ⟨fl, hl_7, h⟩ := bsome h
  have hL := laws_eqIntS_l0_s _ _ hl_7 c hc
  refine Wp.loopN (by kernel_rfl) ?_
  rcases fl with ⟨⟩ | r
  ·refine WpL.into (e := (.exit 0)) (mkS [] []) hL ?_
   refine blockQ_hit ?_
   refine seqQ_norm ?_
   refine sN ?_
   refine rg0 hc 1 [(4, .bool true)] [] ?_
   refine seqQ_norm ?_
   refine Wp.retN (by kernel_rfl) ?_
   obtain rfl := Option.some.inj h
   exact RetQ.ret (fl := [true]) (by kernel_rfl)
  ·refine WpL.mono hL ?_
   rintro _ _ ⟨rfl, hfin⟩
   refine blockQ_ret ?_
   refine seqQ_ret ?_
   obtain rfl := Option.some.inj h
   exact ⟨.inl rfl, hfin⟩
def laws_eqTermS_F1 (c : Ctx) : (Unit) ⊕ (Bool) → Exit → AState → Prop
 | .inl _ => Into c (.exit 0) (mkS [] [])
 | .inr r => RetE TIx Try.f49 [] (.bool r)
end Go.Am
