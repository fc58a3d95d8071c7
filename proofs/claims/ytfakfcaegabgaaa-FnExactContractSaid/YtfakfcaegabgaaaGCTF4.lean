/- Functions of the program as pure functions, and that it computes them. Printed by a program of mine (gen.py). -/
import Derived.Test.YtfakfcaegabgaaaGCTF3
set_option linter.unusedVariables false
set_option linter.unusedSimpArgs false
set_option maxRecDepth 100000
namespace Go.Am
open Go Go.Proofs
def ah4_0 : Option (List (List Nat)) := rx [[0], [1], [2], [3], [0], [0, 4], [0, 4, 5], [0, 4, 5, 6], [8], [9]]
mutual
def impl_renamed_Kimpl_substituted_c1 (p : GTerm × Int × Int × GTerm) : Option (GTerm) :=
 match p with
 | (t0, deep1, clo2_0, clo2_1) =>
  if (t0.fOp == 0) = true then
   (impl_substituted_c1 (t0, deep1, clo2_0, clo2_1)) >>= fun r_2_3 =>
   some r_2_3
  else
   (slices_Clone_int t0.fType) >>= fun r_3_6 =>
   (impl_renamed_Kimpl_substituted_c1_l0 (t0, deep1, clo2_0, clo2_1, r_3_6, [], 0)) >>= fun out_7 =>
   some (GTerm.mk t0.fOp t0.fN r_3_6 out_7)
 partial_fixpoint
def impl_renamed_Kimpl_substituted_c1_l0 (p : GTerm × Int × Int × GTerm × (List Int) × (List GTerm) × Int) : Option ((List GTerm)) :=
 match p with
 | (t0, deep1, clo2_0, clo2_1, r_3_6, out_5, w_3) =>
  if (decide (w_3 < (t0.fKids.length : Int))) = true then
   (idx t0.fKids w_3) >>= fun e_6_1 =>
   (impl_adds (t0.fOp, w_3)) >>= fun r_7_7 =>
   (impl_renamed_Kimpl_substituted_c1 (e_6_1, (wr (deep1 + r_7_7)), clo2_0, clo2_1)) >>= fun r_7_10 =>
   (fits (out_5.length + [r_7_10].length) 64) >>= fun _ =>
   impl_renamed_Kimpl_substituted_c1_l0 (t0, deep1, clo2_0, clo2_1, r_3_6, (out_5 ++ [r_7_10]), (wr (w_3 + 1)))
  else
   some (out_5)
 partial_fixpoint
end
def M_impl_renamed_Kimpl_substituted_c1 (p : GTerm × Int × Int × GTerm) (r : GTerm) : Prop :=
 match p with
 | (t0, deep1, clo2_0, clo2_1) => FnSound Try.prog 160 [aTerm t0, I deep1, .fn 161 [.ptr [I clo2_0] 0, .ptr [I clo2_1.fOp, I clo2_1.fN, sI clo2_1.fType, .sl (List.map GTerm_S clo2_1.fKids)] 0]] (qTerm r) []
def M_impl_renamed_Kimpl_substituted_c1_l0 (p : GTerm × Int × Int × GTerm × (List Int) × (List GTerm) × Int) (fl : (List GTerm)) : Prop :=
 match p with
 | (t0, deep1, clo2_0, clo2_1, r_3_6, out_5, w_3) => ∀ c : Ctx, c.nt = 49 → WpL Try.prog c (cl (cl (cr (cl (cr (cr (cr B160))))))) (impl_renamed_Kimpl_substituted_c1_F1 c t0 r_3_6 fl) (mkS [(1, I deep1), (2, .fn 161 [.ptr [I clo2_0] 0, .ptr [I clo2_1.fOp, I clo2_1.fN, sI clo2_1.fType, .sl (List.map GTerm_S clo2_1.fKids)] 0]), (3, .ra 1 0), (6, .ra 2 0), (7, .ra 6 0), (26, .sl (List.map GTerm_S t0.fKids)), (27, I (t0.fKids.length : Int)), (28, I w_3)] [(1, bTerm t0), (2, .box [I 0, I 0, .nils, .nils]), (5, .arr (List.map I r_3_6)), (6, .box [I t0.fOp, I t0.fN, .rs 5, .rs 12]), (12, .arr (List.map GTerm_O out_5))])
theorem impl_renamed_Kimpl_substituted_c1_all : (∀ p r, impl_renamed_Kimpl_substituted_c1 p = some r → M_impl_renamed_Kimpl_substituted_c1 p r) ∧ (∀ p r, impl_renamed_Kimpl_substituted_c1_l0 p = some r → M_impl_renamed_Kimpl_substituted_c1_l0 p r) := by
 refine impl_renamed_Kimpl_substituted_c1.mutual_partial_correctness M_impl_renamed_Kimpl_substituted_c1 M_impl_renamed_Kimpl_substituted_c1_l0 ?_ ?_
 ·rintro impl_renamed_Kimpl_substituted_c1_l0_f impl_renamed_Kimpl_substituted_c1_l0_ih ⟨t0, deep1, clo2_0, clo2_1⟩ r h
  show FnSound Try.prog 160 [aTerm t0, I deep1, .fn 161 [.ptr [I clo2_0] 0, .ptr [I clo2_1.fOp, I clo2_1.fN, sI clo2_1.fType, .sl (List.map GTerm_S clo2_1.fKids)] 0]] (qTerm r) []
  refine FnSound.body0 tiok (fn := Try.f160) (code := B160) (by kernel_rfl) (by kernel_rfl) (by kernel_rfl) (by kernel_rfl) (nt := 49) (by kernel_rfl) (by kernel_rfl) (T := [(0, aTerm t0), (1, I deep1), (2, .fn 161 [.ptr [I clo2_0] 0, .ptr [I clo2_1.fOp, I clo2_1.fN, sI clo2_1.fType, .sl (List.map GTerm_S clo2_1.fKids)] 0])]) (O := []) (by kernel_rfl) (by kernel_rfl) (fun c hc => ?_)
  refine sN ?_
  refine rg hc none [some (.new 1), some (.new 2)] [(1, I deep1), (2, .fn 161 [.ptr [I clo2_0] 0, .ptr [I clo2_1.fOp, I clo2_1.fN, sI clo2_1.fType, .sl (List.map GTerm_S clo2_1.fKids)] 0]), (3, .ra 1 0), (6, .ra 2 0)] [(1, bTerm t0), (2, .box [I 0, I 0, .nils, .nils])] trivial ?_
  refine seqQ_norm ?_
  refine sN ?_
  refine sN ?_
  refine rg0 hc 3 [(1, I deep1), (2, .fn 161 [.ptr [I clo2_0] 0, .ptr [I clo2_1.fOp, I clo2_1.fN, sI clo2_1.fType, .sl (List.map GTerm_S clo2_1.fKids)] 0]), (3, .ra 1 0), (6, .ra 2 0), (12, .bool (t0.fOp == 0))] [(1, bTerm t0), (2, .box [I 0, I 0, .nils, .nils])] ?_
  refine seqQ_norm ?_
  rcases itesome h with ⟨hb_1, h⟩ | ⟨hb_1, h⟩
  ·refine cT ((t0.fOp == 0)) hb_1 ?_
   refine sN ?_
   obtain ⟨r_2_3, hr_2_3, h⟩ := bsome h
   refine rg hc none [oN, oN, oN, some (.call (qTerm r_2_3) [] 3), oN] [(6, .ra 2 0)] [(2, .box [I r_2_3.fOp, I r_2_3.fN, .rs 3, .rs 4]), (3, .arr (List.map I r_2_3.fType)), (4, .arr (List.map GTerm_O r_2_3.fKids))] (ai (impl_substituted_c1_s _ _ hr_2_3) (ai bod_161 (ai (oi (qTerm r_2_3)) trivial))) ?_
   refine seqQ_norm ?_
   refine Wp.retN (by kernel_rfl) ?_
   refine seqQ_ret ?_
   obtain rfl := Option.some.inj h
   exact RetQ.ret (fl := [true]) (by kernel_rfl)
  ·refine cF ((t0.fOp == 0)) hb_1 ?_
   refine Wp.skipN (by kernel_rfl) ?_
   refine seqQ_norm ?_
   refine sN ?_
   obtain ⟨r_3_6, hr_3_6, h⟩ := bsome h
   refine rg hc (rx [[0], [1], [0], [0, 2], [0], [0, 4], [0, 4, 5], [7], [0], [9]]) [oN, oN, oN, oN, oN, oN, some (.call (.osl (List.map I r_3_6)) [] 5), oN, some (.new 6), oN] [(1, I deep1), (2, .fn 161 [.ptr [I clo2_0] 0, .ptr [I clo2_1.fOp, I clo2_1.fN, sI clo2_1.fType, .sl (List.map GTerm_S clo2_1.fKids)] 0]), (3, .ra 1 0), (6, .ra 2 0), (7, .ra 6 0)] [(1, bTerm t0), (2, .box [I 0, I 0, .nils, .nils]), (5, .arr (List.map I r_3_6)), (6, .box [I t0.fOp, I t0.fN, .rs 5, .nils])] (ai (slices_Clone_int_s _ _ hr_3_6) (ai bod_105 (ai (oi (.osl (List.map I r_3_6))) trivial))) ?_
   refine seqQ_norm ?_
   refine sN ?_
   refine sN ?_
   refine rg hc none [oN, oN, some (.eqv (.no) ⟨[(27, I (t0.fKids.length : Int))], [], []⟩), oN] [(1, I deep1), (2, .fn 161 [.ptr [I clo2_0] 0, .ptr [I clo2_1.fOp, I clo2_1.fN, sI clo2_1.fType, .sl (List.map GTerm_S clo2_1.fKids)] 0]), (3, .ra 1 0), (6, .ra 2 0), (7, .ra 6 0), (26, .sl (List.map GTerm_S t0.fKids)), (27, I (t0.fKids.length : Int)), (28, I 0)] [(1, bTerm t0), (2, .box [I 0, I 0, .nils, .nils]), (5, .arr (List.map I r_3_6)), (6, .box [I t0.fOp, I t0.fN, .rs 5, .nils])] (ai (lenT (d := 27) GTerm_S t0.fKids) trivial) ?_
   refine seqQ_norm ?_
   refine Wp.blockN (i := 0) (by kernel_rfl) ?_
   obtain ⟨out_7, hl_8, h⟩ := bsome h
   have hL := impl_renamed_Kimpl_substituted_c1_l0_ih _ _ hl_8 c hc
   refine Wp.loopN (by kernel_rfl) (WpL.view (fun a w hv => SRx.renL [(12, 23)] (SRx.nilBL 6 3 23 [I t0.fOp, I t0.fN, .rs 5, .nils] hv (by kernel_rfl) (by kernel_rfl) (by kernel_rfl)) (by kernel_rfl) (by kernel_rfl) (by kernel_rfl)) (?_ : WpL _ c _ _ (mkS [(1, I deep1), (2, .fn 161 [.ptr [I clo2_0] 0, .ptr [I clo2_1.fOp, I clo2_1.fN, sI clo2_1.fType, .sl (List.map GTerm_S clo2_1.fKids)] 0]), (3, .ra 1 0), (6, .ra 2 0), (7, .ra 6 0), (26, .sl (List.map GTerm_S t0.fKids)), (27, I (t0.fKids.length : Int)), (28, I 0)] [(1, bTerm t0), (2, .box [I 0, I 0, .nils, .nils]), (5, .arr (List.map I r_3_6)), (6, .box [I t0.fOp, I t0.fN, .rs 5, .rs 12]), (12, .arr (List.map GTerm_O []))])))
   ·refine WpL.into (e := (.exit 0)) (mkS [(6, .ra 2 0), (7, .ra 6 0)] [(2, .box [I 0, I 0, .nils, .nils]), (5, .arr (List.map I r_3_6)), (6, .box [I t0.fOp, I t0.fN, .rs 5, .rs 12]), (12, .arr (List.map GTerm_O out_7))]) hL ?_
    refine blockQ_hit ?_
    refine seqQ_norm ?_
    refine sN ?_
    refine rg0 hc 2 [(6, .ra 2 0)] [(2, .box [I t0.fOp, I t0.fN, .rs 5, .rs 12]), (5, .arr (List.map I r_3_6)), (12, .arr (List.map GTerm_O out_7))] ?_
    refine seqQ_norm ?_
    refine Wp.retN (by kernel_rfl) ?_
    obtain rfl := Option.some.inj h
    exact RetQ.ret (fl := [true]) (by kernel_rfl)
 ·rintro impl_renamed_Kimpl_substituted_c1_f impl_renamed_Kimpl_substituted_c1_l0_f impl_renamed_Kimpl_substituted_c1_ih impl_renamed_Kimpl_substituted_c1_l0_ih ⟨t0, deep1, clo2_0, clo2_1, r_3_6, out_5, w_3⟩ r h
  intro c hc
  show WpL Try.prog c (cl (cl (cr (cl (cr (cr (cr B160))))))) (impl_renamed_Kimpl_substituted_c1_F1 c t0 r_3_6 r) (mkS [(1, I deep1), (2, .fn 161 [.ptr [I clo2_0] 0, .ptr [I clo2_1.fOp, I clo2_1.fN, sI clo2_1.fType, .sl (List.map GTerm_S clo2_1.fKids)] 0]), (3, .ra 1 0), (6, .ra 2 0), (7, .ra 6 0), (26, .sl (List.map GTerm_S t0.fKids)), (27, I (t0.fKids.length : Int)), (28, I w_3)] [(1, bTerm t0), (2, .box [I 0, I 0, .nils, .nils]), (5, .arr (List.map I r_3_6)), (6, .box [I t0.fOp, I t0.fN, .rs 5, .rs 12]), (12, .arr (List.map GTerm_O out_5))])
  refine WpL.step ?_
  refine sN ?_
  refine rg0 hc 1 [(1, I deep1), (2, .fn 161 [.ptr [I clo2_0] 0, .ptr [I clo2_1.fOp, I clo2_1.fN, sI clo2_1.fType, .sl (List.map GTerm_S clo2_1.fKids)] 0]), (3, .ra 1 0), (6, .ra 2 0), (7, .ra 6 0), (26, .sl (List.map GTerm_S t0.fKids)), (27, I (t0.fKids.length : Int)), (28, I w_3), (29, .bool (decide (w_3 < (t0.fKids.length : Int))))] [(1, bTerm t0), (2, .box [I 0, I 0, .nils, .nils]), (5, .arr (List.map I r_3_6)), (6, .box [I t0.fOp, I t0.fN, .rs 5, .rs 12]), (12, .arr (List.map GTerm_O out_5))] ?_
  refine seqQ_norm ?_
  refine sN ?_
  rcases itesome h with ⟨hb_6, h⟩ | ⟨hb_6, h⟩
  ·refine cT ((decide (w_3 < (t0.fKids.length : Int)))) hb_6 ?_
   refine Wp.skipN (by kernel_rfl) ?_
   refine seqQ_norm ?_
   refine sN ?_
   refine Wp.blockN (i := 1) (by kernel_rfl) ?_
   refine sN ?_
   obtain ⟨e_6_1, hi_6_1, h⟩ := bsome h
   refine rg hc none [oN, some (.el (aTerm e_6_1)), oN, some (.new 18), oN, oN] [(1, I deep1), (2, .fn 161 [.ptr [I clo2_0] 0, .ptr [I clo2_1.fOp, I clo2_1.fN, sI clo2_1.fType, .sl (List.map GTerm_S clo2_1.fKids)] 0]), (3, .ra 1 0), (6, .ra 2 0), (7, .ra 6 0), (8, I w_3), (9, .ra 18 0), (26, .sl (List.map GTerm_S t0.fKids)), (27, I (t0.fKids.length : Int)), (28, I w_3)] [(1, bTerm t0), (2, .box [I 0, I 0, .nils, .nils]), (5, .arr (List.map I r_3_6)), (6, .box [I t0.fOp, I t0.fN, .rs 5, .rs 12]), (12, .arr (List.map GTerm_O out_5)), (18, bTerm e_6_1)] (ai (idx_sl (enc := GTerm_S) (x := aTerm e_6_1) hi_6_1 (eq_GTerm_S e_6_1)) trivial) ?_
   refine seqQ_norm ?_
   obtain ⟨r_7_7, hr_7_7, h⟩ := bsome h
   obtain ⟨r_7_10, hr_7_10, h⟩ := bsome h
   obtain ⟨_, hk_7_12, h⟩ := bsome h
   refine rg hc (rx [[0], [1], [0], [0], [0], [0, 4], [0], [0, 4, 5, 6], [0, 3, 4, 5, 6, 7], [0], [0, 2, 3, 4, 5, 6, 7, 8, 9], [0, 2, 3, 4, 5, 6, 7, 8, 9, 10], [12], [13], [14]]) [oN, oN, oN, oN, oN, oN, oN, oc (I r_7_7), oN, oN, some (.call (qTerm r_7_10) [] 19), some (.eqv (.mk 21 true) ⟨[(44, .rs 21)], [(21, some (.arr (List.map GTerm_O [r_7_10]))), (19, none), (20, none)], [21]⟩), some (.eqv (.mk 22 true) ⟨[(45, .rs 22)], [(22, some (.arr (List.map GTerm_O (out_5 ++ [r_7_10])))), (12, none), (21, none)], [22]⟩), oN, oN] [(1, I deep1), (2, .fn 161 [.ptr [I clo2_0] 0, .ptr [I clo2_1.fOp, I clo2_1.fN, sI clo2_1.fType, .sl (List.map GTerm_S clo2_1.fKids)] 0]), (3, .ra 1 0), (6, .ra 2 0), (7, .ra 6 0), (26, .sl (List.map GTerm_S t0.fKids)), (27, I (t0.fKids.length : Int)), (28, I w_3)] [(1, bTerm t0), (2, .box [I 0, I 0, .nils, .nils]), (5, .arr (List.map I r_3_6)), (6, .box [I t0.fOp, I t0.fN, .rs 5, .rs 22]), (22, .arr (List.map GTerm_O (out_5 ++ [r_7_10])))] (ai (impl_adds_s _ _ hr_7_7) (ai bod_165 (ai (oi (I r_7_7)) (ai (impl_renamed_Kimpl_substituted_c1_ih _ _ hr_7_10) (ai bod_160 (ai (oi (qTerm r_7_10)) (ai (congrArg (fun z => (⟨[(44, .rs 21)], [(21, some (.arr z)), (19, none), (20, none)], [21]⟩ : Wr)) ((rows1 (eq_GTerm_O r_7_10) rows0) : [AV.agg [I r_7_10.fOp, I r_7_10.fN, AV.osl (List.map I r_7_10.fType), AV.osl (List.map GTerm_O r_7_10.fKids)]] = List.map GTerm_O [r_7_10])) (ai (congrArg (fun z => (⟨[(45, .rs 22)], [(22, some (.arr z)), (12, none), (21, none)], [22]⟩ : Wr)) ((List.map_append).symm : (List.map GTerm_O out_5) ++ (List.map GTerm_O [r_7_10]) = List.map GTerm_O (out_5 ++ [r_7_10]))) (ai (app_ob (enc1 := GTerm_O) (enc2 := GTerm_O) (e1 := out_5) (e2 := [r_7_10]) (sz := 4) ek_GTerm_O ek_GTerm_O hk_7_12) trivial))))))))) ?_
   refine blockQ_norm ?_
   refine seqQ_norm ?_
   refine rg0 hc 2 [(1, I deep1), (2, .fn 161 [.ptr [I clo2_0] 0, .ptr [I clo2_1.fOp, I clo2_1.fN, sI clo2_1.fType, .sl (List.map GTerm_S clo2_1.fKids)] 0]), (3, .ra 1 0), (6, .ra 2 0), (7, .ra 6 0), (26, .sl (List.map GTerm_S t0.fKids)), (27, I (t0.fKids.length : Int)), (28, I (wr (w_3 + 1)))] [(1, bTerm t0), (2, .box [I 0, I 0, .nils, .nils]), (5, .arr (List.map I r_3_6)), (6, .box [I t0.fOp, I t0.fN, .rs 5, .rs 22]), (22, .arr (List.map GTerm_O (out_5 ++ [r_7_10])))] ?_
   refine loopQ_norm ?_
   exact WpL.view (fun a w hv => SRx.renL [(12, 22)] hv (by kernel_rfl) (by kernel_rfl) (by kernel_rfl)) (impl_renamed_Kimpl_substituted_c1_l0_ih _ _ h c hc)
  ·refine cF ((decide (w_3 < (t0.fKids.length : Int)))) hb_6 ?_
   refine Wp.exitN (i := 0) (by kernel_rfl) ?_
   refine seqQ_exit ?_
   refine loopQ_exit ?_
   obtain rfl := Option.some.inj h
   exact Into.view (fun a w hv => SRx.renL [] hv (by kernel_rfl) (by kernel_rfl) (by kernel_rfl))
theorem impl_renamed_Kimpl_substituted_c1_s : ∀ p r, impl_renamed_Kimpl_substituted_c1 p = some r → M_impl_renamed_Kimpl_substituted_c1 p r := impl_renamed_Kimpl_substituted_c1_all.1
theorem impl_renamed_Kimpl_substituted_c1_l0_s : ∀ p r, impl_renamed_Kimpl_substituted_c1_l0 p = some r → M_impl_renamed_Kimpl_substituted_c1_l0 p r := impl_renamed_Kimpl_substituted_c1_all.2
def impl_substituted (p : GTerm × Int × GTerm) : Option (GTerm) :=
 match p with
 | (t0, i1, u2) =>
  (impl_renamed_Kimpl_substituted_c1 (t0, 0, i1, u2)) >>= fun r_1_2 =>
  some r_1_2
def M_impl_substituted (p : GTerm × Int × GTerm) (r : GTerm) : Prop :=
 match p with
 | (t0, i1, u2) => FnSound Try.prog 131 [aTerm t0, I i1, aTerm u2] (qTerm r) []
theorem impl_substituted_s : ∀ p r, impl_substituted p = some r → M_impl_substituted p r := by
 rintro ⟨t0, i1, u2⟩ r h
 unfold impl_substituted at h
 show FnSound Try.prog 131 [aTerm t0, I i1, aTerm u2] (qTerm r) []
 refine FnSound.body0 tiok (fn := Try.f131) (code := B131) (by kernel_rfl) (by kernel_rfl) (by kernel_rfl) (by kernel_rfl) (nt := 10) (by kernel_rfl) (by kernel_rfl) (T := [(0, aTerm t0), (1, I i1), (2, aTerm u2)]) (O := []) (by kernel_rfl) (by kernel_rfl) (fun c hc => ?_)
 refine sN ?_
 refine rg hc none [some (.new 1), some (.new 2), some (.new 3), some (.new 4)] [(3, .ra 1 0), (4, .ra 2 0), (5, .ra 3 0), (6, .ra 4 0)] [(1, bTerm t0), (2, .box [I i1]), (3, bTerm u2), (4, .box [I 0, I 0, .nils, .nils])] trivial ?_
 refine seqQ_norm ?_
 refine sN ?_
 obtain ⟨r_1_2, hr_1_2, h⟩ := bsome h
 refine rg hc none [oN, oN, some (.call (qTerm r_1_2) [] 5), oN] [(6, .ra 4 0)] [(4, .box [I r_1_2.fOp, I r_1_2.fN, .rs 5, .rs 6]), (5, .arr (List.map I r_1_2.fType)), (6, .arr (List.map GTerm_O r_1_2.fKids))] (ai (impl_renamed_Kimpl_substituted_c1_s _ _ hr_1_2) (ai bod_160 (ai (Or.inr (nsh_cons rfl (nsh_cons rfl (nsh_cons (nsh_row nsh_I r_1_2.fType) (nsh_cons (nsh_row nsh_GTerm_O r_1_2.fKids) rfl)))) : ([2, 3] : List Nat) = [] ∨ noSh (qTerm r_1_2) = true) trivial))) ?_
 refine seqQ_norm ?_
 refine Wp.retN (by kernel_rfl) ?_
 obtain rfl := Option.some.inj h
 exact RetQ.ret (fl := [true]) (by kernel_rfl)
def impl_contracted (t0 : GTerm) : Option (GTerm) :=
  (idx t0.fKids 0) >>= fun e_1_2 =>
  if (t0.fOp == 2) = true then
   (idx t0.fKids 1) >>= fun e_4_4 =>
   some (GTerm.mk 1 (Int.tmod (wr (e_1_2.fN + e_4_4.fN)) 3) [] [])
  else
   if (t0.fOp == 3) = true then
    if (e_1_2.fN == 0) = true then
     (idx t0.fKids 1) >>= fun e_7_2 =>
     (impl_copyTerm e_7_2) >>= fun r_7_4 =>
     some r_7_4
    else
     (idx t0.fKids 2) >>= fun e_8_2 =>
     (impl_copyTerm e_8_2) >>= fun r_8_4 =>
     some r_8_4
   else
    if (t0.fOp == 10) = true then
     (idx e_1_2.fKids 0) >>= fun e_10_2 =>
     (idx t0.fKids 1) >>= fun e_10_6 =>
     (impl_substituted (e_10_2, 0, e_10_6)) >>= fun r_10_8 =>
     some r_10_8
    else
     if (t0.fOp == 5) = true then
      (idx t0.fKids 1) >>= fun e_12_2 =>
      (idx e_1_2.fKids 1) >>= fun e_12_6 =>
      (impl_shifted (e_12_6, 1, 0)) >>= fun r_12_8 =>
      (impl_substituted (e_12_2, 0, r_12_8)) >>= fun r_12_9 =>
      (idx e_1_2.fKids 0) >>= fun e_13_3 =>
      (impl_substituted (r_12_9, 0, e_13_3)) >>= fun r_13_5 =>
      some r_13_5
     else
      if (t0.fOp == 8) = true then
       (idx t0.fKids (wr ((wr (1 + e_1_2.fOp)) - 6))) >>= fun e_15_6 =>
       (idx e_1_2.fKids 0) >>= fun e_15_10 =>
       (impl_substituted (e_15_6, 0, e_15_10)) >>= fun r_15_12 =>
       some r_15_12
      else
       (idx t0.fKids 1) >>= fun e_16_2 =>
       (idx e_1_2.fKids 0) >>= fun e_16_6 =>
       (impl_substituted (e_16_2, 0, e_16_6)) >>= fun r_16_8 =>
       some r_16_8
def M_impl_contracted (t0 : GTerm) (r : GTerm) : Prop :=
 FnSound Try.prog 82 [aTerm t0] (qTerm r) []
theorem impl_contracted_s : ∀ p r, impl_contracted p = some r → M_impl_contracted p r := by
 rintro t0 r h
 unfold impl_contracted at h
 show FnSound Try.prog 82 [aTerm t0] (qTerm r) []
 refine FnSound.body0 tiok (fn := Try.f82) (code := B82) (by kernel_rfl) (by kernel_rfl) (by kernel_rfl) (by kernel_rfl) (nt := 91) (by kernel_rfl) (by kernel_rfl) (T := [(0, aTerm t0)]) (O := []) (by kernel_rfl) (by kernel_rfl) (fun c hc => ?_)
 refine sN ?_
 refine rg hc none [some (.new 1), some (.new 2)] [(1, .ra 1 0), (2, .ra 2 0)] [(1, bTerm t0), (2, .box [I 0, I 0, .nils, .nils])] trivial ?_
 refine seqQ_norm ?_
 refine sN ?_
 obtain ⟨e_1_2, hi_1_2, h⟩ := bsome h
 refine rg hc none [oN, oN, some (.el (aTerm e_1_2)), oN, some (.new 3), oN] [(1, .ra 1 0), (2, .ra 2 0), (3, .ra 3 0)] [(1, bTerm t0), (2, .box [I 0, I 0, .nils, .nils]), (3, bTerm e_1_2)] (ai (idx_sl (enc := GTerm_S) (x := aTerm e_1_2) hi_1_2 (eq_GTerm_S e_1_2)) trivial) ?_
 refine seqQ_norm ?_
 refine sN ?_
 refine sN ?_
 refine rg0 hc 2 [(1, .ra 1 0), (2, .ra 2 0), (3, .ra 3 0), (10, I t0.fOp)] [(1, bTerm t0), (2, .box [I 0, I 0, .nils, .nils]), (3, bTerm e_1_2)] ?_
 refine seqQ_norm ?_
 refine Wp.blockN (i := 0) (by kernel_rfl) ?_
 refine sN ?_
 refine rg0 hc 2 [(1, .ra 1 0), (2, .ra 2 0), (3, .ra 3 0), (10, I t0.fOp), (11, .bool (t0.fOp == 2))] [(1, bTerm t0), (2, .box [I 0, I 0, .nils, .nils]), (3, bTerm e_1_2)] ?_
 refine seqQ_norm ?_
 rcases itesome h with ⟨hb_1, h⟩ | ⟨hb_1, h⟩
 ·refine cT ((t0.fOp == 2)) hb_1 ?_
  refine sN ?_
  obtain ⟨e_4_4, hi_4_4, h⟩ := bsome h
  refine rg hc (rx [[0], [1], [0], [0, 2], [0, 2, 3], [0, 2, 3, 4], [0, 2, 3, 4, 5], [7], [8], [9], [10]]) [oN, oN, oN, oN, some (.el (aTerm e_4_4)), oN, oN, oN, oN, oN, oN] [(2, .ra 2 0)] [(2, .box [I 1, I (Int.tmod (wr (e_1_2.fN + e_4_4.fN)) 3), .nils, .nils])] (ai (idx_sl (enc := GTerm_S) (x := aTerm e_4_4) hi_4_4 (eq_GTerm_S e_4_4)) (ai ((by decide) : (3 : Int) ≠ 0) trivial)) ?_
  refine seqQ_norm ?_
  refine Wp.retN (by kernel_rfl) ?_
  refine blockQ_ret ?_
  refine seqQ_ret ?_
  obtain rfl := Option.some.inj h
  exact RetQ.ret (fl := [true]) (by kernel_rfl)
 ·refine cF ((t0.fOp == 2)) hb_1 ?_
  refine sN ?_
  refine rg0 hc 2 [(1, .ra 1 0), (2, .ra 2 0), (3, .ra 3 0), (10, I t0.fOp), (23, .bool (t0.fOp == 3))] [(1, bTerm t0), (2, .box [I 0, I 0, .nils, .nils]), (3, bTerm e_1_2)] ?_
  refine seqQ_norm ?_
  rcases itesome h with ⟨hb_2, h⟩ | ⟨hb_2, h⟩
  ·refine cT ((t0.fOp == 3)) hb_2 ?_
   refine sN ?_
   refine sN ?_
   refine rg0 hc 3 [(1, .ra 1 0), (2, .ra 2 0), (27, .bool (e_1_2.fN == 0))] [(1, bTerm t0), (2, .box [I 0, I 0, .nils, .nils])] ?_
   refine seqQ_norm ?_
   rcases itesome h with ⟨hb_3, h⟩ | ⟨hb_3, h⟩
   ·refine cT ((e_1_2.fN == 0)) hb_3 ?_
    refine sN ?_
    obtain ⟨e_7_2, hi_7_2, h⟩ := bsome h
    obtain ⟨r_7_4, hr_7_4, h⟩ := bsome h
    refine rg hc none [oN, oN, some (.el (aTerm e_7_2)), oN, some (.call (qTerm r_7_4) [] 4), oN] [(2, .ra 2 0)] [(2, .box [I r_7_4.fOp, I r_7_4.fN, .rs 4, .rs 5]), (4, .arr (List.map I r_7_4.fType)), (5, .arr (List.map GTerm_O r_7_4.fKids))] (ai (idx_sl (enc := GTerm_S) (x := aTerm e_7_2) hi_7_2 (eq_GTerm_S e_7_2)) (ai (impl_copyTerm_s _ _ hr_7_4) (ai bod_130 (ai (oi (qTerm r_7_4)) trivial)))) ?_
    refine seqQ_norm ?_
    refine Wp.retN (by kernel_rfl) ?_
    refine seqQ_ret ?_
    refine blockQ_ret ?_
    refine seqQ_ret ?_
    obtain rfl := Option.some.inj h
    exact RetQ.ret (fl := [true]) (by kernel_rfl)
   ·refine cF ((e_1_2.fN == 0)) hb_3 ?_
    refine Wp.skipN (by kernel_rfl) ?_
    refine seqQ_norm ?_
    refine sN ?_
    obtain ⟨e_8_2, hi_8_2, h⟩ := bsome h
    obtain ⟨r_8_4, hr_8_4, h⟩ := bsome h
    refine rg hc none [oN, oN, some (.el (aTerm e_8_2)), oN, some (.call (qTerm r_8_4) [] 6), oN] [(2, .ra 2 0)] [(2, .box [I r_8_4.fOp, I r_8_4.fN, .rs 6, .rs 7]), (6, .arr (List.map I r_8_4.fType)), (7, .arr (List.map GTerm_O r_8_4.fKids))] (ai (idx_sl (enc := GTerm_S) (x := aTerm e_8_2) hi_8_2 (eq_GTerm_S e_8_2)) (ai (impl_copyTerm_s _ _ hr_8_4) (ai bod_130 (ai (oi (qTerm r_8_4)) trivial)))) ?_
    refine seqQ_norm ?_
    refine Wp.retN (by kernel_rfl) ?_
    refine blockQ_ret ?_
    refine seqQ_ret ?_
    obtain rfl := Option.some.inj h
    exact RetQ.ret (fl := [true]) (by kernel_rfl)
  ·refine cF ((t0.fOp == 3)) hb_2 ?_
   refine sN ?_
   refine rg0 hc 2 [(1, .ra 1 0), (2, .ra 2 0), (3, .ra 3 0), (10, I t0.fOp), (38, .bool (t0.fOp == 10))] [(1, bTerm t0), (2, .box [I 0, I 0, .nils, .nils]), (3, bTerm e_1_2)] ?_
   refine seqQ_norm ?_
   rcases itesome h with ⟨hb_4, h⟩ | ⟨hb_4, h⟩
   ·refine cT ((t0.fOp == 10)) hb_4 ?_
    refine sN ?_
    obtain ⟨e_10_2, hi_10_2, h⟩ := bsome h
    obtain ⟨e_10_6, hi_10_6, h⟩ := bsome h
    obtain ⟨r_10_8, hr_10_8, h⟩ := bsome h
    refine rg hc ah4_0 [oN, oN, some (.el (aTerm e_10_2)), oN, oN, oN, some (.el (aTerm e_10_6)), oN, some (.call (qTerm r_10_8) [] 8), oN] [(2, .ra 2 0)] [(2, .box [I r_10_8.fOp, I r_10_8.fN, .rs 8, .rs 9]), (8, .arr (List.map I r_10_8.fType)), (9, .arr (List.map GTerm_O r_10_8.fKids))] (ai (idx_sl (enc := GTerm_S) (x := aTerm e_10_2) hi_10_2 (eq_GTerm_S e_10_2)) (ai (idx_sl (enc := GTerm_S) (x := aTerm e_10_6) hi_10_6 (eq_GTerm_S e_10_6)) (ai (impl_substituted_s _ _ hr_10_8) (ai bod_131 (ai (oi (qTerm r_10_8)) trivial))))) ?_
    refine seqQ_norm ?_
    refine Wp.retN (by kernel_rfl) ?_
    refine blockQ_ret ?_
    refine seqQ_ret ?_
    obtain rfl := Option.some.inj h
    exact RetQ.ret (fl := [true]) (by kernel_rfl)
   ·refine cF ((t0.fOp == 10)) hb_4 ?_
    refine sN ?_
    refine rg0 hc 2 [(1, .ra 1 0), (2, .ra 2 0), (3, .ra 3 0), (10, I t0.fOp), (49, .bool (t0.fOp == 5))] [(1, bTerm t0), (2, .box [I 0, I 0, .nils, .nils]), (3, bTerm e_1_2)] ?_
    refine seqQ_norm ?_
    rcases itesome h with ⟨hb_5, h⟩ | ⟨hb_5, h⟩
    ·refine cT ((t0.fOp == 5)) hb_5 ?_
     refine sN ?_
     obtain ⟨e_12_2, hi_12_2, h⟩ := bsome h
     obtain ⟨e_12_6, hi_12_6, h⟩ := bsome h
     obtain ⟨r_12_8, hr_12_8, h⟩ := bsome h
     obtain ⟨r_12_9, hr_12_9, h⟩ := bsome h
     refine rg hc (rx [[0], [1], [2], [3], [0], [0, 4], [0, 4, 5], [0, 4, 5, 6], [0, 4, 5, 6, 7], [9], [0], [11]]) [oN, oN, some (.el (aTerm e_12_2)), oN, oN, oN, some (.el (aTerm e_12_6)), oN, some (.call (qTerm r_12_8) [] 10), some (.call (qTerm r_12_9) [] 12), some (.new 14), oN] [(2, .ra 2 0), (3, .ra 3 0), (4, .ra 14 0)] [(2, .box [I 0, I 0, .nils, .nils]), (3, bTerm e_1_2), (12, .arr (List.map I r_12_9.fType)), (13, .arr (List.map GTerm_O r_12_9.fKids)), (14, .box [I r_12_9.fOp, I r_12_9.fN, .rs 12, .rs 13])] (ai (idx_sl (enc := GTerm_S) (x := aTerm e_12_2) hi_12_2 (eq_GTerm_S e_12_2)) (ai (idx_sl (enc := GTerm_S) (x := aTerm e_12_6) hi_12_6 (eq_GTerm_S e_12_6)) (ai (impl_shifted_s _ _ hr_12_8) (ai bod_132 (ai (oi (qTerm r_12_8)) (ai (FnSound.args (A1 := [aTerm e_12_2, I 0, hTerm r_12_8]) (A2 := [aTerm e_12_2, I 0, aTerm r_12_8]) (by simp only [sI, sB, aTerm, hTerm, List.map_nil, sh_GTerm_O, sh_I]) (impl_substituted_s _ _ hr_12_9)) (ai bod_131 (ai (Or.inr (nsh_cons rfl (nsh_cons rfl (nsh_cons (nsh_row nsh_I r_12_9.fType) (nsh_cons (nsh_row nsh_GTerm_O r_12_9.fKids) rfl)))) : ([10, 11] : List Nat) = [] ∨ noSh (qTerm r_12_9) = true) trivial)))))))) ?_
     refine seqQ_norm ?_
     refine sN ?_
     obtain ⟨e_13_3, hi_13_3, h⟩ := bsome h
     obtain ⟨r_13_5, hr_13_5, h⟩ := bsome h
     refine rg hc (rx [[0], [0], [0, 1], [0, 1, 2], [0, 1, 2, 3], [5], [6]]) [oN, oN, oN, some (.el (aTerm e_13_3)), oN, some (.call (qTerm r_13_5) [] 15), oN] [(2, .ra 2 0)] [(2, .box [I r_13_5.fOp, I r_13_5.fN, .rs 15, .rs 16]), (15, .arr (List.map I r_13_5.fType)), (16, .arr (List.map GTerm_O r_13_5.fKids))] (ai (idx_sl (enc := GTerm_S) (x := aTerm e_13_3) hi_13_3 (eq_GTerm_S e_13_3)) (ai (FnSound.args (A1 := [hTerm r_12_9, I 0, aTerm e_13_3]) (A2 := [aTerm r_12_9, I 0, aTerm e_13_3]) (by simp only [sI, sB, aTerm, hTerm, List.map_nil, sh_GTerm_O, sh_I]) (impl_substituted_s _ _ hr_13_5)) (ai bod_131 (ai (Or.inr (nsh_cons rfl (nsh_cons rfl (nsh_cons (nsh_row nsh_I r_13_5.fType) (nsh_cons (nsh_row nsh_GTerm_O r_13_5.fKids) rfl)))) : ([12, 13] : List Nat) = [] ∨ noSh (qTerm r_13_5) = true) trivial)))) ?_
     refine seqQ_norm ?_
     refine Wp.retN (by kernel_rfl) ?_
     refine blockQ_ret ?_
     refine seqQ_ret ?_
     obtain rfl := Option.some.inj h
     exact RetQ.ret (fl := [true]) (by kernel_rfl)
    ·refine cF ((t0.fOp == 5)) hb_5 ?_
     refine sN ?_
     refine rg0 hc 2 [(1, .ra 1 0), (2, .ra 2 0), (3, .ra 3 0), (67, .bool (t0.fOp == 8))] [(1, bTerm t0), (2, .box [I 0, I 0, .nils, .nils]), (3, bTerm e_1_2)] ?_
     refine seqQ_norm ?_
     rcases itesome h with ⟨hb_6, h⟩ | ⟨hb_6, h⟩
     ·refine cT ((t0.fOp == 8)) hb_6 ?_
      refine sN ?_
      obtain ⟨e_15_6, hi_15_6, h⟩ := bsome h
      obtain ⟨e_15_10, hi_15_10, h⟩ := bsome h
      obtain ⟨r_15_12, hr_15_12, h⟩ := bsome h
      refine rg hc (rx [[0], [1], [0], [0, 2], [0, 2, 3], [0, 2, 3, 4], [6], [7], [0], [0, 8], [0, 8, 9], [0, 8, 9, 10], [12], [13]]) [oN, oN, oN, oN, oN, oN, some (.el (aTerm e_15_6)), oN, oN, oN, some (.el (aTerm e_15_10)), oN, some (.call (qTerm r_15_12) [] 17), oN] [(2, .ra 2 0)] [(2, .box [I r_15_12.fOp, I r_15_12.fN, .rs 17, .rs 18]), (17, .arr (List.map I r_15_12.fType)), (18, .arr (List.map GTerm_O r_15_12.fKids))] (ai (idx_sl (enc := GTerm_S) (x := aTerm e_15_6) hi_15_6 (eq_GTerm_S e_15_6)) (ai (idx_sl (enc := GTerm_S) (x := aTerm e_15_10) hi_15_10 (eq_GTerm_S e_15_10)) (ai (impl_substituted_s _ _ hr_15_12) (ai bod_131 (ai (oi (qTerm r_15_12)) trivial))))) ?_
      refine seqQ_norm ?_
      refine Wp.retN (by kernel_rfl) ?_
      refine blockQ_ret ?_
      refine seqQ_ret ?_
      obtain rfl := Option.some.inj h
      exact RetQ.ret (fl := [true]) (by kernel_rfl)
     ·refine cF ((t0.fOp == 8)) hb_6 ?_
      refine Wp.skipN (by kernel_rfl) ?_
      refine blockQ_norm ?_
      refine seqQ_norm ?_
      refine sN ?_
      obtain ⟨e_16_2, hi_16_2, h⟩ := bsome h
      obtain ⟨e_16_6, hi_16_6, h⟩ := bsome h
      obtain ⟨r_16_8, hr_16_8, h⟩ := bsome h
      refine rg hc ah4_0 [oN, oN, some (.el (aTerm e_16_2)), oN, oN, oN, some (.el (aTerm e_16_6)), oN, some (.call (qTerm r_16_8) [] 19), oN] [(2, .ra 2 0)] [(2, .box [I r_16_8.fOp, I r_16_8.fN, .rs 19, .rs 20]), (19, .arr (List.map I r_16_8.fType)), (20, .arr (List.map GTerm_O r_16_8.fKids))] (ai (idx_sl (enc := GTerm_S) (x := aTerm e_16_2) hi_16_2 (eq_GTerm_S e_16_2)) (ai (idx_sl (enc := GTerm_S) (x := aTerm e_16_6) hi_16_6 (eq_GTerm_S e_16_6)) (ai (impl_substituted_s _ _ hr_16_8) (ai bod_131 (ai (oi (qTerm r_16_8)) trivial))))) ?_
      refine seqQ_norm ?_
      refine Wp.retN (by kernel_rfl) ?_
      obtain rfl := Option.some.inj h
      exact RetQ.ret (fl := [true]) (by kernel_rfl)
def impl_Contract (t0 : GTerm) : Option (GTerm × Bool) :=
  (impl_IsRedex t0) >>= fun r_1_1 =>
  if r_1_1 = true then
   (impl_contracted t0) >>= fun r_3_1 =>
   (impl_IsWritten r_3_1) >>= fun r_4_1 =>
   if r_4_1 = true then
    some (r_3_1, true)
   else
    some ((GTerm.mk 0 0 [] []), false)
  else
   some ((GTerm.mk 0 0 [] []), false)
def M_impl_Contract (t0 : GTerm) (r : GTerm × Bool) : Prop :=
 FnSound Try.prog 34 [aTerm t0] (.tup [.agg [I r.1.fOp, I r.1.fN, .osl (List.map I r.1.fType), .osl (List.map GTerm_O r.1.fKids)], .bool r.2]) []
theorem impl_Contract_s : ∀ p r, impl_Contract p = some r → M_impl_Contract p r := by
 rintro t0 r h
 unfold impl_Contract at h
 show FnSound Try.prog 34 [aTerm t0] (.tup [.agg [I r.1.fOp, I r.1.fN, .osl (List.map I r.1.fType), .osl (List.map GTerm_O r.1.fKids)], .bool r.2]) []
 refine FnSound.body0 tiok (fn := Try.f34) (code := B34) (by kernel_rfl) (by kernel_rfl) (by kernel_rfl) (by kernel_rfl) (nt := 16) (by kernel_rfl) (by kernel_rfl) (T := [(0, aTerm t0)]) (O := []) (by kernel_rfl) (by kernel_rfl) (fun c hc => ?_)
 refine sN ?_
 refine rg hc none [some (.new 1), some (.new 2), oN] [(1, .ra 1 0), (2, .ra 2 0)] [(1, bTerm t0), (2, .box [I 0, I 0, .nils, .nils])] trivial ?_
 refine seqQ_norm ?_
 refine sN ?_
 refine sN ?_
 obtain ⟨r_1_1, hr_1_1, h⟩ := bsome h
 refine rg hc none [oN, oc (.bool r_1_1), oN] [(1, .ra 1 0), (2, .ra 2 0), (7, .bool (!r_1_1))] [(1, bTerm t0), (2, .box [I 0, I 0, .nils, .nils])] (ai (impl_IsRedex_s _ _ hr_1_1) (ai bod_81 (ai (oi (.bool r_1_1)) trivial))) ?_
 refine seqQ_norm ?_
 rcases itesome h with ⟨hb_1, h⟩ | ⟨hb_1, h⟩
 ·refine cF (!r_1_1) (nF hb_1) ?_
  refine Wp.skipN (by kernel_rfl) ?_
  refine seqQ_norm ?_
  refine sN ?_
  obtain ⟨r_3_1, hr_3_1, h⟩ := bsome h
  refine rg hc none [oN, some (.call (qTerm r_3_1) [] 3), some (.new 5), oN] [(2, .ra 2 0), (4, .ra 5 0)] [(2, .box [I 0, I 0, .nils, .nils]), (3, .arr (List.map I r_3_1.fType)), (4, .arr (List.map GTerm_O r_3_1.fKids)), (5, .box [I r_3_1.fOp, I r_3_1.fN, .rs 3, .rs 4])] (ai (impl_contracted_s _ _ hr_3_1) (ai bod_82 (ai (oi (qTerm r_3_1)) trivial))) ?_
  refine seqQ_norm ?_
  refine sN ?_
  refine sN ?_
  obtain ⟨r_4_1, hr_4_1, h⟩ := bsome h
  refine rg hc none [oN, oc (.bool r_4_1), oN] [(2, .ra 2 0), (4, .ra 5 0), (13, .bool (!r_4_1))] [(2, .box [I 0, I 0, .nils, .nils]), (3, .arr (List.map I r_3_1.fType)), (4, .arr (List.map GTerm_O r_3_1.fKids)), (5, .box [I r_3_1.fOp, I r_3_1.fN, .rs 3, .rs 4])] (ai (FnSound.args (A1 := [hTerm r_3_1]) (A2 := [aTerm r_3_1]) (by simp only [sI, sB, aTerm, hTerm, List.map_nil, sh_GTerm_O, sh_I]) (impl_IsWritten_s _ _ hr_4_1)) (ai bod_60 (ai (Or.inr rfl : ([3, 4] : List Nat) = [] ∨ noSh (.bool r_4_1) = true) trivial))) ?_
  refine seqQ_norm ?_
  rcases itesome h with ⟨hb_2, h⟩ | ⟨hb_2, h⟩
  ·refine cF (!r_4_1) (nF hb_2) ?_
   refine Wp.skipN (by kernel_rfl) ?_
   refine seqQ_norm ?_
   refine sN ?_
   refine rg0 hc 3 [(2, .ra 2 0), (3, .bool true)] [(2, .box [I r_3_1.fOp, I r_3_1.fN, .rs 3, .rs 4]), (3, .arr (List.map I r_3_1.fType)), (4, .arr (List.map GTerm_O r_3_1.fKids))] ?_
   refine seqQ_norm ?_
   refine Wp.retN (by kernel_rfl) ?_
   obtain rfl := Option.some.inj h
   exact RetQ.ret (fl := [true, true]) (by kernel_rfl)
  ·refine cT (!r_4_1) (nT hb_2) ?_
   refine sN ?_
   refine rg0 hc 3 [(2, .ra 2 0), (3, .bool false)] [(2, .box [I 0, I 0, .nils, .nils])] ?_
   refine seqQ_norm ?_
   refine Wp.retN (by kernel_rfl) ?_
   refine seqQ_ret ?_
   obtain rfl := Option.some.inj h
   exact RetQ.ret (fl := [true, true]) (by kernel_rfl)
 ·refine cT (!r_1_1) (nT hb_1) ?_
  refine sN ?_
  refine rg0 hc 3 [(2, .ra 2 0), (3, .bool false)] [(2, .box [I 0, I 0, .nils, .nils])] ?_
  refine seqQ_norm ?_
  refine Wp.retN (by kernel_rfl) ?_
  refine seqQ_ret ?_
  obtain rfl := Option.some.inj h
  exact RetQ.ret (fl := [true, true]) (by kernel_rfl)
def laws_eqIntS_F1 (c : Ctx) : (Unit) ⊕ (Bool) → Exit → AState → Prop
 | .inl _ => Into c (.exit 0) (mkS [] [])
 | .inr r => RetE TIx Try.f18 [] (.bool r)
def laws_eqIntS_l0 (p : (List Int) × (List Int) × Int) : Option ((Unit) ⊕ (Bool)) :=
 match p with
 | (a0, b1, i_4) =>
  if (decide (i_4 < (a0.length : Int))) = true then
   (idx a0 i_4) >>= fun e_6_2 =>
   (idx b1 i_4) >>= fun e_6_6 =>
   if (e_6_2 != e_6_6) = true then
    some (.inr false)
   else
    laws_eqIntS_l0 (a0, b1, (wr (i_4 + 1)))
  else
   some (.inl ())
 partial_fixpoint
def M_laws_eqIntS_l0 (p : (List Int) × (List Int) × Int) (fl : (Unit) ⊕ (Bool)) : Prop :=
 match p with
 | (a0, b1, i_4) => ∀ c : Ctx, c.nt = 26 → WpL Try.prog c (cl (cl (cr (cl (cr (cr B18)))))) (laws_eqIntS_F1 c fl) (mkS [(0, sI a0), (1, sI b1), (5, I i_4)] [])
theorem laws_eqIntS_l0_s : ∀ p r, laws_eqIntS_l0 p = some r → M_laws_eqIntS_l0 p r := by
 refine laws_eqIntS_l0.partial_correctness M_laws_eqIntS_l0 ?_
 rintro laws_eqIntS_l0_f laws_eqIntS_l0_ih ⟨a0, b1, i_4⟩ r h
 intro c hc
 show WpL Try.prog c (cl (cl (cr (cl (cr (cr B18)))))) (laws_eqIntS_F1 c r) (mkS [(0, sI a0), (1, sI b1), (5, I i_4)] [])
 refine WpL.step ?_
 refine sN ?_
 refine sN ?_
 refine rg hc none [oN, oN, some (.eqv (.no) ⟨[(13, I (a0.length : Int))], [], []⟩), oN] [(0, sI a0), (1, sI b1), (5, I i_4), (14, .bool (decide (i_4 < (a0.length : Int))))] [] (ai (lenT (d := 13) I a0) trivial) ?_
 refine seqQ_norm ?_
 rcases itesome h with ⟨hb_5, h⟩ | ⟨hb_5, h⟩
 ·refine cT ((decide (i_4 < (a0.length : Int)))) hb_5 ?_
  refine Wp.skipN (by kernel_rfl) ?_
  refine seqQ_norm ?_
  refine sN ?_
  refine Wp.blockN (i := 1) (by kernel_rfl) ?_
  refine sN ?_
  obtain ⟨e_6_2, hi_6_2, h⟩ := bsome h
  obtain ⟨e_6_6, hi_6_6, h⟩ := bsome h
  refine rg hc (rx [[0], [0], [2], [3], [0], [0], [0, 4, 5], [0, 4, 5, 6], [8]]) [oN, oN, some (.el (I e_6_2)), oN, oN, oN, some (.el (I e_6_6)), oN, oN] [(0, sI a0), (1, sI b1), (5, I i_4), (25, .bool (e_6_2 != e_6_6))] [] (ai (ix hi_6_2) (ai (ix hi_6_6) trivial)) ?_
  refine seqQ_norm ?_
  rcases itesome h with ⟨hb_6, h⟩ | ⟨hb_6, h⟩
  ·refine cT ((e_6_2 != e_6_6)) hb_6 ?_
   refine sN ?_
   refine rg0 hc 1 [(4, .bool false)] [] ?_
   refine seqQ_norm ?_
   refine Wp.retN (by kernel_rfl) ?_
   refine blockQ_ret ?_
   refine seqQ_ret ?_
   refine loopQ_ret ?_
   obtain rfl := Option.some.inj h
   exact RetE.ret (fl := [true]) (by kernel_rfl)
  ·refine cF ((e_6_2 != e_6_6)) hb_6 ?_
   refine Wp.skipN (by kernel_rfl) ?_
   refine blockQ_norm ?_
   refine seqQ_norm ?_
   refine rg0 hc 3 [(0, sI a0), (1, sI b1), (5, I (wr (i_4 + 1)))] [] ?_
   refine loopQ_norm ?_
   exact (laws_eqIntS_l0_ih _ _ h c hc)
 ·refine cF ((decide (i_4 < (a0.length : Int)))) hb_5 ?_
  refine Wp.exitN (i := 0) (by kernel_rfl) ?_
  refine seqQ_exit ?_
  refine loopQ_exit ?_
  obtain rfl := Option.some.inj h
  exact Into.view (fun a w hv => SRx.renL [] hv (by kernel_rfl) (by kernel_rfl) (by kernel_rfl))
def laws_eqIntS (p : (List Int) × (List Int)) : Option (Bool) :=
 match p with
 | (a0, b1) =>
  if ((a0.length : Int) != (b1.length : Int)) = true then
   some false
  else
   (laws_eqIntS_l0 (a0, b1, 0)) >>= fun fl => match fl with
   | .inl () =>
    some true
   | .inr r =>
    some r
def M_laws_eqIntS (p : (List Int) × (List Int)) (r : Bool) : Prop :=
 match p with
 | (a0, b1) => FnSound Try.prog 18 [sI a0, sI b1] (.bool r) []
theorem laws_eqIntS_s : ∀ p r, laws_eqIntS p = some r → M_laws_eqIntS p r := by
 rintro ⟨a0, b1⟩ r h
 unfold laws_eqIntS at h
 show FnSound Try.prog 18 [sI a0, sI b1] (.bool r) []
 refine FnSound.body0 tiok (fn := Try.f18) (code := B18) (by kernel_rfl) (by kernel_rfl) (by kernel_rfl) (by kernel_rfl) (nt := 26) (by kernel_rfl) (by kernel_rfl) (T := [(0, sI a0), (1, sI b1)]) (O := []) (by kernel_rfl) (by kernel_rfl) (fun c hc => ?_)
 refine sN ?_
 refine rg0 hc 1 [(0, sI a0), (1, sI b1)] [] ?_
 refine seqQ_norm ?_
 refine sN ?_
 refine sN ?_
 refine rg hc none [oN, some (.eqv (.no) ⟨[(7, I (a0.length : Int))], [], []⟩), oN, some (.eqv (.no) ⟨[(9, I (b1.length : Int))], [], []⟩), oN] [(0, sI a0), (1, sI b1), (10, .bool ((a0.length : Int) != (b1.length : Int)))] [] (ai (lenT (d := 7) I a0) (ai (lenT (d := 9) I b1) trivial)) ?_
 refine seqQ_norm ?_
 rcases itesome h with ⟨hb_1, h⟩ | ⟨hb_1, h⟩
 ·refine cT (((a0.length : Int) != (b1.length : Int))) hb_1 ?_
  refine sN ?_
  refine rg0 hc 1 [(4, .bool false)] [] ?_
  refine seqQ_norm ?_
  refine Wp.retN (by kernel_rfl) ?_
  refine seqQ_ret ?_
  obtain rfl := Option.some.inj h
  exact RetQ.ret (fl := [true]) (by kernel_rfl)
 ·refine cF (((a0.length : Int) != (b1.length : Int))) hb_1 ?_
  refine Wp.skipN (by kernel_rfl) ?_
  refine seqQ_norm ?_
  refine sN ?_
  refine sN ?_
  refine rg0 hc 1 [(0, sI a0), (1, sI b1), (5, I 0)] [] ?_
  refine seqQ_norm ?_
  refine Wp.blockN (i := 0) (by kernel_rfl) ?_
  obtain ⟨fl, hl_7, h⟩ := bsome h
  have hL := laws_eqIntS_l0_s _ _ hl_7 c hc
  refine Wp.loopN (by kernel_rfl) ?_
  rcases fl with ⟨⟩ | r
  ·refine WpL.into (e := (.exit 0)) (mkS [] []) hL ?_
   refine blockQ_hit ?_
   refine seqQ_norm ?_
   refine sN ?_
   refine rg0 hc 1 [(4, .bool true)] [] ?_
   refine seqQ_norm ?_
   refine Wp.retN (by kernel_rfl) ?_
   obtain rfl := Option.some.inj h
   exact RetQ.ret (fl := [true]) (by kernel_rfl)
  ·refine WpL.mono hL ?_
   rintro _ _ ⟨rfl, hfin⟩
   refine blockQ_ret ?_
   refine seqQ_ret ?_
   obtain rfl := Option.some.inj h
   exact ⟨.inl rfl, hfin⟩
def laws_eqTermS_F1 (c : Ctx) : (Unit) ⊕ (Bool) → Exit → AState → Prop
 | .inl _ => Into c (.exit 0) (mkS [] [])
 | .inr r => RetE TIx Try.f49 [] (.bool r)
mutual
def laws_eqTerm (p : GTerm × GTerm) : Option (Bool) :=
 match p with
 | (a0, b1) =>
  if (a0.fOp != b1.fOp) = true then
   some false
  else
   if (a0.fN != b1.fN) = true then
    some false
   else
    (laws_eqIntS (a0.fType, b1.fType)) >>= fun r_5_4 =>
    if r_5_4 = true then
     (laws_eqTermS (a0.fKids, b1.fKids)) >>= fun r_7_4 =>
     if r_7_4 = true then
      some true
     else
      some false
    else
     some false
 partial_fixpoint
def laws_eqTermS (p : (List GTerm) × (List GTerm)) : Option (Bool) :=
 match p with
 | (a0, b1) =>
  if ((a0.length : Int) != (b1.length : Int)) = true then
   some false
  else
   (laws_eqTermS_l0 (a0, b1, 0)) >>= fun fl => match fl with
   | .inl () =>
    some true
   | .inr r =>
    some r
 partial_fixpoint
def laws_eqTermS_l0 (p : (List GTerm) × (List GTerm) × Int) : Option ((Unit) ⊕ (Bool)) :=
 match p with
 | (a0, b1, i_4) =>
  if (decide (i_4 < (a0.length : Int))) = true then
   (idx a0 i_4) >>= fun e_6_2 =>
   (idx b1 i_4) >>= fun e_6_6 =>
   (laws_eqTerm (e_6_2, e_6_6)) >>= fun r_6_8 =>
   if r_6_8 = true then
    laws_eqTermS_l0 (a0, b1, (wr (i_4 + 1)))
   else
    some (.inr false)
  else
   some (.inl ())
 partial_fixpoint
end
def M_laws_eqTerm (p : GTerm × GTerm) (r : Bool) : Prop :=
 match p with
 | (a0, b1) => FnSound Try.prog 16 [aTerm a0, aTerm b1] (.bool r) []
def M_laws_eqTermS (p : (List GTerm) × (List GTerm)) (r : Bool) : Prop :=
 match p with
 | (a0, b1) => FnSound Try.prog 49 [.sl (List.map GTerm_S a0), .sl (List.map GTerm_S b1)] (.bool r) []
def M_laws_eqTermS_l0 (p : (List GTerm) × (List GTerm) × Int) (fl : (Unit) ⊕ (Bool)) : Prop :=
 match p with
 | (a0, b1, i_4) => ∀ c : Ctx, c.nt = 27 → WpL Try.prog c (cl (cl (cr (cl (cr (cr B49)))))) (laws_eqTermS_F1 c fl) (mkS [(0, .sl (List.map GTerm_S a0)), (1, .sl (List.map GTerm_S b1)), (5, I i_4)] [])
theorem laws_eqTerm_all : (∀ p r, laws_eqTerm p = some r → M_laws_eqTerm p r) ∧ (∀ p r, laws_eqTermS p = some r → M_laws_eqTermS p r) ∧ (∀ p r, laws_eqTermS_l0 p = some r → M_laws_eqTermS_l0 p r) := by
 refine laws_eqTerm.mutual_partial_correctness M_laws_eqTerm M_laws_eqTermS M_laws_eqTermS_l0 ?_ ?_ ?_
 ·rintro laws_eqTermS_f laws_eqTermS_ih ⟨a0, b1⟩ r h
  show FnSound Try.prog 16 [aTerm a0, aTerm b1] (.bool r) []
  refine FnSound.body0 tiok (fn := Try.f16) (code := B16) (by kernel_rfl) (by kernel_rfl) (by kernel_rfl) (by kernel_rfl) (nt := 27) (by kernel_rfl) (by kernel_rfl) (T := [(0, aTerm a0), (1, aTerm b1)]) (O := []) (by kernel_rfl) (by kernel_rfl) (fun c hc => ?_)
  refine sN ?_
  refine rg hc none [some (.new 1), some (.new 2), oN] [(2, .ra 1 0), (3, .ra 2 0)] [(1, bTerm a0), (2, bTerm b1)] trivial ?_
  refine seqQ_norm ?_
  refine sN ?_
  refine sN ?_
  refine rg0 hc 5 [(2, .ra 1 0), (3, .ra 2 0), (9, .bool (a0.fOp != b1.fOp))] [(1, bTerm a0), (2, bTerm b1)] ?_
  refine seqQ_norm ?_
  rcases itesome h with ⟨hb_1, h⟩ | ⟨hb_1, h⟩
  ·refine cT ((a0.fOp != b1.fOp)) hb_1 ?_
   refine sN ?_
   refine rg0 hc 1 [(4, .bool false)] [] ?_
   refine seqQ_norm ?_
   refine Wp.retN (by kernel_rfl) ?_
   refine seqQ_ret ?_
   obtain rfl := Option.some.inj h
   exact RetQ.ret (fl := [true]) (by kernel_rfl)
  ·refine cF ((a0.fOp != b1.fOp)) hb_1 ?_
   refine Wp.skipN (by kernel_rfl) ?_
   refine seqQ_norm ?_
   refine sN ?_
   refine sN ?_
   refine rg0 hc 5 [(2, .ra 1 0), (3, .ra 2 0), (14, .bool (a0.fN != b1.fN))] [(1, bTerm a0), (2, bTerm b1)] ?_
   refine seqQ_norm ?_
   rcases itesome h with ⟨hb_2, h⟩ | ⟨hb_2, h⟩
   ·refine cT ((a0.fN != b1.fN)) hb_2 ?_
    refine sN ?_
    refine rg0 hc 1 [(4, .bool false)] [] ?_
    refine seqQ_norm ?_
    refine Wp.retN (by kernel_rfl) ?_
    refine seqQ_ret ?_
    obtain rfl := Option.some.inj h
    exact RetQ.ret (fl := [true]) (by kernel_rfl)
   ·refine cF ((a0.fN != b1.fN)) hb_2 ?_
    refine Wp.skipN (by kernel_rfl) ?_
    refine seqQ_norm ?_
    refine sN ?_
    refine sN ?_
    obtain ⟨r_5_4, hr_5_4, h⟩ := bsome h
    refine rg hc none [oN, oN, oN, oN, oc (.bool r_5_4), oN] [(2, .ra 1 0), (3, .ra 2 0), (20, .bool (!r_5_4))] [(1, bTerm a0), (2, bTerm b1)] (ai (laws_eqIntS_s _ _ hr_5_4) (ai bod_18 (ai (oi (.bool r_5_4)) trivial))) ?_
    refine seqQ_norm ?_
    rcases itesome h with ⟨hb_3, h⟩ | ⟨hb_3, h⟩
    ·refine cF (!r_5_4) (nF hb_3) ?_
     refine Wp.skipN (by kernel_rfl) ?_
     refine seqQ_norm ?_
     refine sN ?_
     refine sN ?_
     obtain ⟨r_7_4, hr_7_4, h⟩ := bsome h
     refine rg hc none [oN, oN, oN, oN, oc (.bool r_7_4), oN] [(26, .bool (!r_7_4))] [] (ai (laws_eqTermS_ih _ _ hr_7_4) (ai bod_49 (ai (oi (.bool r_7_4)) trivial))) ?_
     refine seqQ_norm ?_
     rcases itesome h with ⟨hb_4, h⟩ | ⟨hb_4, h⟩
     ·refine cF (!r_7_4) (nF hb_4) ?_
      refine Wp.skipN (by kernel_rfl) ?_
      refine seqQ_norm ?_
      refine sN ?_
      refine rg0 hc 1 [(4, .bool true)] [] ?_
      refine seqQ_norm ?_
      refine Wp.retN (by kernel_rfl) ?_
      obtain rfl := Option.some.inj h
      exact RetQ.ret (fl := [true]) (by kernel_rfl)
     ·refine cT (!r_7_4) (nT hb_4) ?_
      refine sN ?_
      refine rg0 hc 1 [(4, .bool false)] [] ?_
      refine seqQ_norm ?_
      refine Wp.retN (by kernel_rfl) ?_
      refine seqQ_ret ?_
      obtain rfl := Option.some.inj h
      exact RetQ.ret (fl := [true]) (by kernel_rfl)
    ·refine cT (!r_5_4) (nT hb_3) ?_
     refine sN ?_
     refine rg0 hc 1 [(4, .bool false)] [] ?_
     refine seqQ_norm ?_
     refine Wp.retN (by kernel_rfl) ?_
     refine seqQ_ret ?_
     obtain rfl := Option.some.inj h
     exact RetQ.ret (fl := [true]) (by kernel_rfl)
 ·rintro laws_eqTermS_l0_f laws_eqTermS_l0_ih ⟨a0, b1⟩ r h
  show FnSound Try.prog 49 [.sl (List.map GTerm_S a0), .sl (List.map GTerm_S b1)] (.bool r) []
  refine FnSound.body0 tiok (fn := Try.f49) (code := B49) (by kernel_rfl) (by kernel_rfl) (by kernel_rfl) (by kernel_rfl) (nt := 27) (by kernel_rfl) (by kernel_rfl) (T := [(0, .sl (List.map GTerm_S a0)), (1, .sl (List.map GTerm_S b1))]) (O := []) (by kernel_rfl) (by kernel_rfl) (fun c hc => ?_)
  refine sN ?_
  refine rg0 hc 1 [(0, .sl (List.map GTerm_S a0)), (1, .sl (List.map GTerm_S b1))] [] ?_
  refine seqQ_norm ?_
  refine sN ?_
  refine sN ?_
  refine rg hc none [oN, some (.eqv (.no) ⟨[(7, I (a0.length : Int))], [], []⟩), oN, some (.eqv (.no) ⟨[(9, I (b1.length : Int))], [], []⟩), oN] [(0, .sl (List.map GTerm_S a0)), (1, .sl (List.map GTerm_S b1)), (10, .bool ((a0.length : Int) != (b1.length : Int)))] [] (ai (lenT (d := 7) GTerm_S a0) (ai (lenT (d := 9) GTerm_S b1) trivial)) ?_
  refine seqQ_norm ?_
  rcases itesome h with ⟨hb_1, h⟩ | ⟨hb_1, h⟩
  ·refine cT (((a0.length : Int) != (b1.length : Int))) hb_1 ?_
   refine sN ?_
   refine rg0 hc 1 [(4, .bool false)] [] ?_
   refine seqQ_norm ?_
   refine Wp.retN (by kernel_rfl) ?_
   refine seqQ_ret ?_
   obtain rfl := Option.some.inj h
   exact RetQ.ret (fl := [true]) (by kernel_rfl)
  ·refine cF (((a0.length : Int) != (b1.length : Int))) hb_1 ?_
   refine Wp.skipN (by kernel_rfl) ?_
   refine seqQ_norm ?_
   refine sN ?_
   refine sN ?_
   refine rg0 hc 1 [(0, .sl (List.map GTerm_S a0)), (1, .sl (List.map GTerm_S b1)), (5, I 0)] [] ?_
   refine seqQ_norm ?_
   refine Wp.blockN (i := 0) (by kernel_rfl) ?_
   obtain ⟨fl, hl_7, h⟩ := bsome h
   have hL := laws_eqTermS_l0_ih _ _ hl_7 c hc
   refine Wp.loopN (by kernel_rfl) ?_
   rcases fl with ⟨⟩ | r
   ·refine WpL.into (e := (.exit 0)) (mkS [] []) hL ?_
    refine blockQ_hit ?_
    refine seqQ_norm ?_
    refine sN ?_
    refine rg0 hc 1 [(4, .bool true)] [] ?_
    refine seqQ_norm ?_
    refine Wp.retN (by kernel_rfl) ?_
    obtain rfl := Option.some.inj h
    exact RetQ.ret (fl := [true]) (by kernel_rfl)
   ·refine WpL.mono hL ?_
    rintro _ _ ⟨rfl, hfin⟩
    refine blockQ_ret ?_
    refine seqQ_ret ?_
    obtain rfl := Option.some.inj h
    exact ⟨.inl rfl, hfin⟩
 ·rintro laws_eqTerm_f laws_eqTermS_l0_f laws_eqTerm_ih laws_eqTermS_l0_ih ⟨a0, b1, i_4⟩ r h
  intro c hc
  show WpL Try.prog c (cl (cl (cr (cl (cr (cr B49)))))) (laws_eqTermS_F1 c r) (mkS [(0, .sl (List.map GTerm_S a0)), (1, .sl (List.map GTerm_S b1)), (5, I i_4)] [])
  refine WpL.step ?_
  refine sN ?_
  refine sN ?_
  refine rg hc none [oN, oN, some (.eqv (.no) ⟨[(13, I (a0.length : Int))], [], []⟩), oN] [(0, .sl (List.map GTerm_S a0)), (1, .sl (List.map GTerm_S b1)), (5, I i_4), (14, .bool (decide (i_4 < (a0.length : Int))))] [] (ai (lenT (d := 13) GTerm_S a0) trivial) ?_
  refine seqQ_norm ?_
  rcases itesome h with ⟨hb_5, h⟩ | ⟨hb_5, h⟩
  ·refine cT ((decide (i_4 < (a0.length : Int)))) hb_5 ?_
   refine Wp.skipN (by kernel_rfl) ?_
   refine seqQ_norm ?_
   refine sN ?_
   refine Wp.blockN (i := 1) (by kernel_rfl) ?_
   refine sN ?_
   obtain ⟨e_6_2, hi_6_2, h⟩ := bsome h
   obtain ⟨e_6_6, hi_6_6, h⟩ := bsome h
   obtain ⟨r_6_8, hr_6_8, h⟩ := bsome h
   refine rg hc (rx [[0], [0], [2], [3], [0], [0], [0, 4, 5], [0, 4, 5, 6], [8], [9]]) [oN, oN, some (.el (aTerm e_6_2)), oN, oN, oN, some (.el (aTerm e_6_6)), oN, oc (.bool r_6_8), oN] [(0, .sl (List.map GTerm_S a0)), (1, .sl (List.map GTerm_S b1)), (5, I i_4), (26, .bool (!r_6_8))] [] (ai (idx_sl (enc := GTerm_S) (x := aTerm e_6_2) hi_6_2 (eq_GTerm_S e_6_2)) (ai (idx_sl (enc := GTerm_S) (x := aTerm e_6_6) hi_6_6 (eq_GTerm_S e_6_6)) (ai (laws_eqTerm_ih _ _ hr_6_8) (ai bod_16 (ai (oi (.bool r_6_8)) trivial))))) ?_
   refine seqQ_norm ?_
   rcases itesome h with ⟨hb_6, h⟩ | ⟨hb_6, h⟩
   ·refine cF (!r_6_8) (nF hb_6) ?_
    refine Wp.skipN (by kernel_rfl) ?_
    refine blockQ_norm ?_
    refine seqQ_norm ?_
    refine rg0 hc 3 [(0, .sl (List.map GTerm_S a0)), (1, .sl (List.map GTerm_S b1)), (5, I (wr (i_4 + 1)))] [] ?_
    refine loopQ_norm ?_
    exact (laws_eqTermS_l0_ih _ _ h c hc)
   ·refine cT (!r_6_8) (nT hb_6) ?_
    refine sN ?_
    refine rg0 hc 1 [(4, .bool false)] [] ?_
    refine seqQ_norm ?_
    refine Wp.retN (by kernel_rfl) ?_
    refine blockQ_ret ?_
    refine seqQ_ret ?_
    refine loopQ_ret ?_
    obtain rfl := Option.some.inj h
    exact RetE.ret (fl := [true]) (by kernel_rfl)
  ·refine cF ((decide (i_4 < (a0.length : Int)))) hb_5 ?_
   refine Wp.exitN (i := 0) (by kernel_rfl) ?_
   refine seqQ_exit ?_
   refine loopQ_exit ?_
   obtain rfl := Option.some.inj h
   exact Into.view (fun a w hv => SRx.renL [] hv (by kernel_rfl) (by kernel_rfl) (by kernel_rfl))
theorem laws_eqTerm_s : ∀ p r, laws_eqTerm p = some r → M_laws_eqTerm p r := laws_eqTerm_all.1
theorem laws_eqTermS_s : ∀ p r, laws_eqTermS p = some r → M_laws_eqTermS p r := laws_eqTerm_all.2.1
theorem laws_eqTermS_l0_s : ∀ p r, laws_eqTermS_l0 p = some r → M_laws_eqTermS_l0 p r := laws_eqTerm_all.2.2
def laws_markIntS_F1 (c : Ctx) : Int × (List Int) → Exit → AState → Prop
 | (k_6, x_7) => Into c (.exit 0) (mkS [(1, I k_6)] [(1000, .arr (List.map I x_7))])
def laws_markIntS_l0 (p : (List Int) × Int × Int) : Option (Int × (List Int)) :=
 match p with
 | (a_2, k_3, i_4) =>
  if (decide (i_4 < (a_2.length : Int))) = true then
   (idx a_2 i_4) >>= fun e_4_3 =>
   laws_markIntS_l0 ((List.set a_2 (Int.toNat i_4) k_3), (wr (k_3 + 1)), (wr (i_4 + 1)))
  else
   some ((k_3, a_2))
 partial_fixpoint
def M_laws_markIntS_l0 (p : (List Int) × Int × Int) (fl : Int × (List Int)) : Prop :=
 match p with
 | (a_2, k_3, i_4) => ∀ c : Ctx, c.nt = 19 → WpL Try.prog c (cl (cl (cr (cl (cr B20))))) (laws_markIntS_F1 c fl) (mkS [(0, .rs 1000), (1, I k_3), (5, I i_4)] [(1000, .arr (List.map I a_2))])
theorem laws_markIntS_l0_s : ∀ p r, laws_markIntS_l0 p = some r → M_laws_markIntS_l0 p r := by
 refine laws_markIntS_l0.partial_correctness M_laws_markIntS_l0 ?_
 rintro laws_markIntS_l0_f laws_markIntS_l0_ih ⟨a_2, k_3, i_4⟩ r h
 intro c hc
 show WpL Try.prog c (cl (cl (cr (cl (cr B20))))) (laws_markIntS_F1 c r) (mkS [(0, .rs 1000), (1, I k_3), (5, I i_4)] [(1000, .arr (List.map I a_2))])
 refine WpL.step ?_
 refine sN ?_
 refine sN ?_
 refine rg hc none [oN, oN, some (.eqv (.no) ⟨[(8, I (a_2.length : Int))], [], []⟩), oN] [(0, .rs 1000), (1, I k_3), (5, I i_4), (9, .bool (decide (i_4 < (a_2.length : Int))))] [(1000, .arr (List.map I a_2))] (ai (lenT (d := 8) I a_2) trivial) ?_
 refine seqQ_norm ?_
 rcases itesome h with ⟨hb_5, h⟩ | ⟨hb_5, h⟩
 ·refine cT ((decide (i_4 < (a_2.length : Int)))) hb_5 ?_
  refine Wp.skipN (by kernel_rfl) ?_
  refine seqQ_norm ?_
  refine sN ?_
  refine Wp.blockN (i := 1) (by kernel_rfl) ?_
  refine sN ?_
  obtain ⟨e_4_3, hi_4_3, h⟩ := bsome h
  refine rg hc none [oN, oN, oN, oN, some (.eqv (.mk 0 true) ⟨[], [(1000, some (.arr (List.map I (List.set a_2 (Int.toNat i_4) k_3))))], []⟩)] [(0, .rs 1000), (1, I k_3), (5, I i_4)] [(1000, .arr (List.map I (List.set a_2 (Int.toNat i_4) k_3)))] (ai (idx_own (enc := I) hi_4_3) (ai (congrArg (fun z => (⟨[], [(1000, some (.arr z))], []⟩ : Wr)) (set_row (enc := I) (i := Int.toNat i_4) (l := a_2) (v := k_3) (x := I k_3) (eq_I k_3))) (ai (own_set (enc := I) (sz := 1) sz_I hi_4_3) trivial))) ?_
  refine seqQ_norm ?_
  refine rg0 hc 3 [(0, .rs 1000), (1, I (wr (k_3 + 1))), (5, I i_4)] [(1000, .arr (List.map I (List.set a_2 (Int.toNat i_4) k_3)))] ?_
  refine blockQ_norm ?_
  refine seqQ_norm ?_
  refine rg0 hc 3 [(0, .rs 1000), (1, I (wr (k_3 + 1))), (5, I (wr (i_4 + 1)))] [(1000, .arr (List.map I (List.set a_2 (Int.toNat i_4) k_3)))] ?_
  refine loopQ_norm ?_
  exact (laws_markIntS_l0_ih _ _ h c hc)
 ·refine cF ((decide (i_4 < (a_2.length : Int)))) hb_5 ?_
  refine Wp.exitN (i := 0) (by kernel_rfl) ?_
  refine seqQ_exit ?_
  refine loopQ_exit ?_
  obtain ⟨rfl, rfl⟩ := Prod.mk.inj (Option.some.inj h)
  exact Into.view (fun a w hv => SRx.renL [] hv (by kernel_rfl) (by kernel_rfl) (by kernel_rfl))
def laws_markIntS (p : (List Int) × Int) : Option (Int × (List Int)) :=
 match p with
 | (a0, k1) =>
  (laws_markIntS_l0 (a0, k1, 0)) >>= fun (k_6, x_7) =>
  some (k_6, x_7)
def M_laws_markIntS (p : (List Int) × Int) (r : Int × (List Int)) : Prop :=
 match p with
 | (a0, k1) => FnSound Try.prog 20 [.osl (List.map I a0), I k1] (I r.1) [.osl (List.map I r.2), .undef]
theorem laws_markIntS_s : ∀ p r, laws_markIntS p = some r → M_laws_markIntS p r := by
 rintro ⟨a0, k1⟩ r h
 unfold laws_markIntS at h
 show FnSound Try.prog 20 [.osl (List.map I a0), I k1] (I r.1) [.osl (List.map I r.2), .undef]
 refine FnSound.bodyO tiok (fn := Try.f20) (code := B20) (by kernel_rfl) (by kernel_rfl) (by kernel_rfl) (nt := 19) (by kernel_rfl) (by kernel_rfl) (T := [(0, .rs 1000), (1, I k1)]) (O := [(1000, .arr (List.map I a0))]) (by kernel_rfl) (by kernel_rfl) (fun c hc => ?_)
 refine sN ?_
 refine rg0 hc 1 [(0, .rs 1000), (1, I k1)] [(1000, .arr (List.map I a0))] ?_
 refine seqQ_norm ?_
 refine sN ?_
 refine sN ?_
 refine rg0 hc 1 [(0, .rs 1000), (1, I k1), (5, I 0)] [(1000, .arr (List.map I a0))] ?_
 refine seqQ_norm ?_
 refine Wp.blockN (i := 0) (by kernel_rfl) ?_
 obtain ⟨⟨k_6, x_7⟩, hl_8, h⟩ := bsome h
 have hL := laws_markIntS_l0_s _ _ hl_8 c hc
 refine Wp.loopN (by kernel_rfl) ?_
 ·refine WpL.into (e := (.exit 0)) (mkS [(1, I k_6)] [(1000, .arr (List.map I x_7))]) hL ?_
  refine blockQ_hit ?_
  refine seqQ_norm ?_
  refine sN ?_
  refine rg0 hc 2 [(4, I k_6)] [(1000, .arr (List.map I x_7))] ?_
  refine seqQ_norm ?_
  refine Wp.retN (by kernel_rfl) ?_
  obtain rfl := Option.some.inj h
  exact RetOQ.ret (fl := [true]) (by kernel_rfl)
def laws_markTermS_F1 (c : Ctx) : Int × (List GTerm) → Exit → AState → Prop
 | (k_6, x_7) => Into c (.exit 0) (mkS [(1, I k_6)] [(1000, .arr (List.map GTerm_O x_7))])
mutual
def laws_markTermS (p : (List GTerm) × Int) : Option (Int × (List GTerm)) :=
 match p with
 | (a0, k1) =>
  (laws_markTermS_l0 (a0, k1, 0)) >>= fun (k_6, x_7) =>
  some (k_6, x_7)
 partial_fixpoint
def laws_markTermS_l0 (p : (List GTerm) × Int × Int) : Option (Int × (List GTerm)) :=
 match p with
 | (a_2, k_3, i_4) =>
  if (decide (i_4 < (a_2.length : Int))) = true then
   (idx a_2 i_4) >>= fun e_4_3 =>
   (idx (List.set a_2 (Int.toNat i_4) (GTerm.mk k_3 e_4_3.fN e_4_3.fType e_4_3.fKids)) i_4) >>= fun e_6_3 =>
   (idx (List.set (List.set a_2 (Int.toNat i_4) (GTerm.mk k_3 e_4_3.fN e_4_3.fType e_4_3.fKids)) (Int.toNat i_4) (GTerm.mk e_6_3.fOp (wr (k_3 + 1)) e_6_3.fType e_6_3.fKids)) i_4) >>= fun e_8_x =>
   (laws_markIntS (e_8_x.fType, (wr ((wr (k_3 + 1)) + 1)))) >>= fun (r_8_6, o_8_6_0) =>
   (idx (List.set (List.set (List.set a_2 (Int.toNat i_4) (GTerm.mk k_3 e_4_3.fN e_4_3.fType e_4_3.fKids)) (Int.toNat i_4) (GTerm.mk e_6_3.fOp (wr (k_3 + 1)) e_6_3.fType e_6_3.fKids)) (Int.toNat i_4) (GTerm.mk e_8_x.fOp e_8_x.fN o_8_6_0 e_8_x.fKids)) i_4) >>= fun e_9_x =>
   (laws_markTermS (e_9_x.fKids, r_8_6)) >>= fun (r_9_6, o_9_6_0) =>
   laws_markTermS_l0 ((List.set (List.set (List.set (List.set a_2 (Int.toNat i_4) (GTerm.mk k_3 e_4_3.fN e_4_3.fType e_4_3.fKids)) (Int.toNat i_4) (GTerm.mk e_6_3.fOp (wr (k_3 + 1)) e_6_3.fType e_6_3.fKids)) (Int.toNat i_4) (GTerm.mk e_8_x.fOp e_8_x.fN o_8_6_0 e_8_x.fKids)) (Int.toNat i_4) (GTerm.mk e_9_x.fOp e_9_x.fN e_9_x.fType o_9_6_0)), r_9_6, (wr (i_4 + 1)))
  else
   some ((k_3, a_2))
 partial_fixpoint
end
def M_laws_markTermS (p : (List GTerm) × Int) (r : Int × (List GTerm)) : Prop :=
 match p with
 | (a0, k1) => FnSound Try.prog 52 [.osl (List.map GTerm_O a0), I k1] (I r.1) [.osl (List.map GTerm_O r.2), .undef]
def M_laws_markTermS_l0 (p : (List GTerm) × Int × Int) (fl : Int × (List GTerm)) : Prop :=
 match p with
 | (a_2, k_3, i_4) => ∀ c : Ctx, c.nt = 41 → WpL Try.prog c (cl (cl (cr (cl (cr B52))))) (laws_markTermS_F1 c fl) (mkS [(0, .rs 1000), (1, I k_3), (5, I i_4)] [(1000, .arr (List.map GTerm_O a_2))])
theorem laws_markTermS_all : (∀ p r, laws_markTermS p = some r → M_laws_markTermS p r) ∧ (∀ p r, laws_markTermS_l0 p = some r → M_laws_markTermS_l0 p r) := by
 refine laws_markTermS.mutual_partial_correctness M_laws_markTermS M_laws_markTermS_l0 ?_ ?_
 ·rintro laws_markTermS_l0_f laws_markTermS_l0_ih ⟨a0, k1⟩ r h
  show FnSound Try.prog 52 [.osl (List.map GTerm_O a0), I k1] (I r.1) [.osl (List.map GTerm_O r.2), .undef]
  refine FnSound.bodyO tiok (fn := Try.f52) (code := B52) (by kernel_rfl) (by kernel_rfl) (by kernel_rfl) (nt := 41) (by kernel_rfl) (by kernel_rfl) (T := [(0, .rs 1000), (1, I k1)]) (O := [(1000, .arr (List.map GTerm_O a0))]) (by kernel_rfl) (by kernel_rfl) (fun c hc => ?_)
  refine sN ?_
  refine rg0 hc 1 [(0, .rs 1000), (1, I k1)] [(1000, .arr (List.map GTerm_O a0))] ?_
  refine seqQ_norm ?_
  refine sN ?_
  refine sN ?_
  refine rg0 hc 1 [(0, .rs 1000), (1, I k1), (5, I 0)] [(1000, .arr (List.map GTerm_O a0))] ?_
  refine seqQ_norm ?_
  refine Wp.blockN (i := 0) (by kernel_rfl) ?_
  obtain ⟨⟨k_6, x_7⟩, hl_8, h⟩ := bsome h
  have hL := laws_markTermS_l0_ih _ _ hl_8 c hc
  refine Wp.loopN (by kernel_rfl) ?_
  ·refine WpL.into (e := (.exit 0)) (mkS [(1, I k_6)] [(1000, .arr (List.map GTerm_O x_7))]) hL ?_
   refine blockQ_hit ?_
   refine seqQ_norm ?_
   refine sN ?_
   refine rg0 hc 2 [(4, I k_6)] [(1000, .arr (List.map GTerm_O x_7))] ?_
   refine seqQ_norm ?_
   refine Wp.retN (by kernel_rfl) ?_
   obtain rfl := Option.some.inj h
   exact RetOQ.ret (fl := [true]) (by kernel_rfl)
 ·rintro laws_markTermS_f laws_markTermS_l0_f laws_markTermS_ih laws_markTermS_l0_ih ⟨a_2, k_3, i_4⟩ r h
  intro c hc
  show WpL Try.prog c (cl (cl (cr (cl (cr B52))))) (laws_markTermS_F1 c r) (mkS [(0, .rs 1000), (1, I k_3), (5, I i_4)] [(1000, .arr (List.map GTerm_O a_2))])
  refine WpL.step ?_
  refine sN ?_
  refine sN ?_
  refine rg hc none [oN, oN, some (.eqv (.no) ⟨[(8, I (a_2.length : Int))], [], []⟩), oN] [(0, .rs 1000), (1, I k_3), (5, I i_4), (9, .bool (decide (i_4 < (a_2.length : Int))))] [(1000, .arr (List.map GTerm_O a_2))] (ai (lenT (d := 8) GTerm_O a_2) trivial) ?_
  refine seqQ_norm ?_
  rcases itesome h with ⟨hb_5, h⟩ | ⟨hb_5, h⟩
  ·refine cT ((decide (i_4 < (a_2.length : Int)))) hb_5 ?_
   refine Wp.skipN (by kernel_rfl) ?_
   refine seqQ_norm ?_
   refine sN ?_
   refine Wp.blockN (i := 1) (by kernel_rfl) ?_
   refine sN ?_
   obtain ⟨e_4_3, hi_4_3, h⟩ := bsome h
   refine rg hc none [oN, oN, oN, oN, oN, some (.eqv (.el (qTerm e_4_3)) ⟨[], [(1000, some (.arr (List.map GTerm_O (List.set a_2 (Int.toNat i_4) (GTerm.mk k_3 e_4_3.fN e_4_3.fType e_4_3.fKids)))))], []⟩)] [(0, .rs 1000), (1, I k_3), (5, I i_4)] [(1000, .arr (List.map GTerm_O (List.set a_2 (Int.toNat i_4) (GTerm.mk k_3 e_4_3.fN e_4_3.fType e_4_3.fKids))))] (ai (idx_own (enc := GTerm_O) hi_4_3) (ai (congrArg (fun z => (⟨[], [(1000, some (.arr z))], []⟩ : Wr)) (set_row (enc := GTerm_O) (i := Int.toNat i_4) (l := a_2) (v := (GTerm.mk k_3 e_4_3.fN e_4_3.fType e_4_3.fKids)) (x := AV.agg [I k_3, I e_4_3.fN, .osl (List.map I e_4_3.fType), .osl (List.map GTerm_O e_4_3.fKids)]) (eq_GTerm_O (GTerm.mk k_3 e_4_3.fN e_4_3.fType e_4_3.fKids)))) (ai (idx_sl (enc := GTerm_O) (x := qTerm e_4_3) hi_4_3 (eq_GTerm_O e_4_3)).2 trivial))) ?_
   refine seqQ_norm ?_
   refine sN ?_
   refine rg0 hc 3 [(0, .rs 1000), (1, I (wr (k_3 + 1))), (5, I i_4)] [(1000, .arr (List.map GTerm_O (List.set a_2 (Int.toNat i_4) (GTerm.mk k_3 e_4_3.fN e_4_3.fType e_4_3.fKids))))] ?_
   refine seqQ_norm ?_
   refine sN ?_
   obtain ⟨e_6_3, hi_6_3, h⟩ := bsome h
   refine rg hc none [oN, oN, oN, oN, oN, some (.eqv (.el (qTerm e_6_3)) ⟨[], [(1000, some (.arr (List.map GTerm_O (List.set (List.set a_2 (Int.toNat i_4) (GTerm.mk k_3 e_4_3.fN e_4_3.fType e_4_3.fKids)) (Int.toNat i_4) (GTerm.mk e_6_3.fOp (wr (k_3 + 1)) e_6_3.fType e_6_3.fKids)))))], []⟩)] [(0, .rs 1000), (1, I (wr (k_3 + 1))), (5, I i_4)] [(1000, .arr (List.map GTerm_O (List.set (List.set a_2 (Int.toNat i_4) (GTerm.mk k_3 e_4_3.fN e_4_3.fType e_4_3.fKids)) (Int.toNat i_4) (GTerm.mk e_6_3.fOp (wr (k_3 + 1)) e_6_3.fType e_6_3.fKids))))] (ai (idx_own (enc := GTerm_O) hi_6_3) (ai (congrArg (fun z => (⟨[], [(1000, some (.arr z))], []⟩ : Wr)) (set_row (enc := GTerm_O) (i := Int.toNat i_4) (l := (List.set a_2 (Int.toNat i_4) (GTerm.mk k_3 e_4_3.fN e_4_3.fType e_4_3.fKids))) (v := (GTerm.mk e_6_3.fOp (wr (k_3 + 1)) e_6_3.fType e_6_3.fKids)) (x := AV.agg [I e_6_3.fOp, I (wr (k_3 + 1)), .osl (List.map I e_6_3.fType), .osl (List.map GTerm_O e_6_3.fKids)]) (eq_GTerm_O (GTerm.mk e_6_3.fOp (wr (k_3 + 1)) e_6_3.fType e_6_3.fKids)))) (ai (idx_sl (enc := GTerm_O) (x := qTerm e_6_3) hi_6_3 (eq_GTerm_O e_6_3)).2 trivial))) ?_
   refine seqQ_norm ?_
   refine sN ?_
   refine rg0 hc 3 [(0, .rs 1000), (1, I (wr ((wr (k_3 + 1)) + 1))), (5, I i_4)] [(1000, .arr (List.map GTerm_O (List.set (List.set a_2 (Int.toNat i_4) (GTerm.mk k_3 e_4_3.fN e_4_3.fType e_4_3.fKids)) (Int.toNat i_4) (GTerm.mk e_6_3.fOp (wr (k_3 + 1)) e_6_3.fType e_6_3.fKids))))] ?_
   refine seqQ_norm ?_
   refine sN ?_
   obtain ⟨e_8_x, hx_8_x, h⟩ := bsome h
   refine Wp.view (fun a w hv => SRx.openL 1000 (Int.toNat i_4) 2 3 [3, 1000] (xs := List.map GTerm_O (List.set (List.set a_2 (Int.toNat i_4) (GTerm.mk k_3 e_4_3.fN e_4_3.fType e_4_3.fKids)) (Int.toNat i_4) (GTerm.mk e_6_3.fOp (wr (k_3 + 1)) e_6_3.fType e_6_3.fKids))) (ys := List.map I e_8_x.fType) (x0 := qTerm e_8_x) hv (by kernel_rfl) (idx_sl (enc := GTerm_O) (x := qTerm e_8_x) hx_8_x (eq_GTerm_O e_8_x)).2 (by kernel_rfl) (by kernel_rfl) (by kernel_rfl)) (?_ : Wp Try.prog c _ _ (mkS [(0, .rs 1000), (1, I (wr ((wr (k_3 + 1)) + 1))), (5, I i_4)] [(3, .arr (List.map I e_8_x.fType)), (1000, .arx (List.map GTerm_O (List.set (List.set a_2 (Int.toNat i_4) (GTerm.mk k_3 e_4_3.fN e_4_3.fType e_4_3.fKids)) (Int.toNat i_4) (GTerm.mk e_6_3.fOp (wr (k_3 + 1)) e_6_3.fType e_6_3.fKids))) (Int.toNat i_4) 2 3)]))
   obtain ⟨⟨r_8_6, o_8_6_0⟩, hr_8_6, h⟩ := bsome h
   refine rg hc none [oN, oN, oN, oN, some (.el (qTerm e_8_x)), oN, some (.call (I r_8_6) [.osl (List.map I o_8_6_0), .undef] 1), oN] [(0, .rs 1000), (1, I r_8_6), (5, I i_4)] [(3, .arr (List.map I o_8_6_0)), (1000, .arx (List.map GTerm_O (List.set (List.set a_2 (Int.toNat i_4) (GTerm.mk k_3 e_4_3.fN e_4_3.fType e_4_3.fKids)) (Int.toNat i_4) (GTerm.mk e_6_3.fOp (wr (k_3 + 1)) e_6_3.fType e_6_3.fKids))) (Int.toNat i_4) 2 3)] (ai (idx_own (enc := GTerm_O) hx_8_x) (ai (And.intro (idx_sl (enc := GTerm_O) (x := qTerm e_8_x) hx_8_x (eq_GTerm_O e_8_x)).2 (rfl : Int.toNat i_4 = Int.toNat i_4)) (ai (laws_markIntS_s _ _ hr_8_6) (ai bod_20 trivial)))) ?_
   refine seqQ_norm ?_
   refine Wp.view (fun a w hv => SRx.closeL 1000 (Int.toNat i_4) 2 3 [1000] (xs := List.map GTerm_O (List.set (List.set a_2 (Int.toNat i_4) (GTerm.mk k_3 e_4_3.fN e_4_3.fType e_4_3.fKids)) (Int.toNat i_4) (GTerm.mk e_6_3.fOp (wr (k_3 + 1)) e_6_3.fType e_6_3.fKids))) (ys := List.map I o_8_6_0) (x0 := qTerm e_8_x) (x1 := AV.agg [I e_8_x.fOp, I e_8_x.fN, .osl (List.map I o_8_6_0), .osl (List.map GTerm_O e_8_x.fKids)]) hv (by kernel_rfl) (by kernel_rfl) (by kernel_rfl) (idx_sl (enc := GTerm_O) (x := qTerm e_8_x) hx_8_x (eq_GTerm_O e_8_x)).2 (by kernel_rfl) (by kernel_rfl : _ = AV.agg [I e_8_x.fOp, I e_8_x.fN, .osl (List.map I o_8_6_0), .osl (List.map GTerm_O e_8_x.fKids)]) (set_row (enc := GTerm_O) (i := Int.toNat i_4) (l := (List.set (List.set a_2 (Int.toNat i_4) (GTerm.mk k_3 e_4_3.fN e_4_3.fType e_4_3.fKids)) (Int.toNat i_4) (GTerm.mk e_6_3.fOp (wr (k_3 + 1)) e_6_3.fType e_6_3.fKids))) (v := (GTerm.mk e_8_x.fOp e_8_x.fN o_8_6_0 e_8_x.fKids)) (x := AV.agg [I e_8_x.fOp, I e_8_x.fN, .osl (List.map I o_8_6_0), .osl (List.map GTerm_O e_8_x.fKids)]) (eq_GTerm_O (GTerm.mk e_8_x.fOp e_8_x.fN o_8_6_0 e_8_x.fKids))) (by kernel_rfl)) (?_ : Wp Try.prog c _ _ (mkS [(0, .rs 1000), (1, I r_8_6), (5, I i_4)] [(1000, .arr (List.map GTerm_O (List.set (List.set (List.set a_2 (Int.toNat i_4) (GTerm.mk k_3 e_4_3.fN e_4_3.fType e_4_3.fKids)) (Int.toNat i_4) (GTerm.mk e_6_3.fOp (wr (k_3 + 1)) e_6_3.fType e_6_3.fKids)) (Int.toNat i_4) (GTerm.mk e_8_x.fOp e_8_x.fN o_8_6_0 e_8_x.fKids))))]))
   obtain ⟨e_9_x, hx_9_x, h⟩ := bsome h
   refine Wp.view (fun a w hv => SRx.openL 1000 (Int.toNat i_4) 3 4 [4, 1000] (xs := List.map GTerm_O (List.set (List.set (List.set a_2 (Int.toNat i_4) (GTerm.mk k_3 e_4_3.fN e_4_3.fType e_4_3.fKids)) (Int.toNat i_4) (GTerm.mk e_6_3.fOp (wr (k_3 + 1)) e_6_3.fType e_6_3.fKids)) (Int.toNat i_4) (GTerm.mk e_8_x.fOp e_8_x.fN o_8_6_0 e_8_x.fKids))) (ys := List.map GTerm_O e_9_x.fKids) (x0 := qTerm e_9_x) hv (by kernel_rfl) (idx_sl (enc := GTerm_O) (x := qTerm e_9_x) hx_9_x (eq_GTerm_O e_9_x)).2 (by kernel_rfl) (by kernel_rfl) (by kernel_rfl)) (?_ : Wp Try.prog c _ _ (mkS [(0, .rs 1000), (1, I r_8_6), (5, I i_4)] [(4, .arr (List.map GTerm_O e_9_x.fKids)), (1000, .arx (List.map GTerm_O (List.set (List.set (List.set a_2 (Int.toNat i_4) (GTerm.mk k_3 e_4_3.fN e_4_3.fType e_4_3.fKids)) (Int.toNat i_4) (GTerm.mk e_6_3.fOp (wr (k_3 + 1)) e_6_3.fType e_6_3.fKids)) (Int.toNat i_4) (GTerm.mk e_8_x.fOp e_8_x.fN o_8_6_0 e_8_x.fKids))) (Int.toNat i_4) 3 4)]))
   obtain ⟨⟨r_9_6, o_9_6_0⟩, hr_9_6, h⟩ := bsome h
   refine rg hc none [oN, oN, oN, oN, some (.el (qTerm e_9_x)), oN, some (.call (I r_9_6) [.osl (List.map GTerm_O o_9_6_0), .undef] 1), oN] [(0, .rs 1000), (1, I r_9_6), (5, I i_4)] [(4, .arr (List.map GTerm_O o_9_6_0)), (1000, .arx (List.map GTerm_O (List.set (List.set (List.set a_2 (Int.toNat i_4) (GTerm.mk k_3 e_4_3.fN e_4_3.fType e_4_3.fKids)) (Int.toNat i_4) (GTerm.mk e_6_3.fOp (wr (k_3 + 1)) e_6_3.fType e_6_3.fKids)) (Int.toNat i_4) (GTerm.mk e_8_x.fOp e_8_x.fN o_8_6_0 e_8_x.fKids))) (Int.toNat i_4) 3 4)] (ai (idx_own (enc := GTerm_O) hx_9_x) (ai (And.intro (idx_sl (enc := GTerm_O) (x := qTerm e_9_x) hx_9_x (eq_GTerm_O e_9_x)).2 (rfl : Int.toNat i_4 = Int.toNat i_4)) (ai (laws_markTermS_ih _ _ hr_9_6) (ai bod_52 trivial)))) ?_
   refine blockQ_norm ?_
   refine seqQ_norm ?_
   refine Wp.view (fun a w hv => SRx.closeL 1000 (Int.toNat i_4) 3 4 [1000] (xs := List.map GTerm_O (List.set (List.set (List.set a_2 (Int.toNat i_4) (GTerm.mk k_3 e_4_3.fN e_4_3.fType e_4_3.fKids)) (Int.toNat i_4) (GTerm.mk e_6_3.fOp (wr (k_3 + 1)) e_6_3.fType e_6_3.fKids)) (Int.toNat i_4) (GTerm.mk e_8_x.fOp e_8_x.fN o_8_6_0 e_8_x.fKids))) (ys := List.map GTerm_O o_9_6_0) (x0 := qTerm e_9_x) (x1 := AV.agg [I e_9_x.fOp, I e_9_x.fN, .osl (List.map I e_9_x.fType), .osl (List.map GTerm_O o_9_6_0)]) hv (by kernel_rfl) (by kernel_rfl) (by kernel_rfl) (idx_sl (enc := GTerm_O) (x := qTerm e_9_x) hx_9_x (eq_GTerm_O e_9_x)).2 (by kernel_rfl) (by kernel_rfl : _ = AV.agg [I e_9_x.fOp, I e_9_x.fN, .osl (List.map I e_9_x.fType), .osl (List.map GTerm_O o_9_6_0)]) (set_row (enc := GTerm_O) (i := Int.toNat i_4) (l := (List.set (List.set (List.set a_2 (Int.toNat i_4) (GTerm.mk k_3 e_4_3.fN e_4_3.fType e_4_3.fKids)) (Int.toNat i_4) (GTerm.mk e_6_3.fOp (wr (k_3 + 1)) e_6_3.fType e_6_3.fKids)) (Int.toNat i_4) (GTerm.mk e_8_x.fOp e_8_x.fN o_8_6_0 e_8_x.fKids))) (v := (GTerm.mk e_9_x.fOp e_9_x.fN e_9_x.fType o_9_6_0)) (x := AV.agg [I e_9_x.fOp, I e_9_x.fN, .osl (List.map I e_9_x.fType), .osl (List.map GTerm_O o_9_6_0)]) (eq_GTerm_O (GTerm.mk e_9_x.fOp e_9_x.fN e_9_x.fType o_9_6_0))) (by kernel_rfl)) (?_ : Wp Try.prog c _ _ (mkS [(0, .rs 1000), (1, I r_9_6), (5, I i_4)] [(1000, .arr (List.map GTerm_O (List.set (List.set (List.set (List.set a_2 (Int.toNat i_4) (GTerm.mk k_3 e_4_3.fN e_4_3.fType e_4_3.fKids)) (Int.toNat i_4) (GTerm.mk e_6_3.fOp (wr (k_3 + 1)) e_6_3.fType e_6_3.fKids)) (Int.toNat i_4) (GTerm.mk e_8_x.fOp e_8_x.fN o_8_6_0 e_8_x.fKids)) (Int.toNat i_4) (GTerm.mk e_9_x.fOp e_9_x.fN e_9_x.fType o_9_6_0))))]))
   refine rg0 hc 3 [(0, .rs 1000), (1, I r_9_6), (5, I (wr (i_4 + 1)))] [(1000, .arr (List.map GTerm_O (List.set (List.set (List.set (List.set a_2 (Int.toNat i_4) (GTerm.mk k_3 e_4_3.fN e_4_3.fType e_4_3.fKids)) (Int.toNat i_4) (GTerm.mk e_6_3.fOp (wr (k_3 + 1)) e_6_3.fType e_6_3.fKids)) (Int.toNat i_4) (GTerm.mk e_8_x.fOp e_8_x.fN o_8_6_0 e_8_x.fKids)) (Int.toNat i_4) (GTerm.mk e_9_x.fOp e_9_x.fN e_9_x.fType o_9_6_0))))] ?_
   refine loopQ_norm ?_
   exact (laws_markTermS_l0_ih _ _ h c hc)
  ·refine cF ((decide (i_4 < (a_2.length : Int)))) hb_5 ?_
   refine Wp.exitN (i := 0) (by kernel_rfl) ?_
   refine seqQ_exit ?_
   refine loopQ_exit ?_
   obtain ⟨rfl, rfl⟩ := Prod.mk.inj (Option.some.inj h)
   exact Into.view (fun a w hv => SRx.renL [] hv (by kernel_rfl) (by kernel_rfl) (by kernel_rfl))
theorem laws_markTermS_s : ∀ p r, laws_markTermS p = some r → M_laws_markTermS p r := laws_markTermS_all.1
theorem laws_markTermS_l0_s : ∀ p r, laws_markTermS_l0 p = some r → M_laws_markTermS_l0 p r := laws_markTermS_all.2
def laws_markTerm (p : GTerm × Int) : Option (Int × GTerm) :=
 match p with
 | (a0, k1) =>
  (laws_markIntS (a0.fType, k1)) >>= fun (r_1_3, o_1_3_0) =>
  (laws_markTermS (a0.fKids, r_1_3)) >>= fun (r_2_3, o_2_3_0) =>
  some (r_2_3, (GTerm.mk a0.fOp a0.fN o_1_3_0 o_2_3_0))
def M_laws_markTerm (p : GTerm × Int) (r : Int × GTerm) : Prop :=
 match p with
 | (a0, k1) => FnSound Try.prog 21 [qTerm a0, I k1] (I r.1) [.agg [.undef, .undef, .osl (List.map I r.2.fType), .osl (List.map GTerm_O r.2.fKids)], .undef]
theorem laws_markTerm_s : ∀ p r, laws_markTerm p = some r → M_laws_markTerm p r := by
 rintro ⟨a0, k1⟩ r h
 unfold laws_markTerm at h
 show FnSound Try.prog 21 [qTerm a0, I k1] (I r.1) [.agg [.undef, .undef, .osl (List.map I r.2.fType), .osl (List.map GTerm_O r.2.fKids)], .undef]
 refine FnSound.bodyO tiok (fn := Try.f21) (code := B21) (by kernel_rfl) (by kernel_rfl) (by kernel_rfl) (nt := 14) (by kernel_rfl) (by kernel_rfl) (T := [(0, .agg [I a0.fOp, I a0.fN, .rs 1000, .rs 1001]), (1, I k1)]) (O := [(1000, .arr (List.map I a0.fType)), (1001, .arr (List.map GTerm_O a0.fKids))]) (by kernel_rfl) (by kernel_rfl) (fun c hc => ?_)
 refine sN ?_
 refine rg hc none [some (.new 1), oN] [(1, I k1), (2, .ra 1 0)] [(1, .box [I a0.fOp, I a0.fN, .rs 1000, .rs 1001]), (1000, .arr (List.map I a0.fType)), (1001, .arr (List.map GTerm_O a0.fKids))] trivial ?_
 refine seqQ_norm ?_
 refine sN ?_
 obtain ⟨⟨r_1_3, o_1_3_0⟩, hr_1_3, h⟩ := bsome h
 refine rg hc none [oN, oN, oN, some (.call (I r_1_3) [.osl (List.map I o_1_3_0), .undef] 1), oN] [(1, I r_1_3), (2, .ra 1 0)] [(1, .box [I a0.fOp, I a0.fN, .rs 1000, .rs 1001]), (1000, .arr (List.map I o_1_3_0)), (1001, .arr (List.map GTerm_O a0.fKids))] (ai (laws_markIntS_s _ _ hr_1_3) (ai bod_20 trivial)) ?_
 refine seqQ_norm ?_
 refine sN ?_
 obtain ⟨⟨r_2_3, o_2_3_0⟩, hr_2_3, h⟩ := bsome h
 refine rg hc none [oN, oN, oN, some (.call (I r_2_3) [.osl (List.map GTerm_O o_2_3_0), .undef] 1), oN] [(1, I r_2_3)] [(1000, .arr (List.map I o_1_3_0)), (1001, .arr (List.map GTerm_O o_2_3_0))] (ai (laws_markTermS_s _ _ hr_2_3) (ai bod_52 trivial)) ?_
 refine seqQ_norm ?_
 refine sN ?_
 refine rg0 hc 2 [(4, I r_2_3)] [(1000, .arr (List.map I o_1_3_0)), (1001, .arr (List.map GTerm_O o_2_3_0))] ?_
 refine seqQ_norm ?_
 refine Wp.retN (by kernel_rfl) ?_
 obtain rfl := Option.some.inj h
 exact RetOQ.ret (fl := [true]) (by kernel_rfl)
def laws_heldIntS_F1 (c : Ctx) : (Int) ⊕ (Int) → Exit → AState → Prop
 | .inl k_7 => Into c (.exit 0) (mkS [(1, I k_7)] [])
 | .inr r => RetE TIx Try.f53 [] (I r)
def laws_heldIntS_l0 (p : (List Int) × Int × Int) : Option ((Int) ⊕ (Int)) :=
 match p with
 | (a0, k_3, i_4) =>
  if (decide (i_4 < (a0.length : Int))) = true then
   (idx a0 i_4) >>= fun e_4_2 =>
   if (e_4_2 != k_3) = true then
    some (.inr (-1))
   else
    laws_heldIntS_l0 (a0, (wr (k_3 + 1)), (wr (i_4 + 1)))
  else
   some (.inl k_3)
 partial_fixpoint
def M_laws_heldIntS_l0 (p : (List Int) × Int × Int) (fl : (Int) ⊕ (Int)) : Prop :=
 match p with
 | (a0, k_3, i_4) => ∀ c : Ctx, c.nt = 21 → WpL Try.prog c (cl (cl (cr (cl (cr B53))))) (laws_heldIntS_F1 c fl) (mkS [(0, sI a0), (1, I k_3), (5, I i_4)] [])
theorem laws_heldIntS_l0_s : ∀ p r, laws_heldIntS_l0 p = some r → M_laws_heldIntS_l0 p r := by
 refine laws_heldIntS_l0.partial_correctness M_laws_heldIntS_l0 ?_
 rintro laws_heldIntS_l0_f laws_heldIntS_l0_ih ⟨a0, k_3, i_4⟩ r h
 intro c hc
 show WpL Try.prog c (cl (cl (cr (cl (cr B53))))) (laws_heldIntS_F1 c r) (mkS [(0, sI a0), (1, I k_3), (5, I i_4)] [])
 refine WpL.step ?_
 refine sN ?_
 refine sN ?_
 refine rg hc none [oN, oN, some (.eqv (.no) ⟨[(8, I (a0.length : Int))], [], []⟩), oN] [(0, sI a0), (1, I k_3), (5, I i_4), (9, .bool (decide (i_4 < (a0.length : Int))))] [] (ai (lenT (d := 8) I a0) trivial) ?_
 refine seqQ_norm ?_
 rcases itesome h with ⟨hb_5, h⟩ | ⟨hb_5, h⟩
 ·refine cT ((decide (i_4 < (a0.length : Int)))) hb_5 ?_
  refine Wp.skipN (by kernel_rfl) ?_
  refine seqQ_norm ?_
  refine sN ?_
  refine Wp.blockN (i := 1) (by kernel_rfl) ?_
  refine sN ?_
  refine sN ?_
  obtain ⟨e_4_2, hi_4_2, h⟩ := bsome h
  refine rg hc none [oN, oN, some (.el (I e_4_2)), oN, oN, oN] [(0, sI a0), (1, I k_3), (5, I i_4), (17, .bool (e_4_2 != k_3))] [] (ai (ix hi_4_2) trivial) ?_
  refine seqQ_norm ?_
  rcases itesome h with ⟨hb_6, h⟩ | ⟨hb_6, h⟩
  ·refine cT ((e_4_2 != k_3)) hb_6 ?_
   refine sN ?_
   refine rg0 hc 1 [(4, I (-1))] [] ?_
   refine seqQ_norm ?_
   refine Wp.retN (by kernel_rfl) ?_
   refine seqQ_ret ?_
   refine blockQ_ret ?_
   refine seqQ_ret ?_
   refine loopQ_ret ?_
   obtain rfl := Option.some.inj h
   exact RetE.ret (fl := [true]) (by kernel_rfl)
  ·refine cF ((e_4_2 != k_3)) hb_6 ?_
   refine Wp.skipN (by kernel_rfl) ?_
   refine seqQ_norm ?_
   refine rg0 hc 3 [(0, sI a0), (1, I (wr (k_3 + 1))), (5, I i_4)] [] ?_
   refine blockQ_norm ?_
   refine seqQ_norm ?_
   refine rg0 hc 3 [(0, sI a0), (1, I (wr (k_3 + 1))), (5, I (wr (i_4 + 1)))] [] ?_
   refine loopQ_norm ?_
   exact (laws_heldIntS_l0_ih _ _ h c hc)
 ·refine cF ((decide (i_4 < (a0.length : Int)))) hb_5 ?_
  refine Wp.exitN (i := 0) (by kernel_rfl) ?_
  refine seqQ_exit ?_
  refine loopQ_exit ?_
  obtain rfl := Option.some.inj h
  exact Into.view (fun a w hv => SRx.renL [] hv (by kernel_rfl) (by kernel_rfl) (by kernel_rfl))
def laws_heldIntS (p : (List Int) × Int) : Option (Int) :=
 match p with
 | (a0, k1) =>
  (laws_heldIntS_l0 (a0, k1, 0)) >>= fun fl => match fl with
  | .inl k_7 =>
   some k_7
  | .inr r =>
   some r
def M_laws_heldIntS (p : (List Int) × Int) (r : Int) : Prop :=
 match p with
 | (a0, k1) => FnSound Try.prog 53 [sI a0, I k1] (I r) []
theorem laws_heldIntS_s : ∀ p r, laws_heldIntS p = some r → M_laws_heldIntS p r := by
 rintro ⟨a0, k1⟩ r h
 unfold laws_heldIntS at h
 show FnSound Try.prog 53 [sI a0, I k1] (I r) []
 refine FnSound.body0 tiok (fn := Try.f53) (code := B53) (by kernel_rfl) (by kernel_rfl) (by kernel_rfl) (by kernel_rfl) (nt := 21) (by kernel_rfl) (by kernel_rfl) (T := [(0, sI a0), (1, I k1)]) (O := []) (by kernel_rfl) (by kernel_rfl) (fun c hc => ?_)
 refine sN ?_
 refine rg0 hc 1 [(0, sI a0), (1, I k1)] [] ?_
 refine seqQ_norm ?_
 refine sN ?_
 refine sN ?_
 refine rg0 hc 1 [(0, sI a0), (1, I k1), (5, I 0)] [] ?_
 refine seqQ_norm ?_
 refine Wp.blockN (i := 0) (by kernel_rfl) ?_
 obtain ⟨fl, hl_8, h⟩ := bsome h
 have hL := laws_heldIntS_l0_s _ _ hl_8 c hc
 refine Wp.loopN (by kernel_rfl) ?_
 rcases fl with k_7 | r
 ·refine WpL.into (e := (.exit 0)) (mkS [(1, I k_7)] []) hL ?_
  refine blockQ_hit ?_
  refine seqQ_norm ?_
  refine sN ?_
  refine rg0 hc 2 [(4, I k_7)] [] ?_
  refine seqQ_norm ?_
  refine Wp.retN (by kernel_rfl) ?_
  obtain rfl := Option.some.inj h
  exact RetQ.ret (fl := [true]) (by kernel_rfl)
 ·refine WpL.mono hL ?_
  rintro _ _ ⟨rfl, hfin⟩
  refine blockQ_ret ?_
  refine seqQ_ret ?_
  obtain rfl := Option.some.inj h
  exact ⟨.inl rfl, hfin⟩
def laws_heldTermS_F1 (c : Ctx) : (Int) ⊕ (Int) → Exit → AState → Prop
 | .inl k_13 => Into c (.exit 0) (mkS [(1, I k_13)] [])
 | .inr r => RetE TIx Try.f54 [] (I r)
end Go.Am
