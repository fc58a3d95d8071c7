/- Functions of the program as pure functions, and that it computes them. Printed by a program of mine (gen.py). -/
import Derived.Test.YtmdfopkcoinfeaaGNFF3
set_option linter.unusedVariables false
set_option linter.unusedSimpArgs false
set_option maxRecDepth 100000
namespace Go.Am
open Go Go.Proofs
def ah4_0 : Option (List (List Nat)) := rx [[0], [1], [0], [0, 2], [0], [0, 4], [0, 4, 5], [7], [0], [9]]
def ah4_1 : Option (List (List Nat)) := rx [[0], [1], [0], [0], [0], [0, 4], [0], [0, 4, 5, 6], [0, 3, 4, 5, 6, 7], [0], [0, 2, 3, 4, 5, 6, 7, 8, 9], [0, 2, 3, 4, 5, 6, 7, 8, 9, 10], [12], [13], [14]]
def impl_isRedex (t0 : GTerm) : Option (Bool) :=
  if ((t0.fKids.length : Int) == 0) = true then
   some false
  else
   (idx t0.fKids 0) >>= fun e_3_2 =>
   if (t0.fOp == 2) = true then
    (
     if (e_3_2.fOp == 1) = true then
      (idx t0.fKids 1) >>= fun e_6_5 =>
      some ((e_6_5.fOp == 1))
     else
      some (false)
    ) >>= fun v_3 =>
    some v_3
   else
    if (t0.fOp == 3) = true then
     some (e_3_2.fOp == 1)
    else
     if (t0.fOp == 10) = true then
      some (e_3_2.fOp == 9)
     else
      if (t0.fOp == 5) = true then
       some (e_3_2.fOp == 4)
      else
       if (t0.fOp == 8) = true then
        (
         if (e_3_2.fOp == 6) = true then
          some (true)
         else
          some ((e_3_2.fOp == 7))
        ) >>= fun v_9 =>
        some v_9
       else
        if (t0.fOp == 12) = true then
         some (e_3_2.fOp == 11)
        else
         some false
def M_impl_isRedex (t0 : GTerm) (r : Bool) : Prop :=
 FnSound Try.prog 94 [aTerm t0] (.bool r) []
theorem impl_isRedex_s : ∀ p r, impl_isRedex p = some r → M_impl_isRedex p r := by
 rintro t0 r h
 unfold impl_isRedex at h
 show FnSound Try.prog 94 [aTerm t0] (.bool r) []
 refine FnSound.body0 tiok (fn := Try.f94) (code := B94) (by kernel_rfl) (by kernel_rfl) (by kernel_rfl) (by kernel_rfl) (nt := 51) (by kernel_rfl) (by kernel_rfl) (T := [(0, aTerm t0)]) (O := []) (by kernel_rfl) (by kernel_rfl) (fun c hc => ?_)
 refine sN ?_
 refine rg hc none [some (.new 1), oN] [(1, .ra 1 0)] [(1, bTerm t0)] trivial ?_
 refine seqQ_norm ?_
 refine sN ?_
 refine sN ?_
 refine rg hc none [oN, oN, some (.eqv (.no) ⟨[(6, I (t0.fKids.length : Int))], [], []⟩), oN] [(1, .ra 1 0), (7, .bool ((t0.fKids.length : Int) == 0))] [(1, bTerm t0)] (ai (lenT (d := 6) GTerm_S t0.fKids) trivial) ?_
 refine seqQ_norm ?_
 rcases itesome h with ⟨hb_1, h⟩ | ⟨hb_1, h⟩
 ·refine cT (((t0.fKids.length : Int) == 0)) hb_1 ?_
  refine sN ?_
  refine rg0 hc 1 [(2, .bool false)] [] ?_
  refine seqQ_norm ?_
  refine Wp.retN (by kernel_rfl) ?_
  refine seqQ_ret ?_
  obtain rfl := Option.some.inj h
  exact RetQ.ret (fl := [true]) (by kernel_rfl)
 ·refine cF (((t0.fKids.length : Int) == 0)) hb_1 ?_
  refine Wp.skipN (by kernel_rfl) ?_
  refine seqQ_norm ?_
  refine sN ?_
  obtain ⟨e_3_2, hi_3_2, h⟩ := bsome h
  refine rg hc none [oN, oN, some (.el (aTerm e_3_2)), oN, oN, oN] [(1, .ra 1 0), (3, I e_3_2.fOp)] [(1, bTerm t0)] (ai (idx_sl (enc := GTerm_S) (x := aTerm e_3_2) hi_3_2 (eq_GTerm_S e_3_2)) trivial) ?_
  refine seqQ_norm ?_
  refine sN ?_
  refine sN ?_
  refine rg0 hc 2 [(1, .ra 1 0), (3, I e_3_2.fOp), (14, I t0.fOp)] [(1, bTerm t0)] ?_
  refine seqQ_norm ?_
  refine Wp.blockN (i := 0) (by kernel_rfl) ?_
  refine sN ?_
  refine rg0 hc 2 [(1, .ra 1 0), (3, I e_3_2.fOp), (14, I t0.fOp), (15, .bool (t0.fOp == 2))] [(1, bTerm t0)] ?_
  refine seqQ_norm ?_
  rcases itesome h with ⟨hb_2, h⟩ | ⟨hb_2, h⟩
  ·refine cT ((t0.fOp == 2)) hb_2 ?_
   refine sN ?_
   obtain ⟨v_3, hj_4, h⟩ := bsome h
   refine Wp.into (x := .normal) (mkS [(2, .bool v_3)] []) ?_ ?_
   ·replace h := hj_4
    rcases itesome h with ⟨hb_6_0, h⟩ | ⟨hb_6_0, h⟩
    ·obtain ⟨e_6_5, hi_6_5, h⟩ := bsome h
     refine rg hc none [oN, oN, oN, oN, oN, some (.el (aTerm e_6_5)), oN, oN, oN, oT, oN] [(2, .bool (e_6_5.fOp == 1))] [] (ar 3 hb_6_0 (ai (idx_sl (enc := GTerm_S) (x := aTerm e_6_5) hi_6_5 (eq_GTerm_S e_6_5)) (ar 4 hb_6_0 trivial))) ?_
     obtain rfl := Option.some.inj h
     exact Into.mk
    ·refine rg hc none [oN, oN, oN, o_, o_, o_, o_, o_, o_, oF, oN] [(2, .bool false)] [] (ar 6 (neT hb_6_0) (ai hb_6_0 trivial)) ?_
     obtain rfl := Option.some.inj h
     exact Into.mk
   ·clear hj_4
    refine seqQ_norm ?_
    refine Wp.retN (by kernel_rfl) ?_
    refine blockQ_ret ?_
    refine seqQ_ret ?_
    obtain rfl := Option.some.inj h
    exact RetQ.ret (fl := [true]) (by kernel_rfl)
  ·refine cF ((t0.fOp == 2)) hb_2 ?_
   refine sN ?_
   refine rg0 hc 2 [(3, I e_3_2.fOp), (14, I t0.fOp), (27, .bool (t0.fOp == 3))] [] ?_
   refine seqQ_norm ?_
   rcases itesome h with ⟨hb_5, h⟩ | ⟨hb_5, h⟩
   ·refine cT ((t0.fOp == 3)) hb_5 ?_
    refine sN ?_
    refine rg0 hc 3 [(2, .bool (e_3_2.fOp == 1))] [] ?_
    refine seqQ_norm ?_
    refine Wp.retN (by kernel_rfl) ?_
    refine blockQ_ret ?_
    refine seqQ_ret ?_
    obtain rfl := Option.some.inj h
    exact RetQ.ret (fl := [true]) (by kernel_rfl)
   ·refine cF ((t0.fOp == 3)) hb_5 ?_
    refine sN ?_
    refine rg0 hc 2 [(3, I e_3_2.fOp), (14, I t0.fOp), (31, .bool (t0.fOp == 10))] [] ?_
    refine seqQ_norm ?_
    rcases itesome h with ⟨hb_6, h⟩ | ⟨hb_6, h⟩
    ·refine cT ((t0.fOp == 10)) hb_6 ?_
     refine sN ?_
     refine rg0 hc 3 [(2, .bool (e_3_2.fOp == 9))] [] ?_
     refine seqQ_norm ?_
     refine Wp.retN (by kernel_rfl) ?_
     refine blockQ_ret ?_
     refine seqQ_ret ?_
     obtain rfl := Option.some.inj h
     exact RetQ.ret (fl := [true]) (by kernel_rfl)
    ·refine cF ((t0.fOp == 10)) hb_6 ?_
     refine sN ?_
     refine rg0 hc 2 [(3, I e_3_2.fOp), (14, I t0.fOp), (35, .bool (t0.fOp == 5))] [] ?_
     refine seqQ_norm ?_
     rcases itesome h with ⟨hb_7, h⟩ | ⟨hb_7, h⟩
     ·refine cT ((t0.fOp == 5)) hb_7 ?_
      refine sN ?_
      refine rg0 hc 3 [(2, .bool (e_3_2.fOp == 4))] [] ?_
      refine seqQ_norm ?_
      refine Wp.retN (by kernel_rfl) ?_
      refine blockQ_ret ?_
      refine seqQ_ret ?_
      obtain rfl := Option.some.inj h
      exact RetQ.ret (fl := [true]) (by kernel_rfl)
     ·refine cF ((t0.fOp == 5)) hb_7 ?_
      refine sN ?_
      refine rg0 hc 2 [(3, I e_3_2.fOp), (14, I t0.fOp), (39, .bool (t0.fOp == 8))] [] ?_
      refine seqQ_norm ?_
      rcases itesome h with ⟨hb_8, h⟩ | ⟨hb_8, h⟩
      ·refine cT ((t0.fOp == 8)) hb_8 ?_
       refine sN ?_
       obtain ⟨v_9, hj_10, h⟩ := bsome h
       refine Wp.into (x := .normal) (mkS [(2, .bool v_9)] []) ?_ ?_
       ·replace h := hj_10
        rcases itesome h with ⟨hb_14_0, h⟩ | ⟨hb_14_0, h⟩
        ·refine rg hc none [oN, oN, oN, o_, o_, oT, oN] [(2, .bool true)] [] (ar 2 (neF hb_14_0) (ai hb_14_0 trivial)) ?_
         obtain rfl := Option.some.inj h
         exact Into.mk
        ·refine rg hc none [oN, oN, oN, oN, oN, oF, oN] [(2, .bool (e_3_2.fOp == 7))] [] (ar 3 hb_14_0 trivial) ?_
         obtain rfl := Option.some.inj h
         exact Into.mk
       ·clear hj_10
        refine seqQ_norm ?_
        refine Wp.retN (by kernel_rfl) ?_
        refine blockQ_ret ?_
        refine seqQ_ret ?_
        obtain rfl := Option.some.inj h
        exact RetQ.ret (fl := [true]) (by kernel_rfl)
      ·refine cF ((t0.fOp == 8)) hb_8 ?_
       refine sN ?_
       refine rg0 hc 2 [(3, I e_3_2.fOp), (47, .bool (t0.fOp == 12))] [] ?_
       refine seqQ_norm ?_
       rcases itesome h with ⟨hb_11, h⟩ | ⟨hb_11, h⟩
       ·refine cT ((t0.fOp == 12)) hb_11 ?_
        refine sN ?_
        refine rg0 hc 3 [(2, .bool (e_3_2.fOp == 11))] [] ?_
        refine seqQ_norm ?_
        refine Wp.retN (by kernel_rfl) ?_
        refine blockQ_ret ?_
        refine seqQ_ret ?_
        obtain rfl := Option.some.inj h
        exact RetQ.ret (fl := [true]) (by kernel_rfl)
       ·refine cF ((t0.fOp == 12)) hb_11 ?_
        refine Wp.skipN (by kernel_rfl) ?_
        refine blockQ_norm ?_
        refine seqQ_norm ?_
        refine sN ?_
        refine rg0 hc 1 [(2, .bool false)] [] ?_
        refine seqQ_norm ?_
        refine Wp.retN (by kernel_rfl) ?_
        obtain rfl := Option.some.inj h
        exact RetQ.ret (fl := [true]) (by kernel_rfl)
def slices_Clone_int (s0 : (List Int)) : Option ((List Int)) :=
  (fits (([] : List Int).length + s0.length) 8) >>= fun _ =>
  some s0
def M_slices_Clone_int (s0 : (List Int)) (r : (List Int)) : Prop :=
 FnSound Try.prog 102 [sI s0] (.osl (List.map I r)) []
theorem slices_Clone_int_s : ∀ p r, slices_Clone_int p = some r → M_slices_Clone_int p r := by
 rintro s0 r h
 unfold slices_Clone_int at h
 show FnSound Try.prog 102 [sI s0] (.osl (List.map I r)) []
 refine FnSound.body0 tiok (fn := Try.f102) (code := B102) (by kernel_rfl) (by kernel_rfl) (by kernel_rfl) (by kernel_rfl) (nt := 8) (by kernel_rfl) (by kernel_rfl) (T := [(0, sI s0)]) (O := []) (by kernel_rfl) (by kernel_rfl) (fun c hc => ?_)
 refine sN ?_
 refine rg0 hc 1 [(0, sI s0)] [] ?_
 refine seqQ_norm ?_
 refine sN ?_
 refine sN ?_
 refine rg0 hc 2 [(0, sI s0), (4, .nilq (List.map I s0))] [] ?_
 refine seqQ_norm ?_
 refine Wp.condNil (xs := List.map I s0) (by kernel_rfl) (by kernel_rfl) (fun hn => ?_) ?_
 ·replace hn := List.map_eq_nil_iff.1 hn
  replace h : (some []) = some r := by rw [hn] at h; simpa [fits, chk] using h
  refine sN ?_
  refine rg0 hc 1 [(2, .nils)] [] ?_
  refine seqQ_norm ?_
  refine Wp.retN (by kernel_rfl) ?_
  refine seqQ_ret ?_
  obtain rfl := Option.some.inj h
  exact RetQ.ret (fl := [true]) (by kernel_rfl)
 ·refine Wp.skipN (by kernel_rfl) ?_
  refine seqQ_norm ?_
  refine sN ?_
  obtain ⟨_, hk_3_2, h⟩ := bsome h
  refine rg hc none [some (.mk 1 true), oN, some (.eqv (.mk 2 true) ⟨[(7, .rs 2)], [(2, some (.arr (List.map I s0))), (1, none)], [2]⟩), oN] [(2, .rs 2)] [(2, .arr (List.map I s0))] (ai (congrArg (fun z => (⟨[(7, .rs 2)], [(2, some (.arr z)), (1, none)], [2]⟩ : Wr)) (List.nil_append _ : [] ++ (List.map I s0) = List.map I s0)) (ai (app_ob (enc1 := I) (enc2 := I) (e1 := []) (e2 := s0) (sz := 1) ek_I ek_I hk_3_2) trivial)) ?_
  refine seqQ_norm ?_
  refine Wp.retN (by kernel_rfl) ?_
  obtain rfl := Option.some.inj h
  exact RetQ.ret (fl := [true]) (by kernel_rfl)
def impl_redexes_F1 (c : Ctx) : (List (List Int)) → Exit → AState → Prop
 | out_8 => Into c (.exit 0) (mkS [(5, .rs 4)] [(4, .arr (List.map LI_o out_8))])
mutual
def impl_redexes (p : GTerm × (List Int)) : Option ((List (List Int))) :=
 match p with
 | (t0, path1) =>
  (impl_isRedex t0) >>= fun r_2_1 =>
  (
   if r_2_1 = true then
    (slices_Clone_int path1) >>= fun r_3_2 =>
    (fits (([] : List (List Int)).length + [r_3_2].length) 24) >>= fun _ =>
    some ([r_3_2])
   else
    some ([])
  ) >>= fun out_2 =>
  (impl_redexes_l0 (t0, path1, out_2, 0)) >>= fun out_8 =>
  some out_8
 partial_fixpoint
def impl_redexes_l0 (p : GTerm × (List Int) × (List (List Int)) × Int) : Option ((List (List Int))) :=
 match p with
 | (t0, path1, out_5, w_6) =>
  if (decide (w_6 < (t0.fKids.length : Int))) = true then
   (idx t0.fKids w_6) >>= fun e_6_1 =>
   (slices_Clone_int path1) >>= fun r_7_3 =>
   (fits (r_7_3.length + [w_6].length) 8) >>= fun _ =>
   (impl_redexes (e_6_1, (r_7_3 ++ [w_6]))) >>= fun r_7_7 =>
   (fits (out_5.length + r_7_7.length) 24) >>= fun _ =>
   impl_redexes_l0 (t0, path1, (out_5 ++ r_7_7), (wr (w_6 + 1)))
  else
   some (out_5)
 partial_fixpoint
end
def M_impl_redexes (p : GTerm × (List Int)) (r : (List (List Int))) : Prop :=
 match p with
 | (t0, path1) => FnSound Try.prog 92 [aTerm t0, sI path1] (.osl (List.map LI_o r)) []
def M_impl_redexes_l0 (p : GTerm × (List Int) × (List (List Int)) × Int) (fl : (List (List Int))) : Prop :=
 match p with
 | (t0, path1, out_5, w_6) => ∀ c : Ctx, c.nt = 34 → WpL Try.prog c (cl (cl (cr (cl (cr (cr (cr B92))))))) (impl_redexes_F1 c fl) (mkS [(1, sI path1), (5, .rs 4), (16, .sl (List.map GTerm_S t0.fKids)), (17, I (t0.fKids.length : Int)), (18, I w_6)] [(4, .arr (List.map LI_o out_5))])
theorem impl_redexes_all : (∀ p r, impl_redexes p = some r → M_impl_redexes p r) ∧ (∀ p r, impl_redexes_l0 p = some r → M_impl_redexes_l0 p r) := by
 refine impl_redexes.mutual_partial_correctness M_impl_redexes M_impl_redexes_l0 ?_ ?_
 ·rintro impl_redexes_l0_f impl_redexes_l0_ih ⟨t0, path1⟩ r h
  show FnSound Try.prog 92 [aTerm t0, sI path1] (.osl (List.map LI_o r)) []
  refine FnSound.body0 tiok (fn := Try.f92) (code := B92) (by kernel_rfl) (by kernel_rfl) (by kernel_rfl) (by kernel_rfl) (nt := 34) (by kernel_rfl) (by kernel_rfl) (T := [(0, aTerm t0), (1, sI path1)]) (O := []) (by kernel_rfl) (by kernel_rfl) (fun c hc => ?_)
  refine sN ?_
  refine rg hc none [some (.new 1), oN] [(1, sI path1), (2, .ra 1 0)] [(1, bTerm t0)] trivial ?_
  refine seqQ_norm ?_
  refine sN ?_
  refine rg0 hc 1 [(1, sI path1), (2, .ra 1 0), (5, .nils)] [(1, bTerm t0)] ?_
  refine seqQ_norm ?_
  refine sN ?_
  refine sN ?_
  obtain ⟨r_2_1, hr_2_1, h⟩ := bsome h
  refine rg hc none [oN, oc (.bool r_2_1)] [(1, sI path1), (2, .ra 1 0), (5, .nils), (9, .bool r_2_1)] [(1, bTerm t0)] (ai (impl_isRedex_s _ _ hr_2_1) (ai bod_94 (ai (oi (.bool r_2_1)) trivial))) ?_
  refine seqQ_norm ?_
  obtain ⟨out_2, hj_3, h⟩ := bsome h
  refine Wp.into (x := .normal) (mkS [(1, sI path1), (2, .ra 1 0), (5, .rs 4)] [(1, bTerm t0), (4, .arr (List.map LI_o out_2))]) ?_ ?_
  ·replace h := hj_3
   rcases itesome h with ⟨hb_1, h⟩ | ⟨hb_1, h⟩
   ·refine cT r_2_1 hb_1 ?_
    obtain ⟨r_3_2, hr_3_2, h⟩ := bsome h
    obtain ⟨_, hk_3_4, h⟩ := bsome h
    refine rg hc none [oN, oN, some (.call (.osl (List.map I r_3_2)) [] 2), some (.mk 3 true), some (.eqv (.mk 4 true) ⟨[(14, .rs 4)], [(4, some (.arr (List.map LI_o [r_3_2]))), (3, none)], [4]⟩), oN] [(1, sI path1), (2, .ra 1 0), (5, .rs 4)] [(1, bTerm t0), (4, .arr (List.map LI_o [r_3_2]))] (ai (slices_Clone_int_s _ _ hr_3_2) (ai bod_102 (ai (oi (.osl (List.map I r_3_2))) (ai (congrArg (fun z => (⟨[(14, .rs 4)], [(4, some (.arr z)), (3, none)], [4]⟩ : Wr)) (List.nil_append _ : [] ++ (List.map LI_o [r_3_2]) = List.map LI_o [r_3_2])) (ai (app_ob (enc1 := LI_o) (enc2 := LI_o) (e1 := []) (e2 := [r_3_2]) (sz := 1) ek_LI_o ek_LI_o hk_3_4) trivial))))) ?_
    obtain rfl := Option.some.inj h
    exact Into.mk
   ·refine cF r_2_1 hb_1 ?_
    refine Wp.skipN (by kernel_rfl) ?_
    obtain rfl := Option.some.inj h
    exact Into.view (fun a w hv => SRx.renL [(4, 5)] (SRx.nilTL 5 5 hv (by kernel_rfl) (by kernel_rfl)) (by kernel_rfl) (by kernel_rfl) (by kernel_rfl))
  ·clear hj_3
   refine seqQ_norm ?_
   refine sN ?_
   refine sN ?_
   refine rg hc none [oN, oN, some (.eqv (.no) ⟨[(17, I (t0.fKids.length : Int))], [], []⟩), oN] [(1, sI path1), (5, .rs 4), (16, .sl (List.map GTerm_S t0.fKids)), (17, I (t0.fKids.length : Int)), (18, I 0)] [(4, .arr (List.map LI_o out_2))] (ai (lenT (d := 17) GTerm_S t0.fKids) trivial) ?_
   refine seqQ_norm ?_
   refine Wp.blockN (i := 0) (by kernel_rfl) ?_
   obtain ⟨out_8, hl_9, h⟩ := bsome h
   have hL := impl_redexes_l0_ih _ _ hl_9 c hc
   refine Wp.loopN (by kernel_rfl) ?_
   ·refine WpL.into (e := (.exit 0)) (mkS [(5, .rs 4)] [(4, .arr (List.map LI_o out_8))]) hL ?_
    refine blockQ_hit ?_
    refine seqQ_norm ?_
    refine sN ?_
    refine rg0 hc 2 [(4, .rs 4)] [(4, .arr (List.map LI_o out_8))] ?_
    refine seqQ_norm ?_
    refine Wp.retN (by kernel_rfl) ?_
    obtain rfl := Option.some.inj h
    exact RetQ.ret (fl := [true]) (by kernel_rfl)
 ·rintro impl_redexes_f impl_redexes_l0_f impl_redexes_ih impl_redexes_l0_ih ⟨t0, path1, out_5, w_6⟩ r h
  intro c hc
  show WpL Try.prog c (cl (cl (cr (cl (cr (cr (cr B92))))))) (impl_redexes_F1 c r) (mkS [(1, sI path1), (5, .rs 4), (16, .sl (List.map GTerm_S t0.fKids)), (17, I (t0.fKids.length : Int)), (18, I w_6)] [(4, .arr (List.map LI_o out_5))])
  refine WpL.step ?_
  refine sN ?_
  refine rg0 hc 1 [(1, sI path1), (5, .rs 4), (16, .sl (List.map GTerm_S t0.fKids)), (17, I (t0.fKids.length : Int)), (18, I w_6), (19, .bool (decide (w_6 < (t0.fKids.length : Int))))] [(4, .arr (List.map LI_o out_5))] ?_
  refine seqQ_norm ?_
  refine sN ?_
  rcases itesome h with ⟨hb_7, h⟩ | ⟨hb_7, h⟩
  ·refine cT ((decide (w_6 < (t0.fKids.length : Int)))) hb_7 ?_
   refine Wp.skipN (by kernel_rfl) ?_
   refine seqQ_norm ?_
   refine sN ?_
   refine Wp.blockN (i := 1) (by kernel_rfl) ?_
   refine sN ?_
   obtain ⟨e_6_1, hi_6_1, h⟩ := bsome h
   refine rg hc none [oN, some (.el (aTerm e_6_1)), oN, some (.new 12), oN, oN] [(1, sI path1), (5, .rs 4), (6, I w_6), (7, .ra 12 0), (16, .sl (List.map GTerm_S t0.fKids)), (17, I (t0.fKids.length : Int)), (18, I w_6)] [(4, .arr (List.map LI_o out_5)), (12, bTerm e_6_1)] (ai (idx_sl (enc := GTerm_S) (x := aTerm e_6_1) hi_6_1 (eq_GTerm_S e_6_1)) trivial) ?_
   refine seqQ_norm ?_
   obtain ⟨r_7_3, hr_7_3, h⟩ := bsome h
   obtain ⟨_, hk_7_6, h⟩ := bsome h
   obtain ⟨r_7_7, hr_7_7, h⟩ := bsome h
   obtain ⟨_, hk_7_8, h⟩ := bsome h
   refine rg hc (rx [[0], [0], [0], [0, 2], [0], [0, 4], [0, 2, 3, 4, 5], [0, 1, 2, 3, 4, 5, 6], [8], [9]]) [oN, oN, oN, some (.call (.osl (List.map I r_7_3)) [] 13), oN, some (.mk 14 true), some (.eqv (.mk 15 true) ⟨[(29, .rs 15)], [(15, some (.arr (List.map I (r_7_3 ++ [w_6])))), (13, none), (14, none)], [15]⟩), some (.call (.osl (List.map LI_o r_7_7)) [] 16), some (.eqv (.mk 17 true) ⟨[(31, .rs 17)], [(17, some (.arr (List.map LI_o (out_5 ++ r_7_7)))), (4, none), (16, none)], [17]⟩), oN] [(1, sI path1), (5, .rs 17), (16, .sl (List.map GTerm_S t0.fKids)), (17, I (t0.fKids.length : Int)), (18, I w_6)] [(17, .arr (List.map LI_o (out_5 ++ r_7_7)))] (ai (slices_Clone_int_s _ _ hr_7_3) (ai bod_102 (ai (oi (.osl (List.map I r_7_3))) (ai (congrArg (fun z => (⟨[(29, .rs 15)], [(15, some (.arr z)), (13, none), (14, none)], [15]⟩ : Wr)) ((List.map_append).symm : (List.map I r_7_3) ++ (List.map I [w_6]) = List.map I (r_7_3 ++ [w_6]))) (ai (app_ob (enc1 := I) (enc2 := I) (e1 := r_7_3) (e2 := [w_6]) (sz := 1) ek_I ek_I hk_7_6) (ai (FnSound.args (A1 := [aTerm e_6_1, .sl (shares (List.map I (r_7_3 ++ [w_6])))]) (A2 := [aTerm e_6_1, sI (r_7_3 ++ [w_6])]) (by simp only [sI, sB, aTerm, hTerm, List.map_nil, sh_I]) (impl_redexes_ih _ _ hr_7_7)) (ai bod_92 (ai (Or.inr (nsh_row nsh_LI_o r_7_7) : ([15] : List Nat) = [] ∨ noSh (.osl (List.map LI_o r_7_7)) = true) (ai (congrArg (fun z => (⟨[(31, .rs 17)], [(17, some (.arr z)), (4, none), (16, none)], [17]⟩ : Wr)) ((List.map_append).symm : (List.map LI_o out_5) ++ (List.map LI_o r_7_7) = List.map LI_o (out_5 ++ r_7_7))) (ai (app_ob (enc1 := LI_o) (enc2 := LI_o) (e1 := out_5) (e2 := r_7_7) (sz := 1) ek_LI_o ek_LI_o hk_7_8) trivial)))))))))) ?_
   refine blockQ_norm ?_
   refine seqQ_norm ?_
   refine rg0 hc 2 [(1, sI path1), (5, .rs 17), (16, .sl (List.map GTerm_S t0.fKids)), (17, I (t0.fKids.length : Int)), (18, I (wr (w_6 + 1)))] [(17, .arr (List.map LI_o (out_5 ++ r_7_7)))] ?_
   refine loopQ_norm ?_
   exact WpL.view (fun a w hv => SRx.renL [(4, 17)] hv (by kernel_rfl) (by kernel_rfl) (by kernel_rfl)) (impl_redexes_l0_ih _ _ h c hc)
  ·refine cF ((decide (w_6 < (t0.fKids.length : Int)))) hb_7 ?_
   refine Wp.exitN (i := 0) (by kernel_rfl) ?_
   refine seqQ_exit ?_
   refine loopQ_exit ?_
   obtain rfl := Option.some.inj h
   exact Into.view (fun a w hv => SRx.renL [] hv (by kernel_rfl) (by kernel_rfl) (by kernel_rfl))
theorem impl_redexes_s : ∀ p r, impl_redexes p = some r → M_impl_redexes p r := impl_redexes_all.1
theorem impl_redexes_l0_s : ∀ p r, impl_redexes_l0 p = some r → M_impl_redexes_l0 p r := impl_redexes_all.2
def impl_IsNormal (t0 : GTerm) : Option (Bool) :=
  (
   (impl_IsWritten t0) >>= fun r_1_1 =>
   if r_1_1 = true then
    (impl_redexes (t0, [])) >>= fun r_1_4 =>
    some (((r_1_4.length : Int) == 0))
   else
    some (false)
  ) >>= fun v_1 =>
  some v_1
def M_impl_IsNormal (t0 : GTerm) (r : Bool) : Prop :=
 FnSound Try.prog 62 [aTerm t0] (.bool r) []
theorem impl_IsNormal_s : ∀ p r, impl_IsNormal p = some r → M_impl_IsNormal p r := by
 rintro t0 r h
 unfold impl_IsNormal at h
 show FnSound Try.prog 62 [aTerm t0] (.bool r) []
 refine FnSound.body0 tiok (fn := Try.f62) (code := B62) (by kernel_rfl) (by kernel_rfl) (by kernel_rfl) (by kernel_rfl) (nt := 11) (by kernel_rfl) (by kernel_rfl) (T := [(0, aTerm t0)]) (O := []) (by kernel_rfl) (by kernel_rfl) (fun c hc => ?_)
 refine sN ?_
 refine rg hc none [some (.new 1), oN] [(1, .ra 1 0)] [(1, bTerm t0)] trivial ?_
 refine seqQ_norm ?_
 refine sN ?_
 obtain ⟨v_1, hj_2, h⟩ := bsome h
 refine Wp.into (x := .normal) (mkS [(2, .bool v_1)] []) ?_ ?_
 ·replace h := hj_2
  obtain ⟨r_1_1, hr_1_1, h⟩ := bsome h
  rcases itesome h with ⟨hb_1_0, h⟩ | ⟨hb_1_0, h⟩
  ·obtain ⟨r_1_4, hr_1_4, h⟩ := bsome h
   refine rg hc none [oN, oc (.bool r_1_1), oN, oN, some (.call (.osl (List.map LI_o r_1_4)) [] 2), some (.eqv (.no) ⟨[(8, I (r_1_4.length : Int))], [], []⟩), oN, oT, oN] [(2, .bool ((r_1_4.length : Int) == 0))] [] (ai (impl_IsWritten_s _ _ hr_1_1) (ai bod_60 (ai (oi (.bool r_1_1)) (ar 2 hb_1_0 (ai (FnSound.args (A1 := [aTerm t0, .sl []]) (A2 := [aTerm t0, .sl (List.map I [])]) (by simp only [sI, sB, aTerm, hTerm, List.map_nil]) (impl_redexes_s _ _ hr_1_4)) (ai bod_92 (ai (oi (.osl (List.map LI_o r_1_4))) (ai hb_1_0 (ai (lenT (d := 8) LI_o r_1_4) (ar 2 hb_1_0 trivial)))))))))) ?_
   obtain rfl := Option.some.inj h
   exact Into.mk
  ·refine rg hc none [oN, oc (.bool r_1_1), oN, o_, o_, o_, o_, oF, oN] [(2, .bool false)] [] (ai (impl_IsWritten_s _ _ hr_1_1) (ai bod_60 (ai (oi (.bool r_1_1)) (ar 4 (neT hb_1_0) (ai hb_1_0 trivial))))) ?_
   obtain rfl := Option.some.inj h
   exact Into.mk
 ·clear hj_2
  refine seqQ_norm ?_
  refine Wp.retN (by kernel_rfl) ?_
  obtain rfl := Option.some.inj h
  exact RetQ.ret (fl := [true]) (by kernel_rfl)
def impl_RedexesOf (t0 : GTerm) : Option ((List (List Int))) :=
  (impl_IsWritten t0) >>= fun r_1_1 =>
  if r_1_1 = true then
   (impl_redexes (t0, [])) >>= fun r_3_1 =>
   some r_3_1
  else
   some []
def M_impl_RedexesOf (t0 : GTerm) (r : (List (List Int))) : Prop :=
 FnSound Try.prog 51 [aTerm t0] (.osl (List.map LI_o r)) []
theorem impl_RedexesOf_s : ∀ p r, impl_RedexesOf p = some r → M_impl_RedexesOf p r := by
 rintro t0 r h
 unfold impl_RedexesOf at h
 show FnSound Try.prog 51 [aTerm t0] (.osl (List.map LI_o r)) []
 refine FnSound.body0 tiok (fn := Try.f51) (code := B51) (by kernel_rfl) (by kernel_rfl) (by kernel_rfl) (by kernel_rfl) (nt := 8) (by kernel_rfl) (by kernel_rfl) (T := [(0, aTerm t0)]) (O := []) (by kernel_rfl) (by kernel_rfl) (fun c hc => ?_)
 refine sN ?_
 refine rg hc none [some (.new 1), oN] [(1, .ra 1 0)] [(1, bTerm t0)] trivial ?_
 refine seqQ_norm ?_
 refine sN ?_
 refine sN ?_
 obtain ⟨r_1_1, hr_1_1, h⟩ := bsome h
 refine rg hc none [oN, oc (.bool r_1_1), oN] [(1, .ra 1 0), (5, .bool (!r_1_1))] [(1, bTerm t0)] (ai (impl_IsWritten_s _ _ hr_1_1) (ai bod_60 (ai (oi (.bool r_1_1)) trivial))) ?_
 refine seqQ_norm ?_
 rcases itesome h with ⟨hb_1, h⟩ | ⟨hb_1, h⟩
 ·refine cF (!r_1_1) (nF hb_1) ?_
  refine Wp.skipN (by kernel_rfl) ?_
  refine seqQ_norm ?_
  refine sN ?_
  obtain ⟨r_3_1, hr_3_1, h⟩ := bsome h
  refine rg hc none [oN, some (.call (.osl (List.map LI_o r_3_1)) [] 2), oN] [(2, .rs 2)] [(2, .arr (List.map LI_o r_3_1))] (ai (FnSound.args (A1 := [aTerm t0, .sl []]) (A2 := [aTerm t0, .sl (List.map I [])]) (by simp only [sI, sB, aTerm, hTerm, List.map_nil]) (impl_redexes_s _ _ hr_3_1)) (ai bod_92 (ai (oi (.osl (List.map LI_o r_3_1))) trivial))) ?_
  refine seqQ_norm ?_
  refine Wp.retN (by kernel_rfl) ?_
  obtain rfl := Option.some.inj h
  exact RetQ.ret (fl := [true]) (by kernel_rfl)
 ·refine cT (!r_1_1) (nT hb_1) ?_
  refine sN ?_
  refine rg0 hc 1 [(2, .nils)] [] ?_
  refine seqQ_norm ?_
  refine Wp.retN (by kernel_rfl) ?_
  refine seqQ_ret ?_
  obtain rfl := Option.some.inj h
  exact RetQ.ret (fl := [true]) (by kernel_rfl)
def impl_at_F1 (c : Ctx) : (Int × Int × (List Int) × (List GTerm)) ⊕ ((GTerm × Bool)) → Exit → AState → Prop
 | .inl (t_10, t_11, t_12, t_13) => Into c (.exit 0) (mkS [(2, .ra 1 0), (4, .ra 2 0)] [(1, .box [I t_10, I t_11, sI t_12, .sl (List.map GTerm_S t_13)]), (2, .box [I 0, I 0, .nils, .nils])])
 | .inr r => RetE TIx Try.f93 [] (.tup [.agg [I r.1.fOp, I r.1.fN, .sl (List.map I r.1.fType), .sl (List.map GTerm_S r.1.fKids)], .bool r.2])
def impl_at_l0 (p : (List Int) × Int × Int × (List Int) × (List GTerm) × Int) : Option ((Int × Int × (List Int) × (List GTerm)) ⊕ ((GTerm × Bool))) :=
 match p with
 | (path1, t_3, t_4, t_5, t_6, w_7) =>
  if (decide (w_7 < (path1.length : Int))) = true then
   (idx path1 w_7) >>= fun e_3_0 =>
   (impl_within (e_3_0, 0, (wr ((t_6.length : Int) - 1)))) >>= fun r_4_5 =>
   if r_4_5 = true then
    (idx t_6 e_3_0) >>= fun e_6_3 =>
    impl_at_l0 (path1, e_6_3.fOp, e_6_3.fN, e_6_3.fType, e_6_3.fKids, (wr (w_7 + 1)))
   else
    some (.inr ((GTerm.mk 0 0 [] []), false))
  else
   some (.inl (t_3, t_4, t_5, t_6))
 partial_fixpoint
def M_impl_at_l0 (p : (List Int) × Int × Int × (List Int) × (List GTerm) × Int) (fl : (Int × Int × (List Int) × (List GTerm)) ⊕ ((GTerm × Bool))) : Prop :=
 match p with
 | (path1, t_3, t_4, t_5, t_6, w_7) => ∀ c : Ctx, c.nt = 29 → WpL Try.prog c (cl (cl (cr (cl (cr B93))))) (impl_at_F1 c fl) (mkS [(2, .ra 1 0), (4, .ra 2 0), (8, sI path1), (9, I (path1.length : Int)), (10, I w_7)] [(1, .box [I t_3, I t_4, sI t_5, .sl (List.map GTerm_S t_6)]), (2, .box [I 0, I 0, .nils, .nils])])
theorem impl_at_l0_s : ∀ p r, impl_at_l0 p = some r → M_impl_at_l0 p r := by
 refine impl_at_l0.partial_correctness M_impl_at_l0 ?_
 rintro impl_at_l0_f impl_at_l0_ih ⟨path1, t_3, t_4, t_5, t_6, w_7⟩ r h
 intro c hc
 show WpL Try.prog c (cl (cl (cr (cl (cr B93))))) (impl_at_F1 c r) (mkS [(2, .ra 1 0), (4, .ra 2 0), (8, sI path1), (9, I (path1.length : Int)), (10, I w_7)] [(1, .box [I t_3, I t_4, sI t_5, .sl (List.map GTerm_S t_6)]), (2, .box [I 0, I 0, .nils, .nils])])
 refine WpL.step ?_
 refine sN ?_
 refine rg0 hc 1 [(2, .ra 1 0), (4, .ra 2 0), (8, sI path1), (9, I (path1.length : Int)), (10, I w_7), (11, .bool (decide (w_7 < (path1.length : Int))))] [(1, .box [I t_3, I t_4, sI t_5, .sl (List.map GTerm_S t_6)]), (2, .box [I 0, I 0, .nils, .nils])] ?_
 refine seqQ_norm ?_
 refine sN ?_
 rcases itesome h with ⟨hb_8, h⟩ | ⟨hb_8, h⟩
 ·refine cT ((decide (w_7 < (path1.length : Int)))) hb_8 ?_
  refine Wp.skipN (by kernel_rfl) ?_
  refine seqQ_norm ?_
  refine sN ?_
  refine Wp.blockN (i := 1) (by kernel_rfl) ?_
  refine sN ?_
  obtain ⟨e_3_0, hi_3_0, h⟩ := bsome h
  refine rg hc none [some (.el (I e_3_0)), oN, oN] [(2, .ra 1 0), (4, .ra 2 0), (7, I e_3_0), (8, sI path1), (9, I (path1.length : Int)), (10, I w_7)] [(1, .box [I t_3, I t_4, sI t_5, .sl (List.map GTerm_S t_6)]), (2, .box [I 0, I 0, .nils, .nils])] (ai (ix hi_3_0) trivial) ?_
  refine seqQ_norm ?_
  refine sN ?_
  refine sN ?_
  obtain ⟨r_4_5, hr_4_5, h⟩ := bsome h
  refine rg hc none [oN, oN, oN, some (.eqv (.no) ⟨[(17, I (t_6.length : Int))], [], []⟩), oN, oc (.bool r_4_5), oN] [(2, .ra 1 0), (4, .ra 2 0), (7, I e_3_0), (8, sI path1), (9, I (path1.length : Int)), (10, I w_7), (20, .bool (!r_4_5))] [(1, .box [I t_3, I t_4, sI t_5, .sl (List.map GTerm_S t_6)]), (2, .box [I 0, I 0, .nils, .nils])] (ai (lenT (d := 17) GTerm_S t_6) (ai (impl_within_s _ _ hr_4_5) (ai bod_61 (ai (oi (.bool r_4_5)) trivial)))) ?_
  refine seqQ_norm ?_
  rcases itesome h with ⟨hb_9, h⟩ | ⟨hb_9, h⟩
  ·refine cF (!r_4_5) (nF hb_9) ?_
   refine Wp.skipN (by kernel_rfl) ?_
   refine seqQ_norm ?_
   obtain ⟨e_6_3, hi_6_3, h⟩ := bsome h
   refine rg hc none [oN, oN, oN, some (.el (aTerm e_6_3)), oN, oN] [(2, .ra 1 0), (4, .ra 2 0), (8, sI path1), (9, I (path1.length : Int)), (10, I w_7)] [(1, bTerm e_6_3), (2, .box [I 0, I 0, .nils, .nils])] (ai (idx_sl (enc := GTerm_S) (x := aTerm e_6_3) hi_6_3 (eq_GTerm_S e_6_3)) trivial) ?_
   refine blockQ_norm ?_
   refine seqQ_norm ?_
   refine rg0 hc 2 [(2, .ra 1 0), (4, .ra 2 0), (8, sI path1), (9, I (path1.length : Int)), (10, I (wr (w_7 + 1)))] [(1, bTerm e_6_3), (2, .box [I 0, I 0, .nils, .nils])] ?_
   refine loopQ_norm ?_
   exact (impl_at_l0_ih _ _ h c hc)
  ·refine cT (!r_4_5) (nT hb_9) ?_
   refine sN ?_
   refine rg0 hc 3 [(4, .ra 2 0), (5, .bool false)] [(2, .box [I 0, I 0, .nils, .nils])] ?_
   refine seqQ_norm ?_
   refine Wp.retN (by kernel_rfl) ?_
   refine seqQ_ret ?_
   refine blockQ_ret ?_
   refine seqQ_ret ?_
   refine loopQ_ret ?_
   obtain rfl := Option.some.inj h
   exact RetE.ret (fl := [false, true]) (by kernel_rfl)
 ·refine cF ((decide (w_7 < (path1.length : Int)))) hb_8 ?_
  refine Wp.exitN (i := 0) (by kernel_rfl) ?_
  refine seqQ_exit ?_
  refine loopQ_exit ?_
  obtain rfl := Option.some.inj h
  exact Into.view (fun a w hv => SRx.renL [] hv (by kernel_rfl) (by kernel_rfl) (by kernel_rfl))
def impl_at (p : GTerm × (List Int)) : Option (GTerm × Bool) :=
 match p with
 | (t0, path1) =>
  (impl_at_l0 (path1, t0.fOp, t0.fN, t0.fType, t0.fKids, 0)) >>= fun fl => match fl with
  | .inl (t_10, t_11, t_12, t_13) =>
   some ((GTerm.mk t_10 t_11 t_12 t_13), true)
  | .inr r =>
   some r
def M_impl_at (p : GTerm × (List Int)) (r : GTerm × Bool) : Prop :=
 match p with
 | (t0, path1) => FnSound Try.prog 93 [aTerm t0, sI path1] (.tup [.agg [I r.1.fOp, I r.1.fN, .sl (List.map I r.1.fType), .sl (List.map GTerm_S r.1.fKids)], .bool r.2]) []
theorem impl_at_s : ∀ p r, impl_at p = some r → M_impl_at p r := by
 rintro ⟨t0, path1⟩ r h
 unfold impl_at at h
 show FnSound Try.prog 93 [aTerm t0, sI path1] (.tup [.agg [I r.1.fOp, I r.1.fN, .sl (List.map I r.1.fType), .sl (List.map GTerm_S r.1.fKids)], .bool r.2]) []
 refine FnSound.body0 tiok (fn := Try.f93) (code := B93) (by kernel_rfl) (by kernel_rfl) (by kernel_rfl) (by kernel_rfl) (nt := 29) (by kernel_rfl) (by kernel_rfl) (T := [(0, aTerm t0), (1, sI path1)]) (O := []) (by kernel_rfl) (by kernel_rfl) (fun c hc => ?_)
 refine sN ?_
 refine rg hc none [some (.new 1), some (.new 2), oN] [(1, sI path1), (2, .ra 1 0), (4, .ra 2 0)] [(1, bTerm t0), (2, .box [I 0, I 0, .nils, .nils])] trivial ?_
 refine seqQ_norm ?_
 refine sN ?_
 refine sN ?_
 refine rg hc none [oN, some (.eqv (.no) ⟨[(9, I (path1.length : Int))], [], []⟩), oN] [(2, .ra 1 0), (4, .ra 2 0), (8, sI path1), (9, I (path1.length : Int)), (10, I 0)] [(1, bTerm t0), (2, .box [I 0, I 0, .nils, .nils])] (ai (lenT (d := 9) I path1) trivial) ?_
 refine seqQ_norm ?_
 refine Wp.blockN (i := 0) (by kernel_rfl) ?_
 obtain ⟨fl, hl_14, h⟩ := bsome h
 have hL := impl_at_l0_s _ _ hl_14 c hc
 refine Wp.loopN (by kernel_rfl) ?_
 rcases fl with ⟨t_10, t_11, t_12, t_13⟩ | r
 ·refine WpL.into (e := (.exit 0)) (mkS [(2, .ra 1 0), (4, .ra 2 0)] [(1, .box [I t_10, I t_11, sI t_12, .sl (List.map GTerm_S t_13)]), (2, .box [I 0, I 0, .nils, .nils])]) hL ?_
  refine blockQ_hit ?_
  refine seqQ_norm ?_
  refine sN ?_
  refine rg0 hc 3 [(4, .ra 2 0), (5, .bool true)] [(2, .box [I t_10, I t_11, sI t_12, .sl (List.map GTerm_S t_13)])] ?_
  refine seqQ_norm ?_
  refine Wp.retN (by kernel_rfl) ?_
  obtain rfl := Option.some.inj h
  exact RetQ.ret (fl := [false, true]) (by kernel_rfl)
 ·refine WpL.mono hL ?_
  rintro _ _ ⟨rfl, hfin⟩
  refine blockQ_ret ?_
  refine seqQ_ret ?_
  obtain rfl := Option.some.inj h
  exact ⟨.inl rfl, hfin⟩
def impl_copyTerm_F1 (c : Ctx) (t0 : GTerm) (r_1_6 : List Int) : (List GTerm) → Exit → AState → Prop
 | out_6 => Into c (.exit 0) (mkS [(2, .ra 2 0), (3, .ra 4 0)] [(2, .box [I 0, I 0, .nils, .nils]), (3, .arr (List.map I r_1_6)), (4, .box [I t0.fOp, I t0.fN, .rs 3, .rs 10]), (10, .arr (List.map GTerm_O out_6))])
mutual
def impl_copyTerm (t0 : GTerm) : Option (GTerm) :=
  (slices_Clone_int t0.fType) >>= fun r_1_6 =>
  (impl_copyTerm_l0 (t0, r_1_6, [], 0)) >>= fun out_6 =>
  some (GTerm.mk t0.fOp t0.fN r_1_6 out_6)
 partial_fixpoint
def impl_copyTerm_l0 (p : GTerm × (List Int) × (List GTerm) × Int) : Option ((List GTerm)) :=
 match p with
 | (t0, r_1_6, out_4, w_2) =>
  if (decide (w_2 < (t0.fKids.length : Int))) = true then
   (idx t0.fKids w_2) >>= fun e_4_0 =>
   (impl_copyTerm e_4_0) >>= fun r_5_3 =>
   (fits (out_4.length + [r_5_3].length) 64) >>= fun _ =>
   impl_copyTerm_l0 (t0, r_1_6, (out_4 ++ [r_5_3]), (wr (w_2 + 1)))
  else
   some (out_4)
 partial_fixpoint
end
def M_impl_copyTerm (t0 : GTerm) (r : GTerm) : Prop :=
 FnSound Try.prog 63 [aTerm t0] (qTerm r) []
def M_impl_copyTerm_l0 (p : GTerm × (List Int) × (List GTerm) × Int) (fl : (List GTerm)) : Prop :=
 match p with
 | (t0, r_1_6, out_4, w_2) => ∀ c : Ctx, c.nt = 30 → WpL Try.prog c (cl (cl (cr (cl (cr (cr B63)))))) (impl_copyTerm_F1 c t0 r_1_6 fl) (mkS [(2, .ra 2 0), (3, .ra 4 0), (15, .sl (List.map GTerm_S t0.fKids)), (16, I (t0.fKids.length : Int)), (17, I w_2)] [(2, .box [I 0, I 0, .nils, .nils]), (3, .arr (List.map I r_1_6)), (4, .box [I t0.fOp, I t0.fN, .rs 3, .rs 10]), (10, .arr (List.map GTerm_O out_4))])
theorem impl_copyTerm_all : (∀ p r, impl_copyTerm p = some r → M_impl_copyTerm p r) ∧ (∀ p r, impl_copyTerm_l0 p = some r → M_impl_copyTerm_l0 p r) := by
 refine impl_copyTerm.mutual_partial_correctness M_impl_copyTerm M_impl_copyTerm_l0 ?_ ?_
 ·rintro impl_copyTerm_l0_f impl_copyTerm_l0_ih t0 r h
  show FnSound Try.prog 63 [aTerm t0] (qTerm r) []
  refine FnSound.body0 tiok (fn := Try.f63) (code := B63) (by kernel_rfl) (by kernel_rfl) (by kernel_rfl) (by kernel_rfl) (nt := 30) (by kernel_rfl) (by kernel_rfl) (T := [(0, aTerm t0)]) (O := []) (by kernel_rfl) (by kernel_rfl) (fun c hc => ?_)
  refine sN ?_
  refine rg hc none [some (.new 1), some (.new 2)] [(1, .ra 1 0), (2, .ra 2 0)] [(1, bTerm t0), (2, .box [I 0, I 0, .nils, .nils])] trivial ?_
  refine seqQ_norm ?_
  refine sN ?_
  obtain ⟨r_1_6, hr_1_6, h⟩ := bsome h
  refine rg hc ah4_0 [oN, oN, oN, oN, oN, oN, some (.call (.osl (List.map I r_1_6)) [] 3), oN, some (.new 4), oN] [(1, .ra 1 0), (2, .ra 2 0), (3, .ra 4 0)] [(1, bTerm t0), (2, .box [I 0, I 0, .nils, .nils]), (3, .arr (List.map I r_1_6)), (4, .box [I t0.fOp, I t0.fN, .rs 3, .nils])] (ai (slices_Clone_int_s _ _ hr_1_6) (ai bod_102 (ai (oi (.osl (List.map I r_1_6))) trivial))) ?_
  refine seqQ_norm ?_
  refine sN ?_
  refine sN ?_
  refine rg hc none [oN, oN, some (.eqv (.no) ⟨[(16, I (t0.fKids.length : Int))], [], []⟩), oN] [(2, .ra 2 0), (3, .ra 4 0), (15, .sl (List.map GTerm_S t0.fKids)), (16, I (t0.fKids.length : Int)), (17, I 0)] [(2, .box [I 0, I 0, .nils, .nils]), (3, .arr (List.map I r_1_6)), (4, .box [I t0.fOp, I t0.fN, .rs 3, .nils])] (ai (lenT (d := 16) GTerm_S t0.fKids) trivial) ?_
  refine seqQ_norm ?_
  refine Wp.blockN (i := 0) (by kernel_rfl) ?_
  obtain ⟨out_6, hl_7, h⟩ := bsome h
  have hL := impl_copyTerm_l0_ih _ _ hl_7 c hc
  refine Wp.loopN (by kernel_rfl) (WpL.view (fun a w hv => SRx.renL [(10, 21)] (SRx.nilBL 4 3 21 [I t0.fOp, I t0.fN, .rs 3, .nils] hv (by kernel_rfl) (by kernel_rfl) (by kernel_rfl)) (by kernel_rfl) (by kernel_rfl) (by kernel_rfl)) (?_ : WpL _ c _ _ (mkS [(2, .ra 2 0), (3, .ra 4 0), (15, .sl (List.map GTerm_S t0.fKids)), (16, I (t0.fKids.length : Int)), (17, I 0)] [(2, .box [I 0, I 0, .nils, .nils]), (3, .arr (List.map I r_1_6)), (4, .box [I t0.fOp, I t0.fN, .rs 3, .rs 10]), (10, .arr (List.map GTerm_O []))])))
  ·refine WpL.into (e := (.exit 0)) (mkS [(2, .ra 2 0), (3, .ra 4 0)] [(2, .box [I 0, I 0, .nils, .nils]), (3, .arr (List.map I r_1_6)), (4, .box [I t0.fOp, I t0.fN, .rs 3, .rs 10]), (10, .arr (List.map GTerm_O out_6))]) hL ?_
   refine blockQ_hit ?_
   refine seqQ_norm ?_
   refine sN ?_
   refine rg0 hc 2 [(2, .ra 2 0)] [(2, .box [I t0.fOp, I t0.fN, .rs 3, .rs 10]), (3, .arr (List.map I r_1_6)), (10, .arr (List.map GTerm_O out_6))] ?_
   refine seqQ_norm ?_
   refine Wp.retN (by kernel_rfl) ?_
   obtain rfl := Option.some.inj h
   exact RetQ.ret (fl := [true]) (by kernel_rfl)
 ·rintro impl_copyTerm_f impl_copyTerm_l0_f impl_copyTerm_ih impl_copyTerm_l0_ih ⟨t0, r_1_6, out_4, w_2⟩ r h
  intro c hc
  show WpL Try.prog c (cl (cl (cr (cl (cr (cr B63)))))) (impl_copyTerm_F1 c t0 r_1_6 r) (mkS [(2, .ra 2 0), (3, .ra 4 0), (15, .sl (List.map GTerm_S t0.fKids)), (16, I (t0.fKids.length : Int)), (17, I w_2)] [(2, .box [I 0, I 0, .nils, .nils]), (3, .arr (List.map I r_1_6)), (4, .box [I t0.fOp, I t0.fN, .rs 3, .rs 10]), (10, .arr (List.map GTerm_O out_4))])
  refine WpL.step ?_
  refine sN ?_
  refine rg0 hc 1 [(2, .ra 2 0), (3, .ra 4 0), (15, .sl (List.map GTerm_S t0.fKids)), (16, I (t0.fKids.length : Int)), (17, I w_2), (18, .bool (decide (w_2 < (t0.fKids.length : Int))))] [(2, .box [I 0, I 0, .nils, .nils]), (3, .arr (List.map I r_1_6)), (4, .box [I t0.fOp, I t0.fN, .rs 3, .rs 10]), (10, .arr (List.map GTerm_O out_4))] ?_
  refine seqQ_norm ?_
  refine sN ?_
  rcases itesome h with ⟨hb_5, h⟩ | ⟨hb_5, h⟩
  ·refine cT ((decide (w_2 < (t0.fKids.length : Int)))) hb_5 ?_
   refine Wp.skipN (by kernel_rfl) ?_
   refine seqQ_norm ?_
   refine sN ?_
   refine Wp.blockN (i := 1) (by kernel_rfl) ?_
   refine sN ?_
   obtain ⟨e_4_0, hi_4_0, h⟩ := bsome h
   refine rg hc none [some (.el (aTerm e_4_0)), oN, some (.new 16), oN] [(2, .ra 2 0), (3, .ra 4 0), (5, .ra 16 0), (15, .sl (List.map GTerm_S t0.fKids)), (16, I (t0.fKids.length : Int)), (17, I w_2)] [(2, .box [I 0, I 0, .nils, .nils]), (3, .arr (List.map I r_1_6)), (4, .box [I t0.fOp, I t0.fN, .rs 3, .rs 10]), (10, .arr (List.map GTerm_O out_4)), (16, bTerm e_4_0)] (ai (idx_sl (enc := GTerm_S) (x := aTerm e_4_0) hi_4_0 (eq_GTerm_S e_4_0)) trivial) ?_
   refine seqQ_norm ?_
   obtain ⟨r_5_3, hr_5_3, h⟩ := bsome h
   obtain ⟨_, hk_5_5, h⟩ := bsome h
   refine rg hc (rx [[0], [1], [0], [0, 2], [0, 2, 3], [5], [6], [7]]) [oN, oN, oN, some (.call (qTerm r_5_3) [] 17), some (.eqv (.mk 19 true) ⟨[(25, .rs 19)], [(19, some (.arr (List.map GTerm_O [r_5_3]))), (17, none), (18, none)], [19]⟩), some (.eqv (.mk 20 true) ⟨[(26, .rs 20)], [(20, some (.arr (List.map GTerm_O (out_4 ++ [r_5_3])))), (10, none), (19, none)], [20]⟩), oN, oN] [(2, .ra 2 0), (3, .ra 4 0), (15, .sl (List.map GTerm_S t0.fKids)), (16, I (t0.fKids.length : Int)), (17, I w_2)] [(2, .box [I 0, I 0, .nils, .nils]), (3, .arr (List.map I r_1_6)), (4, .box [I t0.fOp, I t0.fN, .rs 3, .rs 20]), (20, .arr (List.map GTerm_O (out_4 ++ [r_5_3])))] (ai (impl_copyTerm_ih _ _ hr_5_3) (ai bod_63 (ai (oi (qTerm r_5_3)) (ai (congrArg (fun z => (⟨[(25, .rs 19)], [(19, some (.arr z)), (17, none), (18, none)], [19]⟩ : Wr)) ((rows1 (eq_GTerm_O r_5_3) rows0) : [AV.agg [I r_5_3.fOp, I r_5_3.fN, AV.osl (List.map I r_5_3.fType), AV.osl (List.map GTerm_O r_5_3.fKids)]] = List.map GTerm_O [r_5_3])) (ai (congrArg (fun z => (⟨[(26, .rs 20)], [(20, some (.arr z)), (10, none), (19, none)], [20]⟩ : Wr)) ((List.map_append).symm : (List.map GTerm_O out_4) ++ (List.map GTerm_O [r_5_3]) = List.map GTerm_O (out_4 ++ [r_5_3]))) (ai (app_ob (enc1 := GTerm_O) (enc2 := GTerm_O) (e1 := out_4) (e2 := [r_5_3]) (sz := 4) ek_GTerm_O ek_GTerm_O hk_5_5) trivial)))))) ?_
   refine blockQ_norm ?_
   refine seqQ_norm ?_
   refine rg0 hc 2 [(2, .ra 2 0), (3, .ra 4 0), (15, .sl (List.map GTerm_S t0.fKids)), (16, I (t0.fKids.length : Int)), (17, I (wr (w_2 + 1)))] [(2, .box [I 0, I 0, .nils, .nils]), (3, .arr (List.map I r_1_6)), (4, .box [I t0.fOp, I t0.fN, .rs 3, .rs 20]), (20, .arr (List.map GTerm_O (out_4 ++ [r_5_3])))] ?_
   refine loopQ_norm ?_
   exact WpL.view (fun a w hv => SRx.renL [(10, 20)] hv (by kernel_rfl) (by kernel_rfl) (by kernel_rfl)) (impl_copyTerm_l0_ih _ _ h c hc)
  ·refine cF ((decide (w_2 < (t0.fKids.length : Int)))) hb_5 ?_
   refine Wp.exitN (i := 0) (by kernel_rfl) ?_
   refine seqQ_exit ?_
   refine loopQ_exit ?_
   obtain rfl := Option.some.inj h
   exact Into.view (fun a w hv => SRx.renL [] hv (by kernel_rfl) (by kernel_rfl) (by kernel_rfl))
theorem impl_copyTerm_s : ∀ p r, impl_copyTerm p = some r → M_impl_copyTerm p r := impl_copyTerm_all.1
theorem impl_copyTerm_l0_s : ∀ p r, impl_copyTerm_l0 p = some r → M_impl_copyTerm_l0 p r := impl_copyTerm_all.2
def impl_shifted_c1 (p : GTerm × Int × Int × Int) : Option (GTerm) :=
 match p with
 | (v0, deep1, cap0, cap1) =>
  (
   if (decide ((wr (v0.fN - deep1)) ≥ cap0)) = true then
    some ((wr (v0.fN + cap1)))
   else
    some (v0.fN)
  ) >>= fun v_2 =>
  (impl_copyTerm (GTerm.mk v0.fOp v_2 v0.fType v0.fKids)) >>= fun r_3_1 =>
  some r_3_1
def M_impl_shifted_c1 (p : GTerm × Int × Int × Int) (r : GTerm) : Prop :=
 match p with
 | (v0, deep1, cap0, cap1) => FnSound Try.prog 145 [aTerm v0, I deep1, .ptr [I cap0] 0, .ptr [I cap1] 0] (qTerm r) []
theorem impl_shifted_c1_s : ∀ p r, impl_shifted_c1 p = some r → M_impl_shifted_c1 p r := by
 rintro ⟨v0, deep1, cap0, cap1⟩ r h
 unfold impl_shifted_c1 at h
 show FnSound Try.prog 145 [aTerm v0, I deep1, .ptr [I cap0] 0, .ptr [I cap1] 0] (qTerm r) []
 refine FnSound.body0 tiok (fn := Try.f145) (code := B145) (by kernel_rfl) (by kernel_rfl) (by kernel_rfl) (by kernel_rfl) (nt := 20) (by kernel_rfl) (by kernel_rfl) (T := [(0, aTerm v0), (1, I deep1), (2, .ptr [I cap0] 0), (3, .ptr [I cap1] 0)]) (O := []) (by kernel_rfl) (by kernel_rfl) (fun c hc => ?_)
 refine sN ?_
 refine rg hc none [some (.new 1), some (.new 2)] [(1, I deep1), (2, .ptr [I cap0] 0), (3, .ptr [I cap1] 0), (4, .ra 1 0), (6, .ra 2 0)] [(1, bTerm v0), (2, .box [I 0, I 0, .nils, .nils])] trivial ?_
 refine seqQ_norm ?_
 refine sN ?_
 refine sN ?_
 refine rg0 hc 6 [(3, .ptr [I cap1] 0), (4, .ra 1 0), (6, .ra 2 0), (12, .bool (decide ((wr (v0.fN - deep1)) ≥ cap0)))] [(1, bTerm v0), (2, .box [I 0, I 0, .nils, .nils])] ?_
 refine seqQ_norm ?_
 obtain ⟨v_2, hj_3, h⟩ := bsome h
 refine Wp.into (x := .normal) (mkS [(4, .ra 1 0), (6, .ra 2 0)] [(1, .box [I v0.fOp, I v_2, sI v0.fType, .sl (List.map GTerm_S v0.fKids)]), (2, .box [I 0, I 0, .nils, .nils])]) ?_ ?_
 ·replace h := hj_3
  rcases itesome h with ⟨hb_1, h⟩ | ⟨hb_1, h⟩
  ·refine cT ((decide ((wr (v0.fN - deep1)) ≥ cap0))) hb_1 ?_
   refine rg0 hc 6 [(4, .ra 1 0), (6, .ra 2 0)] [(1, .box [I v0.fOp, I (wr (v0.fN + cap1)), sI v0.fType, .sl (List.map GTerm_S v0.fKids)]), (2, .box [I 0, I 0, .nils, .nils])] ?_
   obtain rfl := Option.some.inj h
   exact Into.mk
  ·refine cF ((decide ((wr (v0.fN - deep1)) ≥ cap0))) hb_1 ?_
   refine Wp.skipN (by kernel_rfl) ?_
   obtain rfl := Option.some.inj h
   exact Into.view (fun a w hv => SRx.renL [] hv (by kernel_rfl) (by kernel_rfl) (by kernel_rfl))
 ·clear hj_3
  refine seqQ_norm ?_
  refine sN ?_
  obtain ⟨r_3_1, hr_3_1, h⟩ := bsome h
  refine rg hc none [oN, some (.call (qTerm r_3_1) [] 3), oN] [(6, .ra 2 0)] [(2, .box [I r_3_1.fOp, I r_3_1.fN, .rs 3, .rs 4]), (3, .arr (List.map I r_3_1.fType)), (4, .arr (List.map GTerm_O r_3_1.fKids))] (ai (impl_copyTerm_s _ _ hr_3_1) (ai bod_63 (ai (oi (qTerm r_3_1)) trivial))) ?_
  refine seqQ_norm ?_
  refine Wp.retN (by kernel_rfl) ?_
  obtain rfl := Option.some.inj h
  exact RetQ.ret (fl := [true]) (by kernel_rfl)
def impl_renamed_Kimpl_shifted_c1_F1 (c : Ctx) (t0 : GTerm) (r_3_6 : List Int) : (List GTerm) → Exit → AState → Prop
 | out_7 => Into c (.exit 0) (mkS [(6, .ra 2 0), (7, .ra 6 0)] [(2, .box [I 0, I 0, .nils, .nils]), (5, .arr (List.map I r_3_6)), (6, .box [I t0.fOp, I t0.fN, .rs 5, .rs 12]), (12, .arr (List.map GTerm_O out_7))])
mutual
def impl_renamed_Kimpl_shifted_c1 (p : GTerm × Int × Int × Int) : Option (GTerm) :=
 match p with
 | (t0, deep1, clo2_0, clo2_1) =>
  if (t0.fOp == 0) = true then
   (impl_shifted_c1 (t0, deep1, clo2_0, clo2_1)) >>= fun r_2_3 =>
   some r_2_3
  else
   (slices_Clone_int t0.fType) >>= fun r_3_6 =>
   (impl_renamed_Kimpl_shifted_c1_l0 (t0, deep1, clo2_0, clo2_1, r_3_6, [], 0)) >>= fun out_7 =>
   some (GTerm.mk t0.fOp t0.fN r_3_6 out_7)
 partial_fixpoint
def impl_renamed_Kimpl_shifted_c1_l0 (p : GTerm × Int × Int × Int × (List Int) × (List GTerm) × Int) : Option ((List GTerm)) :=
 match p with
 | (t0, deep1, clo2_0, clo2_1, r_3_6, out_5, w_3) =>
  if (decide (w_3 < (t0.fKids.length : Int))) = true then
   (idx t0.fKids w_3) >>= fun e_6_1 =>
   (impl_adds (t0.fOp, w_3)) >>= fun r_7_7 =>
   (impl_renamed_Kimpl_shifted_c1 (e_6_1, (wr (deep1 + r_7_7)), clo2_0, clo2_1)) >>= fun r_7_10 =>
   (fits (out_5.length + [r_7_10].length) 64) >>= fun _ =>
   impl_renamed_Kimpl_shifted_c1_l0 (t0, deep1, clo2_0, clo2_1, r_3_6, (out_5 ++ [r_7_10]), (wr (w_3 + 1)))
  else
   some (out_5)
 partial_fixpoint
end
def M_impl_renamed_Kimpl_shifted_c1 (p : GTerm × Int × Int × Int) (r : GTerm) : Prop :=
 match p with
 | (t0, deep1, clo2_0, clo2_1) => FnSound Try.prog 143 [aTerm t0, I deep1, .fn 145 [.ptr [I clo2_0] 0, .ptr [I clo2_1] 0]] (qTerm r) []
def M_impl_renamed_Kimpl_shifted_c1_l0 (p : GTerm × Int × Int × Int × (List Int) × (List GTerm) × Int) (fl : (List GTerm)) : Prop :=
 match p with
 | (t0, deep1, clo2_0, clo2_1, r_3_6, out_5, w_3) => ∀ c : Ctx, c.nt = 49 → WpL Try.prog c (cl (cl (cr (cl (cr (cr (cr B143))))))) (impl_renamed_Kimpl_shifted_c1_F1 c t0 r_3_6 fl) (mkS [(1, I deep1), (2, .fn 145 [.ptr [I clo2_0] 0, .ptr [I clo2_1] 0]), (3, .ra 1 0), (6, .ra 2 0), (7, .ra 6 0), (26, .sl (List.map GTerm_S t0.fKids)), (27, I (t0.fKids.length : Int)), (28, I w_3)] [(1, bTerm t0), (2, .box [I 0, I 0, .nils, .nils]), (5, .arr (List.map I r_3_6)), (6, .box [I t0.fOp, I t0.fN, .rs 5, .rs 12]), (12, .arr (List.map GTerm_O out_5))])
theorem impl_renamed_Kimpl_shifted_c1_all : (∀ p r, impl_renamed_Kimpl_shifted_c1 p = some r → M_impl_renamed_Kimpl_shifted_c1 p r) ∧ (∀ p r, impl_renamed_Kimpl_shifted_c1_l0 p = some r → M_impl_renamed_Kimpl_shifted_c1_l0 p r) := by
 refine impl_renamed_Kimpl_shifted_c1.mutual_partial_correctness M_impl_renamed_Kimpl_shifted_c1 M_impl_renamed_Kimpl_shifted_c1_l0 ?_ ?_
 ·rintro impl_renamed_Kimpl_shifted_c1_l0_f impl_renamed_Kimpl_shifted_c1_l0_ih ⟨t0, deep1, clo2_0, clo2_1⟩ r h
  show FnSound Try.prog 143 [aTerm t0, I deep1, .fn 145 [.ptr [I clo2_0] 0, .ptr [I clo2_1] 0]] (qTerm r) []
  refine FnSound.body0 tiok (fn := Try.f143) (code := B143) (by kernel_rfl) (by kernel_rfl) (by kernel_rfl) (by kernel_rfl) (nt := 49) (by kernel_rfl) (by kernel_rfl) (T := [(0, aTerm t0), (1, I deep1), (2, .fn 145 [.ptr [I clo2_0] 0, .ptr [I clo2_1] 0])]) (O := []) (by kernel_rfl) (by kernel_rfl) (fun c hc => ?_)
  refine sN ?_
  refine rg hc none [some (.new 1), some (.new 2)] [(1, I deep1), (2, .fn 145 [.ptr [I clo2_0] 0, .ptr [I clo2_1] 0]), (3, .ra 1 0), (6, .ra 2 0)] [(1, bTerm t0), (2, .box [I 0, I 0, .nils, .nils])] trivial ?_
  refine seqQ_norm ?_
  refine sN ?_
  refine sN ?_
  refine rg0 hc 3 [(1, I deep1), (2, .fn 145 [.ptr [I clo2_0] 0, .ptr [I clo2_1] 0]), (3, .ra 1 0), (6, .ra 2 0), (12, .bool (t0.fOp == 0))] [(1, bTerm t0), (2, .box [I 0, I 0, .nils, .nils])] ?_
  refine seqQ_norm ?_
  rcases itesome h with ⟨hb_1, h⟩ | ⟨hb_1, h⟩
  ·refine cT ((t0.fOp == 0)) hb_1 ?_
   refine sN ?_
   obtain ⟨r_2_3, hr_2_3, h⟩ := bsome h
   refine rg hc none [oN, oN, oN, some (.call (qTerm r_2_3) [] 3), oN] [(6, .ra 2 0)] [(2, .box [I r_2_3.fOp, I r_2_3.fN, .rs 3, .rs 4]), (3, .arr (List.map I r_2_3.fType)), (4, .arr (List.map GTerm_O r_2_3.fKids))] (ai (impl_shifted_c1_s _ _ hr_2_3) (ai bod_145 (ai (oi (qTerm r_2_3)) trivial))) ?_
   refine seqQ_norm ?_
   refine Wp.retN (by kernel_rfl) ?_
   refine seqQ_ret ?_
   obtain rfl := Option.some.inj h
   exact RetQ.ret (fl := [true]) (by kernel_rfl)
  ·refine cF ((t0.fOp == 0)) hb_1 ?_
   refine Wp.skipN (by kernel_rfl) ?_
   refine seqQ_norm ?_
   refine sN ?_
   obtain ⟨r_3_6, hr_3_6, h⟩ := bsome h
   refine rg hc ah4_0 [oN, oN, oN, oN, oN, oN, some (.call (.osl (List.map I r_3_6)) [] 5), oN, some (.new 6), oN] [(1, I deep1), (2, .fn 145 [.ptr [I clo2_0] 0, .ptr [I clo2_1] 0]), (3, .ra 1 0), (6, .ra 2 0), (7, .ra 6 0)] [(1, bTerm t0), (2, .box [I 0, I 0, .nils, .nils]), (5, .arr (List.map I r_3_6)), (6, .box [I t0.fOp, I t0.fN, .rs 5, .nils])] (ai (slices_Clone_int_s _ _ hr_3_6) (ai bod_102 (ai (oi (.osl (List.map I r_3_6))) trivial))) ?_
   refine seqQ_norm ?_
   refine sN ?_
   refine sN ?_
   refine rg hc none [oN, oN, some (.eqv (.no) ⟨[(27, I (t0.fKids.length : Int))], [], []⟩), oN] [(1, I deep1), (2, .fn 145 [.ptr [I clo2_0] 0, .ptr [I clo2_1] 0]), (3, .ra 1 0), (6, .ra 2 0), (7, .ra 6 0), (26, .sl (List.map GTerm_S t0.fKids)), (27, I (t0.fKids.length : Int)), (28, I 0)] [(1, bTerm t0), (2, .box [I 0, I 0, .nils, .nils]), (5, .arr (List.map I r_3_6)), (6, .box [I t0.fOp, I t0.fN, .rs 5, .nils])] (ai (lenT (d := 27) GTerm_S t0.fKids) trivial) ?_
   refine seqQ_norm ?_
   refine Wp.blockN (i := 0) (by kernel_rfl) ?_
   obtain ⟨out_7, hl_8, h⟩ := bsome h
   have hL := impl_renamed_Kimpl_shifted_c1_l0_ih _ _ hl_8 c hc
   refine Wp.loopN (by kernel_rfl) (WpL.view (fun a w hv => SRx.renL [(12, 23)] (SRx.nilBL 6 3 23 [I t0.fOp, I t0.fN, .rs 5, .nils] hv (by kernel_rfl) (by kernel_rfl) (by kernel_rfl)) (by kernel_rfl) (by kernel_rfl) (by kernel_rfl)) (?_ : WpL _ c _ _ (mkS [(1, I deep1), (2, .fn 145 [.ptr [I clo2_0] 0, .ptr [I clo2_1] 0]), (3, .ra 1 0), (6, .ra 2 0), (7, .ra 6 0), (26, .sl (List.map GTerm_S t0.fKids)), (27, I (t0.fKids.length : Int)), (28, I 0)] [(1, bTerm t0), (2, .box [I 0, I 0, .nils, .nils]), (5, .arr (List.map I r_3_6)), (6, .box [I t0.fOp, I t0.fN, .rs 5, .rs 12]), (12, .arr (List.map GTerm_O []))])))
   ·refine WpL.into (e := (.exit 0)) (mkS [(6, .ra 2 0), (7, .ra 6 0)] [(2, .box [I 0, I 0, .nils, .nils]), (5, .arr (List.map I r_3_6)), (6, .box [I t0.fOp, I t0.fN, .rs 5, .rs 12]), (12, .arr (List.map GTerm_O out_7))]) hL ?_
    refine blockQ_hit ?_
    refine seqQ_norm ?_
    refine sN ?_
    refine rg0 hc 2 [(6, .ra 2 0)] [(2, .box [I t0.fOp, I t0.fN, .rs 5, .rs 12]), (5, .arr (List.map I r_3_6)), (12, .arr (List.map GTerm_O out_7))] ?_
    refine seqQ_norm ?_
    refine Wp.retN (by kernel_rfl) ?_
    obtain rfl := Option.some.inj h
    exact RetQ.ret (fl := [true]) (by kernel_rfl)
 ·rintro impl_renamed_Kimpl_shifted_c1_f impl_renamed_Kimpl_shifted_c1_l0_f impl_renamed_Kimpl_shifted_c1_ih impl_renamed_Kimpl_shifted_c1_l0_ih ⟨t0, deep1, clo2_0, clo2_1, r_3_6, out_5, w_3⟩ r h
  intro c hc
  show WpL Try.prog c (cl (cl (cr (cl (cr (cr (cr B143))))))) (impl_renamed_Kimpl_shifted_c1_F1 c t0 r_3_6 r) (mkS [(1, I deep1), (2, .fn 145 [.ptr [I clo2_0] 0, .ptr [I clo2_1] 0]), (3, .ra 1 0), (6, .ra 2 0), (7, .ra 6 0), (26, .sl (List.map GTerm_S t0.fKids)), (27, I (t0.fKids.length : Int)), (28, I w_3)] [(1, bTerm t0), (2, .box [I 0, I 0, .nils, .nils]), (5, .arr (List.map I r_3_6)), (6, .box [I t0.fOp, I t0.fN, .rs 5, .rs 12]), (12, .arr (List.map GTerm_O out_5))])
  refine WpL.step ?_
  refine sN ?_
  refine rg0 hc 1 [(1, I deep1), (2, .fn 145 [.ptr [I clo2_0] 0, .ptr [I clo2_1] 0]), (3, .ra 1 0), (6, .ra 2 0), (7, .ra 6 0), (26, .sl (List.map GTerm_S t0.fKids)), (27, I (t0.fKids.length : Int)), (28, I w_3), (29, .bool (decide (w_3 < (t0.fKids.length : Int))))] [(1, bTerm t0), (2, .box [I 0, I 0, .nils, .nils]), (5, .arr (List.map I r_3_6)), (6, .box [I t0.fOp, I t0.fN, .rs 5, .rs 12]), (12, .arr (List.map GTerm_O out_5))] ?_
  refine seqQ_norm ?_
  refine sN ?_
  rcases itesome h with ⟨hb_6, h⟩ | ⟨hb_6, h⟩
  ·refine cT ((decide (w_3 < (t0.fKids.length : Int)))) hb_6 ?_
   refine Wp.skipN (by kernel_rfl) ?_
   refine seqQ_norm ?_
   refine sN ?_
   refine Wp.blockN (i := 1) (by kernel_rfl) ?_
   refine sN ?_
   obtain ⟨e_6_1, hi_6_1, h⟩ := bsome h
   refine rg hc none [oN, some (.el (aTerm e_6_1)), oN, some (.new 18), oN, oN] [(1, I deep1), (2, .fn 145 [.ptr [I clo2_0] 0, .ptr [I clo2_1] 0]), (3, .ra 1 0), (6, .ra 2 0), (7, .ra 6 0), (8, I w_3), (9, .ra 18 0), (26, .sl (List.map GTerm_S t0.fKids)), (27, I (t0.fKids.length : Int)), (28, I w_3)] [(1, bTerm t0), (2, .box [I 0, I 0, .nils, .nils]), (5, .arr (List.map I r_3_6)), (6, .box [I t0.fOp, I t0.fN, .rs 5, .rs 12]), (12, .arr (List.map GTerm_O out_5)), (18, bTerm e_6_1)] (ai (idx_sl (enc := GTerm_S) (x := aTerm e_6_1) hi_6_1 (eq_GTerm_S e_6_1)) trivial) ?_
   refine seqQ_norm ?_
   obtain ⟨r_7_7, hr_7_7, h⟩ := bsome h
   obtain ⟨r_7_10, hr_7_10, h⟩ := bsome h
   obtain ⟨_, hk_7_12, h⟩ := bsome h
   refine rg hc ah4_1 [oN, oN, oN, oN, oN, oN, oN, oc (I r_7_7), oN, oN, some (.call (qTerm r_7_10) [] 19), some (.eqv (.mk 21 true) ⟨[(44, .rs 21)], [(21, some (.arr (List.map GTerm_O [r_7_10]))), (19, none), (20, none)], [21]⟩), some (.eqv (.mk 22 true) ⟨[(45, .rs 22)], [(22, some (.arr (List.map GTerm_O (out_5 ++ [r_7_10])))), (12, none), (21, none)], [22]⟩), oN, oN] [(1, I deep1), (2, .fn 145 [.ptr [I clo2_0] 0, .ptr [I clo2_1] 0]), (3, .ra 1 0), (6, .ra 2 0), (7, .ra 6 0), (26, .sl (List.map GTerm_S t0.fKids)), (27, I (t0.fKids.length : Int)), (28, I w_3)] [(1, bTerm t0), (2, .box [I 0, I 0, .nils, .nils]), (5, .arr (List.map I r_3_6)), (6, .box [I t0.fOp, I t0.fN, .rs 5, .rs 22]), (22, .arr (List.map GTerm_O (out_5 ++ [r_7_10])))] (ai (impl_adds_s _ _ hr_7_7) (ai bod_150 (ai (oi (I r_7_7)) (ai (impl_renamed_Kimpl_shifted_c1_ih _ _ hr_7_10) (ai bod_143 (ai (oi (qTerm r_7_10)) (ai (congrArg (fun z => (⟨[(44, .rs 21)], [(21, some (.arr z)), (19, none), (20, none)], [21]⟩ : Wr)) ((rows1 (eq_GTerm_O r_7_10) rows0) : [AV.agg [I r_7_10.fOp, I r_7_10.fN, AV.osl (List.map I r_7_10.fType), AV.osl (List.map GTerm_O r_7_10.fKids)]] = List.map GTerm_O [r_7_10])) (ai (congrArg (fun z => (⟨[(45, .rs 22)], [(22, some (.arr z)), (12, none), (21, none)], [22]⟩ : Wr)) ((List.map_append).symm : (List.map GTerm_O out_5) ++ (List.map GTerm_O [r_7_10]) = List.map GTerm_O (out_5 ++ [r_7_10]))) (ai (app_ob (enc1 := GTerm_O) (enc2 := GTerm_O) (e1 := out_5) (e2 := [r_7_10]) (sz := 4) ek_GTerm_O ek_GTerm_O hk_7_12) trivial))))))))) ?_
   refine blockQ_norm ?_
   refine seqQ_norm ?_
   refine rg0 hc 2 [(1, I deep1), (2, .fn 145 [.ptr [I clo2_0] 0, .ptr [I clo2_1] 0]), (3, .ra 1 0), (6, .ra 2 0), (7, .ra 6 0), (26, .sl (List.map GTerm_S t0.fKids)), (27, I (t0.fKids.length : Int)), (28, I (wr (w_3 + 1)))] [(1, bTerm t0), (2, .box [I 0, I 0, .nils, .nils]), (5, .arr (List.map I r_3_6)), (6, .box [I t0.fOp, I t0.fN, .rs 5, .rs 22]), (22, .arr (List.map GTerm_O (out_5 ++ [r_7_10])))] ?_
   refine loopQ_norm ?_
   exact WpL.view (fun a w hv => SRx.renL [(12, 22)] hv (by kernel_rfl) (by kernel_rfl) (by kernel_rfl)) (impl_renamed_Kimpl_shifted_c1_l0_ih _ _ h c hc)
  ·refine cF ((decide (w_3 < (t0.fKids.length : Int)))) hb_6 ?_
   refine Wp.exitN (i := 0) (by kernel_rfl) ?_
   refine seqQ_exit ?_
   refine loopQ_exit ?_
   obtain rfl := Option.some.inj h
   exact Into.view (fun a w hv => SRx.renL [] hv (by kernel_rfl) (by kernel_rfl) (by kernel_rfl))
theorem impl_renamed_Kimpl_shifted_c1_s : ∀ p r, impl_renamed_Kimpl_shifted_c1 p = some r → M_impl_renamed_Kimpl_shifted_c1 p r := impl_renamed_Kimpl_shifted_c1_all.1
theorem impl_renamed_Kimpl_shifted_c1_l0_s : ∀ p r, impl_renamed_Kimpl_shifted_c1_l0 p = some r → M_impl_renamed_Kimpl_shifted_c1_l0 p r := impl_renamed_Kimpl_shifted_c1_all.2
def impl_shifted (p : GTerm × Int × Int) : Option (GTerm) :=
 match p with
 | (t0, by1, from2) =>
  (impl_renamed_Kimpl_shifted_c1 (t0, 0, from2, by1)) >>= fun r_1_2 =>
  some r_1_2
def M_impl_shifted (p : GTerm × Int × Int) (r : GTerm) : Prop :=
 match p with
 | (t0, by1, from2) => FnSound Try.prog 130 [aTerm t0, I by1, I from2] (qTerm r) []
theorem impl_shifted_s : ∀ p r, impl_shifted p = some r → M_impl_shifted p r := by
 rintro ⟨t0, by1, from2⟩ r h
 unfold impl_shifted at h
 show FnSound Try.prog 130 [aTerm t0, I by1, I from2] (qTerm r) []
 refine FnSound.body0 tiok (fn := Try.f130) (code := B130) (by kernel_rfl) (by kernel_rfl) (by kernel_rfl) (by kernel_rfl) (nt := 10) (by kernel_rfl) (by kernel_rfl) (T := [(0, aTerm t0), (1, I by1), (2, I from2)]) (O := []) (by kernel_rfl) (by kernel_rfl) (fun c hc => ?_)
 refine sN ?_
 refine rg hc none [some (.new 1), some (.new 2), some (.new 3), some (.new 4)] [(3, .ra 1 0), (4, .ra 2 0), (5, .ra 3 0), (6, .ra 4 0)] [(1, bTerm t0), (2, .box [I by1]), (3, .box [I from2]), (4, .box [I 0, I 0, .nils, .nils])] trivial ?_
 refine seqQ_norm ?_
 refine sN ?_
 obtain ⟨r_1_2, hr_1_2, h⟩ := bsome h
 refine rg hc none [oN, oN, some (.call (qTerm r_1_2) [] 5), oN] [(6, .ra 4 0)] [(4, .box [I r_1_2.fOp, I r_1_2.fN, .rs 5, .rs 6]), (5, .arr (List.map I r_1_2.fType)), (6, .arr (List.map GTerm_O r_1_2.fKids))] (ai (impl_renamed_Kimpl_shifted_c1_s _ _ hr_1_2) (ai bod_143 (ai (Or.inr (nsh_cons rfl (nsh_cons rfl (nsh_cons (nsh_row nsh_I r_1_2.fType) (nsh_cons (nsh_row nsh_GTerm_O r_1_2.fKids) rfl)))) : ([3, 2] : List Nat) = [] ∨ noSh (qTerm r_1_2) = true) trivial))) ?_
 refine seqQ_norm ?_
 refine Wp.retN (by kernel_rfl) ?_
 obtain rfl := Option.some.inj h
 exact RetQ.ret (fl := [true]) (by kernel_rfl)
def impl_substituted_c1 (p : GTerm × Int × Int × GTerm) : Option (GTerm) :=
 match p with
 | (v0, deep1, cap0, cap1) =>
  if ((wr (v0.fN - deep1)) == cap0) = true then
   (impl_shifted (cap1, deep1, 0)) >>= fun r_3_2 =>
   some r_3_2
  else
   (
    if (decide ((wr (v0.fN - deep1)) > cap0)) = true then
     some ((wr (v0.fN - 1)))
    else
     some (v0.fN)
   ) >>= fun v_3 =>
   (impl_copyTerm (GTerm.mk v0.fOp v_3 v0.fType v0.fKids)) >>= fun r_6_1 =>
   some r_6_1
def M_impl_substituted_c1 (p : GTerm × Int × Int × GTerm) (r : GTerm) : Prop :=
 match p with
 | (v0, deep1, cap0, cap1) => FnSound Try.prog 144 [aTerm v0, I deep1, .ptr [I cap0] 0, .ptr [I cap1.fOp, I cap1.fN, sI cap1.fType, .sl (List.map GTerm_S cap1.fKids)] 0] (qTerm r) []
theorem impl_substituted_c1_s : ∀ p r, impl_substituted_c1 p = some r → M_impl_substituted_c1 p r := by
 rintro ⟨v0, deep1, cap0, cap1⟩ r h
 unfold impl_substituted_c1 at h
 show FnSound Try.prog 144 [aTerm v0, I deep1, .ptr [I cap0] 0, .ptr [I cap1.fOp, I cap1.fN, sI cap1.fType, .sl (List.map GTerm_S cap1.fKids)] 0] (qTerm r) []
 refine FnSound.body0 tiok (fn := Try.f144) (code := B144) (by kernel_rfl) (by kernel_rfl) (by kernel_rfl) (by kernel_rfl) (nt := 29) (by kernel_rfl) (by kernel_rfl) (T := [(0, aTerm v0), (1, I deep1), (2, .ptr [I cap0] 0), (3, .ptr [I cap1.fOp, I cap1.fN, sI cap1.fType, .sl (List.map GTerm_S cap1.fKids)] 0)]) (O := []) (by kernel_rfl) (by kernel_rfl) (fun c hc => ?_)
 refine sN ?_
 refine rg hc none [some (.new 1), some (.new 2)] [(1, I deep1), (2, .ptr [I cap0] 0), (3, .ptr [I cap1.fOp, I cap1.fN, sI cap1.fType, .sl (List.map GTerm_S cap1.fKids)] 0), (4, .ra 1 0), (6, .ra 2 0)] [(1, bTerm v0), (2, .box [I 0, I 0, .nils, .nils])] trivial ?_
 refine seqQ_norm ?_
 refine sN ?_
 refine sN ?_
 refine rg0 hc 5 [(1, I deep1), (2, .ptr [I cap0] 0), (3, .ptr [I cap1.fOp, I cap1.fN, sI cap1.fType, .sl (List.map GTerm_S cap1.fKids)] 0), (4, .ra 1 0), (6, .ra 2 0), (7, I (wr (v0.fN - deep1)))] [(1, bTerm v0), (2, .box [I 0, I 0, .nils, .nils])] ?_
 refine seqQ_norm ?_
 refine Wp.blockN (i := 0) (by kernel_rfl) ?_
 refine sN ?_
 refine rg0 hc 4 [(1, I deep1), (2, .ptr [I cap0] 0), (3, .ptr [I cap1.fOp, I cap1.fN, sI cap1.fType, .sl (List.map GTerm_S cap1.fKids)] 0), (4, .ra 1 0), (6, .ra 2 0), (7, I (wr (v0.fN - deep1))), (12, .bool ((wr (v0.fN - deep1)) == cap0))] [(1, bTerm v0), (2, .box [I 0, I 0, .nils, .nils])] ?_
 refine seqQ_norm ?_
 rcases itesome h with ⟨hb_1, h⟩ | ⟨hb_1, h⟩
 ·refine cT (((wr (v0.fN - deep1)) == cap0)) hb_1 ?_
  refine sN ?_
  obtain ⟨r_3_2, hr_3_2, h⟩ := bsome h
  refine rg hc none [oN, oN, some (.call (qTerm r_3_2) [] 3), oN] [(6, .ra 2 0)] [(2, .box [I r_3_2.fOp, I r_3_2.fN, .rs 3, .rs 4]), (3, .arr (List.map I r_3_2.fType)), (4, .arr (List.map GTerm_O r_3_2.fKids))] (ai (impl_shifted_s _ _ hr_3_2) (ai bod_130 (ai (oi (qTerm r_3_2)) trivial))) ?_
  refine seqQ_norm ?_
  refine Wp.retN (by kernel_rfl) ?_
  refine blockQ_ret ?_
  refine seqQ_ret ?_
  obtain rfl := Option.some.inj h
  exact RetQ.ret (fl := [true]) (by kernel_rfl)
 ·refine cF (((wr (v0.fN - deep1)) == cap0)) hb_1 ?_
  refine sN ?_
  refine rg0 hc 4 [(4, .ra 1 0), (6, .ra 2 0), (19, .bool (decide ((wr (v0.fN - deep1)) > cap0)))] [(1, bTerm v0), (2, .box [I 0, I 0, .nils, .nils])] ?_
  refine seqQ_norm ?_
  obtain ⟨v_3, hj_4, h⟩ := bsome h
  refine Wp.into (x := .normal) (mkS [(4, .ra 1 0), (6, .ra 2 0)] [(1, .box [I v0.fOp, I v_3, sI v0.fType, .sl (List.map GTerm_S v0.fKids)]), (2, .box [I 0, I 0, .nils, .nils])]) ?_ ?_
  ·replace h := hj_4
   rcases itesome h with ⟨hb_2, h⟩ | ⟨hb_2, h⟩
   ·refine cT ((decide ((wr (v0.fN - deep1)) > cap0))) hb_2 ?_
    refine rg0 hc 5 [(4, .ra 1 0), (6, .ra 2 0)] [(1, .box [I v0.fOp, I (wr (v0.fN - 1)), sI v0.fType, .sl (List.map GTerm_S v0.fKids)]), (2, .box [I 0, I 0, .nils, .nils])] ?_
    obtain rfl := Option.some.inj h
    exact Into.mk
   ·refine cF ((decide ((wr (v0.fN - deep1)) > cap0))) hb_2 ?_
    refine Wp.skipN (by kernel_rfl) ?_
    obtain rfl := Option.some.inj h
    exact Into.view (fun a w hv => SRx.renL [] hv (by kernel_rfl) (by kernel_rfl) (by kernel_rfl))
  ·clear hj_4
   refine blockQ_norm ?_
   refine seqQ_norm ?_
   refine sN ?_
   obtain ⟨r_6_1, hr_6_1, h⟩ := bsome h
   refine rg hc none [oN, some (.call (qTerm r_6_1) [] 5), oN] [(6, .ra 2 0)] [(2, .box [I r_6_1.fOp, I r_6_1.fN, .rs 5, .rs 6]), (5, .arr (List.map I r_6_1.fType)), (6, .arr (List.map GTerm_O r_6_1.fKids))] (ai (impl_copyTerm_s _ _ hr_6_1) (ai bod_63 (ai (oi (qTerm r_6_1)) trivial))) ?_
   refine seqQ_norm ?_
   refine Wp.retN (by kernel_rfl) ?_
   obtain rfl := Option.some.inj h
   exact RetQ.ret (fl := [true]) (by kernel_rfl)
def impl_renamed_Kimpl_substituted_c1_F1 (c : Ctx) (t0 : GTerm) (r_3_6 : List Int) : (List GTerm) → Exit → AState → Prop
 | out_7 => Into c (.exit 0) (mkS [(6, .ra 2 0), (7, .ra 6 0)] [(2, .box [I 0, I 0, .nils, .nils]), (5, .arr (List.map I r_3_6)), (6, .box [I t0.fOp, I t0.fN, .rs 5, .rs 12]), (12, .arr (List.map GTerm_O out_7))])
mutual
def impl_renamed_Kimpl_substituted_c1 (p : GTerm × Int × Int × GTerm) : Option (GTerm) :=
 match p with
 | (t0, deep1, clo2_0, clo2_1) =>
  if (t0.fOp == 0) = true then
   (impl_substituted_c1 (t0, deep1, clo2_0, clo2_1)) >>= fun r_2_3 =>
   some r_2_3
  else
   (slices_Clone_int t0.fType) >>= fun r_3_6 =>
   (impl_renamed_Kimpl_substituted_c1_l0 (t0, deep1, clo2_0, clo2_1, r_3_6, [], 0)) >>= fun out_7 =>
   some (GTerm.mk t0.fOp t0.fN r_3_6 out_7)
 partial_fixpoint
def impl_renamed_Kimpl_substituted_c1_l0 (p : GTerm × Int × Int × GTerm × (List Int) × (List GTerm) × Int) : Option ((List GTerm)) :=
 match p with
 | (t0, deep1, clo2_0, clo2_1, r_3_6, out_5, w_3) =>
  if (decide (w_3 < (t0.fKids.length : Int))) = true then
   (idx t0.fKids w_3) >>= fun e_6_1 =>
   (impl_adds (t0.fOp, w_3)) >>= fun r_7_7 =>
   (impl_renamed_Kimpl_substituted_c1 (e_6_1, (wr (deep1 + r_7_7)), clo2_0, clo2_1)) >>= fun r_7_10 =>
   (fits (out_5.length + [r_7_10].length) 64) >>= fun _ =>
   impl_renamed_Kimpl_substituted_c1_l0 (t0, deep1, clo2_0, clo2_1, r_3_6, (out_5 ++ [r_7_10]), (wr (w_3 + 1)))
  else
   some (out_5)
 partial_fixpoint
end
def M_impl_renamed_Kimpl_substituted_c1 (p : GTerm × Int × Int × GTerm) (r : GTerm) : Prop :=
 match p with
 | (t0, deep1, clo2_0, clo2_1) => FnSound Try.prog 143 [aTerm t0, I deep1, .fn 144 [.ptr [I clo2_0] 0, .ptr [I clo2_1.fOp, I clo2_1.fN, sI clo2_1.fType, .sl (List.map GTerm_S clo2_1.fKids)] 0]] (qTerm r) []
def M_impl_renamed_Kimpl_substituted_c1_l0 (p : GTerm × Int × Int × GTerm × (List Int) × (List GTerm) × Int) (fl : (List GTerm)) : Prop :=
 match p with
 | (t0, deep1, clo2_0, clo2_1, r_3_6, out_5, w_3) => ∀ c : Ctx, c.nt = 49 → WpL Try.prog c (cl (cl (cr (cl (cr (cr (cr B143))))))) (impl_renamed_Kimpl_substituted_c1_F1 c t0 r_3_6 fl) (mkS [(1, I deep1), (2, .fn 144 [.ptr [I clo2_0] 0, .ptr [I clo2_1.fOp, I clo2_1.fN, sI clo2_1.fType, .sl (List.map GTerm_S clo2_1.fKids)] 0]), (3, .ra 1 0), (6, .ra 2 0), (7, .ra 6 0), (26, .sl (List.map GTerm_S t0.fKids)), (27, I (t0.fKids.length : Int)), (28, I w_3)] [(1, bTerm t0), (2, .box [I 0, I 0, .nils, .nils]), (5, .arr (List.map I r_3_6)), (6, .box [I t0.fOp, I t0.fN, .rs 5, .rs 12]), (12, .arr (List.map GTerm_O out_5))])
theorem impl_renamed_Kimpl_substituted_c1_all : (∀ p r, impl_renamed_Kimpl_substituted_c1 p = some r → M_impl_renamed_Kimpl_substituted_c1 p r) ∧ (∀ p r, impl_renamed_Kimpl_substituted_c1_l0 p = some r → M_impl_renamed_Kimpl_substituted_c1_l0 p r) := by
 refine impl_renamed_Kimpl_substituted_c1.mutual_partial_correctness M_impl_renamed_Kimpl_substituted_c1 M_impl_renamed_Kimpl_substituted_c1_l0 ?_ ?_
 ·rintro impl_renamed_Kimpl_substituted_c1_l0_f impl_renamed_Kimpl_substituted_c1_l0_ih ⟨t0, deep1, clo2_0, clo2_1⟩ r h
  show FnSound Try.prog 143 [aTerm t0, I deep1, .fn 144 [.ptr [I clo2_0] 0, .ptr [I clo2_1.fOp, I clo2_1.fN, sI clo2_1.fType, .sl (List.map GTerm_S clo2_1.fKids)] 0]] (qTerm r) []
  refine FnSound.body0 tiok (fn := Try.f143) (code := B143) (by kernel_rfl) (by kernel_rfl) (by kernel_rfl) (by kernel_rfl) (nt := 49) (by kernel_rfl) (by kernel_rfl) (T := [(0, aTerm t0), (1, I deep1), (2, .fn 144 [.ptr [I clo2_0] 0, .ptr [I clo2_1.fOp, I clo2_1.fN, sI clo2_1.fType, .sl (List.map GTerm_S clo2_1.fKids)] 0])]) (O := []) (by kernel_rfl) (by kernel_rfl) (fun c hc => ?_)
  refine sN ?_
  refine rg hc none [some (.new 1), some (.new 2)] [(1, I deep1), (2, .fn 144 [.ptr [I clo2_0] 0, .ptr [I clo2_1.fOp, I clo2_1.fN, sI clo2_1.fType, .sl (List.map GTerm_S clo2_1.fKids)] 0]), (3, .ra 1 0), (6, .ra 2 0)] [(1, bTerm t0), (2, .box [I 0, I 0, .nils, .nils])] trivial ?_
  refine seqQ_norm ?_
  refine sN ?_
  refine sN ?_
  refine rg0 hc 3 [(1, I deep1), (2, .fn 144 [.ptr [I clo2_0] 0, .ptr [I clo2_1.fOp, I clo2_1.fN, sI clo2_1.fType, .sl (List.map GTerm_S clo2_1.fKids)] 0]), (3, .ra 1 0), (6, .ra 2 0), (12, .bool (t0.fOp == 0))] [(1, bTerm t0), (2, .box [I 0, I 0, .nils, .nils])] ?_
  refine seqQ_norm ?_
  rcases itesome h with ⟨hb_1, h⟩ | ⟨hb_1, h⟩
  ·refine cT ((t0.fOp == 0)) hb_1 ?_
   refine sN ?_
   obtain ⟨r_2_3, hr_2_3, h⟩ := bsome h
   refine rg hc none [oN, oN, oN, some (.call (qTerm r_2_3) [] 3), oN] [(6, .ra 2 0)] [(2, .box [I r_2_3.fOp, I r_2_3.fN, .rs 3, .rs 4]), (3, .arr (List.map I r_2_3.fType)), (4, .arr (List.map GTerm_O r_2_3.fKids))] (ai (impl_substituted_c1_s _ _ hr_2_3) (ai bod_144 (ai (oi (qTerm r_2_3)) trivial))) ?_
   refine seqQ_norm ?_
   refine Wp.retN (by kernel_rfl) ?_
   refine seqQ_ret ?_
   obtain rfl := Option.some.inj h
   exact RetQ.ret (fl := [true]) (by kernel_rfl)
  ·refine cF ((t0.fOp == 0)) hb_1 ?_
   refine Wp.skipN (by kernel_rfl) ?_
   refine seqQ_norm ?_
   refine sN ?_
   obtain ⟨r_3_6, hr_3_6, h⟩ := bsome h
   refine rg hc ah4_0 [oN, oN, oN, oN, oN, oN, some (.call (.osl (List.map I r_3_6)) [] 5), oN, some (.new 6), oN] [(1, I deep1), (2, .fn 144 [.ptr [I clo2_0] 0, .ptr [I clo2_1.fOp, I clo2_1.fN, sI clo2_1.fType, .sl (List.map GTerm_S clo2_1.fKids)] 0]), (3, .ra 1 0), (6, .ra 2 0), (7, .ra 6 0)] [(1, bTerm t0), (2, .box [I 0, I 0, .nils, .nils]), (5, .arr (List.map I r_3_6)), (6, .box [I t0.fOp, I t0.fN, .rs 5, .nils])] (ai (slices_Clone_int_s _ _ hr_3_6) (ai bod_102 (ai (oi (.osl (List.map I r_3_6))) trivial))) ?_
   refine seqQ_norm ?_
   refine sN ?_
   refine sN ?_
   refine rg hc none [oN, oN, some (.eqv (.no) ⟨[(27, I (t0.fKids.length : Int))], [], []⟩), oN] [(1, I deep1), (2, .fn 144 [.ptr [I clo2_0] 0, .ptr [I clo2_1.fOp, I clo2_1.fN, sI clo2_1.fType, .sl (List.map GTerm_S clo2_1.fKids)] 0]), (3, .ra 1 0), (6, .ra 2 0), (7, .ra 6 0), (26, .sl (List.map GTerm_S t0.fKids)), (27, I (t0.fKids.length : Int)), (28, I 0)] [(1, bTerm t0), (2, .box [I 0, I 0, .nils, .nils]), (5, .arr (List.map I r_3_6)), (6, .box [I t0.fOp, I t0.fN, .rs 5, .nils])] (ai (lenT (d := 27) GTerm_S t0.fKids) trivial) ?_
   refine seqQ_norm ?_
   refine Wp.blockN (i := 0) (by kernel_rfl) ?_
   obtain ⟨out_7, hl_8, h⟩ := bsome h
   have hL := impl_renamed_Kimpl_substituted_c1_l0_ih _ _ hl_8 c hc
   refine Wp.loopN (by kernel_rfl) (WpL.view (fun a w hv => SRx.renL [(12, 23)] (SRx.nilBL 6 3 23 [I t0.fOp, I t0.fN, .rs 5, .nils] hv (by kernel_rfl) (by kernel_rfl) (by kernel_rfl)) (by kernel_rfl) (by kernel_rfl) (by kernel_rfl)) (?_ : WpL _ c _ _ (mkS [(1, I deep1), (2, .fn 144 [.ptr [I clo2_0] 0, .ptr [I clo2_1.fOp, I clo2_1.fN, sI clo2_1.fType, .sl (List.map GTerm_S clo2_1.fKids)] 0]), (3, .ra 1 0), (6, .ra 2 0), (7, .ra 6 0), (26, .sl (List.map GTerm_S t0.fKids)), (27, I (t0.fKids.length : Int)), (28, I 0)] [(1, bTerm t0), (2, .box [I 0, I 0, .nils, .nils]), (5, .arr (List.map I r_3_6)), (6, .box [I t0.fOp, I t0.fN, .rs 5, .rs 12]), (12, .arr (List.map GTerm_O []))])))
   ·refine WpL.into (e := (.exit 0)) (mkS [(6, .ra 2 0), (7, .ra 6 0)] [(2, .box [I 0, I 0, .nils, .nils]), (5, .arr (List.map I r_3_6)), (6, .box [I t0.fOp, I t0.fN, .rs 5, .rs 12]), (12, .arr (List.map GTerm_O out_7))]) hL ?_
    refine blockQ_hit ?_
    refine seqQ_norm ?_
    refine sN ?_
    refine rg0 hc 2 [(6, .ra 2 0)] [(2, .box [I t0.fOp, I t0.fN, .rs 5, .rs 12]), (5, .arr (List.map I r_3_6)), (12, .arr (List.map GTerm_O out_7))] ?_
    refine seqQ_norm ?_
    refine Wp.retN (by kernel_rfl) ?_
    obtain rfl := Option.some.inj h
    exact RetQ.ret (fl := [true]) (by kernel_rfl)
 ·rintro impl_renamed_Kimpl_substituted_c1_f impl_renamed_Kimpl_substituted_c1_l0_f impl_renamed_Kimpl_substituted_c1_ih impl_renamed_Kimpl_substituted_c1_l0_ih ⟨t0, deep1, clo2_0, clo2_1, r_3_6, out_5, w_3⟩ r h
  intro c hc
  show WpL Try.prog c (cl (cl (cr (cl (cr (cr (cr B143))))))) (impl_renamed_Kimpl_substituted_c1_F1 c t0 r_3_6 r) (mkS [(1, I deep1), (2, .fn 144 [.ptr [I clo2_0] 0, .ptr [I clo2_1.fOp, I clo2_1.fN, sI clo2_1.fType, .sl (List.map GTerm_S clo2_1.fKids)] 0]), (3, .ra 1 0), (6, .ra 2 0), (7, .ra 6 0), (26, .sl (List.map GTerm_S t0.fKids)), (27, I (t0.fKids.length : Int)), (28, I w_3)] [(1, bTerm t0), (2, .box [I 0, I 0, .nils, .nils]), (5, .arr (List.map I r_3_6)), (6, .box [I t0.fOp, I t0.fN, .rs 5, .rs 12]), (12, .arr (List.map GTerm_O out_5))])
  refine WpL.step ?_
  refine sN ?_
  refine rg0 hc 1 [(1, I deep1), (2, .fn 144 [.ptr [I clo2_0] 0, .ptr [I clo2_1.fOp, I clo2_1.fN, sI clo2_1.fType, .sl (List.map GTerm_S clo2_1.fKids)] 0]), (3, .ra 1 0), (6, .ra 2 0), (7, .ra 6 0), (26, .sl (List.map GTerm_S t0.fKids)), (27, I (t0.fKids.length : Int)), (28, I w_3), (29, .bool (decide (w_3 < (t0.fKids.length : Int))))] [(1, bTerm t0), (2, .box [I 0, I 0, .nils, .nils]), (5, .arr (List.map I r_3_6)), (6, .box [I t0.fOp, I t0.fN, .rs 5, .rs 12]), (12, .arr (List.map GTerm_O out_5))] ?_
  refine seqQ_norm ?_
  refine sN ?_
  rcases itesome h with ⟨hb_6, h⟩ | ⟨hb_6, h⟩
  ·refine cT ((decide (w_3 < (t0.fKids.length : Int)))) hb_6 ?_
   refine Wp.skipN (by kernel_rfl) ?_
   refine seqQ_norm ?_
   refine sN ?_
   refine Wp.blockN (i := 1) (by kernel_rfl) ?_
   refine sN ?_
   obtain ⟨e_6_1, hi_6_1, h⟩ := bsome h
   refine rg hc none [oN, some (.el (aTerm e_6_1)), oN, some (.new 18), oN, oN] [(1, I deep1), (2, .fn 144 [.ptr [I clo2_0] 0, .ptr [I clo2_1.fOp, I clo2_1.fN, sI clo2_1.fType, .sl (List.map GTerm_S clo2_1.fKids)] 0]), (3, .ra 1 0), (6, .ra 2 0), (7, .ra 6 0), (8, I w_3), (9, .ra 18 0), (26, .sl (List.map GTerm_S t0.fKids)), (27, I (t0.fKids.length : Int)), (28, I w_3)] [(1, bTerm t0), (2, .box [I 0, I 0, .nils, .nils]), (5, .arr (List.map I r_3_6)), (6, .box [I t0.fOp, I t0.fN, .rs 5, .rs 12]), (12, .arr (List.map GTerm_O out_5)), (18, bTerm e_6_1)] (ai (idx_sl (enc := GTerm_S) (x := aTerm e_6_1) hi_6_1 (eq_GTerm_S e_6_1)) trivial) ?_
   refine seqQ_norm ?_
   obtain ⟨r_7_7, hr_7_7, h⟩ := bsome h
   obtain ⟨r_7_10, hr_7_10, h⟩ := bsome h
   obtain ⟨_, hk_7_12, h⟩ := bsome h
   refine rg hc ah4_1 [oN, oN, oN, oN, oN, oN, oN, oc (I r_7_7), oN, oN, some (.call (qTerm r_7_10) [] 19), some (.eqv (.mk 21 true) ⟨[(44, .rs 21)], [(21, some (.arr (List.map GTerm_O [r_7_10]))), (19, none), (20, none)], [21]⟩), some (.eqv (.mk 22 true) ⟨[(45, .rs 22)], [(22, some (.arr (List.map GTerm_O (out_5 ++ [r_7_10])))), (12, none), (21, none)], [22]⟩), oN, oN] [(1, I deep1), (2, .fn 144 [.ptr [I clo2_0] 0, .ptr [I clo2_1.fOp, I clo2_1.fN, sI clo2_1.fType, .sl (List.map GTerm_S clo2_1.fKids)] 0]), (3, .ra 1 0), (6, .ra 2 0), (7, .ra 6 0), (26, .sl (List.map GTerm_S t0.fKids)), (27, I (t0.fKids.length : Int)), (28, I w_3)] [(1, bTerm t0), (2, .box [I 0, I 0, .nils, .nils]), (5, .arr (List.map I r_3_6)), (6, .box [I t0.fOp, I t0.fN, .rs 5, .rs 22]), (22, .arr (List.map GTerm_O (out_5 ++ [r_7_10])))] (ai (impl_adds_s _ _ hr_7_7) (ai bod_150 (ai (oi (I r_7_7)) (ai (impl_renamed_Kimpl_substituted_c1_ih _ _ hr_7_10) (ai bod_143 (ai (oi (qTerm r_7_10)) (ai (congrArg (fun z => (⟨[(44, .rs 21)], [(21, some (.arr z)), (19, none), (20, none)], [21]⟩ : Wr)) ((rows1 (eq_GTerm_O r_7_10) rows0) : [AV.agg [I r_7_10.fOp, I r_7_10.fN, AV.osl (List.map I r_7_10.fType), AV.osl (List.map GTerm_O r_7_10.fKids)]] = List.map GTerm_O [r_7_10])) (ai (congrArg (fun z => (⟨[(45, .rs 22)], [(22, some (.arr z)), (12, none), (21, none)], [22]⟩ : Wr)) ((List.map_append).symm : (List.map GTerm_O out_5) ++ (List.map GTerm_O [r_7_10]) = List.map GTerm_O (out_5 ++ [r_7_10]))) (ai (app_ob (enc1 := GTerm_O) (enc2 := GTerm_O) (e1 := out_5) (e2 := [r_7_10]) (sz := 4) ek_GTerm_O ek_GTerm_O hk_7_12) trivial))))))))) ?_
   refine blockQ_norm ?_
   refine seqQ_norm ?_
   refine rg0 hc 2 [(1, I deep1), (2, .fn 144 [.ptr [I clo2_0] 0, .ptr [I clo2_1.fOp, I clo2_1.fN, sI clo2_1.fType, .sl (List.map GTerm_S clo2_1.fKids)] 0]), (3, .ra 1 0), (6, .ra 2 0), (7, .ra 6 0), (26, .sl (List.map GTerm_S t0.fKids)), (27, I (t0.fKids.length : Int)), (28, I (wr (w_3 + 1)))] [(1, bTerm t0), (2, .box [I 0, I 0, .nils, .nils]), (5, .arr (List.map I r_3_6)), (6, .box [I t0.fOp, I t0.fN, .rs 5, .rs 22]), (22, .arr (List.map GTerm_O (out_5 ++ [r_7_10])))] ?_
   refine loopQ_norm ?_
   exact WpL.view (fun a w hv => SRx.renL [(12, 22)] hv (by kernel_rfl) (by kernel_rfl) (by kernel_rfl)) (impl_renamed_Kimpl_substituted_c1_l0_ih _ _ h c hc)
  ·refine cF ((decide (w_3 < (t0.fKids.length : Int)))) hb_6 ?_
   refine Wp.exitN (i := 0) (by kernel_rfl) ?_
   refine seqQ_exit ?_
   refine loopQ_exit ?_
   obtain rfl := Option.some.inj h
   exact Into.view (fun a w hv => SRx.renL [] hv (by kernel_rfl) (by kernel_rfl) (by kernel_rfl))
theorem impl_renamed_Kimpl_substituted_c1_s : ∀ p r, impl_renamed_Kimpl_substituted_c1 p = some r → M_impl_renamed_Kimpl_substituted_c1 p r := impl_renamed_Kimpl_substituted_c1_all.1
theorem impl_renamed_Kimpl_substituted_c1_l0_s : ∀ p r, impl_renamed_Kimpl_substituted_c1_l0 p = some r → M_impl_renamed_Kimpl_substituted_c1_l0 p r := impl_renamed_Kimpl_substituted_c1_all.2
end Go.Am
