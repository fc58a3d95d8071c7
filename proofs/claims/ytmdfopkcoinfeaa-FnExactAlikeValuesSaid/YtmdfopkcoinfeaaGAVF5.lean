/- Functions of the program as pure functions, and that it computes them. Printed by a program of mine (gen.py). -/
import Derived.Test.YtmdfopkcoinfeaaGAVF4
set_option linter.unusedVariables false
set_option linter.unusedSimpArgs false
set_option maxRecDepth 100000
namespace Go.Am
open Go Go.Proofs
def ah5_0 : Option (List (List Nat)) := rx [[0], [0], [0, 1], [0], [0, 3], [0, 3, 4], [0, 3, 4, 5], [0], [0, 7], [0, 7, 8], [0, 7, 8, 9], [11], [12], [13], [13], [13, 14], [13], [13, 16], [13, 16, 17], [13, 16, 17, 18], [13], [13, 20], [13, 20, 21], [13, 20, 21, 22], [24], [25], [26]]
def ah5_1 : Option (List (List Nat)) := rx [[0], [1], [0], [0, 2], [4], [5], [6], [6], [6], [6, 7, 8], [6], [6, 10], [6, 10, 11], [6, 10, 11, 12], [6], [6, 14], [6, 14, 15], [6, 14, 15, 16], [18], [19], [20]]
def ah5_2 : Option (List (List Nat)) := rx [[0], [0], [0, 1], [3], [4], [5], [6], [6], [6, 7], [6], [6, 9], [6, 9, 10], [6, 9, 10, 11], [6], [6, 13], [6, 13, 14], [6, 13, 14, 15], [17], [18], [19]]
def spec_l1Has (p : (List Int) × Int) : Option (Bool) :=
 match p with
 | (l0, n1) =>
  (spec_l1Has_l0 (l0, n1, 0)) >>= fun fl => match fl with
  | .inl () =>
   some false
  | .inr r =>
   some r
def M_spec_l1Has (p : (List Int) × Int) (r : Bool) : Prop :=
 match p with
 | (l0, n1) => FnSound Try.prog 82 [sI l0, I n1] (.bool r) []
theorem spec_l1Has_s : ∀ p r, spec_l1Has p = some r → M_spec_l1Has p r := by
 rintro ⟨l0, n1⟩ r h
 unfold spec_l1Has at h
 show FnSound Try.prog 82 [sI l0, I n1] (.bool r) []
 refine FnSound.body0 tiok (fn := Try.f82) (code := B82) (by kernel_rfl) (by kernel_rfl) (by kernel_rfl) (by kernel_rfl) (nt := 18) (by kernel_rfl) (by kernel_rfl) (T := [(0, sI l0), (1, I n1)]) (O := []) (by kernel_rfl) (by kernel_rfl) (fun c hc => ?_)
 refine sN ?_
 refine rg0 hc 1 [(0, sI l0), (1, I n1)] [] ?_
 refine seqQ_norm ?_
 refine sN ?_
 refine sN ?_
 refine rg0 hc 1 [(0, sI l0), (1, I n1), (5, I 0)] [] ?_
 refine seqQ_norm ?_
 refine Wp.blockN (i := 0) (by kernel_rfl) ?_
 obtain ⟨fl, hl_6, h⟩ := bsome h
 have hL := spec_l1Has_l0_s _ _ hl_6 c hc
 refine Wp.loopN (by kernel_rfl) ?_
 rcases fl with ⟨⟩ | r
 ·refine WpL.into (e := (.exit 0)) (mkS [] []) hL ?_
  refine blockQ_hit ?_
  refine seqQ_norm ?_
  refine sN ?_
  refine rg0 hc 1 [(4, .bool false)] [] ?_
  refine seqQ_norm ?_
  refine Wp.retN (by kernel_rfl) ?_
  obtain rfl := Option.some.inj h
  exact RetQ.ret (fl := [true]) (by kernel_rfl)
 ·refine WpL.mono hL ?_
  rintro _ _ ⟨rfl, hfin⟩
  refine blockQ_ret ?_
  refine seqQ_ret ?_
  obtain rfl := Option.some.inj h
  exact ⟨.inl rfl, hfin⟩
def spec_l7Alike (p : (List Int) × (List Int) × GTerm × GTerm) : Option (Bool) :=
 match p with
 | (view0, ty1, v2, w3) =>
  (idx ty1 0) >>= fun e_1_1 =>
  if (e_1_1 == 0) = true then
   some (v2.fN == w3.fN)
  else
   if (e_1_1 == 1) = true then
    (
     (spec_l2Part (ty1, 0)) >>= fun r_5_2 =>
     (idx v2.fKids 0) >>= fun e_5_5 =>
     (idx w3.fKids 0) >>= fun e_5_9 =>
     (spec_l7Alike (view0, r_5_2, e_5_5, e_5_9)) >>= fun r_5_11 =>
     if r_5_11 = true then
      (spec_l2Part (ty1, 1)) >>= fun r_5_15 =>
      (idx v2.fKids 1) >>= fun e_5_18 =>
      (idx w3.fKids 1) >>= fun e_5_22 =>
      (spec_l7Alike (view0, r_5_15, e_5_18, e_5_22)) >>= fun r_5_24 =>
      some (r_5_24)
     else
      some (false)
    ) >>= fun v_3 =>
    some v_3
   else
    if (e_1_1 == 2) = true then
     (
      if (v2.fOp == 7) = true then
       some (1)
      else
       some (0)
     ) >>= fun k_7 =>
     (
      if (v2.fOp == w3.fOp) = true then
       (spec_l2Part (ty1, k_7)) >>= fun r_10_9 =>
       (idx v2.fKids 0) >>= fun e_10_12 =>
       (idx w3.fKids 0) >>= fun e_10_16 =>
       (spec_l7Alike (view0, r_10_9, e_10_12, e_10_16)) >>= fun r_10_18 =>
       some (r_10_18)
      else
       some (false)
     ) >>= fun v_9 =>
     some v_9
    else
     (
      (spec_l2Grade e_1_1) >>= fun r_11_2 =>
      (spec_l1Has (view0, r_11_2)) >>= fun r_11_3 =>
      if r_11_3 = true then
       (spec_l2Part (ty1, 0)) >>= fun r_11_8 =>
       (idx v2.fKids 0) >>= fun e_11_11 =>
       (idx w3.fKids 0) >>= fun e_11_15 =>
       (spec_l7Alike (view0, r_11_8, e_11_11, e_11_15)) >>= fun r_11_17 =>
       some (r_11_17)
      else
       some (true)
     ) >>= fun v_11 =>
     some v_11
 partial_fixpoint
def M_spec_l7Alike (p : (List Int) × (List Int) × GTerm × GTerm) (r : Bool) : Prop :=
 match p with
 | (view0, ty1, v2, w3) => FnSound Try.prog 45 [sI view0, sI ty1, aTerm v2, aTerm w3] (.bool r) []
theorem spec_l7Alike_s : ∀ p r, spec_l7Alike p = some r → M_spec_l7Alike p r := by
 refine spec_l7Alike.partial_correctness M_spec_l7Alike ?_
 rintro spec_l7Alike_f spec_l7Alike_ih ⟨view0, ty1, v2, w3⟩ r h
 show FnSound Try.prog 45 [sI view0, sI ty1, aTerm v2, aTerm w3] (.bool r) []
 refine FnSound.body0 tiok (fn := Try.f45) (code := B45) (by kernel_rfl) (by kernel_rfl) (by kernel_rfl) (by kernel_rfl) (nt := 96) (by kernel_rfl) (by kernel_rfl) (T := [(0, sI view0), (1, sI ty1), (2, aTerm v2), (3, aTerm w3)]) (O := []) (by kernel_rfl) (by kernel_rfl) (fun c hc => ?_)
 refine sN ?_
 refine rg hc none [some (.new 1), some (.new 2), oN] [(0, sI view0), (1, sI ty1), (6, .ra 1 0), (7, .ra 2 0)] [(1, bTerm v2), (2, bTerm w3)] trivial ?_
 refine seqQ_norm ?_
 refine sN ?_
 obtain ⟨e_1_1, hi_1_1, h⟩ := bsome h
 refine rg hc none [oN, some (.el (I e_1_1)), oN, oN] [(0, sI view0), (1, sI ty1), (6, .ra 1 0), (7, .ra 2 0), (9, I e_1_1)] [(1, bTerm v2), (2, bTerm w3)] (ai (ix hi_1_1) trivial) ?_
 refine seqQ_norm ?_
 refine sN ?_
 refine Wp.blockN (i := 0) (by kernel_rfl) ?_
 refine sN ?_
 refine rg0 hc 3 [(0, sI view0), (1, sI ty1), (6, .ra 1 0), (7, .ra 2 0), (9, I e_1_1), (14, .bool (e_1_1 == 0))] [(1, bTerm v2), (2, bTerm w3)] ?_
 refine seqQ_norm ?_
 rcases itesome h with ⟨hb_1, h⟩ | ⟨hb_1, h⟩
 ·refine cT ((e_1_1 == 0)) hb_1 ?_
  refine sN ?_
  refine rg0 hc 6 [(8, .bool (v2.fN == w3.fN))] [] ?_
  refine seqQ_norm ?_
  refine Wp.retN (by kernel_rfl) ?_
  refine blockQ_ret ?_
  refine seqQ_ret ?_
  obtain rfl := Option.some.inj h
  exact RetQ.ret (fl := [true]) (by kernel_rfl)
 ·refine cF ((e_1_1 == 0)) hb_1 ?_
  refine sN ?_
  refine rg0 hc 3 [(0, sI view0), (1, sI ty1), (6, .ra 1 0), (7, .ra 2 0), (9, I e_1_1), (22, .bool (e_1_1 == 1))] [(1, bTerm v2), (2, bTerm w3)] ?_
  refine seqQ_norm ?_
  rcases itesome h with ⟨hb_2, h⟩ | ⟨hb_2, h⟩
  ·refine cT ((e_1_1 == 1)) hb_2 ?_
   refine sN ?_
   obtain ⟨v_3, hj_4, h⟩ := bsome h
   refine Wp.into (x := .normal) (mkS [(8, .bool v_3)] []) ?_ ?_
   ·replace h := hj_4
    obtain ⟨r_5_2, hr_5_2, h⟩ := bsome h
    obtain ⟨e_5_5, hi_5_5, h⟩ := bsome h
    obtain ⟨e_5_9, hi_5_9, h⟩ := bsome h
    obtain ⟨r_5_11, hr_5_11, h⟩ := bsome h
    rcases itesome h with ⟨hb_5_0, h⟩ | ⟨hb_5_0, h⟩
    ·obtain ⟨r_5_15, hr_5_15, h⟩ := bsome h
     obtain ⟨e_5_18, hi_5_18, h⟩ := bsome h
     obtain ⟨e_5_22, hi_5_22, h⟩ := bsome h
     obtain ⟨r_5_24, hr_5_24, h⟩ := bsome h
     refine rg hc ah5_0 [oN, oN, some (.call (.osl (List.map I r_5_2)) [] 3), oN, oN, some (.el (aTerm e_5_5)), oN, oN, oN, some (.el (aTerm e_5_9)), oN, oc (.bool r_5_11), oN, oN, oN, some (.call (.osl (List.map I r_5_15)) [] 4), oN, oN, some (.el (aTerm e_5_18)), oN, oN, oN, some (.el (aTerm e_5_22)), oN, oc (.bool r_5_24), oT, oN] [(8, .bool r_5_24)] [] (ai (spec_l2Part_s _ _ hr_5_2) (ai bod_72 (ai (oi (.osl (List.map I r_5_2))) (ai (idx_sl (enc := GTerm_S) (x := aTerm e_5_5) hi_5_5 (eq_GTerm_S e_5_5)) (ai (idx_sl (enc := GTerm_S) (x := aTerm e_5_9) hi_5_9 (eq_GTerm_S e_5_9)) (ai (FnSound.args (A1 := [sI view0, .sl (shares (List.map I r_5_2)), aTerm e_5_5, aTerm e_5_9]) (A2 := [sI view0, sI r_5_2, aTerm e_5_5, aTerm e_5_9]) (by simp only [sI, sB, aSystem, aTerm, hSystem, hTerm, List.map_nil, sh_I]) (spec_l7Alike_ih _ _ hr_5_11)) (ai bod_45 (ai (Or.inr rfl : ([3] : List Nat) = [] ∨ noSh (.bool r_5_11) = true) (ar 3 hb_5_0 (ai (spec_l2Part_s _ _ hr_5_15) (ai bod_72 (ai (oi (.osl (List.map I r_5_15))) (ar 3 hb_5_0 (ai (idx_sl (enc := GTerm_S) (x := aTerm e_5_18) hi_5_18 (eq_GTerm_S e_5_18)) (ar 4 hb_5_0 (ai (idx_sl (enc := GTerm_S) (x := aTerm e_5_22) hi_5_22 (eq_GTerm_S e_5_22)) (ar 2 hb_5_0 (ai (FnSound.args (A1 := [sI view0, .sl (shares (List.map I r_5_15)), aTerm e_5_18, aTerm e_5_22]) (A2 := [sI view0, sI r_5_15, aTerm e_5_18, aTerm e_5_22]) (by simp only [sI, sB, aSystem, aTerm, hSystem, hTerm, List.map_nil, sh_I]) (spec_l7Alike_ih _ _ hr_5_24)) (ai bod_45 (ai (Or.inr rfl : ([4] : List Nat) = [] ∨ noSh (.bool r_5_24) = true) (ai hb_5_0 trivial))))))))))))))))))))) ?_
     obtain rfl := Option.some.inj h
     exact Into.mk
    ·refine rg hc ah5_0 [oN, oN, some (.call (.osl (List.map I r_5_2)) [] 3), oN, oN, some (.el (aTerm e_5_5)), oN, oN, oN, some (.el (aTerm e_5_9)), oN, oc (.bool r_5_11), oN, o_, o_, o_, o_, o_, o_, o_, o_, o_, o_, o_, o_, oF, oN] [(8, .bool false)] [] (ai (spec_l2Part_s _ _ hr_5_2) (ai bod_72 (ai (oi (.osl (List.map I r_5_2))) (ai (idx_sl (enc := GTerm_S) (x := aTerm e_5_5) hi_5_5 (eq_GTerm_S e_5_5)) (ai (idx_sl (enc := GTerm_S) (x := aTerm e_5_9) hi_5_9 (eq_GTerm_S e_5_9)) (ai (FnSound.args (A1 := [sI view0, .sl (shares (List.map I r_5_2)), aTerm e_5_5, aTerm e_5_9]) (A2 := [sI view0, sI r_5_2, aTerm e_5_5, aTerm e_5_9]) (by simp only [sI, sB, aSystem, aTerm, hSystem, hTerm, List.map_nil, sh_I]) (spec_l7Alike_ih _ _ hr_5_11)) (ai bod_45 (ai (Or.inr rfl : ([3] : List Nat) = [] ∨ noSh (.bool r_5_11) = true) (ar 12 (neT hb_5_0) (ai hb_5_0 trivial)))))))))) ?_
     obtain rfl := Option.some.inj h
     exact Into.mk
   ·clear hj_4
    refine seqQ_norm ?_
    refine Wp.retN (by kernel_rfl) ?_
    refine blockQ_ret ?_
    refine seqQ_ret ?_
    obtain rfl := Option.some.inj h
    exact RetQ.ret (fl := [true]) (by kernel_rfl)
  ·refine cF ((e_1_1 == 1)) hb_2 ?_
   refine sN ?_
   refine rg0 hc 3 [(0, sI view0), (1, sI ty1), (6, .ra 1 0), (7, .ra 2 0), (9, I e_1_1), (51, .bool (e_1_1 == 2))] [(1, bTerm v2), (2, bTerm w3)] ?_
   refine seqQ_norm ?_
   rcases itesome h with ⟨hb_5, h⟩ | ⟨hb_5, h⟩
   ·refine cT ((e_1_1 == 2)) hb_5 ?_
    refine sN ?_
    refine rg0 hc 1 [(0, sI view0), (1, sI ty1), (6, .ra 1 0), (7, .ra 2 0), (10, I 0)] [(1, bTerm v2), (2, bTerm w3)] ?_
    refine seqQ_norm ?_
    refine sN ?_
    refine sN ?_
    refine rg0 hc 3 [(0, sI view0), (1, sI ty1), (6, .ra 1 0), (7, .ra 2 0), (10, I 0), (56, .bool (v2.fOp == 7))] [(1, bTerm v2), (2, bTerm w3)] ?_
    refine seqQ_norm ?_
    obtain ⟨k_7, hj_8, h⟩ := bsome h
    refine Wp.into (x := .normal) (mkS [(0, sI view0), (1, sI ty1), (6, .ra 1 0), (7, .ra 2 0), (10, I k_7)] [(1, bTerm v2), (2, bTerm w3)]) ?_ ?_
    ·replace h := hj_8
     rcases itesome h with ⟨hb_6, h⟩ | ⟨hb_6, h⟩
     ·refine cT ((v2.fOp == 7)) hb_6 ?_
      refine rg0 hc 1 [(0, sI view0), (1, sI ty1), (6, .ra 1 0), (7, .ra 2 0), (10, I 1)] [(1, bTerm v2), (2, bTerm w3)] ?_
      obtain rfl := Option.some.inj h
      exact Into.mk
     ·refine cF ((v2.fOp == 7)) hb_6 ?_
      refine Wp.skipN (by kernel_rfl) ?_
      obtain rfl := Option.some.inj h
      exact Into.view (fun a w hv => SRx.renL [] hv (by kernel_rfl) (by kernel_rfl) (by kernel_rfl))
    ·clear hj_8
     refine seqQ_norm ?_
     refine sN ?_
     obtain ⟨v_9, hj_10, h⟩ := bsome h
     refine Wp.into (x := .normal) (mkS [(8, .bool v_9)] []) ?_ ?_
     ·replace h := hj_10
      rcases itesome h with ⟨hb_10_0, h⟩ | ⟨hb_10_0, h⟩
      ·obtain ⟨r_10_9, hr_10_9, h⟩ := bsome h
       obtain ⟨e_10_12, hi_10_12, h⟩ := bsome h
       obtain ⟨e_10_16, hi_10_16, h⟩ := bsome h
       obtain ⟨r_10_18, hr_10_18, h⟩ := bsome h
       refine rg hc ah5_1 [oN, oN, oN, oN, oN, oN, oN, oN, oN, some (.call (.osl (List.map I r_10_9)) [] 5), oN, oN, some (.el (aTerm e_10_12)), oN, oN, oN, some (.el (aTerm e_10_16)), oN, oc (.bool r_10_18), oT, oN] [(8, .bool r_10_18)] [] (ar 4 hb_10_0 (ai (spec_l2Part_s _ _ hr_10_9) (ai bod_72 (ai (oi (.osl (List.map I r_10_9))) (ar 3 hb_10_0 (ai (idx_sl (enc := GTerm_S) (x := aTerm e_10_12) hi_10_12 (eq_GTerm_S e_10_12)) (ar 4 hb_10_0 (ai (idx_sl (enc := GTerm_S) (x := aTerm e_10_16) hi_10_16 (eq_GTerm_S e_10_16)) (ar 2 hb_10_0 (ai (FnSound.args (A1 := [sI view0, .sl (shares (List.map I r_10_9)), aTerm e_10_12, aTerm e_10_16]) (A2 := [sI view0, sI r_10_9, aTerm e_10_12, aTerm e_10_16]) (by simp only [sI, sB, aSystem, aTerm, hSystem, hTerm, List.map_nil, sh_I]) (spec_l7Alike_ih _ _ hr_10_18)) (ai bod_45 (ai (Or.inr rfl : ([5] : List Nat) = [] ∨ noSh (.bool r_10_18) = true) (ai hb_10_0 trivial))))))))))))) ?_
       obtain rfl := Option.some.inj h
       exact Into.mk
      ·refine rg hc ah5_1 [oN, oN, oN, oN, oN, oN, o_, o_, o_, o_, o_, o_, o_, o_, o_, o_, o_, o_, o_, oF, oN] [(8, .bool false)] [] (ar 13 (neT hb_10_0) (ai hb_10_0 trivial)) ?_
       obtain rfl := Option.some.inj h
       exact Into.mk
     ·clear hj_10
      refine seqQ_norm ?_
      refine Wp.retN (by kernel_rfl) ?_
      refine blockQ_ret ?_
      refine seqQ_ret ?_
      obtain rfl := Option.some.inj h
      exact RetQ.ret (fl := [true]) (by kernel_rfl)
   ·refine cF ((e_1_1 == 2)) hb_5 ?_
    refine Wp.skipN (by kernel_rfl) ?_
    refine blockQ_norm ?_
    refine seqQ_norm ?_
    refine sN ?_
    obtain ⟨v_11, hj_12, h⟩ := bsome h
    refine Wp.into (x := .normal) (mkS [(8, .bool v_11)] []) ?_ ?_
    ·replace h := hj_12
     obtain ⟨r_11_2, hr_11_2, h⟩ := bsome h
     obtain ⟨r_11_3, hr_11_3, h⟩ := bsome h
     rcases itesome h with ⟨hb_11_0, h⟩ | ⟨hb_11_0, h⟩
     ·obtain ⟨r_11_8, hr_11_8, h⟩ := bsome h
      obtain ⟨e_11_11, hi_11_11, h⟩ := bsome h
      obtain ⟨e_11_15, hi_11_15, h⟩ := bsome h
      obtain ⟨r_11_17, hr_11_17, h⟩ := bsome h
      refine rg hc ah5_2 [oN, oN, oc (I r_11_2), oc (.bool r_11_3), oN, oN, oN, oN, some (.call (.osl (List.map I r_11_8)) [] 6), oN, oN, some (.el (aTerm e_11_11)), oN, oN, oN, some (.el (aTerm e_11_15)), oN, oc (.bool r_11_17), oF, oN] [(8, .bool r_11_17)] [] (ai (spec_l2Grade_s _ _ hr_11_2) (ai bod_74 (ai (oi (I r_11_2)) (ai (spec_l1Has_s _ _ hr_11_3) (ai bod_82 (ai (oi (.bool r_11_3)) (ar 3 (nF hb_11_0) (ai (spec_l2Part_s _ _ hr_11_8) (ai bod_72 (ai (oi (.osl (List.map I r_11_8))) (ar 3 (nF hb_11_0) (ai (idx_sl (enc := GTerm_S) (x := aTerm e_11_11) hi_11_11 (eq_GTerm_S e_11_11)) (ar 4 (nF hb_11_0) (ai (idx_sl (enc := GTerm_S) (x := aTerm e_11_15) hi_11_15 (eq_GTerm_S e_11_15)) (ar 2 (nF hb_11_0) (ai (FnSound.args (A1 := [sI view0, .sl (shares (List.map I r_11_8)), aTerm e_11_11, aTerm e_11_15]) (A2 := [sI view0, sI r_11_8, aTerm e_11_11, aTerm e_11_15]) (by simp only [sI, sB, aSystem, aTerm, hSystem, hTerm, List.map_nil, sh_I]) (spec_l7Alike_ih _ _ hr_11_17)) (ai bod_45 (ai (Or.inr rfl : ([6] : List Nat) = [] ∨ noSh (.bool r_11_17) = true) (ai (nF hb_11_0) trivial))))))))))))))))))) ?_
      obtain rfl := Option.some.inj h
      exact Into.mk
     ·refine rg hc ah5_2 [oN, oN, oc (I r_11_2), oc (.bool r_11_3), oN, oN, o_, o_, o_, o_, o_, o_, o_, o_, o_, o_, o_, o_, oT, oN] [(8, .bool true)] [] (ai (spec_l2Grade_s _ _ hr_11_2) (ai bod_74 (ai (oi (I r_11_2)) (ai (spec_l1Has_s _ _ hr_11_3) (ai bod_82 (ai (oi (.bool r_11_3)) (ar 12 (neF (nT hb_11_0)) (ai (nT hb_11_0) trivial)))))))) ?_
      obtain rfl := Option.some.inj h
      exact Into.mk
    ·clear hj_12
     refine seqQ_norm ?_
     refine Wp.retN (by kernel_rfl) ?_
     obtain rfl := Option.some.inj h
     exact RetQ.ret (fl := [true]) (by kernel_rfl)
def spec_AlikeValues (p : GSystem × (List Int) × (List Int) × GTerm × GTerm) : Option (Bool) :=
 match p with
 | (s0, view1, ty2, v3, w4) =>
  (
   (spec_IsView (s0, view1)) >>= fun r_1_2 =>
   if r_1_2 = true then
    (spec_IsValue (s0, ty2, v3)) >>= fun r_1_7 =>
    if r_1_7 = true then
     (spec_IsValue (s0, ty2, w4)) >>= fun r_1_13 =>
     if r_1_13 = true then
      (spec_l7Alike (view1, ty2, v3, w4)) >>= fun r_1_20 =>
      some (r_1_20)
     else
      some (false)
    else
     some (false)
   else
    some (false)
  ) >>= fun v_1 =>
  some v_1
def M_spec_AlikeValues (p : GSystem × (List Int) × (List Int) × GTerm × GTerm) (r : Bool) : Prop :=
 match p with
 | (s0, view1, ty2, v3, w4) => FnSound Try.prog 18 [aSystem s0, sI view1, sI ty2, aTerm v3, aTerm w4] (.bool r) []
theorem spec_AlikeValues_s : ∀ p r, spec_AlikeValues p = some r → M_spec_AlikeValues p r := by
 rintro ⟨s0, view1, ty2, v3, w4⟩ r h
 unfold spec_AlikeValues at h
 show FnSound Try.prog 18 [aSystem s0, sI view1, sI ty2, aTerm v3, aTerm w4] (.bool r) []
 refine FnSound.body0 tiok (fn := Try.f18) (code := B18) (by kernel_rfl) (by kernel_rfl) (by kernel_rfl) (by kernel_rfl) (nt := 33) (by kernel_rfl) (by kernel_rfl) (T := [(0, aSystem s0), (1, sI view1), (2, sI ty2), (3, aTerm v3), (4, aTerm w4)]) (O := []) (by kernel_rfl) (by kernel_rfl) (fun c hc => ?_)
 refine sN ?_
 refine rg hc none [some (.new 1), some (.new 2), some (.new 3), oN] [(1, sI view1), (2, sI ty2), (5, .ra 1 0), (8, .ra 2 0), (9, .ra 3 0)] [(1, bSystem s0), (2, bTerm v3), (3, bTerm w4)] trivial ?_
 refine seqQ_norm ?_
 refine sN ?_
 obtain ⟨v_1, hj_2, h⟩ := bsome h
 refine Wp.into (x := .normal) (mkS [(10, .bool v_1)] []) ?_ ?_
 ·replace h := hj_2
  obtain ⟨r_1_2, hr_1_2, h⟩ := bsome h
  rcases itesome h with ⟨hb_1_0, h⟩ | ⟨hb_1_0, h⟩
  ·obtain ⟨r_1_7, hr_1_7, h⟩ := bsome h
   rcases itesome h with ⟨hb_1_1, h⟩ | ⟨hb_1_1, h⟩
   ·obtain ⟨r_1_13, hr_1_13, h⟩ := bsome h
    rcases itesome h with ⟨hb_1_2, h⟩ | ⟨hb_1_2, h⟩
    ·obtain ⟨r_1_20, hr_1_20, h⟩ := bsome h
     refine rg hc none [oN, oN, oc (.bool r_1_2), oN, oN, oN, oN, oc (.bool r_1_7), oT, oN, oN, oN, oN, oc (.bool r_1_13), oT, oN, oN, oN, oN, oN, oc (.bool r_1_20), oT, oN] [(10, .bool r_1_20)] [] (ai (spec_IsView_s _ _ hr_1_2) (ai bod_44 (ai (oi (.bool r_1_2)) (ar 4 hb_1_0 (ai (spec_IsValue_s _ _ hr_1_7) (ai bod_34 (ai (oi (.bool r_1_7)) (ai hb_1_0 (ar 4 hb_1_1 (ai (spec_IsValue_s _ _ hr_1_13) (ai bod_34 (ai (oi (.bool r_1_13)) (ai hb_1_1 (ar 5 hb_1_2 (ai (spec_l7Alike_s _ _ hr_1_20) (ai bod_45 (ai (oi (.bool r_1_20)) (ai hb_1_2 trivial)))))))))))))))))) ?_
     obtain rfl := Option.some.inj h
     exact Into.mk
    ·refine rg hc none [oN, oN, oc (.bool r_1_2), oN, oN, oN, oN, oc (.bool r_1_7), oT, oN, oN, oN, oN, oc (.bool r_1_13), oT, oN, o_, o_, o_, o_, o_, oF, oN] [(10, .bool false)] [] (ai (spec_IsView_s _ _ hr_1_2) (ai bod_44 (ai (oi (.bool r_1_2)) (ar 4 hb_1_0 (ai (spec_IsValue_s _ _ hr_1_7) (ai bod_34 (ai (oi (.bool r_1_7)) (ai hb_1_0 (ar 4 hb_1_1 (ai (spec_IsValue_s _ _ hr_1_13) (ai bod_34 (ai (oi (.bool r_1_13)) (ai hb_1_1 (ar 5 (neT hb_1_2) (ai hb_1_2 trivial))))))))))))))) ?_
     obtain rfl := Option.some.inj h
     exact Into.mk
   ·refine rg hc none [oN, oN, oc (.bool r_1_2), oN, oN, oN, oN, oc (.bool r_1_7), oT, oN, o_, o_, o_, o_, oF, oN, o_, o_, o_, o_, o_, oF, oN] [(10, .bool false)] [] (ai (spec_IsView_s _ _ hr_1_2) (ai bod_44 (ai (oi (.bool r_1_2)) (ar 4 hb_1_0 (ai (spec_IsValue_s _ _ hr_1_7) (ai bod_34 (ai (oi (.bool r_1_7)) (ai hb_1_0 (ar 4 (neT hb_1_1) (ai hb_1_1 (ar 5 (neT (rfl : false = false)) (ai (rfl : false = false) trivial)))))))))))) ?_
    obtain rfl := Option.some.inj h
    exact Into.mk
  ·refine rg hc none [oN, oN, oc (.bool r_1_2), oN, o_, o_, o_, o_, oF, oN, o_, o_, o_, o_, oF, oN, o_, o_, o_, o_, o_, oF, oN] [(10, .bool false)] [] (ai (spec_IsView_s _ _ hr_1_2) (ai bod_44 (ai (oi (.bool r_1_2)) (ar 4 (neT hb_1_0) (ai hb_1_0 (ar 4 (neT (rfl : false = false)) (ai (rfl : false = false) (ar 5 (neT (rfl : false = false)) (ai (rfl : false = false) trivial))))))))) ?_
   obtain rfl := Option.some.inj h
   exact Into.mk
 ·clear hj_2
  refine seqQ_norm ?_
  refine Wp.retN (by kernel_rfl) ?_
  obtain rfl := Option.some.inj h
  exact RetQ.ret (fl := [true]) (by kernel_rfl)
def impl_within (p : Int × Int × Int) : Option (Bool) :=
 match p with
 | (n0, low1, high2) =>
  (
   if (decide (n0 ≥ low1)) = true then
    some ((decide (n0 ≤ high2)))
   else
    some (false)
  ) >>= fun v_1 =>
  some v_1
def M_impl_within (p : Int × Int × Int) (r : Bool) : Prop :=
 match p with
 | (n0, low1, high2) => FnSound Try.prog 61 [I n0, I low1, I high2] (.bool r) []
theorem impl_within_s : ∀ p r, impl_within p = some r → M_impl_within p r := by
 rintro ⟨n0, low1, high2⟩ r h
 unfold impl_within at h
 show FnSound Try.prog 61 [I n0, I low1, I high2] (.bool r) []
 refine FnSound.body0 tiok (fn := Try.f61) (code := B61) (by kernel_rfl) (by kernel_rfl) (by kernel_rfl) (by kernel_rfl) (nt := 15) (by kernel_rfl) (by kernel_rfl) (T := [(0, I n0), (1, I low1), (2, I high2)]) (O := []) (by kernel_rfl) (by kernel_rfl) (fun c hc => ?_)
 refine sN ?_
 refine rg0 hc 1 [(0, I n0), (1, I low1), (2, I high2)] [] ?_
 refine seqQ_norm ?_
 refine sN ?_
 obtain ⟨v_1, hj_2, h⟩ := bsome h
 refine Wp.into (x := .normal) (mkS [(6, .bool v_1)] []) ?_ ?_
 ·replace h := hj_2
  rcases itesome h with ⟨hb_1_0, h⟩ | ⟨hb_1_0, h⟩
  ·refine rg hc none [oN, oN, oN, oN, oN, oN, oN, oT, oN] [(6, .bool (decide (n0 ≤ high2)))] [] (ar 4 hb_1_0 trivial) ?_
   obtain rfl := Option.some.inj h
   exact Into.mk
  ·refine rg hc none [oN, oN, oN, oN, o_, o_, o_, oF, oN] [(6, .bool false)] [] (ar 3 (neT hb_1_0) (ai hb_1_0 trivial)) ?_
   obtain rfl := Option.some.inj h
   exact Into.mk
 ·clear hj_2
  refine seqQ_norm ?_
  refine Wp.retN (by kernel_rfl) ?_
  obtain rfl := Option.some.inj h
  exact RetQ.ret (fl := [true]) (by kernel_rfl)
def impl_Systemhas (p : GSystem × Int) : Option (Bool) :=
 match p with
 | (s0, g1) =>
  (impl_within (g1, 0, (wr (s0.fSize - 1)))) >>= fun r_1_4 =>
  some r_1_4
def M_impl_Systemhas (p : GSystem × Int) (r : Bool) : Prop :=
 match p with
 | (s0, g1) => FnSound Try.prog 84 [aSystem s0, I g1] (.bool r) []
theorem impl_Systemhas_s : ∀ p r, impl_Systemhas p = some r → M_impl_Systemhas p r := by
 rintro ⟨s0, g1⟩ r h
 unfold impl_Systemhas at h
 show FnSound Try.prog 84 [aSystem s0, I g1] (.bool r) []
 refine FnSound.body0 tiok (fn := Try.f84) (code := B84) (by kernel_rfl) (by kernel_rfl) (by kernel_rfl) (by kernel_rfl) (nt := 10) (by kernel_rfl) (by kernel_rfl) (T := [(0, aSystem s0), (1, I g1)]) (O := []) (by kernel_rfl) (by kernel_rfl) (fun c hc => ?_)
 refine sN ?_
 refine rg hc none [some (.new 1), oN] [(1, I g1), (2, .ra 1 0)] [(1, bSystem s0)] trivial ?_
 refine seqQ_norm ?_
 refine sN ?_
 obtain ⟨r_1_4, hr_1_4, h⟩ := bsome h
 refine rg hc none [oN, oN, oN, oN, oc (.bool r_1_4), oN] [(4, .bool r_1_4)] [] (ai (impl_within_s _ _ hr_1_4) (ai bod_61 (ai (oi (.bool r_1_4)) trivial))) ?_
 refine seqQ_norm ?_
 refine Wp.retN (by kernel_rfl) ?_
 obtain rfl := Option.some.inj h
 exact RetQ.ret (fl := [true]) (by kernel_rfl)
def impl_Systemplus (p : GSystem × Int × Int) : Option (Int) :=
 match p with
 | (s0, a1, b2) =>
  (idx s0.fPlus (wr ((wr (a1 * s0.fSize)) + b2))) >>= fun e_1_8 =>
  some e_1_8
def M_impl_Systemplus (p : GSystem × Int × Int) (r : Int) : Prop :=
 match p with
 | (s0, a1, b2) => FnSound Try.prog 118 [aSystem s0, I a1, I b2] (I r) []
theorem impl_Systemplus_s : ∀ p r, impl_Systemplus p = some r → M_impl_Systemplus p r := by
 rintro ⟨s0, a1, b2⟩ r h
 unfold impl_Systemplus at h
 show FnSound Try.prog 118 [aSystem s0, I a1, I b2] (I r) []
 refine FnSound.body0 tiok (fn := Try.f118) (code := B118) (by kernel_rfl) (by kernel_rfl) (by kernel_rfl) (by kernel_rfl) (nt := 17) (by kernel_rfl) (by kernel_rfl) (T := [(0, aSystem s0), (1, I a1), (2, I b2)]) (O := []) (by kernel_rfl) (by kernel_rfl) (fun c hc => ?_)
 refine sN ?_
 refine rg hc none [some (.new 1), oN] [(1, I a1), (2, I b2), (3, .ra 1 0)] [(1, bSystem s0)] trivial ?_
 refine seqQ_norm ?_
 refine sN ?_
 obtain ⟨e_1_8, hi_1_8, h⟩ := bsome h
 refine rg hc none [oN, oN, oN, oN, oN, oN, oN, oN, some (.el (I e_1_8)), oN, oN] [(6, I e_1_8)] [] (ai (ix hi_1_8) trivial) ?_
 refine seqQ_norm ?_
 refine Wp.retN (by kernel_rfl) ?_
 obtain rfl := Option.some.inj h
 exact RetQ.ret (fl := [true]) (by kernel_rfl)
def impl_Systemtimes (p : GSystem × Int × Int) : Option (Int) :=
 match p with
 | (s0, a1, b2) =>
  (idx s0.fTimes (wr ((wr (a1 * s0.fSize)) + b2))) >>= fun e_1_8 =>
  some e_1_8
def M_impl_Systemtimes (p : GSystem × Int × Int) (r : Int) : Prop :=
 match p with
 | (s0, a1, b2) => FnSound Try.prog 119 [aSystem s0, I a1, I b2] (I r) []
theorem impl_Systemtimes_s : ∀ p r, impl_Systemtimes p = some r → M_impl_Systemtimes p r := by
 rintro ⟨s0, a1, b2⟩ r h
 unfold impl_Systemtimes at h
 show FnSound Try.prog 119 [aSystem s0, I a1, I b2] (I r) []
 refine FnSound.body0 tiok (fn := Try.f119) (code := B119) (by kernel_rfl) (by kernel_rfl) (by kernel_rfl) (by kernel_rfl) (nt := 17) (by kernel_rfl) (by kernel_rfl) (T := [(0, aSystem s0), (1, I a1), (2, I b2)]) (O := []) (by kernel_rfl) (by kernel_rfl) (fun c hc => ?_)
 refine sN ?_
 refine rg hc none [some (.new 1), oN] [(1, I a1), (2, I b2), (3, .ra 1 0)] [(1, bSystem s0)] trivial ?_
 refine seqQ_norm ?_
 refine sN ?_
 obtain ⟨e_1_8, hi_1_8, h⟩ := bsome h
 refine rg hc none [oN, oN, oN, oN, oN, oN, oN, oN, some (.el (I e_1_8)), oN, oN] [(6, I e_1_8)] [] (ai (ix hi_1_8) trivial) ?_
 refine seqQ_norm ?_
 refine Wp.retN (by kernel_rfl) ?_
 obtain rfl := Option.some.inj h
 exact RetQ.ret (fl := [true]) (by kernel_rfl)
def impl_Systembelow (p : GSystem × Int × Int) : Option (Bool) :=
 match p with
 | (s0, a1, b2) =>
  (idx s0.fBelow (wr ((wr (a1 * s0.fSize)) + b2))) >>= fun e_1_8 =>
  some e_1_8
def M_impl_Systembelow (p : GSystem × Int × Int) (r : Bool) : Prop :=
 match p with
 | (s0, a1, b2) => FnSound Try.prog 120 [aSystem s0, I a1, I b2] (.bool r) []
theorem impl_Systembelow_s : ∀ p r, impl_Systembelow p = some r → M_impl_Systembelow p r := by
 rintro ⟨s0, a1, b2⟩ r h
 unfold impl_Systembelow at h
 show FnSound Try.prog 120 [aSystem s0, I a1, I b2] (.bool r) []
 refine FnSound.body0 tiok (fn := Try.f120) (code := B120) (by kernel_rfl) (by kernel_rfl) (by kernel_rfl) (by kernel_rfl) (nt := 17) (by kernel_rfl) (by kernel_rfl) (T := [(0, aSystem s0), (1, I a1), (2, I b2)]) (O := []) (by kernel_rfl) (by kernel_rfl) (fun c hc => ?_)
 refine sN ?_
 refine rg hc none [some (.new 1), oN] [(1, I a1), (2, I b2), (3, .ra 1 0)] [(1, bSystem s0)] trivial ?_
 refine seqQ_norm ?_
 refine sN ?_
 obtain ⟨e_1_8, hi_1_8, h⟩ := bsome h
 refine rg hc none [oN, oN, oN, oN, oN, oN, oN, oN, some (.el (.bool e_1_8)), oN, oN] [(6, .bool e_1_8)] [] (ai (idx_sl (enc := AV.bool) (x := .bool e_1_8) hi_1_8 (eq_B e_1_8)) trivial) ?_
 refine seqQ_norm ?_
 refine Wp.retN (by kernel_rfl) ?_
 obtain rfl := Option.some.inj h
 exact RetQ.ret (fl := [true]) (by kernel_rfl)
def impl_Systemjoin_F1 (c : Ctx) (s0 : GSystem) (a1 : Int) (b2 : Int) (g_17 : Int) : Bool → Exit → AState → Prop
 | least_30 => Into c (.exit 2) (mkS [(1, I a1), (2, I b2), (3, .ra 1 0), (7, I g_17), (8, .bool least_30)] [(1, bSystem s0)])
def impl_Systemjoin_l0 (p : GSystem × Int × Int × Int × Bool × Int) : Option (Bool) :=
 match p with
 | (s0, a1, b2, g_17, least_25, h_26) =>
  if (decide (h_26 < s0.fSize)) = true then
   (
    if least_25 = true then
     (impl_Systembelow (s0, a1, h_26)) >>= fun r_9_5 =>
     if r_9_5 = true then
      (impl_Systembelow (s0, b2, h_26)) >>= fun r_9_11 =>
      if r_9_11 = true then
       (impl_Systembelow (s0, g_17, h_26)) >>= fun r_9_18 =>
       some (r_9_18)
      else
       some (true)
     else
      some (true)
    else
     some (false)
   ) >>= fun least_28 =>
   impl_Systemjoin_l0 (s0, a1, b2, g_17, least_28, (wr (h_26 + 1)))
  else
   some (least_25)
 partial_fixpoint
def M_impl_Systemjoin_l0 (p : GSystem × Int × Int × Int × Bool × Int) (fl : Bool) : Prop :=
 match p with
 | (s0, a1, b2, g_17, least_25, h_26) => ∀ c : Ctx, c.nt = 57 → WpL Try.prog c (cl (cl (cr (cl (cr (cr (cl (cl (cr (cl (cl (cr (cl (cr B121)))))))))))))) (impl_Systemjoin_F1 c s0 a1 b2 g_17 fl) (mkS [(1, I a1), (2, I b2), (3, .ra 1 0), (7, I g_17), (8, .bool least_25), (9, I h_26)] [(1, bSystem s0)])
theorem impl_Systemjoin_l0_s : ∀ p r, impl_Systemjoin_l0 p = some r → M_impl_Systemjoin_l0 p r := by
 refine impl_Systemjoin_l0.partial_correctness M_impl_Systemjoin_l0 ?_
 rintro impl_Systemjoin_l0_f impl_Systemjoin_l0_ih ⟨s0, a1, b2, g_17, least_25, h_26⟩ r h
 intro c hc
 show WpL Try.prog c (cl (cl (cr (cl (cr (cr (cl (cl (cr (cl (cl (cr (cl (cr B121)))))))))))))) (impl_Systemjoin_F1 c s0 a1 b2 g_17 r) (mkS [(1, I a1), (2, I b2), (3, .ra 1 0), (7, I g_17), (8, .bool least_25), (9, I h_26)] [(1, bSystem s0)])
 refine WpL.step ?_
 refine sN ?_
 refine sN ?_
 refine rg0 hc 4 [(1, I a1), (2, I b2), (3, .ra 1 0), (7, I g_17), (8, .bool least_25), (9, I h_26), (31, .bool (decide (h_26 < s0.fSize)))] [(1, bSystem s0)] ?_
 refine seqQ_norm ?_
 rcases itesome h with ⟨hb_27, h⟩ | ⟨hb_27, h⟩
 ·refine cT ((decide (h_26 < s0.fSize))) hb_27 ?_
  refine Wp.skipN (by kernel_rfl) ?_
  refine seqQ_norm ?_
  refine sN ?_
  refine Wp.blockN (i := 3) (by kernel_rfl) ?_
  obtain ⟨least_28, hj_29, h⟩ := bsome h
  refine Wp.into (x := .normal) (mkS [(1, I a1), (2, I b2), (3, .ra 1 0), (7, I g_17), (8, .bool least_28), (9, I h_26)] [(1, bSystem s0)]) ?_ ?_
  ·replace h := hj_29
   rcases itesome h with ⟨hb_9_0, h⟩ | ⟨hb_9_0, h⟩
   ·obtain ⟨r_9_5, hr_9_5, h⟩ := bsome h
    rcases itesome h with ⟨hb_9_1, h⟩ | ⟨hb_9_1, h⟩
    ·obtain ⟨r_9_11, hr_9_11, h⟩ := bsome h
     rcases itesome h with ⟨hb_9_2, h⟩ | ⟨hb_9_2, h⟩
     ·obtain ⟨r_9_18, hr_9_18, h⟩ := bsome h
      refine rg hc none [oN, oN, oN, oN, oN, oc (.bool r_9_5), oN, oN, oN, oN, oN, oc (.bool r_9_11), oN, oF, oN, oN, oN, oN, oc (.bool r_9_18), oF, oT, oN] [(1, I a1), (2, I b2), (3, .ra 1 0), (7, I g_17), (8, .bool r_9_18), (9, I h_26)] [(1, bSystem s0)] (ar 4 hb_9_0 (ai (impl_Systembelow_s _ _ hr_9_5) (ai bod_120 (ai (oi (.bool r_9_5)) (ar 2 hb_9_0 (ar 4 (nF hb_9_1) (ai (impl_Systembelow_s _ _ hr_9_11) (ai bod_120 (ai (oi (.bool r_9_11)) (ai (nF hb_9_1) (ai hb_9_0 (ai (nF hb_9_1) (ai hb_9_0 (ar 4 (nF hb_9_2) (ai (impl_Systembelow_s _ _ hr_9_18) (ai bod_120 (ai (oi (.bool r_9_18)) (ai hb_9_0 (ai (nF hb_9_2) (ai hb_9_0 trivial)))))))))))))))))))) ?_
      obtain rfl := Option.some.inj h
      exact Into.mk
     ·refine rg hc none [oN, oN, oN, oN, oN, oc (.bool r_9_5), oN, oN, oN, oN, oN, oc (.bool r_9_11), oN, oF, oN, o_, o_, o_, o_, oT, oT, oN] [(1, I a1), (2, I b2), (3, .ra 1 0), (7, I g_17), (8, .bool true), (9, I h_26)] [(1, bSystem s0)] (ar 4 hb_9_0 (ai (impl_Systembelow_s _ _ hr_9_5) (ai bod_120 (ai (oi (.bool r_9_5)) (ar 2 hb_9_0 (ar 4 (nF hb_9_1) (ai (impl_Systembelow_s _ _ hr_9_11) (ai bod_120 (ai (oi (.bool r_9_11)) (ai (nF hb_9_1) (ai hb_9_0 (ai (nF hb_9_1) (ai hb_9_0 (ar 4 (neF (nT hb_9_2)) (ai hb_9_0 (ai (nT hb_9_2) (ai hb_9_0 trivial))))))))))))))))) ?_
      obtain rfl := Option.some.inj h
      exact Into.mk
    ·refine rg hc none [oN, oN, oN, oN, oN, oc (.bool r_9_5), oN, oN, o_, o_, o_, o_, o_, oT, oN, o_, o_, o_, o_, oT, oT, oN] [(1, I a1), (2, I b2), (3, .ra 1 0), (7, I g_17), (8, .bool true), (9, I h_26)] [(1, bSystem s0)] (ar 4 hb_9_0 (ai (impl_Systembelow_s _ _ hr_9_5) (ai bod_120 (ai (oi (.bool r_9_5)) (ar 2 hb_9_0 (ar 5 (neF (nT hb_9_1)) (ai hb_9_0 (ai (nT hb_9_1) (ai hb_9_0 (ar 4 nf (ai hb_9_0 (ai tt (ai hb_9_0 trivial))))))))))))) ?_
     obtain rfl := Option.some.inj h
     exact Into.mk
   ·refine rg hc none [oN, oN, o_, o_, o_, o_, o_, o_, o_, o_, o_, o_, o_, o_, o_, o_, o_, o_, o_, o_, oF, oN] [(1, I a1), (2, I b2), (3, .ra 1 0), (7, I g_17), (8, .bool false), (9, I h_26)] [(1, bSystem s0)] (ar 9 (neT hb_9_0) (ai hb_9_0 trivial)) ?_
    obtain rfl := Option.some.inj h
    exact Into.mk
  ·clear hj_29
   refine blockQ_norm ?_
   refine seqQ_norm ?_
   refine rg0 hc 3 [(1, I a1), (2, I b2), (3, .ra 1 0), (7, I g_17), (8, .bool least_28), (9, I (wr (h_26 + 1)))] [(1, bSystem s0)] ?_
   refine loopQ_norm ?_
   exact (impl_Systemjoin_l0_ih _ _ h c hc)
 ·refine cF ((decide (h_26 < s0.fSize))) hb_27 ?_
  refine Wp.exitN (i := 2) (by kernel_rfl) ?_
  refine seqQ_exit ?_
  refine loopQ_exit ?_
  obtain rfl := Option.some.inj h
  exact Into.view (fun a w hv => SRx.renL [] hv (by kernel_rfl) (by kernel_rfl) (by kernel_rfl))
def impl_Systemjoin_F2 (c : Ctx) (s0 : GSystem) (a1 : Int) (b2 : Int) (g_17 : Int) : (Unit) ⊕ (Int) → Exit → AState → Prop
 | .inl _ => Into c .normal (mkS [(1, I a1), (2, I b2), (3, .ra 1 0), (7, I g_17)] [(1, bSystem s0)])
 | .inr r => RetE TIx Try.f121 [] (I r)
def impl_Systemjoin_F3 (c : Ctx) : (Unit) ⊕ (Int) → Exit → AState → Prop
 | .inl _ => Into c (.exit 0) (mkS [] [])
 | .inr r => RetE TIx Try.f121 [] (I r)
def impl_Systemjoin_l1 (p : GSystem × Int × Int × Int) : Option ((Unit) ⊕ (Int)) :=
 match p with
 | (s0, a1, b2, g_17) =>
  if (decide (g_17 < s0.fSize)) = true then
   ((
    (
     (impl_Systembelow (s0, a1, g_17)) >>= fun r_4_3 =>
     if r_4_3 = true then
      (impl_Systembelow (s0, b2, g_17)) >>= fun r_4_9 =>
      some ((!r_4_9))
     else
      some (true)
    ) >>= fun v_19 =>
    if v_19 = true then
     some (.inl ())
    else
     (impl_Systemjoin_l0 (s0, a1, b2, g_17, true, 0)) >>= fun least_30 =>
     if least_30 = true then
      some (.inr g_17)
     else
      some (.inl ())) : Option ((Unit) ⊕ (Int))) >>= fun fl => match fl with
   | .inl () =>
    impl_Systemjoin_l1 (s0, a1, b2, (wr (g_17 + 1)))
   | .inr r =>
    some (.inr r)
  else
   some (.inl ())
 partial_fixpoint
def M_impl_Systemjoin_l1 (p : GSystem × Int × Int × Int) (fl : (Unit) ⊕ (Int)) : Prop :=
 match p with
 | (s0, a1, b2, g_17) => ∀ c : Ctx, c.nt = 57 → WpL Try.prog c (cl (cl (cr (cl (cr B121))))) (impl_Systemjoin_F3 c fl) (mkS [(1, I a1), (2, I b2), (3, .ra 1 0), (7, I g_17)] [(1, bSystem s0)])
theorem impl_Systemjoin_l1_s : ∀ p r, impl_Systemjoin_l1 p = some r → M_impl_Systemjoin_l1 p r := by
 refine impl_Systemjoin_l1.partial_correctness M_impl_Systemjoin_l1 ?_
 rintro impl_Systemjoin_l1_f impl_Systemjoin_l1_ih ⟨s0, a1, b2, g_17⟩ r h
 intro c hc
 show WpL Try.prog c (cl (cl (cr (cl (cr B121))))) (impl_Systemjoin_F3 c r) (mkS [(1, I a1), (2, I b2), (3, .ra 1 0), (7, I g_17)] [(1, bSystem s0)])
 refine WpL.step ?_
 refine sN ?_
 refine sN ?_
 refine rg0 hc 4 [(1, I a1), (2, I b2), (3, .ra 1 0), (7, I g_17), (13, .bool (decide (g_17 < s0.fSize)))] [(1, bSystem s0)] ?_
 refine seqQ_norm ?_
 rcases itesome h with ⟨hb_18, h⟩ | ⟨hb_18, h⟩
 ·refine cT ((decide (g_17 < s0.fSize))) hb_18 ?_
  refine Wp.skipN (by kernel_rfl) ?_
  refine seqQ_norm ?_
  refine sN ?_
  obtain ⟨fl, hj_33, h⟩ := bsome h
  have hF : Wp Try.prog c (cl (cr (cl (cl (cr (cl (cr B121))))))) (impl_Systemjoin_F2 c s0 a1 b2 g_17 fl) (mkS [(1, I a1), (2, I b2), (3, .ra 1 0), (7, I g_17), (13, .bool (decide (g_17 < s0.fSize)))] [(1, bSystem s0)]) := by
   replace h := hj_33
   refine Wp.blockN (i := 1) (by kernel_rfl) ?_
   refine sN ?_
   refine sN ?_
   obtain ⟨v_19, hj_20, h⟩ := bsome h
   refine Wp.into (x := .normal) (mkS [(1, I a1), (2, I b2), (3, .ra 1 0), (7, I g_17), (27, .bool v_19)] [(1, bSystem s0)]) ?_ ?_
   ·replace h := hj_20
    obtain ⟨r_4_3, hr_4_3, h⟩ := bsome h
    rcases itesome h with ⟨hb_4_0, h⟩ | ⟨hb_4_0, h⟩
    ·obtain ⟨r_4_9, hr_4_9, h⟩ := bsome h
     refine rg hc none [oN, oN, oN, oc (.bool r_4_3), oN, oN, oN, oN, oN, oc (.bool r_4_9), oN, oF] [(1, I a1), (2, I b2), (3, .ra 1 0), (7, I g_17), (27, .bool (!r_4_9))] [(1, bSystem s0)] (ai (impl_Systembelow_s _ _ hr_4_3) (ai bod_120 (ai (oi (.bool r_4_3)) (ar 4 (nF hb_4_0) (ai (impl_Systembelow_s _ _ hr_4_9) (ai bod_120 (ai (oi (.bool r_4_9)) (ar 2 (nF hb_4_0) trivial)))))))) ?_
     obtain rfl := Option.some.inj h
     exact Into.mk
    ·refine rg hc none [oN, oN, oN, oc (.bool r_4_3), oN, oN, o_, o_, o_, o_, o_, oT] [(1, I a1), (2, I b2), (3, .ra 1 0), (7, I g_17), (27, .bool true)] [(1, bSystem s0)] (ai (impl_Systembelow_s _ _ hr_4_3) (ai bod_120 (ai (oi (.bool r_4_3)) (ar 5 (neF (nT hb_4_0)) (ai (nT hb_4_0) trivial))))) ?_
     obtain rfl := Option.some.inj h
     exact Into.mk
   ·clear hj_20
    refine seqQ_norm ?_
    rcases itesome h with ⟨hb_21, h⟩ | ⟨hb_21, h⟩
    ·refine cT v_19 hb_21 ?_
     refine Wp.exitN (i := 1) (by kernel_rfl) ?_
     refine seqQ_exit ?_
     refine blockQ_hit ?_
     obtain rfl := Option.some.inj h
     exact Into.view (fun a w hv => SRx.renL [] hv (by kernel_rfl) (by kernel_rfl) (by kernel_rfl))
    ·refine cF v_19 hb_21 ?_
     refine Wp.skipN (by kernel_rfl) ?_
     refine seqQ_norm ?_
     refine sN ?_
     refine rg0 hc 1 [(1, I a1), (2, I b2), (3, .ra 1 0), (7, I g_17), (8, .bool true)] [(1, bSystem s0)] ?_
     refine seqQ_norm ?_
     refine sN ?_
     refine sN ?_
     refine rg0 hc 1 [(1, I a1), (2, I b2), (3, .ra 1 0), (7, I g_17), (8, .bool true), (9, I 0)] [(1, bSystem s0)] ?_
     refine seqQ_norm ?_
     refine Wp.blockN (i := 2) (by kernel_rfl) ?_
     obtain ⟨least_30, hl_31, h⟩ := bsome h
     have hL := impl_Systemjoin_l0_s _ _ hl_31 c hc
     refine Wp.loopN (by kernel_rfl) ?_
     ·refine WpL.into (e := (.exit 2)) (mkS [(1, I a1), (2, I b2), (3, .ra 1 0), (7, I g_17), (8, .bool least_30)] [(1, bSystem s0)]) hL ?_
      refine blockQ_hit ?_
      refine seqQ_norm ?_
      refine sN ?_
      refine rg0 hc 1 [(1, I a1), (2, I b2), (3, .ra 1 0), (7, I g_17), (55, .bool least_30)] [(1, bSystem s0)] ?_
      refine seqQ_norm ?_
      rcases itesome h with ⟨hb_32, h⟩ | ⟨hb_32, h⟩
      ·refine cT least_30 hb_32 ?_
       refine sN ?_
       refine rg0 hc 2 [(6, I g_17)] [] ?_
       refine seqQ_norm ?_
       refine Wp.retN (by kernel_rfl) ?_
       refine blockQ_ret ?_
       obtain rfl := Option.some.inj h
       exact RetE.ret (fl := [true]) (by kernel_rfl)
      ·refine cF least_30 hb_32 ?_
       refine Wp.skipN (by kernel_rfl) ?_
       refine blockQ_norm ?_
       obtain rfl := Option.some.inj h
       exact Into.view (fun a w hv => SRx.renL [] hv (by kernel_rfl) (by kernel_rfl) (by kernel_rfl))
  rcases fl with ⟨⟩ | r
  ·refine Wp.into (x := .normal) (mkS [(1, I a1), (2, I b2), (3, .ra 1 0), (7, I g_17)] [(1, bSystem s0)]) hF ?_
   refine seqQ_norm ?_
   refine rg0 hc 3 [(1, I a1), (2, I b2), (3, .ra 1 0), (7, I (wr (g_17 + 1)))] [(1, bSystem s0)] ?_
   refine loopQ_norm ?_
   exact (impl_Systemjoin_l1_ih _ _ h c hc)
  ·refine Wp.mono hF ?_
   rintro _ _ ⟨rfl, hfin⟩
   refine seqQ_ret ?_
   refine loopQ_ret ?_
   obtain rfl := Option.some.inj h
   exact ⟨rfl, hfin⟩
 ·refine cF ((decide (g_17 < s0.fSize))) hb_18 ?_
  refine Wp.exitN (i := 0) (by kernel_rfl) ?_
  refine seqQ_exit ?_
  refine loopQ_exit ?_
  obtain rfl := Option.some.inj h
  exact Into.view (fun a w hv => SRx.renL [] hv (by kernel_rfl) (by kernel_rfl) (by kernel_rfl))
def impl_Systemjoin (p : GSystem × Int × Int) : Option (Int) :=
 match p with
 | (s0, a1, b2) =>
  (impl_Systemjoin_l1 (s0, a1, b2, 0)) >>= fun fl => match fl with
  | .inl () =>
   some (-1)
  | .inr r =>
   some r
def M_impl_Systemjoin (p : GSystem × Int × Int) (r : Int) : Prop :=
 match p with
 | (s0, a1, b2) => FnSound Try.prog 121 [aSystem s0, I a1, I b2] (I r) []
theorem impl_Systemjoin_s : ∀ p r, impl_Systemjoin p = some r → M_impl_Systemjoin p r := by
 rintro ⟨s0, a1, b2⟩ r h
 unfold impl_Systemjoin at h
 show FnSound Try.prog 121 [aSystem s0, I a1, I b2] (I r) []
 refine FnSound.body0 tiok (fn := Try.f121) (code := B121) (by kernel_rfl) (by kernel_rfl) (by kernel_rfl) (by kernel_rfl) (nt := 57) (by kernel_rfl) (by kernel_rfl) (T := [(0, aSystem s0), (1, I a1), (2, I b2)]) (O := []) (by kernel_rfl) (by kernel_rfl) (fun c hc => ?_)
 refine sN ?_
 refine rg hc none [some (.new 1), oN] [(1, I a1), (2, I b2), (3, .ra 1 0)] [(1, bSystem s0)] trivial ?_
 refine seqQ_norm ?_
 refine sN ?_
 refine sN ?_
 refine rg0 hc 1 [(1, I a1), (2, I b2), (3, .ra 1 0), (7, I 0)] [(1, bSystem s0)] ?_
 refine seqQ_norm ?_
 refine Wp.blockN (i := 0) (by kernel_rfl) ?_
 obtain ⟨fl, hl_34, h⟩ := bsome h
 have hL := impl_Systemjoin_l1_s _ _ hl_34 c hc
 refine Wp.loopN (by kernel_rfl) ?_
 rcases fl with ⟨⟩ | r
 ·refine WpL.into (e := (.exit 0)) (mkS [] []) hL ?_
  refine blockQ_hit ?_
  refine seqQ_norm ?_
  refine sN ?_
  refine rg0 hc 1 [(6, I (-1))] [] ?_
  refine seqQ_norm ?_
  refine Wp.retN (by kernel_rfl) ?_
  obtain rfl := Option.some.inj h
  exact RetQ.ret (fl := [true]) (by kernel_rfl)
 ·refine WpL.mono hL ?_
  rintro _ _ ⟨rfl, hfin⟩
  refine blockQ_ret ?_
  refine seqQ_ret ?_
  obtain rfl := Option.some.inj h
  exact ⟨.inl rfl, hfin⟩
end Go.Am
