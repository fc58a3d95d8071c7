/- Functions of the program as pure functions, and that it computes them. Printed by a program of mine (gen.py). -/
import Derived.Test.YtmdfopkcoinfeaaGNFF2
set_option linter.unusedVariables false
set_option linter.unusedSimpArgs false
set_option maxRecDepth 100000
namespace Go.Am
open Go Go.Proofs
def spec_ContractAt (p : GTerm × (List Int)) : Option (GTerm × Bool) :=
 match p with
 | (t0, path1) =>
  (spec_TermAt (t0, path1)) >>= fun (r_1_2_0, r_1_2_1) =>
  (
   if r_1_2_1 = true then
    (spec_l4Redex r_1_2_0) >>= fun r_2_4 =>
    some ((!r_2_4))
   else
    some (true)
  ) >>= fun v_1 =>
  if v_1 = true then
   some ((GTerm.mk 0 0 [] []), false)
  else
   (spec_l4Contracted r_1_2_0) >>= fun (r_4_1_0, r_4_1_1) =>
   if r_4_1_1 = true then
    (spec_ReplaceAt (t0, path1, r_4_1_0)) >>= fun (r_7_3_0, r_7_3_1) =>
    some (r_7_3_0, r_7_3_1)
   else
    some ((GTerm.mk 0 0 [] []), false)
def M_spec_ContractAt (p : GTerm × (List Int)) (r : GTerm × Bool) : Prop :=
 match p with
 | (t0, path1) => FnSound Try.prog 50 [aTerm t0, sI path1] (.tup [.agg [I r.1.fOp, I r.1.fN, .osl (List.map I r.1.fType), .osl (List.map GTerm_O r.1.fKids)], .bool r.2]) []
theorem spec_ContractAt_s : ∀ p r, spec_ContractAt p = some r → M_spec_ContractAt p r := by
 rintro ⟨t0, path1⟩ r h
 unfold spec_ContractAt at h
 show FnSound Try.prog 50 [aTerm t0, sI path1] (.tup [.agg [I r.1.fOp, I r.1.fN, .osl (List.map I r.1.fType), .osl (List.map GTerm_O r.1.fKids)], .bool r.2]) []
 refine FnSound.body0 tiok (fn := Try.f50) (code := B50) (by kernel_rfl) (by kernel_rfl) (by kernel_rfl) (by kernel_rfl) (nt := 37) (by kernel_rfl) (by kernel_rfl) (T := [(0, aTerm t0), (1, sI path1)]) (O := []) (by kernel_rfl) (by kernel_rfl) (fun c hc => ?_)
 refine sN ?_
 refine rg hc none [some (.new 1), some (.new 2), oN] [(1, sI path1), (2, .ra 1 0), (4, .ra 2 0)] [(1, bTerm t0), (2, .box [I 0, I 0, .nils, .nils])] trivial ?_
 refine seqQ_norm ?_
 refine sN ?_
 obtain ⟨⟨r_1_2_0, r_1_2_1⟩, hr_1_2, h⟩ := bsome h
 refine rg hc none [oN, oN, some (.call (.tup [qTerm r_1_2_0, .bool r_1_2_1]) [] 3), oN, oN, oN, some (.new 5), oN, oN] [(1, sI path1), (2, .ra 1 0), (4, .ra 2 0), (6, .ra 5 0), (7, .bool r_1_2_1)] [(1, bTerm t0), (2, .box [I 0, I 0, .nils, .nils]), (3, .arr (List.map I r_1_2_0.fType)), (4, .arr (List.map GTerm_O r_1_2_0.fKids)), (5, .box [I r_1_2_0.fOp, I r_1_2_0.fN, .rs 3, .rs 4])] (ai (spec_TermAt_s _ _ hr_1_2) (ai bod_88 (ai (oi (.tup [qTerm r_1_2_0, .bool r_1_2_1])) trivial))) ?_
 refine seqQ_norm ?_
 refine sN ?_
 refine sN ?_
 obtain ⟨v_1, hj_2, h⟩ := bsome h
 refine Wp.into (x := .normal) (mkS [(1, sI path1), (2, .ra 1 0), (4, .ra 2 0), (6, .ra 5 0), (21, .bool v_1)] [(1, bTerm t0), (2, .box [I 0, I 0, .nils, .nils]), (3, .arr (List.map I r_1_2_0.fType)), (4, .arr (List.map GTerm_O r_1_2_0.fKids)), (5, .box [I r_1_2_0.fOp, I r_1_2_0.fN, .rs 3, .rs 4])]) ?_ ?_
 ·replace h := hj_2
  rcases itesome h with ⟨hb_2_0, h⟩ | ⟨hb_2_0, h⟩
  ·obtain ⟨r_2_4, hr_2_4, h⟩ := bsome h
   refine rg hc none [oN, oN, oN, oN, oc (.bool r_2_4), oN, oF] [(1, sI path1), (2, .ra 1 0), (4, .ra 2 0), (6, .ra 5 0), (21, .bool (!r_2_4))] [(1, bTerm t0), (2, .box [I 0, I 0, .nils, .nils]), (3, .arr (List.map I r_1_2_0.fType)), (4, .arr (List.map GTerm_O r_1_2_0.fKids)), (5, .box [I r_1_2_0.fOp, I r_1_2_0.fN, .rs 3, .rs 4])] (ar 2 (nF hb_2_0) (ai (FnSound.args (A1 := [hTerm r_1_2_0]) (A2 := [aTerm r_1_2_0]) (by simp only [sI, sB, aTerm, hTerm, List.map_nil, sh_GTerm_O, sh_I]) (spec_l4Redex_s _ _ hr_2_4)) (ai bod_89 (ai (Or.inr rfl : ([3, 4] : List Nat) = [] ∨ noSh (.bool r_2_4) = true) (ar 2 (nF hb_2_0) trivial))))) ?_
   obtain rfl := Option.some.inj h
   exact Into.mk
  ·refine rg hc none [oN, oN, oN, o_, o_, o_, oT] [(1, sI path1), (2, .ra 1 0), (4, .ra 2 0), (6, .ra 5 0), (21, .bool true)] [(1, bTerm t0), (2, .box [I 0, I 0, .nils, .nils]), (3, .arr (List.map I r_1_2_0.fType)), (4, .arr (List.map GTerm_O r_1_2_0.fKids)), (5, .box [I r_1_2_0.fOp, I r_1_2_0.fN, .rs 3, .rs 4])] (ar 3 (neF (nT hb_2_0)) (ai (nT hb_2_0) trivial)) ?_
   obtain rfl := Option.some.inj h
   exact Into.mk
 ·clear hj_2
  refine seqQ_norm ?_
  rcases itesome h with ⟨hb_3, h⟩ | ⟨hb_3, h⟩
  ·refine cT v_1 hb_3 ?_
   refine sN ?_
   refine rg0 hc 3 [(4, .ra 2 0), (5, .bool false)] [(2, .box [I 0, I 0, .nils, .nils])] ?_
   refine seqQ_norm ?_
   refine Wp.retN (by kernel_rfl) ?_
   refine seqQ_ret ?_
   obtain rfl := Option.some.inj h
   exact RetQ.ret (fl := [true, true]) (by kernel_rfl)
  ·refine cF v_1 hb_3 ?_
   refine Wp.skipN (by kernel_rfl) ?_
   refine seqQ_norm ?_
   refine sN ?_
   obtain ⟨⟨r_4_1_0, r_4_1_1⟩, hr_4_1, h⟩ := bsome h
   refine rg hc none [oN, some (.call (.tup [qTerm r_4_1_0, .bool r_4_1_1]) [] 6), oN, oN, oN, some (.new 8), oN, oN] [(1, sI path1), (2, .ra 1 0), (4, .ra 2 0), (7, .bool r_4_1_1), (8, .ra 8 0)] [(1, bTerm t0), (2, .box [I 0, I 0, .nils, .nils]), (6, .arr (List.map I r_4_1_0.fType)), (7, .arr (List.map GTerm_O r_4_1_0.fKids)), (8, .box [I r_4_1_0.fOp, I r_4_1_0.fN, .rs 6, .rs 7])] (ai (FnSound.args (A1 := [hTerm r_1_2_0]) (A2 := [aTerm r_1_2_0]) (by simp only [sI, sB, aTerm, hTerm, List.map_nil, sh_GTerm_O, sh_I]) (spec_l4Contracted_s _ _ hr_4_1)) (ai bod_90 (ai (Or.inr (nsh_cons (nsh_cons rfl (nsh_cons rfl (nsh_cons (nsh_row nsh_I r_4_1_0.fType) (nsh_cons (nsh_row nsh_GTerm_O r_4_1_0.fKids) rfl)))) (nsh_cons rfl rfl)) : ([3, 4] : List Nat) = [] ∨ noSh (.tup [qTerm r_4_1_0, .bool r_4_1_1]) = true) trivial))) ?_
   refine seqQ_norm ?_
   refine sN ?_
   refine sN ?_
   refine rg0 hc 2 [(1, sI path1), (2, .ra 1 0), (4, .ra 2 0), (8, .ra 8 0), (29, .bool (!r_4_1_1))] [(1, bTerm t0), (2, .box [I 0, I 0, .nils, .nils]), (6, .arr (List.map I r_4_1_0.fType)), (7, .arr (List.map GTerm_O r_4_1_0.fKids)), (8, .box [I r_4_1_0.fOp, I r_4_1_0.fN, .rs 6, .rs 7])] ?_
   refine seqQ_norm ?_
   rcases itesome h with ⟨hb_4, h⟩ | ⟨hb_4, h⟩
   ·refine cF (!r_4_1_1) (nF hb_4) ?_
    refine Wp.skipN (by kernel_rfl) ?_
    refine seqQ_norm ?_
    refine sN ?_
    obtain ⟨⟨r_7_3_0, r_7_3_1⟩, hr_7_3, h⟩ := bsome h
    refine rg hc none [oN, oN, oN, some (.call (.tup [qTerm r_7_3_0, .bool r_7_3_1]) [] 9), oN, oN, oN, oN] [(4, .ra 2 0), (5, .bool r_7_3_1)] [(2, .box [I r_7_3_0.fOp, I r_7_3_0.fN, .rs 9, .rs 10]), (9, .arr (List.map I r_7_3_0.fType)), (10, .arr (List.map GTerm_O r_7_3_0.fKids))] (ai (FnSound.args (A1 := [aTerm t0, sI path1, hTerm r_4_1_0]) (A2 := [aTerm t0, sI path1, aTerm r_4_1_0]) (by simp only [sI, sB, aTerm, hTerm, List.map_nil, sh_GTerm_O, sh_I]) (spec_ReplaceAt_s _ _ hr_7_3)) (ai bod_91 (ai (Or.inr (nsh_cons (nsh_cons rfl (nsh_cons rfl (nsh_cons (nsh_row nsh_I r_7_3_0.fType) (nsh_cons (nsh_row nsh_GTerm_O r_7_3_0.fKids) rfl)))) (nsh_cons rfl rfl)) : ([6, 7] : List Nat) = [] ∨ noSh (.tup [qTerm r_7_3_0, .bool r_7_3_1]) = true) trivial))) ?_
    refine seqQ_norm ?_
    refine Wp.retN (by kernel_rfl) ?_
    obtain rfl := Option.some.inj h
    exact RetQ.ret (fl := [true, true]) (by kernel_rfl)
   ·refine cT (!r_4_1_1) (nT hb_4) ?_
    refine sN ?_
    refine rg0 hc 3 [(4, .ra 2 0), (5, .bool false)] [(2, .box [I 0, I 0, .nils, .nils])] ?_
    refine seqQ_norm ?_
    refine Wp.retN (by kernel_rfl) ?_
    refine seqQ_ret ?_
    obtain rfl := Option.some.inj h
    exact RetQ.ret (fl := [true, true]) (by kernel_rfl)
def spec_StepTerm (t0 : GTerm) : Option (GTerm × Bool) :=
  (spec_RedexesOf t0) >>= fun r_1_1 =>
  if ((r_1_1.length : Int) == 0) = true then
   some ((GTerm.mk 0 0 [] []), false)
  else
   (idx r_1_1 0) >>= fun e_4_x =>
   (spec_ContractAt (t0, e_4_x)) >>= fun (r_4_4_0, r_4_4_1) =>
   some (r_4_4_0, r_4_4_1)
def M_spec_StepTerm (t0 : GTerm) (r : GTerm × Bool) : Prop :=
 FnSound Try.prog 20 [aTerm t0] (.tup [.agg [I r.1.fOp, I r.1.fN, .osl (List.map I r.1.fType), .osl (List.map GTerm_O r.1.fKids)], .bool r.2]) []
theorem spec_StepTerm_s : ∀ p r, spec_StepTerm p = some r → M_spec_StepTerm p r := by
 rintro t0 r h
 unfold spec_StepTerm at h
 show FnSound Try.prog 20 [aTerm t0] (.tup [.agg [I r.1.fOp, I r.1.fN, .osl (List.map I r.1.fType), .osl (List.map GTerm_O r.1.fKids)], .bool r.2]) []
 refine FnSound.body0 tiok (fn := Try.f20) (code := B20) (by kernel_rfl) (by kernel_rfl) (by kernel_rfl) (by kernel_rfl) (nt := 18) (by kernel_rfl) (by kernel_rfl) (T := [(0, aTerm t0)]) (O := []) (by kernel_rfl) (by kernel_rfl) (fun c hc => ?_)
 refine sN ?_
 refine rg hc none [some (.new 1), some (.new 2), oN] [(1, .ra 1 0), (2, .ra 2 0)] [(1, bTerm t0), (2, .box [I 0, I 0, .nils, .nils])] trivial ?_
 refine seqQ_norm ?_
 refine sN ?_
 obtain ⟨r_1_1, hr_1_1, h⟩ := bsome h
 refine rg hc none [oN, some (.call (.osl (List.map LI_o r_1_1)) [] 3), oN] [(1, .ra 1 0), (2, .ra 2 0), (4, .rs 3)] [(1, bTerm t0), (2, .box [I 0, I 0, .nils, .nils]), (3, .arr (List.map LI_o r_1_1))] (ai (spec_RedexesOf_s _ _ hr_1_1) (ai bod_49 (ai (oi (.osl (List.map LI_o r_1_1))) trivial))) ?_
 refine seqQ_norm ?_
 refine sN ?_
 refine sN ?_
 refine rg hc none [oN, some (.eqv (.no) ⟨[(8, I (r_1_1.length : Int))], [], []⟩), oN] [(1, .ra 1 0), (2, .ra 2 0), (4, .rs 3), (9, .bool ((r_1_1.length : Int) == 0))] [(1, bTerm t0), (2, .box [I 0, I 0, .nils, .nils]), (3, .arr (List.map LI_o r_1_1))] (ai (lenT (d := 8) LI_o r_1_1) trivial) ?_
 refine seqQ_norm ?_
 rcases itesome h with ⟨hb_1, h⟩ | ⟨hb_1, h⟩
 ·refine cT (((r_1_1.length : Int) == 0)) hb_1 ?_
  refine sN ?_
  refine rg0 hc 3 [(2, .ra 2 0), (3, .bool false)] [(2, .box [I 0, I 0, .nils, .nils])] ?_
  refine seqQ_norm ?_
  refine Wp.retN (by kernel_rfl) ?_
  refine seqQ_ret ?_
  obtain rfl := Option.some.inj h
  exact RetQ.ret (fl := [true, true]) (by kernel_rfl)
 ·refine cF (((r_1_1.length : Int) == 0)) hb_1 ?_
  refine Wp.skipN (by kernel_rfl) ?_
  refine seqQ_norm ?_
  refine sN ?_
  obtain ⟨e_4_x, hx_4_x, h⟩ := bsome h
  refine Wp.view (fun a w hv => SRx.openL 3 (Int.toNat 0) 0 4 [1, 2, 3, 4] (xs := List.map LI_o r_1_1) (ys := List.map I e_4_x) (x0 := .osl (List.map I e_4_x)) hv (by kernel_rfl) (idx_sl (enc := LI_o) (x := .osl (List.map I e_4_x)) hx_4_x (eq_LI_o e_4_x)).2 (by kernel_rfl) (by kernel_rfl) (by kernel_rfl)) (?_ : Wp Try.prog c _ _ (mkS [(1, .ra 1 0), (2, .ra 2 0), (4, .rs 3), (9, .bool ((r_1_1.length : Int) == 0))] [(1, bTerm t0), (2, .box [I 0, I 0, .nils, .nils]), (3, .arx (List.map LI_o r_1_1) (Int.toNat 0) 0 4), (4, .arr (List.map I e_4_x))]))
  obtain ⟨⟨r_4_4_0, r_4_4_1⟩, hr_4_4, h⟩ := bsome h
  refine rg hc (rx [[0], [0], [0, 1], [0, 1, 2], [4], [5], [5], [7], [8]]) [oN, oN, oN, some (.el (.osl (List.map I e_4_x))), some (.call (.tup [qTerm r_4_4_0, .bool r_4_4_1]) [] 5), oN, oN, oN, oN] [(2, .ra 2 0), (3, .bool r_4_4_1)] [(2, .box [I r_4_4_0.fOp, I r_4_4_0.fN, .rs 5, .rs 6]), (5, .arr (List.map I r_4_4_0.fType)), (6, .arr (List.map GTerm_O r_4_4_0.fKids))] (ai (idx_own (enc := LI_o) hx_4_x) (ai (And.intro (idx_sl (enc := LI_o) (x := .osl (List.map I e_4_x)) hx_4_x (eq_LI_o e_4_x)).2 (rfl : Int.toNat 0 = Int.toNat 0)) (ai (FnSound.args (A1 := [aTerm t0, .sl (shares (List.map I e_4_x))]) (A2 := [aTerm t0, sI e_4_x]) (by simp only [sI, sB, aTerm, hTerm, List.map_nil, sh_I]) (spec_ContractAt_s _ _ hr_4_4)) (ai bod_50 (ai (Or.inr (nsh_cons (nsh_cons rfl (nsh_cons rfl (nsh_cons (nsh_row nsh_I r_4_4_0.fType) (nsh_cons (nsh_row nsh_GTerm_O r_4_4_0.fKids) rfl)))) (nsh_cons rfl rfl)) : ([4] : List Nat) = [] ∨ noSh (.tup [qTerm r_4_4_0, .bool r_4_4_1]) = true) trivial))))) ?_
  refine seqQ_norm ?_
  refine Wp.retN (by kernel_rfl) ?_
  obtain rfl := Option.some.inj h
  exact RetQ.ret (fl := [true, true]) (by kernel_rfl)
def spec_NormalForm_F1 (c : Ctx) : (Int × Int × Int × (List Int) × (List GTerm)) ⊕ ((GTerm × Int × Bool)) → Exit → AState → Prop
 | .inl (n_17, x_18, x_19, x_20, x_21) => Into c (.exit 0) (mkS [(4, .ra 2 0), (7, I n_17), (8, .ra 5 0)] [(2, .box [I 0, I 0, .nils, .nils]), (3, .arr (List.map I x_20)), (4, .arr (List.map GTerm_O x_21)), (5, .box [I x_18, I x_19, .rs 3, .rs 4])])
 | .inr r => RetE TIx Try.f24 [] (.tup [.agg [I r.1.fOp, I r.1.fN, .osl (List.map I r.1.fType), .osl (List.map GTerm_O r.1.fKids)], I r.2.1, .bool r.2.2])
def spec_NormalForm_l0 (p : Int × Int × Int × Int × (List Int) × (List GTerm)) : Option ((Int × Int × Int × (List Int) × (List GTerm)) ⊕ ((GTerm × Int × Bool))) :=
 match p with
 | (most1, n_8, x_9, x_10, x_11, x_12) =>
  (spec_IsNormal (GTerm.mk x_9 x_10 x_11 x_12)) >>= fun r_5_1 =>
  if r_5_1 = true then
   some (.inl (n_8, x_9, x_10, x_11, x_12))
  else
   (spec_StepTerm (GTerm.mk x_9 x_10 x_11 x_12)) >>= fun (r_6_1_0, r_6_1_1) =>
   (
    if r_6_1_1 = true then
     some ((n_8 == most1))
    else
     some (true)
   ) >>= fun v_14 =>
   if v_14 = true then
    some (.inr ((GTerm.mk 0 0 [] []), 0, false))
   else
    spec_NormalForm_l0 (most1, (wr (n_8 + 1)), r_6_1_0.fOp, r_6_1_0.fN, r_6_1_0.fType, r_6_1_0.fKids)
 partial_fixpoint
def M_spec_NormalForm_l0 (p : Int × Int × Int × Int × (List Int) × (List GTerm)) (fl : (Int × Int × Int × (List Int) × (List GTerm)) ⊕ ((GTerm × Int × Bool))) : Prop :=
 match p with
 | (most1, n_8, x_9, x_10, x_11, x_12) => ∀ c : Ctx, c.nt = 43 → WpL Try.prog c (cl (cl (cl (cr (cr (cr (cr B24))))))) (spec_NormalForm_F1 c fl) (mkS [(1, I most1), (4, .ra 2 0), (7, I n_8), (8, .ra 5 0)] [(2, .box [I 0, I 0, .nils, .nils]), (3, .arr (List.map I x_11)), (4, .arr (List.map GTerm_O x_12)), (5, .box [I x_9, I x_10, .rs 3, .rs 4])])
theorem spec_NormalForm_l0_s : ∀ p r, spec_NormalForm_l0 p = some r → M_spec_NormalForm_l0 p r := by
 refine spec_NormalForm_l0.partial_correctness M_spec_NormalForm_l0 ?_
 rintro spec_NormalForm_l0_f spec_NormalForm_l0_ih ⟨most1, n_8, x_9, x_10, x_11, x_12⟩ r h
 intro c hc
 show WpL Try.prog c (cl (cl (cl (cr (cr (cr (cr B24))))))) (spec_NormalForm_F1 c r) (mkS [(1, I most1), (4, .ra 2 0), (7, I n_8), (8, .ra 5 0)] [(2, .box [I 0, I 0, .nils, .nils]), (3, .arr (List.map I x_11)), (4, .arr (List.map GTerm_O x_12)), (5, .box [I x_9, I x_10, .rs 3, .rs 4])])
 refine WpL.step ?_
 refine sN ?_
 refine sN ?_
 obtain ⟨r_5_1, hr_5_1, h⟩ := bsome h
 refine rg hc none [oN, oc (.bool r_5_1), oN] [(1, I most1), (4, .ra 2 0), (7, I n_8), (8, .ra 5 0), (24, .bool (!r_5_1))] [(2, .box [I 0, I 0, .nils, .nils]), (3, .arr (List.map I x_11)), (4, .arr (List.map GTerm_O x_12)), (5, .box [I x_9, I x_10, .rs 3, .rs 4])] (ai (FnSound.args (A1 := [.agg [I x_9, I x_10, .sl (shares (List.map I x_11)), .sl (shares (List.map GTerm_O x_12))]]) (A2 := [.agg [I x_9, I x_10, sI x_11, .sl (List.map GTerm_S x_12)]]) (by simp only [sI, sB, aTerm, hTerm, List.map_nil, sh_GTerm_O, sh_I]) (spec_IsNormal_s _ _ hr_5_1)) (ai bod_59 (ai (Or.inr rfl : ([3, 4] : List Nat) = [] ∨ noSh (.bool r_5_1) = true) trivial))) ?_
 refine seqQ_norm ?_
 rcases itesome h with ⟨hb_13, h⟩ | ⟨hb_13, h⟩
 ·refine cF (!r_5_1) (nF hb_13) ?_
  refine Wp.exitN (i := 0) (by kernel_rfl) ?_
  refine seqQ_exit ?_
  refine loopQ_exit ?_
  obtain rfl := Option.some.inj h
  exact Into.view (fun a w hv => SRx.renL [] hv (by kernel_rfl) (by kernel_rfl) (by kernel_rfl))
 ·refine cT (!r_5_1) (nT hb_13) ?_
  refine Wp.skipN (by kernel_rfl) ?_
  refine seqQ_norm ?_
  refine Wp.blockN (i := 1) (by kernel_rfl) ?_
  refine sN ?_
  obtain ⟨⟨r_6_1_0, r_6_1_1⟩, hr_6_1, h⟩ := bsome h
  refine rg hc none [oN, some (.call (.tup [qTerm r_6_1_0, .bool r_6_1_1]) [] 9), oN, oN, oN, some (.new 11), oN, oN] [(1, I most1), (4, .ra 2 0), (7, I n_8), (8, .ra 5 0), (9, .ra 11 0), (10, .bool r_6_1_1)] [(2, .box [I 0, I 0, .nils, .nils]), (3, .arr (List.map I x_11)), (4, .arr (List.map GTerm_O x_12)), (5, .box [I x_9, I x_10, .rs 3, .rs 4]), (9, .arr (List.map I r_6_1_0.fType)), (10, .arr (List.map GTerm_O r_6_1_0.fKids)), (11, .box [I r_6_1_0.fOp, I r_6_1_0.fN, .rs 9, .rs 10])] (ai (FnSound.args (A1 := [.agg [I x_9, I x_10, .sl (shares (List.map I x_11)), .sl (shares (List.map GTerm_O x_12))]]) (A2 := [.agg [I x_9, I x_10, sI x_11, .sl (List.map GTerm_S x_12)]]) (by simp only [sI, sB, aTerm, hTerm, List.map_nil, sh_GTerm_O, sh_I]) (spec_StepTerm_s _ _ hr_6_1)) (ai bod_20 (ai (Or.inr (nsh_cons (nsh_cons rfl (nsh_cons rfl (nsh_cons (nsh_row nsh_I r_6_1_0.fType) (nsh_cons (nsh_row nsh_GTerm_O r_6_1_0.fKids) rfl)))) (nsh_cons rfl rfl)) : ([3, 4] : List Nat) = [] ∨ noSh (.tup [qTerm r_6_1_0, .bool r_6_1_1]) = true) trivial))) ?_
  refine seqQ_norm ?_
  refine sN ?_
  refine sN ?_
  obtain ⟨v_14, hj_15, h⟩ := bsome h
  refine Wp.into (x := .normal) (mkS [(1, I most1), (4, .ra 2 0), (7, I n_8), (8, .ra 5 0), (9, .ra 11 0), (36, .bool v_14)] [(2, .box [I 0, I 0, .nils, .nils]), (3, .arr (List.map I x_11)), (4, .arr (List.map GTerm_O x_12)), (5, .box [I x_9, I x_10, .rs 3, .rs 4]), (9, .arr (List.map I r_6_1_0.fType)), (10, .arr (List.map GTerm_O r_6_1_0.fKids)), (11, .box [I r_6_1_0.fOp, I r_6_1_0.fN, .rs 9, .rs 10])]) ?_ ?_
  ·replace h := hj_15
   rcases itesome h with ⟨hb_7_0, h⟩ | ⟨hb_7_0, h⟩
   ·refine rg hc none [oN, oN, oN, oN, oN, oN, oF] [(1, I most1), (4, .ra 2 0), (7, I n_8), (8, .ra 5 0), (9, .ra 11 0), (36, .bool (n_8 == most1))] [(2, .box [I 0, I 0, .nils, .nils]), (3, .arr (List.map I x_11)), (4, .arr (List.map GTerm_O x_12)), (5, .box [I x_9, I x_10, .rs 3, .rs 4]), (9, .arr (List.map I r_6_1_0.fType)), (10, .arr (List.map GTerm_O r_6_1_0.fKids)), (11, .box [I r_6_1_0.fOp, I r_6_1_0.fN, .rs 9, .rs 10])] (ar 4 (nF hb_7_0) trivial) ?_
    obtain rfl := Option.some.inj h
    exact Into.mk
   ·refine rg hc none [oN, oN, oN, o_, o_, o_, oT] [(1, I most1), (4, .ra 2 0), (7, I n_8), (8, .ra 5 0), (9, .ra 11 0), (36, .bool true)] [(2, .box [I 0, I 0, .nils, .nils]), (3, .arr (List.map I x_11)), (4, .arr (List.map GTerm_O x_12)), (5, .box [I x_9, I x_10, .rs 3, .rs 4]), (9, .arr (List.map I r_6_1_0.fType)), (10, .arr (List.map GTerm_O r_6_1_0.fKids)), (11, .box [I r_6_1_0.fOp, I r_6_1_0.fN, .rs 9, .rs 10])] (ar 3 (neF (nT hb_7_0)) (ai (nT hb_7_0) trivial)) ?_
    obtain rfl := Option.some.inj h
    exact Into.mk
  ·clear hj_15
   refine seqQ_norm ?_
   rcases itesome h with ⟨hb_16, h⟩ | ⟨hb_16, h⟩
   ·refine cT v_14 hb_16 ?_
    refine sN ?_
    refine rg0 hc 4 [(4, .ra 2 0), (5, I 0), (6, .bool false)] [(2, .box [I 0, I 0, .nils, .nils])] ?_
    refine seqQ_norm ?_
    refine Wp.retN (by kernel_rfl) ?_
    refine seqQ_ret ?_
    refine blockQ_ret ?_
    refine loopQ_ret ?_
    obtain rfl := Option.some.inj h
    exact RetE.ret (fl := [true, true, true]) (by kernel_rfl)
   ·refine cF v_14 hb_16 ?_
    refine Wp.skipN (by kernel_rfl) ?_
    refine seqQ_norm ?_
    refine sN ?_
    refine rg0 hc 2 [(1, I most1), (4, .ra 2 0), (7, I n_8), (8, .ra 5 0)] [(2, .box [I 0, I 0, .nils, .nils]), (5, .box [I r_6_1_0.fOp, I r_6_1_0.fN, .rs 9, .rs 10]), (9, .arr (List.map I r_6_1_0.fType)), (10, .arr (List.map GTerm_O r_6_1_0.fKids))] ?_
    refine seqQ_norm ?_
    refine rg0 hc 3 [(1, I most1), (4, .ra 2 0), (7, I (wr (n_8 + 1))), (8, .ra 5 0)] [(2, .box [I 0, I 0, .nils, .nils]), (5, .box [I r_6_1_0.fOp, I r_6_1_0.fN, .rs 9, .rs 10]), (9, .arr (List.map I r_6_1_0.fType)), (10, .arr (List.map GTerm_O r_6_1_0.fKids))] ?_
    refine blockQ_norm ?_
    refine loopQ_norm ?_
    exact WpL.view (fun a w hv => SRx.renL [(3, 9), (4, 10)] hv (by kernel_rfl) (by kernel_rfl) (by kernel_rfl)) (spec_NormalForm_l0_ih _ _ h c hc)
def spec_NormalForm (p : GTerm × Int) : Option (GTerm × Int × Bool) :=
 match p with
 | (t0, most1) =>
  (
   (spec_IsWritten t0) >>= fun r_1_1 =>
   if r_1_1 = true then
    (spec_l1In (most1, 0, 300)) >>= fun r_1_5 =>
    some ((!r_1_5))
   else
    some (true)
  ) >>= fun v_1 =>
  if v_1 = true then
   some ((GTerm.mk 0 0 [] []), 0, false)
  else
   (spec_l2Shift (t0, 0, 0)) >>= fun r_4_1 =>
   (spec_NormalForm_l0 (most1, 0, r_4_1.fOp, r_4_1.fN, r_4_1.fType, r_4_1.fKids)) >>= fun fl => match fl with
   | .inl (n_17, x_18, x_19, x_20, x_21) =>
    some ((GTerm.mk x_18 x_19 x_20 x_21), n_17, true)
   | .inr r =>
    some r
def M_spec_NormalForm (p : GTerm × Int) (r : GTerm × Int × Bool) : Prop :=
 match p with
 | (t0, most1) => FnSound Try.prog 24 [aTerm t0, I most1] (.tup [.agg [I r.1.fOp, I r.1.fN, .osl (List.map I r.1.fType), .osl (List.map GTerm_O r.1.fKids)], I r.2.1, .bool r.2.2]) []
theorem spec_NormalForm_s : ∀ p r, spec_NormalForm p = some r → M_spec_NormalForm p r := by
 rintro ⟨t0, most1⟩ r h
 unfold spec_NormalForm at h
 show FnSound Try.prog 24 [aTerm t0, I most1] (.tup [.agg [I r.1.fOp, I r.1.fN, .osl (List.map I r.1.fType), .osl (List.map GTerm_O r.1.fKids)], I r.2.1, .bool r.2.2]) []
 refine FnSound.body0 tiok (fn := Try.f24) (code := B24) (by kernel_rfl) (by kernel_rfl) (by kernel_rfl) (by kernel_rfl) (nt := 43) (by kernel_rfl) (by kernel_rfl) (T := [(0, aTerm t0), (1, I most1)]) (O := []) (by kernel_rfl) (by kernel_rfl) (fun c hc => ?_)
 refine sN ?_
 refine rg hc none [some (.new 1), some (.new 2), oN, oN] [(1, I most1), (2, .ra 1 0), (4, .ra 2 0)] [(1, bTerm t0), (2, .box [I 0, I 0, .nils, .nils])] trivial ?_
 refine seqQ_norm ?_
 refine sN ?_
 refine sN ?_
 obtain ⟨v_1, hj_2, h⟩ := bsome h
 refine Wp.into (x := .normal) (mkS [(1, I most1), (2, .ra 1 0), (4, .ra 2 0), (18, .bool v_1)] [(1, bTerm t0), (2, .box [I 0, I 0, .nils, .nils])]) ?_ ?_
 ·replace h := hj_2
  obtain ⟨r_1_1, hr_1_1, h⟩ := bsome h
  rcases itesome h with ⟨hb_1_0, h⟩ | ⟨hb_1_0, h⟩
  ·obtain ⟨r_1_5, hr_1_5, h⟩ := bsome h
   refine rg hc none [oN, oc (.bool r_1_1), oN, oN, oN, oc (.bool r_1_5), oN, oF] [(1, I most1), (2, .ra 1 0), (4, .ra 2 0), (18, .bool (!r_1_5))] [(1, bTerm t0), (2, .box [I 0, I 0, .nils, .nils])] (ai (spec_IsWritten_s _ _ hr_1_1) (ai bod_56 (ai (oi (.bool r_1_1)) (ar 2 (nF hb_1_0) (ai (spec_l1In_s _ _ hr_1_5) (ai bod_57 (ai (oi (.bool r_1_5)) (ar 2 (nF hb_1_0) trivial)))))))) ?_
   obtain rfl := Option.some.inj h
   exact Into.mk
  ·refine rg hc none [oN, oc (.bool r_1_1), oN, oN, o_, o_, o_, oT] [(1, I most1), (2, .ra 1 0), (4, .ra 2 0), (18, .bool true)] [(1, bTerm t0), (2, .box [I 0, I 0, .nils, .nils])] (ai (spec_IsWritten_s _ _ hr_1_1) (ai bod_56 (ai (oi (.bool r_1_1)) (ar 3 (neF (nT hb_1_0)) (ai (nT hb_1_0) trivial))))) ?_
   obtain rfl := Option.some.inj h
   exact Into.mk
 ·clear hj_2
  refine seqQ_norm ?_
  rcases itesome h with ⟨hb_3, h⟩ | ⟨hb_3, h⟩
  ·refine cT v_1 hb_3 ?_
   refine sN ?_
   refine rg0 hc 4 [(4, .ra 2 0), (5, I 0), (6, .bool false)] [(2, .box [I 0, I 0, .nils, .nils])] ?_
   refine seqQ_norm ?_
   refine Wp.retN (by kernel_rfl) ?_
   refine seqQ_ret ?_
   obtain rfl := Option.some.inj h
   exact RetQ.ret (fl := [true, true, true]) (by kernel_rfl)
  ·refine cF v_1 hb_3 ?_
   refine Wp.skipN (by kernel_rfl) ?_
   refine seqQ_norm ?_
   refine sN ?_
   refine rg0 hc 1 [(1, I most1), (2, .ra 1 0), (4, .ra 2 0), (7, I 0)] [(1, bTerm t0), (2, .box [I 0, I 0, .nils, .nils])] ?_
   refine seqQ_norm ?_
   refine sN ?_
   obtain ⟨r_4_1, hr_4_1, h⟩ := bsome h
   refine rg hc none [oN, some (.call (qTerm r_4_1) [] 3), some (.new 5), oN] [(1, I most1), (4, .ra 2 0), (7, I 0), (8, .ra 5 0)] [(2, .box [I 0, I 0, .nils, .nils]), (3, .arr (List.map I r_4_1.fType)), (4, .arr (List.map GTerm_O r_4_1.fKids)), (5, .box [I r_4_1.fOp, I r_4_1.fN, .rs 3, .rs 4])] (ai (spec_l2Shift_s _ _ hr_4_1) (ai bod_58 (ai (oi (qTerm r_4_1)) trivial))) ?_
   refine seqQ_norm ?_
   refine sN ?_
   refine Wp.blockN (i := 0) (by kernel_rfl) ?_
   obtain ⟨fl, hl_22, h⟩ := bsome h
   have hL := spec_NormalForm_l0_s _ _ hl_22 c hc
   refine Wp.loopN (by kernel_rfl) ?_
   rcases fl with ⟨n_17, x_18, x_19, x_20, x_21⟩ | r
   ·refine WpL.into (e := (.exit 0)) (mkS [(4, .ra 2 0), (7, I n_17), (8, .ra 5 0)] [(2, .box [I 0, I 0, .nils, .nils]), (3, .arr (List.map I x_20)), (4, .arr (List.map GTerm_O x_21)), (5, .box [I x_18, I x_19, .rs 3, .rs 4])]) hL ?_
    refine blockQ_hit ?_
    refine seqQ_norm ?_
    refine sN ?_
    refine rg0 hc 5 [(4, .ra 2 0), (5, I n_17), (6, .bool true)] [(2, .box [I x_18, I x_19, .rs 3, .rs 4]), (3, .arr (List.map I x_20)), (4, .arr (List.map GTerm_O x_21))] ?_
    refine seqQ_norm ?_
    refine Wp.retN (by kernel_rfl) ?_
    obtain rfl := Option.some.inj h
    exact RetQ.ret (fl := [true, true, true]) (by kernel_rfl)
   ·refine WpL.mono hL ?_
    rintro _ _ ⟨rfl, hfin⟩
    refine blockQ_ret ?_
    refine seqQ_ret ?_
    obtain rfl := Option.some.inj h
    exact ⟨.inl rfl, hfin⟩
def impl_within (p : Int × Int × Int) : Option (Bool) :=
 match p with
 | (n0, low1, high2) =>
  (
   if (decide (n0 ≥ low1)) = true then
    some ((decide (n0 ≤ high2)))
   else
    some (false)
  ) >>= fun v_1 =>
  some v_1
def M_impl_within (p : Int × Int × Int) (r : Bool) : Prop :=
 match p with
 | (n0, low1, high2) => FnSound Try.prog 61 [I n0, I low1, I high2] (.bool r) []
theorem impl_within_s : ∀ p r, impl_within p = some r → M_impl_within p r := by
 rintro ⟨n0, low1, high2⟩ r h
 unfold impl_within at h
 show FnSound Try.prog 61 [I n0, I low1, I high2] (.bool r) []
 refine FnSound.body0 tiok (fn := Try.f61) (code := B61) (by kernel_rfl) (by kernel_rfl) (by kernel_rfl) (by kernel_rfl) (nt := 15) (by kernel_rfl) (by kernel_rfl) (T := [(0, I n0), (1, I low1), (2, I high2)]) (O := []) (by kernel_rfl) (by kernel_rfl) (fun c hc => ?_)
 refine sN ?_
 refine rg0 hc 1 [(0, I n0), (1, I low1), (2, I high2)] [] ?_
 refine seqQ_norm ?_
 refine sN ?_
 obtain ⟨v_1, hj_2, h⟩ := bsome h
 refine Wp.into (x := .normal) (mkS [(6, .bool v_1)] []) ?_ ?_
 ·replace h := hj_2
  rcases itesome h with ⟨hb_1_0, h⟩ | ⟨hb_1_0, h⟩
  ·refine rg hc none [oN, oN, oN, oN, oN, oN, oN, oT, oN] [(6, .bool (decide (n0 ≤ high2)))] [] (ar 4 hb_1_0 trivial) ?_
   obtain rfl := Option.some.inj h
   exact Into.mk
  ·refine rg hc none [oN, oN, oN, oN, o_, o_, o_, oF, oN] [(6, .bool false)] [] (ar 3 (neT hb_1_0) (ai hb_1_0 trivial)) ?_
   obtain rfl := Option.some.inj h
   exact Into.mk
 ·clear hj_2
  refine seqQ_norm ?_
  refine Wp.retN (by kernel_rfl) ?_
  obtain rfl := Option.some.inj h
  exact RetQ.ret (fl := [true]) (by kernel_rfl)
def impl_formOf (op0 : Int) : Option (GForm × Bool) :=
  (impl_within (op0, 0, 12)) >>= fun r_1_1 =>
  if r_1_1 = true then
   (idx [(GForm.mk (ByteArray.mk #[120]) 0 false false), (GForm.mk ByteArray.empty 0 false false), (GForm.mk (ByteArray.mk #[97, 100, 100]) 2 false false), (GForm.mk (ByteArray.mk #[105, 102]) 3 false false), (GForm.mk (ByteArray.mk #[112, 97, 105, 114]) 2 false false), (GForm.mk (ByteArray.mk #[115, 112, 108, 105, 116]) 2 true false), (GForm.mk (ByteArray.mk #[108, 101, 102, 116]) 1 false true), (GForm.mk (ByteArray.mk #[114, 105, 103, 104, 116]) 1 false true), (GForm.mk (ByteArray.mk #[99, 97, 115, 101]) 3 true false), (GForm.mk (ByteArray.mk #[102, 117, 110]) 1 true true), (GForm.mk (ByteArray.mk #[97, 112, 112]) 2 false false), (GForm.mk (ByteArray.mk #[98, 111, 120]) 1 true false), (GForm.mk (ByteArray.mk #[111, 112, 101, 110]) 2 true false)] op0) >>= fun e_3_15 =>
   some (e_3_15, true)
  else
   some ((GForm.mk ByteArray.empty 0 false false), false)
def M_impl_formOf (op0 : Int) (r : GForm × Bool) : Prop :=
 FnSound Try.prog 149 [I op0] (.tup [.agg [.str r.1.fword, I r.1.fkids, .bool r.1.fgrade, .bool r.1.ftyped], .bool r.2]) []
theorem impl_formOf_s : ∀ p r, impl_formOf p = some r → M_impl_formOf p r := by
 rintro op0 r h
 unfold impl_formOf at h
 show FnSound Try.prog 149 [I op0] (.tup [.agg [.str r.1.fword, I r.1.fkids, .bool r.1.fgrade, .bool r.1.ftyped], .bool r.2]) []
 refine FnSound.body0 tiok (fn := Try.f149) (code := B149) (by kernel_rfl) (by kernel_rfl) (by kernel_rfl) (by kernel_rfl) (nt := 25) (by kernel_rfl) (by kernel_rfl) (T := [(0, I op0)]) (O := []) (by kernel_rfl) (by kernel_rfl) (fun c hc => ?_)
 refine sN ?_
 refine rg hc none [some (.new 1), oN] [(0, I op0), (2, .ra 1 0)] [(1, .box [.str ByteArray.empty, I 0, .bool false, .bool false])] trivial ?_
 refine seqQ_norm ?_
 refine sN ?_
 refine sN ?_
 obtain ⟨r_1_1, hr_1_1, h⟩ := bsome h
 refine rg hc none [oN, oc (.bool r_1_1), oN] [(0, I op0), (2, .ra 1 0), (6, .bool (!r_1_1))] [(1, .box [.str ByteArray.empty, I 0, .bool false, .bool false])] (ai (impl_within_s _ _ hr_1_1) (ai bod_61 (ai (oi (.bool r_1_1)) trivial))) ?_
 refine seqQ_norm ?_
 rcases itesome h with ⟨hb_1, h⟩ | ⟨hb_1, h⟩
 ·refine cF (!r_1_1) (nF hb_1) ?_
  refine Wp.skipN (by kernel_rfl) ?_
  refine seqQ_norm ?_
  refine sN ?_
  obtain ⟨e_3_15, hi_3_15, h⟩ := bsome h
  refine rg hc none [oN, oN, oN, oN, oN, oN, oN, oN, oN, oN, oN, oN, oN, some (.mk 2 true), oN, oN, some (.el (.agg [.str e_3_15.fword, I e_3_15.fkids, .bool e_3_15.fgrade, .bool e_3_15.ftyped])), oN, oN] [(2, .ra 1 0), (3, .bool true)] [(1, .box [.str e_3_15.fword, I e_3_15.fkids, .bool e_3_15.fgrade, .bool e_3_15.ftyped])] (ai (idx_own (enc := GForm_v) hi_3_15) (ai (idx_sl (enc := GForm_v) (x := .agg [.str e_3_15.fword, I e_3_15.fkids, .bool e_3_15.fgrade, .bool e_3_15.ftyped]) hi_3_15 (eq_GForm_v e_3_15)).2 trivial)) ?_
  refine seqQ_norm ?_
  refine Wp.retN (by kernel_rfl) ?_
  obtain rfl := Option.some.inj h
  exact RetQ.ret (fl := [true, true]) (by kernel_rfl)
 ·refine cT (!r_1_1) (nT hb_1) ?_
  refine sN ?_
  refine rg0 hc 3 [(2, .ra 1 0), (3, .bool false)] [(1, .box [.str ByteArray.empty, I 0, .bool false, .bool false])] ?_
  refine seqQ_norm ?_
  refine Wp.retN (by kernel_rfl) ?_
  refine seqQ_ret ?_
  obtain rfl := Option.some.inj h
  exact RetQ.ret (fl := [true, true]) (by kernel_rfl)
def impl_writtenSize_c1 (g0 : Int) : Option (Bool) :=
  (impl_within (g0, (-1), 15)) >>= fun r_1_1 =>
  some r_1_1
def M_impl_writtenSize_c1 (g0 : Int) (r : Bool) : Prop :=
 FnSound Try.prog 133 [I g0] (.bool r) []
theorem impl_writtenSize_c1_s : ∀ p r, impl_writtenSize_c1 p = some r → M_impl_writtenSize_c1 p r := by
 rintro g0 r h
 unfold impl_writtenSize_c1 at h
 show FnSound Try.prog 133 [I g0] (.bool r) []
 refine FnSound.body0 tiok (fn := Try.f133) (code := B133) (by kernel_rfl) (by kernel_rfl) (by kernel_rfl) (by kernel_rfl) (nt := 5) (by kernel_rfl) (by kernel_rfl) (T := [(0, I g0)]) (O := []) (by kernel_rfl) (by kernel_rfl) (fun c hc => ?_)
 refine sN ?_
 refine rg0 hc 1 [(0, I g0)] [] ?_
 refine seqQ_norm ?_
 refine sN ?_
 obtain ⟨r_1_1, hr_1_1, h⟩ := bsome h
 refine rg hc none [oN, oc (.bool r_1_1), oN] [(2, .bool r_1_1)] [] (ai (impl_within_s _ _ hr_1_1) (ai bod_61 (ai (oi (.bool r_1_1)) trivial))) ?_
 refine seqQ_norm ?_
 refine Wp.retN (by kernel_rfl) ?_
 obtain rfl := Option.some.inj h
 exact RetQ.ret (fl := [true]) (by kernel_rfl)
def impl_shape (code0 : Int) : Option (Int × Int) :=
  (impl_within (code0, 0, 2)) >>= fun r_1_1 =>
  if r_1_1 = true then
   some (code0, (-1))
  else
   (impl_within (code0, 3, 18)) >>= fun r_3_1 =>
   if r_3_1 = true then
    some (3, (wr (code0 - 3)))
   else
    (impl_within (code0, 19, 34)) >>= fun r_5_1 =>
    if r_5_1 = true then
     some (4, (wr (code0 - 19)))
    else
     if (code0 == 35) = true then
      some (3, (-1))
     else
      if (code0 == 36) = true then
       some (4, (-1))
      else
       some (5, (-1))
def M_impl_shape (code0 : Int) (r : Int × Int) : Prop :=
 FnSound Try.prog 77 [I code0] (.tup [I r.1, I r.2]) []
theorem impl_shape_s : ∀ p r, impl_shape p = some r → M_impl_shape p r := by
 rintro code0 r h
 unfold impl_shape at h
 show FnSound Try.prog 77 [I code0] (.tup [I r.1, I r.2]) []
 refine FnSound.body0 tiok (fn := Try.f77) (code := B77) (by kernel_rfl) (by kernel_rfl) (by kernel_rfl) (by kernel_rfl) (nt := 24) (by kernel_rfl) (by kernel_rfl) (T := [(0, I code0)]) (O := []) (by kernel_rfl) (by kernel_rfl) (fun c hc => ?_)
 refine sN ?_
 refine rg0 hc 2 [(0, I code0)] [] ?_
 refine seqQ_norm ?_
 refine sN ?_
 refine Wp.blockN (i := 0) (by kernel_rfl) ?_
 refine sN ?_
 obtain ⟨r_1_1, hr_1_1, h⟩ := bsome h
 refine rg hc none [oN, oc (.bool r_1_1), oN] [(0, I code0), (4, .bool r_1_1)] [] (ai (impl_within_s _ _ hr_1_1) (ai bod_61 (ai (oi (.bool r_1_1)) trivial))) ?_
 refine seqQ_norm ?_
 rcases itesome h with ⟨hb_1, h⟩ | ⟨hb_1, h⟩
 ·refine cT r_1_1 hb_1 ?_
  refine sN ?_
  refine rg0 hc 3 [(2, I code0), (3, I (-1))] [] ?_
  refine seqQ_norm ?_
  refine Wp.retN (by kernel_rfl) ?_
  refine blockQ_ret ?_
  refine seqQ_ret ?_
  obtain rfl := Option.some.inj h
  exact RetQ.ret (fl := [true, true]) (by kernel_rfl)
 ·refine cF r_1_1 hb_1 ?_
  refine sN ?_
  obtain ⟨r_3_1, hr_3_1, h⟩ := bsome h
  refine rg hc none [oN, oc (.bool r_3_1), oN] [(0, I code0), (8, .bool r_3_1)] [] (ai (impl_within_s _ _ hr_3_1) (ai bod_61 (ai (oi (.bool r_3_1)) trivial))) ?_
  refine seqQ_norm ?_
  rcases itesome h with ⟨hb_2, h⟩ | ⟨hb_2, h⟩
  ·refine cT r_3_1 hb_2 ?_
   refine sN ?_
   refine rg0 hc 4 [(2, I 3), (3, I (wr (code0 - 3)))] [] ?_
   refine seqQ_norm ?_
   refine Wp.retN (by kernel_rfl) ?_
   refine blockQ_ret ?_
   refine seqQ_ret ?_
   obtain rfl := Option.some.inj h
   exact RetQ.ret (fl := [true, true]) (by kernel_rfl)
  ·refine cF r_3_1 hb_2 ?_
   refine sN ?_
   obtain ⟨r_5_1, hr_5_1, h⟩ := bsome h
   refine rg hc none [oN, oc (.bool r_5_1), oN] [(0, I code0), (13, .bool r_5_1)] [] (ai (impl_within_s _ _ hr_5_1) (ai bod_61 (ai (oi (.bool r_5_1)) trivial))) ?_
   refine seqQ_norm ?_
   rcases itesome h with ⟨hb_3, h⟩ | ⟨hb_3, h⟩
   ·refine cT r_5_1 hb_3 ?_
    refine sN ?_
    refine rg0 hc 4 [(2, I 4), (3, I (wr (code0 - 19)))] [] ?_
    refine seqQ_norm ?_
    refine Wp.retN (by kernel_rfl) ?_
    refine blockQ_ret ?_
    refine seqQ_ret ?_
    obtain rfl := Option.some.inj h
    exact RetQ.ret (fl := [true, true]) (by kernel_rfl)
   ·refine cF r_5_1 hb_3 ?_
    refine sN ?_
    refine rg0 hc 3 [(0, I code0), (18, .bool (code0 == 35))] [] ?_
    refine seqQ_norm ?_
    rcases itesome h with ⟨hb_4, h⟩ | ⟨hb_4, h⟩
    ·refine cT ((code0 == 35)) hb_4 ?_
     refine sN ?_
     refine rg0 hc 2 [(2, I 3), (3, I (-1))] [] ?_
     refine seqQ_norm ?_
     refine Wp.retN (by kernel_rfl) ?_
     refine blockQ_ret ?_
     refine seqQ_ret ?_
     obtain rfl := Option.some.inj h
     exact RetQ.ret (fl := [true, true]) (by kernel_rfl)
    ·refine cF ((code0 == 35)) hb_4 ?_
     refine sN ?_
     refine rg0 hc 3 [(21, .bool (code0 == 36))] [] ?_
     refine seqQ_norm ?_
     rcases itesome h with ⟨hb_5, h⟩ | ⟨hb_5, h⟩
     ·refine cT ((code0 == 36)) hb_5 ?_
      refine sN ?_
      refine rg0 hc 2 [(2, I 4), (3, I (-1))] [] ?_
      refine seqQ_norm ?_
      refine Wp.retN (by kernel_rfl) ?_
      refine blockQ_ret ?_
      refine seqQ_ret ?_
      obtain rfl := Option.some.inj h
      exact RetQ.ret (fl := [true, true]) (by kernel_rfl)
     ·refine cF ((code0 == 36)) hb_5 ?_
      refine Wp.skipN (by kernel_rfl) ?_
      refine blockQ_norm ?_
      refine seqQ_norm ?_
      refine sN ?_
      refine rg0 hc 2 [(2, I 5), (3, I (-1))] [] ?_
      refine seqQ_norm ?_
      refine Wp.retN (by kernel_rfl) ?_
      obtain rfl := Option.some.inj h
      exact RetQ.ret (fl := [true, true]) (by kernel_rfl)
def impl_typeEnd (p : (List Int) × Int) : Option (Int) :=
 match p with
 | (ty0, at1) =>
  (
   if (decide (at1 < 0)) = true then
    some (true)
   else
    some ((decide (at1 ≥ (ty0.length : Int))))
  ) >>= fun v_1 =>
  if v_1 = true then
   some (-1)
  else
   (idx ty0 at1) >>= fun e_3_2 =>
   (impl_shape e_3_2) >>= fun (r_3_4_0, r_3_4_1) =>
   if (r_3_4_0 == 0) = true then
    some (wr (at1 + 1))
   else
    if (r_3_4_0 == 4) = true then
     (impl_typeEnd (ty0, (wr (at1 + 1)))) >>= fun r_8_3 =>
     some r_8_3
    else
     if (r_3_4_0 == 5) = true then
      some (-1)
     else
      (impl_typeEnd (ty0, (wr (at1 + 1)))) >>= fun r_11_4 =>
      (impl_typeEnd (ty0, r_11_4)) >>= fun r_11_5 =>
      some r_11_5
 partial_fixpoint
def M_impl_typeEnd (p : (List Int) × Int) (r : Int) : Prop :=
 match p with
 | (ty0, at1) => FnSound Try.prog 110 [sI ty0, I at1] (I r) []
theorem impl_typeEnd_s : ∀ p r, impl_typeEnd p = some r → M_impl_typeEnd p r := by
 refine impl_typeEnd.partial_correctness M_impl_typeEnd ?_
 rintro impl_typeEnd_f impl_typeEnd_ih ⟨ty0, at1⟩ r h
 show FnSound Try.prog 110 [sI ty0, I at1] (I r) []
 refine FnSound.body0 tiok (fn := Try.f110) (code := B110) (by kernel_rfl) (by kernel_rfl) (by kernel_rfl) (by kernel_rfl) (nt := 42) (by kernel_rfl) (by kernel_rfl) (T := [(0, sI ty0), (1, I at1)]) (O := []) (by kernel_rfl) (by kernel_rfl) (fun c hc => ?_)
 refine sN ?_
 refine rg0 hc 1 [(0, sI ty0), (1, I at1)] [] ?_
 refine seqQ_norm ?_
 refine sN ?_
 refine sN ?_
 obtain ⟨v_1, hj_2, h⟩ := bsome h
 refine Wp.into (x := .normal) (mkS [(0, sI ty0), (1, I at1), (14, .bool v_1)] []) ?_ ?_
 ·replace h := hj_2
  rcases itesome h with ⟨hb_1_0, h⟩ | ⟨hb_1_0, h⟩
  ·refine rg hc none [oN, oN, oN, o_, o_, o_, o_, oT] [(0, sI ty0), (1, I at1), (14, .bool true)] [] (ar 4 (neF hb_1_0) (ai hb_1_0 trivial)) ?_
   obtain rfl := Option.some.inj h
   exact Into.mk
  ·refine rg hc none [oN, oN, oN, oN, oN, some (.eqv (.no) ⟨[(12, I (ty0.length : Int))], [], []⟩), oN, oF] [(0, sI ty0), (1, I at1), (14, .bool (decide (at1 ≥ (ty0.length : Int))))] [] (ar 3 hb_1_0 (ai (lenT (d := 12) I ty0) (ar 2 hb_1_0 trivial))) ?_
   obtain rfl := Option.some.inj h
   exact Into.mk
 ·clear hj_2
  refine seqQ_norm ?_
  rcases itesome h with ⟨hb_3, h⟩ | ⟨hb_3, h⟩
  ·refine cT v_1 hb_3 ?_
   refine sN ?_
   refine rg0 hc 1 [(4, I (-1))] [] ?_
   refine seqQ_norm ?_
   refine Wp.retN (by kernel_rfl) ?_
   refine seqQ_ret ?_
   obtain rfl := Option.some.inj h
   exact RetQ.ret (fl := [true]) (by kernel_rfl)
  ·refine cF v_1 hb_3 ?_
   refine Wp.skipN (by kernel_rfl) ?_
   refine seqQ_norm ?_
   refine sN ?_
   obtain ⟨e_3_2, hi_3_2, h⟩ := bsome h
   obtain ⟨⟨r_3_4_0, r_3_4_1⟩, hr_3_4, h⟩ := bsome h
   refine rg hc none [oN, oN, some (.el (I e_3_2)), oN, oc (.tup [I r_3_4_0, I r_3_4_1]), oN, oN, oN, oN, oN] [(0, sI ty0), (1, I at1), (5, I r_3_4_0)] [] (ai (ix hi_3_2) (ai (impl_shape_s _ _ hr_3_4) (ai bod_77 (ai (oi (.tup [I r_3_4_0, I r_3_4_1])) trivial)))) ?_
   refine seqQ_norm ?_
   refine sN ?_
   refine sN ?_
   refine rg0 hc 1 [(0, sI ty0), (1, I at1), (23, I r_3_4_0)] [] ?_
   refine seqQ_norm ?_
   refine Wp.blockN (i := 0) (by kernel_rfl) ?_
   refine sN ?_
   refine rg0 hc 2 [(0, sI ty0), (1, I at1), (23, I r_3_4_0), (24, .bool (r_3_4_0 == 0))] [] ?_
   refine seqQ_norm ?_
   rcases itesome h with ⟨hb_4, h⟩ | ⟨hb_4, h⟩
   ·refine cT ((r_3_4_0 == 0)) hb_4 ?_
    refine sN ?_
    refine rg0 hc 3 [(4, I (wr (at1 + 1)))] [] ?_
    refine seqQ_norm ?_
    refine Wp.retN (by kernel_rfl) ?_
    refine blockQ_ret ?_
    refine seqQ_ret ?_
    obtain rfl := Option.some.inj h
    exact RetQ.ret (fl := [true]) (by kernel_rfl)
   ·refine cF ((r_3_4_0 == 0)) hb_4 ?_
    refine sN ?_
    refine rg0 hc 2 [(0, sI ty0), (1, I at1), (23, I r_3_4_0), (28, .bool (r_3_4_0 == 4))] [] ?_
    refine seqQ_norm ?_
    rcases itesome h with ⟨hb_5, h⟩ | ⟨hb_5, h⟩
    ·refine cT ((r_3_4_0 == 4)) hb_5 ?_
     refine sN ?_
     obtain ⟨r_8_3, hr_8_3, h⟩ := bsome h
     refine rg hc none [oN, oN, oN, oc (I r_8_3), oN] [(4, I r_8_3)] [] (ai (impl_typeEnd_ih _ _ hr_8_3) (ai bod_110 (ai (oi (I r_8_3)) trivial))) ?_
     refine seqQ_norm ?_
     refine Wp.retN (by kernel_rfl) ?_
     refine blockQ_ret ?_
     refine seqQ_ret ?_
     obtain rfl := Option.some.inj h
     exact RetQ.ret (fl := [true]) (by kernel_rfl)
    ·refine cF ((r_3_4_0 == 4)) hb_5 ?_
     refine sN ?_
     refine rg0 hc 2 [(0, sI ty0), (1, I at1), (34, .bool (r_3_4_0 == 5))] [] ?_
     refine seqQ_norm ?_
     rcases itesome h with ⟨hb_6, h⟩ | ⟨hb_6, h⟩
     ·refine cT ((r_3_4_0 == 5)) hb_6 ?_
      refine sN ?_
      refine rg0 hc 1 [(4, I (-1))] [] ?_
      refine seqQ_norm ?_
      refine Wp.retN (by kernel_rfl) ?_
      refine blockQ_ret ?_
      refine seqQ_ret ?_
      obtain rfl := Option.some.inj h
      exact RetQ.ret (fl := [true]) (by kernel_rfl)
     ·refine cF ((r_3_4_0 == 5)) hb_6 ?_
      refine Wp.skipN (by kernel_rfl) ?_
      refine blockQ_norm ?_
      refine seqQ_norm ?_
      refine sN ?_
      obtain ⟨r_11_4, hr_11_4, h⟩ := bsome h
      obtain ⟨r_11_5, hr_11_5, h⟩ := bsome h
      refine rg hc none [oN, oN, oN, oN, oc (I r_11_4), oc (I r_11_5), oN] [(4, I r_11_5)] [] (ai (impl_typeEnd_ih _ _ hr_11_4) (ai bod_110 (ai (oi (I r_11_4)) (ai (impl_typeEnd_ih _ _ hr_11_5) (ai bod_110 (ai (oi (I r_11_5)) trivial)))))) ?_
      refine seqQ_norm ?_
      refine Wp.retN (by kernel_rfl) ?_
      obtain rfl := Option.some.inj h
      exact RetQ.ret (fl := [true]) (by kernel_rfl)
def impl_isWrittenType (ty0 : (List Int)) : Option (Bool) :=
  (
   (impl_within ((ty0.length : Int), 1, 40)) >>= fun r_1_2 =>
   if r_1_2 = true then
    (impl_typeEnd (ty0, 0)) >>= fun r_1_5 =>
    some ((r_1_5 == (ty0.length : Int)))
   else
    some (false)
  ) >>= fun v_1 =>
  some v_1
def M_impl_isWrittenType (ty0 : (List Int)) (r : Bool) : Prop :=
 FnSound Try.prog 134 [sI ty0] (.bool r) []
theorem impl_isWrittenType_s : ∀ p r, impl_isWrittenType p = some r → M_impl_isWrittenType p r := by
 rintro ty0 r h
 unfold impl_isWrittenType at h
 show FnSound Try.prog 134 [sI ty0] (.bool r) []
 refine FnSound.body0 tiok (fn := Try.f134) (code := B134) (by kernel_rfl) (by kernel_rfl) (by kernel_rfl) (by kernel_rfl) (nt := 13) (by kernel_rfl) (by kernel_rfl) (T := [(0, sI ty0)]) (O := []) (by kernel_rfl) (by kernel_rfl) (fun c hc => ?_)
 refine sN ?_
 refine rg0 hc 1 [(0, sI ty0)] [] ?_
 refine seqQ_norm ?_
 refine sN ?_
 obtain ⟨v_1, hj_2, h⟩ := bsome h
 refine Wp.into (x := .normal) (mkS [(2, .bool v_1)] []) ?_ ?_
 ·replace h := hj_2
  obtain ⟨r_1_2, hr_1_2, h⟩ := bsome h
  rcases itesome h with ⟨hb_1_0, h⟩ | ⟨hb_1_0, h⟩
  ·obtain ⟨r_1_5, hr_1_5, h⟩ := bsome h
   refine rg hc none [oN, some (.eqv (.no) ⟨[(4, I (ty0.length : Int))], [], []⟩), oc (.bool r_1_2), oN, oN, oc (I r_1_5), oN, some (.eqv (.no) ⟨[(10, I (ty0.length : Int))], [], []⟩), oN, oT, oN] [(2, .bool (r_1_5 == (ty0.length : Int)))] [] (ai (lenT (d := 4) I ty0) (ai (impl_within_s _ _ hr_1_2) (ai bod_61 (ai (oi (.bool r_1_2)) (ar 2 hb_1_0 (ai (impl_typeEnd_s _ _ hr_1_5) (ai bod_110 (ai (oi (I r_1_5)) (ar 2 hb_1_0 (ai (lenT (d := 10) I ty0) (ar 2 hb_1_0 trivial))))))))))) ?_
   obtain rfl := Option.some.inj h
   exact Into.mk
  ·refine rg hc none [oN, some (.eqv (.no) ⟨[(4, I (ty0.length : Int))], [], []⟩), oc (.bool r_1_2), oN, o_, o_, o_, o_, o_, oF, oN] [(2, .bool false)] [] (ai (lenT (d := 4) I ty0) (ai (impl_within_s _ _ hr_1_2) (ai bod_61 (ai (oi (.bool r_1_2)) (ar 5 (neT hb_1_0) (ai hb_1_0 trivial)))))) ?_
   obtain rfl := Option.some.inj h
   exact Into.mk
 ·clear hj_2
  refine seqQ_norm ?_
  refine Wp.retN (by kernel_rfl) ?_
  obtain rfl := Option.some.inj h
  exact RetQ.ret (fl := [true]) (by kernel_rfl)
def impl_adds (p : Int × Int) : Option (Int) :=
 match p with
 | (op0, kid1) =>
  (
   if (op0 == 5) = true then
    some ((kid1 == 1))
   else
    some (false)
  ) >>= fun v_1 =>
  if v_1 = true then
   some 2
  else
   (
    if (op0 == 8) = true then
     some ((decide (kid1 > 0)))
    else
     some (false)
   ) >>= fun v_4 =>
   (
    if v_4 = true then
     some (v_4)
    else
     (
      if (op0 == 9) = true then
       some ((op0 == 9))
      else
       (
        if (op0 == 12) = true then
         some ((kid1 == 1))
        else
         some (false)
       ) >>= fun v_8 =>
       some (v_8)
     ) >>= fun j_10 =>
     some (j_10)
   ) >>= fun j_12 =>
   if j_12 = true then
    some 1
   else
    some 0
def M_impl_adds (p : Int × Int) (r : Int) : Prop :=
 match p with
 | (op0, kid1) => FnSound Try.prog 150 [I op0, I kid1] (I r) []
theorem impl_adds_s : ∀ p r, impl_adds p = some r → M_impl_adds p r := by
 rintro ⟨op0, kid1⟩ r h
 unfold impl_adds at h
 show FnSound Try.prog 150 [I op0, I kid1] (I r) []
 refine FnSound.body0 tiok (fn := Try.f150) (code := B150) (by kernel_rfl) (by kernel_rfl) (by kernel_rfl) (by kernel_rfl) (nt := 27) (by kernel_rfl) (by kernel_rfl) (T := [(0, I op0), (1, I kid1)]) (O := []) (by kernel_rfl) (by kernel_rfl) (fun c hc => ?_)
 refine sN ?_
 refine rg0 hc 1 [(0, I op0), (1, I kid1)] [] ?_
 refine seqQ_norm ?_
 refine sN ?_
 refine Wp.blockN (i := 0) (by kernel_rfl) ?_
 refine sN ?_
 obtain ⟨v_1, hj_2, h⟩ := bsome h
 refine Wp.into (x := .normal) (mkS [(0, I op0), (1, I kid1), (5, .bool v_1)] []) ?_ ?_
 ·replace h := hj_2
  rcases itesome h with ⟨hb_1_0, h⟩ | ⟨hb_1_0, h⟩
  ·refine rg hc none [oN, oN, oN, oN, oN, oT, oN] [(0, I op0), (1, I kid1), (5, .bool (kid1 == 1))] [] (ar 3 hb_1_0 trivial) ?_
   obtain rfl := Option.some.inj h
   exact Into.mk
  ·refine rg hc none [oN, oN, oN, o_, o_, oF, oN] [(0, I op0), (1, I kid1), (5, .bool false)] [] (ar 2 (neT hb_1_0) (ai hb_1_0 trivial)) ?_
   obtain rfl := Option.some.inj h
   exact Into.mk
 ·clear hj_2
  refine seqQ_norm ?_
  rcases itesome h with ⟨hb_3, h⟩ | ⟨hb_3, h⟩
  ·refine cT v_1 hb_3 ?_
   refine sN ?_
   refine rg0 hc 1 [(4, I 2)] [] ?_
   refine seqQ_norm ?_
   refine Wp.retN (by kernel_rfl) ?_
   refine blockQ_ret ?_
   refine seqQ_ret ?_
   obtain rfl := Option.some.inj h
   exact RetQ.ret (fl := [true]) (by kernel_rfl)
  ·refine cF v_1 hb_3 ?_
   refine sN ?_
   refine sN ?_
   obtain ⟨v_4, hj_5, h⟩ := bsome h
   refine Wp.into (x := .normal) (mkS [(0, I op0), (1, I kid1), (12, .bool v_4)] []) ?_ ?_
   ·replace h := hj_5
    rcases itesome h with ⟨hb_3_0, h⟩ | ⟨hb_3_0, h⟩
    ·refine rg hc none [oN, oN, oN, oN, oN, oT, oN] [(0, I op0), (1, I kid1), (12, .bool (decide (kid1 > 0)))] [] (ar 3 hb_3_0 trivial) ?_
     obtain rfl := Option.some.inj h
     exact Into.mk
    ·refine rg hc none [oN, oN, oN, o_, o_, oF, oN] [(0, I op0), (1, I kid1), (12, .bool false)] [] (ar 2 (neT hb_3_0) (ai hb_3_0 trivial)) ?_
     obtain rfl := Option.some.inj h
     exact Into.mk
   ·clear hj_5
    refine seqQ_norm ?_
    obtain ⟨j_12, hj_13, h⟩ := bsome h
    refine Wp.into (x := .normal) (mkS [(12, .bool j_12)] []) ?_ ?_
    ·replace h := hj_13
     rcases itesome h with ⟨hb_6, h⟩ | ⟨hb_6, h⟩
     ·refine cT v_4 hb_6 ?_
      refine Wp.skipN (by kernel_rfl) ?_
      obtain rfl := Option.some.inj h
      exact Into.view (fun a w hv => SRx.renL [] hv (by kernel_rfl) (by kernel_rfl) (by kernel_rfl))
     ·refine cF v_4 hb_6 ?_
      refine sN ?_
      refine rg0 hc 3 [(0, I op0), (1, I kid1), (12, .bool (op0 == 9))] [] ?_
      refine seqQ_norm ?_
      obtain ⟨j_10, hj_11, h⟩ := bsome h
      refine Wp.into (x := .normal) (mkS [(12, .bool j_10)] []) ?_ ?_
      ·replace h := hj_11
       rcases itesome h with ⟨hb_7, h⟩ | ⟨hb_7, h⟩
       ·refine cT ((op0 == 9)) hb_7 ?_
        refine Wp.skipN (by kernel_rfl) ?_
        obtain rfl := Option.some.inj h
        exact Into.view (fun a w hv => SRx.renL [] hv (by kernel_rfl) (by kernel_rfl) (by kernel_rfl))
       ·refine cF ((op0 == 9)) hb_7 ?_
        obtain ⟨v_8, hj_9, h⟩ := bsome h
        refine Wp.into (x := .normal) (mkS [(12, .bool v_8)] []) ?_ ?_
        ·replace h := hj_9
         rcases itesome h with ⟨hb_5_0, h⟩ | ⟨hb_5_0, h⟩
         ·refine rg hc none [oN, oN, oN, oN, oN, oT, oN] [(12, .bool (kid1 == 1))] [] (ar 3 hb_5_0 trivial) ?_
          obtain rfl := Option.some.inj h
          exact Into.mk
         ·refine rg hc none [oN, oN, oN, o_, o_, oF, oN] [(12, .bool false)] [] (ar 2 (neT hb_5_0) (ai hb_5_0 trivial)) ?_
          obtain rfl := Option.some.inj h
          exact Into.mk
        ·clear hj_9
         obtain rfl := Option.some.inj h
         exact Into.mk
      ·clear hj_11
       obtain rfl := Option.some.inj h
       exact Into.mk
    ·clear hj_13
     refine seqQ_norm ?_
     rcases itesome h with ⟨hb_14, h⟩ | ⟨hb_14, h⟩
     ·refine cT j_12 hb_14 ?_
      refine sN ?_
      refine rg0 hc 1 [(4, I 1)] [] ?_
      refine seqQ_norm ?_
      refine Wp.retN (by kernel_rfl) ?_
      refine blockQ_ret ?_
      refine seqQ_ret ?_
      obtain rfl := Option.some.inj h
      exact RetQ.ret (fl := [true]) (by kernel_rfl)
     ·refine cF j_12 hb_14 ?_
      refine Wp.skipN (by kernel_rfl) ?_
      refine blockQ_norm ?_
      refine seqQ_norm ?_
      refine sN ?_
      refine rg0 hc 1 [(4, I 0)] [] ?_
      refine seqQ_norm ?_
      refine Wp.retN (by kernel_rfl) ?_
      obtain rfl := Option.some.inj h
      exact RetQ.ret (fl := [true]) (by kernel_rfl)
def impl_check_Kimpl_writtenSize_c1_Kimpl_isWrittenType_F1 (c : Ctx) : (Int) ⊕ (Int) → Exit → AState → Prop
 | .inl nodes_27 => Into c (.exit 1) (mkS [(4, I nodes_27)] [])
 | .inr r => RetE TIx Try.f132 [] (I r)
mutual
def impl_check_Kimpl_writtenSize_c1_Kimpl_isWrittenType (p : GTerm × Int × Int) : Option (Int) :=
 match p with
 | (t0, n1, nodes4) =>
  (impl_formOf t0.fOp) >>= fun (r_2_2_0, r_2_2_1) =>
  (
   if r_2_2_1 = true then
    if (decide ((wr (nodes4 + 1)) > 400)) = true then
     some (true)
    else
     some (((t0.fKids.length : Int) != r_2_2_0.fkids))
   else
    some (true)
  ) >>= fun v_1 =>
  if v_1 = true then
   some 401
  else
   (
    if (t0.fOp == 0) = true then
     (impl_within (t0.fN, 0, (wr (n1 - 1)))) >>= fun r_7_4 =>
     some (r_7_4)
    else
     (
      if (t0.fOp == 1) = true then
       (impl_within (t0.fN, 0, 2)) >>= fun r_9_2 =>
       some (r_9_2)
      else
       (
        if r_2_2_0.fgrade = true then
         (impl_writtenSize_c1 t0.fN) >>= fun r_11_3 =>
         some (r_11_3)
        else
         some ((t0.fN == 0))
       ) >>= fun ok_7 =>
       some (ok_7)
     ) >>= fun ok_9 =>
     some (ok_9)
   ) >>= fun ok_11 =>
   (
    if r_2_2_0.ftyped = true then
     (
      if ok_11 = true then
       (impl_isWrittenType t0.fType) >>= fun r_13_5 =>
       some (r_13_5)
      else
       some (false)
     ) >>= fun ok_14 =>
     some (ok_14)
    else
     (
      if ok_11 = true then
       some (((t0.fType.length : Int) == 0))
      else
       some (false)
     ) >>= fun ok_16 =>
     some (ok_16)
   ) >>= fun ok_18 =>
   if ok_18 = true then
    (impl_check_Kimpl_writtenSize_c1_Kimpl_isWrittenType_l0 (t0, n1, (wr (nodes4 + 1)), 0)) >>= fun fl => match fl with
    | .inl nodes_27 =>
     some nodes_27
    | .inr r =>
     some r
   else
    some 401
 partial_fixpoint
def impl_check_Kimpl_writtenSize_c1_Kimpl_isWrittenType_l0 (p : GTerm × Int × Int × Int) : Option ((Int) ⊕ (Int)) :=
 match p with
 | (t0, n1, nodes_23, w_24) =>
  if (decide (w_24 < (t0.fKids.length : Int))) = true then
   (idx t0.fKids w_24) >>= fun e_19_1 =>
   (impl_adds (t0.fOp, w_24)) >>= fun r_20_5 =>
   (impl_check_Kimpl_writtenSize_c1_Kimpl_isWrittenType (e_19_1, (wr (n1 + r_20_5)), nodes_23)) >>= fun r_20_10 =>
   if (decide (r_20_10 > 400)) = true then
    some (.inr 401)
   else
    impl_check_Kimpl_writtenSize_c1_Kimpl_isWrittenType_l0 (t0, n1, r_20_10, (wr (w_24 + 1)))
  else
   some (.inl nodes_23)
 partial_fixpoint
end
def M_impl_check_Kimpl_writtenSize_c1_Kimpl_isWrittenType (p : GTerm × Int × Int) (r : Int) : Prop :=
 match p with
 | (t0, n1, nodes4) => FnSound Try.prog 132 [aTerm t0, I n1, .fn 133 [], .fn 134 [], I nodes4] (I r) []
def M_impl_check_Kimpl_writtenSize_c1_Kimpl_isWrittenType_l0 (p : GTerm × Int × Int × Int) (fl : (Int) ⊕ (Int)) : Prop :=
 match p with
 | (t0, n1, nodes_23, w_24) => ∀ c : Ctx, c.nt = 104 → WpL Try.prog c (cl (cl (cr (cl (cr (cr (cr (cr (cr (cr (cr B132))))))))))) (impl_check_Kimpl_writtenSize_c1_Kimpl_isWrittenType_F1 c fl) (mkS [(1, I n1), (2, .fn 133 []), (3, .fn 134 []), (4, I nodes_23), (5, .ra 1 0), (82, .sl (List.map GTerm_S t0.fKids)), (83, I (t0.fKids.length : Int)), (84, I w_24)] [(1, bTerm t0)])
theorem impl_check_Kimpl_writtenSize_c1_Kimpl_isWrittenType_all : (∀ p r, impl_check_Kimpl_writtenSize_c1_Kimpl_isWrittenType p = some r → M_impl_check_Kimpl_writtenSize_c1_Kimpl_isWrittenType p r) ∧ (∀ p r, impl_check_Kimpl_writtenSize_c1_Kimpl_isWrittenType_l0 p = some r → M_impl_check_Kimpl_writtenSize_c1_Kimpl_isWrittenType_l0 p r) := by
 refine impl_check_Kimpl_writtenSize_c1_Kimpl_isWrittenType.mutual_partial_correctness M_impl_check_Kimpl_writtenSize_c1_Kimpl_isWrittenType M_impl_check_Kimpl_writtenSize_c1_Kimpl_isWrittenType_l0 ?_ ?_
 ·rintro impl_check_Kimpl_writtenSize_c1_Kimpl_isWrittenType_l0_f impl_check_Kimpl_writtenSize_c1_Kimpl_isWrittenType_l0_ih ⟨t0, n1, nodes4⟩ r h
  show FnSound Try.prog 132 [aTerm t0, I n1, .fn 133 [], .fn 134 [], I nodes4] (I r) []
  refine FnSound.body0 tiok (fn := Try.f132) (code := B132) (by kernel_rfl) (by kernel_rfl) (by kernel_rfl) (by kernel_rfl) (nt := 104) (by kernel_rfl) (by kernel_rfl) (T := [(0, aTerm t0), (1, I n1), (2, .fn 133 []), (3, .fn 134 []), (4, I nodes4)]) (O := []) (by kernel_rfl) (by kernel_rfl) (fun c hc => ?_)
  refine sN ?_
  refine rg hc none [some (.new 1), oN] [(1, I n1), (2, .fn 133 []), (3, .fn 134 []), (4, I nodes4), (5, .ra 1 0)] [(1, bTerm t0)] trivial ?_
  refine seqQ_norm ?_
  refine sN ?_
  refine rg0 hc 3 [(1, I n1), (2, .fn 133 []), (3, .fn 134 []), (4, I (wr (nodes4 + 1))), (5, .ra 1 0)] [(1, bTerm t0)] ?_
  refine seqQ_norm ?_
  refine sN ?_
  obtain ⟨⟨r_2_2_0, r_2_2_1⟩, hr_2_2, h⟩ := bsome h
  refine rg hc none [oN, oN, oc (.tup [.agg [.str r_2_2_0.fword, I r_2_2_0.fkids, .bool r_2_2_0.fgrade, .bool r_2_2_0.ftyped], .bool r_2_2_1]), oN, oN, oN, some (.new 2), oN, oN] [(1, I n1), (2, .fn 133 []), (3, .fn 134 []), (4, I (wr (nodes4 + 1))), (5, .ra 1 0), (11, .ra 2 0), (12, .bool r_2_2_1)] [(1, bTerm t0), (2, .box [.str r_2_2_0.fword, I r_2_2_0.fkids, .bool r_2_2_0.fgrade, .bool r_2_2_0.ftyped])] (ai (impl_formOf_s _ _ hr_2_2) (ai bod_149 (ai (oi (.tup [.agg [.str r_2_2_0.fword, I r_2_2_0.fkids, .bool r_2_2_0.fgrade, .bool r_2_2_0.ftyped], .bool r_2_2_1])) trivial))) ?_
  refine seqQ_norm ?_
  refine sN ?_
  refine sN ?_
  obtain ⟨v_1, hj_2, h⟩ := bsome h
  refine Wp.into (x := .normal) (mkS [(1, I n1), (2, .fn 133 []), (3, .fn 134 []), (4, I (wr (nodes4 + 1))), (5, .ra 1 0), (11, .ra 2 0), (36, .bool v_1)] [(1, bTerm t0), (2, .box [.str r_2_2_0.fword, I r_2_2_0.fkids, .bool r_2_2_0.fgrade, .bool r_2_2_0.ftyped])]) ?_ ?_
  ·replace h := hj_2
   rcases itesome h with ⟨hb_3_0, h⟩ | ⟨hb_3_0, h⟩
   ·rcases itesome h with ⟨hb_3_1, h⟩ | ⟨hb_3_1, h⟩
    ·refine rg hc none [oN, oN, oN, oN, oN, oF, oN, o_, o_, o_, o_, o_, o_, oT] [(1, I n1), (2, .fn 133 []), (3, .fn 134 []), (4, I (wr (nodes4 + 1))), (5, .ra 1 0), (11, .ra 2 0), (36, .bool true)] [(1, bTerm t0), (2, .box [.str r_2_2_0.fword, I r_2_2_0.fkids, .bool r_2_2_0.fgrade, .bool r_2_2_0.ftyped])] (ar 3 (nF hb_3_0) (ar 6 (neF hb_3_1) (ai hb_3_1 trivial))) ?_
     obtain rfl := Option.some.inj h
     exact Into.mk
    ·refine rg hc none [oN, oN, oN, oN, oN, oF, oN, oN, oN, some (.eqv (.no) ⟨[(32, I (t0.fKids.length : Int))], [], []⟩), oN, oN, oN, oF] [(1, I n1), (2, .fn 133 []), (3, .fn 134 []), (4, I (wr (nodes4 + 1))), (5, .ra 1 0), (11, .ra 2 0), (36, .bool ((t0.fKids.length : Int) != r_2_2_0.fkids))] [(1, bTerm t0), (2, .box [.str r_2_2_0.fword, I r_2_2_0.fkids, .bool r_2_2_0.fgrade, .bool r_2_2_0.ftyped])] (ar 3 (nF hb_3_0) (ar 3 hb_3_1 (ai (lenT (d := 32) GTerm_S t0.fKids) (ar 4 hb_3_1 trivial)))) ?_
     obtain rfl := Option.some.inj h
     exact Into.mk
   ·refine rg hc none [oN, oN, oN, o_, o_, oT, oN, o_, o_, o_, o_, o_, o_, oT] [(1, I n1), (2, .fn 133 []), (3, .fn 134 []), (4, I (wr (nodes4 + 1))), (5, .ra 1 0), (11, .ra 2 0), (36, .bool true)] [(1, bTerm t0), (2, .box [.str r_2_2_0.fword, I r_2_2_0.fkids, .bool r_2_2_0.fgrade, .bool r_2_2_0.ftyped])] (ar 2 (neF (nT hb_3_0)) (ai (nT hb_3_0) (ar 6 nf (ai tt trivial)))) ?_
    obtain rfl := Option.some.inj h
    exact Into.mk
  ·clear hj_2
   refine seqQ_norm ?_
   rcases itesome h with ⟨hb_3, h⟩ | ⟨hb_3, h⟩
   ·refine cT v_1 hb_3 ?_
    refine sN ?_
    refine rg0 hc 1 [(10, I 401)] [] ?_
    refine seqQ_norm ?_
    refine Wp.retN (by kernel_rfl) ?_
    refine seqQ_ret ?_
    obtain rfl := Option.some.inj h
    exact RetQ.ret (fl := [true]) (by kernel_rfl)
   ·refine cF v_1 hb_3 ?_
    refine Wp.skipN (by kernel_rfl) ?_
    refine seqQ_norm ?_
    refine sN ?_
    refine Wp.blockN (i := 0) (by kernel_rfl) ?_
    refine sN ?_
    refine rg0 hc 4 [(1, I n1), (2, .fn 133 []), (3, .fn 134 []), (4, I (wr (nodes4 + 1))), (5, .ra 1 0), (11, .ra 2 0), (40, .bool (t0.fOp == 0))] [(1, bTerm t0), (2, .box [.str r_2_2_0.fword, I r_2_2_0.fkids, .bool r_2_2_0.fgrade, .bool r_2_2_0.ftyped])] ?_
    refine seqQ_norm ?_
    obtain ⟨ok_11, hj_12, h⟩ := bsome h
    refine Wp.into (x := .normal) (mkS [(1, I n1), (2, .fn 133 []), (3, .fn 134 []), (4, I (wr (nodes4 + 1))), (5, .ra 1 0), (11, .ra 2 0), (12, .bool ok_11)] [(1, bTerm t0), (2, .box [.str r_2_2_0.fword, I r_2_2_0.fkids, .bool r_2_2_0.fgrade, .bool r_2_2_0.ftyped])]) ?_ ?_
    ·replace h := hj_12
     rcases itesome h with ⟨hb_4, h⟩ | ⟨hb_4, h⟩
     ·refine cT ((t0.fOp == 0)) hb_4 ?_
      obtain ⟨r_7_4, hr_7_4, h⟩ := bsome h
      refine rg hc none [oN, oN, oN, oN, oc (.bool r_7_4), oN] [(1, I n1), (2, .fn 133 []), (3, .fn 134 []), (4, I (wr (nodes4 + 1))), (5, .ra 1 0), (11, .ra 2 0), (12, .bool r_7_4)] [(1, bTerm t0), (2, .box [.str r_2_2_0.fword, I r_2_2_0.fkids, .bool r_2_2_0.fgrade, .bool r_2_2_0.ftyped])] (ai (impl_within_s _ _ hr_7_4) (ai bod_61 (ai (oi (.bool r_7_4)) trivial))) ?_
      obtain rfl := Option.some.inj h
      exact Into.mk
     ·refine cF ((t0.fOp == 0)) hb_4 ?_
      refine sN ?_
      refine rg0 hc 4 [(1, I n1), (2, .fn 133 []), (3, .fn 134 []), (4, I (wr (nodes4 + 1))), (5, .ra 1 0), (11, .ra 2 0), (49, .bool (t0.fOp == 1))] [(1, bTerm t0), (2, .box [.str r_2_2_0.fword, I r_2_2_0.fkids, .bool r_2_2_0.fgrade, .bool r_2_2_0.ftyped])] ?_
      refine seqQ_norm ?_
      obtain ⟨ok_9, hj_10, h⟩ := bsome h
      refine Wp.into (x := .normal) (mkS [(1, I n1), (2, .fn 133 []), (3, .fn 134 []), (4, I (wr (nodes4 + 1))), (5, .ra 1 0), (11, .ra 2 0), (12, .bool ok_9)] [(1, bTerm t0), (2, .box [.str r_2_2_0.fword, I r_2_2_0.fkids, .bool r_2_2_0.fgrade, .bool r_2_2_0.ftyped])]) ?_ ?_
      ·replace h := hj_10
       rcases itesome h with ⟨hb_5, h⟩ | ⟨hb_5, h⟩
       ·refine cT ((t0.fOp == 1)) hb_5 ?_
        obtain ⟨r_9_2, hr_9_2, h⟩ := bsome h
        refine rg hc none [oN, oN, oc (.bool r_9_2), oN] [(1, I n1), (2, .fn 133 []), (3, .fn 134 []), (4, I (wr (nodes4 + 1))), (5, .ra 1 0), (11, .ra 2 0), (12, .bool r_9_2)] [(1, bTerm t0), (2, .box [.str r_2_2_0.fword, I r_2_2_0.fkids, .bool r_2_2_0.fgrade, .bool r_2_2_0.ftyped])] (ai (impl_within_s _ _ hr_9_2) (ai bod_61 (ai (oi (.bool r_9_2)) trivial))) ?_
        obtain rfl := Option.some.inj h
        exact Into.mk
       ·refine cF ((t0.fOp == 1)) hb_5 ?_
        refine sN ?_
        refine rg0 hc 3 [(1, I n1), (2, .fn 133 []), (3, .fn 134 []), (4, I (wr (nodes4 + 1))), (5, .ra 1 0), (11, .ra 2 0), (56, .bool r_2_2_0.fgrade)] [(1, bTerm t0), (2, .box [.str r_2_2_0.fword, I r_2_2_0.fkids, .bool r_2_2_0.fgrade, .bool r_2_2_0.ftyped])] ?_
        refine seqQ_norm ?_
        obtain ⟨ok_7, hj_8, h⟩ := bsome h
        refine Wp.into (x := .normal) (mkS [(1, I n1), (2, .fn 133 []), (3, .fn 134 []), (4, I (wr (nodes4 + 1))), (5, .ra 1 0), (11, .ra 2 0), (12, .bool ok_7)] [(1, bTerm t0), (2, .box [.str r_2_2_0.fword, I r_2_2_0.fkids, .bool r_2_2_0.fgrade, .bool r_2_2_0.ftyped])]) ?_ ?_
        ·replace h := hj_8
         rcases itesome h with ⟨hb_6, h⟩ | ⟨hb_6, h⟩
         ·refine cT r_2_2_0.fgrade hb_6 ?_
          obtain ⟨r_11_3, hr_11_3, h⟩ := bsome h
          refine rg hc none [oN, oN, oN, oc (.bool r_11_3), oN] [(1, I n1), (2, .fn 133 []), (3, .fn 134 []), (4, I (wr (nodes4 + 1))), (5, .ra 1 0), (11, .ra 2 0), (12, .bool r_11_3)] [(1, bTerm t0), (2, .box [.str r_2_2_0.fword, I r_2_2_0.fkids, .bool r_2_2_0.fgrade, .bool r_2_2_0.ftyped])] (ai (impl_writtenSize_c1_s _ _ hr_11_3) (ai bod_133 (ai (oi (.bool r_11_3)) trivial))) ?_
          obtain rfl := Option.some.inj h
          exact Into.mk
         ·refine cF r_2_2_0.fgrade hb_6 ?_
          refine rg0 hc 4 [(1, I n1), (2, .fn 133 []), (3, .fn 134 []), (4, I (wr (nodes4 + 1))), (5, .ra 1 0), (11, .ra 2 0), (12, .bool (t0.fN == 0))] [(1, bTerm t0), (2, .box [.str r_2_2_0.fword, I r_2_2_0.fkids, .bool r_2_2_0.fgrade, .bool r_2_2_0.ftyped])] ?_
          obtain rfl := Option.some.inj h
          exact Into.mk
        ·clear hj_8
         obtain rfl := Option.some.inj h
         exact Into.mk
      ·clear hj_10
       obtain rfl := Option.some.inj h
       exact Into.mk
    ·clear hj_12
     refine blockQ_norm ?_
     refine seqQ_norm ?_
     refine sN ?_
     refine sN ?_
     refine rg0 hc 2 [(1, I n1), (2, .fn 133 []), (3, .fn 134 []), (4, I (wr (nodes4 + 1))), (5, .ra 1 0), (12, .bool ok_11), (64, .bool r_2_2_0.ftyped)] [(1, bTerm t0)] ?_
     refine seqQ_norm ?_
     obtain ⟨ok_18, hj_19, h⟩ := bsome h
     refine Wp.into (x := .normal) (mkS [(1, I n1), (2, .fn 133 []), (3, .fn 134 []), (4, I (wr (nodes4 + 1))), (5, .ra 1 0), (12, .bool ok_18)] [(1, bTerm t0)]) ?_ ?_
     ·replace h := hj_19
      rcases itesome h with ⟨hb_13, h⟩ | ⟨hb_13, h⟩
      ·refine cT r_2_2_0.ftyped hb_13 ?_
       obtain ⟨ok_14, hj_15, h⟩ := bsome h
       refine Wp.into (x := .normal) (mkS [(1, I n1), (2, .fn 133 []), (3, .fn 134 []), (4, I (wr (nodes4 + 1))), (5, .ra 1 0), (12, .bool ok_14)] [(1, bTerm t0)]) ?_ ?_
       ·replace h := hj_15
        rcases itesome h with ⟨hb_13_0, h⟩ | ⟨hb_13_0, h⟩
        ·obtain ⟨r_13_5, hr_13_5, h⟩ := bsome h
         refine rg hc none [oN, oN, oN, oN, oN, oc (.bool r_13_5), oT, oN] [(1, I n1), (2, .fn 133 []), (3, .fn 134 []), (4, I (wr (nodes4 + 1))), (5, .ra 1 0), (12, .bool r_13_5)] [(1, bTerm t0)] (ar 4 hb_13_0 (ai (impl_isWrittenType_s _ _ hr_13_5) (ai bod_134 (ai (oi (.bool r_13_5)) (ai hb_13_0 trivial))))) ?_
         obtain rfl := Option.some.inj h
         exact Into.mk
        ·refine rg hc none [oN, oN, o_, o_, o_, o_, oF, oN] [(1, I n1), (2, .fn 133 []), (3, .fn 134 []), (4, I (wr (nodes4 + 1))), (5, .ra 1 0), (12, .bool false)] [(1, bTerm t0)] (ar 4 (neT hb_13_0) (ai hb_13_0 trivial)) ?_
         obtain rfl := Option.some.inj h
         exact Into.mk
       ·clear hj_15
        obtain rfl := Option.some.inj h
        exact Into.mk
      ·refine cF r_2_2_0.ftyped hb_13 ?_
       obtain ⟨ok_16, hj_17, h⟩ := bsome h
       refine Wp.into (x := .normal) (mkS [(1, I n1), (2, .fn 133 []), (3, .fn 134 []), (4, I (wr (nodes4 + 1))), (5, .ra 1 0), (12, .bool ok_16)] [(1, bTerm t0)]) ?_ ?_
       ·replace h := hj_17
        rcases itesome h with ⟨hb_14_0, h⟩ | ⟨hb_14_0, h⟩
        ·refine rg hc none [oN, oN, oN, oN, some (.eqv (.no) ⟨[(76, I (t0.fType.length : Int))], [], []⟩), oN, oT, oN] [(1, I n1), (2, .fn 133 []), (3, .fn 134 []), (4, I (wr (nodes4 + 1))), (5, .ra 1 0), (12, .bool ((t0.fType.length : Int) == 0))] [(1, bTerm t0)] (ar 3 hb_14_0 (ai (lenT (d := 76) I t0.fType) (ar 2 hb_14_0 trivial))) ?_
         obtain rfl := Option.some.inj h
         exact Into.mk
        ·refine rg hc none [oN, oN, o_, o_, o_, o_, oF, oN] [(1, I n1), (2, .fn 133 []), (3, .fn 134 []), (4, I (wr (nodes4 + 1))), (5, .ra 1 0), (12, .bool false)] [(1, bTerm t0)] (ar 4 (neT hb_14_0) (ai hb_14_0 trivial)) ?_
         obtain rfl := Option.some.inj h
         exact Into.mk
       ·clear hj_17
        obtain rfl := Option.some.inj h
        exact Into.mk
     ·clear hj_19
      refine seqQ_norm ?_
      refine sN ?_
      refine sN ?_
      refine rg0 hc 2 [(1, I n1), (2, .fn 133 []), (3, .fn 134 []), (4, I (wr (nodes4 + 1))), (5, .ra 1 0), (80, .bool (!ok_18))] [(1, bTerm t0)] ?_
      refine seqQ_norm ?_
      rcases itesome h with ⟨hb_20, h⟩ | ⟨hb_20, h⟩
      ·refine cF (!ok_18) (nF hb_20) ?_
       refine Wp.skipN (by kernel_rfl) ?_
       refine seqQ_norm ?_
       refine sN ?_
       refine sN ?_
       refine rg hc none [oN, oN, some (.eqv (.no) ⟨[(83, I (t0.fKids.length : Int))], [], []⟩), oN] [(1, I n1), (2, .fn 133 []), (3, .fn 134 []), (4, I (wr (nodes4 + 1))), (5, .ra 1 0), (82, .sl (List.map GTerm_S t0.fKids)), (83, I (t0.fKids.length : Int)), (84, I 0)] [(1, bTerm t0)] (ai (lenT (d := 83) GTerm_S t0.fKids) trivial) ?_
       refine seqQ_norm ?_
       refine Wp.blockN (i := 1) (by kernel_rfl) ?_
       obtain ⟨fl, hl_28, h⟩ := bsome h
       have hL := impl_check_Kimpl_writtenSize_c1_Kimpl_isWrittenType_l0_ih _ _ hl_28 c hc
       refine Wp.loopN (by kernel_rfl) ?_
       rcases fl with nodes_27 | r
       ·refine WpL.into (e := (.exit 1)) (mkS [(4, I nodes_27)] []) hL ?_
        refine blockQ_hit ?_
        refine seqQ_norm ?_
        refine sN ?_
        refine rg0 hc 2 [(10, I nodes_27)] [] ?_
        refine seqQ_norm ?_
        refine Wp.retN (by kernel_rfl) ?_
        obtain rfl := Option.some.inj h
        exact RetQ.ret (fl := [true]) (by kernel_rfl)
       ·refine WpL.mono hL ?_
        rintro _ _ ⟨rfl, hfin⟩
        refine blockQ_ret ?_
        refine seqQ_ret ?_
        obtain rfl := Option.some.inj h
        exact ⟨.inl rfl, hfin⟩
      ·refine cT (!ok_18) (nT hb_20) ?_
       refine sN ?_
       refine rg0 hc 1 [(10, I 401)] [] ?_
       refine seqQ_norm ?_
       refine Wp.retN (by kernel_rfl) ?_
       refine seqQ_ret ?_
       obtain rfl := Option.some.inj h
       exact RetQ.ret (fl := [true]) (by kernel_rfl)
 ·rintro impl_check_Kimpl_writtenSize_c1_Kimpl_isWrittenType_f impl_check_Kimpl_writtenSize_c1_Kimpl_isWrittenType_l0_f impl_check_Kimpl_writtenSize_c1_Kimpl_isWrittenType_ih impl_check_Kimpl_writtenSize_c1_Kimpl_isWrittenType_l0_ih ⟨t0, n1, nodes_23, w_24⟩ r h
  intro c hc
  show WpL Try.prog c (cl (cl (cr (cl (cr (cr (cr (cr (cr (cr (cr B132))))))))))) (impl_check_Kimpl_writtenSize_c1_Kimpl_isWrittenType_F1 c r) (mkS [(1, I n1), (2, .fn 133 []), (3, .fn 134 []), (4, I nodes_23), (5, .ra 1 0), (82, .sl (List.map GTerm_S t0.fKids)), (83, I (t0.fKids.length : Int)), (84, I w_24)] [(1, bTerm t0)])
  refine WpL.step ?_
  refine sN ?_
  refine rg0 hc 1 [(1, I n1), (2, .fn 133 []), (3, .fn 134 []), (4, I nodes_23), (5, .ra 1 0), (82, .sl (List.map GTerm_S t0.fKids)), (83, I (t0.fKids.length : Int)), (84, I w_24), (85, .bool (decide (w_24 < (t0.fKids.length : Int))))] [(1, bTerm t0)] ?_
  refine seqQ_norm ?_
  refine sN ?_
  rcases itesome h with ⟨hb_25, h⟩ | ⟨hb_25, h⟩
  ·refine cT ((decide (w_24 < (t0.fKids.length : Int)))) hb_25 ?_
   refine Wp.skipN (by kernel_rfl) ?_
   refine seqQ_norm ?_
   refine sN ?_
   refine Wp.blockN (i := 2) (by kernel_rfl) ?_
   refine sN ?_
   obtain ⟨e_19_1, hi_19_1, h⟩ := bsome h
   refine rg hc none [oN, some (.el (aTerm e_19_1)), oN, some (.new 4), oN, oN] [(1, I n1), (2, .fn 133 []), (3, .fn 134 []), (4, I nodes_23), (5, .ra 1 0), (13, I w_24), (14, .ra 4 0), (82, .sl (List.map GTerm_S t0.fKids)), (83, I (t0.fKids.length : Int)), (84, I w_24)] [(1, bTerm t0), (4, bTerm e_19_1)] (ai (idx_sl (enc := GTerm_S) (x := aTerm e_19_1) hi_19_1 (eq_GTerm_S e_19_1)) trivial) ?_
   refine seqQ_norm ?_
   refine sN ?_
   obtain ⟨r_20_5, hr_20_5, h⟩ := bsome h
   obtain ⟨r_20_10, hr_20_10, h⟩ := bsome h
   refine rg hc (rx [[0], [0], [0], [0, 2], [0], [0, 2, 3, 4], [0, 1, 2, 3, 4, 5], [0], [0], [0], [10], [11]]) [oN, oN, oN, oN, oN, oc (I r_20_5), oN, oN, oN, oN, oc (I r_20_10), oN] [(1, I n1), (2, .fn 133 []), (3, .fn 134 []), (4, I r_20_10), (5, .ra 1 0), (82, .sl (List.map GTerm_S t0.fKids)), (83, I (t0.fKids.length : Int)), (84, I w_24)] [(1, bTerm t0)] (ai (impl_adds_s _ _ hr_20_5) (ai bod_150 (ai (oi (I r_20_5)) (ai (impl_check_Kimpl_writtenSize_c1_Kimpl_isWrittenType_ih _ _ hr_20_10) (ai bod_132 (ai (oi (I r_20_10)) trivial)))))) ?_
   refine seqQ_norm ?_
   refine sN ?_
   refine rg0 hc 2 [(1, I n1), (2, .fn 133 []), (3, .fn 134 []), (4, I r_20_10), (5, .ra 1 0), (82, .sl (List.map GTerm_S t0.fKids)), (83, I (t0.fKids.length : Int)), (84, I w_24), (101, .bool (decide (r_20_10 > 400)))] [(1, bTerm t0)] ?_
   refine seqQ_norm ?_
   rcases itesome h with ⟨hb_26, h⟩ | ⟨hb_26, h⟩
   ·refine cT ((decide (r_20_10 > 400))) hb_26 ?_
    refine sN ?_
    refine rg0 hc 1 [(10, I 401)] [] ?_
    refine seqQ_norm ?_
    refine Wp.retN (by kernel_rfl) ?_
    refine blockQ_ret ?_
    refine seqQ_ret ?_
    refine loopQ_ret ?_
    obtain rfl := Option.some.inj h
    exact RetE.ret (fl := [true]) (by kernel_rfl)
   ·refine cF ((decide (r_20_10 > 400))) hb_26 ?_
    refine Wp.skipN (by kernel_rfl) ?_
    refine blockQ_norm ?_
    refine seqQ_norm ?_
    refine rg0 hc 2 [(1, I n1), (2, .fn 133 []), (3, .fn 134 []), (4, I r_20_10), (5, .ra 1 0), (82, .sl (List.map GTerm_S t0.fKids)), (83, I (t0.fKids.length : Int)), (84, I (wr (w_24 + 1)))] [(1, bTerm t0)] ?_
    refine loopQ_norm ?_
    exact (impl_check_Kimpl_writtenSize_c1_Kimpl_isWrittenType_l0_ih _ _ h c hc)
  ·refine cF ((decide (w_24 < (t0.fKids.length : Int)))) hb_25 ?_
   refine Wp.exitN (i := 1) (by kernel_rfl) ?_
   refine seqQ_exit ?_
   refine loopQ_exit ?_
   obtain rfl := Option.some.inj h
   exact Into.view (fun a w hv => SRx.renL [] hv (by kernel_rfl) (by kernel_rfl) (by kernel_rfl))
theorem impl_check_Kimpl_writtenSize_c1_Kimpl_isWrittenType_s : ∀ p r, impl_check_Kimpl_writtenSize_c1_Kimpl_isWrittenType p = some r → M_impl_check_Kimpl_writtenSize_c1_Kimpl_isWrittenType p r := impl_check_Kimpl_writtenSize_c1_Kimpl_isWrittenType_all.1
theorem impl_check_Kimpl_writtenSize_c1_Kimpl_isWrittenType_l0_s : ∀ p r, impl_check_Kimpl_writtenSize_c1_Kimpl_isWrittenType_l0 p = some r → M_impl_check_Kimpl_writtenSize_c1_Kimpl_isWrittenType_l0 p r := impl_check_Kimpl_writtenSize_c1_Kimpl_isWrittenType_all.2
def impl_writtenSize (t0 : GTerm) : Option (Int) :=
  (impl_check_Kimpl_writtenSize_c1_Kimpl_isWrittenType (t0, 8, 0)) >>= fun r_1_1 =>
  some r_1_1
def M_impl_writtenSize (t0 : GTerm) (r : Int) : Prop :=
 FnSound Try.prog 101 [aTerm t0] (I r) []
theorem impl_writtenSize_s : ∀ p r, impl_writtenSize p = some r → M_impl_writtenSize p r := by
 rintro t0 r h
 unfold impl_writtenSize at h
 show FnSound Try.prog 101 [aTerm t0] (I r) []
 refine FnSound.body0 tiok (fn := Try.f101) (code := B101) (by kernel_rfl) (by kernel_rfl) (by kernel_rfl) (by kernel_rfl) (nt := 5) (by kernel_rfl) (by kernel_rfl) (T := [(0, aTerm t0)]) (O := []) (by kernel_rfl) (by kernel_rfl) (fun c hc => ?_)
 refine sN ?_
 refine rg hc none [some (.new 1), oN] [(1, .ra 1 0)] [(1, bTerm t0)] trivial ?_
 refine seqQ_norm ?_
 refine sN ?_
 obtain ⟨r_1_1, hr_1_1, h⟩ := bsome h
 refine rg hc none [oN, oc (I r_1_1), oN] [(2, I r_1_1)] [] (ai (impl_check_Kimpl_writtenSize_c1_Kimpl_isWrittenType_s _ _ hr_1_1) (ai bod_132 (ai (oi (I r_1_1)) trivial))) ?_
 refine seqQ_norm ?_
 refine Wp.retN (by kernel_rfl) ?_
 obtain rfl := Option.some.inj h
 exact RetQ.ret (fl := [true]) (by kernel_rfl)
def impl_IsWritten (t0 : GTerm) : Option (Bool) :=
  (impl_writtenSize t0) >>= fun r_1_1 =>
  some (decide (r_1_1 ≤ 400))
def M_impl_IsWritten (t0 : GTerm) (r : Bool) : Prop :=
 FnSound Try.prog 60 [aTerm t0] (.bool r) []
theorem impl_IsWritten_s : ∀ p r, impl_IsWritten p = some r → M_impl_IsWritten p r := by
 rintro t0 r h
 unfold impl_IsWritten at h
 show FnSound Try.prog 60 [aTerm t0] (.bool r) []
 refine FnSound.body0 tiok (fn := Try.f60) (code := B60) (by kernel_rfl) (by kernel_rfl) (by kernel_rfl) (by kernel_rfl) (nt := 6) (by kernel_rfl) (by kernel_rfl) (T := [(0, aTerm t0)]) (O := []) (by kernel_rfl) (by kernel_rfl) (fun c hc => ?_)
 refine sN ?_
 refine rg hc none [some (.new 1), oN] [(1, .ra 1 0)] [(1, bTerm t0)] trivial ?_
 refine seqQ_norm ?_
 refine sN ?_
 obtain ⟨r_1_1, hr_1_1, h⟩ := bsome h
 refine rg hc none [oN, oc (I r_1_1), oN, oN] [(2, .bool (decide (r_1_1 ≤ 400)))] [] (ai (impl_writtenSize_s _ _ hr_1_1) (ai bod_101 (ai (oi (I r_1_1)) trivial))) ?_
 refine seqQ_norm ?_
 refine Wp.retN (by kernel_rfl) ?_
 obtain rfl := Option.some.inj h
 exact RetQ.ret (fl := [true]) (by kernel_rfl)
end Go.Am
