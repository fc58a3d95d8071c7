/- Functions of the program as pure functions, and that it computes them. Printed by a program of mine (gen.py). -/
import Derived.Test.YtmdfopkcoinfeaaGEVF4
set_option linter.unusedVariables false
set_option linter.unusedSimpArgs false
set_option maxRecDepth 100000
namespace Go.Am
open Go Go.Proofs
def spec_l1Has (p : (List Int) × Int) : Option (Bool) :=
 match p with
 | (l0, n1) =>
  (spec_l1Has_l0 (l0, n1, 0)) >>= fun fl => match fl with
  | .inl () =>
   some false
  | .inr r =>
   some r
def M_spec_l1Has (p : (List Int) × Int) (r : Bool) : Prop :=
 match p with
 | (l0, n1) => FnSound Try.prog 82 [sI l0, I n1] (.bool r) []
theorem spec_l1Has_s : ∀ p r, spec_l1Has p = some r → M_spec_l1Has p r := by
 rintro ⟨l0, n1⟩ r h
 unfold spec_l1Has at h
 show FnSound Try.prog 82 [sI l0, I n1] (.bool r) []
 refine FnSound.body0 tiok (fn := Try.f82) (code := B82) (by kernel_rfl) (by kernel_rfl) (by kernel_rfl) (by kernel_rfl) (nt := 18) (by kernel_rfl) (by kernel_rfl) (T := [(0, sI l0), (1, I n1)]) (O := []) (by kernel_rfl) (by kernel_rfl) (fun c hc => ?_)
 refine sN ?_
 refine rg0 hc 1 [(0, sI l0), (1, I n1)] [] ?_
 refine seqQ_norm ?_
 refine sN ?_
 refine sN ?_
 refine rg0 hc 1 [(0, sI l0), (1, I n1), (5, I 0)] [] ?_
 refine seqQ_norm ?_
 refine Wp.blockN (i := 0) (by kernel_rfl) ?_
 obtain ⟨fl, hl_6, h⟩ := bsome h
 have hL := spec_l1Has_l0_s _ _ hl_6 c hc
 refine Wp.loopN (by kernel_rfl) ?_
 rcases fl with ⟨⟩ | r
 ·refine WpL.into (e := (.exit 0)) (mkS [] []) hL ?_
  refine blockQ_hit ?_
  refine seqQ_norm ?_
  refine sN ?_
  refine rg0 hc 1 [(4, .bool false)] [] ?_
  refine seqQ_norm ?_
  refine Wp.retN (by kernel_rfl) ?_
  obtain rfl := Option.some.inj h
  exact RetQ.ret (fl := [true]) (by kernel_rfl)
 ·refine WpL.mono hL ?_
  rintro _ _ ⟨rfl, hfin⟩
  refine blockQ_ret ?_
  refine seqQ_ret ?_
  obtain rfl := Option.some.inj h
  exact ⟨.inl rfl, hfin⟩
def spec_l5Default (ty0 : (List Int)) : Option (GTerm) :=
  (idx ty0 0) >>= fun e_1_1 =>
  if (e_1_1 == 0) = true then
   some (GTerm.mk 1 0 [] [])
  else
   (spec_l2Part (ty0, 0)) >>= fun r_4_1 =>
   (spec_l2Box e_1_1) >>= fun r_5_1 =>
   if r_5_1 = true then
    (spec_l2Grade e_1_1) >>= fun r_6_1 =>
    (spec_l5Default r_4_1) >>= fun r_6_3 =>
    some (GTerm.mk 11 r_6_1 [] [r_6_3])
   else
    if (e_1_1 == 1) = true then
     (spec_l5Default r_4_1) >>= fun r_8_1 =>
     (spec_l2Part (ty0, 1)) >>= fun r_8_3 =>
     (spec_l5Default r_8_3) >>= fun r_8_4 =>
     some (GTerm.mk 4 0 [] [r_8_1, r_8_4])
    else
     if (e_1_1 == 2) = true then
      (spec_l2Part (ty0, 1)) >>= fun r_10_1 =>
      (spec_l5Default r_4_1) >>= fun r_10_3 =>
      some (GTerm.mk 6 0 r_10_1 [r_10_3])
     else
      (spec_l2Grade e_1_1) >>= fun r_11_1 =>
      (spec_l2Part (ty0, 1)) >>= fun r_11_4 =>
      (spec_l5Default r_11_4) >>= fun r_11_5 =>
      some (GTerm.mk 9 r_11_1 r_4_1 [r_11_5])
 partial_fixpoint
def M_spec_l5Default (ty0 : (List Int)) (r : GTerm) : Prop :=
 FnSound Try.prog 103 [sI ty0] (qTerm r) []
theorem spec_l5Default_s : ∀ p r, spec_l5Default p = some r → M_spec_l5Default p r := by
 refine spec_l5Default.partial_correctness M_spec_l5Default ?_
 rintro spec_l5Default_f spec_l5Default_ih ty0 r h
 show FnSound Try.prog 103 [sI ty0] (qTerm r) []
 refine FnSound.body0 tiok (fn := Try.f103) (code := B103) (by kernel_rfl) (by kernel_rfl) (by kernel_rfl) (by kernel_rfl) (nt := 49) (by kernel_rfl) (by kernel_rfl) (T := [(0, sI ty0)]) (O := []) (by kernel_rfl) (by kernel_rfl) (fun c hc => ?_)
 refine sN ?_
 refine rg hc none [some (.new 1)] [(0, sI ty0), (2, .ra 1 0)] [(1, .box [I 0, I 0, .nils, .nils])] trivial ?_
 refine seqQ_norm ?_
 refine sN ?_
 obtain ⟨e_1_1, hi_1_1, h⟩ := bsome h
 refine rg hc none [oN, some (.el (I e_1_1)), oN, oN] [(0, sI ty0), (2, .ra 1 0), (3, I e_1_1)] [(1, .box [I 0, I 0, .nils, .nils])] (ai (ix hi_1_1) trivial) ?_
 refine seqQ_norm ?_
 refine sN ?_
 refine sN ?_
 refine rg0 hc 2 [(0, sI ty0), (2, .ra 1 0), (3, I e_1_1), (9, .bool (e_1_1 == 0))] [(1, .box [I 0, I 0, .nils, .nils])] ?_
 refine seqQ_norm ?_
 rcases itesome h with ⟨hb_1, h⟩ | ⟨hb_1, h⟩
 ·refine cT ((e_1_1 == 0)) hb_1 ?_
  refine sN ?_
  refine rg0 hc 2 [(2, .ra 1 0)] [(1, .box [I 1, I 0, .nils, .nils])] ?_
  refine seqQ_norm ?_
  refine Wp.retN (by kernel_rfl) ?_
  refine seqQ_ret ?_
  obtain rfl := Option.some.inj h
  exact RetQ.ret (fl := [true]) (by kernel_rfl)
 ·refine cF ((e_1_1 == 0)) hb_1 ?_
  refine Wp.skipN (by kernel_rfl) ?_
  refine seqQ_norm ?_
  refine sN ?_
  obtain ⟨r_4_1, hr_4_1, h⟩ := bsome h
  refine rg hc none [oN, some (.call (.osl (List.map I r_4_1)) [] 2), oN] [(0, sI ty0), (2, .ra 1 0), (3, I e_1_1), (4, .rs 2)] [(1, .box [I 0, I 0, .nils, .nils]), (2, .arr (List.map I r_4_1))] (ai (spec_l2Part_s _ _ hr_4_1) (ai bod_72 (ai (oi (.osl (List.map I r_4_1))) trivial))) ?_
  refine seqQ_norm ?_
  refine sN ?_
  refine Wp.blockN (i := 0) (by kernel_rfl) ?_
  refine sN ?_
  obtain ⟨r_5_1, hr_5_1, h⟩ := bsome h
  refine rg hc none [oN, oc (.bool r_5_1), oN] [(0, sI ty0), (2, .ra 1 0), (3, I e_1_1), (4, .rs 2), (13, .bool r_5_1)] [(1, .box [I 0, I 0, .nils, .nils]), (2, .arr (List.map I r_4_1))] (ai (spec_l2Box_s _ _ hr_5_1) (ai bod_73 (ai (oi (.bool r_5_1)) trivial))) ?_
  refine seqQ_norm ?_
  rcases itesome h with ⟨hb_2, h⟩ | ⟨hb_2, h⟩
  ·refine cT r_5_1 hb_2 ?_
   refine sN ?_
   obtain ⟨r_6_1, hr_6_1, h⟩ := bsome h
   obtain ⟨r_6_3, hr_6_3, h⟩ := bsome h
   refine rg hc none [oN, oc (I r_6_1), oN, some (.call (qTerm r_6_3) [] 3), some (.eqv (.mk 5 true) ⟨[(20, .rs 5)], [(5, some (.arr (List.map GTerm_O [r_6_3]))), (3, none), (4, none)], [5]⟩), oN, oN] [(2, .ra 1 0)] [(1, .box [I 11, I r_6_1, .nils, .rs 5]), (5, .arr (List.map GTerm_O [r_6_3]))] (ai (spec_l2Grade_s _ _ hr_6_1) (ai bod_74 (ai (oi (I r_6_1)) (ai (FnSound.args (A1 := [.sl (shares (List.map I r_4_1))]) (A2 := [sI r_4_1]) (by simp only [sI, sB, aSystem, aTerm, hSystem, hTerm, List.map_nil, sh_I]) (spec_l5Default_ih _ _ hr_6_3)) (ai bod_103 (ai (Or.inr (nsh_cons rfl (nsh_cons rfl (nsh_cons (nsh_row nsh_I r_6_3.fType) (nsh_cons (nsh_row nsh_GTerm_O r_6_3.fKids) rfl)))) : ([2] : List Nat) = [] ∨ noSh (qTerm r_6_3) = true) (ai (congrArg (fun z => (⟨[(20, .rs 5)], [(5, some (.arr z)), (3, none), (4, none)], [5]⟩ : Wr)) ((rows1 (eq_GTerm_O r_6_3) rows0) : [AV.agg [I r_6_3.fOp, I r_6_3.fN, AV.osl (List.map I r_6_3.fType), AV.osl (List.map GTerm_O r_6_3.fKids)]] = List.map GTerm_O [r_6_3])) trivial))))))) ?_
   refine seqQ_norm ?_
   refine Wp.retN (by kernel_rfl) ?_
   refine blockQ_ret ?_
   refine seqQ_ret ?_
   obtain rfl := Option.some.inj h
   exact RetQ.ret (fl := [true]) (by kernel_rfl)
  ·refine cF r_5_1 hb_2 ?_
   refine sN ?_
   refine rg0 hc 3 [(0, sI ty0), (2, .ra 1 0), (3, I e_1_1), (4, .rs 2), (22, .bool (e_1_1 == 1))] [(1, .box [I 0, I 0, .nils, .nils]), (2, .arr (List.map I r_4_1))] ?_
   refine seqQ_norm ?_
   rcases itesome h with ⟨hb_3, h⟩ | ⟨hb_3, h⟩
   ·refine cT ((e_1_1 == 1)) hb_3 ?_
    refine sN ?_
    obtain ⟨r_8_1, hr_8_1, h⟩ := bsome h
    obtain ⟨r_8_3, hr_8_3, h⟩ := bsome h
    obtain ⟨r_8_4, hr_8_4, h⟩ := bsome h
    refine rg hc none [oN, some (.call (qTerm r_8_1) [] 6), oN, some (.call (.osl (List.map I r_8_3)) [] 8), some (.call (qTerm r_8_4) [] 9), some (.eqv (.mk 11 true) ⟨[(30, .rs 11)], [(11, some (.arr (List.map GTerm_O [r_8_1, r_8_4]))), (6, none), (7, none), (9, none), (10, none)], [11]⟩), oN, oN] [(2, .ra 1 0)] [(1, .box [I 4, I 0, .nils, .rs 11]), (11, .arr (List.map GTerm_O [r_8_1, r_8_4]))] (ai (FnSound.args (A1 := [.sl (shares (List.map I r_4_1))]) (A2 := [sI r_4_1]) (by simp only [sI, sB, aSystem, aTerm, hSystem, hTerm, List.map_nil, sh_I]) (spec_l5Default_ih _ _ hr_8_1)) (ai bod_103 (ai (Or.inr (nsh_cons rfl (nsh_cons rfl (nsh_cons (nsh_row nsh_I r_8_1.fType) (nsh_cons (nsh_row nsh_GTerm_O r_8_1.fKids) rfl)))) : ([2] : List Nat) = [] ∨ noSh (qTerm r_8_1) = true) (ai (spec_l2Part_s _ _ hr_8_3) (ai bod_72 (ai (oi (.osl (List.map I r_8_3))) (ai (FnSound.args (A1 := [.sl (shares (List.map I r_8_3))]) (A2 := [sI r_8_3]) (by simp only [sI, sB, aSystem, aTerm, hSystem, hTerm, List.map_nil, sh_I]) (spec_l5Default_ih _ _ hr_8_4)) (ai bod_103 (ai (Or.inr (nsh_cons rfl (nsh_cons rfl (nsh_cons (nsh_row nsh_I r_8_4.fType) (nsh_cons (nsh_row nsh_GTerm_O r_8_4.fKids) rfl)))) : ([8] : List Nat) = [] ∨ noSh (qTerm r_8_4) = true) (ai (congrArg (fun z => (⟨[(30, .rs 11)], [(11, some (.arr z)), (6, none), (7, none), (9, none), (10, none)], [11]⟩ : Wr)) ((rows1 (eq_GTerm_O r_8_1) (rows1 (eq_GTerm_O r_8_4) rows0)) : [AV.agg [I r_8_1.fOp, I r_8_1.fN, AV.osl (List.map I r_8_1.fType), AV.osl (List.map GTerm_O r_8_1.fKids)], AV.agg [I r_8_4.fOp, I r_8_4.fN, AV.osl (List.map I r_8_4.fType), AV.osl (List.map GTerm_O r_8_4.fKids)]] = List.map GTerm_O [r_8_1, r_8_4])) trivial)))))))))) ?_
    refine seqQ_norm ?_
    refine Wp.retN (by kernel_rfl) ?_
    refine blockQ_ret ?_
    refine seqQ_ret ?_
    obtain rfl := Option.some.inj h
    exact RetQ.ret (fl := [true]) (by kernel_rfl)
   ·refine cF ((e_1_1 == 1)) hb_3 ?_
    refine sN ?_
    refine rg0 hc 3 [(0, sI ty0), (2, .ra 1 0), (3, I e_1_1), (4, .rs 2), (32, .bool (e_1_1 == 2))] [(1, .box [I 0, I 0, .nils, .nils]), (2, .arr (List.map I r_4_1))] ?_
    refine seqQ_norm ?_
    rcases itesome h with ⟨hb_4, h⟩ | ⟨hb_4, h⟩
    ·refine cT ((e_1_1 == 2)) hb_4 ?_
     refine sN ?_
     obtain ⟨r_10_1, hr_10_1, h⟩ := bsome h
     obtain ⟨r_10_3, hr_10_3, h⟩ := bsome h
     refine rg hc none [oN, some (.call (.osl (List.map I r_10_1)) [] 12), oN, some (.call (qTerm r_10_3) [] 13), some (.eqv (.mk 15 true) ⟨[(39, .rs 15)], [(15, some (.arr (List.map GTerm_O [r_10_3]))), (13, none), (14, none)], [15]⟩), oN, oN] [(2, .ra 1 0)] [(1, .box [I 6, I 0, .rs 12, .rs 15]), (12, .arr (List.map I r_10_1)), (15, .arr (List.map GTerm_O [r_10_3]))] (ai (spec_l2Part_s _ _ hr_10_1) (ai bod_72 (ai (oi (.osl (List.map I r_10_1))) (ai (FnSound.args (A1 := [.sl (shares (List.map I r_4_1))]) (A2 := [sI r_4_1]) (by simp only [sI, sB, aSystem, aTerm, hSystem, hTerm, List.map_nil, sh_I]) (spec_l5Default_ih _ _ hr_10_3)) (ai bod_103 (ai (Or.inr (nsh_cons rfl (nsh_cons rfl (nsh_cons (nsh_row nsh_I r_10_3.fType) (nsh_cons (nsh_row nsh_GTerm_O r_10_3.fKids) rfl)))) : ([2] : List Nat) = [] ∨ noSh (qTerm r_10_3) = true) (ai (congrArg (fun z => (⟨[(39, .rs 15)], [(15, some (.arr z)), (13, none), (14, none)], [15]⟩ : Wr)) ((rows1 (eq_GTerm_O r_10_3) rows0) : [AV.agg [I r_10_3.fOp, I r_10_3.fN, AV.osl (List.map I r_10_3.fType), AV.osl (List.map GTerm_O r_10_3.fKids)]] = List.map GTerm_O [r_10_3])) trivial))))))) ?_
     refine seqQ_norm ?_
     refine Wp.retN (by kernel_rfl) ?_
     refine blockQ_ret ?_
     refine seqQ_ret ?_
     obtain rfl := Option.some.inj h
     exact RetQ.ret (fl := [true]) (by kernel_rfl)
    ·refine cF ((e_1_1 == 2)) hb_4 ?_
     refine Wp.skipN (by kernel_rfl) ?_
     refine blockQ_norm ?_
     refine seqQ_norm ?_
     refine sN ?_
     obtain ⟨r_11_1, hr_11_1, h⟩ := bsome h
     obtain ⟨r_11_4, hr_11_4, h⟩ := bsome h
     obtain ⟨r_11_5, hr_11_5, h⟩ := bsome h
     refine rg hc none [oN, oc (I r_11_1), oN, oN, some (.call (.osl (List.map I r_11_4)) [] 16), some (.call (qTerm r_11_5) [] 17), some (.eqv (.mk 19 true) ⟨[(47, .rs 19)], [(19, some (.arr (List.map GTerm_O [r_11_5]))), (17, none), (18, none)], [19]⟩), oN, oN] [(2, .ra 1 0)] [(1, .box [I 9, I r_11_1, .rs 2, .rs 19]), (2, .arr (List.map I r_4_1)), (19, .arr (List.map GTerm_O [r_11_5]))] (ai (spec_l2Grade_s _ _ hr_11_1) (ai bod_74 (ai (oi (I r_11_1)) (ai (spec_l2Part_s _ _ hr_11_4) (ai bod_72 (ai (oi (.osl (List.map I r_11_4))) (ai (FnSound.args (A1 := [.sl (shares (List.map I r_11_4))]) (A2 := [sI r_11_4]) (by simp only [sI, sB, aSystem, aTerm, hSystem, hTerm, List.map_nil, sh_I]) (spec_l5Default_ih _ _ hr_11_5)) (ai bod_103 (ai (Or.inr (nsh_cons rfl (nsh_cons rfl (nsh_cons (nsh_row nsh_I r_11_5.fType) (nsh_cons (nsh_row nsh_GTerm_O r_11_5.fKids) rfl)))) : ([16] : List Nat) = [] ∨ noSh (qTerm r_11_5) = true) (ai (congrArg (fun z => (⟨[(47, .rs 19)], [(19, some (.arr z)), (17, none), (18, none)], [19]⟩ : Wr)) ((rows1 (eq_GTerm_O r_11_5) rows0) : [AV.agg [I r_11_5.fOp, I r_11_5.fN, AV.osl (List.map I r_11_5.fType), AV.osl (List.map GTerm_O r_11_5.fKids)]] = List.map GTerm_O [r_11_5])) trivial)))))))))) ?_
     refine seqQ_norm ?_
     refine Wp.retN (by kernel_rfl) ?_
     obtain rfl := Option.some.inj h
     exact RetQ.ret (fl := [true]) (by kernel_rfl)
def spec_l7Value_F1 (c : Ctx) (v2 : GTerm) (r_2_6 : List Int) : (List GTerm) → Exit → AState → Prop
 | out_18 => Into c (.exit 0) (mkS [(6, .ra 2 0), (8, .ra 4 0)] [(2, .box [I 0, I 0, .nils, .nils]), (3, .arr (List.map I r_2_6)), (4, .box [I v2.fOp, I v2.fN, .rs 3, .rs 14]), (14, .arr (List.map GTerm_O out_18))])
mutual
def spec_l7Value (p : (List Int) × (List Int) × GTerm) : Option (GTerm) :=
 match p with
 | (view0, ty1, v2) =>
  (idx ty1 0) >>= fun e_1_1 =>
  (spec_l1Copy v2.fType) >>= fun r_2_6 =>
  (
   (spec_l2Box e_1_1) >>= fun r_3_1 =>
   if r_3_1 = true then
    (spec_l2Grade e_1_1) >>= fun r_3_5 =>
    (spec_l1Has (view0, r_3_5)) >>= fun r_3_6 =>
    some ((!r_3_6))
   else
    some (false)
  ) >>= fun v_1 =>
  if v_1 = true then
   (spec_l2Part (ty1, 0)) >>= fun r_4_1 =>
   (spec_l5Default r_4_1) >>= fun r_4_2 =>
   some (GTerm.mk v2.fOp v2.fN r_2_6 [r_4_2])
  else
   (spec_l7Value_l0 (view0, ty1, v2, r_2_6, [], 0)) >>= fun out_18 =>
   some (GTerm.mk v2.fOp v2.fN r_2_6 out_18)
 partial_fixpoint
def spec_l7Value_l0 (p : (List Int) × (List Int) × GTerm × (List Int) × (List GTerm) × Int) : Option ((List GTerm)) :=
 match p with
 | (view0, ty1, v2, r_2_6, out_13, k_8) =>
  if (decide (k_8 < (v2.fKids.length : Int))) = true then
   (
    if (v2.fOp == 7) = true then
     some (1)
    else
     some (k_8)
   ) >>= fun part_16 =>
   (spec_l2Part (ty1, part_16)) >>= fun r_12_5 =>
   (idx v2.fKids k_8) >>= fun e_12_9 =>
   (spec_l7Value (view0, r_12_5, e_12_9)) >>= fun r_12_11 =>
   (fits (out_13.length + [r_12_11].length) 64) >>= fun _ =>
   spec_l7Value_l0 (view0, ty1, v2, r_2_6, (out_13 ++ [r_12_11]), (wr (k_8 + 1)))
  else
   some (out_13)
 partial_fixpoint
end
def M_spec_l7Value (p : (List Int) × (List Int) × GTerm) (r : GTerm) : Prop :=
 match p with
 | (view0, ty1, v2) => FnSound Try.prog 64 [sI view0, sI ty1, aTerm v2] (qTerm r) []
def M_spec_l7Value_l0 (p : (List Int) × (List Int) × GTerm × (List Int) × (List GTerm) × Int) (fl : (List GTerm)) : Prop :=
 match p with
 | (view0, ty1, v2, r_2_6, out_13, k_8) => ∀ c : Ctx, c.nt = 64 → WpL Try.prog c (cl (cl (cr (cl (cr (cr (cr (cr B64)))))))) (spec_l7Value_F1 c v2 r_2_6 fl) (mkS [(0, sI view0), (1, sI ty1), (5, .ra 1 0), (6, .ra 2 0), (8, .ra 4 0), (9, I k_8)] [(1, bTerm v2), (2, .box [I 0, I 0, .nils, .nils]), (3, .arr (List.map I r_2_6)), (4, .box [I v2.fOp, I v2.fN, .rs 3, .rs 14]), (14, .arr (List.map GTerm_O out_13))])
theorem spec_l7Value_all : (∀ p r, spec_l7Value p = some r → M_spec_l7Value p r) ∧ (∀ p r, spec_l7Value_l0 p = some r → M_spec_l7Value_l0 p r) := by
 refine spec_l7Value.mutual_partial_correctness M_spec_l7Value M_spec_l7Value_l0 ?_ ?_
 ·rintro spec_l7Value_l0_f spec_l7Value_l0_ih ⟨view0, ty1, v2⟩ r h
  show FnSound Try.prog 64 [sI view0, sI ty1, aTerm v2] (qTerm r) []
  refine FnSound.body0 tiok (fn := Try.f64) (code := B64) (by kernel_rfl) (by kernel_rfl) (by kernel_rfl) (by kernel_rfl) (nt := 64) (by kernel_rfl) (by kernel_rfl) (T := [(0, sI view0), (1, sI ty1), (2, aTerm v2)]) (O := []) (by kernel_rfl) (by kernel_rfl) (fun c hc => ?_)
  refine sN ?_
  refine rg hc none [some (.new 1), some (.new 2)] [(0, sI view0), (1, sI ty1), (5, .ra 1 0), (6, .ra 2 0)] [(1, bTerm v2), (2, .box [I 0, I 0, .nils, .nils])] trivial ?_
  refine seqQ_norm ?_
  refine sN ?_
  obtain ⟨e_1_1, hi_1_1, h⟩ := bsome h
  refine rg hc none [oN, some (.el (I e_1_1)), oN, oN] [(0, sI view0), (1, sI ty1), (5, .ra 1 0), (6, .ra 2 0), (7, I e_1_1)] [(1, bTerm v2), (2, .box [I 0, I 0, .nils, .nils])] (ai (ix hi_1_1) trivial) ?_
  refine seqQ_norm ?_
  refine sN ?_
  obtain ⟨r_2_6, hr_2_6, h⟩ := bsome h
  refine rg hc (rx [[0], [1], [0], [0, 2], [0], [0, 4], [0, 4, 5], [7], [0], [9]]) [oN, oN, oN, oN, oN, oN, some (.call (.osl (List.map I r_2_6)) [] 3), oN, some (.new 4), oN] [(0, sI view0), (1, sI ty1), (5, .ra 1 0), (6, .ra 2 0), (7, I e_1_1), (8, .ra 4 0)] [(1, bTerm v2), (2, .box [I 0, I 0, .nils, .nils]), (3, .arr (List.map I r_2_6)), (4, .box [I v2.fOp, I v2.fN, .rs 3, .nils])] (ai (spec_l1Copy_s _ _ hr_2_6) (ai bod_99 (ai (oi (.osl (List.map I r_2_6))) trivial))) ?_
  refine seqQ_norm ?_
  refine sN ?_
  refine sN ?_
  obtain ⟨v_1, hj_2, h⟩ := bsome h
  refine Wp.into (x := .normal) (mkS [(0, sI view0), (1, sI ty1), (5, .ra 1 0), (6, .ra 2 0), (8, .ra 4 0), (30, .bool v_1)] [(1, bTerm v2), (2, .box [I 0, I 0, .nils, .nils]), (3, .arr (List.map I r_2_6)), (4, .box [I v2.fOp, I v2.fN, .rs 3, .nils])]) ?_ ?_
  ·replace h := hj_2
   obtain ⟨r_3_1, hr_3_1, h⟩ := bsome h
   rcases itesome h with ⟨hb_3_0, h⟩ | ⟨hb_3_0, h⟩
   ·obtain ⟨r_3_5, hr_3_5, h⟩ := bsome h
    obtain ⟨r_3_6, hr_3_6, h⟩ := bsome h
    refine rg hc none [oN, oc (.bool r_3_1), oN, oN, oN, oc (I r_3_5), oc (.bool r_3_6), oN, oT] [(0, sI view0), (1, sI ty1), (5, .ra 1 0), (6, .ra 2 0), (8, .ra 4 0), (30, .bool (!r_3_6))] [(1, bTerm v2), (2, .box [I 0, I 0, .nils, .nils]), (3, .arr (List.map I r_2_6)), (4, .box [I v2.fOp, I v2.fN, .rs 3, .nils])] (ai (spec_l2Box_s _ _ hr_3_1) (ai bod_73 (ai (oi (.bool r_3_1)) (ar 3 hb_3_0 (ai (spec_l2Grade_s _ _ hr_3_5) (ai bod_74 (ai (oi (I r_3_5)) (ai hb_3_0 (ai (spec_l1Has_s _ _ hr_3_6) (ai bod_82 (ai (oi (.bool r_3_6)) (ar 2 hb_3_0 trivial)))))))))))) ?_
    obtain rfl := Option.some.inj h
    exact Into.mk
   ·refine rg hc none [oN, oc (.bool r_3_1), oN, o_, o_, o_, o_, o_, oF] [(0, sI view0), (1, sI ty1), (5, .ra 1 0), (6, .ra 2 0), (8, .ra 4 0), (30, .bool false)] [(1, bTerm v2), (2, .box [I 0, I 0, .nils, .nils]), (3, .arr (List.map I r_2_6)), (4, .box [I v2.fOp, I v2.fN, .rs 3, .nils])] (ai (spec_l2Box_s _ _ hr_3_1) (ai bod_73 (ai (oi (.bool r_3_1)) (ar 5 (neT hb_3_0) (ai hb_3_0 trivial))))) ?_
    obtain rfl := Option.some.inj h
    exact Into.mk
  ·clear hj_2
   refine seqQ_norm ?_
   rcases itesome h with ⟨hb_3, h⟩ | ⟨hb_3, h⟩
   ·refine cT v_1 hb_3 ?_
    refine sN ?_
    obtain ⟨r_4_1, hr_4_1, h⟩ := bsome h
    obtain ⟨r_4_2, hr_4_2, h⟩ := bsome h
    refine rg hc none [oN, some (.call (.osl (List.map I r_4_1)) [] 5), some (.call (qTerm r_4_2) [] 6), some (.eqv (.mk 8 true) ⟨[(34, .rs 8)], [(8, some (.arr (List.map GTerm_O [r_4_2]))), (6, none), (7, none)], [8]⟩), oN, oN] [(6, .ra 2 0), (8, .ra 4 0)] [(2, .box [I 0, I 0, .nils, .nils]), (3, .arr (List.map I r_2_6)), (4, .box [I v2.fOp, I v2.fN, .rs 3, .rs 8]), (8, .arr (List.map GTerm_O [r_4_2]))] (ai (spec_l2Part_s _ _ hr_4_1) (ai bod_72 (ai (oi (.osl (List.map I r_4_1))) (ai (FnSound.args (A1 := [.sl (shares (List.map I r_4_1))]) (A2 := [sI r_4_1]) (by simp only [sI, sB, aSystem, aTerm, hSystem, hTerm, List.map_nil, sh_I]) (spec_l5Default_s _ _ hr_4_2)) (ai bod_103 (ai (Or.inr (nsh_cons rfl (nsh_cons rfl (nsh_cons (nsh_row nsh_I r_4_2.fType) (nsh_cons (nsh_row nsh_GTerm_O r_4_2.fKids) rfl)))) : ([5] : List Nat) = [] ∨ noSh (qTerm r_4_2) = true) (ai (congrArg (fun z => (⟨[(34, .rs 8)], [(8, some (.arr z)), (6, none), (7, none)], [8]⟩ : Wr)) ((rows1 (eq_GTerm_O r_4_2) rows0) : [AV.agg [I r_4_2.fOp, I r_4_2.fN, AV.osl (List.map I r_4_2.fType), AV.osl (List.map GTerm_O r_4_2.fKids)]] = List.map GTerm_O [r_4_2])) trivial))))))) ?_
    refine seqQ_norm ?_
    refine sN ?_
    refine rg0 hc 2 [(6, .ra 2 0)] [(2, .box [I v2.fOp, I v2.fN, .rs 3, .rs 8]), (3, .arr (List.map I r_2_6)), (8, .arr (List.map GTerm_O [r_4_2]))] ?_
    refine seqQ_norm ?_
    refine Wp.retN (by kernel_rfl) ?_
    refine seqQ_ret ?_
    obtain rfl := Option.some.inj h
    exact RetQ.ret (fl := [true]) (by kernel_rfl)
   ·refine cF v_1 hb_3 ?_
    refine Wp.skipN (by kernel_rfl) ?_
    refine seqQ_norm ?_
    refine sN ?_
    refine sN ?_
    refine rg0 hc 1 [(0, sI view0), (1, sI ty1), (5, .ra 1 0), (6, .ra 2 0), (8, .ra 4 0), (9, I 0)] [(1, bTerm v2), (2, .box [I 0, I 0, .nils, .nils]), (3, .arr (List.map I r_2_6)), (4, .box [I v2.fOp, I v2.fN, .rs 3, .nils])] ?_
    refine seqQ_norm ?_
    refine Wp.blockN (i := 0) (by kernel_rfl) ?_
    obtain ⟨out_18, hl_19, h⟩ := bsome h
    have hL := spec_l7Value_l0_ih _ _ hl_19 c hc
    refine Wp.loopN (by kernel_rfl) (WpL.view (fun a w hv => SRx.renL [(14, 25)] (SRx.nilBL 4 3 25 [I v2.fOp, I v2.fN, .rs 3, .nils] hv (by kernel_rfl) (by kernel_rfl) (by kernel_rfl)) (by kernel_rfl) (by kernel_rfl) (by kernel_rfl)) (?_ : WpL _ c _ _ (mkS [(0, sI view0), (1, sI ty1), (5, .ra 1 0), (6, .ra 2 0), (8, .ra 4 0), (9, I 0)] [(1, bTerm v2), (2, .box [I 0, I 0, .nils, .nils]), (3, .arr (List.map I r_2_6)), (4, .box [I v2.fOp, I v2.fN, .rs 3, .rs 14]), (14, .arr (List.map GTerm_O []))])))
    ·refine WpL.into (e := (.exit 0)) (mkS [(6, .ra 2 0), (8, .ra 4 0)] [(2, .box [I 0, I 0, .nils, .nils]), (3, .arr (List.map I r_2_6)), (4, .box [I v2.fOp, I v2.fN, .rs 3, .rs 14]), (14, .arr (List.map GTerm_O out_18))]) hL ?_
     refine blockQ_hit ?_
     refine seqQ_norm ?_
     refine sN ?_
     refine rg0 hc 2 [(6, .ra 2 0)] [(2, .box [I v2.fOp, I v2.fN, .rs 3, .rs 14]), (3, .arr (List.map I r_2_6)), (14, .arr (List.map GTerm_O out_18))] ?_
     refine seqQ_norm ?_
     refine Wp.retN (by kernel_rfl) ?_
     obtain rfl := Option.some.inj h
     exact RetQ.ret (fl := [true]) (by kernel_rfl)
 ·rintro spec_l7Value_f spec_l7Value_l0_f spec_l7Value_ih spec_l7Value_l0_ih ⟨view0, ty1, v2, r_2_6, out_13, k_8⟩ r h
  intro c hc
  show WpL Try.prog c (cl (cl (cr (cl (cr (cr (cr (cr B64)))))))) (spec_l7Value_F1 c v2 r_2_6 r) (mkS [(0, sI view0), (1, sI ty1), (5, .ra 1 0), (6, .ra 2 0), (8, .ra 4 0), (9, I k_8)] [(1, bTerm v2), (2, .box [I 0, I 0, .nils, .nils]), (3, .arr (List.map I r_2_6)), (4, .box [I v2.fOp, I v2.fN, .rs 3, .rs 14]), (14, .arr (List.map GTerm_O out_13))])
  refine WpL.step ?_
  refine sN ?_
  refine sN ?_
  refine rg hc none [oN, oN, oN, some (.eqv (.no) ⟨[(40, I (v2.fKids.length : Int))], [], []⟩), oN] [(0, sI view0), (1, sI ty1), (5, .ra 1 0), (6, .ra 2 0), (8, .ra 4 0), (9, I k_8), (41, .bool (decide (k_8 < (v2.fKids.length : Int))))] [(1, bTerm v2), (2, .box [I 0, I 0, .nils, .nils]), (3, .arr (List.map I r_2_6)), (4, .box [I v2.fOp, I v2.fN, .rs 3, .rs 14]), (14, .arr (List.map GTerm_O out_13))] (ai (lenT (d := 40) GTerm_S v2.fKids) trivial) ?_
  refine seqQ_norm ?_
  rcases itesome h with ⟨hb_14, h⟩ | ⟨hb_14, h⟩
  ·refine cT ((decide (k_8 < (v2.fKids.length : Int)))) hb_14 ?_
   refine Wp.skipN (by kernel_rfl) ?_
   refine seqQ_norm ?_
   refine sN ?_
   refine Wp.blockN (i := 1) (by kernel_rfl) ?_
   refine sN ?_
   refine rg0 hc 2 [(0, sI view0), (1, sI ty1), (5, .ra 1 0), (6, .ra 2 0), (8, .ra 4 0), (9, I k_8), (10, I k_8)] [(1, bTerm v2), (2, .box [I 0, I 0, .nils, .nils]), (3, .arr (List.map I r_2_6)), (4, .box [I v2.fOp, I v2.fN, .rs 3, .rs 14]), (14, .arr (List.map GTerm_O out_13))] ?_
   refine seqQ_norm ?_
   refine sN ?_
   refine sN ?_
   refine rg0 hc 3 [(0, sI view0), (1, sI ty1), (5, .ra 1 0), (6, .ra 2 0), (8, .ra 4 0), (9, I k_8), (10, I k_8), (47, .bool (v2.fOp == 7))] [(1, bTerm v2), (2, .box [I 0, I 0, .nils, .nils]), (3, .arr (List.map I r_2_6)), (4, .box [I v2.fOp, I v2.fN, .rs 3, .rs 14]), (14, .arr (List.map GTerm_O out_13))] ?_
   refine seqQ_norm ?_
   obtain ⟨part_16, hj_17, h⟩ := bsome h
   refine Wp.into (x := .normal) (mkS [(0, sI view0), (1, sI ty1), (5, .ra 1 0), (6, .ra 2 0), (8, .ra 4 0), (9, I k_8), (10, I part_16)] [(1, bTerm v2), (2, .box [I 0, I 0, .nils, .nils]), (3, .arr (List.map I r_2_6)), (4, .box [I v2.fOp, I v2.fN, .rs 3, .rs 14]), (14, .arr (List.map GTerm_O out_13))]) ?_ ?_
   ·replace h := hj_17
    rcases itesome h with ⟨hb_15, h⟩ | ⟨hb_15, h⟩
    ·refine cT ((v2.fOp == 7)) hb_15 ?_
     refine rg0 hc 1 [(0, sI view0), (1, sI ty1), (5, .ra 1 0), (6, .ra 2 0), (8, .ra 4 0), (9, I k_8), (10, I 1)] [(1, bTerm v2), (2, .box [I 0, I 0, .nils, .nils]), (3, .arr (List.map I r_2_6)), (4, .box [I v2.fOp, I v2.fN, .rs 3, .rs 14]), (14, .arr (List.map GTerm_O out_13))] ?_
     obtain rfl := Option.some.inj h
     exact Into.mk
    ·refine cF ((v2.fOp == 7)) hb_15 ?_
     refine Wp.skipN (by kernel_rfl) ?_
     obtain rfl := Option.some.inj h
     exact Into.view (fun a w hv => SRx.renL [] hv (by kernel_rfl) (by kernel_rfl) (by kernel_rfl))
   ·clear hj_17
    refine seqQ_norm ?_
    obtain ⟨r_12_5, hr_12_5, h⟩ := bsome h
    obtain ⟨e_12_9, hi_12_9, h⟩ := bsome h
    obtain ⟨r_12_11, hr_12_11, h⟩ := bsome h
    obtain ⟨_, hk_12_13, h⟩ := bsome h
    refine rg hc (rx [[0], [1], [0], [0], [0], [0, 3, 4], [0], [0, 6], [0], [0, 6, 7, 8], [0, 6, 7, 8, 9], [0, 2, 3, 4, 5, 6, 7, 8, 9, 10], [0, 2, 3, 4, 5, 6, 7, 8, 9, 10, 11], [13], [14], [15]]) [oN, oN, oN, oN, oN, some (.call (.osl (List.map I r_12_5)) [] 20), oN, oN, oN, some (.el (aTerm e_12_9)), oN, some (.call (qTerm r_12_11) [] 21), some (.eqv (.mk 23 true) ⟨[(60, .rs 23)], [(23, some (.arr (List.map GTerm_O [r_12_11]))), (21, none), (22, none)], [23]⟩), some (.eqv (.mk 24 true) ⟨[(61, .rs 24)], [(24, some (.arr (List.map GTerm_O (out_13 ++ [r_12_11])))), (14, none), (23, none)], [24]⟩), oN, oN] [(0, sI view0), (1, sI ty1), (5, .ra 1 0), (6, .ra 2 0), (8, .ra 4 0), (9, I k_8)] [(1, bTerm v2), (2, .box [I 0, I 0, .nils, .nils]), (3, .arr (List.map I r_2_6)), (4, .box [I v2.fOp, I v2.fN, .rs 3, .rs 24]), (24, .arr (List.map GTerm_O (out_13 ++ [r_12_11])))] (ai (spec_l2Part_s _ _ hr_12_5) (ai bod_72 (ai (oi (.osl (List.map I r_12_5))) (ai (idx_sl (enc := GTerm_S) (x := aTerm e_12_9) hi_12_9 (eq_GTerm_S e_12_9)) (ai (FnSound.args (A1 := [sI view0, .sl (shares (List.map I r_12_5)), aTerm e_12_9]) (A2 := [sI view0, sI r_12_5, aTerm e_12_9]) (by simp only [sI, sB, aSystem, aTerm, hSystem, hTerm, List.map_nil, sh_I]) (spec_l7Value_ih _ _ hr_12_11)) (ai bod_64 (ai (Or.inr (nsh_cons rfl (nsh_cons rfl (nsh_cons (nsh_row nsh_I r_12_11.fType) (nsh_cons (nsh_row nsh_GTerm_O r_12_11.fKids) rfl)))) : ([20] : List Nat) = [] ∨ noSh (qTerm r_12_11) = true) (ai (congrArg (fun z => (⟨[(60, .rs 23)], [(23, some (.arr z)), (21, none), (22, none)], [23]⟩ : Wr)) ((rows1 (eq_GTerm_O r_12_11) rows0) : [AV.agg [I r_12_11.fOp, I r_12_11.fN, AV.osl (List.map I r_12_11.fType), AV.osl (List.map GTerm_O r_12_11.fKids)]] = List.map GTerm_O [r_12_11])) (ai (congrArg (fun z => (⟨[(61, .rs 24)], [(24, some (.arr z)), (14, none), (23, none)], [24]⟩ : Wr)) ((List.map_append).symm : (List.map GTerm_O out_13) ++ (List.map GTerm_O [r_12_11]) = List.map GTerm_O (out_13 ++ [r_12_11]))) (ai (app_ob (enc1 := GTerm_O) (enc2 := GTerm_O) (e1 := out_13) (e2 := [r_12_11]) (sz := 4) ek_GTerm_O ek_GTerm_O hk_12_13) trivial)))))))))) ?_
    refine blockQ_norm ?_
    refine seqQ_norm ?_
    refine rg0 hc 3 [(0, sI view0), (1, sI ty1), (5, .ra 1 0), (6, .ra 2 0), (8, .ra 4 0), (9, I (wr (k_8 + 1)))] [(1, bTerm v2), (2, .box [I 0, I 0, .nils, .nils]), (3, .arr (List.map I r_2_6)), (4, .box [I v2.fOp, I v2.fN, .rs 3, .rs 24]), (24, .arr (List.map GTerm_O (out_13 ++ [r_12_11])))] ?_
    refine loopQ_norm ?_
    exact WpL.view (fun a w hv => SRx.renL [(14, 24)] hv (by kernel_rfl) (by kernel_rfl) (by kernel_rfl)) (spec_l7Value_l0_ih _ _ h c hc)
  ·refine cF ((decide (k_8 < (v2.fKids.length : Int)))) hb_14 ?_
   refine Wp.exitN (i := 0) (by kernel_rfl) ?_
   refine seqQ_exit ?_
   refine loopQ_exit ?_
   obtain rfl := Option.some.inj h
   exact Into.view (fun a w hv => SRx.renL [] hv (by kernel_rfl) (by kernel_rfl) (by kernel_rfl))
theorem spec_l7Value_s : ∀ p r, spec_l7Value p = some r → M_spec_l7Value p r := spec_l7Value_all.1
theorem spec_l7Value_l0_s : ∀ p r, spec_l7Value_l0 p = some r → M_spec_l7Value_l0 p r := spec_l7Value_all.2
def spec_EraseValue (p : GSystem × (List Int) × (List Int) × GTerm) : Option (GTerm × Bool) :=
 match p with
 | (s0, view1, ty2, v3) =>
  (
   (spec_IsView (s0, view1)) >>= fun r_1_2 =>
   if r_1_2 = true then
    (spec_IsValue (s0, ty2, v3)) >>= fun r_1_8 =>
    some ((!r_1_8))
   else
    some (true)
  ) >>= fun v_1 =>
  if v_1 = true then
   some ((GTerm.mk 0 0 [] []), false)
  else
   (spec_l7Value (view1, ty2, v3)) >>= fun r_3_3 =>
   some (r_3_3, true)
def M_spec_EraseValue (p : GSystem × (List Int) × (List Int) × GTerm) (r : GTerm × Bool) : Prop :=
 match p with
 | (s0, view1, ty2, v3) => FnSound Try.prog 26 [aSystem s0, sI view1, sI ty2, aTerm v3] (.tup [.agg [I r.1.fOp, I r.1.fN, .osl (List.map I r.1.fType), .osl (List.map GTerm_O r.1.fKids)], .bool r.2]) []
theorem spec_EraseValue_s : ∀ p r, spec_EraseValue p = some r → M_spec_EraseValue p r := by
 rintro ⟨s0, view1, ty2, v3⟩ r h
 unfold spec_EraseValue at h
 show FnSound Try.prog 26 [aSystem s0, sI view1, sI ty2, aTerm v3] (.tup [.agg [I r.1.fOp, I r.1.fN, .osl (List.map I r.1.fType), .osl (List.map GTerm_O r.1.fKids)], .bool r.2]) []
 refine FnSound.body0 tiok (fn := Try.f26) (code := B26) (by kernel_rfl) (by kernel_rfl) (by kernel_rfl) (by kernel_rfl) (nt := 26) (by kernel_rfl) (by kernel_rfl) (T := [(0, aSystem s0), (1, sI view1), (2, sI ty2), (3, aTerm v3)]) (O := []) (by kernel_rfl) (by kernel_rfl) (fun c hc => ?_)
 refine sN ?_
 refine rg hc none [some (.new 1), some (.new 2), some (.new 3), oN] [(1, sI view1), (2, sI ty2), (4, .ra 1 0), (7, .ra 2 0), (8, .ra 3 0)] [(1, bSystem s0), (2, bTerm v3), (3, .box [I 0, I 0, .nils, .nils])] trivial ?_
 refine seqQ_norm ?_
 refine sN ?_
 refine sN ?_
 obtain ⟨v_1, hj_2, h⟩ := bsome h
 refine Wp.into (x := .normal) (mkS [(1, sI view1), (2, sI ty2), (7, .ra 2 0), (8, .ra 3 0), (20, .bool v_1)] [(2, bTerm v3), (3, .box [I 0, I 0, .nils, .nils])]) ?_ ?_
 ·replace h := hj_2
  obtain ⟨r_1_2, hr_1_2, h⟩ := bsome h
  rcases itesome h with ⟨hb_1_0, h⟩ | ⟨hb_1_0, h⟩
  ·obtain ⟨r_1_8, hr_1_8, h⟩ := bsome h
   refine rg hc none [oN, oN, oc (.bool r_1_2), oN, oN, oN, oN, oN, oc (.bool r_1_8), oN, oF] [(1, sI view1), (2, sI ty2), (7, .ra 2 0), (8, .ra 3 0), (20, .bool (!r_1_8))] [(2, bTerm v3), (3, .box [I 0, I 0, .nils, .nils])] (ai (spec_IsView_s _ _ hr_1_2) (ai bod_44 (ai (oi (.bool r_1_2)) (ar 4 (nF hb_1_0) (ai (spec_IsValue_s _ _ hr_1_8) (ai bod_34 (ai (oi (.bool r_1_8)) (ar 2 (nF hb_1_0) trivial)))))))) ?_
   obtain rfl := Option.some.inj h
   exact Into.mk
  ·refine rg hc none [oN, oN, oc (.bool r_1_2), oN, oN, o_, o_, o_, o_, o_, oT] [(1, sI view1), (2, sI ty2), (7, .ra 2 0), (8, .ra 3 0), (20, .bool true)] [(2, bTerm v3), (3, .box [I 0, I 0, .nils, .nils])] (ai (spec_IsView_s _ _ hr_1_2) (ai bod_44 (ai (oi (.bool r_1_2)) (ar 5 (neF (nT hb_1_0)) (ai (nT hb_1_0) trivial))))) ?_
   obtain rfl := Option.some.inj h
   exact Into.mk
 ·clear hj_2
  refine seqQ_norm ?_
  rcases itesome h with ⟨hb_3, h⟩ | ⟨hb_3, h⟩
  ·refine cT v_1 hb_3 ?_
   refine sN ?_
   refine rg0 hc 3 [(8, .ra 3 0), (9, .bool false)] [(3, .box [I 0, I 0, .nils, .nils])] ?_
   refine seqQ_norm ?_
   refine Wp.retN (by kernel_rfl) ?_
   refine seqQ_ret ?_
   obtain rfl := Option.some.inj h
   exact RetQ.ret (fl := [true, true]) (by kernel_rfl)
  ·refine cF v_1 hb_3 ?_
   refine Wp.skipN (by kernel_rfl) ?_
   refine seqQ_norm ?_
   refine sN ?_
   obtain ⟨r_3_3, hr_3_3, h⟩ := bsome h
   refine rg hc none [oN, oN, oN, some (.call (qTerm r_3_3) [] 4), oN, oN] [(8, .ra 3 0), (9, .bool true)] [(3, .box [I r_3_3.fOp, I r_3_3.fN, .rs 4, .rs 5]), (4, .arr (List.map I r_3_3.fType)), (5, .arr (List.map GTerm_O r_3_3.fKids))] (ai (spec_l7Value_s _ _ hr_3_3) (ai bod_64 (ai (oi (qTerm r_3_3)) trivial))) ?_
   refine seqQ_norm ?_
   refine Wp.retN (by kernel_rfl) ?_
   obtain rfl := Option.some.inj h
   exact RetQ.ret (fl := [true, true]) (by kernel_rfl)
def impl_within (p : Int × Int × Int) : Option (Bool) :=
 match p with
 | (n0, low1, high2) =>
  (
   if (decide (n0 ≥ low1)) = true then
    some ((decide (n0 ≤ high2)))
   else
    some (false)
  ) >>= fun v_1 =>
  some v_1
def M_impl_within (p : Int × Int × Int) (r : Bool) : Prop :=
 match p with
 | (n0, low1, high2) => FnSound Try.prog 61 [I n0, I low1, I high2] (.bool r) []
theorem impl_within_s : ∀ p r, impl_within p = some r → M_impl_within p r := by
 rintro ⟨n0, low1, high2⟩ r h
 unfold impl_within at h
 show FnSound Try.prog 61 [I n0, I low1, I high2] (.bool r) []
 refine FnSound.body0 tiok (fn := Try.f61) (code := B61) (by kernel_rfl) (by kernel_rfl) (by kernel_rfl) (by kernel_rfl) (nt := 15) (by kernel_rfl) (by kernel_rfl) (T := [(0, I n0), (1, I low1), (2, I high2)]) (O := []) (by kernel_rfl) (by kernel_rfl) (fun c hc => ?_)
 refine sN ?_
 refine rg0 hc 1 [(0, I n0), (1, I low1), (2, I high2)] [] ?_
 refine seqQ_norm ?_
 refine sN ?_
 obtain ⟨v_1, hj_2, h⟩ := bsome h
 refine Wp.into (x := .normal) (mkS [(6, .bool v_1)] []) ?_ ?_
 ·replace h := hj_2
  rcases itesome h with ⟨hb_1_0, h⟩ | ⟨hb_1_0, h⟩
  ·refine rg hc none [oN, oN, oN, oN, oN, oN, oN, oT, oN] [(6, .bool (decide (n0 ≤ high2)))] [] (ar 4 hb_1_0 trivial) ?_
   obtain rfl := Option.some.inj h
   exact Into.mk
  ·refine rg hc none [oN, oN, oN, oN, o_, o_, o_, oF, oN] [(6, .bool false)] [] (ar 3 (neT hb_1_0) (ai hb_1_0 trivial)) ?_
   obtain rfl := Option.some.inj h
   exact Into.mk
 ·clear hj_2
  refine seqQ_norm ?_
  refine Wp.retN (by kernel_rfl) ?_
  obtain rfl := Option.some.inj h
  exact RetQ.ret (fl := [true]) (by kernel_rfl)
def impl_Systemhas (p : GSystem × Int) : Option (Bool) :=
 match p with
 | (s0, g1) =>
  (impl_within (g1, 0, (wr (s0.fSize - 1)))) >>= fun r_1_4 =>
  some r_1_4
def M_impl_Systemhas (p : GSystem × Int) (r : Bool) : Prop :=
 match p with
 | (s0, g1) => FnSound Try.prog 84 [aSystem s0, I g1] (.bool r) []
theorem impl_Systemhas_s : ∀ p r, impl_Systemhas p = some r → M_impl_Systemhas p r := by
 rintro ⟨s0, g1⟩ r h
 unfold impl_Systemhas at h
 show FnSound Try.prog 84 [aSystem s0, I g1] (.bool r) []
 refine FnSound.body0 tiok (fn := Try.f84) (code := B84) (by kernel_rfl) (by kernel_rfl) (by kernel_rfl) (by kernel_rfl) (nt := 10) (by kernel_rfl) (by kernel_rfl) (T := [(0, aSystem s0), (1, I g1)]) (O := []) (by kernel_rfl) (by kernel_rfl) (fun c hc => ?_)
 refine sN ?_
 refine rg hc none [some (.new 1), oN] [(1, I g1), (2, .ra 1 0)] [(1, bSystem s0)] trivial ?_
 refine seqQ_norm ?_
 refine sN ?_
 obtain ⟨r_1_4, hr_1_4, h⟩ := bsome h
 refine rg hc none [oN, oN, oN, oN, oc (.bool r_1_4), oN] [(4, .bool r_1_4)] [] (ai (impl_within_s _ _ hr_1_4) (ai bod_61 (ai (oi (.bool r_1_4)) trivial))) ?_
 refine seqQ_norm ?_
 refine Wp.retN (by kernel_rfl) ?_
 obtain rfl := Option.some.inj h
 exact RetQ.ret (fl := [true]) (by kernel_rfl)
def impl_Systemplus (p : GSystem × Int × Int) : Option (Int) :=
 match p with
 | (s0, a1, b2) =>
  (idx s0.fPlus (wr ((wr (a1 * s0.fSize)) + b2))) >>= fun e_1_8 =>
  some e_1_8
def M_impl_Systemplus (p : GSystem × Int × Int) (r : Int) : Prop :=
 match p with
 | (s0, a1, b2) => FnSound Try.prog 118 [aSystem s0, I a1, I b2] (I r) []
theorem impl_Systemplus_s : ∀ p r, impl_Systemplus p = some r → M_impl_Systemplus p r := by
 rintro ⟨s0, a1, b2⟩ r h
 unfold impl_Systemplus at h
 show FnSound Try.prog 118 [aSystem s0, I a1, I b2] (I r) []
 refine FnSound.body0 tiok (fn := Try.f118) (code := B118) (by kernel_rfl) (by kernel_rfl) (by kernel_rfl) (by kernel_rfl) (nt := 17) (by kernel_rfl) (by kernel_rfl) (T := [(0, aSystem s0), (1, I a1), (2, I b2)]) (O := []) (by kernel_rfl) (by kernel_rfl) (fun c hc => ?_)
 refine sN ?_
 refine rg hc none [some (.new 1), oN] [(1, I a1), (2, I b2), (3, .ra 1 0)] [(1, bSystem s0)] trivial ?_
 refine seqQ_norm ?_
 refine sN ?_
 obtain ⟨e_1_8, hi_1_8, h⟩ := bsome h
 refine rg hc none [oN, oN, oN, oN, oN, oN, oN, oN, some (.el (I e_1_8)), oN, oN] [(6, I e_1_8)] [] (ai (ix hi_1_8) trivial) ?_
 refine seqQ_norm ?_
 refine Wp.retN (by kernel_rfl) ?_
 obtain rfl := Option.some.inj h
 exact RetQ.ret (fl := [true]) (by kernel_rfl)
def impl_Systemtimes (p : GSystem × Int × Int) : Option (Int) :=
 match p with
 | (s0, a1, b2) =>
  (idx s0.fTimes (wr ((wr (a1 * s0.fSize)) + b2))) >>= fun e_1_8 =>
  some e_1_8
def M_impl_Systemtimes (p : GSystem × Int × Int) (r : Int) : Prop :=
 match p with
 | (s0, a1, b2) => FnSound Try.prog 119 [aSystem s0, I a1, I b2] (I r) []
theorem impl_Systemtimes_s : ∀ p r, impl_Systemtimes p = some r → M_impl_Systemtimes p r := by
 rintro ⟨s0, a1, b2⟩ r h
 unfold impl_Systemtimes at h
 show FnSound Try.prog 119 [aSystem s0, I a1, I b2] (I r) []
 refine FnSound.body0 tiok (fn := Try.f119) (code := B119) (by kernel_rfl) (by kernel_rfl) (by kernel_rfl) (by kernel_rfl) (nt := 17) (by kernel_rfl) (by kernel_rfl) (T := [(0, aSystem s0), (1, I a1), (2, I b2)]) (O := []) (by kernel_rfl) (by kernel_rfl) (fun c hc => ?_)
 refine sN ?_
 refine rg hc none [some (.new 1), oN] [(1, I a1), (2, I b2), (3, .ra 1 0)] [(1, bSystem s0)] trivial ?_
 refine seqQ_norm ?_
 refine sN ?_
 obtain ⟨e_1_8, hi_1_8, h⟩ := bsome h
 refine rg hc none [oN, oN, oN, oN, oN, oN, oN, oN, some (.el (I e_1_8)), oN, oN] [(6, I e_1_8)] [] (ai (ix hi_1_8) trivial) ?_
 refine seqQ_norm ?_
 refine Wp.retN (by kernel_rfl) ?_
 obtain rfl := Option.some.inj h
 exact RetQ.ret (fl := [true]) (by kernel_rfl)
def impl_Systembelow (p : GSystem × Int × Int) : Option (Bool) :=
 match p with
 | (s0, a1, b2) =>
  (idx s0.fBelow (wr ((wr (a1 * s0.fSize)) + b2))) >>= fun e_1_8 =>
  some e_1_8
def M_impl_Systembelow (p : GSystem × Int × Int) (r : Bool) : Prop :=
 match p with
 | (s0, a1, b2) => FnSound Try.prog 120 [aSystem s0, I a1, I b2] (.bool r) []
theorem impl_Systembelow_s : ∀ p r, impl_Systembelow p = some r → M_impl_Systembelow p r := by
 rintro ⟨s0, a1, b2⟩ r h
 unfold impl_Systembelow at h
 show FnSound Try.prog 120 [aSystem s0, I a1, I b2] (.bool r) []
 refine FnSound.body0 tiok (fn := Try.f120) (code := B120) (by kernel_rfl) (by kernel_rfl) (by kernel_rfl) (by kernel_rfl) (nt := 17) (by kernel_rfl) (by kernel_rfl) (T := [(0, aSystem s0), (1, I a1), (2, I b2)]) (O := []) (by kernel_rfl) (by kernel_rfl) (fun c hc => ?_)
 refine sN ?_
 refine rg hc none [some (.new 1), oN] [(1, I a1), (2, I b2), (3, .ra 1 0)] [(1, bSystem s0)] trivial ?_
 refine seqQ_norm ?_
 refine sN ?_
 obtain ⟨e_1_8, hi_1_8, h⟩ := bsome h
 refine rg hc none [oN, oN, oN, oN, oN, oN, oN, oN, some (.el (.bool e_1_8)), oN, oN] [(6, .bool e_1_8)] [] (ai (idx_sl (enc := AV.bool) (x := .bool e_1_8) hi_1_8 (eq_B e_1_8)) trivial) ?_
 refine seqQ_norm ?_
 refine Wp.retN (by kernel_rfl) ?_
 obtain rfl := Option.some.inj h
 exact RetQ.ret (fl := [true]) (by kernel_rfl)
def impl_Systemjoin_F1 (c : Ctx) (s0 : GSystem) (a1 : Int) (b2 : Int) (g_17 : Int) : Bool → Exit → AState → Prop
 | least_30 => Into c (.exit 2) (mkS [(1, I a1), (2, I b2), (3, .ra 1 0), (7, I g_17), (8, .bool least_30)] [(1, bSystem s0)])
def impl_Systemjoin_l0 (p : GSystem × Int × Int × Int × Bool × Int) : Option (Bool) :=
 match p with
 | (s0, a1, b2, g_17, least_25, h_26) =>
  if (decide (h_26 < s0.fSize)) = true then
   (
    if least_25 = true then
     (impl_Systembelow (s0, a1, h_26)) >>= fun r_9_5 =>
     if r_9_5 = true then
      (impl_Systembelow (s0, b2, h_26)) >>= fun r_9_11 =>
      if r_9_11 = true then
       (impl_Systembelow (s0, g_17, h_26)) >>= fun r_9_18 =>
       some (r_9_18)
      else
       some (true)
     else
      some (true)
    else
     some (false)
   ) >>= fun least_28 =>
   impl_Systemjoin_l0 (s0, a1, b2, g_17, least_28, (wr (h_26 + 1)))
  else
   some (least_25)
 partial_fixpoint
def M_impl_Systemjoin_l0 (p : GSystem × Int × Int × Int × Bool × Int) (fl : Bool) : Prop :=
 match p with
 | (s0, a1, b2, g_17, least_25, h_26) => ∀ c : Ctx, c.nt = 57 → WpL Try.prog c (cl (cl (cr (cl (cr (cr (cl (cl (cr (cl (cl (cr (cl (cr B121)))))))))))))) (impl_Systemjoin_F1 c s0 a1 b2 g_17 fl) (mkS [(1, I a1), (2, I b2), (3, .ra 1 0), (7, I g_17), (8, .bool least_25), (9, I h_26)] [(1, bSystem s0)])
theorem impl_Systemjoin_l0_s : ∀ p r, impl_Systemjoin_l0 p = some r → M_impl_Systemjoin_l0 p r := by
 refine impl_Systemjoin_l0.partial_correctness M_impl_Systemjoin_l0 ?_
 rintro impl_Systemjoin_l0_f impl_Systemjoin_l0_ih ⟨s0, a1, b2, g_17, least_25, h_26⟩ r h
 intro c hc
 show WpL Try.prog c (cl (cl (cr (cl (cr (cr (cl (cl (cr (cl (cl (cr (cl (cr B121)))))))))))))) (impl_Systemjoin_F1 c s0 a1 b2 g_17 r) (mkS [(1, I a1), (2, I b2), (3, .ra 1 0), (7, I g_17), (8, .bool least_25), (9, I h_26)] [(1, bSystem s0)])
 refine WpL.step ?_
 refine sN ?_
 refine sN ?_
 refine rg0 hc 4 [(1, I a1), (2, I b2), (3, .ra 1 0), (7, I g_17), (8, .bool least_25), (9, I h_26), (31, .bool (decide (h_26 < s0.fSize)))] [(1, bSystem s0)] ?_
 refine seqQ_norm ?_
 rcases itesome h with ⟨hb_27, h⟩ | ⟨hb_27, h⟩
 ·refine cT ((decide (h_26 < s0.fSize))) hb_27 ?_
  refine Wp.skipN (by kernel_rfl) ?_
  refine seqQ_norm ?_
  refine sN ?_
  refine Wp.blockN (i := 3) (by kernel_rfl) ?_
  obtain ⟨least_28, hj_29, h⟩ := bsome h
  refine Wp.into (x := .normal) (mkS [(1, I a1), (2, I b2), (3, .ra 1 0), (7, I g_17), (8, .bool least_28), (9, I h_26)] [(1, bSystem s0)]) ?_ ?_
  ·replace h := hj_29
   rcases itesome h with ⟨hb_9_0, h⟩ | ⟨hb_9_0, h⟩
   ·obtain ⟨r_9_5, hr_9_5, h⟩ := bsome h
    rcases itesome h with ⟨hb_9_1, h⟩ | ⟨hb_9_1, h⟩
    ·obtain ⟨r_9_11, hr_9_11, h⟩ := bsome h
     rcases itesome h with ⟨hb_9_2, h⟩ | ⟨hb_9_2, h⟩
     ·obtain ⟨r_9_18, hr_9_18, h⟩ := bsome h
      refine rg hc none [oN, oN, oN, oN, oN, oc (.bool r_9_5), oN, oN, oN, oN, oN, oc (.bool r_9_11), oN, oF, oN, oN, oN, oN, oc (.bool r_9_18), oF, oT, oN] [(1, I a1), (2, I b2), (3, .ra 1 0), (7, I g_17), (8, .bool r_9_18), (9, I h_26)] [(1, bSystem s0)] (ar 4 hb_9_0 (ai (impl_Systembelow_s _ _ hr_9_5) (ai bod_120 (ai (oi (.bool r_9_5)) (ar 2 hb_9_0 (ar 4 (nF hb_9_1) (ai (impl_Systembelow_s _ _ hr_9_11) (ai bod_120 (ai (oi (.bool r_9_11)) (ai (nF hb_9_1) (ai hb_9_0 (ai (nF hb_9_1) (ai hb_9_0 (ar 4 (nF hb_9_2) (ai (impl_Systembelow_s _ _ hr_9_18) (ai bod_120 (ai (oi (.bool r_9_18)) (ai hb_9_0 (ai (nF hb_9_2) (ai hb_9_0 trivial)))))))))))))))))))) ?_
      obtain rfl := Option.some.inj h
      exact Into.mk
     ·refine rg hc none [oN, oN, oN, oN, oN, oc (.bool r_9_5), oN, oN, oN, oN, oN, oc (.bool r_9_11), oN, oF, oN, o_, o_, o_, o_, oT, oT, oN] [(1, I a1), (2, I b2), (3, .ra 1 0), (7, I g_17), (8, .bool true), (9, I h_26)] [(1, bSystem s0)] (ar 4 hb_9_0 (ai (impl_Systembelow_s _ _ hr_9_5) (ai bod_120 (ai (oi (.bool r_9_5)) (ar 2 hb_9_0 (ar 4 (nF hb_9_1) (ai (impl_Systembelow_s _ _ hr_9_11) (ai bod_120 (ai (oi (.bool r_9_11)) (ai (nF hb_9_1) (ai hb_9_0 (ai (nF hb_9_1) (ai hb_9_0 (ar 4 (neF (nT hb_9_2)) (ai hb_9_0 (ai (nT hb_9_2) (ai hb_9_0 trivial))))))))))))))))) ?_
      obtain rfl := Option.some.inj h
      exact Into.mk
    ·refine rg hc none [oN, oN, oN, oN, oN, oc (.bool r_9_5), oN, oN, o_, o_, o_, o_, o_, oT, oN, o_, o_, o_, o_, oT, oT, oN] [(1, I a1), (2, I b2), (3, .ra 1 0), (7, I g_17), (8, .bool true), (9, I h_26)] [(1, bSystem s0)] (ar 4 hb_9_0 (ai (impl_Systembelow_s _ _ hr_9_5) (ai bod_120 (ai (oi (.bool r_9_5)) (ar 2 hb_9_0 (ar 5 (neF (nT hb_9_1)) (ai hb_9_0 (ai (nT hb_9_1) (ai hb_9_0 (ar 4 nf (ai hb_9_0 (ai tt (ai hb_9_0 trivial))))))))))))) ?_
     obtain rfl := Option.some.inj h
     exact Into.mk
   ·refine rg hc none [oN, oN, o_, o_, o_, o_, o_, o_, o_, o_, o_, o_, o_, o_, o_, o_, o_, o_, o_, o_, oF, oN] [(1, I a1), (2, I b2), (3, .ra 1 0), (7, I g_17), (8, .bool false), (9, I h_26)] [(1, bSystem s0)] (ar 9 (neT hb_9_0) (ai hb_9_0 trivial)) ?_
    obtain rfl := Option.some.inj h
    exact Into.mk
  ·clear hj_29
   refine blockQ_norm ?_
   refine seqQ_norm ?_
   refine rg0 hc 3 [(1, I a1), (2, I b2), (3, .ra 1 0), (7, I g_17), (8, .bool least_28), (9, I (wr (h_26 + 1)))] [(1, bSystem s0)] ?_
   refine loopQ_norm ?_
   exact (impl_Systemjoin_l0_ih _ _ h c hc)
 ·refine cF ((decide (h_26 < s0.fSize))) hb_27 ?_
  refine Wp.exitN (i := 2) (by kernel_rfl) ?_
  refine seqQ_exit ?_
  refine loopQ_exit ?_
  obtain rfl := Option.some.inj h
  exact Into.view (fun a w hv => SRx.renL [] hv (by kernel_rfl) (by kernel_rfl) (by kernel_rfl))
def impl_Systemjoin_F2 (c : Ctx) (s0 : GSystem) (a1 : Int) (b2 : Int) (g_17 : Int) : (Unit) ⊕ (Int) → Exit → AState → Prop
 | .inl _ => Into c .normal (mkS [(1, I a1), (2, I b2), (3, .ra 1 0), (7, I g_17)] [(1, bSystem s0)])
 | .inr r => RetE TIx Try.f121 [] (I r)
def impl_Systemjoin_F3 (c : Ctx) : (Unit) ⊕ (Int) → Exit → AState → Prop
 | .inl _ => Into c (.exit 0) (mkS [] [])
 | .inr r => RetE TIx Try.f121 [] (I r)
def impl_Systemjoin_l1 (p : GSystem × Int × Int × Int) : Option ((Unit) ⊕ (Int)) :=
 match p with
 | (s0, a1, b2, g_17) =>
  if (decide (g_17 < s0.fSize)) = true then
   ((
    (
     (impl_Systembelow (s0, a1, g_17)) >>= fun r_4_3 =>
     if r_4_3 = true then
      (impl_Systembelow (s0, b2, g_17)) >>= fun r_4_9 =>
      some ((!r_4_9))
     else
      some (true)
    ) >>= fun v_19 =>
    if v_19 = true then
     some (.inl ())
    else
     (impl_Systemjoin_l0 (s0, a1, b2, g_17, true, 0)) >>= fun least_30 =>
     if least_30 = true then
      some (.inr g_17)
     else
      some (.inl ())) : Option ((Unit) ⊕ (Int))) >>= fun fl => match fl with
   | .inl () =>
    impl_Systemjoin_l1 (s0, a1, b2, (wr (g_17 + 1)))
   | .inr r =>
    some (.inr r)
  else
   some (.inl ())
 partial_fixpoint
def M_impl_Systemjoin_l1 (p : GSystem × Int × Int × Int) (fl : (Unit) ⊕ (Int)) : Prop :=
 match p with
 | (s0, a1, b2, g_17) => ∀ c : Ctx, c.nt = 57 → WpL Try.prog c (cl (cl (cr (cl (cr B121))))) (impl_Systemjoin_F3 c fl) (mkS [(1, I a1), (2, I b2), (3, .ra 1 0), (7, I g_17)] [(1, bSystem s0)])
theorem impl_Systemjoin_l1_s : ∀ p r, impl_Systemjoin_l1 p = some r → M_impl_Systemjoin_l1 p r := by
 refine impl_Systemjoin_l1.partial_correctness M_impl_Systemjoin_l1 ?_
 rintro impl_Systemjoin_l1_f impl_Systemjoin_l1_ih ⟨s0, a1, b2, g_17⟩ r h
 intro c hc
 show WpL Try.prog c (cl (cl (cr (cl (cr B121))))) (impl_Systemjoin_F3 c r) (mkS [(1, I a1), (2, I b2), (3, .ra 1 0), (7, I g_17)] [(1, bSystem s0)])
 refine WpL.step ?_
 refine sN ?_
 refine sN ?_
 refine rg0 hc 4 [(1, I a1), (2, I b2), (3, .ra 1 0), (7, I g_17), (13, .bool (decide (g_17 < s0.fSize)))] [(1, bSystem s0)] ?_
 refine seqQ_norm ?_
 rcases itesome h with ⟨hb_18, h⟩ | ⟨hb_18, h⟩
 ·refine cT ((decide (g_17 < s0.fSize))) hb_18 ?_
  refine Wp.skipN (by kernel_rfl) ?_
  refine seqQ_norm ?_
  refine sN ?_
  obtain ⟨fl, hj_33, h⟩ := bsome h
  have hF : Wp Try.prog c (cl (cr (cl (cl (cr (cl (cr B121))))))) (impl_Systemjoin_F2 c s0 a1 b2 g_17 fl) (mkS [(1, I a1), (2, I b2), (3, .ra 1 0), (7, I g_17), (13, .bool (decide (g_17 < s0.fSize)))] [(1, bSystem s0)]) := by
   replace h := hj_33
   refine Wp.blockN (i := 1) (by kernel_rfl) ?_
   refine sN ?_
   refine sN ?_
   obtain ⟨v_19, hj_20, h⟩ := bsome h
   refine Wp.into (x := .normal) (mkS [(1, I a1), (2, I b2), (3, .ra 1 0), (7, I g_17), (27, .bool v_19)] [(1, bSystem s0)]) ?_ ?_
   ·replace h := hj_20
    obtain ⟨r_4_3, hr_4_3, h⟩ := bsome h
    rcases itesome h with ⟨hb_4_0, h⟩ | ⟨hb_4_0, h⟩
    ·obtain ⟨r_4_9, hr_4_9, h⟩ := bsome h
     refine rg hc none [oN, oN, oN, oc (.bool r_4_3), oN, oN, oN, oN, oN, oc (.bool r_4_9), oN, oF] [(1, I a1), (2, I b2), (3, .ra 1 0), (7, I g_17), (27, .bool (!r_4_9))] [(1, bSystem s0)] (ai (impl_Systembelow_s _ _ hr_4_3) (ai bod_120 (ai (oi (.bool r_4_3)) (ar 4 (nF hb_4_0) (ai (impl_Systembelow_s _ _ hr_4_9) (ai bod_120 (ai (oi (.bool r_4_9)) (ar 2 (nF hb_4_0) trivial)))))))) ?_
     obtain rfl := Option.some.inj h
     exact Into.mk
    ·refine rg hc none [oN, oN, oN, oc (.bool r_4_3), oN, oN, o_, o_, o_, o_, o_, oT] [(1, I a1), (2, I b2), (3, .ra 1 0), (7, I g_17), (27, .bool true)] [(1, bSystem s0)] (ai (impl_Systembelow_s _ _ hr_4_3) (ai bod_120 (ai (oi (.bool r_4_3)) (ar 5 (neF (nT hb_4_0)) (ai (nT hb_4_0) trivial))))) ?_
     obtain rfl := Option.some.inj h
     exact Into.mk
   ·clear hj_20
    refine seqQ_norm ?_
    rcases itesome h with ⟨hb_21, h⟩ | ⟨hb_21, h⟩
    ·refine cT v_19 hb_21 ?_
     refine Wp.exitN (i := 1) (by kernel_rfl) ?_
     refine seqQ_exit ?_
     refine blockQ_hit ?_
     obtain rfl := Option.some.inj h
     exact Into.view (fun a w hv => SRx.renL [] hv (by kernel_rfl) (by kernel_rfl) (by kernel_rfl))
    ·refine cF v_19 hb_21 ?_
     refine Wp.skipN (by kernel_rfl) ?_
     refine seqQ_norm ?_
     refine sN ?_
     refine rg0 hc 1 [(1, I a1), (2, I b2), (3, .ra 1 0), (7, I g_17), (8, .bool true)] [(1, bSystem s0)] ?_
     refine seqQ_norm ?_
     refine sN ?_
     refine sN ?_
     refine rg0 hc 1 [(1, I a1), (2, I b2), (3, .ra 1 0), (7, I g_17), (8, .bool true), (9, I 0)] [(1, bSystem s0)] ?_
     refine seqQ_norm ?_
     refine Wp.blockN (i := 2) (by kernel_rfl) ?_
     obtain ⟨least_30, hl_31, h⟩ := bsome h
     have hL := impl_Systemjoin_l0_s _ _ hl_31 c hc
     refine Wp.loopN (by kernel_rfl) ?_
     ·refine WpL.into (e := (.exit 2)) (mkS [(1, I a1), (2, I b2), (3, .ra 1 0), (7, I g_17), (8, .bool least_30)] [(1, bSystem s0)]) hL ?_
      refine blockQ_hit ?_
      refine seqQ_norm ?_
      refine sN ?_
      refine rg0 hc 1 [(1, I a1), (2, I b2), (3, .ra 1 0), (7, I g_17), (55, .bool least_30)] [(1, bSystem s0)] ?_
      refine seqQ_norm ?_
      rcases itesome h with ⟨hb_32, h⟩ | ⟨hb_32, h⟩
      ·refine cT least_30 hb_32 ?_
       refine sN ?_
       refine rg0 hc 2 [(6, I g_17)] [] ?_
       refine seqQ_norm ?_
       refine Wp.retN (by kernel_rfl) ?_
       refine blockQ_ret ?_
       obtain rfl := Option.some.inj h
       exact RetE.ret (fl := [true]) (by kernel_rfl)
      ·refine cF least_30 hb_32 ?_
       refine Wp.skipN (by kernel_rfl) ?_
       refine blockQ_norm ?_
       obtain rfl := Option.some.inj h
       exact Into.view (fun a w hv => SRx.renL [] hv (by kernel_rfl) (by kernel_rfl) (by kernel_rfl))
  rcases fl with ⟨⟩ | r
  ·refine Wp.into (x := .normal) (mkS [(1, I a1), (2, I b2), (3, .ra 1 0), (7, I g_17)] [(1, bSystem s0)]) hF ?_
   refine seqQ_norm ?_
   refine rg0 hc 3 [(1, I a1), (2, I b2), (3, .ra 1 0), (7, I (wr (g_17 + 1)))] [(1, bSystem s0)] ?_
   refine loopQ_norm ?_
   exact (impl_Systemjoin_l1_ih _ _ h c hc)
  ·refine Wp.mono hF ?_
   rintro _ _ ⟨rfl, hfin⟩
   refine seqQ_ret ?_
   refine loopQ_ret ?_
   obtain rfl := Option.some.inj h
   exact ⟨rfl, hfin⟩
 ·refine cF ((decide (g_17 < s0.fSize))) hb_18 ?_
  refine Wp.exitN (i := 0) (by kernel_rfl) ?_
  refine seqQ_exit ?_
  refine loopQ_exit ?_
  obtain rfl := Option.some.inj h
  exact Into.view (fun a w hv => SRx.renL [] hv (by kernel_rfl) (by kernel_rfl) (by kernel_rfl))
def impl_Systemjoin (p : GSystem × Int × Int) : Option (Int) :=
 match p with
 | (s0, a1, b2) =>
  (impl_Systemjoin_l1 (s0, a1, b2, 0)) >>= fun fl => match fl with
  | .inl () =>
   some (-1)
  | .inr r =>
   some r
def M_impl_Systemjoin (p : GSystem × Int × Int) (r : Int) : Prop :=
 match p with
 | (s0, a1, b2) => FnSound Try.prog 121 [aSystem s0, I a1, I b2] (I r) []
theorem impl_Systemjoin_s : ∀ p r, impl_Systemjoin p = some r → M_impl_Systemjoin p r := by
 rintro ⟨s0, a1, b2⟩ r h
 unfold impl_Systemjoin at h
 show FnSound Try.prog 121 [aSystem s0, I a1, I b2] (I r) []
 refine FnSound.body0 tiok (fn := Try.f121) (code := B121) (by kernel_rfl) (by kernel_rfl) (by kernel_rfl) (by kernel_rfl) (nt := 57) (by kernel_rfl) (by kernel_rfl) (T := [(0, aSystem s0), (1, I a1), (2, I b2)]) (O := []) (by kernel_rfl) (by kernel_rfl) (fun c hc => ?_)
 refine sN ?_
 refine rg hc none [some (.new 1), oN] [(1, I a1), (2, I b2), (3, .ra 1 0)] [(1, bSystem s0)] trivial ?_
 refine seqQ_norm ?_
 refine sN ?_
 refine sN ?_
 refine rg0 hc 1 [(1, I a1), (2, I b2), (3, .ra 1 0), (7, I 0)] [(1, bSystem s0)] ?_
 refine seqQ_norm ?_
 refine Wp.blockN (i := 0) (by kernel_rfl) ?_
 obtain ⟨fl, hl_34, h⟩ := bsome h
 have hL := impl_Systemjoin_l1_s _ _ hl_34 c hc
 refine Wp.loopN (by kernel_rfl) ?_
 rcases fl with ⟨⟩ | r
 ·refine WpL.into (e := (.exit 0)) (mkS [] []) hL ?_
  refine blockQ_hit ?_
  refine seqQ_norm ?_
  refine sN ?_
  refine rg0 hc 1 [(6, I (-1))] [] ?_
  refine seqQ_norm ?_
  refine Wp.retN (by kernel_rfl) ?_
  obtain rfl := Option.some.inj h
  exact RetQ.ret (fl := [true]) (by kernel_rfl)
 ·refine WpL.mono hL ?_
  rintro _ _ ⟨rfl, hfin⟩
  refine blockQ_ret ?_
  refine seqQ_ret ?_
  obtain rfl := Option.some.inj h
  exact ⟨.inl rfl, hfin⟩
end Go.Am
