/- Functions of the program as pure functions, and that it computes them. Printed by a program of mine (gen.py). -/
import Derived.Test.YtmdfopkcoinfeaaGPOF3
set_option linter.unusedVariables false
set_option linter.unusedSimpArgs false
set_option maxRecDepth 100000
namespace Go.Am
open Go Go.Proofs
def spec_l5At (p : (List Int) × Int) : Option (GTerm) :=
 match p with
 | (ty0, k1) =>
  (idx ty0 0) >>= fun e_1_1 =>
  if (e_1_1 == 0) = true then
   some (GTerm.mk 1 k1 [] [])
  else
   (spec_l2Part (ty0, 0)) >>= fun r_4_1 =>
   (spec_l2Box e_1_1) >>= fun r_5_1 =>
   if r_5_1 = true then
    (spec_l2Grade e_1_1) >>= fun r_6_1 =>
    (spec_l5At (r_4_1, k1)) >>= fun r_6_4 =>
    some (GTerm.mk 11 r_6_1 [] [r_6_4])
   else
    (spec_l2Part (ty0, 1)) >>= fun r_7_1 =>
    if (e_1_1 == 1) = true then
     (spec_l5Count r_7_1) >>= fun r_9_1 =>
     (chk (r_9_1 ≠ 0)) >>= fun _ =>
     (spec_l5At (r_4_1, (wr (Int.tdiv k1 r_9_1)))) >>= fun r_10_4 =>
     (chk (r_9_1 ≠ 0)) >>= fun _ =>
     (spec_l5At (r_7_1, (Int.tmod k1 r_9_1))) >>= fun r_10_9 =>
     some (GTerm.mk 4 0 [] [r_10_4, r_10_9])
    else
     (spec_l5Count r_4_1) >>= fun r_11_1 =>
     if (decide (k1 < r_11_1)) = true then
      (spec_l5At (r_4_1, k1)) >>= fun r_13_3 =>
      some (GTerm.mk 6 0 r_7_1 [r_13_3])
     else
      (spec_l5At (r_7_1, (wr (k1 - r_11_1)))) >>= fun r_14_5 =>
      some (GTerm.mk 7 0 r_4_1 [r_14_5])
 partial_fixpoint
def M_spec_l5At (p : (List Int) × Int) (r : GTerm) : Prop :=
 match p with
 | (ty0, k1) => FnSound Try.prog 36 [sI ty0, I k1] (qTerm r) []
theorem spec_l5At_s : ∀ p r, spec_l5At p = some r → M_spec_l5At p r := by
 refine spec_l5At.partial_correctness M_spec_l5At ?_
 rintro spec_l5At_f spec_l5At_ih ⟨ty0, k1⟩ r h
 show FnSound Try.prog 36 [sI ty0, I k1] (qTerm r) []
 refine FnSound.body0 tiok (fn := Try.f36) (code := B36) (by kernel_rfl) (by kernel_rfl) (by kernel_rfl) (by kernel_rfl) (nt := 65) (by kernel_rfl) (by kernel_rfl) (T := [(0, sI ty0), (1, I k1)]) (O := []) (by kernel_rfl) (by kernel_rfl) (fun c hc => ?_)
 refine sN ?_
 refine rg hc none [some (.new 1)] [(0, sI ty0), (1, I k1), (4, .ra 1 0)] [(1, .box [I 0, I 0, .nils, .nils])] trivial ?_
 refine seqQ_norm ?_
 refine sN ?_
 obtain ⟨e_1_1, hi_1_1, h⟩ := bsome h
 refine rg hc none [oN, some (.el (I e_1_1)), oN, oN] [(0, sI ty0), (1, I k1), (4, .ra 1 0), (5, I e_1_1)] [(1, .box [I 0, I 0, .nils, .nils])] (ai (ix hi_1_1) trivial) ?_
 refine seqQ_norm ?_
 refine sN ?_
 refine sN ?_
 refine rg0 hc 2 [(0, sI ty0), (1, I k1), (4, .ra 1 0), (5, I e_1_1), (14, .bool (e_1_1 == 0))] [(1, .box [I 0, I 0, .nils, .nils])] ?_
 refine seqQ_norm ?_
 rcases itesome h with ⟨hb_1, h⟩ | ⟨hb_1, h⟩
 ·refine cT ((e_1_1 == 0)) hb_1 ?_
  refine sN ?_
  refine rg0 hc 3 [(4, .ra 1 0)] [(1, .box [I 1, I k1, .nils, .nils])] ?_
  refine seqQ_norm ?_
  refine Wp.retN (by kernel_rfl) ?_
  refine seqQ_ret ?_
  obtain rfl := Option.some.inj h
  exact RetQ.ret (fl := [true]) (by kernel_rfl)
 ·refine cF ((e_1_1 == 0)) hb_1 ?_
  refine Wp.skipN (by kernel_rfl) ?_
  refine seqQ_norm ?_
  refine sN ?_
  obtain ⟨r_4_1, hr_4_1, h⟩ := bsome h
  refine rg hc none [oN, some (.call (.osl (List.map I r_4_1)) [] 2), oN] [(0, sI ty0), (1, I k1), (4, .ra 1 0), (5, I e_1_1), (6, .rs 2)] [(1, .box [I 0, I 0, .nils, .nils]), (2, .arr (List.map I r_4_1))] (ai (spec_l2Part_s _ _ hr_4_1) (ai bod_72 (ai (oi (.osl (List.map I r_4_1))) trivial))) ?_
  refine seqQ_norm ?_
  refine sN ?_
  refine sN ?_
  obtain ⟨r_5_1, hr_5_1, h⟩ := bsome h
  refine rg hc none [oN, oc (.bool r_5_1)] [(0, sI ty0), (1, I k1), (4, .ra 1 0), (5, I e_1_1), (6, .rs 2), (20, .bool r_5_1)] [(1, .box [I 0, I 0, .nils, .nils]), (2, .arr (List.map I r_4_1))] (ai (spec_l2Box_s _ _ hr_5_1) (ai bod_73 (ai (oi (.bool r_5_1)) trivial))) ?_
  refine seqQ_norm ?_
  rcases itesome h with ⟨hb_2, h⟩ | ⟨hb_2, h⟩
  ·refine cT r_5_1 hb_2 ?_
   refine sN ?_
   obtain ⟨r_6_1, hr_6_1, h⟩ := bsome h
   obtain ⟨r_6_4, hr_6_4, h⟩ := bsome h
   refine rg hc none [oN, oc (I r_6_1), oN, oN, some (.call (qTerm r_6_4) [] 3), some (.eqv (.mk 5 true) ⟨[(26, .rs 5)], [(5, some (.arr (List.map GTerm_O [r_6_4]))), (3, none), (4, none)], [5]⟩), oN, oN] [(4, .ra 1 0)] [(1, .box [I 11, I r_6_1, .nils, .rs 5]), (5, .arr (List.map GTerm_O [r_6_4]))] (ai (spec_l2Grade_s _ _ hr_6_1) (ai bod_74 (ai (oi (I r_6_1)) (ai (FnSound.args (A1 := [.sl (shares (List.map I r_4_1)), I k1]) (A2 := [sI r_4_1, I k1]) (by simp only [sI, sB, aSystem, aTerm, hSystem, hTerm, List.map_nil, sh_I]) (spec_l5At_ih _ _ hr_6_4)) (ai bod_36 (ai (Or.inr (nsh_cons rfl (nsh_cons rfl (nsh_cons (nsh_row nsh_I r_6_4.fType) (nsh_cons (nsh_row nsh_GTerm_O r_6_4.fKids) rfl)))) : ([2] : List Nat) = [] ∨ noSh (qTerm r_6_4) = true) (ai (congrArg (fun z => (⟨[(26, .rs 5)], [(5, some (.arr z)), (3, none), (4, none)], [5]⟩ : Wr)) ((rows1 (eq_GTerm_O r_6_4) rows0) : [AV.agg [I r_6_4.fOp, I r_6_4.fN, AV.osl (List.map I r_6_4.fType), AV.osl (List.map GTerm_O r_6_4.fKids)]] = List.map GTerm_O [r_6_4])) trivial))))))) ?_
   refine seqQ_norm ?_
   refine Wp.retN (by kernel_rfl) ?_
   refine seqQ_ret ?_
   obtain rfl := Option.some.inj h
   exact RetQ.ret (fl := [true]) (by kernel_rfl)
  ·refine cF r_5_1 hb_2 ?_
   refine Wp.skipN (by kernel_rfl) ?_
   refine seqQ_norm ?_
   refine sN ?_
   obtain ⟨r_7_1, hr_7_1, h⟩ := bsome h
   refine rg hc none [oN, some (.call (.osl (List.map I r_7_1)) [] 6), oN] [(1, I k1), (4, .ra 1 0), (5, I e_1_1), (6, .rs 2), (7, .rs 6)] [(1, .box [I 0, I 0, .nils, .nils]), (2, .arr (List.map I r_4_1)), (6, .arr (List.map I r_7_1))] (ai (spec_l2Part_s _ _ hr_7_1) (ai bod_72 (ai (oi (.osl (List.map I r_7_1))) trivial))) ?_
   refine seqQ_norm ?_
   refine sN ?_
   refine sN ?_
   refine rg0 hc 2 [(1, I k1), (4, .ra 1 0), (6, .rs 2), (7, .rs 6), (31, .bool (e_1_1 == 1))] [(1, .box [I 0, I 0, .nils, .nils]), (2, .arr (List.map I r_4_1)), (6, .arr (List.map I r_7_1))] ?_
   refine seqQ_norm ?_
   rcases itesome h with ⟨hb_3, h⟩ | ⟨hb_3, h⟩
   ·refine cT ((e_1_1 == 1)) hb_3 ?_
    refine sN ?_
    obtain ⟨r_9_1, hr_9_1, h⟩ := bsome h
    refine rg hc none [oN, oc (I r_9_1), oN] [(1, I k1), (4, .ra 1 0), (6, .rs 2), (7, .rs 6), (8, I r_9_1)] [(1, .box [I 0, I 0, .nils, .nils]), (2, .arr (List.map I r_4_1)), (6, .arr (List.map I r_7_1))] (ai (FnSound.args (A1 := [.sl (shares (List.map I r_7_1))]) (A2 := [sI r_7_1]) (by simp only [sI, sB, aSystem, aTerm, hSystem, hTerm, List.map_nil, sh_I]) (spec_l5Count_s _ _ hr_9_1)) (ai bod_68 (ai (Or.inr rfl : ([6] : List Nat) = [] ∨ noSh (I r_9_1) = true) trivial))) ?_
    refine seqQ_norm ?_
    refine sN ?_
    obtain ⟨_, hk_10_3, h⟩ := bsome h
    obtain ⟨r_10_4, hr_10_4, h⟩ := bsome h
    obtain ⟨_, hk_10_8, h⟩ := bsome h
    obtain ⟨r_10_9, hr_10_9, h⟩ := bsome h
    refine rg hc (rx [[0], [0], [0], [0, 1, 2], [4], [0], [0], [0], [0, 6, 7], [9], [10], [11], [12]]) [oN, oN, oN, oN, some (.call (qTerm r_10_4) [] 7), oN, oN, oN, oN, some (.call (qTerm r_10_9) [] 9), some (.eqv (.mk 11 true) ⟨[(44, .rs 11)], [(11, some (.arr (List.map GTerm_O [r_10_4, r_10_9]))), (7, none), (8, none), (9, none), (10, none)], [11]⟩), oN, oN] [(4, .ra 1 0)] [(1, .box [I 4, I 0, .nils, .rs 11]), (11, .arr (List.map GTerm_O [r_10_4, r_10_9]))] (ai (chk_of hk_10_3) (ai (FnSound.args (A1 := [.sl (shares (List.map I r_4_1)), I (wr (Int.tdiv k1 r_9_1))]) (A2 := [sI r_4_1, I (wr (Int.tdiv k1 r_9_1))]) (by simp only [sI, sB, aSystem, aTerm, hSystem, hTerm, List.map_nil, sh_I]) (spec_l5At_ih _ _ hr_10_4)) (ai bod_36 (ai (Or.inr (nsh_cons rfl (nsh_cons rfl (nsh_cons (nsh_row nsh_I r_10_4.fType) (nsh_cons (nsh_row nsh_GTerm_O r_10_4.fKids) rfl)))) : ([2] : List Nat) = [] ∨ noSh (qTerm r_10_4) = true) (ai (chk_of hk_10_8) (ai (FnSound.args (A1 := [.sl (shares (List.map I r_7_1)), I (Int.tmod k1 r_9_1)]) (A2 := [sI r_7_1, I (Int.tmod k1 r_9_1)]) (by simp only [sI, sB, aSystem, aTerm, hSystem, hTerm, List.map_nil, sh_I]) (spec_l5At_ih _ _ hr_10_9)) (ai bod_36 (ai (Or.inr (nsh_cons rfl (nsh_cons rfl (nsh_cons (nsh_row nsh_I r_10_9.fType) (nsh_cons (nsh_row nsh_GTerm_O r_10_9.fKids) rfl)))) : ([6] : List Nat) = [] ∨ noSh (qTerm r_10_9) = true) (ai (congrArg (fun z => (⟨[(44, .rs 11)], [(11, some (.arr z)), (7, none), (8, none), (9, none), (10, none)], [11]⟩ : Wr)) ((rows1 (eq_GTerm_O r_10_4) (rows1 (eq_GTerm_O r_10_9) rows0)) : [AV.agg [I r_10_4.fOp, I r_10_4.fN, AV.osl (List.map I r_10_4.fType), AV.osl (List.map GTerm_O r_10_4.fKids)], AV.agg [I r_10_9.fOp, I r_10_9.fN, AV.osl (List.map I r_10_9.fType), AV.osl (List.map GTerm_O r_10_9.fKids)]] = List.map GTerm_O [r_10_4, r_10_9])) trivial))))))))) ?_
    refine seqQ_norm ?_
    refine Wp.retN (by kernel_rfl) ?_
    refine seqQ_ret ?_
    obtain rfl := Option.some.inj h
    exact RetQ.ret (fl := [true]) (by kernel_rfl)
   ·refine cF ((e_1_1 == 1)) hb_3 ?_
    refine Wp.skipN (by kernel_rfl) ?_
    refine seqQ_norm ?_
    refine sN ?_
    obtain ⟨r_11_1, hr_11_1, h⟩ := bsome h
    refine rg hc none [oN, oc (I r_11_1), oN] [(1, I k1), (4, .ra 1 0), (6, .rs 2), (7, .rs 6), (9, I r_11_1)] [(1, .box [I 0, I 0, .nils, .nils]), (2, .arr (List.map I r_4_1)), (6, .arr (List.map I r_7_1))] (ai (FnSound.args (A1 := [.sl (shares (List.map I r_4_1))]) (A2 := [sI r_4_1]) (by simp only [sI, sB, aSystem, aTerm, hSystem, hTerm, List.map_nil, sh_I]) (spec_l5Count_s _ _ hr_11_1)) (ai bod_68 (ai (Or.inr rfl : ([2] : List Nat) = [] ∨ noSh (I r_11_1) = true) trivial))) ?_
    refine seqQ_norm ?_
    refine sN ?_
    refine sN ?_
    refine rg0 hc 3 [(1, I k1), (4, .ra 1 0), (6, .rs 2), (7, .rs 6), (9, I r_11_1), (50, .bool (decide (k1 < r_11_1)))] [(1, .box [I 0, I 0, .nils, .nils]), (2, .arr (List.map I r_4_1)), (6, .arr (List.map I r_7_1))] ?_
    refine seqQ_norm ?_
    rcases itesome h with ⟨hb_4, h⟩ | ⟨hb_4, h⟩
    ·refine cT ((decide (k1 < r_11_1))) hb_4 ?_
     refine sN ?_
     obtain ⟨r_13_3, hr_13_3, h⟩ := bsome h
     refine rg hc none [oN, oN, oN, some (.call (qTerm r_13_3) [] 12), some (.eqv (.mk 14 true) ⟨[(55, .rs 14)], [(14, some (.arr (List.map GTerm_O [r_13_3]))), (12, none), (13, none)], [14]⟩), oN, oN] [(4, .ra 1 0)] [(1, .box [I 6, I 0, .rs 6, .rs 14]), (6, .arr (List.map I r_7_1)), (14, .arr (List.map GTerm_O [r_13_3]))] (ai (FnSound.args (A1 := [.sl (shares (List.map I r_4_1)), I k1]) (A2 := [sI r_4_1, I k1]) (by simp only [sI, sB, aSystem, aTerm, hSystem, hTerm, List.map_nil, sh_I]) (spec_l5At_ih _ _ hr_13_3)) (ai bod_36 (ai (Or.inr (nsh_cons rfl (nsh_cons rfl (nsh_cons (nsh_row nsh_I r_13_3.fType) (nsh_cons (nsh_row nsh_GTerm_O r_13_3.fKids) rfl)))) : ([2] : List Nat) = [] ∨ noSh (qTerm r_13_3) = true) (ai (congrArg (fun z => (⟨[(55, .rs 14)], [(14, some (.arr z)), (12, none), (13, none)], [14]⟩ : Wr)) ((rows1 (eq_GTerm_O r_13_3) rows0) : [AV.agg [I r_13_3.fOp, I r_13_3.fN, AV.osl (List.map I r_13_3.fType), AV.osl (List.map GTerm_O r_13_3.fKids)]] = List.map GTerm_O [r_13_3])) trivial)))) ?_
     refine seqQ_norm ?_
     refine Wp.retN (by kernel_rfl) ?_
     refine seqQ_ret ?_
     obtain rfl := Option.some.inj h
     exact RetQ.ret (fl := [true]) (by kernel_rfl)
    ·refine cF ((decide (k1 < r_11_1))) hb_4 ?_
     refine Wp.skipN (by kernel_rfl) ?_
     refine seqQ_norm ?_
     refine sN ?_
     obtain ⟨r_14_5, hr_14_5, h⟩ := bsome h
     refine rg hc none [oN, oN, oN, oN, oN, some (.call (qTerm r_14_5) [] 15), some (.eqv (.mk 17 true) ⟨[(63, .rs 17)], [(17, some (.arr (List.map GTerm_O [r_14_5]))), (15, none), (16, none)], [17]⟩), oN, oN] [(4, .ra 1 0)] [(1, .box [I 7, I 0, .rs 2, .rs 17]), (2, .arr (List.map I r_4_1)), (17, .arr (List.map GTerm_O [r_14_5]))] (ai (FnSound.args (A1 := [.sl (shares (List.map I r_7_1)), I (wr (k1 - r_11_1))]) (A2 := [sI r_7_1, I (wr (k1 - r_11_1))]) (by simp only [sI, sB, aSystem, aTerm, hSystem, hTerm, List.map_nil, sh_I]) (spec_l5At_ih _ _ hr_14_5)) (ai bod_36 (ai (Or.inr (nsh_cons rfl (nsh_cons rfl (nsh_cons (nsh_row nsh_I r_14_5.fType) (nsh_cons (nsh_row nsh_GTerm_O r_14_5.fKids) rfl)))) : ([6] : List Nat) = [] ∨ noSh (qTerm r_14_5) = true) (ai (congrArg (fun z => (⟨[(63, .rs 17)], [(17, some (.arr z)), (15, none), (16, none)], [17]⟩ : Wr)) ((rows1 (eq_GTerm_O r_14_5) rows0) : [AV.agg [I r_14_5.fOp, I r_14_5.fN, AV.osl (List.map I r_14_5.fType), AV.osl (List.map GTerm_O r_14_5.fKids)]] = List.map GTerm_O [r_14_5])) trivial)))) ?_
     refine seqQ_norm ?_
     refine Wp.retN (by kernel_rfl) ?_
     obtain rfl := Option.some.inj h
     exact RetQ.ret (fl := [true]) (by kernel_rfl)
def spec_l2Equal_F1 (c : Ctx) : (Unit) ⊕ (Bool) → Exit → AState → Prop
 | .inl _ => Into c (.exit 0) (mkS [] [])
 | .inr r => RetE TIx Try.f35 [] (.bool r)
mutual
def spec_l2Equal (p : GTerm × GTerm) : Option (Bool) :=
 match p with
 | (a0, b1) =>
  (
   if (a0.fOp != b1.fOp) = true then
    some (true)
   else
    if (a0.fN != b1.fN) = true then
     some (true)
    else
     (spec_l1Same (a0.fType, b1.fType)) >>= fun r_1_17 =>
     if r_1_17 = true then
      some (((a0.fKids.length : Int) != (b1.fKids.length : Int)))
     else
      some (true)
  ) >>= fun v_1 =>
  if v_1 = true then
   some false
  else
   (spec_l2Equal_l0 (a0, b1, 0)) >>= fun fl => match fl with
   | .inl () =>
    some true
   | .inr r =>
    some r
 partial_fixpoint
def spec_l2Equal_l0 (p : GTerm × GTerm × Int) : Option ((Unit) ⊕ (Bool)) :=
 match p with
 | (a0, b1, k_6) =>
  if (decide (k_6 < (a0.fKids.length : Int))) = true then
   (idx a0.fKids k_6) >>= fun e_6_3 =>
   (idx b1.fKids k_6) >>= fun e_6_8 =>
   (spec_l2Equal (e_6_3, e_6_8)) >>= fun r_6_10 =>
   if r_6_10 = true then
    spec_l2Equal_l0 (a0, b1, (wr (k_6 + 1)))
   else
    some (.inr false)
  else
   some (.inl ())
 partial_fixpoint
end
def M_spec_l2Equal (p : GTerm × GTerm) (r : Bool) : Prop :=
 match p with
 | (a0, b1) => FnSound Try.prog 35 [aTerm a0, aTerm b1] (.bool r) []
def M_spec_l2Equal_l0 (p : GTerm × GTerm × Int) (fl : (Unit) ⊕ (Bool)) : Prop :=
 match p with
 | (a0, b1, k_6) => ∀ c : Ctx, c.nt = 54 → WpL Try.prog c (cl (cl (cr (cl (cr (cr B35)))))) (spec_l2Equal_F1 c fl) (mkS [(2, .ra 1 0), (3, .ra 2 0), (5, I k_6)] [(1, bTerm a0), (2, bTerm b1)])
theorem spec_l2Equal_all : (∀ p r, spec_l2Equal p = some r → M_spec_l2Equal p r) ∧ (∀ p r, spec_l2Equal_l0 p = some r → M_spec_l2Equal_l0 p r) := by
 refine spec_l2Equal.mutual_partial_correctness M_spec_l2Equal M_spec_l2Equal_l0 ?_ ?_
 ·rintro spec_l2Equal_l0_f spec_l2Equal_l0_ih ⟨a0, b1⟩ r h
  show FnSound Try.prog 35 [aTerm a0, aTerm b1] (.bool r) []
  refine FnSound.body0 tiok (fn := Try.f35) (code := B35) (by kernel_rfl) (by kernel_rfl) (by kernel_rfl) (by kernel_rfl) (nt := 54) (by kernel_rfl) (by kernel_rfl) (T := [(0, aTerm a0), (1, aTerm b1)]) (O := []) (by kernel_rfl) (by kernel_rfl) (fun c hc => ?_)
  refine sN ?_
  refine rg hc none [some (.new 1), some (.new 2), oN] [(2, .ra 1 0), (3, .ra 2 0)] [(1, bTerm a0), (2, bTerm b1)] trivial ?_
  refine seqQ_norm ?_
  refine sN ?_
  refine sN ?_
  obtain ⟨v_1, hj_2, h⟩ := bsome h
  refine Wp.into (x := .normal) (mkS [(2, .ra 1 0), (3, .ra 2 0), (34, .bool v_1)] [(1, bTerm a0), (2, bTerm b1)]) ?_ ?_
  ·replace h := hj_2
   rcases itesome h with ⟨hb_1_0, h⟩ | ⟨hb_1_0, h⟩
   ·refine rg hc none [oN, oN, oN, oN, oN, oN, o_, o_, o_, o_, o_, oT, oN, o_, o_, o_, o_, o_, o_, oT, oN, o_, o_, o_, o_, o_, o_, o_, oT] [(2, .ra 1 0), (3, .ra 2 0), (34, .bool true)] [(1, bTerm a0), (2, bTerm b1)] (ar 5 (neF hb_1_0) (ai hb_1_0 (ar 6 nf (ai tt (ar 7 nf (ai tt trivial)))))) ?_
    obtain rfl := Option.some.inj h
    exact Into.mk
   ·rcases itesome h with ⟨hb_1_1, h⟩ | ⟨hb_1_1, h⟩
    ·refine rg hc none [oN, oN, oN, oN, oN, oN, oN, oN, oN, oN, oN, oF, oN, o_, o_, o_, o_, o_, o_, oT, oN, o_, o_, o_, o_, o_, o_, o_, oT] [(2, .ra 1 0), (3, .ra 2 0), (34, .bool true)] [(1, bTerm a0), (2, bTerm b1)] (ar 6 hb_1_0 (ar 6 (neF hb_1_1) (ai hb_1_1 (ar 7 nf (ai tt trivial))))) ?_
     obtain rfl := Option.some.inj h
     exact Into.mk
    ·obtain ⟨r_1_17, hr_1_17, h⟩ := bsome h
     rcases itesome h with ⟨hb_1_2, h⟩ | ⟨hb_1_2, h⟩
     ·refine rg hc none [oN, oN, oN, oN, oN, oN, oN, oN, oN, oN, oN, oF, oN, oN, oN, oN, oN, oc (.bool r_1_17), oN, oF, oN, oN, oN, some (.eqv (.no) ⟨[(29, I (a0.fKids.length : Int))], [], []⟩), oN, oN, some (.eqv (.no) ⟨[(32, I (b1.fKids.length : Int))], [], []⟩), oN, oF] [(2, .ra 1 0), (3, .ra 2 0), (34, .bool ((a0.fKids.length : Int) != (b1.fKids.length : Int)))] [(1, bTerm a0), (2, bTerm b1)] (ar 6 hb_1_0 (ar 5 hb_1_1 (ai (spec_l1Same_s _ _ hr_1_17) (ai bod_71 (ai (oi (.bool r_1_17)) (ar 2 hb_1_1 (ar 3 (nF hb_1_2) (ai (lenT (d := 29) GTerm_S a0.fKids) (ar 3 (nF hb_1_2) (ai (lenT (d := 32) GTerm_S b1.fKids) (ar 2 (nF hb_1_2) trivial))))))))))) ?_
      obtain rfl := Option.some.inj h
      exact Into.mk
     ·refine rg hc none [oN, oN, oN, oN, oN, oN, oN, oN, oN, oN, oN, oF, oN, oN, oN, oN, oN, oc (.bool r_1_17), oN, oF, oN, o_, o_, o_, o_, o_, o_, o_, oT] [(2, .ra 1 0), (3, .ra 2 0), (34, .bool true)] [(1, bTerm a0), (2, bTerm b1)] (ar 6 hb_1_0 (ar 5 hb_1_1 (ai (spec_l1Same_s _ _ hr_1_17) (ai bod_71 (ai (oi (.bool r_1_17)) (ar 2 hb_1_1 (ar 7 (neF (nT hb_1_2)) (ai (nT hb_1_2) trivial)))))))) ?_
      obtain rfl := Option.some.inj h
      exact Into.mk
  ·clear hj_2
   refine seqQ_norm ?_
   rcases itesome h with ⟨hb_3, h⟩ | ⟨hb_3, h⟩
   ·refine cT v_1 hb_3 ?_
    refine sN ?_
    refine rg0 hc 1 [(4, .bool false)] [] ?_
    refine seqQ_norm ?_
    refine Wp.retN (by kernel_rfl) ?_
    refine seqQ_ret ?_
    obtain rfl := Option.some.inj h
    exact RetQ.ret (fl := [true]) (by kernel_rfl)
   ·refine cF v_1 hb_3 ?_
    refine Wp.skipN (by kernel_rfl) ?_
    refine seqQ_norm ?_
    refine sN ?_
    refine sN ?_
    refine rg0 hc 1 [(2, .ra 1 0), (3, .ra 2 0), (5, I 0)] [(1, bTerm a0), (2, bTerm b1)] ?_
    refine seqQ_norm ?_
    refine Wp.blockN (i := 0) (by kernel_rfl) ?_
    obtain ⟨fl, hl_9, h⟩ := bsome h
    have hL := spec_l2Equal_l0_ih _ _ hl_9 c hc
    refine Wp.loopN (by kernel_rfl) ?_
    rcases fl with ⟨⟩ | r
    ·refine WpL.into (e := (.exit 0)) (mkS [] []) hL ?_
     refine blockQ_hit ?_
     refine seqQ_norm ?_
     refine sN ?_
     refine rg0 hc 1 [(4, .bool true)] [] ?_
     refine seqQ_norm ?_
     refine Wp.retN (by kernel_rfl) ?_
     obtain rfl := Option.some.inj h
     exact RetQ.ret (fl := [true]) (by kernel_rfl)
    ·refine WpL.mono hL ?_
     rintro _ _ ⟨rfl, hfin⟩
     refine blockQ_ret ?_
     refine seqQ_ret ?_
     obtain rfl := Option.some.inj h
     exact ⟨.inl rfl, hfin⟩
 ·rintro spec_l2Equal_f spec_l2Equal_l0_f spec_l2Equal_ih spec_l2Equal_l0_ih ⟨a0, b1, k_6⟩ r h
  intro c hc
  show WpL Try.prog c (cl (cl (cr (cl (cr (cr B35)))))) (spec_l2Equal_F1 c r) (mkS [(2, .ra 1 0), (3, .ra 2 0), (5, I k_6)] [(1, bTerm a0), (2, bTerm b1)])
  refine WpL.step ?_
  refine sN ?_
  refine sN ?_
  refine rg hc none [oN, oN, oN, some (.eqv (.no) ⟨[(38, I (a0.fKids.length : Int))], [], []⟩), oN] [(2, .ra 1 0), (3, .ra 2 0), (5, I k_6), (39, .bool (decide (k_6 < (a0.fKids.length : Int))))] [(1, bTerm a0), (2, bTerm b1)] (ai (lenT (d := 38) GTerm_S a0.fKids) trivial) ?_
  refine seqQ_norm ?_
  rcases itesome h with ⟨hb_7, h⟩ | ⟨hb_7, h⟩
  ·refine cT ((decide (k_6 < (a0.fKids.length : Int)))) hb_7 ?_
   refine Wp.skipN (by kernel_rfl) ?_
   refine seqQ_norm ?_
   refine sN ?_
   refine Wp.blockN (i := 1) (by kernel_rfl) ?_
   refine sN ?_
   obtain ⟨e_6_3, hi_6_3, h⟩ := bsome h
   obtain ⟨e_6_8, hi_6_8, h⟩ := bsome h
   obtain ⟨r_6_10, hr_6_10, h⟩ := bsome h
   refine rg hc (rx [[0], [1], [0], [3], [4], [0], [0, 5], [0], [0, 5, 6, 7], [0, 5, 6, 7, 8], [10], [11]]) [oN, oN, oN, some (.el (aTerm e_6_3)), oN, oN, oN, oN, some (.el (aTerm e_6_8)), oN, oc (.bool r_6_10), oN] [(2, .ra 1 0), (3, .ra 2 0), (5, I k_6), (53, .bool (!r_6_10))] [(1, bTerm a0), (2, bTerm b1)] (ai (idx_sl (enc := GTerm_S) (x := aTerm e_6_3) hi_6_3 (eq_GTerm_S e_6_3)) (ai (idx_sl (enc := GTerm_S) (x := aTerm e_6_8) hi_6_8 (eq_GTerm_S e_6_8)) (ai (spec_l2Equal_ih _ _ hr_6_10) (ai bod_35 (ai (oi (.bool r_6_10)) trivial))))) ?_
   refine seqQ_norm ?_
   rcases itesome h with ⟨hb_8, h⟩ | ⟨hb_8, h⟩
   ·refine cF (!r_6_10) (nF hb_8) ?_
    refine Wp.skipN (by kernel_rfl) ?_
    refine blockQ_norm ?_
    refine seqQ_norm ?_
    refine rg0 hc 3 [(2, .ra 1 0), (3, .ra 2 0), (5, I (wr (k_6 + 1)))] [(1, bTerm a0), (2, bTerm b1)] ?_
    refine loopQ_norm ?_
    exact (spec_l2Equal_l0_ih _ _ h c hc)
   ·refine cT (!r_6_10) (nT hb_8) ?_
    refine sN ?_
    refine rg0 hc 1 [(4, .bool false)] [] ?_
    refine seqQ_norm ?_
    refine Wp.retN (by kernel_rfl) ?_
    refine blockQ_ret ?_
    refine seqQ_ret ?_
    refine loopQ_ret ?_
    obtain rfl := Option.some.inj h
    exact RetE.ret (fl := [true]) (by kernel_rfl)
  ·refine cF ((decide (k_6 < (a0.fKids.length : Int)))) hb_7 ?_
   refine Wp.exitN (i := 0) (by kernel_rfl) ?_
   refine seqQ_exit ?_
   refine loopQ_exit ?_
   obtain rfl := Option.some.inj h
   exact Into.view (fun a w hv => SRx.renL [] hv (by kernel_rfl) (by kernel_rfl) (by kernel_rfl))
theorem spec_l2Equal_s : ∀ p r, spec_l2Equal p = some r → M_spec_l2Equal p r := spec_l2Equal_all.1
theorem spec_l2Equal_l0_s : ∀ p r, spec_l2Equal_l0 p = some r → M_spec_l2Equal_l0 p r := spec_l2Equal_all.2
def spec_PlaceOf_F1 (c : Ctx) : (Unit) ⊕ (Int) → Exit → AState → Prop
 | .inl _ => Into c (.exit 0) (mkS [] [])
 | .inr r => RetE TIx Try.f10 [] (I r)
def spec_PlaceOf_l0 (p : (List Int) × GTerm × Int × Int) : Option ((Unit) ⊕ (Int)) :=
 match p with
 | (ty1, v2, r_1_2, k_4) =>
  if (decide (k_4 < r_1_2)) = true then
   (spec_l5At (ty1, k_4)) >>= fun r_7_2 =>
   (spec_l2Equal (r_7_2, v2)) >>= fun r_7_4 =>
   if r_7_4 = true then
    some (.inr k_4)
   else
    spec_PlaceOf_l0 (ty1, v2, r_1_2, (wr (k_4 + 1)))
  else
   some (.inl ())
 partial_fixpoint
def M_spec_PlaceOf_l0 (p : (List Int) × GTerm × Int × Int) (fl : (Unit) ⊕ (Int)) : Prop :=
 match p with
 | (ty1, v2, r_1_2, k_4) => ∀ c : Ctx, c.nt = 28 → WpL Try.prog c (cl (cl (cr (cl (cr (cr (cr B10))))))) (spec_PlaceOf_F1 c fl) (mkS [(1, sI ty1), (5, .ra 2 0), (7, I r_1_2), (8, I k_4)] [(2, bTerm v2)])
theorem spec_PlaceOf_l0_s : ∀ p r, spec_PlaceOf_l0 p = some r → M_spec_PlaceOf_l0 p r := by
 refine spec_PlaceOf_l0.partial_correctness M_spec_PlaceOf_l0 ?_
 rintro spec_PlaceOf_l0_f spec_PlaceOf_l0_ih ⟨ty1, v2, r_1_2, k_4⟩ r h
 intro c hc
 show WpL Try.prog c (cl (cl (cr (cl (cr (cr (cr B10))))))) (spec_PlaceOf_F1 c r) (mkS [(1, sI ty1), (5, .ra 2 0), (7, I r_1_2), (8, I k_4)] [(2, bTerm v2)])
 refine WpL.step ?_
 refine sN ?_
 refine sN ?_
 refine rg0 hc 3 [(1, sI ty1), (5, .ra 2 0), (7, I r_1_2), (8, I k_4), (19, .bool (decide (k_4 < r_1_2)))] [(2, bTerm v2)] ?_
 refine seqQ_norm ?_
 rcases itesome h with ⟨hb_5, h⟩ | ⟨hb_5, h⟩
 ·refine cT ((decide (k_4 < r_1_2))) hb_5 ?_
  refine Wp.skipN (by kernel_rfl) ?_
  refine seqQ_norm ?_
  refine sN ?_
  refine Wp.blockN (i := 1) (by kernel_rfl) ?_
  refine sN ?_
  obtain ⟨r_7_2, hr_7_2, h⟩ := bsome h
  obtain ⟨r_7_4, hr_7_4, h⟩ := bsome h
  refine rg hc (rh [0, 0, 2, 0, 4]) [oN, oN, some (.call (qTerm r_7_2) [] 5), oN, oc (.bool r_7_4)] [(1, sI ty1), (5, .ra 2 0), (7, I r_1_2), (8, I k_4), (26, .bool r_7_4)] [(2, bTerm v2)] (ai (spec_l5At_s _ _ hr_7_2) (ai bod_36 (ai (oi (qTerm r_7_2)) (ai (FnSound.args (A1 := [hTerm r_7_2, aTerm v2]) (A2 := [aTerm r_7_2, aTerm v2]) (by simp only [sI, sB, aSystem, aTerm, hSystem, hTerm, List.map_nil, sh_GTerm_O, sh_I]) (spec_l2Equal_s _ _ hr_7_4)) (ai bod_35 (ai (Or.inr rfl : ([5, 6] : List Nat) = [] ∨ noSh (.bool r_7_4) = true) trivial)))))) ?_
  refine seqQ_norm ?_
  rcases itesome h with ⟨hb_6, h⟩ | ⟨hb_6, h⟩
  ·refine cT r_7_4 hb_6 ?_
   refine sN ?_
   refine rg0 hc 2 [(6, I k_4)] [] ?_
   refine seqQ_norm ?_
   refine Wp.retN (by kernel_rfl) ?_
   refine blockQ_ret ?_
   refine seqQ_ret ?_
   refine loopQ_ret ?_
   obtain rfl := Option.some.inj h
   exact RetE.ret (fl := [true]) (by kernel_rfl)
  ·refine cF r_7_4 hb_6 ?_
   refine Wp.skipN (by kernel_rfl) ?_
   refine blockQ_norm ?_
   refine seqQ_norm ?_
   refine rg0 hc 3 [(1, sI ty1), (5, .ra 2 0), (7, I r_1_2), (8, I (wr (k_4 + 1)))] [(2, bTerm v2)] ?_
   refine loopQ_norm ?_
   exact (spec_PlaceOf_l0_ih _ _ h c hc)
 ·refine cF ((decide (k_4 < r_1_2))) hb_5 ?_
  refine Wp.exitN (i := 0) (by kernel_rfl) ?_
  refine seqQ_exit ?_
  refine loopQ_exit ?_
  obtain rfl := Option.some.inj h
  exact Into.view (fun a w hv => SRx.renL [] hv (by kernel_rfl) (by kernel_rfl) (by kernel_rfl))
def spec_PlaceOf (p : GSystem × (List Int) × GTerm) : Option (Int) :=
 match p with
 | (s0, ty1, v2) =>
  (spec_CountValues (s0, ty1)) >>= fun r_1_2 =>
  (spec_IsValue (s0, ty1, v2)) >>= fun r_2_3 =>
  if r_2_3 = true then
   (spec_PlaceOf_l0 (ty1, v2, r_1_2, 0)) >>= fun fl => match fl with
   | .inl () =>
    some (-1)
   | .inr r =>
    some r
  else
   some (-1)
def M_spec_PlaceOf (p : GSystem × (List Int) × GTerm) (r : Int) : Prop :=
 match p with
 | (s0, ty1, v2) => FnSound Try.prog 10 [aSystem s0, sI ty1, aTerm v2] (I r) []
theorem spec_PlaceOf_s : ∀ p r, spec_PlaceOf p = some r → M_spec_PlaceOf p r := by
 rintro ⟨s0, ty1, v2⟩ r h
 unfold spec_PlaceOf at h
 show FnSound Try.prog 10 [aSystem s0, sI ty1, aTerm v2] (I r) []
 refine FnSound.body0 tiok (fn := Try.f10) (code := B10) (by kernel_rfl) (by kernel_rfl) (by kernel_rfl) (by kernel_rfl) (nt := 28) (by kernel_rfl) (by kernel_rfl) (T := [(0, aSystem s0), (1, sI ty1), (2, aTerm v2)]) (O := []) (by kernel_rfl) (by kernel_rfl) (fun c hc => ?_)
 refine sN ?_
 refine rg hc none [some (.new 1), some (.new 2), oN] [(1, sI ty1), (3, .ra 1 0), (5, .ra 2 0)] [(1, bSystem s0), (2, bTerm v2)] trivial ?_
 refine seqQ_norm ?_
 refine sN ?_
 obtain ⟨r_1_2, hr_1_2, h⟩ := bsome h
 refine rg hc none [oN, oN, oc (I r_1_2), oN] [(1, sI ty1), (3, .ra 1 0), (5, .ra 2 0), (7, I r_1_2)] [(1, bSystem s0), (2, bTerm v2)] (ai (spec_CountValues_s _ _ hr_1_2) (ai bod_33 (ai (oi (I r_1_2)) trivial))) ?_
 refine seqQ_norm ?_
 refine sN ?_
 refine sN ?_
 obtain ⟨r_2_3, hr_2_3, h⟩ := bsome h
 refine rg hc none [oN, oN, oN, oc (.bool r_2_3), oN] [(1, sI ty1), (5, .ra 2 0), (7, I r_1_2), (16, .bool (!r_2_3))] [(2, bTerm v2)] (ai (spec_IsValue_s _ _ hr_2_3) (ai bod_34 (ai (oi (.bool r_2_3)) trivial))) ?_
 refine seqQ_norm ?_
 rcases itesome h with ⟨hb_1, h⟩ | ⟨hb_1, h⟩
 ·refine cF (!r_2_3) (nF hb_1) ?_
  refine Wp.skipN (by kernel_rfl) ?_
  refine seqQ_norm ?_
  refine sN ?_
  refine sN ?_
  refine rg0 hc 1 [(1, sI ty1), (5, .ra 2 0), (7, I r_1_2), (8, I 0)] [(2, bTerm v2)] ?_
  refine seqQ_norm ?_
  refine Wp.blockN (i := 0) (by kernel_rfl) ?_
  obtain ⟨fl, hl_7, h⟩ := bsome h
  have hL := spec_PlaceOf_l0_s _ _ hl_7 c hc
  refine Wp.loopN (by kernel_rfl) ?_
  rcases fl with ⟨⟩ | r
  ·refine WpL.into (e := (.exit 0)) (mkS [] []) hL ?_
   refine blockQ_hit ?_
   refine seqQ_norm ?_
   refine sN ?_
   refine rg0 hc 1 [(6, I (-1))] [] ?_
   refine seqQ_norm ?_
   refine Wp.retN (by kernel_rfl) ?_
   obtain rfl := Option.some.inj h
   exact RetQ.ret (fl := [true]) (by kernel_rfl)
  ·refine WpL.mono hL ?_
   rintro _ _ ⟨rfl, hfin⟩
   refine blockQ_ret ?_
   refine seqQ_ret ?_
   obtain rfl := Option.some.inj h
   exact ⟨.inl rfl, hfin⟩
 ·refine cT (!r_2_3) (nT hb_1) ?_
  refine sN ?_
  refine rg0 hc 1 [(6, I (-1))] [] ?_
  refine seqQ_norm ?_
  refine Wp.retN (by kernel_rfl) ?_
  refine seqQ_ret ?_
  obtain rfl := Option.some.inj h
  exact RetQ.ret (fl := [true]) (by kernel_rfl)
def impl_within (p : Int × Int × Int) : Option (Bool) :=
 match p with
 | (n0, low1, high2) =>
  (
   if (decide (n0 ≥ low1)) = true then
    some ((decide (n0 ≤ high2)))
   else
    some (false)
  ) >>= fun v_1 =>
  some v_1
def M_impl_within (p : Int × Int × Int) (r : Bool) : Prop :=
 match p with
 | (n0, low1, high2) => FnSound Try.prog 61 [I n0, I low1, I high2] (.bool r) []
theorem impl_within_s : ∀ p r, impl_within p = some r → M_impl_within p r := by
 rintro ⟨n0, low1, high2⟩ r h
 unfold impl_within at h
 show FnSound Try.prog 61 [I n0, I low1, I high2] (.bool r) []
 refine FnSound.body0 tiok (fn := Try.f61) (code := B61) (by kernel_rfl) (by kernel_rfl) (by kernel_rfl) (by kernel_rfl) (nt := 15) (by kernel_rfl) (by kernel_rfl) (T := [(0, I n0), (1, I low1), (2, I high2)]) (O := []) (by kernel_rfl) (by kernel_rfl) (fun c hc => ?_)
 refine sN ?_
 refine rg0 hc 1 [(0, I n0), (1, I low1), (2, I high2)] [] ?_
 refine seqQ_norm ?_
 refine sN ?_
 obtain ⟨v_1, hj_2, h⟩ := bsome h
 refine Wp.into (x := .normal) (mkS [(6, .bool v_1)] []) ?_ ?_
 ·replace h := hj_2
  rcases itesome h with ⟨hb_1_0, h⟩ | ⟨hb_1_0, h⟩
  ·refine rg hc none [oN, oN, oN, oN, oN, oN, oN, oT, oN] [(6, .bool (decide (n0 ≤ high2)))] [] (ar 4 hb_1_0 trivial) ?_
   obtain rfl := Option.some.inj h
   exact Into.mk
  ·refine rg hc none [oN, oN, oN, oN, o_, o_, o_, oF, oN] [(6, .bool false)] [] (ar 3 (neT hb_1_0) (ai hb_1_0 trivial)) ?_
   obtain rfl := Option.some.inj h
   exact Into.mk
 ·clear hj_2
  refine seqQ_norm ?_
  refine Wp.retN (by kernel_rfl) ?_
  obtain rfl := Option.some.inj h
  exact RetQ.ret (fl := [true]) (by kernel_rfl)
def impl_shape (code0 : Int) : Option (Int × Int) :=
  (impl_within (code0, 0, 2)) >>= fun r_1_1 =>
  if r_1_1 = true then
   some (code0, (-1))
  else
   (impl_within (code0, 3, 18)) >>= fun r_3_1 =>
   if r_3_1 = true then
    some (3, (wr (code0 - 3)))
   else
    (impl_within (code0, 19, 34)) >>= fun r_5_1 =>
    if r_5_1 = true then
     some (4, (wr (code0 - 19)))
    else
     if (code0 == 35) = true then
      some (3, (-1))
     else
      if (code0 == 36) = true then
       some (4, (-1))
      else
       some (5, (-1))
def M_impl_shape (code0 : Int) (r : Int × Int) : Prop :=
 FnSound Try.prog 77 [I code0] (.tup [I r.1, I r.2]) []
theorem impl_shape_s : ∀ p r, impl_shape p = some r → M_impl_shape p r := by
 rintro code0 r h
 unfold impl_shape at h
 show FnSound Try.prog 77 [I code0] (.tup [I r.1, I r.2]) []
 refine FnSound.body0 tiok (fn := Try.f77) (code := B77) (by kernel_rfl) (by kernel_rfl) (by kernel_rfl) (by kernel_rfl) (nt := 24) (by kernel_rfl) (by kernel_rfl) (T := [(0, I code0)]) (O := []) (by kernel_rfl) (by kernel_rfl) (fun c hc => ?_)
 refine sN ?_
 refine rg0 hc 2 [(0, I code0)] [] ?_
 refine seqQ_norm ?_
 refine sN ?_
 refine Wp.blockN (i := 0) (by kernel_rfl) ?_
 refine sN ?_
 obtain ⟨r_1_1, hr_1_1, h⟩ := bsome h
 refine rg hc none [oN, oc (.bool r_1_1), oN] [(0, I code0), (4, .bool r_1_1)] [] (ai (impl_within_s _ _ hr_1_1) (ai bod_61 (ai (oi (.bool r_1_1)) trivial))) ?_
 refine seqQ_norm ?_
 rcases itesome h with ⟨hb_1, h⟩ | ⟨hb_1, h⟩
 ·refine cT r_1_1 hb_1 ?_
  refine sN ?_
  refine rg0 hc 3 [(2, I code0), (3, I (-1))] [] ?_
  refine seqQ_norm ?_
  refine Wp.retN (by kernel_rfl) ?_
  refine blockQ_ret ?_
  refine seqQ_ret ?_
  obtain rfl := Option.some.inj h
  exact RetQ.ret (fl := [true, true]) (by kernel_rfl)
 ·refine cF r_1_1 hb_1 ?_
  refine sN ?_
  obtain ⟨r_3_1, hr_3_1, h⟩ := bsome h
  refine rg hc none [oN, oc (.bool r_3_1), oN] [(0, I code0), (8, .bool r_3_1)] [] (ai (impl_within_s _ _ hr_3_1) (ai bod_61 (ai (oi (.bool r_3_1)) trivial))) ?_
  refine seqQ_norm ?_
  rcases itesome h with ⟨hb_2, h⟩ | ⟨hb_2, h⟩
  ·refine cT r_3_1 hb_2 ?_
   refine sN ?_
   refine rg0 hc 4 [(2, I 3), (3, I (wr (code0 - 3)))] [] ?_
   refine seqQ_norm ?_
   refine Wp.retN (by kernel_rfl) ?_
   refine blockQ_ret ?_
   refine seqQ_ret ?_
   obtain rfl := Option.some.inj h
   exact RetQ.ret (fl := [true, true]) (by kernel_rfl)
  ·refine cF r_3_1 hb_2 ?_
   refine sN ?_
   obtain ⟨r_5_1, hr_5_1, h⟩ := bsome h
   refine rg hc none [oN, oc (.bool r_5_1), oN] [(0, I code0), (13, .bool r_5_1)] [] (ai (impl_within_s _ _ hr_5_1) (ai bod_61 (ai (oi (.bool r_5_1)) trivial))) ?_
   refine seqQ_norm ?_
   rcases itesome h with ⟨hb_3, h⟩ | ⟨hb_3, h⟩
   ·refine cT r_5_1 hb_3 ?_
    refine sN ?_
    refine rg0 hc 4 [(2, I 4), (3, I (wr (code0 - 19)))] [] ?_
    refine seqQ_norm ?_
    refine Wp.retN (by kernel_rfl) ?_
    refine blockQ_ret ?_
    refine seqQ_ret ?_
    obtain rfl := Option.some.inj h
    exact RetQ.ret (fl := [true, true]) (by kernel_rfl)
   ·refine cF r_5_1 hb_3 ?_
    refine sN ?_
    refine rg0 hc 3 [(0, I code0), (18, .bool (code0 == 35))] [] ?_
    refine seqQ_norm ?_
    rcases itesome h with ⟨hb_4, h⟩ | ⟨hb_4, h⟩
    ·refine cT ((code0 == 35)) hb_4 ?_
     refine sN ?_
     refine rg0 hc 2 [(2, I 3), (3, I (-1))] [] ?_
     refine seqQ_norm ?_
     refine Wp.retN (by kernel_rfl) ?_
     refine blockQ_ret ?_
     refine seqQ_ret ?_
     obtain rfl := Option.some.inj h
     exact RetQ.ret (fl := [true, true]) (by kernel_rfl)
    ·refine cF ((code0 == 35)) hb_4 ?_
     refine sN ?_
     refine rg0 hc 3 [(21, .bool (code0 == 36))] [] ?_
     refine seqQ_norm ?_
     rcases itesome h with ⟨hb_5, h⟩ | ⟨hb_5, h⟩
     ·refine cT ((code0 == 36)) hb_5 ?_
      refine sN ?_
      refine rg0 hc 2 [(2, I 4), (3, I (-1))] [] ?_
      refine seqQ_norm ?_
      refine Wp.retN (by kernel_rfl) ?_
      refine blockQ_ret ?_
      refine seqQ_ret ?_
      obtain rfl := Option.some.inj h
      exact RetQ.ret (fl := [true, true]) (by kernel_rfl)
     ·refine cF ((code0 == 36)) hb_5 ?_
      refine Wp.skipN (by kernel_rfl) ?_
      refine blockQ_norm ?_
      refine seqQ_norm ?_
      refine sN ?_
      refine rg0 hc 2 [(2, I 5), (3, I (-1))] [] ?_
      refine seqQ_norm ?_
      refine Wp.retN (by kernel_rfl) ?_
      obtain rfl := Option.some.inj h
      exact RetQ.ret (fl := [true, true]) (by kernel_rfl)
def impl_typeEnd (p : (List Int) × Int) : Option (Int) :=
 match p with
 | (ty0, at1) =>
  (
   if (decide (at1 < 0)) = true then
    some (true)
   else
    some ((decide (at1 ≥ (ty0.length : Int))))
  ) >>= fun v_1 =>
  if v_1 = true then
   some (-1)
  else
   (idx ty0 at1) >>= fun e_3_2 =>
   (impl_shape e_3_2) >>= fun (r_3_4_0, r_3_4_1) =>
   if (r_3_4_0 == 0) = true then
    some (wr (at1 + 1))
   else
    if (r_3_4_0 == 4) = true then
     (impl_typeEnd (ty0, (wr (at1 + 1)))) >>= fun r_8_3 =>
     some r_8_3
    else
     if (r_3_4_0 == 5) = true then
      some (-1)
     else
      (impl_typeEnd (ty0, (wr (at1 + 1)))) >>= fun r_11_4 =>
      (impl_typeEnd (ty0, r_11_4)) >>= fun r_11_5 =>
      some r_11_5
 partial_fixpoint
def M_impl_typeEnd (p : (List Int) × Int) (r : Int) : Prop :=
 match p with
 | (ty0, at1) => FnSound Try.prog 110 [sI ty0, I at1] (I r) []
theorem impl_typeEnd_s : ∀ p r, impl_typeEnd p = some r → M_impl_typeEnd p r := by
 refine impl_typeEnd.partial_correctness M_impl_typeEnd ?_
 rintro impl_typeEnd_f impl_typeEnd_ih ⟨ty0, at1⟩ r h
 show FnSound Try.prog 110 [sI ty0, I at1] (I r) []
 refine FnSound.body0 tiok (fn := Try.f110) (code := B110) (by kernel_rfl) (by kernel_rfl) (by kernel_rfl) (by kernel_rfl) (nt := 42) (by kernel_rfl) (by kernel_rfl) (T := [(0, sI ty0), (1, I at1)]) (O := []) (by kernel_rfl) (by kernel_rfl) (fun c hc => ?_)
 refine sN ?_
 refine rg0 hc 1 [(0, sI ty0), (1, I at1)] [] ?_
 refine seqQ_norm ?_
 refine sN ?_
 refine sN ?_
 obtain ⟨v_1, hj_2, h⟩ := bsome h
 refine Wp.into (x := .normal) (mkS [(0, sI ty0), (1, I at1), (14, .bool v_1)] []) ?_ ?_
 ·replace h := hj_2
  rcases itesome h with ⟨hb_1_0, h⟩ | ⟨hb_1_0, h⟩
  ·refine rg hc none [oN, oN, oN, o_, o_, o_, o_, oT] [(0, sI ty0), (1, I at1), (14, .bool true)] [] (ar 4 (neF hb_1_0) (ai hb_1_0 trivial)) ?_
   obtain rfl := Option.some.inj h
   exact Into.mk
  ·refine rg hc none [oN, oN, oN, oN, oN, some (.eqv (.no) ⟨[(12, I (ty0.length : Int))], [], []⟩), oN, oF] [(0, sI ty0), (1, I at1), (14, .bool (decide (at1 ≥ (ty0.length : Int))))] [] (ar 3 hb_1_0 (ai (lenT (d := 12) I ty0) (ar 2 hb_1_0 trivial))) ?_
   obtain rfl := Option.some.inj h
   exact Into.mk
 ·clear hj_2
  refine seqQ_norm ?_
  rcases itesome h with ⟨hb_3, h⟩ | ⟨hb_3, h⟩
  ·refine cT v_1 hb_3 ?_
   refine sN ?_
   refine rg0 hc 1 [(4, I (-1))] [] ?_
   refine seqQ_norm ?_
   refine Wp.retN (by kernel_rfl) ?_
   refine seqQ_ret ?_
   obtain rfl := Option.some.inj h
   exact RetQ.ret (fl := [true]) (by kernel_rfl)
  ·refine cF v_1 hb_3 ?_
   refine Wp.skipN (by kernel_rfl) ?_
   refine seqQ_norm ?_
   refine sN ?_
   obtain ⟨e_3_2, hi_3_2, h⟩ := bsome h
   obtain ⟨⟨r_3_4_0, r_3_4_1⟩, hr_3_4, h⟩ := bsome h
   refine rg hc none [oN, oN, some (.el (I e_3_2)), oN, oc (.tup [I r_3_4_0, I r_3_4_1]), oN, oN, oN, oN, oN] [(0, sI ty0), (1, I at1), (5, I r_3_4_0)] [] (ai (ix hi_3_2) (ai (impl_shape_s _ _ hr_3_4) (ai bod_77 (ai (oi (.tup [I r_3_4_0, I r_3_4_1])) trivial)))) ?_
   refine seqQ_norm ?_
   refine sN ?_
   refine sN ?_
   refine rg0 hc 1 [(0, sI ty0), (1, I at1), (23, I r_3_4_0)] [] ?_
   refine seqQ_norm ?_
   refine Wp.blockN (i := 0) (by kernel_rfl) ?_
   refine sN ?_
   refine rg0 hc 2 [(0, sI ty0), (1, I at1), (23, I r_3_4_0), (24, .bool (r_3_4_0 == 0))] [] ?_
   refine seqQ_norm ?_
   rcases itesome h with ⟨hb_4, h⟩ | ⟨hb_4, h⟩
   ·refine cT ((r_3_4_0 == 0)) hb_4 ?_
    refine sN ?_
    refine rg0 hc 3 [(4, I (wr (at1 + 1)))] [] ?_
    refine seqQ_norm ?_
    refine Wp.retN (by kernel_rfl) ?_
    refine blockQ_ret ?_
    refine seqQ_ret ?_
    obtain rfl := Option.some.inj h
    exact RetQ.ret (fl := [true]) (by kernel_rfl)
   ·refine cF ((r_3_4_0 == 0)) hb_4 ?_
    refine sN ?_
    refine rg0 hc 2 [(0, sI ty0), (1, I at1), (23, I r_3_4_0), (28, .bool (r_3_4_0 == 4))] [] ?_
    refine seqQ_norm ?_
    rcases itesome h with ⟨hb_5, h⟩ | ⟨hb_5, h⟩
    ·refine cT ((r_3_4_0 == 4)) hb_5 ?_
     refine sN ?_
     obtain ⟨r_8_3, hr_8_3, h⟩ := bsome h
     refine rg hc none [oN, oN, oN, oc (I r_8_3), oN] [(4, I r_8_3)] [] (ai (impl_typeEnd_ih _ _ hr_8_3) (ai bod_110 (ai (oi (I r_8_3)) trivial))) ?_
     refine seqQ_norm ?_
     refine Wp.retN (by kernel_rfl) ?_
     refine blockQ_ret ?_
     refine seqQ_ret ?_
     obtain rfl := Option.some.inj h
     exact RetQ.ret (fl := [true]) (by kernel_rfl)
    ·refine cF ((r_3_4_0 == 4)) hb_5 ?_
     refine sN ?_
     refine rg0 hc 2 [(0, sI ty0), (1, I at1), (34, .bool (r_3_4_0 == 5))] [] ?_
     refine seqQ_norm ?_
     rcases itesome h with ⟨hb_6, h⟩ | ⟨hb_6, h⟩
     ·refine cT ((r_3_4_0 == 5)) hb_6 ?_
      refine sN ?_
      refine rg0 hc 1 [(4, I (-1))] [] ?_
      refine seqQ_norm ?_
      refine Wp.retN (by kernel_rfl) ?_
      refine blockQ_ret ?_
      refine seqQ_ret ?_
      obtain rfl := Option.some.inj h
      exact RetQ.ret (fl := [true]) (by kernel_rfl)
     ·refine cF ((r_3_4_0 == 5)) hb_6 ?_
      refine Wp.skipN (by kernel_rfl) ?_
      refine blockQ_norm ?_
      refine seqQ_norm ?_
      refine sN ?_
      obtain ⟨r_11_4, hr_11_4, h⟩ := bsome h
      obtain ⟨r_11_5, hr_11_5, h⟩ := bsome h
      refine rg hc none [oN, oN, oN, oN, oc (I r_11_4), oc (I r_11_5), oN] [(4, I r_11_5)] [] (ai (impl_typeEnd_ih _ _ hr_11_4) (ai bod_110 (ai (oi (I r_11_4)) (ai (impl_typeEnd_ih _ _ hr_11_5) (ai bod_110 (ai (oi (I r_11_5)) trivial)))))) ?_
      refine seqQ_norm ?_
      refine Wp.retN (by kernel_rfl) ?_
      obtain rfl := Option.some.inj h
      exact RetQ.ret (fl := [true]) (by kernel_rfl)
def impl_isWrittenType (ty0 : (List Int)) : Option (Bool) :=
  (
   (impl_within ((ty0.length : Int), 1, 40)) >>= fun r_1_2 =>
   if r_1_2 = true then
    (impl_typeEnd (ty0, 0)) >>= fun r_1_5 =>
    some ((r_1_5 == (ty0.length : Int)))
   else
    some (false)
  ) >>= fun v_1 =>
  some v_1
def M_impl_isWrittenType (ty0 : (List Int)) (r : Bool) : Prop :=
 FnSound Try.prog 134 [sI ty0] (.bool r) []
theorem impl_isWrittenType_s : ∀ p r, impl_isWrittenType p = some r → M_impl_isWrittenType p r := by
 rintro ty0 r h
 unfold impl_isWrittenType at h
 show FnSound Try.prog 134 [sI ty0] (.bool r) []
 refine FnSound.body0 tiok (fn := Try.f134) (code := B134) (by kernel_rfl) (by kernel_rfl) (by kernel_rfl) (by kernel_rfl) (nt := 13) (by kernel_rfl) (by kernel_rfl) (T := [(0, sI ty0)]) (O := []) (by kernel_rfl) (by kernel_rfl) (fun c hc => ?_)
 refine sN ?_
 refine rg0 hc 1 [(0, sI ty0)] [] ?_
 refine seqQ_norm ?_
 refine sN ?_
 obtain ⟨v_1, hj_2, h⟩ := bsome h
 refine Wp.into (x := .normal) (mkS [(2, .bool v_1)] []) ?_ ?_
 ·replace h := hj_2
  obtain ⟨r_1_2, hr_1_2, h⟩ := bsome h
  rcases itesome h with ⟨hb_1_0, h⟩ | ⟨hb_1_0, h⟩
  ·obtain ⟨r_1_5, hr_1_5, h⟩ := bsome h
   refine rg hc none [oN, some (.eqv (.no) ⟨[(4, I (ty0.length : Int))], [], []⟩), oc (.bool r_1_2), oN, oN, oc (I r_1_5), oN, some (.eqv (.no) ⟨[(10, I (ty0.length : Int))], [], []⟩), oN, oT, oN] [(2, .bool (r_1_5 == (ty0.length : Int)))] [] (ai (lenT (d := 4) I ty0) (ai (impl_within_s _ _ hr_1_2) (ai bod_61 (ai (oi (.bool r_1_2)) (ar 2 hb_1_0 (ai (impl_typeEnd_s _ _ hr_1_5) (ai bod_110 (ai (oi (I r_1_5)) (ar 2 hb_1_0 (ai (lenT (d := 10) I ty0) (ar 2 hb_1_0 trivial))))))))))) ?_
   obtain rfl := Option.some.inj h
   exact Into.mk
  ·refine rg hc none [oN, some (.eqv (.no) ⟨[(4, I (ty0.length : Int))], [], []⟩), oc (.bool r_1_2), oN, o_, o_, o_, o_, o_, oF, oN] [(2, .bool false)] [] (ai (lenT (d := 4) I ty0) (ai (impl_within_s _ _ hr_1_2) (ai bod_61 (ai (oi (.bool r_1_2)) (ar 5 (neT hb_1_0) (ai hb_1_0 trivial)))))) ?_
   obtain rfl := Option.some.inj h
   exact Into.mk
 ·clear hj_2
  refine seqQ_norm ?_
  refine Wp.retN (by kernel_rfl) ?_
  obtain rfl := Option.some.inj h
  exact RetQ.ret (fl := [true]) (by kernel_rfl)
def impl_Systemhas (p : GSystem × Int) : Option (Bool) :=
 match p with
 | (s0, g1) =>
  (impl_within (g1, 0, (wr (s0.fSize - 1)))) >>= fun r_1_4 =>
  some r_1_4
def M_impl_Systemhas (p : GSystem × Int) (r : Bool) : Prop :=
 match p with
 | (s0, g1) => FnSound Try.prog 84 [aSystem s0, I g1] (.bool r) []
theorem impl_Systemhas_s : ∀ p r, impl_Systemhas p = some r → M_impl_Systemhas p r := by
 rintro ⟨s0, g1⟩ r h
 unfold impl_Systemhas at h
 show FnSound Try.prog 84 [aSystem s0, I g1] (.bool r) []
 refine FnSound.body0 tiok (fn := Try.f84) (code := B84) (by kernel_rfl) (by kernel_rfl) (by kernel_rfl) (by kernel_rfl) (nt := 10) (by kernel_rfl) (by kernel_rfl) (T := [(0, aSystem s0), (1, I g1)]) (O := []) (by kernel_rfl) (by kernel_rfl) (fun c hc => ?_)
 refine sN ?_
 refine rg hc none [some (.new 1), oN] [(1, I g1), (2, .ra 1 0)] [(1, bSystem s0)] trivial ?_
 refine seqQ_norm ?_
 refine sN ?_
 obtain ⟨r_1_4, hr_1_4, h⟩ := bsome h
 refine rg hc none [oN, oN, oN, oN, oc (.bool r_1_4), oN] [(4, .bool r_1_4)] [] (ai (impl_within_s _ _ hr_1_4) (ai bod_61 (ai (oi (.bool r_1_4)) trivial))) ?_
 refine seqQ_norm ?_
 refine Wp.retN (by kernel_rfl) ?_
 obtain rfl := Option.some.inj h
 exact RetQ.ret (fl := [true]) (by kernel_rfl)
def impl_isTypeOf_F1 (c : Ctx) : (Unit) ⊕ (Bool) → Exit → AState → Prop
 | .inl _ => Into c (.exit 0) (mkS [] [])
 | .inr r => RetE TIx Try.f139 [] (.bool r)
def impl_isTypeOf_l0 (p : GSystem × (List Int) × Int) : Option ((Unit) ⊕ (Bool)) :=
 match p with
 | (s0, ty1, w_6) =>
  if (decide (w_6 < (ty1.length : Int))) = true then
   (idx ty1 w_6) >>= fun e_5_0 =>
   (impl_shape e_5_0) >>= fun (r_6_1_0, r_6_1_1) =>
   (
    if (r_6_1_0 == 3) = true then
     (impl_Systemhas (s0, r_6_1_1)) >>= fun r_7_9 =>
     some ((!r_7_9))
    else
     if (r_6_1_0 == 4) = true then
      (impl_Systemhas (s0, r_6_1_1)) >>= fun r_7_9 =>
      some ((!r_7_9))
     else
      some (false)
   ) >>= fun v_8 =>
   if v_8 = true then
    some (.inr false)
   else
    impl_isTypeOf_l0 (s0, ty1, (wr (w_6 + 1)))
  else
   some (.inl ())
 partial_fixpoint
def M_impl_isTypeOf_l0 (p : GSystem × (List Int) × Int) (fl : (Unit) ⊕ (Bool)) : Prop :=
 match p with
 | (s0, ty1, w_6) => ∀ c : Ctx, c.nt = 36 → WpL Try.prog c (cl (cl (cr (cl (cr (cr B139)))))) (impl_isTypeOf_F1 c fl) (mkS [(2, .ra 1 0), (12, sI ty1), (13, I (ty1.length : Int)), (14, I w_6)] [(1, bSystem s0)])
theorem impl_isTypeOf_l0_s : ∀ p r, impl_isTypeOf_l0 p = some r → M_impl_isTypeOf_l0 p r := by
 refine impl_isTypeOf_l0.partial_correctness M_impl_isTypeOf_l0 ?_
 rintro impl_isTypeOf_l0_f impl_isTypeOf_l0_ih ⟨s0, ty1, w_6⟩ r h
 intro c hc
 show WpL Try.prog c (cl (cl (cr (cl (cr (cr B139)))))) (impl_isTypeOf_F1 c r) (mkS [(2, .ra 1 0), (12, sI ty1), (13, I (ty1.length : Int)), (14, I w_6)] [(1, bSystem s0)])
 refine WpL.step ?_
 refine sN ?_
 refine rg0 hc 1 [(2, .ra 1 0), (12, sI ty1), (13, I (ty1.length : Int)), (14, I w_6), (15, .bool (decide (w_6 < (ty1.length : Int))))] [(1, bSystem s0)] ?_
 refine seqQ_norm ?_
 refine sN ?_
 rcases itesome h with ⟨hb_7, h⟩ | ⟨hb_7, h⟩
 ·refine cT ((decide (w_6 < (ty1.length : Int)))) hb_7 ?_
  refine Wp.skipN (by kernel_rfl) ?_
  refine seqQ_norm ?_
  refine sN ?_
  refine Wp.blockN (i := 1) (by kernel_rfl) ?_
  refine sN ?_
  obtain ⟨e_5_0, hi_5_0, h⟩ := bsome h
  refine rg hc none [some (.el (I e_5_0)), oN, oN] [(2, .ra 1 0), (6, I e_5_0), (12, sI ty1), (13, I (ty1.length : Int)), (14, I w_6)] [(1, bSystem s0)] (ai (ix hi_5_0) trivial) ?_
  refine seqQ_norm ?_
  refine sN ?_
  obtain ⟨⟨r_6_1_0, r_6_1_1⟩, hr_6_1, h⟩ := bsome h
  refine rg hc none [oN, oc (.tup [I r_6_1_0, I r_6_1_1]), oN, oN, oN, oN, oN] [(2, .ra 1 0), (7, I r_6_1_0), (8, I r_6_1_1), (12, sI ty1), (13, I (ty1.length : Int)), (14, I w_6)] [(1, bSystem s0)] (ai (impl_shape_s _ _ hr_6_1) (ai bod_77 (ai (oi (.tup [I r_6_1_0, I r_6_1_1])) trivial))) ?_
  refine seqQ_norm ?_
  refine sN ?_
  obtain ⟨v_8, hj_9, h⟩ := bsome h
  refine Wp.into (x := .normal) (mkS [(2, .ra 1 0), (12, sI ty1), (13, I (ty1.length : Int)), (14, I w_6), (34, .bool v_8)] [(1, bSystem s0)]) ?_ ?_
  ·replace h := hj_9
   rcases itesome h with ⟨hb_7_0, h⟩ | ⟨hb_7_0, h⟩
   ·obtain ⟨r_7_9, hr_7_9, h⟩ := bsome h
    refine rg hc none [oN, oN, oN, o_, o_, oT, oN, oN, oN, oc (.bool r_7_9), oN, oT] [(2, .ra 1 0), (12, sI ty1), (13, I (ty1.length : Int)), (14, I w_6), (34, .bool (!r_7_9))] [(1, bSystem s0)] (ar 2 (neF hb_7_0) (ai hb_7_0 (ar 3 tt (ai (impl_Systemhas_s _ _ hr_7_9) (ai bod_84 (ai (oi (.bool r_7_9)) (ar 2 tt trivial))))))) ?_
    obtain rfl := Option.some.inj h
    exact Into.mk
   ·rcases itesome h with ⟨hb_7_1, h⟩ | ⟨hb_7_1, h⟩
    ·obtain ⟨r_7_9, hr_7_9, h⟩ := bsome h
     refine rg hc none [oN, oN, oN, oN, oN, oF, oN, oN, oN, oc (.bool r_7_9), oN, oT] [(2, .ra 1 0), (12, sI ty1), (13, I (ty1.length : Int)), (14, I w_6), (34, .bool (!r_7_9))] [(1, bSystem s0)] (ar 3 hb_7_0 (ar 3 hb_7_1 (ai (impl_Systemhas_s _ _ hr_7_9) (ai bod_84 (ai (oi (.bool r_7_9)) (ar 2 hb_7_1 trivial)))))) ?_
     obtain rfl := Option.some.inj h
     exact Into.mk
    ·refine rg hc none [oN, oN, oN, oN, oN, oF, oN, o_, o_, o_, o_, oF] [(2, .ra 1 0), (12, sI ty1), (13, I (ty1.length : Int)), (14, I w_6), (34, .bool false)] [(1, bSystem s0)] (ar 3 hb_7_0 (ar 4 (neT hb_7_1) (ai hb_7_1 trivial))) ?_
     obtain rfl := Option.some.inj h
     exact Into.mk
  ·clear hj_9
   refine seqQ_norm ?_
   rcases itesome h with ⟨hb_10, h⟩ | ⟨hb_10, h⟩
   ·refine cT v_8 hb_10 ?_
    refine sN ?_
    refine rg0 hc 1 [(4, .bool false)] [] ?_
    refine seqQ_norm ?_
    refine Wp.retN (by kernel_rfl) ?_
    refine blockQ_ret ?_
    refine seqQ_ret ?_
    refine loopQ_ret ?_
    obtain rfl := Option.some.inj h
    exact RetE.ret (fl := [true]) (by kernel_rfl)
   ·refine cF v_8 hb_10 ?_
    refine Wp.skipN (by kernel_rfl) ?_
    refine blockQ_norm ?_
    refine seqQ_norm ?_
    refine rg0 hc 2 [(2, .ra 1 0), (12, sI ty1), (13, I (ty1.length : Int)), (14, I (wr (w_6 + 1)))] [(1, bSystem s0)] ?_
    refine loopQ_norm ?_
    exact (impl_isTypeOf_l0_ih _ _ h c hc)
 ·refine cF ((decide (w_6 < (ty1.length : Int)))) hb_7 ?_
  refine Wp.exitN (i := 0) (by kernel_rfl) ?_
  refine seqQ_exit ?_
  refine loopQ_exit ?_
  obtain rfl := Option.some.inj h
  exact Into.view (fun a w hv => SRx.renL [] hv (by kernel_rfl) (by kernel_rfl) (by kernel_rfl))
def impl_isTypeOf (p : GSystem × (List Int)) : Option (Bool) :=
 match p with
 | (s0, ty1) =>
  (impl_isWrittenType ty1) >>= fun r_1_1 =>
  if r_1_1 = true then
   (impl_isTypeOf_l0 (s0, ty1, 0)) >>= fun fl => match fl with
   | .inl () =>
    some true
   | .inr r =>
    some r
  else
   some false
def M_impl_isTypeOf (p : GSystem × (List Int)) (r : Bool) : Prop :=
 match p with
 | (s0, ty1) => FnSound Try.prog 139 [aSystem s0, sI ty1] (.bool r) []
theorem impl_isTypeOf_s : ∀ p r, impl_isTypeOf p = some r → M_impl_isTypeOf p r := by
 rintro ⟨s0, ty1⟩ r h
 unfold impl_isTypeOf at h
 show FnSound Try.prog 139 [aSystem s0, sI ty1] (.bool r) []
 refine FnSound.body0 tiok (fn := Try.f139) (code := B139) (by kernel_rfl) (by kernel_rfl) (by kernel_rfl) (by kernel_rfl) (nt := 36) (by kernel_rfl) (by kernel_rfl) (T := [(0, aSystem s0), (1, sI ty1)]) (O := []) (by kernel_rfl) (by kernel_rfl) (fun c hc => ?_)
 refine sN ?_
 refine rg hc none [some (.new 1), oN] [(1, sI ty1), (2, .ra 1 0)] [(1, bSystem s0)] trivial ?_
 refine seqQ_norm ?_
 refine sN ?_
 refine sN ?_
 obtain ⟨r_1_1, hr_1_1, h⟩ := bsome h
 refine rg hc none [oN, oc (.bool r_1_1), oN] [(1, sI ty1), (2, .ra 1 0), (11, .bool (!r_1_1))] [(1, bSystem s0)] (ai (impl_isWrittenType_s _ _ hr_1_1) (ai bod_134 (ai (oi (.bool r_1_1)) trivial))) ?_
 refine seqQ_norm ?_
 rcases itesome h with ⟨hb_1, h⟩ | ⟨hb_1, h⟩
 ·refine cF (!r_1_1) (nF hb_1) ?_
  refine Wp.skipN (by kernel_rfl) ?_
  refine seqQ_norm ?_
  refine sN ?_
  refine sN ?_
  refine rg hc none [oN, some (.eqv (.no) ⟨[(13, I (ty1.length : Int))], [], []⟩), oN] [(2, .ra 1 0), (12, sI ty1), (13, I (ty1.length : Int)), (14, I 0)] [(1, bSystem s0)] (ai (lenT (d := 13) I ty1) trivial) ?_
  refine seqQ_norm ?_
  refine Wp.blockN (i := 0) (by kernel_rfl) ?_
  obtain ⟨fl, hl_11, h⟩ := bsome h
  have hL := impl_isTypeOf_l0_s _ _ hl_11 c hc
  refine Wp.loopN (by kernel_rfl) ?_
  rcases fl with ⟨⟩ | r
  ·refine WpL.into (e := (.exit 0)) (mkS [] []) hL ?_
   refine blockQ_hit ?_
   refine seqQ_norm ?_
   refine sN ?_
   refine rg0 hc 1 [(4, .bool true)] [] ?_
   refine seqQ_norm ?_
   refine Wp.retN (by kernel_rfl) ?_
   obtain rfl := Option.some.inj h
   exact RetQ.ret (fl := [true]) (by kernel_rfl)
  ·refine WpL.mono hL ?_
   rintro _ _ ⟨rfl, hfin⟩
   refine blockQ_ret ?_
   refine seqQ_ret ?_
   obtain rfl := Option.some.inj h
   exact ⟨.inl rfl, hfin⟩
 ·refine cT (!r_1_1) (nT hb_1) ?_
  refine sN ?_
  refine rg0 hc 1 [(4, .bool false)] [] ?_
  refine seqQ_norm ?_
  refine Wp.retN (by kernel_rfl) ?_
  refine seqQ_ret ?_
  obtain rfl := Option.some.inj h
  exact RetQ.ret (fl := [true]) (by kernel_rfl)
def impl_isDataOf_c1 (c0 : Int) : Option (Bool) :=
  (impl_shape c0) >>= fun (r_1_1_0, r_1_1_1) =>
  some (r_1_1_0 == 3)
def M_impl_isDataOf_c1 (c0 : Int) (r : Bool) : Prop :=
 FnSound Try.prog 141 [I c0] (.bool r) []
theorem impl_isDataOf_c1_s : ∀ p r, impl_isDataOf_c1 p = some r → M_impl_isDataOf_c1 p r := by
 rintro c0 r h
 unfold impl_isDataOf_c1 at h
 show FnSound Try.prog 141 [I c0] (.bool r) []
 refine FnSound.body0 tiok (fn := Try.f141) (code := B141) (by kernel_rfl) (by kernel_rfl) (by kernel_rfl) (by kernel_rfl) (nt := 12) (by kernel_rfl) (by kernel_rfl) (T := [(0, I c0)]) (O := []) (by kernel_rfl) (by kernel_rfl) (fun c hc => ?_)
 refine sN ?_
 refine rg0 hc 1 [(0, I c0)] [] ?_
 refine seqQ_norm ?_
 refine sN ?_
 obtain ⟨⟨r_1_1_0, r_1_1_1⟩, hr_1_1, h⟩ := bsome h
 refine rg hc none [oN, oc (.tup [I r_1_1_0, I r_1_1_1]), oN, oN, oN, oN, oN] [(3, I r_1_1_0)] [] (ai (impl_shape_s _ _ hr_1_1) (ai bod_77 (ai (oi (.tup [I r_1_1_0, I r_1_1_1])) trivial))) ?_
 refine seqQ_norm ?_
 refine sN ?_
 refine rg0 hc 3 [(2, .bool (r_1_1_0 == 3))] [] ?_
 refine seqQ_norm ?_
 refine Wp.retN (by kernel_rfl) ?_
 obtain rfl := Option.some.inj h
 exact RetQ.ret (fl := [true]) (by kernel_rfl)
def slices_IndexFunc_int_Kimpl_isDataOf_c1_F1 (c : Ctx) : (Unit) ⊕ (Int) → Exit → AState → Prop
 | .inl _ => Into c (.exit 0) (mkS [] [])
 | .inr r => RetE TIx Try.f151 [] (I r)
def slices_IndexFunc_int_Kimpl_isDataOf_c1_l0 (p : (List Int) × Int) : Option ((Unit) ⊕ (Int)) :=
 match p with
 | (s0, w_3) =>
  if (decide (w_3 < (s0.length : Int))) = true then
   (idx s0 w_3) >>= fun e_4_3 =>
   (impl_isDataOf_c1 e_4_3) >>= fun r_4_5 =>
   if r_4_5 = true then
    some (.inr w_3)
   else
    slices_IndexFunc_int_Kimpl_isDataOf_c1_l0 (s0, (wr (w_3 + 1)))
  else
   some (.inl ())
 partial_fixpoint
def M_slices_IndexFunc_int_Kimpl_isDataOf_c1_l0 (p : (List Int) × Int) (fl : (Unit) ⊕ (Int)) : Prop :=
 match p with
 | (s0, w_3) => ∀ c : Ctx, c.nt = 19 → WpL Try.prog c (cl (cl (cr (cl (cr B151))))) (slices_IndexFunc_int_Kimpl_isDataOf_c1_F1 c fl) (mkS [(0, sI s0), (1, .fn 141 []), (7, I (s0.length : Int)), (8, I w_3)] [])
theorem slices_IndexFunc_int_Kimpl_isDataOf_c1_l0_s : ∀ p r, slices_IndexFunc_int_Kimpl_isDataOf_c1_l0 p = some r → M_slices_IndexFunc_int_Kimpl_isDataOf_c1_l0 p r := by
 refine slices_IndexFunc_int_Kimpl_isDataOf_c1_l0.partial_correctness M_slices_IndexFunc_int_Kimpl_isDataOf_c1_l0 ?_
 rintro slices_IndexFunc_int_Kimpl_isDataOf_c1_l0_f slices_IndexFunc_int_Kimpl_isDataOf_c1_l0_ih ⟨s0, w_3⟩ r h
 intro c hc
 show WpL Try.prog c (cl (cl (cr (cl (cr B151))))) (slices_IndexFunc_int_Kimpl_isDataOf_c1_F1 c r) (mkS [(0, sI s0), (1, .fn 141 []), (7, I (s0.length : Int)), (8, I w_3)] [])
 refine WpL.step ?_
 refine sN ?_
 refine rg0 hc 1 [(0, sI s0), (1, .fn 141 []), (7, I (s0.length : Int)), (8, I w_3), (9, .bool (decide (w_3 < (s0.length : Int))))] [] ?_
 refine seqQ_norm ?_
 refine sN ?_
 rcases itesome h with ⟨hb_4, h⟩ | ⟨hb_4, h⟩
 ·refine cT ((decide (w_3 < (s0.length : Int)))) hb_4 ?_
  refine Wp.skipN (by kernel_rfl) ?_
  refine seqQ_norm ?_
  refine sN ?_
  refine Wp.blockN (i := 1) (by kernel_rfl) ?_
  refine sN ?_
  refine rg0 hc 2 [(0, sI s0), (1, .fn 141 []), (5, I w_3), (7, I (s0.length : Int)), (8, I w_3)] [] ?_
  refine seqQ_norm ?_
  refine sN ?_
  obtain ⟨e_4_3, hi_4_3, h⟩ := bsome h
  obtain ⟨r_4_5, hr_4_5, h⟩ := bsome h
  refine rg hc none [oN, oN, oN, some (.el (I e_4_3)), oN, oc (.bool r_4_5)] [(0, sI s0), (1, .fn 141 []), (5, I w_3), (7, I (s0.length : Int)), (8, I w_3), (16, .bool r_4_5)] [] (ai (ix hi_4_3) (ai (impl_isDataOf_c1_s _ _ hr_4_5) (ai bod_141 (ai (oi (.bool r_4_5)) trivial)))) ?_
  refine seqQ_norm ?_
  rcases itesome h with ⟨hb_5, h⟩ | ⟨hb_5, h⟩
  ·refine cT r_4_5 hb_5 ?_
   refine sN ?_
   refine rg0 hc 2 [(4, I w_3)] [] ?_
   refine seqQ_norm ?_
   refine Wp.retN (by kernel_rfl) ?_
   refine blockQ_ret ?_
   refine seqQ_ret ?_
   refine loopQ_ret ?_
   obtain rfl := Option.some.inj h
   exact RetE.ret (fl := [true]) (by kernel_rfl)
  ·refine cF r_4_5 hb_5 ?_
   refine Wp.skipN (by kernel_rfl) ?_
   refine blockQ_norm ?_
   refine seqQ_norm ?_
   refine rg0 hc 2 [(0, sI s0), (1, .fn 141 []), (7, I (s0.length : Int)), (8, I (wr (w_3 + 1)))] [] ?_
   refine loopQ_norm ?_
   exact (slices_IndexFunc_int_Kimpl_isDataOf_c1_l0_ih _ _ h c hc)
 ·refine cF ((decide (w_3 < (s0.length : Int)))) hb_4 ?_
  refine Wp.exitN (i := 0) (by kernel_rfl) ?_
  refine seqQ_exit ?_
  refine loopQ_exit ?_
  obtain rfl := Option.some.inj h
  exact Into.view (fun a w hv => SRx.renL [] hv (by kernel_rfl) (by kernel_rfl) (by kernel_rfl))
def slices_IndexFunc_int_Kimpl_isDataOf_c1 (s0 : (List Int)) : Option (Int) :=
  (slices_IndexFunc_int_Kimpl_isDataOf_c1_l0 (s0, 0)) >>= fun fl => match fl with
  | .inl () =>
   some (-1)
  | .inr r =>
   some r
def M_slices_IndexFunc_int_Kimpl_isDataOf_c1 (s0 : (List Int)) (r : Int) : Prop :=
 FnSound Try.prog 151 [sI s0, .fn 141 []] (I r) []
theorem slices_IndexFunc_int_Kimpl_isDataOf_c1_s : ∀ p r, slices_IndexFunc_int_Kimpl_isDataOf_c1 p = some r → M_slices_IndexFunc_int_Kimpl_isDataOf_c1 p r := by
 rintro s0 r h
 unfold slices_IndexFunc_int_Kimpl_isDataOf_c1 at h
 show FnSound Try.prog 151 [sI s0, .fn 141 []] (I r) []
 refine FnSound.body0 tiok (fn := Try.f151) (code := B151) (by kernel_rfl) (by kernel_rfl) (by kernel_rfl) (by kernel_rfl) (nt := 19) (by kernel_rfl) (by kernel_rfl) (T := [(0, sI s0), (1, .fn 141 [])]) (O := []) (by kernel_rfl) (by kernel_rfl) (fun c hc => ?_)
 refine sN ?_
 refine rg0 hc 1 [(0, sI s0), (1, .fn 141 [])] [] ?_
 refine seqQ_norm ?_
 refine sN ?_
 refine sN ?_
 refine rg hc none [oN, some (.eqv (.no) ⟨[(7, I (s0.length : Int))], [], []⟩), oN] [(0, sI s0), (1, .fn 141 []), (7, I (s0.length : Int)), (8, I 0)] [] (ai (lenT (d := 7) I s0) trivial) ?_
 refine seqQ_norm ?_
 refine Wp.blockN (i := 0) (by kernel_rfl) ?_
 obtain ⟨fl, hl_6, h⟩ := bsome h
 have hL := slices_IndexFunc_int_Kimpl_isDataOf_c1_l0_s _ _ hl_6 c hc
 refine Wp.loopN (by kernel_rfl) ?_
 rcases fl with ⟨⟩ | r
 ·refine WpL.into (e := (.exit 0)) (mkS [] []) hL ?_
  refine blockQ_hit ?_
  refine seqQ_norm ?_
  refine sN ?_
  refine rg0 hc 1 [(4, I (-1))] [] ?_
  refine seqQ_norm ?_
  refine Wp.retN (by kernel_rfl) ?_
  obtain rfl := Option.some.inj h
  exact RetQ.ret (fl := [true]) (by kernel_rfl)
 ·refine WpL.mono hL ?_
  rintro _ _ ⟨rfl, hfin⟩
  refine blockQ_ret ?_
  refine seqQ_ret ?_
  obtain rfl := Option.some.inj h
  exact ⟨.inl rfl, hfin⟩
def slices_ContainsFunc_int_Kimpl_isDataOf_c1 (s0 : (List Int)) : Option (Bool) :=
  (slices_IndexFunc_int_Kimpl_isDataOf_c1 s0) >>= fun r_1_2 =>
  some (decide (r_1_2 ≥ 0))
def M_slices_ContainsFunc_int_Kimpl_isDataOf_c1 (s0 : (List Int)) (r : Bool) : Prop :=
 FnSound Try.prog 140 [sI s0, .fn 141 []] (.bool r) []
theorem slices_ContainsFunc_int_Kimpl_isDataOf_c1_s : ∀ p r, slices_ContainsFunc_int_Kimpl_isDataOf_c1 p = some r → M_slices_ContainsFunc_int_Kimpl_isDataOf_c1 p r := by
 rintro s0 r h
 unfold slices_ContainsFunc_int_Kimpl_isDataOf_c1 at h
 show FnSound Try.prog 140 [sI s0, .fn 141 []] (.bool r) []
 refine FnSound.body0 tiok (fn := Try.f140) (code := B140) (by kernel_rfl) (by kernel_rfl) (by kernel_rfl) (by kernel_rfl) (nt := 9) (by kernel_rfl) (by kernel_rfl) (T := [(0, sI s0), (1, .fn 141 [])]) (O := []) (by kernel_rfl) (by kernel_rfl) (fun c hc => ?_)
 refine sN ?_
 refine rg0 hc 1 [(0, sI s0), (1, .fn 141 [])] [] ?_
 refine seqQ_norm ?_
 refine sN ?_
 obtain ⟨r_1_2, hr_1_2, h⟩ := bsome h
 refine rg hc none [oN, oN, oc (I r_1_2), oN, oN] [(4, .bool (decide (r_1_2 ≥ 0)))] [] (ai (slices_IndexFunc_int_Kimpl_isDataOf_c1_s _ _ hr_1_2) (ai bod_151 (ai (oi (I r_1_2)) trivial))) ?_
 refine seqQ_norm ?_
 refine Wp.retN (by kernel_rfl) ?_
 obtain rfl := Option.some.inj h
 exact RetQ.ret (fl := [true]) (by kernel_rfl)
def impl_isDataOf (p : GSystem × (List Int)) : Option (Bool) :=
 match p with
 | (s0, ty1) =>
  (
   (impl_isTypeOf (s0, ty1)) >>= fun r_1_2 =>
   if r_1_2 = true then
    (slices_ContainsFunc_int_Kimpl_isDataOf_c1 ty1) >>= fun r_1_5 =>
    some ((!r_1_5))
   else
    some (false)
  ) >>= fun v_1 =>
  some v_1
def M_impl_isDataOf (p : GSystem × (List Int)) (r : Bool) : Prop :=
 match p with
 | (s0, ty1) => FnSound Try.prog 109 [aSystem s0, sI ty1] (.bool r) []
theorem impl_isDataOf_s : ∀ p r, impl_isDataOf p = some r → M_impl_isDataOf p r := by
 rintro ⟨s0, ty1⟩ r h
 unfold impl_isDataOf at h
 show FnSound Try.prog 109 [aSystem s0, sI ty1] (.bool r) []
 refine FnSound.body0 tiok (fn := Try.f109) (code := B109) (by kernel_rfl) (by kernel_rfl) (by kernel_rfl) (by kernel_rfl) (nt := 13) (by kernel_rfl) (by kernel_rfl) (T := [(0, aSystem s0), (1, sI ty1)]) (O := []) (by kernel_rfl) (by kernel_rfl) (fun c hc => ?_)
 refine sN ?_
 refine rg hc none [some (.new 1), oN] [(1, sI ty1), (2, .ra 1 0)] [(1, bSystem s0)] trivial ?_
 refine seqQ_norm ?_
 refine sN ?_
 obtain ⟨v_1, hj_2, h⟩ := bsome h
 refine Wp.into (x := .normal) (mkS [(4, .bool v_1)] []) ?_ ?_
 ·replace h := hj_2
  obtain ⟨r_1_2, hr_1_2, h⟩ := bsome h
  rcases itesome h with ⟨hb_1_0, h⟩ | ⟨hb_1_0, h⟩
  ·obtain ⟨r_1_5, hr_1_5, h⟩ := bsome h
   refine rg hc none [oN, oN, oc (.bool r_1_2), oN, oN, oc (.bool r_1_5), oN, oT, oN] [(4, .bool (!r_1_5))] [] (ai (impl_isTypeOf_s _ _ hr_1_2) (ai bod_139 (ai (oi (.bool r_1_2)) (ar 2 hb_1_0 (ai (slices_ContainsFunc_int_Kimpl_isDataOf_c1_s _ _ hr_1_5) (ai bod_140 (ai (oi (.bool r_1_5)) (ar 2 hb_1_0 trivial)))))))) ?_
   obtain rfl := Option.some.inj h
   exact Into.mk
  ·refine rg hc none [oN, oN, oc (.bool r_1_2), oN, o_, o_, o_, oF, oN] [(4, .bool false)] [] (ai (impl_isTypeOf_s _ _ hr_1_2) (ai bod_139 (ai (oi (.bool r_1_2)) (ar 3 (neT hb_1_0) (ai hb_1_0 trivial))))) ?_
   obtain rfl := Option.some.inj h
   exact Into.mk
 ·clear hj_2
  refine seqQ_norm ?_
  refine Wp.retN (by kernel_rfl) ?_
  obtain rfl := Option.some.inj h
  exact RetQ.ret (fl := [true]) (by kernel_rfl)
def impl_Systemplus (p : GSystem × Int × Int) : Option (Int) :=
 match p with
 | (s0, a1, b2) =>
  (idx s0.fPlus (wr ((wr (a1 * s0.fSize)) + b2))) >>= fun e_1_8 =>
  some e_1_8
def M_impl_Systemplus (p : GSystem × Int × Int) (r : Int) : Prop :=
 match p with
 | (s0, a1, b2) => FnSound Try.prog 118 [aSystem s0, I a1, I b2] (I r) []
theorem impl_Systemplus_s : ∀ p r, impl_Systemplus p = some r → M_impl_Systemplus p r := by
 rintro ⟨s0, a1, b2⟩ r h
 unfold impl_Systemplus at h
 show FnSound Try.prog 118 [aSystem s0, I a1, I b2] (I r) []
 refine FnSound.body0 tiok (fn := Try.f118) (code := B118) (by kernel_rfl) (by kernel_rfl) (by kernel_rfl) (by kernel_rfl) (nt := 17) (by kernel_rfl) (by kernel_rfl) (T := [(0, aSystem s0), (1, I a1), (2, I b2)]) (O := []) (by kernel_rfl) (by kernel_rfl) (fun c hc => ?_)
 refine sN ?_
 refine rg hc none [some (.new 1), oN] [(1, I a1), (2, I b2), (3, .ra 1 0)] [(1, bSystem s0)] trivial ?_
 refine seqQ_norm ?_
 refine sN ?_
 obtain ⟨e_1_8, hi_1_8, h⟩ := bsome h
 refine rg hc none [oN, oN, oN, oN, oN, oN, oN, oN, some (.el (I e_1_8)), oN, oN] [(6, I e_1_8)] [] (ai (ix hi_1_8) trivial) ?_
 refine seqQ_norm ?_
 refine Wp.retN (by kernel_rfl) ?_
 obtain rfl := Option.some.inj h
 exact RetQ.ret (fl := [true]) (by kernel_rfl)
def impl_Systemtimes (p : GSystem × Int × Int) : Option (Int) :=
 match p with
 | (s0, a1, b2) =>
  (idx s0.fTimes (wr ((wr (a1 * s0.fSize)) + b2))) >>= fun e_1_8 =>
  some e_1_8
def M_impl_Systemtimes (p : GSystem × Int × Int) (r : Int) : Prop :=
 match p with
 | (s0, a1, b2) => FnSound Try.prog 119 [aSystem s0, I a1, I b2] (I r) []
theorem impl_Systemtimes_s : ∀ p r, impl_Systemtimes p = some r → M_impl_Systemtimes p r := by
 rintro ⟨s0, a1, b2⟩ r h
 unfold impl_Systemtimes at h
 show FnSound Try.prog 119 [aSystem s0, I a1, I b2] (I r) []
 refine FnSound.body0 tiok (fn := Try.f119) (code := B119) (by kernel_rfl) (by kernel_rfl) (by kernel_rfl) (by kernel_rfl) (nt := 17) (by kernel_rfl) (by kernel_rfl) (T := [(0, aSystem s0), (1, I a1), (2, I b2)]) (O := []) (by kernel_rfl) (by kernel_rfl) (fun c hc => ?_)
 refine sN ?_
 refine rg hc none [some (.new 1), oN] [(1, I a1), (2, I b2), (3, .ra 1 0)] [(1, bSystem s0)] trivial ?_
 refine seqQ_norm ?_
 refine sN ?_
 obtain ⟨e_1_8, hi_1_8, h⟩ := bsome h
 refine rg hc none [oN, oN, oN, oN, oN, oN, oN, oN, some (.el (I e_1_8)), oN, oN] [(6, I e_1_8)] [] (ai (ix hi_1_8) trivial) ?_
 refine seqQ_norm ?_
 refine Wp.retN (by kernel_rfl) ?_
 obtain rfl := Option.some.inj h
 exact RetQ.ret (fl := [true]) (by kernel_rfl)
def impl_Systembelow (p : GSystem × Int × Int) : Option (Bool) :=
 match p with
 | (s0, a1, b2) =>
  (idx s0.fBelow (wr ((wr (a1 * s0.fSize)) + b2))) >>= fun e_1_8 =>
  some e_1_8
def M_impl_Systembelow (p : GSystem × Int × Int) (r : Bool) : Prop :=
 match p with
 | (s0, a1, b2) => FnSound Try.prog 120 [aSystem s0, I a1, I b2] (.bool r) []
theorem impl_Systembelow_s : ∀ p r, impl_Systembelow p = some r → M_impl_Systembelow p r := by
 rintro ⟨s0, a1, b2⟩ r h
 unfold impl_Systembelow at h
 show FnSound Try.prog 120 [aSystem s0, I a1, I b2] (.bool r) []
 refine FnSound.body0 tiok (fn := Try.f120) (code := B120) (by kernel_rfl) (by kernel_rfl) (by kernel_rfl) (by kernel_rfl) (nt := 17) (by kernel_rfl) (by kernel_rfl) (T := [(0, aSystem s0), (1, I a1), (2, I b2)]) (O := []) (by kernel_rfl) (by kernel_rfl) (fun c hc => ?_)
 refine sN ?_
 refine rg hc none [some (.new 1), oN] [(1, I a1), (2, I b2), (3, .ra 1 0)] [(1, bSystem s0)] trivial ?_
 refine seqQ_norm ?_
 refine sN ?_
 obtain ⟨e_1_8, hi_1_8, h⟩ := bsome h
 refine rg hc none [oN, oN, oN, oN, oN, oN, oN, oN, some (.el (.bool e_1_8)), oN, oN] [(6, .bool e_1_8)] [] (ai (idx_sl (enc := AV.bool) (x := .bool e_1_8) hi_1_8 (eq_B e_1_8)) trivial) ?_
 refine seqQ_norm ?_
 refine Wp.retN (by kernel_rfl) ?_
 obtain rfl := Option.some.inj h
 exact RetQ.ret (fl := [true]) (by kernel_rfl)
def impl_Systemjoin_F1 (c : Ctx) (s0 : GSystem) (a1 : Int) (b2 : Int) (g_17 : Int) : Bool → Exit → AState → Prop
 | least_30 => Into c (.exit 2) (mkS [(1, I a1), (2, I b2), (3, .ra 1 0), (7, I g_17), (8, .bool least_30)] [(1, bSystem s0)])
end Go.Am
