/- Functions of the program as pure functions, and that it computes them. Printed by a program of mine (gen.py). -/
import Derived.Test.YtmdfopkcoinfeaaGNFF4
set_option linter.unusedVariables false
set_option linter.unusedSimpArgs false
set_option maxRecDepth 100000
namespace Go.Am
open Go Go.Proofs
def ah5_0 : Option (List (List Nat)) := rx [[0], [1], [2], [3], [0], [0, 4], [0, 4, 5], [0, 4, 5, 6], [8], [9]]
def impl_substituted (p : GTerm × Int × GTerm) : Option (GTerm) :=
 match p with
 | (t0, i1, u2) =>
  (impl_renamed_Kimpl_substituted_c1 (t0, 0, i1, u2)) >>= fun r_1_2 =>
  some r_1_2
def M_impl_substituted (p : GTerm × Int × GTerm) (r : GTerm) : Prop :=
 match p with
 | (t0, i1, u2) => FnSound Try.prog 129 [aTerm t0, I i1, aTerm u2] (qTerm r) []
theorem impl_substituted_s : ∀ p r, impl_substituted p = some r → M_impl_substituted p r := by
 rintro ⟨t0, i1, u2⟩ r h
 unfold impl_substituted at h
 show FnSound Try.prog 129 [aTerm t0, I i1, aTerm u2] (qTerm r) []
 refine FnSound.body0 tiok (fn := Try.f129) (code := B129) (by kernel_rfl) (by kernel_rfl) (by kernel_rfl) (by kernel_rfl) (nt := 10) (by kernel_rfl) (by kernel_rfl) (T := [(0, aTerm t0), (1, I i1), (2, aTerm u2)]) (O := []) (by kernel_rfl) (by kernel_rfl) (fun c hc => ?_)
 refine sN ?_
 refine rg hc none [some (.new 1), some (.new 2), some (.new 3), some (.new 4)] [(3, .ra 1 0), (4, .ra 2 0), (5, .ra 3 0), (6, .ra 4 0)] [(1, bTerm t0), (2, .box [I i1]), (3, bTerm u2), (4, .box [I 0, I 0, .nils, .nils])] trivial ?_
 refine seqQ_norm ?_
 refine sN ?_
 obtain ⟨r_1_2, hr_1_2, h⟩ := bsome h
 refine rg hc none [oN, oN, some (.call (qTerm r_1_2) [] 5), oN] [(6, .ra 4 0)] [(4, .box [I r_1_2.fOp, I r_1_2.fN, .rs 5, .rs 6]), (5, .arr (List.map I r_1_2.fType)), (6, .arr (List.map GTerm_O r_1_2.fKids))] (ai (impl_renamed_Kimpl_substituted_c1_s _ _ hr_1_2) (ai bod_143 (ai (Or.inr (nsh_cons rfl (nsh_cons rfl (nsh_cons (nsh_row nsh_I r_1_2.fType) (nsh_cons (nsh_row nsh_GTerm_O r_1_2.fKids) rfl)))) : ([2, 3] : List Nat) = [] ∨ noSh (qTerm r_1_2) = true) trivial))) ?_
 refine seqQ_norm ?_
 refine Wp.retN (by kernel_rfl) ?_
 obtain rfl := Option.some.inj h
 exact RetQ.ret (fl := [true]) (by kernel_rfl)
def impl_contracted (t0 : GTerm) : Option (GTerm) :=
  (idx t0.fKids 0) >>= fun e_1_2 =>
  if (t0.fOp == 2) = true then
   (idx t0.fKids 1) >>= fun e_4_4 =>
   some (GTerm.mk 1 (Int.tmod (wr (e_1_2.fN + e_4_4.fN)) 3) [] [])
  else
   if (t0.fOp == 3) = true then
    if (e_1_2.fN == 0) = true then
     (idx t0.fKids 1) >>= fun e_7_2 =>
     (impl_copyTerm e_7_2) >>= fun r_7_4 =>
     some r_7_4
    else
     (idx t0.fKids 2) >>= fun e_8_2 =>
     (impl_copyTerm e_8_2) >>= fun r_8_4 =>
     some r_8_4
   else
    if (t0.fOp == 10) = true then
     (idx e_1_2.fKids 0) >>= fun e_10_2 =>
     (idx t0.fKids 1) >>= fun e_10_6 =>
     (impl_substituted (e_10_2, 0, e_10_6)) >>= fun r_10_8 =>
     some r_10_8
    else
     if (t0.fOp == 5) = true then
      (idx t0.fKids 1) >>= fun e_12_2 =>
      (idx e_1_2.fKids 1) >>= fun e_12_6 =>
      (impl_shifted (e_12_6, 1, 0)) >>= fun r_12_8 =>
      (impl_substituted (e_12_2, 0, r_12_8)) >>= fun r_12_9 =>
      (idx e_1_2.fKids 0) >>= fun e_13_3 =>
      (impl_substituted (r_12_9, 0, e_13_3)) >>= fun r_13_5 =>
      some r_13_5
     else
      if (t0.fOp == 8) = true then
       (idx t0.fKids (wr ((wr (1 + e_1_2.fOp)) - 6))) >>= fun e_15_6 =>
       (idx e_1_2.fKids 0) >>= fun e_15_10 =>
       (impl_substituted (e_15_6, 0, e_15_10)) >>= fun r_15_12 =>
       some r_15_12
      else
       (idx t0.fKids 1) >>= fun e_16_2 =>
       (idx e_1_2.fKids 0) >>= fun e_16_6 =>
       (impl_substituted (e_16_2, 0, e_16_6)) >>= fun r_16_8 =>
       some r_16_8
def M_impl_contracted (t0 : GTerm) (r : GTerm) : Prop :=
 FnSound Try.prog 96 [aTerm t0] (qTerm r) []
theorem impl_contracted_s : ∀ p r, impl_contracted p = some r → M_impl_contracted p r := by
 rintro t0 r h
 unfold impl_contracted at h
 show FnSound Try.prog 96 [aTerm t0] (qTerm r) []
 refine FnSound.body0 tiok (fn := Try.f96) (code := B96) (by kernel_rfl) (by kernel_rfl) (by kernel_rfl) (by kernel_rfl) (nt := 91) (by kernel_rfl) (by kernel_rfl) (T := [(0, aTerm t0)]) (O := []) (by kernel_rfl) (by kernel_rfl) (fun c hc => ?_)
 refine sN ?_
 refine rg hc none [some (.new 1), some (.new 2)] [(1, .ra 1 0), (2, .ra 2 0)] [(1, bTerm t0), (2, .box [I 0, I 0, .nils, .nils])] trivial ?_
 refine seqQ_norm ?_
 refine sN ?_
 obtain ⟨e_1_2, hi_1_2, h⟩ := bsome h
 refine rg hc none [oN, oN, some (.el (aTerm e_1_2)), oN, some (.new 3), oN] [(1, .ra 1 0), (2, .ra 2 0), (3, .ra 3 0)] [(1, bTerm t0), (2, .box [I 0, I 0, .nils, .nils]), (3, bTerm e_1_2)] (ai (idx_sl (enc := GTerm_S) (x := aTerm e_1_2) hi_1_2 (eq_GTerm_S e_1_2)) trivial) ?_
 refine seqQ_norm ?_
 refine sN ?_
 refine sN ?_
 refine rg0 hc 2 [(1, .ra 1 0), (2, .ra 2 0), (3, .ra 3 0), (10, I t0.fOp)] [(1, bTerm t0), (2, .box [I 0, I 0, .nils, .nils]), (3, bTerm e_1_2)] ?_
 refine seqQ_norm ?_
 refine Wp.blockN (i := 0) (by kernel_rfl) ?_
 refine sN ?_
 refine rg0 hc 2 [(1, .ra 1 0), (2, .ra 2 0), (3, .ra 3 0), (10, I t0.fOp), (11, .bool (t0.fOp == 2))] [(1, bTerm t0), (2, .box [I 0, I 0, .nils, .nils]), (3, bTerm e_1_2)] ?_
 refine seqQ_norm ?_
 rcases itesome h with ⟨hb_1, h⟩ | ⟨hb_1, h⟩
 ·refine cT ((t0.fOp == 2)) hb_1 ?_
  refine sN ?_
  obtain ⟨e_4_4, hi_4_4, h⟩ := bsome h
  refine rg hc (rx [[0], [1], [0], [0, 2], [0, 2, 3], [0, 2, 3, 4], [0, 2, 3, 4, 5], [7], [8], [9], [10]]) [oN, oN, oN, oN, some (.el (aTerm e_4_4)), oN, oN, oN, oN, oN, oN] [(2, .ra 2 0)] [(2, .box [I 1, I (Int.tmod (wr (e_1_2.fN + e_4_4.fN)) 3), .nils, .nils])] (ai (idx_sl (enc := GTerm_S) (x := aTerm e_4_4) hi_4_4 (eq_GTerm_S e_4_4)) (ai ((by decide) : (3 : Int) ≠ 0) trivial)) ?_
  refine seqQ_norm ?_
  refine Wp.retN (by kernel_rfl) ?_
  refine blockQ_ret ?_
  refine seqQ_ret ?_
  obtain rfl := Option.some.inj h
  exact RetQ.ret (fl := [true]) (by kernel_rfl)
 ·refine cF ((t0.fOp == 2)) hb_1 ?_
  refine sN ?_
  refine rg0 hc 2 [(1, .ra 1 0), (2, .ra 2 0), (3, .ra 3 0), (10, I t0.fOp), (23, .bool (t0.fOp == 3))] [(1, bTerm t0), (2, .box [I 0, I 0, .nils, .nils]), (3, bTerm e_1_2)] ?_
  refine seqQ_norm ?_
  rcases itesome h with ⟨hb_2, h⟩ | ⟨hb_2, h⟩
  ·refine cT ((t0.fOp == 3)) hb_2 ?_
   refine sN ?_
   refine sN ?_
   refine rg0 hc 3 [(1, .ra 1 0), (2, .ra 2 0), (27, .bool (e_1_2.fN == 0))] [(1, bTerm t0), (2, .box [I 0, I 0, .nils, .nils])] ?_
   refine seqQ_norm ?_
   rcases itesome h with ⟨hb_3, h⟩ | ⟨hb_3, h⟩
   ·refine cT ((e_1_2.fN == 0)) hb_3 ?_
    refine sN ?_
    obtain ⟨e_7_2, hi_7_2, h⟩ := bsome h
    obtain ⟨r_7_4, hr_7_4, h⟩ := bsome h
    refine rg hc none [oN, oN, some (.el (aTerm e_7_2)), oN, some (.call (qTerm r_7_4) [] 4), oN] [(2, .ra 2 0)] [(2, .box [I r_7_4.fOp, I r_7_4.fN, .rs 4, .rs 5]), (4, .arr (List.map I r_7_4.fType)), (5, .arr (List.map GTerm_O r_7_4.fKids))] (ai (idx_sl (enc := GTerm_S) (x := aTerm e_7_2) hi_7_2 (eq_GTerm_S e_7_2)) (ai (impl_copyTerm_s _ _ hr_7_4) (ai bod_63 (ai (oi (qTerm r_7_4)) trivial)))) ?_
    refine seqQ_norm ?_
    refine Wp.retN (by kernel_rfl) ?_
    refine seqQ_ret ?_
    refine blockQ_ret ?_
    refine seqQ_ret ?_
    obtain rfl := Option.some.inj h
    exact RetQ.ret (fl := [true]) (by kernel_rfl)
   ·refine cF ((e_1_2.fN == 0)) hb_3 ?_
    refine Wp.skipN (by kernel_rfl) ?_
    refine seqQ_norm ?_
    refine sN ?_
    obtain ⟨e_8_2, hi_8_2, h⟩ := bsome h
    obtain ⟨r_8_4, hr_8_4, h⟩ := bsome h
    refine rg hc none [oN, oN, some (.el (aTerm e_8_2)), oN, some (.call (qTerm r_8_4) [] 6), oN] [(2, .ra 2 0)] [(2, .box [I r_8_4.fOp, I r_8_4.fN, .rs 6, .rs 7]), (6, .arr (List.map I r_8_4.fType)), (7, .arr (List.map GTerm_O r_8_4.fKids))] (ai (idx_sl (enc := GTerm_S) (x := aTerm e_8_2) hi_8_2 (eq_GTerm_S e_8_2)) (ai (impl_copyTerm_s _ _ hr_8_4) (ai bod_63 (ai (oi (qTerm r_8_4)) trivial)))) ?_
    refine seqQ_norm ?_
    refine Wp.retN (by kernel_rfl) ?_
    refine blockQ_ret ?_
    refine seqQ_ret ?_
    obtain rfl := Option.some.inj h
    exact RetQ.ret (fl := [true]) (by kernel_rfl)
  ·refine cF ((t0.fOp == 3)) hb_2 ?_
   refine sN ?_
   refine rg0 hc 2 [(1, .ra 1 0), (2, .ra 2 0), (3, .ra 3 0), (10, I t0.fOp), (38, .bool (t0.fOp == 10))] [(1, bTerm t0), (2, .box [I 0, I 0, .nils, .nils]), (3, bTerm e_1_2)] ?_
   refine seqQ_norm ?_
   rcases itesome h with ⟨hb_4, h⟩ | ⟨hb_4, h⟩
   ·refine cT ((t0.fOp == 10)) hb_4 ?_
    refine sN ?_
    obtain ⟨e_10_2, hi_10_2, h⟩ := bsome h
    obtain ⟨e_10_6, hi_10_6, h⟩ := bsome h
    obtain ⟨r_10_8, hr_10_8, h⟩ := bsome h
    refine rg hc ah5_0 [oN, oN, some (.el (aTerm e_10_2)), oN, oN, oN, some (.el (aTerm e_10_6)), oN, some (.call (qTerm r_10_8) [] 8), oN] [(2, .ra 2 0)] [(2, .box [I r_10_8.fOp, I r_10_8.fN, .rs 8, .rs 9]), (8, .arr (List.map I r_10_8.fType)), (9, .arr (List.map GTerm_O r_10_8.fKids))] (ai (idx_sl (enc := GTerm_S) (x := aTerm e_10_2) hi_10_2 (eq_GTerm_S e_10_2)) (ai (idx_sl (enc := GTerm_S) (x := aTerm e_10_6) hi_10_6 (eq_GTerm_S e_10_6)) (ai (impl_substituted_s _ _ hr_10_8) (ai bod_129 (ai (oi (qTerm r_10_8)) trivial))))) ?_
    refine seqQ_norm ?_
    refine Wp.retN (by kernel_rfl) ?_
    refine blockQ_ret ?_
    refine seqQ_ret ?_
    obtain rfl := Option.some.inj h
    exact RetQ.ret (fl := [true]) (by kernel_rfl)
   ·refine cF ((t0.fOp == 10)) hb_4 ?_
    refine sN ?_
    refine rg0 hc 2 [(1, .ra 1 0), (2, .ra 2 0), (3, .ra 3 0), (10, I t0.fOp), (49, .bool (t0.fOp == 5))] [(1, bTerm t0), (2, .box [I 0, I 0, .nils, .nils]), (3, bTerm e_1_2)] ?_
    refine seqQ_norm ?_
    rcases itesome h with ⟨hb_5, h⟩ | ⟨hb_5, h⟩
    ·refine cT ((t0.fOp == 5)) hb_5 ?_
     refine sN ?_
     obtain ⟨e_12_2, hi_12_2, h⟩ := bsome h
     obtain ⟨e_12_6, hi_12_6, h⟩ := bsome h
     obtain ⟨r_12_8, hr_12_8, h⟩ := bsome h
     obtain ⟨r_12_9, hr_12_9, h⟩ := bsome h
     refine rg hc (rx [[0], [1], [2], [3], [0], [0, 4], [0, 4, 5], [0, 4, 5, 6], [0, 4, 5, 6, 7], [9], [0], [11]]) [oN, oN, some (.el (aTerm e_12_2)), oN, oN, oN, some (.el (aTerm e_12_6)), oN, some (.call (qTerm r_12_8) [] 10), some (.call (qTerm r_12_9) [] 12), some (.new 14), oN] [(2, .ra 2 0), (3, .ra 3 0), (4, .ra 14 0)] [(2, .box [I 0, I 0, .nils, .nils]), (3, bTerm e_1_2), (12, .arr (List.map I r_12_9.fType)), (13, .arr (List.map GTerm_O r_12_9.fKids)), (14, .box [I r_12_9.fOp, I r_12_9.fN, .rs 12, .rs 13])] (ai (idx_sl (enc := GTerm_S) (x := aTerm e_12_2) hi_12_2 (eq_GTerm_S e_12_2)) (ai (idx_sl (enc := GTerm_S) (x := aTerm e_12_6) hi_12_6 (eq_GTerm_S e_12_6)) (ai (impl_shifted_s _ _ hr_12_8) (ai bod_130 (ai (oi (qTerm r_12_8)) (ai (FnSound.args (A1 := [aTerm e_12_2, I 0, hTerm r_12_8]) (A2 := [aTerm e_12_2, I 0, aTerm r_12_8]) (by simp only [sI, sB, aTerm, hTerm, List.map_nil, sh_GTerm_O, sh_I]) (impl_substituted_s _ _ hr_12_9)) (ai bod_129 (ai (Or.inr (nsh_cons rfl (nsh_cons rfl (nsh_cons (nsh_row nsh_I r_12_9.fType) (nsh_cons (nsh_row nsh_GTerm_O r_12_9.fKids) rfl)))) : ([10, 11] : List Nat) = [] ∨ noSh (qTerm r_12_9) = true) trivial)))))))) ?_
     refine seqQ_norm ?_
     refine sN ?_
     obtain ⟨e_13_3, hi_13_3, h⟩ := bsome h
     obtain ⟨r_13_5, hr_13_5, h⟩ := bsome h
     refine rg hc (rx [[0], [0], [0, 1], [0, 1, 2], [0, 1, 2, 3], [5], [6]]) [oN, oN, oN, some (.el (aTerm e_13_3)), oN, some (.call (qTerm r_13_5) [] 15), oN] [(2, .ra 2 0)] [(2, .box [I r_13_5.fOp, I r_13_5.fN, .rs 15, .rs 16]), (15, .arr (List.map I r_13_5.fType)), (16, .arr (List.map GTerm_O r_13_5.fKids))] (ai (idx_sl (enc := GTerm_S) (x := aTerm e_13_3) hi_13_3 (eq_GTerm_S e_13_3)) (ai (FnSound.args (A1 := [hTerm r_12_9, I 0, aTerm e_13_3]) (A2 := [aTerm r_12_9, I 0, aTerm e_13_3]) (by simp only [sI, sB, aTerm, hTerm, List.map_nil, sh_GTerm_O, sh_I]) (impl_substituted_s _ _ hr_13_5)) (ai bod_129 (ai (Or.inr (nsh_cons rfl (nsh_cons rfl (nsh_cons (nsh_row nsh_I r_13_5.fType) (nsh_cons (nsh_row nsh_GTerm_O r_13_5.fKids) rfl)))) : ([12, 13] : List Nat) = [] ∨ noSh (qTerm r_13_5) = true) trivial)))) ?_
     refine seqQ_norm ?_
     refine Wp.retN (by kernel_rfl) ?_
     refine blockQ_ret ?_
     refine seqQ_ret ?_
     obtain rfl := Option.some.inj h
     exact RetQ.ret (fl := [true]) (by kernel_rfl)
    ·refine cF ((t0.fOp == 5)) hb_5 ?_
     refine sN ?_
     refine rg0 hc 2 [(1, .ra 1 0), (2, .ra 2 0), (3, .ra 3 0), (67, .bool (t0.fOp == 8))] [(1, bTerm t0), (2, .box [I 0, I 0, .nils, .nils]), (3, bTerm e_1_2)] ?_
     refine seqQ_norm ?_
     rcases itesome h with ⟨hb_6, h⟩ | ⟨hb_6, h⟩
     ·refine cT ((t0.fOp == 8)) hb_6 ?_
      refine sN ?_
      obtain ⟨e_15_6, hi_15_6, h⟩ := bsome h
      obtain ⟨e_15_10, hi_15_10, h⟩ := bsome h
      obtain ⟨r_15_12, hr_15_12, h⟩ := bsome h
      refine rg hc (rx [[0], [1], [0], [0, 2], [0, 2, 3], [0, 2, 3, 4], [6], [7], [0], [0, 8], [0, 8, 9], [0, 8, 9, 10], [12], [13]]) [oN, oN, oN, oN, oN, oN, some (.el (aTerm e_15_6)), oN, oN, oN, some (.el (aTerm e_15_10)), oN, some (.call (qTerm r_15_12) [] 17), oN] [(2, .ra 2 0)] [(2, .box [I r_15_12.fOp, I r_15_12.fN, .rs 17, .rs 18]), (17, .arr (List.map I r_15_12.fType)), (18, .arr (List.map GTerm_O r_15_12.fKids))] (ai (idx_sl (enc := GTerm_S) (x := aTerm e_15_6) hi_15_6 (eq_GTerm_S e_15_6)) (ai (idx_sl (enc := GTerm_S) (x := aTerm e_15_10) hi_15_10 (eq_GTerm_S e_15_10)) (ai (impl_substituted_s _ _ hr_15_12) (ai bod_129 (ai (oi (qTerm r_15_12)) trivial))))) ?_
      refine seqQ_norm ?_
      refine Wp.retN (by kernel_rfl) ?_
      refine blockQ_ret ?_
      refine seqQ_ret ?_
      obtain rfl := Option.some.inj h
      exact RetQ.ret (fl := [true]) (by kernel_rfl)
     ·refine cF ((t0.fOp == 8)) hb_6 ?_
      refine Wp.skipN (by kernel_rfl) ?_
      refine blockQ_norm ?_
      refine seqQ_norm ?_
      refine sN ?_
      obtain ⟨e_16_2, hi_16_2, h⟩ := bsome h
      obtain ⟨e_16_6, hi_16_6, h⟩ := bsome h
      obtain ⟨r_16_8, hr_16_8, h⟩ := bsome h
      refine rg hc ah5_0 [oN, oN, some (.el (aTerm e_16_2)), oN, oN, oN, some (.el (aTerm e_16_6)), oN, some (.call (qTerm r_16_8) [] 19), oN] [(2, .ra 2 0)] [(2, .box [I r_16_8.fOp, I r_16_8.fN, .rs 19, .rs 20]), (19, .arr (List.map I r_16_8.fType)), (20, .arr (List.map GTerm_O r_16_8.fKids))] (ai (idx_sl (enc := GTerm_S) (x := aTerm e_16_2) hi_16_2 (eq_GTerm_S e_16_2)) (ai (idx_sl (enc := GTerm_S) (x := aTerm e_16_6) hi_16_6 (eq_GTerm_S e_16_6)) (ai (impl_substituted_s _ _ hr_16_8) (ai bod_129 (ai (oi (qTerm r_16_8)) trivial))))) ?_
      refine seqQ_norm ?_
      refine Wp.retN (by kernel_rfl) ?_
      obtain rfl := Option.some.inj h
      exact RetQ.ret (fl := [true]) (by kernel_rfl)
def impl_replaced (p : GTerm × (List Int) × GTerm) : Option (GTerm) :=
 match p with
 | (t0, path1, u2) =>
  if ((path1.length : Int) == 0) = true then
   (impl_copyTerm u2) >>= fun r_2_1 =>
   some r_2_1
  else
   (impl_copyTerm t0) >>= fun r_3_1 =>
   (idx path1 0) >>= fun e_4_3 =>
   (idx path1 0) >>= fun e_4_8 =>
   (idx t0.fKids e_4_8) >>= fun e_4_10 =>
   (cut path1 (some 1) none none) >>= fun c_4_13 =>
   (impl_replaced (e_4_10, c_4_13, u2)) >>= fun r_4_15 =>
   (idx r_3_1.fKids e_4_3) >>= fun e_4_16 =>
   some (GTerm.mk r_3_1.fOp r_3_1.fN r_3_1.fType (List.set r_3_1.fKids (Int.toNat e_4_3) r_4_15))
 partial_fixpoint
def M_impl_replaced (p : GTerm × (List Int) × GTerm) (r : GTerm) : Prop :=
 match p with
 | (t0, path1, u2) => FnSound Try.prog 95 [aTerm t0, sI path1, aTerm u2] (qTerm r) []
theorem impl_replaced_s : ∀ p r, impl_replaced p = some r → M_impl_replaced p r := by
 refine impl_replaced.partial_correctness M_impl_replaced ?_
 rintro impl_replaced_f impl_replaced_ih ⟨t0, path1, u2⟩ r h
 show FnSound Try.prog 95 [aTerm t0, sI path1, aTerm u2] (qTerm r) []
 refine FnSound.body0 tiok (fn := Try.f95) (code := B95) (by kernel_rfl) (by kernel_rfl) (by kernel_rfl) (by kernel_rfl) (nt := 33) (by kernel_rfl) (by kernel_rfl) (T := [(0, aTerm t0), (1, sI path1), (2, aTerm u2)]) (O := []) (by kernel_rfl) (by kernel_rfl) (fun c hc => ?_)
 refine sN ?_
 refine rg hc none [some (.new 1), some (.new 2), some (.new 3)] [(1, sI path1), (3, .ra 1 0), (5, .ra 2 0), (6, .ra 3 0)] [(1, bTerm t0), (2, bTerm u2), (3, .box [I 0, I 0, .nils, .nils])] trivial ?_
 refine seqQ_norm ?_
 refine sN ?_
 refine sN ?_
 refine rg hc none [oN, some (.eqv (.no) ⟨[(9, I (path1.length : Int))], [], []⟩), oN] [(1, sI path1), (3, .ra 1 0), (5, .ra 2 0), (6, .ra 3 0), (10, .bool ((path1.length : Int) == 0))] [(1, bTerm t0), (2, bTerm u2), (3, .box [I 0, I 0, .nils, .nils])] (ai (lenT (d := 9) I path1) trivial) ?_
 refine seqQ_norm ?_
 rcases itesome h with ⟨hb_1, h⟩ | ⟨hb_1, h⟩
 ·refine cT (((path1.length : Int) == 0)) hb_1 ?_
  refine sN ?_
  obtain ⟨r_2_1, hr_2_1, h⟩ := bsome h
  refine rg hc none [oN, some (.call (qTerm r_2_1) [] 4), oN] [(6, .ra 3 0)] [(3, .box [I r_2_1.fOp, I r_2_1.fN, .rs 4, .rs 5]), (4, .arr (List.map I r_2_1.fType)), (5, .arr (List.map GTerm_O r_2_1.fKids))] (ai (impl_copyTerm_s _ _ hr_2_1) (ai bod_63 (ai (oi (qTerm r_2_1)) trivial))) ?_
  refine seqQ_norm ?_
  refine Wp.retN (by kernel_rfl) ?_
  refine seqQ_ret ?_
  obtain rfl := Option.some.inj h
  exact RetQ.ret (fl := [true]) (by kernel_rfl)
 ·refine cF (((path1.length : Int) == 0)) hb_1 ?_
  refine Wp.skipN (by kernel_rfl) ?_
  refine seqQ_norm ?_
  refine sN ?_
  obtain ⟨r_3_1, hr_3_1, h⟩ := bsome h
  refine rg hc none [oN, some (.call (qTerm r_3_1) [] 6), some (.new 8), oN] [(1, sI path1), (3, .ra 1 0), (5, .ra 2 0), (6, .ra 3 0), (7, .ra 8 0)] [(1, bTerm t0), (2, bTerm u2), (3, .box [I 0, I 0, .nils, .nils]), (6, .arr (List.map I r_3_1.fType)), (7, .arr (List.map GTerm_O r_3_1.fKids)), (8, .box [I r_3_1.fOp, I r_3_1.fN, .rs 6, .rs 7])] (ai (impl_copyTerm_s _ _ hr_3_1) (ai bod_63 (ai (oi (qTerm r_3_1)) trivial))) ?_
  refine seqQ_norm ?_
  refine sN ?_
  obtain ⟨e_4_3, hi_4_3, h⟩ := bsome h
  obtain ⟨e_4_8, hi_4_8, h⟩ := bsome h
  obtain ⟨e_4_10, hi_4_10, h⟩ := bsome h
  obtain ⟨c_4_13, hs_4_13, h⟩ := bsome h
  obtain ⟨r_4_15, hr_4_15, h⟩ := bsome h
  obtain ⟨e_4_16, hi_4_16, h⟩ := bsome h
  refine rg hc (rx [[0], [1], [0], [0, 2], [0, 2, 3], [0], [0, 5], [0], [0, 7], [0, 7, 8], [0, 5, 6, 7, 8, 9], [0, 5, 6, 7, 8, 9, 10], [0], [0, 12], [0], [0, 5, 6, 7, 8, 9, 10, 11, 12, 13, 14], [16], [17]]) [oN, oN, oN, some (.el (I e_4_3)), oN, oN, oN, oN, some (.el (I e_4_8)), oN, some (.el (aTerm e_4_10)), oN, oN, some (.eqv (.no) ⟨[(28, sI c_4_13)], [], []⟩), oN, some (.call (qTerm r_4_15) [] 9), oN, some (.eqv (.mk 0 true) ⟨[], [(7, some (.arr (List.map GTerm_O (List.set r_3_1.fKids (Int.toNat e_4_3) r_4_15)))), (9, none), (10, none)], []⟩)] [(6, .ra 3 0), (7, .ra 8 0)] [(3, .box [I 0, I 0, .nils, .nils]), (6, .arr (List.map I r_3_1.fType)), (7, .arr (List.map GTerm_O (List.set r_3_1.fKids (Int.toNat e_4_3) r_4_15))), (8, .box [I r_3_1.fOp, I r_3_1.fN, .rs 6, .rs 7])] (ai (ix hi_4_3) (ai (ix hi_4_8) (ai (idx_sl (enc := GTerm_S) (x := aTerm e_4_10) hi_4_10 (eq_GTerm_S e_4_10)) (ai (cut_wr (d := 28) I hs_4_13) (ai (cut_ob (enc := I) (sz := 1) sz_I hs_4_13) (ai (impl_replaced_ih _ _ hr_4_15) (ai bod_95 (ai (oi (qTerm r_4_15)) (ai (idx_own (enc := GTerm_O) hi_4_16) (ai (congrArg (fun z => (⟨[], [(7, some (.arr z)), (9, none), (10, none)], []⟩ : Wr)) (set_row (enc := GTerm_O) (i := Int.toNat e_4_3) (l := r_3_1.fKids) (v := r_4_15) (x := AV.agg [I r_4_15.fOp, I r_4_15.fN, AV.osl (List.map I r_4_15.fType), AV.osl (List.map GTerm_O r_4_15.fKids)]) (eq_GTerm_O r_4_15))) (ai (own_set (enc := GTerm_O) (sz := 4) sz_GTerm_O hi_4_16) trivial))))))))))) ?_
  refine seqQ_norm ?_
  refine sN ?_
  refine rg0 hc 2 [(6, .ra 3 0)] [(3, .box [I r_3_1.fOp, I r_3_1.fN, .rs 6, .rs 7]), (6, .arr (List.map I r_3_1.fType)), (7, .arr (List.map GTerm_O (List.set r_3_1.fKids (Int.toNat e_4_3) r_4_15)))] ?_
  refine seqQ_norm ?_
  refine Wp.retN (by kernel_rfl) ?_
  obtain rfl := Option.some.inj h
  exact RetQ.ret (fl := [true]) (by kernel_rfl)
def impl_ContractAt (p : GTerm × (List Int)) : Option (GTerm × Bool) :=
 match p with
 | (t0, path1) =>
  (impl_IsWritten t0) >>= fun r_1_1 =>
  if r_1_1 = true then
   (impl_at (t0, path1)) >>= fun (r_3_2_0, r_3_2_1) =>
   (
    if r_3_2_1 = true then
     (impl_isRedex r_3_2_0) >>= fun r_4_4 =>
     some ((!r_4_4))
    else
     some (true)
   ) >>= fun v_2 =>
   if v_2 = true then
    some ((GTerm.mk 0 0 [] []), false)
   else
    (impl_contracted r_3_2_0) >>= fun r_6_3 =>
    (impl_replaced (t0, path1, r_6_3)) >>= fun r_6_4 =>
    (impl_IsWritten r_6_4) >>= fun r_7_1 =>
    if r_7_1 = true then
     some (r_6_4, true)
    else
     some ((GTerm.mk 0 0 [] []), false)
  else
   some ((GTerm.mk 0 0 [] []), false)
def M_impl_ContractAt (p : GTerm × (List Int)) (r : GTerm × Bool) : Prop :=
 match p with
 | (t0, path1) => FnSound Try.prog 52 [aTerm t0, sI path1] (.tup [.agg [I r.1.fOp, I r.1.fN, .osl (List.map I r.1.fType), .osl (List.map GTerm_O r.1.fKids)], .bool r.2]) []
theorem impl_ContractAt_s : ∀ p r, impl_ContractAt p = some r → M_impl_ContractAt p r := by
 rintro ⟨t0, path1⟩ r h
 unfold impl_ContractAt at h
 show FnSound Try.prog 52 [aTerm t0, sI path1] (.tup [.agg [I r.1.fOp, I r.1.fN, .osl (List.map I r.1.fType), .osl (List.map GTerm_O r.1.fKids)], .bool r.2]) []
 refine FnSound.body0 tiok (fn := Try.f52) (code := B52) (by kernel_rfl) (by kernel_rfl) (by kernel_rfl) (by kernel_rfl) (nt := 37) (by kernel_rfl) (by kernel_rfl) (T := [(0, aTerm t0), (1, sI path1)]) (O := []) (by kernel_rfl) (by kernel_rfl) (fun c hc => ?_)
 refine sN ?_
 refine rg hc none [some (.new 1), some (.new 2), oN] [(1, sI path1), (2, .ra 1 0), (4, .ra 2 0)] [(1, bTerm t0), (2, .box [I 0, I 0, .nils, .nils])] trivial ?_
 refine seqQ_norm ?_
 refine sN ?_
 refine sN ?_
 obtain ⟨r_1_1, hr_1_1, h⟩ := bsome h
 refine rg hc none [oN, oc (.bool r_1_1), oN] [(1, sI path1), (2, .ra 1 0), (4, .ra 2 0), (11, .bool (!r_1_1))] [(1, bTerm t0), (2, .box [I 0, I 0, .nils, .nils])] (ai (impl_IsWritten_s _ _ hr_1_1) (ai bod_60 (ai (oi (.bool r_1_1)) trivial))) ?_
 refine seqQ_norm ?_
 rcases itesome h with ⟨hb_1, h⟩ | ⟨hb_1, h⟩
 ·refine cF (!r_1_1) (nF hb_1) ?_
  refine Wp.skipN (by kernel_rfl) ?_
  refine seqQ_norm ?_
  refine sN ?_
  obtain ⟨⟨r_3_2_0, r_3_2_1⟩, hr_3_2, h⟩ := bsome h
  refine rg hc none [oN, oN, oc (.tup [aTerm r_3_2_0, .bool r_3_2_1]), oN, oN, oN, some (.new 3), oN, oN] [(1, sI path1), (2, .ra 1 0), (4, .ra 2 0), (6, .ra 3 0), (7, .bool r_3_2_1)] [(1, bTerm t0), (2, .box [I 0, I 0, .nils, .nils]), (3, bTerm r_3_2_0)] (ai (impl_at_s _ _ hr_3_2) (ai bod_93 (ai (oi (.tup [aTerm r_3_2_0, .bool r_3_2_1])) trivial))) ?_
  refine seqQ_norm ?_
  refine sN ?_
  refine sN ?_
  obtain ⟨v_2, hj_3, h⟩ := bsome h
  refine Wp.into (x := .normal) (mkS [(1, sI path1), (2, .ra 1 0), (4, .ra 2 0), (6, .ra 3 0), (25, .bool v_2)] [(1, bTerm t0), (2, .box [I 0, I 0, .nils, .nils]), (3, bTerm r_3_2_0)]) ?_ ?_
  ·replace h := hj_3
   rcases itesome h with ⟨hb_4_0, h⟩ | ⟨hb_4_0, h⟩
   ·obtain ⟨r_4_4, hr_4_4, h⟩ := bsome h
    refine rg hc none [oN, oN, oN, oN, oc (.bool r_4_4), oN, oF] [(1, sI path1), (2, .ra 1 0), (4, .ra 2 0), (6, .ra 3 0), (25, .bool (!r_4_4))] [(1, bTerm t0), (2, .box [I 0, I 0, .nils, .nils]), (3, bTerm r_3_2_0)] (ar 2 (nF hb_4_0) (ai (impl_isRedex_s _ _ hr_4_4) (ai bod_94 (ai (oi (.bool r_4_4)) (ar 2 (nF hb_4_0) trivial))))) ?_
    obtain rfl := Option.some.inj h
    exact Into.mk
   ·refine rg hc none [oN, oN, oN, o_, o_, o_, oT] [(1, sI path1), (2, .ra 1 0), (4, .ra 2 0), (6, .ra 3 0), (25, .bool true)] [(1, bTerm t0), (2, .box [I 0, I 0, .nils, .nils]), (3, bTerm r_3_2_0)] (ar 3 (neF (nT hb_4_0)) (ai (nT hb_4_0) trivial)) ?_
    obtain rfl := Option.some.inj h
    exact Into.mk
  ·clear hj_3
   refine seqQ_norm ?_
   rcases itesome h with ⟨hb_4, h⟩ | ⟨hb_4, h⟩
   ·refine cT v_2 hb_4 ?_
    refine sN ?_
    refine rg0 hc 3 [(4, .ra 2 0), (5, .bool false)] [(2, .box [I 0, I 0, .nils, .nils])] ?_
    refine seqQ_norm ?_
    refine Wp.retN (by kernel_rfl) ?_
    refine seqQ_ret ?_
    obtain rfl := Option.some.inj h
    exact RetQ.ret (fl := [true, true]) (by kernel_rfl)
   ·refine cF v_2 hb_4 ?_
    refine Wp.skipN (by kernel_rfl) ?_
    refine seqQ_norm ?_
    refine sN ?_
    obtain ⟨r_6_3, hr_6_3, h⟩ := bsome h
    obtain ⟨r_6_4, hr_6_4, h⟩ := bsome h
    refine rg hc (rx [[0], [0], [0], [0, 2], [4], [0], [6]]) [oN, oN, oN, some (.call (qTerm r_6_3) [] 4), some (.call (qTerm r_6_4) [] 6), some (.new 8), oN] [(4, .ra 2 0), (8, .ra 8 0)] [(2, .box [I 0, I 0, .nils, .nils]), (6, .arr (List.map I r_6_4.fType)), (7, .arr (List.map GTerm_O r_6_4.fKids)), (8, .box [I r_6_4.fOp, I r_6_4.fN, .rs 6, .rs 7])] (ai (impl_contracted_s _ _ hr_6_3) (ai bod_96 (ai (oi (qTerm r_6_3)) (ai (FnSound.args (A1 := [aTerm t0, sI path1, hTerm r_6_3]) (A2 := [aTerm t0, sI path1, aTerm r_6_3]) (by simp only [sI, sB, aTerm, hTerm, List.map_nil, sh_GTerm_O, sh_I]) (impl_replaced_s _ _ hr_6_4)) (ai bod_95 (ai (Or.inr (nsh_cons rfl (nsh_cons rfl (nsh_cons (nsh_row nsh_I r_6_4.fType) (nsh_cons (nsh_row nsh_GTerm_O r_6_4.fKids) rfl)))) : ([4, 5] : List Nat) = [] ∨ noSh (qTerm r_6_4) = true) trivial)))))) ?_
    refine seqQ_norm ?_
    refine sN ?_
    refine sN ?_
    obtain ⟨r_7_1, hr_7_1, h⟩ := bsome h
    refine rg hc none [oN, oc (.bool r_7_1), oN] [(4, .ra 2 0), (8, .ra 8 0), (34, .bool (!r_7_1))] [(2, .box [I 0, I 0, .nils, .nils]), (6, .arr (List.map I r_6_4.fType)), (7, .arr (List.map GTerm_O r_6_4.fKids)), (8, .box [I r_6_4.fOp, I r_6_4.fN, .rs 6, .rs 7])] (ai (FnSound.args (A1 := [hTerm r_6_4]) (A2 := [aTerm r_6_4]) (by simp only [sI, sB, aTerm, hTerm, List.map_nil, sh_GTerm_O, sh_I]) (impl_IsWritten_s _ _ hr_7_1)) (ai bod_60 (ai (Or.inr rfl : ([6, 7] : List Nat) = [] ∨ noSh (.bool r_7_1) = true) trivial))) ?_
    refine seqQ_norm ?_
    rcases itesome h with ⟨hb_5, h⟩ | ⟨hb_5, h⟩
    ·refine cF (!r_7_1) (nF hb_5) ?_
     refine Wp.skipN (by kernel_rfl) ?_
     refine seqQ_norm ?_
     refine sN ?_
     refine rg0 hc 3 [(4, .ra 2 0), (5, .bool true)] [(2, .box [I r_6_4.fOp, I r_6_4.fN, .rs 6, .rs 7]), (6, .arr (List.map I r_6_4.fType)), (7, .arr (List.map GTerm_O r_6_4.fKids))] ?_
     refine seqQ_norm ?_
     refine Wp.retN (by kernel_rfl) ?_
     obtain rfl := Option.some.inj h
     exact RetQ.ret (fl := [true, true]) (by kernel_rfl)
    ·refine cT (!r_7_1) (nT hb_5) ?_
     refine sN ?_
     refine rg0 hc 3 [(4, .ra 2 0), (5, .bool false)] [(2, .box [I 0, I 0, .nils, .nils])] ?_
     refine seqQ_norm ?_
     refine Wp.retN (by kernel_rfl) ?_
     refine seqQ_ret ?_
     obtain rfl := Option.some.inj h
     exact RetQ.ret (fl := [true, true]) (by kernel_rfl)
 ·refine cT (!r_1_1) (nT hb_1) ?_
  refine sN ?_
  refine rg0 hc 3 [(4, .ra 2 0), (5, .bool false)] [(2, .box [I 0, I 0, .nils, .nils])] ?_
  refine seqQ_norm ?_
  refine Wp.retN (by kernel_rfl) ?_
  refine seqQ_ret ?_
  obtain rfl := Option.some.inj h
  exact RetQ.ret (fl := [true, true]) (by kernel_rfl)
def impl_StepTerm (t0 : GTerm) : Option (GTerm × Bool) :=
  (impl_RedexesOf t0) >>= fun r_1_1 =>
  if ((r_1_1.length : Int) == 0) = true then
   some ((GTerm.mk 0 0 [] []), false)
  else
   (idx r_1_1 0) >>= fun e_4_x =>
   (impl_ContractAt (t0, e_4_x)) >>= fun (r_4_4_0, r_4_4_1) =>
   some (r_4_4_0, r_4_4_1)
def M_impl_StepTerm (t0 : GTerm) (r : GTerm × Bool) : Prop :=
 FnSound Try.prog 21 [aTerm t0] (.tup [.agg [I r.1.fOp, I r.1.fN, .osl (List.map I r.1.fType), .osl (List.map GTerm_O r.1.fKids)], .bool r.2]) []
theorem impl_StepTerm_s : ∀ p r, impl_StepTerm p = some r → M_impl_StepTerm p r := by
 rintro t0 r h
 unfold impl_StepTerm at h
 show FnSound Try.prog 21 [aTerm t0] (.tup [.agg [I r.1.fOp, I r.1.fN, .osl (List.map I r.1.fType), .osl (List.map GTerm_O r.1.fKids)], .bool r.2]) []
 refine FnSound.body0 tiok (fn := Try.f21) (code := B21) (by kernel_rfl) (by kernel_rfl) (by kernel_rfl) (by kernel_rfl) (nt := 18) (by kernel_rfl) (by kernel_rfl) (T := [(0, aTerm t0)]) (O := []) (by kernel_rfl) (by kernel_rfl) (fun c hc => ?_)
 refine sN ?_
 refine rg hc none [some (.new 1), some (.new 2), oN] [(1, .ra 1 0), (2, .ra 2 0)] [(1, bTerm t0), (2, .box [I 0, I 0, .nils, .nils])] trivial ?_
 refine seqQ_norm ?_
 refine sN ?_
 obtain ⟨r_1_1, hr_1_1, h⟩ := bsome h
 refine rg hc none [oN, some (.call (.osl (List.map LI_o r_1_1)) [] 3), oN] [(1, .ra 1 0), (2, .ra 2 0), (4, .rs 3)] [(1, bTerm t0), (2, .box [I 0, I 0, .nils, .nils]), (3, .arr (List.map LI_o r_1_1))] (ai (impl_RedexesOf_s _ _ hr_1_1) (ai bod_51 (ai (oi (.osl (List.map LI_o r_1_1))) trivial))) ?_
 refine seqQ_norm ?_
 refine sN ?_
 refine sN ?_
 refine rg hc none [oN, some (.eqv (.no) ⟨[(8, I (r_1_1.length : Int))], [], []⟩), oN] [(1, .ra 1 0), (2, .ra 2 0), (4, .rs 3), (9, .bool ((r_1_1.length : Int) == 0))] [(1, bTerm t0), (2, .box [I 0, I 0, .nils, .nils]), (3, .arr (List.map LI_o r_1_1))] (ai (lenT (d := 8) LI_o r_1_1) trivial) ?_
 refine seqQ_norm ?_
 rcases itesome h with ⟨hb_1, h⟩ | ⟨hb_1, h⟩
 ·refine cT (((r_1_1.length : Int) == 0)) hb_1 ?_
  refine sN ?_
  refine rg0 hc 3 [(2, .ra 2 0), (3, .bool false)] [(2, .box [I 0, I 0, .nils, .nils])] ?_
  refine seqQ_norm ?_
  refine Wp.retN (by kernel_rfl) ?_
  refine seqQ_ret ?_
  obtain rfl := Option.some.inj h
  exact RetQ.ret (fl := [true, true]) (by kernel_rfl)
 ·refine cF (((r_1_1.length : Int) == 0)) hb_1 ?_
  refine Wp.skipN (by kernel_rfl) ?_
  refine seqQ_norm ?_
  refine sN ?_
  obtain ⟨e_4_x, hx_4_x, h⟩ := bsome h
  refine Wp.view (fun a w hv => SRx.openL 3 (Int.toNat 0) 0 4 [1, 2, 3, 4] (xs := List.map LI_o r_1_1) (ys := List.map I e_4_x) (x0 := .osl (List.map I e_4_x)) hv (by kernel_rfl) (idx_sl (enc := LI_o) (x := .osl (List.map I e_4_x)) hx_4_x (eq_LI_o e_4_x)).2 (by kernel_rfl) (by kernel_rfl) (by kernel_rfl)) (?_ : Wp Try.prog c _ _ (mkS [(1, .ra 1 0), (2, .ra 2 0), (4, .rs 3), (9, .bool ((r_1_1.length : Int) == 0))] [(1, bTerm t0), (2, .box [I 0, I 0, .nils, .nils]), (3, .arx (List.map LI_o r_1_1) (Int.toNat 0) 0 4), (4, .arr (List.map I e_4_x))]))
  obtain ⟨⟨r_4_4_0, r_4_4_1⟩, hr_4_4, h⟩ := bsome h
  refine rg hc (rx [[0], [0], [0, 1], [0, 1, 2], [4], [5], [5], [7], [8]]) [oN, oN, oN, some (.el (.osl (List.map I e_4_x))), some (.call (.tup [qTerm r_4_4_0, .bool r_4_4_1]) [] 5), oN, oN, oN, oN] [(2, .ra 2 0), (3, .bool r_4_4_1)] [(2, .box [I r_4_4_0.fOp, I r_4_4_0.fN, .rs 5, .rs 6]), (5, .arr (List.map I r_4_4_0.fType)), (6, .arr (List.map GTerm_O r_4_4_0.fKids))] (ai (idx_own (enc := LI_o) hx_4_x) (ai (And.intro (idx_sl (enc := LI_o) (x := .osl (List.map I e_4_x)) hx_4_x (eq_LI_o e_4_x)).2 (rfl : Int.toNat 0 = Int.toNat 0)) (ai (FnSound.args (A1 := [aTerm t0, .sl (shares (List.map I e_4_x))]) (A2 := [aTerm t0, sI e_4_x]) (by simp only [sI, sB, aTerm, hTerm, List.map_nil, sh_I]) (impl_ContractAt_s _ _ hr_4_4)) (ai bod_52 (ai (Or.inr (nsh_cons (nsh_cons rfl (nsh_cons rfl (nsh_cons (nsh_row nsh_I r_4_4_0.fType) (nsh_cons (nsh_row nsh_GTerm_O r_4_4_0.fKids) rfl)))) (nsh_cons rfl rfl)) : ([4] : List Nat) = [] ∨ noSh (.tup [qTerm r_4_4_0, .bool r_4_4_1]) = true) trivial))))) ?_
  refine seqQ_norm ?_
  refine Wp.retN (by kernel_rfl) ?_
  obtain rfl := Option.some.inj h
  exact RetQ.ret (fl := [true, true]) (by kernel_rfl)
def impl_NormalForm_F1 (c : Ctx) : (Int × Int × (List Int) × (List GTerm) × Int) ⊕ ((GTerm × Int × Bool)) → Exit → AState → Prop
 | .inl (t_17, t_18, t_19, t_20, n_21) => Into c (.exit 0) (mkS [(2, .ra 1 0), (4, .ra 2 0), (7, I n_21)] [(1, .box [I t_17, I t_18, sI t_19, .sl (List.map GTerm_S t_20)]), (2, .box [I 0, I 0, .nils, .nils])])
 | .inr r => RetE TIx Try.f25 [] (.tup [.agg [I r.1.fOp, I r.1.fN, .osl (List.map I r.1.fType), .osl (List.map GTerm_O r.1.fKids)], I r.2.1, .bool r.2.2])
def impl_NormalForm_l0 (p : Int × Int × Int × (List Int) × (List GTerm) × Int) : Option ((Int × Int × (List Int) × (List GTerm) × Int) ⊕ ((GTerm × Int × Bool))) :=
 match p with
 | (most1, t_8, t_9, t_10, t_11, n_12) =>
  (impl_IsNormal (GTerm.mk t_8 t_9 t_10 t_11)) >>= fun r_4_1 =>
  if r_4_1 = true then
   some (.inl (t_8, t_9, t_10, t_11, n_12))
  else
   (impl_StepTerm (GTerm.mk t_8 t_9 t_10 t_11)) >>= fun (r_5_1_0, r_5_1_1) =>
   (
    if (n_12 == most1) = true then
     some (true)
    else
     some ((!r_5_1_1))
   ) >>= fun v_14 =>
   if v_14 = true then
    some (.inr ((GTerm.mk 0 0 [] []), 0, false))
   else
    impl_NormalForm_l0 (most1, r_5_1_0.fOp, r_5_1_0.fN, r_5_1_0.fType, r_5_1_0.fKids, (wr (n_12 + 1)))
 partial_fixpoint
def M_impl_NormalForm_l0 (p : Int × Int × Int × (List Int) × (List GTerm) × Int) (fl : (Int × Int × (List Int) × (List GTerm) × Int) ⊕ ((GTerm × Int × Bool))) : Prop :=
 match p with
 | (most1, t_8, t_9, t_10, t_11, n_12) => ∀ c : Ctx, c.nt = 41 → WpL Try.prog c (cl (cl (cl (cr (cr (cr B25)))))) (impl_NormalForm_F1 c fl) (mkS [(1, I most1), (2, .ra 1 0), (4, .ra 2 0), (7, I n_12)] [(1, .box [I t_8, I t_9, sI t_10, .sl (List.map GTerm_S t_11)]), (2, .box [I 0, I 0, .nils, .nils])])
theorem impl_NormalForm_l0_s : ∀ p r, impl_NormalForm_l0 p = some r → M_impl_NormalForm_l0 p r := by
 refine impl_NormalForm_l0.partial_correctness M_impl_NormalForm_l0 ?_
 rintro impl_NormalForm_l0_f impl_NormalForm_l0_ih ⟨most1, t_8, t_9, t_10, t_11, n_12⟩ r h
 intro c hc
 show WpL Try.prog c (cl (cl (cl (cr (cr (cr B25)))))) (impl_NormalForm_F1 c r) (mkS [(1, I most1), (2, .ra 1 0), (4, .ra 2 0), (7, I n_12)] [(1, .box [I t_8, I t_9, sI t_10, .sl (List.map GTerm_S t_11)]), (2, .box [I 0, I 0, .nils, .nils])])
 refine WpL.step ?_
 refine sN ?_
 refine sN ?_
 obtain ⟨r_4_1, hr_4_1, h⟩ := bsome h
 refine rg hc none [oN, oc (.bool r_4_1), oN] [(1, I most1), (2, .ra 1 0), (4, .ra 2 0), (7, I n_12), (21, .bool (!r_4_1))] [(1, .box [I t_8, I t_9, sI t_10, .sl (List.map GTerm_S t_11)]), (2, .box [I 0, I 0, .nils, .nils])] (ai (impl_IsNormal_s _ _ hr_4_1) (ai bod_62 (ai (oi (.bool r_4_1)) trivial))) ?_
 refine seqQ_norm ?_
 rcases itesome h with ⟨hb_13, h⟩ | ⟨hb_13, h⟩
 ·refine cF (!r_4_1) (nF hb_13) ?_
  refine Wp.exitN (i := 0) (by kernel_rfl) ?_
  refine seqQ_exit ?_
  refine loopQ_exit ?_
  obtain rfl := Option.some.inj h
  exact Into.view (fun a w hv => SRx.renL [] hv (by kernel_rfl) (by kernel_rfl) (by kernel_rfl))
 ·refine cT (!r_4_1) (nT hb_13) ?_
  refine Wp.skipN (by kernel_rfl) ?_
  refine seqQ_norm ?_
  refine Wp.blockN (i := 1) (by kernel_rfl) ?_
  refine sN ?_
  obtain ⟨⟨r_5_1_0, r_5_1_1⟩, hr_5_1, h⟩ := bsome h
  refine rg hc none [oN, some (.call (.tup [qTerm r_5_1_0, .bool r_5_1_1]) [] 6), oN, oN, oN, some (.new 8), oN, oN] [(1, I most1), (2, .ra 1 0), (4, .ra 2 0), (7, I n_12), (8, .ra 8 0), (9, .bool r_5_1_1)] [(1, .box [I t_8, I t_9, sI t_10, .sl (List.map GTerm_S t_11)]), (2, .box [I 0, I 0, .nils, .nils]), (6, .arr (List.map I r_5_1_0.fType)), (7, .arr (List.map GTerm_O r_5_1_0.fKids)), (8, .box [I r_5_1_0.fOp, I r_5_1_0.fN, .rs 6, .rs 7])] (ai (impl_StepTerm_s _ _ hr_5_1) (ai bod_21 (ai (oi (.tup [qTerm r_5_1_0, .bool r_5_1_1])) trivial))) ?_
  refine seqQ_norm ?_
  refine sN ?_
  refine sN ?_
  obtain ⟨v_14, hj_15, h⟩ := bsome h
  refine Wp.into (x := .normal) (mkS [(1, I most1), (2, .ra 1 0), (4, .ra 2 0), (7, I n_12), (8, .ra 8 0), (33, .bool v_14)] [(1, .box [I t_8, I t_9, sI t_10, .sl (List.map GTerm_S t_11)]), (2, .box [I 0, I 0, .nils, .nils]), (6, .arr (List.map I r_5_1_0.fType)), (7, .arr (List.map GTerm_O r_5_1_0.fKids)), (8, .box [I r_5_1_0.fOp, I r_5_1_0.fN, .rs 6, .rs 7])]) ?_ ?_
  ·replace h := hj_15
   rcases itesome h with ⟨hb_6_0, h⟩ | ⟨hb_6_0, h⟩
   ·refine rg hc none [oN, oN, oN, oN, o_, o_, oT] [(1, I most1), (2, .ra 1 0), (4, .ra 2 0), (7, I n_12), (8, .ra 8 0), (33, .bool true)] [(1, .box [I t_8, I t_9, sI t_10, .sl (List.map GTerm_S t_11)]), (2, .box [I 0, I 0, .nils, .nils]), (6, .arr (List.map I r_5_1_0.fType)), (7, .arr (List.map GTerm_O r_5_1_0.fKids)), (8, .box [I r_5_1_0.fOp, I r_5_1_0.fN, .rs 6, .rs 7])] (ar 2 (neF hb_6_0) (ai hb_6_0 trivial)) ?_
    obtain rfl := Option.some.inj h
    exact Into.mk
   ·refine rg hc none [oN, oN, oN, oN, oN, oN, oF] [(1, I most1), (2, .ra 1 0), (4, .ra 2 0), (7, I n_12), (8, .ra 8 0), (33, .bool (!r_5_1_1))] [(1, .box [I t_8, I t_9, sI t_10, .sl (List.map GTerm_S t_11)]), (2, .box [I 0, I 0, .nils, .nils]), (6, .arr (List.map I r_5_1_0.fType)), (7, .arr (List.map GTerm_O r_5_1_0.fKids)), (8, .box [I r_5_1_0.fOp, I r_5_1_0.fN, .rs 6, .rs 7])] (ar 3 hb_6_0 trivial) ?_
    obtain rfl := Option.some.inj h
    exact Into.mk
  ·clear hj_15
   refine seqQ_norm ?_
   rcases itesome h with ⟨hb_16, h⟩ | ⟨hb_16, h⟩
   ·refine cT v_14 hb_16 ?_
    refine sN ?_
    refine rg0 hc 4 [(4, .ra 2 0), (5, I 0), (6, .bool false)] [(2, .box [I 0, I 0, .nils, .nils])] ?_
    refine seqQ_norm ?_
    refine Wp.retN (by kernel_rfl) ?_
    refine seqQ_ret ?_
    refine blockQ_ret ?_
    refine loopQ_ret ?_
    obtain rfl := Option.some.inj h
    exact RetE.ret (fl := [true, true, true]) (by kernel_rfl)
   ·refine cF v_14 hb_16 ?_
    refine Wp.skipN (by kernel_rfl) ?_
    refine seqQ_norm ?_
    refine sN ?_
    refine rg0 hc 2 [(1, I most1), (2, .ra 1 0), (4, .ra 2 0), (7, I n_12)] [(1, .box [I r_5_1_0.fOp, I r_5_1_0.fN, .rs 6, .rs 7]), (2, .box [I 0, I 0, .nils, .nils]), (6, .arr (List.map I r_5_1_0.fType)), (7, .arr (List.map GTerm_O r_5_1_0.fKids))] ?_
    refine seqQ_norm ?_
    refine rg0 hc 3 [(1, I most1), (2, .ra 1 0), (4, .ra 2 0), (7, I (wr (n_12 + 1)))] [(1, .box [I r_5_1_0.fOp, I r_5_1_0.fN, .rs 6, .rs 7]), (2, .box [I 0, I 0, .nils, .nils]), (6, .arr (List.map I r_5_1_0.fType)), (7, .arr (List.map GTerm_O r_5_1_0.fKids))] ?_
    refine blockQ_norm ?_
    refine loopQ_norm ?_
    exact WpL.view (fun a w hv => SRx.renL [] (SRx.frzC 7 (xs := List.map GTerm_O r_5_1_0.fKids) (xs' := List.map GTerm_S r_5_1_0.fKids) (SRx.frzC 6 (xs := List.map I r_5_1_0.fType) (xs' := List.map I r_5_1_0.fType) hv (by kernel_rfl) (sh_I _)) (by kernel_rfl) (sh_GTerm_O _)) (by kernel_rfl) (by kernel_rfl) (by kernel_rfl)) (impl_NormalForm_l0_ih _ _ h c hc)
def impl_NormalForm (p : GTerm × Int) : Option (GTerm × Int × Bool) :=
 match p with
 | (t0, most1) =>
  (
   (impl_IsWritten t0) >>= fun r_1_1 =>
   if r_1_1 = true then
    (impl_within (most1, 0, 300)) >>= fun r_1_5 =>
    some ((!r_1_5))
   else
    some (true)
  ) >>= fun v_1 =>
  if v_1 = true then
   some ((GTerm.mk 0 0 [] []), 0, false)
  else
   (impl_NormalForm_l0 (most1, t0.fOp, t0.fN, t0.fType, t0.fKids, 0)) >>= fun fl => match fl with
   | .inl (t_17, t_18, t_19, t_20, n_21) =>
    (impl_copyTerm (GTerm.mk t_17 t_18 t_19 t_20)) >>= fun r_10_1 =>
    some (r_10_1, n_21, true)
   | .inr r =>
    some r
def M_impl_NormalForm (p : GTerm × Int) (r : GTerm × Int × Bool) : Prop :=
 match p with
 | (t0, most1) => FnSound Try.prog 25 [aTerm t0, I most1] (.tup [.agg [I r.1.fOp, I r.1.fN, .osl (List.map I r.1.fType), .osl (List.map GTerm_O r.1.fKids)], I r.2.1, .bool r.2.2]) []
theorem impl_NormalForm_s : ∀ p r, impl_NormalForm p = some r → M_impl_NormalForm p r := by
 rintro ⟨t0, most1⟩ r h
 unfold impl_NormalForm at h
 show FnSound Try.prog 25 [aTerm t0, I most1] (.tup [.agg [I r.1.fOp, I r.1.fN, .osl (List.map I r.1.fType), .osl (List.map GTerm_O r.1.fKids)], I r.2.1, .bool r.2.2]) []
 refine FnSound.body0 tiok (fn := Try.f25) (code := B25) (by kernel_rfl) (by kernel_rfl) (by kernel_rfl) (by kernel_rfl) (nt := 41) (by kernel_rfl) (by kernel_rfl) (T := [(0, aTerm t0), (1, I most1)]) (O := []) (by kernel_rfl) (by kernel_rfl) (fun c hc => ?_)
 refine sN ?_
 refine rg hc none [some (.new 1), some (.new 2), oN, oN] [(1, I most1), (2, .ra 1 0), (4, .ra 2 0)] [(1, bTerm t0), (2, .box [I 0, I 0, .nils, .nils])] trivial ?_
 refine seqQ_norm ?_
 refine sN ?_
 refine sN ?_
 obtain ⟨v_1, hj_2, h⟩ := bsome h
 refine Wp.into (x := .normal) (mkS [(1, I most1), (2, .ra 1 0), (4, .ra 2 0), (17, .bool v_1)] [(1, bTerm t0), (2, .box [I 0, I 0, .nils, .nils])]) ?_ ?_
 ·replace h := hj_2
  obtain ⟨r_1_1, hr_1_1, h⟩ := bsome h
  rcases itesome h with ⟨hb_1_0, h⟩ | ⟨hb_1_0, h⟩
  ·obtain ⟨r_1_5, hr_1_5, h⟩ := bsome h
   refine rg hc none [oN, oc (.bool r_1_1), oN, oN, oN, oc (.bool r_1_5), oN, oF] [(1, I most1), (2, .ra 1 0), (4, .ra 2 0), (17, .bool (!r_1_5))] [(1, bTerm t0), (2, .box [I 0, I 0, .nils, .nils])] (ai (impl_IsWritten_s _ _ hr_1_1) (ai bod_60 (ai (oi (.bool r_1_1)) (ar 2 (nF hb_1_0) (ai (impl_within_s _ _ hr_1_5) (ai bod_61 (ai (oi (.bool r_1_5)) (ar 2 (nF hb_1_0) trivial)))))))) ?_
   obtain rfl := Option.some.inj h
   exact Into.mk
  ·refine rg hc none [oN, oc (.bool r_1_1), oN, oN, o_, o_, o_, oT] [(1, I most1), (2, .ra 1 0), (4, .ra 2 0), (17, .bool true)] [(1, bTerm t0), (2, .box [I 0, I 0, .nils, .nils])] (ai (impl_IsWritten_s _ _ hr_1_1) (ai bod_60 (ai (oi (.bool r_1_1)) (ar 3 (neF (nT hb_1_0)) (ai (nT hb_1_0) trivial))))) ?_
   obtain rfl := Option.some.inj h
   exact Into.mk
 ·clear hj_2
  refine seqQ_norm ?_
  rcases itesome h with ⟨hb_3, h⟩ | ⟨hb_3, h⟩
  ·refine cT v_1 hb_3 ?_
   refine sN ?_
   refine rg0 hc 4 [(4, .ra 2 0), (5, I 0), (6, .bool false)] [(2, .box [I 0, I 0, .nils, .nils])] ?_
   refine seqQ_norm ?_
   refine Wp.retN (by kernel_rfl) ?_
   refine seqQ_ret ?_
   obtain rfl := Option.some.inj h
   exact RetQ.ret (fl := [true, true, true]) (by kernel_rfl)
  ·refine cF v_1 hb_3 ?_
   refine Wp.skipN (by kernel_rfl) ?_
   refine seqQ_norm ?_
   refine sN ?_
   refine rg0 hc 1 [(1, I most1), (2, .ra 1 0), (4, .ra 2 0), (7, I 0)] [(1, bTerm t0), (2, .box [I 0, I 0, .nils, .nils])] ?_
   refine seqQ_norm ?_
   refine sN ?_
   refine Wp.blockN (i := 0) (by kernel_rfl) ?_
   obtain ⟨fl, hl_22, h⟩ := bsome h
   have hL := impl_NormalForm_l0_s _ _ hl_22 c hc
   refine Wp.loopN (by kernel_rfl) ?_
   rcases fl with ⟨t_17, t_18, t_19, t_20, n_21⟩ | r
   ·refine WpL.into (e := (.exit 0)) (mkS [(2, .ra 1 0), (4, .ra 2 0), (7, I n_21)] [(1, .box [I t_17, I t_18, sI t_19, .sl (List.map GTerm_S t_20)]), (2, .box [I 0, I 0, .nils, .nils])]) hL ?_
    refine blockQ_hit ?_
    refine seqQ_norm ?_
    refine sN ?_
    obtain ⟨r_10_1, hr_10_1, h⟩ := bsome h
    refine rg hc none [oN, some (.call (qTerm r_10_1) [] 9), oN, oN, oN, oN] [(4, .ra 2 0), (5, I n_21), (6, .bool true)] [(2, .box [I r_10_1.fOp, I r_10_1.fN, .rs 9, .rs 10]), (9, .arr (List.map I r_10_1.fType)), (10, .arr (List.map GTerm_O r_10_1.fKids))] (ai (impl_copyTerm_s _ _ hr_10_1) (ai bod_63 (ai (oi (qTerm r_10_1)) trivial))) ?_
    refine seqQ_norm ?_
    refine Wp.retN (by kernel_rfl) ?_
    obtain rfl := Option.some.inj h
    exact RetQ.ret (fl := [true, true, true]) (by kernel_rfl)
   ·refine WpL.mono hL ?_
    rintro _ _ ⟨rfl, hfin⟩
    refine blockQ_ret ?_
    refine seqQ_ret ?_
    obtain rfl := Option.some.inj h
    exact ⟨.inl rfl, hfin⟩
def laws_eqIntS_F1 (c : Ctx) : (Unit) ⊕ (Bool) → Exit → AState → Prop
 | .inl _ => Into c (.exit 0) (mkS [] [])
 | .inr r => RetE TIx Try.f16 [] (.bool r)
def laws_eqIntS_l0 (p : (List Int) × (List Int) × Int) : Option ((Unit) ⊕ (Bool)) :=
 match p with
 | (a0, b1, i_4) =>
  if (decide (i_4 < (a0.length : Int))) = true then
   (idx a0 i_4) >>= fun e_6_2 =>
   (idx b1 i_4) >>= fun e_6_6 =>
   if (e_6_2 != e_6_6) = true then
    some (.inr false)
   else
    laws_eqIntS_l0 (a0, b1, (wr (i_4 + 1)))
  else
   some (.inl ())
 partial_fixpoint
def M_laws_eqIntS_l0 (p : (List Int) × (List Int) × Int) (fl : (Unit) ⊕ (Bool)) : Prop :=
 match p with
 | (a0, b1, i_4) => ∀ c : Ctx, c.nt = 26 → WpL Try.prog c (cl (cl (cr (cl (cr (cr B16)))))) (laws_eqIntS_F1 c fl) (mkS [(0, sI a0), (1, sI b1), (5, I i_4)] [])
theorem laws_eqIntS_l0_s : ∀ p r, laws_eqIntS_l0 p = some r → M_laws_eqIntS_l0 p r := by
 refine laws_eqIntS_l0.partial_correctness M_laws_eqIntS_l0 ?_
 rintro laws_eqIntS_l0_f laws_eqIntS_l0_ih ⟨a0, b1, i_4⟩ r h
 intro c hc
 show WpL Try.prog c (cl (cl (cr (cl (cr (cr B16)))))) (laws_eqIntS_F1 c r) (mkS [(0, sI a0), (1, sI b1), (5, I i_4)] [])
 refine WpL.step ?_
 refine sN ?_
 refine sN ?_
 refine rg hc none [oN, oN, some (.eqv (.no) ⟨[(13, I (a0.length : Int))], [], []⟩), oN] [(0, sI a0), (1, sI b1), (5, I i_4), (14, .bool (decide (i_4 < (a0.length : Int))))] [] (ai (lenT (d := 13) I a0) trivial) ?_
 refine seqQ_norm ?_
 rcases itesome h with ⟨hb_5, h⟩ | ⟨hb_5, h⟩
 ·refine cT ((decide (i_4 < (a0.length : Int)))) hb_5 ?_
  refine Wp.skipN (by kernel_rfl) ?_
  refine seqQ_norm ?_
  refine sN ?_
  refine Wp.blockN (i := 1) (by kernel_rfl) ?_
  refine sN ?_
  obtain ⟨e_6_2, hi_6_2, h⟩ := bsome h
  obtain ⟨e_6_6, hi_6_6, h⟩ := bsome h
  refine rg hc (rx [[0], [0], [2], [3], [0], [0], [0, 4, 5], [0, 4, 5, 6], [8]]) [oN, oN, some (.el (I e_6_2)), oN, oN, oN, some (.el (I e_6_6)), oN, oN] [(0, sI a0), (1, sI b1), (5, I i_4), (25, .bool (e_6_2 != e_6_6))] [] (ai (ix hi_6_2) (ai (ix hi_6_6) trivial)) ?_
  refine seqQ_norm ?_
  rcases itesome h with ⟨hb_6, h⟩ | ⟨hb_6, h⟩
  ·refine cT ((e_6_2 != e_6_6)) hb_6 ?_
   refine sN ?_
   refine rg0 hc 1 [(4, .bool false)] [] ?_
   refine seqQ_norm ?_
   refine Wp.retN (by kernel_rfl) ?_
   refine blockQ_ret ?_
   refine seqQ_ret ?_
   refine loopQ_ret ?_
   obtain rfl := Option.some.inj h
   exact RetE.ret (fl := [true]) (by kernel_rfl)
  ·refine cF ((e_6_2 != e_6_6)) hb_6 ?_
   refine Wp.skipN (by kernel_rfl) ?_
   refine blockQ_norm ?_
   refine seqQ_norm ?_
   refine rg0 hc 3 [(0, sI a0), (1, sI b1), (5, I (wr (i_4 + 1)))] [] ?_
   refine loopQ_norm ?_
   exact (laws_eqIntS_l0_ih _ _ h c hc)
 ·refine cF ((decide (i_4 < (a0.length : Int)))) hb_5 ?_
  refine Wp.exitN (i := 0) (by kernel_rfl) ?_
  refine seqQ_exit ?_
  refine loopQ_exit ?_
  obtain rfl := Option.some.inj h
  exact Into.view (fun a w hv => SRx.renL [] hv (by kernel_rfl) (by kernel_rfl) (by kernel_rfl))
def laws_eqIntS (p : (List Int) × (List Int)) : Option (Bool) :=
 match p with
 | (a0, b1) =>
  if ((a0.length : Int) != (b1.length : Int)) = true then
   some false
  else
   (laws_eqIntS_l0 (a0, b1, 0)) >>= fun fl => match fl with
   | .inl () =>
    some true
   | .inr r =>
    some r
def M_laws_eqIntS (p : (List Int) × (List Int)) (r : Bool) : Prop :=
 match p with
 | (a0, b1) => FnSound Try.prog 16 [sI a0, sI b1] (.bool r) []
theorem laws_eqIntS_s : ∀ p r, laws_eqIntS p = some r → M_laws_eqIntS p r := by
 rintro ⟨a0, b1⟩ r h
 unfold laws_eqIntS at h
 show FnSound Try.prog 16 [sI a0, sI b1] (.bool r) []
 refine FnSound.body0 tiok (fn := Try.f16) (code := B16) (by kernel_rfl) (by kernel_rfl) (by kernel_rfl) (by kernel_rfl) (nt := 26) (by kernel_rfl) (by kernel_rfl) (T := [(0, sI a0), (1, sI b1)]) (O := []) (by kernel_rfl) (by kernel_rfl) (fun c hc => ?_)
 refine sN ?_
 refine rg0 hc 1 [(0, sI a0), (1, sI b1)] [] ?_
 refine seqQ_norm ?_
 refine sN ?_
 refine sN ?_
 refine rg hc none [oN, some (.eqv (.no) ⟨[(7, I (a0.length : Int))], [], []⟩), oN, some (.eqv (.no) ⟨[(9, I (b1.length : Int))], [], []⟩), oN] [(0, sI a0), (1, sI b1), (10, .bool ((a0.length : Int) != (b1.length : Int)))] [] (ai (lenT (d := 7) I a0) (ai (lenT (d := 9) I b1) trivial)) ?_
 refine seqQ_norm ?_
 rcases itesome h with ⟨hb_1, h⟩ | ⟨hb_1, h⟩
 ·refine cT (((a0.length : Int) != (b1.length : Int))) hb_1 ?_
  refine sN ?_
  refine rg0 hc 1 [(4, .bool false)] [] ?_
  refine seqQ_norm ?_
  refine Wp.retN (by kernel_rfl) ?_
  refine seqQ_ret ?_
  obtain rfl := Option.some.inj h
  exact RetQ.ret (fl := [true]) (by kernel_rfl)
 ·refine cF (((a0.length : Int) != (b1.length : Int))) hb_1 ?_
  refine Wp.skipN (by kernel_rfl) ?_
  refine seqQ_norm ?_
  refine sN ?_
  refine sN ?_
  refine rg0 hc 1 [(0, sI a0), (1, sI b1), (5, I 0)] [] ?_
  refine seqQ_norm ?_
  refine Wp.blockN (i := 0) (by kernel_rfl) ?_
  obtain ⟨fl, hl_7, h⟩ := bsome h
  have hL := laws_eqIntS_l0_s _ _ hl_7 c hc
  refine Wp.loopN (by kernel_rfl) ?_
  rcases fl with ⟨⟩ | r
  ·refine WpL.into (e := (.exit 0)) (mkS [] []) hL ?_
   refine blockQ_hit ?_
   refine seqQ_norm ?_
   refine sN ?_
   refine rg0 hc 1 [(4, .bool true)] [] ?_
   refine seqQ_norm ?_
   refine Wp.retN (by kernel_rfl) ?_
   obtain rfl := Option.some.inj h
   exact RetQ.ret (fl := [true]) (by kernel_rfl)
  ·refine WpL.mono hL ?_
   rintro _ _ ⟨rfl, hfin⟩
   refine blockQ_ret ?_
   refine seqQ_ret ?_
   obtain rfl := Option.some.inj h
   exact ⟨.inl rfl, hfin⟩
def laws_eqTermS_F1 (c : Ctx) : (Unit) ⊕ (Bool) → Exit → AState → Prop
 | .inl _ => Into c (.exit 0) (mkS [] [])
 | .inr r => RetE TIx Try.f43 [] (.bool r)
mutual
def laws_eqTerm (p : GTerm × GTerm) : Option (Bool) :=
 match p with
 | (a0, b1) =>
  if (a0.fOp != b1.fOp) = true then
   some false
  else
   if (a0.fN != b1.fN) = true then
    some false
   else
    (laws_eqIntS (a0.fType, b1.fType)) >>= fun r_5_4 =>
    if r_5_4 = true then
     (laws_eqTermS (a0.fKids, b1.fKids)) >>= fun r_7_4 =>
     if r_7_4 = true then
      some true
     else
      some false
    else
     some false
 partial_fixpoint
def laws_eqTermS (p : (List GTerm) × (List GTerm)) : Option (Bool) :=
 match p with
 | (a0, b1) =>
  if ((a0.length : Int) != (b1.length : Int)) = true then
   some false
  else
   (laws_eqTermS_l0 (a0, b1, 0)) >>= fun fl => match fl with
   | .inl () =>
    some true
   | .inr r =>
    some r
 partial_fixpoint
def laws_eqTermS_l0 (p : (List GTerm) × (List GTerm) × Int) : Option ((Unit) ⊕ (Bool)) :=
 match p with
 | (a0, b1, i_4) =>
  if (decide (i_4 < (a0.length : Int))) = true then
   (idx a0 i_4) >>= fun e_6_2 =>
   (idx b1 i_4) >>= fun e_6_6 =>
   (laws_eqTerm (e_6_2, e_6_6)) >>= fun r_6_8 =>
   if r_6_8 = true then
    laws_eqTermS_l0 (a0, b1, (wr (i_4 + 1)))
   else
    some (.inr false)
  else
   some (.inl ())
 partial_fixpoint
end
def M_laws_eqTerm (p : GTerm × GTerm) (r : Bool) : Prop :=
 match p with
 | (a0, b1) => FnSound Try.prog 17 [aTerm a0, aTerm b1] (.bool r) []
def M_laws_eqTermS (p : (List GTerm) × (List GTerm)) (r : Bool) : Prop :=
 match p with
 | (a0, b1) => FnSound Try.prog 43 [.sl (List.map GTerm_S a0), .sl (List.map GTerm_S b1)] (.bool r) []
def M_laws_eqTermS_l0 (p : (List GTerm) × (List GTerm) × Int) (fl : (Unit) ⊕ (Bool)) : Prop :=
 match p with
 | (a0, b1, i_4) => ∀ c : Ctx, c.nt = 27 → WpL Try.prog c (cl (cl (cr (cl (cr (cr B43)))))) (laws_eqTermS_F1 c fl) (mkS [(0, .sl (List.map GTerm_S a0)), (1, .sl (List.map GTerm_S b1)), (5, I i_4)] [])
theorem laws_eqTerm_all : (∀ p r, laws_eqTerm p = some r → M_laws_eqTerm p r) ∧ (∀ p r, laws_eqTermS p = some r → M_laws_eqTermS p r) ∧ (∀ p r, laws_eqTermS_l0 p = some r → M_laws_eqTermS_l0 p r) := by
 refine laws_eqTerm.mutual_partial_correctness M_laws_eqTerm M_laws_eqTermS M_laws_eqTermS_l0 ?_ ?_ ?_
 ·rintro laws_eqTermS_f laws_eqTermS_ih ⟨a0, b1⟩ r h
  show FnSound Try.prog 17 [aTerm a0, aTerm b1] (.bool r) []
  refine FnSound.body0 tiok (fn := Try.f17) (code := B17) (by kernel_rfl) (by kernel_rfl) (by kernel_rfl) (by kernel_rfl) (nt := 27) (by kernel_rfl) (by kernel_rfl) (T := [(0, aTerm a0), (1, aTerm b1)]) (O := []) (by kernel_rfl) (by kernel_rfl) (fun c hc => ?_)
  refine sN ?_
  refine rg hc none [some (.new 1), some (.new 2), oN] [(2, .ra 1 0), (3, .ra 2 0)] [(1, bTerm a0), (2, bTerm b1)] trivial ?_
  refine seqQ_norm ?_
  refine sN ?_
  refine sN ?_
  refine rg0 hc 5 [(2, .ra 1 0), (3, .ra 2 0), (9, .bool (a0.fOp != b1.fOp))] [(1, bTerm a0), (2, bTerm b1)] ?_
  refine seqQ_norm ?_
  rcases itesome h with ⟨hb_1, h⟩ | ⟨hb_1, h⟩
  ·refine cT ((a0.fOp != b1.fOp)) hb_1 ?_
   refine sN ?_
   refine rg0 hc 1 [(4, .bool false)] [] ?_
   refine seqQ_norm ?_
   refine Wp.retN (by kernel_rfl) ?_
   refine seqQ_ret ?_
   obtain rfl := Option.some.inj h
   exact RetQ.ret (fl := [true]) (by kernel_rfl)
  ·refine cF ((a0.fOp != b1.fOp)) hb_1 ?_
   refine Wp.skipN (by kernel_rfl) ?_
   refine seqQ_norm ?_
   refine sN ?_
   refine sN ?_
   refine rg0 hc 5 [(2, .ra 1 0), (3, .ra 2 0), (14, .bool (a0.fN != b1.fN))] [(1, bTerm a0), (2, bTerm b1)] ?_
   refine seqQ_norm ?_
   rcases itesome h with ⟨hb_2, h⟩ | ⟨hb_2, h⟩
   ·refine cT ((a0.fN != b1.fN)) hb_2 ?_
    refine sN ?_
    refine rg0 hc 1 [(4, .bool false)] [] ?_
    refine seqQ_norm ?_
    refine Wp.retN (by kernel_rfl) ?_
    refine seqQ_ret ?_
    obtain rfl := Option.some.inj h
    exact RetQ.ret (fl := [true]) (by kernel_rfl)
   ·refine cF ((a0.fN != b1.fN)) hb_2 ?_
    refine Wp.skipN (by kernel_rfl) ?_
    refine seqQ_norm ?_
    refine sN ?_
    refine sN ?_
    obtain ⟨r_5_4, hr_5_4, h⟩ := bsome h
    refine rg hc none [oN, oN, oN, oN, oc (.bool r_5_4), oN] [(2, .ra 1 0), (3, .ra 2 0), (20, .bool (!r_5_4))] [(1, bTerm a0), (2, bTerm b1)] (ai (laws_eqIntS_s _ _ hr_5_4) (ai bod_16 (ai (oi (.bool r_5_4)) trivial))) ?_
    refine seqQ_norm ?_
    rcases itesome h with ⟨hb_3, h⟩ | ⟨hb_3, h⟩
    ·refine cF (!r_5_4) (nF hb_3) ?_
     refine Wp.skipN (by kernel_rfl) ?_
     refine seqQ_norm ?_
     refine sN ?_
     refine sN ?_
     obtain ⟨r_7_4, hr_7_4, h⟩ := bsome h
     refine rg hc none [oN, oN, oN, oN, oc (.bool r_7_4), oN] [(26, .bool (!r_7_4))] [] (ai (laws_eqTermS_ih _ _ hr_7_4) (ai bod_43 (ai (oi (.bool r_7_4)) trivial))) ?_
     refine seqQ_norm ?_
     rcases itesome h with ⟨hb_4, h⟩ | ⟨hb_4, h⟩
     ·refine cF (!r_7_4) (nF hb_4) ?_
      refine Wp.skipN (by kernel_rfl) ?_
      refine seqQ_norm ?_
      refine sN ?_
      refine rg0 hc 1 [(4, .bool true)] [] ?_
      refine seqQ_norm ?_
      refine Wp.retN (by kernel_rfl) ?_
      obtain rfl := Option.some.inj h
      exact RetQ.ret (fl := [true]) (by kernel_rfl)
     ·refine cT (!r_7_4) (nT hb_4) ?_
      refine sN ?_
      refine rg0 hc 1 [(4, .bool false)] [] ?_
      refine seqQ_norm ?_
      refine Wp.retN (by kernel_rfl) ?_
      refine seqQ_ret ?_
      obtain rfl := Option.some.inj h
      exact RetQ.ret (fl := [true]) (by kernel_rfl)
    ·refine cT (!r_5_4) (nT hb_3) ?_
     refine sN ?_
     refine rg0 hc 1 [(4, .bool false)] [] ?_
     refine seqQ_norm ?_
     refine Wp.retN (by kernel_rfl) ?_
     refine seqQ_ret ?_
     obtain rfl := Option.some.inj h
     exact RetQ.ret (fl := [true]) (by kernel_rfl)
 ·rintro laws_eqTermS_l0_f laws_eqTermS_l0_ih ⟨a0, b1⟩ r h
  show FnSound Try.prog 43 [.sl (List.map GTerm_S a0), .sl (List.map GTerm_S b1)] (.bool r) []
  refine FnSound.body0 tiok (fn := Try.f43) (code := B43) (by kernel_rfl) (by kernel_rfl) (by kernel_rfl) (by kernel_rfl) (nt := 27) (by kernel_rfl) (by kernel_rfl) (T := [(0, .sl (List.map GTerm_S a0)), (1, .sl (List.map GTerm_S b1))]) (O := []) (by kernel_rfl) (by kernel_rfl) (fun c hc => ?_)
  refine sN ?_
  refine rg0 hc 1 [(0, .sl (List.map GTerm_S a0)), (1, .sl (List.map GTerm_S b1))] [] ?_
  refine seqQ_norm ?_
  refine sN ?_
  refine sN ?_
  refine rg hc none [oN, some (.eqv (.no) ⟨[(7, I (a0.length : Int))], [], []⟩), oN, some (.eqv (.no) ⟨[(9, I (b1.length : Int))], [], []⟩), oN] [(0, .sl (List.map GTerm_S a0)), (1, .sl (List.map GTerm_S b1)), (10, .bool ((a0.length : Int) != (b1.length : Int)))] [] (ai (lenT (d := 7) GTerm_S a0) (ai (lenT (d := 9) GTerm_S b1) trivial)) ?_
  refine seqQ_norm ?_
  rcases itesome h with ⟨hb_1, h⟩ | ⟨hb_1, h⟩
  ·refine cT (((a0.length : Int) != (b1.length : Int))) hb_1 ?_
   refine sN ?_
   refine rg0 hc 1 [(4, .bool false)] [] ?_
   refine seqQ_norm ?_
   refine Wp.retN (by kernel_rfl) ?_
   refine seqQ_ret ?_
   obtain rfl := Option.some.inj h
   exact RetQ.ret (fl := [true]) (by kernel_rfl)
  ·refine cF (((a0.length : Int) != (b1.length : Int))) hb_1 ?_
   refine Wp.skipN (by kernel_rfl) ?_
   refine seqQ_norm ?_
   refine sN ?_
   refine sN ?_
   refine rg0 hc 1 [(0, .sl (List.map GTerm_S a0)), (1, .sl (List.map GTerm_S b1)), (5, I 0)] [] ?_
   refine seqQ_norm ?_
   refine Wp.blockN (i := 0) (by kernel_rfl) ?_
   obtain ⟨fl, hl_7, h⟩ := bsome h
   have hL := laws_eqTermS_l0_ih _ _ hl_7 c hc
   refine Wp.loopN (by kernel_rfl) ?_
   rcases fl with ⟨⟩ | r
   ·refine WpL.into (e := (.exit 0)) (mkS [] []) hL ?_
    refine blockQ_hit ?_
    refine seqQ_norm ?_
    refine sN ?_
    refine rg0 hc 1 [(4, .bool true)] [] ?_
    refine seqQ_norm ?_
    refine Wp.retN (by kernel_rfl) ?_
    obtain rfl := Option.some.inj h
    exact RetQ.ret (fl := [true]) (by kernel_rfl)
   ·refine WpL.mono hL ?_
    rintro _ _ ⟨rfl, hfin⟩
    refine blockQ_ret ?_
    refine seqQ_ret ?_
    obtain rfl := Option.some.inj h
    exact ⟨.inl rfl, hfin⟩
 ·rintro laws_eqTerm_f laws_eqTermS_l0_f laws_eqTerm_ih laws_eqTermS_l0_ih ⟨a0, b1, i_4⟩ r h
  intro c hc
  show WpL Try.prog c (cl (cl (cr (cl (cr (cr B43)))))) (laws_eqTermS_F1 c r) (mkS [(0, .sl (List.map GTerm_S a0)), (1, .sl (List.map GTerm_S b1)), (5, I i_4)] [])
  refine WpL.step ?_
  refine sN ?_
  refine sN ?_
  refine rg hc none [oN, oN, some (.eqv (.no) ⟨[(13, I (a0.length : Int))], [], []⟩), oN] [(0, .sl (List.map GTerm_S a0)), (1, .sl (List.map GTerm_S b1)), (5, I i_4), (14, .bool (decide (i_4 < (a0.length : Int))))] [] (ai (lenT (d := 13) GTerm_S a0) trivial) ?_
  refine seqQ_norm ?_
  rcases itesome h with ⟨hb_5, h⟩ | ⟨hb_5, h⟩
  ·refine cT ((decide (i_4 < (a0.length : Int)))) hb_5 ?_
   refine Wp.skipN (by kernel_rfl) ?_
   refine seqQ_norm ?_
   refine sN ?_
   refine Wp.blockN (i := 1) (by kernel_rfl) ?_
   refine sN ?_
   obtain ⟨e_6_2, hi_6_2, h⟩ := bsome h
   obtain ⟨e_6_6, hi_6_6, h⟩ := bsome h
   obtain ⟨r_6_8, hr_6_8, h⟩ := bsome h
   refine rg hc (rx [[0], [0], [2], [3], [0], [0], [0, 4, 5], [0, 4, 5, 6], [8], [9]]) [oN, oN, some (.el (aTerm e_6_2)), oN, oN, oN, some (.el (aTerm e_6_6)), oN, oc (.bool r_6_8), oN] [(0, .sl (List.map GTerm_S a0)), (1, .sl (List.map GTerm_S b1)), (5, I i_4), (26, .bool (!r_6_8))] [] (ai (idx_sl (enc := GTerm_S) (x := aTerm e_6_2) hi_6_2 (eq_GTerm_S e_6_2)) (ai (idx_sl (enc := GTerm_S) (x := aTerm e_6_6) hi_6_6 (eq_GTerm_S e_6_6)) (ai (laws_eqTerm_ih _ _ hr_6_8) (ai bod_17 (ai (oi (.bool r_6_8)) trivial))))) ?_
   refine seqQ_norm ?_
   rcases itesome h with ⟨hb_6, h⟩ | ⟨hb_6, h⟩
   ·refine cF (!r_6_8) (nF hb_6) ?_
    refine Wp.skipN (by kernel_rfl) ?_
    refine blockQ_norm ?_
    refine seqQ_norm ?_
    refine rg0 hc 3 [(0, .sl (List.map GTerm_S a0)), (1, .sl (List.map GTerm_S b1)), (5, I (wr (i_4 + 1)))] [] ?_
    refine loopQ_norm ?_
    exact (laws_eqTermS_l0_ih _ _ h c hc)
   ·refine cT (!r_6_8) (nT hb_6) ?_
    refine sN ?_
    refine rg0 hc 1 [(4, .bool false)] [] ?_
    refine seqQ_norm ?_
    refine Wp.retN (by kernel_rfl) ?_
    refine blockQ_ret ?_
    refine seqQ_ret ?_
    refine loopQ_ret ?_
    obtain rfl := Option.some.inj h
    exact RetE.ret (fl := [true]) (by kernel_rfl)
  ·refine cF ((decide (i_4 < (a0.length : Int)))) hb_5 ?_
   refine Wp.exitN (i := 0) (by kernel_rfl) ?_
   refine seqQ_exit ?_
   refine loopQ_exit ?_
   obtain rfl := Option.some.inj h
   exact Into.view (fun a w hv => SRx.renL [] hv (by kernel_rfl) (by kernel_rfl) (by kernel_rfl))
theorem laws_eqTerm_s : ∀ p r, laws_eqTerm p = some r → M_laws_eqTerm p r := laws_eqTerm_all.1
theorem laws_eqTermS_s : ∀ p r, laws_eqTermS p = some r → M_laws_eqTermS p r := laws_eqTerm_all.2.1
theorem laws_eqTermS_l0_s : ∀ p r, laws_eqTermS_l0 p = some r → M_laws_eqTermS_l0 p r := laws_eqTerm_all.2.2
def laws_markIntS_F1 (c : Ctx) : Int × (List Int) → Exit → AState → Prop
 | (k_6, x_7) => Into c (.exit 0) (mkS [(1, I k_6)] [(1000, .arr (List.map I x_7))])
def laws_markIntS_l0 (p : (List Int) × Int × Int) : Option (Int × (List Int)) :=
 match p with
 | (a_2, k_3, i_4) =>
  if (decide (i_4 < (a_2.length : Int))) = true then
   (idx a_2 i_4) >>= fun e_4_3 =>
   laws_markIntS_l0 ((List.set a_2 (Int.toNat i_4) k_3), (wr (k_3 + 1)), (wr (i_4 + 1)))
  else
   some ((k_3, a_2))
 partial_fixpoint
def M_laws_markIntS_l0 (p : (List Int) × Int × Int) (fl : Int × (List Int)) : Prop :=
 match p with
 | (a_2, k_3, i_4) => ∀ c : Ctx, c.nt = 19 → WpL Try.prog c (cl (cl (cr (cl (cr B29))))) (laws_markIntS_F1 c fl) (mkS [(0, .rs 1000), (1, I k_3), (5, I i_4)] [(1000, .arr (List.map I a_2))])
theorem laws_markIntS_l0_s : ∀ p r, laws_markIntS_l0 p = some r → M_laws_markIntS_l0 p r := by
 refine laws_markIntS_l0.partial_correctness M_laws_markIntS_l0 ?_
 rintro laws_markIntS_l0_f laws_markIntS_l0_ih ⟨a_2, k_3, i_4⟩ r h
 intro c hc
 show WpL Try.prog c (cl (cl (cr (cl (cr B29))))) (laws_markIntS_F1 c r) (mkS [(0, .rs 1000), (1, I k_3), (5, I i_4)] [(1000, .arr (List.map I a_2))])
 refine WpL.step ?_
 refine sN ?_
 refine sN ?_
 refine rg hc none [oN, oN, some (.eqv (.no) ⟨[(8, I (a_2.length : Int))], [], []⟩), oN] [(0, .rs 1000), (1, I k_3), (5, I i_4), (9, .bool (decide (i_4 < (a_2.length : Int))))] [(1000, .arr (List.map I a_2))] (ai (lenT (d := 8) I a_2) trivial) ?_
 refine seqQ_norm ?_
 rcases itesome h with ⟨hb_5, h⟩ | ⟨hb_5, h⟩
 ·refine cT ((decide (i_4 < (a_2.length : Int)))) hb_5 ?_
  refine Wp.skipN (by kernel_rfl) ?_
  refine seqQ_norm ?_
  refine sN ?_
  refine Wp.blockN (i := 1) (by kernel_rfl) ?_
  refine sN ?_
  obtain ⟨e_4_3, hi_4_3, h⟩ := bsome h
  refine rg hc none [oN, oN, oN, oN, some (.eqv (.mk 0 true) ⟨[], [(1000, some (.arr (List.map I (List.set a_2 (Int.toNat i_4) k_3))))], []⟩)] [(0, .rs 1000), (1, I k_3), (5, I i_4)] [(1000, .arr (List.map I (List.set a_2 (Int.toNat i_4) k_3)))] (ai (idx_own (enc := I) hi_4_3) (ai (congrArg (fun z => (⟨[], [(1000, some (.arr z))], []⟩ : Wr)) (set_row (enc := I) (i := Int.toNat i_4) (l := a_2) (v := k_3) (x := I k_3) (eq_I k_3))) (ai (own_set (enc := I) (sz := 1) sz_I hi_4_3) trivial))) ?_
  refine seqQ_norm ?_
  refine rg0 hc 3 [(0, .rs 1000), (1, I (wr (k_3 + 1))), (5, I i_4)] [(1000, .arr (List.map I (List.set a_2 (Int.toNat i_4) k_3)))] ?_
  refine blockQ_norm ?_
  refine seqQ_norm ?_
  refine rg0 hc 3 [(0, .rs 1000), (1, I (wr (k_3 + 1))), (5, I (wr (i_4 + 1)))] [(1000, .arr (List.map I (List.set a_2 (Int.toNat i_4) k_3)))] ?_
  refine loopQ_norm ?_
  exact (laws_markIntS_l0_ih _ _ h c hc)
 ·refine cF ((decide (i_4 < (a_2.length : Int)))) hb_5 ?_
  refine Wp.exitN (i := 0) (by kernel_rfl) ?_
  refine seqQ_exit ?_
  refine loopQ_exit ?_
  obtain ⟨rfl, rfl⟩ := Prod.mk.inj (Option.some.inj h)
  exact Into.view (fun a w hv => SRx.renL [] hv (by kernel_rfl) (by kernel_rfl) (by kernel_rfl))
def laws_markIntS (p : (List Int) × Int) : Option (Int × (List Int)) :=
 match p with
 | (a0, k1) =>
  (laws_markIntS_l0 (a0, k1, 0)) >>= fun (k_6, x_7) =>
  some (k_6, x_7)
def M_laws_markIntS (p : (List Int) × Int) (r : Int × (List Int)) : Prop :=
 match p with
 | (a0, k1) => FnSound Try.prog 29 [.osl (List.map I a0), I k1] (I r.1) [.osl (List.map I r.2), .undef]
theorem laws_markIntS_s : ∀ p r, laws_markIntS p = some r → M_laws_markIntS p r := by
 rintro ⟨a0, k1⟩ r h
 unfold laws_markIntS at h
 show FnSound Try.prog 29 [.osl (List.map I a0), I k1] (I r.1) [.osl (List.map I r.2), .undef]
 refine FnSound.bodyO tiok (fn := Try.f29) (code := B29) (by kernel_rfl) (by kernel_rfl) (by kernel_rfl) (nt := 19) (by kernel_rfl) (by kernel_rfl) (T := [(0, .rs 1000), (1, I k1)]) (O := [(1000, .arr (List.map I a0))]) (by kernel_rfl) (by kernel_rfl) (fun c hc => ?_)
 refine sN ?_
 refine rg0 hc 1 [(0, .rs 1000), (1, I k1)] [(1000, .arr (List.map I a0))] ?_
 refine seqQ_norm ?_
 refine sN ?_
 refine sN ?_
 refine rg0 hc 1 [(0, .rs 1000), (1, I k1), (5, I 0)] [(1000, .arr (List.map I a0))] ?_
 refine seqQ_norm ?_
 refine Wp.blockN (i := 0) (by kernel_rfl) ?_
 obtain ⟨⟨k_6, x_7⟩, hl_8, h⟩ := bsome h
 have hL := laws_markIntS_l0_s _ _ hl_8 c hc
 refine Wp.loopN (by kernel_rfl) ?_
 ·refine WpL.into (e := (.exit 0)) (mkS [(1, I k_6)] [(1000, .arr (List.map I x_7))]) hL ?_
  refine blockQ_hit ?_
  refine seqQ_norm ?_
  refine sN ?_
  refine rg0 hc 2 [(4, I k_6)] [(1000, .arr (List.map I x_7))] ?_
  refine seqQ_norm ?_
  refine Wp.retN (by kernel_rfl) ?_
  obtain rfl := Option.some.inj h
  exact RetOQ.ret (fl := [true]) (by kernel_rfl)
def laws_markTermS_F1 (c : Ctx) : Int × (List GTerm) → Exit → AState → Prop
 | (k_6, x_7) => Into c (.exit 0) (mkS [(1, I k_6)] [(1000, .arr (List.map GTerm_O x_7))])
end Go.Am
