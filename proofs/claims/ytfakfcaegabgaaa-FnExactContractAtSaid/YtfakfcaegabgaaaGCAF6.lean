/- Functions of the program as pure functions, and that it computes them. Printed by a program of mine (gen.py). -/
import Derived.Test.YtfakfcaegabgaaaGCAF5
set_option linter.unusedVariables false
set_option linter.unusedSimpArgs false
set_option maxRecDepth 100000
namespace Go.Am
open Go Go.Proofs
def laws_FnExactContractAt (p : GTerm × (List Int)) : Option (Bool) :=
 match p with
 | (aT0, aPath1) =>
  if (decide ((aPath1.length : Int) > 1048576)) = true then
   some true
  else
   (laws_szTerm (aT0, 1048576)) >>= fun r_4_2 =>
   if (decide (r_4_2 < 0)) = true then
    some true
   else
    (laws_toTerm aT0) >>= fun r_7_1 =>
    (laws_toIntS aPath1) >>= fun r_7_3 =>
    (spec_ContractAt (r_7_1, r_7_3)) >>= fun (r_7_4_0, r_7_4_1) =>
    (laws_toTerm aT0) >>= fun r_8_1 =>
    (laws_toIntS aPath1) >>= fun r_9_1 =>
    (impl_ContractAt (r_8_1, r_9_1)) >>= fun (r_10_2_0, r_10_2_1) =>
    (
     (laws_eqTerm (r_10_2_0, r_7_4_0)) >>= fun r_11_2 =>
     if r_11_2 = true then
      some ((!(r_10_2_1 == r_7_4_1)))
     else
      some (true)
    ) >>= fun v_3 =>
    if v_3 = true then
     some false
    else
     (laws_toTerm aT0) >>= fun r_13_2 =>
     (laws_eqTerm (r_8_1, r_13_2)) >>= fun r_13_3 =>
     if r_13_3 = true then
      (laws_toIntS aPath1) >>= fun r_15_2 =>
      (laws_eqIntS (r_9_1, r_15_2)) >>= fun r_15_3 =>
      if r_15_3 = true then
       (laws_markTerm (r_8_1, 1)) >>= fun (r_18_2, o_18_2_0) =>
       (laws_markIntS (r_9_1, r_18_2)) >>= fun (r_19_2, o_19_2_0) =>
       (
        if (decide (r_19_2 < 0)) = true then
         some (true)
        else
         (laws_eqTerm (r_10_2_0, r_7_4_0)) >>= fun r_20_5 =>
         if r_20_5 = true then
          some ((!(r_10_2_1 == r_7_4_1)))
         else
          some (true)
       ) >>= fun v_8 =>
       if v_8 = true then
        some false
       else
        (laws_markTerm (r_10_2_0, 1)) >>= fun (r_23_2, o_23_2_0) =>
        (laws_heldTerm ((GTerm.mk r_10_2_0.fOp r_10_2_0.fN o_23_2_0.fType o_23_2_0.fKids), 1)) >>= fun r_25_2 =>
        if (decide (r_25_2 < 0)) = true then
         some false
        else
         if (r_25_2 != r_23_2) = true then
          some false
         else
          (laws_toTerm aT0) >>= fun r_30_1 =>
          (laws_toIntS aPath1) >>= fun r_30_3 =>
          (impl_ContractAt (r_30_1, r_30_3)) >>= fun (r_30_4_0, r_30_4_1) =>
          (
           (laws_eqTerm (r_30_4_0, r_7_4_0)) >>= fun r_31_2 =>
           if r_31_2 = true then
            some ((!(r_30_4_1 == r_7_4_1)))
           else
            some (true)
          ) >>= fun v_13 =>
          if v_13 = true then
           some false
          else
           (laws_heldTerm ((GTerm.mk r_10_2_0.fOp r_10_2_0.fN o_23_2_0.fType o_23_2_0.fKids), 1)) >>= fun r_34_2 =>
           if (decide (r_34_2 < 0)) = true then
            some false
           else
            if (r_34_2 != r_23_2) = true then
             some false
            else
             some true
      else
       some false
     else
      some false
def M_laws_FnExactContractAt (p : GTerm × (List Int)) (r : Bool) : Prop :=
 match p with
 | (aT0, aPath1) => FnSound Try.prog 10 [aTerm aT0, sI aPath1] (.bool r) []
theorem laws_FnExactContractAt_s : ∀ p r, laws_FnExactContractAt p = some r → M_laws_FnExactContractAt p r := by
 rintro ⟨aT0, aPath1⟩ r h
 unfold laws_FnExactContractAt at h
 show FnSound Try.prog 10 [aTerm aT0, sI aPath1] (.bool r) []
 refine FnSound.body0 tiok (fn := Try.f10) (code := B10) (by kernel_rfl) (by kernel_rfl) (by kernel_rfl) (by kernel_rfl) (nt := 117) (by kernel_rfl) (by kernel_rfl) (T := [(0, aTerm aT0), (1, sI aPath1)]) (O := []) (by kernel_rfl) (by kernel_rfl) (fun c hc => ?_)
 refine sN ?_
 refine rg hc none [some (.new 1), oN] [(1, sI aPath1), (2, .ra 1 0)] [(1, bTerm aT0)] trivial ?_
 refine seqQ_norm ?_
 refine sN ?_
 refine sN ?_
 refine rg hc none [oN, some (.eqv (.no) ⟨[(18, I (aPath1.length : Int))], [], []⟩), oN] [(1, sI aPath1), (2, .ra 1 0), (19, .bool (decide ((aPath1.length : Int) > 1048576)))] [(1, bTerm aT0)] (ai (lenT (d := 18) I aPath1) trivial) ?_
 refine seqQ_norm ?_
 rcases itesome h with ⟨hb_1, h⟩ | ⟨hb_1, h⟩
 ·refine cT ((decide ((aPath1.length : Int) > 1048576))) hb_1 ?_
  refine sN ?_
  refine rg0 hc 1 [(4, .bool true)] [] ?_
  refine seqQ_norm ?_
  refine Wp.retN (by kernel_rfl) ?_
  refine seqQ_ret ?_
  obtain rfl := Option.some.inj h
  exact RetQ.ret (fl := [true]) (by kernel_rfl)
 ·refine cF ((decide ((aPath1.length : Int) > 1048576))) hb_1 ?_
  refine Wp.skipN (by kernel_rfl) ?_
  refine seqQ_norm ?_
  refine sN ?_
  refine rg0 hc 1 [(1, sI aPath1), (2, .ra 1 0), (5, I 1048576)] [(1, bTerm aT0)] ?_
  refine seqQ_norm ?_
  refine sN ?_
  obtain ⟨r_4_2, hr_4_2, h⟩ := bsome h
  refine rg hc none [oN, oN, oc (I r_4_2), oN] [(1, sI aPath1), (2, .ra 1 0), (5, I r_4_2)] [(1, bTerm aT0)] (ai (laws_szTerm_s _ _ hr_4_2) (ai bod_23 (ai (oi (I r_4_2)) trivial))) ?_
  refine seqQ_norm ?_
  refine sN ?_
  refine sN ?_
  refine rg0 hc 2 [(1, sI aPath1), (2, .ra 1 0), (24, .bool (decide (r_4_2 < 0)))] [(1, bTerm aT0)] ?_
  refine seqQ_norm ?_
  rcases itesome h with ⟨hb_2, h⟩ | ⟨hb_2, h⟩
  ·refine cT ((decide (r_4_2 < 0))) hb_2 ?_
   refine sN ?_
   refine rg0 hc 1 [(4, .bool true)] [] ?_
   refine seqQ_norm ?_
   refine Wp.retN (by kernel_rfl) ?_
   refine seqQ_ret ?_
   obtain rfl := Option.some.inj h
   exact RetQ.ret (fl := [true]) (by kernel_rfl)
  ·refine cF ((decide (r_4_2 < 0))) hb_2 ?_
   refine Wp.skipN (by kernel_rfl) ?_
   refine seqQ_norm ?_
   refine sN ?_
   obtain ⟨r_7_1, hr_7_1, h⟩ := bsome h
   obtain ⟨r_7_3, hr_7_3, h⟩ := bsome h
   obtain ⟨⟨r_7_4_0, r_7_4_1⟩, hr_7_4, h⟩ := bsome h
   refine rg hc none [oN, some (.call (qTerm r_7_1) [] 2), oN, some (.call (.osl (List.map I r_7_3)) [] 4), some (.call (.tup [qTerm r_7_4_0, .bool r_7_4_1]) [] 5), oN, oN, oN, some (.new 7), oN, oN] [(1, sI aPath1), (2, .ra 1 0), (6, .ra 7 0), (7, .bool r_7_4_1)] [(1, bTerm aT0), (5, .arr (List.map I r_7_4_0.fType)), (6, .arr (List.map GTerm_O r_7_4_0.fKids)), (7, .box [I r_7_4_0.fOp, I r_7_4_0.fN, .rs 5, .rs 6])] (ai (laws_toTerm_s _ _ hr_7_1) (ai bod_25 (ai (oi (qTerm r_7_1)) (ai (laws_toIntS_s _ _ hr_7_3) (ai bod_14 (ai (oi (.osl (List.map I r_7_3))) (ai (FnSound.args (A1 := [hTerm r_7_1, .sl (shares (List.map I r_7_3))]) (A2 := [aTerm r_7_1, sI r_7_3]) (by simp only [sI, sB, aTerm, hTerm, List.map_nil, sh_GTerm_O, sh_I]) (spec_ContractAt_s _ _ hr_7_4)) (ai bod_40 (ai (Or.inr (nsh_cons (nsh_cons rfl (nsh_cons rfl (nsh_cons (nsh_row nsh_I r_7_4_0.fType) (nsh_cons (nsh_row nsh_GTerm_O r_7_4_0.fKids) rfl)))) (nsh_cons rfl rfl)) : ([2, 3, 4] : List Nat) = [] ∨ noSh (.tup [qTerm r_7_4_0, .bool r_7_4_1]) = true) trivial))))))))) ?_
   refine seqQ_norm ?_
   refine sN ?_
   obtain ⟨r_8_1, hr_8_1, h⟩ := bsome h
   refine rg hc none [oN, some (.call (qTerm r_8_1) [] 8), some (.new 10), oN] [(1, sI aPath1), (2, .ra 1 0), (6, .ra 7 0), (7, .bool r_7_4_1), (8, .ra 10 0)] [(1, bTerm aT0), (5, .arr (List.map I r_7_4_0.fType)), (6, .arr (List.map GTerm_O r_7_4_0.fKids)), (7, .box [I r_7_4_0.fOp, I r_7_4_0.fN, .rs 5, .rs 6]), (8, .arr (List.map I r_8_1.fType)), (9, .arr (List.map GTerm_O r_8_1.fKids)), (10, .box [I r_8_1.fOp, I r_8_1.fN, .rs 8, .rs 9])] (ai (laws_toTerm_s _ _ hr_8_1) (ai bod_25 (ai (oi (qTerm r_8_1)) trivial))) ?_
   refine seqQ_norm ?_
   refine sN ?_
   obtain ⟨r_9_1, hr_9_1, h⟩ := bsome h
   refine rg hc none [oN, some (.call (.osl (List.map I r_9_1)) [] 11), oN] [(1, sI aPath1), (2, .ra 1 0), (6, .ra 7 0), (7, .bool r_7_4_1), (8, .ra 10 0), (9, .rs 11)] [(1, bTerm aT0), (5, .arr (List.map I r_7_4_0.fType)), (6, .arr (List.map GTerm_O r_7_4_0.fKids)), (7, .box [I r_7_4_0.fOp, I r_7_4_0.fN, .rs 5, .rs 6]), (8, .arr (List.map I r_8_1.fType)), (9, .arr (List.map GTerm_O r_8_1.fKids)), (10, .box [I r_8_1.fOp, I r_8_1.fN, .rs 8, .rs 9]), (11, .arr (List.map I r_9_1))] (ai (laws_toIntS_s _ _ hr_9_1) (ai bod_14 (ai (oi (.osl (List.map I r_9_1))) trivial))) ?_
   refine seqQ_norm ?_
   refine sN ?_
   obtain ⟨⟨r_10_2_0, r_10_2_1⟩, hr_10_2, h⟩ := bsome h
   refine rg hc none [oN, oN, some (.call (.tup [qTerm r_10_2_0, .bool r_10_2_1]) [] 12), oN, oN, oN, some (.new 14), oN, oN] [(1, sI aPath1), (2, .ra 1 0), (6, .ra 7 0), (7, .bool r_7_4_1), (8, .ra 10 0), (9, .rs 11), (10, .ra 14 0), (11, .bool r_10_2_1)] [(1, bTerm aT0), (5, .arr (List.map I r_7_4_0.fType)), (6, .arr (List.map GTerm_O r_7_4_0.fKids)), (7, .box [I r_7_4_0.fOp, I r_7_4_0.fN, .rs 5, .rs 6]), (8, .arr (List.map I r_8_1.fType)), (9, .arr (List.map GTerm_O r_8_1.fKids)), (10, .box [I r_8_1.fOp, I r_8_1.fN, .rs 8, .rs 9]), (11, .arr (List.map I r_9_1)), (12, .arr (List.map I r_10_2_0.fType)), (13, .arr (List.map GTerm_O r_10_2_0.fKids)), (14, .box [I r_10_2_0.fOp, I r_10_2_0.fN, .rs 12, .rs 13])] (ai (FnSound.args (A1 := [hTerm r_8_1, .sl (shares (List.map I r_9_1))]) (A2 := [aTerm r_8_1, sI r_9_1]) (by simp only [sI, sB, aTerm, hTerm, List.map_nil, sh_GTerm_O, sh_I]) (impl_ContractAt_s _ _ hr_10_2)) (ai bod_41 (ai (Or.inr (nsh_cons (nsh_cons rfl (nsh_cons rfl (nsh_cons (nsh_row nsh_I r_10_2_0.fType) (nsh_cons (nsh_row nsh_GTerm_O r_10_2_0.fKids) rfl)))) (nsh_cons rfl rfl)) : ([8, 9, 11] : List Nat) = [] ∨ noSh (.tup [qTerm r_10_2_0, .bool r_10_2_1]) = true) trivial))) ?_
   refine seqQ_norm ?_
   refine sN ?_
   refine sN ?_
   obtain ⟨v_3, hj_4, h⟩ := bsome h
   refine Wp.into (x := .normal) (mkS [(1, sI aPath1), (2, .ra 1 0), (6, .ra 7 0), (7, .bool r_7_4_1), (8, .ra 10 0), (9, .rs 11), (10, .ra 14 0), (11, .bool r_10_2_1), (51, .bool v_3)] [(1, bTerm aT0), (5, .arr (List.map I r_7_4_0.fType)), (6, .arr (List.map GTerm_O r_7_4_0.fKids)), (7, .box [I r_7_4_0.fOp, I r_7_4_0.fN, .rs 5, .rs 6]), (8, .arr (List.map I r_8_1.fType)), (9, .arr (List.map GTerm_O r_8_1.fKids)), (10, .box [I r_8_1.fOp, I r_8_1.fN, .rs 8, .rs 9]), (11, .arr (List.map I r_9_1)), (12, .arr (List.map I r_10_2_0.fType)), (13, .arr (List.map GTerm_O r_10_2_0.fKids)), (14, .box [I r_10_2_0.fOp, I r_10_2_0.fN, .rs 12, .rs 13])]) ?_ ?_
   ·replace h := hj_4
    obtain ⟨r_11_2, hr_11_2, h⟩ := bsome h
    rcases itesome h with ⟨hb_11_0, h⟩ | ⟨hb_11_0, h⟩
    ·refine rg hc none [oN, oN, oc (.bool r_11_2), oN, oN, oN, oN, oN, oF] [(1, sI aPath1), (2, .ra 1 0), (6, .ra 7 0), (7, .bool r_7_4_1), (8, .ra 10 0), (9, .rs 11), (10, .ra 14 0), (11, .bool r_10_2_1), (51, .bool (!(r_10_2_1 == r_7_4_1)))] [(1, bTerm aT0), (5, .arr (List.map I r_7_4_0.fType)), (6, .arr (List.map GTerm_O r_7_4_0.fKids)), (7, .box [I r_7_4_0.fOp, I r_7_4_0.fN, .rs 5, .rs 6]), (8, .arr (List.map I r_8_1.fType)), (9, .arr (List.map GTerm_O r_8_1.fKids)), (10, .box [I r_8_1.fOp, I r_8_1.fN, .rs 8, .rs 9]), (11, .arr (List.map I r_9_1)), (12, .arr (List.map I r_10_2_0.fType)), (13, .arr (List.map GTerm_O r_10_2_0.fKids)), (14, .box [I r_10_2_0.fOp, I r_10_2_0.fN, .rs 12, .rs 13])] (ai (FnSound.args (A1 := [hTerm r_10_2_0, hTerm r_7_4_0]) (A2 := [aTerm r_10_2_0, aTerm r_7_4_0]) (by simp only [sI, sB, aTerm, hTerm, List.map_nil, sh_GTerm_O, sh_I]) (laws_eqTerm_s _ _ hr_11_2)) (ai bod_16 (ai (Or.inr rfl : ([12, 13, 5, 6] : List Nat) = [] ∨ noSh (.bool r_11_2) = true) (ar 4 (nF hb_11_0) trivial)))) ?_
     obtain rfl := Option.some.inj h
     exact Into.mk
    ·refine rg hc none [oN, oN, oc (.bool r_11_2), oN, oN, o_, o_, o_, oT] [(1, sI aPath1), (2, .ra 1 0), (6, .ra 7 0), (7, .bool r_7_4_1), (8, .ra 10 0), (9, .rs 11), (10, .ra 14 0), (11, .bool r_10_2_1), (51, .bool true)] [(1, bTerm aT0), (5, .arr (List.map I r_7_4_0.fType)), (6, .arr (List.map GTerm_O r_7_4_0.fKids)), (7, .box [I r_7_4_0.fOp, I r_7_4_0.fN, .rs 5, .rs 6]), (8, .arr (List.map I r_8_1.fType)), (9, .arr (List.map GTerm_O r_8_1.fKids)), (10, .box [I r_8_1.fOp, I r_8_1.fN, .rs 8, .rs 9]), (11, .arr (List.map I r_9_1)), (12, .arr (List.map I r_10_2_0.fType)), (13, .arr (List.map GTerm_O r_10_2_0.fKids)), (14, .box [I r_10_2_0.fOp, I r_10_2_0.fN, .rs 12, .rs 13])] (ai (FnSound.args (A1 := [hTerm r_10_2_0, hTerm r_7_4_0]) (A2 := [aTerm r_10_2_0, aTerm r_7_4_0]) (by simp only [sI, sB, aTerm, hTerm, List.map_nil, sh_GTerm_O, sh_I]) (laws_eqTerm_s _ _ hr_11_2)) (ai bod_16 (ai (Or.inr rfl : ([12, 13, 5, 6] : List Nat) = [] ∨ noSh (.bool r_11_2) = true) (ar 3 (neF (nT hb_11_0)) (ai (nT hb_11_0) trivial))))) ?_
     obtain rfl := Option.some.inj h
     exact Into.mk
   ·clear hj_4
    refine seqQ_norm ?_
    rcases itesome h with ⟨hb_5, h⟩ | ⟨hb_5, h⟩
    ·refine cT v_3 hb_5 ?_
     refine sN ?_
     refine rg0 hc 1 [(4, .bool false)] [] ?_
     refine seqQ_norm ?_
     refine Wp.retN (by kernel_rfl) ?_
     refine seqQ_ret ?_
     obtain rfl := Option.some.inj h
     exact RetQ.ret (fl := [true]) (by kernel_rfl)
    ·refine cF v_3 hb_5 ?_
     refine Wp.skipN (by kernel_rfl) ?_
     refine seqQ_norm ?_
     refine sN ?_
     refine sN ?_
     obtain ⟨r_13_2, hr_13_2, h⟩ := bsome h
     obtain ⟨r_13_3, hr_13_3, h⟩ := bsome h
     refine rg hc (rx [[0], [0], [0, 1], [3], [4]]) [oN, oN, some (.call (qTerm r_13_2) [] 15), oc (.bool r_13_3), oN] [(1, sI aPath1), (2, .ra 1 0), (6, .ra 7 0), (7, .bool r_7_4_1), (8, .ra 10 0), (9, .rs 11), (10, .ra 14 0), (11, .bool r_10_2_1), (56, .bool (!r_13_3))] [(1, bTerm aT0), (5, .arr (List.map I r_7_4_0.fType)), (6, .arr (List.map GTerm_O r_7_4_0.fKids)), (7, .box [I r_7_4_0.fOp, I r_7_4_0.fN, .rs 5, .rs 6]), (8, .arr (List.map I r_8_1.fType)), (9, .arr (List.map GTerm_O r_8_1.fKids)), (10, .box [I r_8_1.fOp, I r_8_1.fN, .rs 8, .rs 9]), (11, .arr (List.map I r_9_1)), (12, .arr (List.map I r_10_2_0.fType)), (13, .arr (List.map GTerm_O r_10_2_0.fKids)), (14, .box [I r_10_2_0.fOp, I r_10_2_0.fN, .rs 12, .rs 13])] (ai (laws_toTerm_s _ _ hr_13_2) (ai bod_25 (ai (oi (qTerm r_13_2)) (ai (FnSound.args (A1 := [hTerm r_8_1, hTerm r_13_2]) (A2 := [aTerm r_8_1, aTerm r_13_2]) (by simp only [sI, sB, aTerm, hTerm, List.map_nil, sh_GTerm_O, sh_I]) (laws_eqTerm_s _ _ hr_13_3)) (ai bod_16 (ai (Or.inr rfl : ([8, 9, 15, 16] : List Nat) = [] ∨ noSh (.bool r_13_3) = true) trivial)))))) ?_
     refine seqQ_norm ?_
     rcases itesome h with ⟨hb_6, h⟩ | ⟨hb_6, h⟩
     ·refine cF (!r_13_3) (nF hb_6) ?_
      refine Wp.skipN (by kernel_rfl) ?_
      refine seqQ_norm ?_
      refine sN ?_
      refine sN ?_
      obtain ⟨r_15_2, hr_15_2, h⟩ := bsome h
      obtain ⟨r_15_3, hr_15_3, h⟩ := bsome h
      refine rg hc none [oN, oN, some (.call (.osl (List.map I r_15_2)) [] 17), oc (.bool r_15_3), oN] [(1, sI aPath1), (2, .ra 1 0), (6, .ra 7 0), (7, .bool r_7_4_1), (8, .ra 10 0), (9, .rs 11), (10, .ra 14 0), (11, .bool r_10_2_1), (61, .bool (!r_15_3))] [(1, bTerm aT0), (5, .arr (List.map I r_7_4_0.fType)), (6, .arr (List.map GTerm_O r_7_4_0.fKids)), (7, .box [I r_7_4_0.fOp, I r_7_4_0.fN, .rs 5, .rs 6]), (8, .arr (List.map I r_8_1.fType)), (9, .arr (List.map GTerm_O r_8_1.fKids)), (10, .box [I r_8_1.fOp, I r_8_1.fN, .rs 8, .rs 9]), (11, .arr (List.map I r_9_1)), (12, .arr (List.map I r_10_2_0.fType)), (13, .arr (List.map GTerm_O r_10_2_0.fKids)), (14, .box [I r_10_2_0.fOp, I r_10_2_0.fN, .rs 12, .rs 13])] (ai (laws_toIntS_s _ _ hr_15_2) (ai bod_14 (ai (oi (.osl (List.map I r_15_2))) (ai (FnSound.args (A1 := [.sl (shares (List.map I r_9_1)), .sl (shares (List.map I r_15_2))]) (A2 := [sI r_9_1, sI r_15_2]) (by simp only [sI, sB, aTerm, hTerm, List.map_nil, sh_I]) (laws_eqIntS_s _ _ hr_15_3)) (ai bod_18 (ai (Or.inr rfl : ([11, 17] : List Nat) = [] ∨ noSh (.bool r_15_3) = true) trivial)))))) ?_
      refine seqQ_norm ?_
      rcases itesome h with ⟨hb_7, h⟩ | ⟨hb_7, h⟩
      ·refine cF (!r_15_3) (nF hb_7) ?_
       refine Wp.skipN (by kernel_rfl) ?_
       refine seqQ_norm ?_
       refine sN ?_
       refine rg0 hc 1 [(1, sI aPath1), (2, .ra 1 0), (6, .ra 7 0), (7, .bool r_7_4_1), (8, .ra 10 0), (9, .rs 11), (10, .ra 14 0), (11, .bool r_10_2_1), (12, I 1)] [(1, bTerm aT0), (5, .arr (List.map I r_7_4_0.fType)), (6, .arr (List.map GTerm_O r_7_4_0.fKids)), (7, .box [I r_7_4_0.fOp, I r_7_4_0.fN, .rs 5, .rs 6]), (8, .arr (List.map I r_8_1.fType)), (9, .arr (List.map GTerm_O r_8_1.fKids)), (10, .box [I r_8_1.fOp, I r_8_1.fN, .rs 8, .rs 9]), (11, .arr (List.map I r_9_1)), (12, .arr (List.map I r_10_2_0.fType)), (13, .arr (List.map GTerm_O r_10_2_0.fKids)), (14, .box [I r_10_2_0.fOp, I r_10_2_0.fN, .rs 12, .rs 13])] ?_
       refine seqQ_norm ?_
       refine sN ?_
       obtain ⟨⟨r_18_2, o_18_2_0⟩, hr_18_2, h⟩ := bsome h
       refine rg hc none [oN, oN, some (.call (I r_18_2) [.agg [.undef, .undef, .osl (List.map I o_18_2_0.fType), .osl (List.map GTerm_O o_18_2_0.fKids)], .undef] 1), oN] [(1, sI aPath1), (2, .ra 1 0), (6, .ra 7 0), (7, .bool r_7_4_1), (9, .rs 11), (10, .ra 14 0), (11, .bool r_10_2_1), (12, I r_18_2)] [(1, bTerm aT0), (5, .arr (List.map I r_7_4_0.fType)), (6, .arr (List.map GTerm_O r_7_4_0.fKids)), (7, .box [I r_7_4_0.fOp, I r_7_4_0.fN, .rs 5, .rs 6]), (11, .arr (List.map I r_9_1)), (12, .arr (List.map I r_10_2_0.fType)), (13, .arr (List.map GTerm_O r_10_2_0.fKids)), (14, .box [I r_10_2_0.fOp, I r_10_2_0.fN, .rs 12, .rs 13])] (ai (laws_markTerm_s _ _ hr_18_2) (ai bod_21 trivial)) ?_
       refine seqQ_norm ?_
       refine sN ?_
       obtain ⟨⟨r_19_2, o_19_2_0⟩, hr_19_2, h⟩ := bsome h
       refine rg hc none [oN, oN, some (.call (I r_19_2) [.osl (List.map I o_19_2_0), .undef] 1), oN] [(1, sI aPath1), (2, .ra 1 0), (6, .ra 7 0), (7, .bool r_7_4_1), (10, .ra 14 0), (11, .bool r_10_2_1), (12, I r_19_2)] [(1, bTerm aT0), (5, .arr (List.map I r_7_4_0.fType)), (6, .arr (List.map GTerm_O r_7_4_0.fKids)), (7, .box [I r_7_4_0.fOp, I r_7_4_0.fN, .rs 5, .rs 6]), (12, .arr (List.map I r_10_2_0.fType)), (13, .arr (List.map GTerm_O r_10_2_0.fKids)), (14, .box [I r_10_2_0.fOp, I r_10_2_0.fN, .rs 12, .rs 13])] (ai (laws_markIntS_s _ _ hr_19_2) (ai bod_20 trivial)) ?_
       refine seqQ_norm ?_
       refine sN ?_
       refine sN ?_
       obtain ⟨v_8, hj_9, h⟩ := bsome h
       refine Wp.into (x := .normal) (mkS [(1, sI aPath1), (2, .ra 1 0), (6, .ra 7 0), (7, .bool r_7_4_1), (10, .ra 14 0), (80, .bool v_8)] [(1, bTerm aT0), (5, .arr (List.map I r_7_4_0.fType)), (6, .arr (List.map GTerm_O r_7_4_0.fKids)), (7, .box [I r_7_4_0.fOp, I r_7_4_0.fN, .rs 5, .rs 6]), (12, .arr (List.map I r_10_2_0.fType)), (13, .arr (List.map GTerm_O r_10_2_0.fKids)), (14, .box [I r_10_2_0.fOp, I r_10_2_0.fN, .rs 12, .rs 13])]) ?_ ?_
       ·replace h := hj_9
        rcases itesome h with ⟨hb_20_0, h⟩ | ⟨hb_20_0, h⟩
        ·refine rg hc none [oN, oN, oN, o_, o_, o_, o_, oT, oN, o_, o_, o_, oT] [(1, sI aPath1), (2, .ra 1 0), (6, .ra 7 0), (7, .bool r_7_4_1), (10, .ra 14 0), (80, .bool true)] [(1, bTerm aT0), (5, .arr (List.map I r_7_4_0.fType)), (6, .arr (List.map GTerm_O r_7_4_0.fKids)), (7, .box [I r_7_4_0.fOp, I r_7_4_0.fN, .rs 5, .rs 6]), (12, .arr (List.map I r_10_2_0.fType)), (13, .arr (List.map GTerm_O r_10_2_0.fKids)), (14, .box [I r_10_2_0.fOp, I r_10_2_0.fN, .rs 12, .rs 13])] (ar 4 (neF hb_20_0) (ai hb_20_0 (ar 3 nf (ai tt trivial)))) ?_
         obtain rfl := Option.some.inj h
         exact Into.mk
        ·obtain ⟨r_20_5, hr_20_5, h⟩ := bsome h
         rcases itesome h with ⟨hb_20_1, h⟩ | ⟨hb_20_1, h⟩
         ·refine rg hc none [oN, oN, oN, oN, oN, oc (.bool r_20_5), oN, oF, oN, oN, oN, oN, oF] [(1, sI aPath1), (2, .ra 1 0), (6, .ra 7 0), (7, .bool r_7_4_1), (10, .ra 14 0), (80, .bool (!(r_10_2_1 == r_7_4_1)))] [(1, bTerm aT0), (5, .arr (List.map I r_7_4_0.fType)), (6, .arr (List.map GTerm_O r_7_4_0.fKids)), (7, .box [I r_7_4_0.fOp, I r_7_4_0.fN, .rs 5, .rs 6]), (12, .arr (List.map I r_10_2_0.fType)), (13, .arr (List.map GTerm_O r_10_2_0.fKids)), (14, .box [I r_10_2_0.fOp, I r_10_2_0.fN, .rs 12, .rs 13])] (ar 3 hb_20_0 (ai (FnSound.args (A1 := [hTerm r_10_2_0, hTerm r_7_4_0]) (A2 := [aTerm r_10_2_0, aTerm r_7_4_0]) (by simp only [sI, sB, aTerm, hTerm, List.map_nil, sh_GTerm_O, sh_I]) (laws_eqTerm_s _ _ hr_20_5)) (ai bod_16 (ai (Or.inr rfl : ([12, 13, 5, 6] : List Nat) = [] ∨ noSh (.bool r_20_5) = true) (ar 2 hb_20_0 (ar 4 (nF hb_20_1) trivial)))))) ?_
          obtain rfl := Option.some.inj h
          exact Into.mk
         ·refine rg hc none [oN, oN, oN, oN, oN, oc (.bool r_20_5), oN, oF, oN, o_, o_, o_, oT] [(1, sI aPath1), (2, .ra 1 0), (6, .ra 7 0), (7, .bool r_7_4_1), (10, .ra 14 0), (80, .bool true)] [(1, bTerm aT0), (5, .arr (List.map I r_7_4_0.fType)), (6, .arr (List.map GTerm_O r_7_4_0.fKids)), (7, .box [I r_7_4_0.fOp, I r_7_4_0.fN, .rs 5, .rs 6]), (12, .arr (List.map I r_10_2_0.fType)), (13, .arr (List.map GTerm_O r_10_2_0.fKids)), (14, .box [I r_10_2_0.fOp, I r_10_2_0.fN, .rs 12, .rs 13])] (ar 3 hb_20_0 (ai (FnSound.args (A1 := [hTerm r_10_2_0, hTerm r_7_4_0]) (A2 := [aTerm r_10_2_0, aTerm r_7_4_0]) (by simp only [sI, sB, aTerm, hTerm, List.map_nil, sh_GTerm_O, sh_I]) (laws_eqTerm_s _ _ hr_20_5)) (ai bod_16 (ai (Or.inr rfl : ([12, 13, 5, 6] : List Nat) = [] ∨ noSh (.bool r_20_5) = true) (ar 2 hb_20_0 (ar 3 (neF (nT hb_20_1)) (ai (nT hb_20_1) trivial))))))) ?_
          obtain rfl := Option.some.inj h
          exact Into.mk
       ·clear hj_9
        refine seqQ_norm ?_
        rcases itesome h with ⟨hb_10, h⟩ | ⟨hb_10, h⟩
        ·refine cT v_8 hb_10 ?_
         refine sN ?_
         refine rg0 hc 1 [(4, .bool false)] [] ?_
         refine seqQ_norm ?_
         refine Wp.retN (by kernel_rfl) ?_
         refine seqQ_ret ?_
         obtain rfl := Option.some.inj h
         exact RetQ.ret (fl := [true]) (by kernel_rfl)
        ·refine cF v_8 hb_10 ?_
         refine Wp.skipN (by kernel_rfl) ?_
         refine seqQ_norm ?_
         refine sN ?_
         refine rg0 hc 1 [(1, sI aPath1), (2, .ra 1 0), (6, .ra 7 0), (7, .bool r_7_4_1), (10, .ra 14 0), (13, I 1)] [(1, bTerm aT0), (5, .arr (List.map I r_7_4_0.fType)), (6, .arr (List.map GTerm_O r_7_4_0.fKids)), (7, .box [I r_7_4_0.fOp, I r_7_4_0.fN, .rs 5, .rs 6]), (12, .arr (List.map I r_10_2_0.fType)), (13, .arr (List.map GTerm_O r_10_2_0.fKids)), (14, .box [I r_10_2_0.fOp, I r_10_2_0.fN, .rs 12, .rs 13])] ?_
         refine seqQ_norm ?_
         refine sN ?_
         obtain ⟨⟨r_23_2, o_23_2_0⟩, hr_23_2, h⟩ := bsome h
         refine rg hc none [oN, oN, some (.call (I r_23_2) [.agg [.undef, .undef, .osl (List.map I o_23_2_0.fType), .osl (List.map GTerm_O o_23_2_0.fKids)], .undef] 1), oN] [(1, sI aPath1), (2, .ra 1 0), (6, .ra 7 0), (7, .bool r_7_4_1), (10, .ra 14 0), (13, I r_23_2)] [(1, bTerm aT0), (5, .arr (List.map I r_7_4_0.fType)), (6, .arr (List.map GTerm_O r_7_4_0.fKids)), (7, .box [I r_7_4_0.fOp, I r_7_4_0.fN, .rs 5, .rs 6]), (12, .arr (List.map I o_23_2_0.fType)), (13, .arr (List.map GTerm_O o_23_2_0.fKids)), (14, .box [I r_10_2_0.fOp, I r_10_2_0.fN, .rs 12, .rs 13])] (ai (laws_markTerm_s _ _ hr_23_2) (ai bod_21 trivial)) ?_
         refine seqQ_norm ?_
         refine sN ?_
         refine rg0 hc 1 [(1, sI aPath1), (2, .ra 1 0), (6, .ra 7 0), (7, .bool r_7_4_1), (10, .ra 14 0), (13, I r_23_2), (14, I 1)] [(1, bTerm aT0), (5, .arr (List.map I r_7_4_0.fType)), (6, .arr (List.map GTerm_O r_7_4_0.fKids)), (7, .box [I r_7_4_0.fOp, I r_7_4_0.fN, .rs 5, .rs 6]), (12, .arr (List.map I o_23_2_0.fType)), (13, .arr (List.map GTerm_O o_23_2_0.fKids)), (14, .box [I r_10_2_0.fOp, I r_10_2_0.fN, .rs 12, .rs 13])] ?_
         refine seqQ_norm ?_
         refine sN ?_
         obtain ⟨r_25_2, hr_25_2, h⟩ := bsome h
         refine rg hc none [oN, oN, oc (I r_25_2), oN] [(1, sI aPath1), (2, .ra 1 0), (6, .ra 7 0), (7, .bool r_7_4_1), (10, .ra 14 0), (13, I r_23_2), (14, I r_25_2)] [(1, bTerm aT0), (5, .arr (List.map I r_7_4_0.fType)), (6, .arr (List.map GTerm_O r_7_4_0.fKids)), (7, .box [I r_7_4_0.fOp, I r_7_4_0.fN, .rs 5, .rs 6]), (12, .arr (List.map I o_23_2_0.fType)), (13, .arr (List.map GTerm_O o_23_2_0.fKids)), (14, .box [I r_10_2_0.fOp, I r_10_2_0.fN, .rs 12, .rs 13])] (ai (FnSound.args (A1 := [.agg [I r_10_2_0.fOp, I r_10_2_0.fN, .sl (shares (List.map I o_23_2_0.fType)), .sl (shares (List.map GTerm_O o_23_2_0.fKids))], I 1]) (A2 := [.agg [I r_10_2_0.fOp, I r_10_2_0.fN, sI o_23_2_0.fType, .sl (List.map GTerm_S o_23_2_0.fKids)], I 1]) (by simp only [sI, sB, aTerm, hTerm, List.map_nil, sh_GTerm_O, sh_I]) (laws_heldTerm_s _ _ hr_25_2)) (ai bod_22 (ai (Or.inr rfl : ([12, 13] : List Nat) = [] ∨ noSh (I r_25_2) = true) trivial))) ?_
         refine seqQ_norm ?_
         refine sN ?_
         refine sN ?_
         refine rg0 hc 2 [(1, sI aPath1), (2, .ra 1 0), (6, .ra 7 0), (7, .bool r_7_4_1), (10, .ra 14 0), (13, I r_23_2), (14, I r_25_2), (88, .bool (decide (r_25_2 < 0)))] [(1, bTerm aT0), (5, .arr (List.map I r_7_4_0.fType)), (6, .arr (List.map GTerm_O r_7_4_0.fKids)), (7, .box [I r_7_4_0.fOp, I r_7_4_0.fN, .rs 5, .rs 6]), (12, .arr (List.map I o_23_2_0.fType)), (13, .arr (List.map GTerm_O o_23_2_0.fKids)), (14, .box [I r_10_2_0.fOp, I r_10_2_0.fN, .rs 12, .rs 13])] ?_
         refine seqQ_norm ?_
         rcases itesome h with ⟨hb_11, h⟩ | ⟨hb_11, h⟩
         ·refine cT ((decide (r_25_2 < 0))) hb_11 ?_
          refine sN ?_
          refine rg0 hc 1 [(4, .bool false)] [] ?_
          refine seqQ_norm ?_
          refine Wp.retN (by kernel_rfl) ?_
          refine seqQ_ret ?_
          obtain rfl := Option.some.inj h
          exact RetQ.ret (fl := [true]) (by kernel_rfl)
         ·refine cF ((decide (r_25_2 < 0))) hb_11 ?_
          refine Wp.skipN (by kernel_rfl) ?_
          refine seqQ_norm ?_
          refine sN ?_
          refine sN ?_
          refine rg0 hc 3 [(1, sI aPath1), (2, .ra 1 0), (6, .ra 7 0), (7, .bool r_7_4_1), (10, .ra 14 0), (13, I r_23_2), (91, .bool (r_25_2 != r_23_2))] [(1, bTerm aT0), (5, .arr (List.map I r_7_4_0.fType)), (6, .arr (List.map GTerm_O r_7_4_0.fKids)), (7, .box [I r_7_4_0.fOp, I r_7_4_0.fN, .rs 5, .rs 6]), (12, .arr (List.map I o_23_2_0.fType)), (13, .arr (List.map GTerm_O o_23_2_0.fKids)), (14, .box [I r_10_2_0.fOp, I r_10_2_0.fN, .rs 12, .rs 13])] ?_
          refine seqQ_norm ?_
          rcases itesome h with ⟨hb_12, h⟩ | ⟨hb_12, h⟩
          ·refine cT ((r_25_2 != r_23_2)) hb_12 ?_
           refine sN ?_
           refine rg0 hc 1 [(4, .bool false)] [] ?_
           refine seqQ_norm ?_
           refine Wp.retN (by kernel_rfl) ?_
           refine seqQ_ret ?_
           obtain rfl := Option.some.inj h
           exact RetQ.ret (fl := [true]) (by kernel_rfl)
          ·refine cF ((r_25_2 != r_23_2)) hb_12 ?_
           refine Wp.skipN (by kernel_rfl) ?_
           refine seqQ_norm ?_
           refine sN ?_
           obtain ⟨r_30_1, hr_30_1, h⟩ := bsome h
           obtain ⟨r_30_3, hr_30_3, h⟩ := bsome h
           obtain ⟨⟨r_30_4_0, r_30_4_1⟩, hr_30_4, h⟩ := bsome h
           refine rg hc none [oN, some (.call (qTerm r_30_1) [] 18), oN, some (.call (.osl (List.map I r_30_3)) [] 20), some (.call (.tup [qTerm r_30_4_0, .bool r_30_4_1]) [] 21), oN, oN, oN, some (.new 23), oN, oN] [(6, .ra 7 0), (7, .bool r_7_4_1), (10, .ra 14 0), (13, I r_23_2), (15, .ra 23 0), (16, .bool r_30_4_1)] [(5, .arr (List.map I r_7_4_0.fType)), (6, .arr (List.map GTerm_O r_7_4_0.fKids)), (7, .box [I r_7_4_0.fOp, I r_7_4_0.fN, .rs 5, .rs 6]), (12, .arr (List.map I o_23_2_0.fType)), (13, .arr (List.map GTerm_O o_23_2_0.fKids)), (14, .box [I r_10_2_0.fOp, I r_10_2_0.fN, .rs 12, .rs 13]), (21, .arr (List.map I r_30_4_0.fType)), (22, .arr (List.map GTerm_O r_30_4_0.fKids)), (23, .box [I r_30_4_0.fOp, I r_30_4_0.fN, .rs 21, .rs 22])] (ai (laws_toTerm_s _ _ hr_30_1) (ai bod_25 (ai (oi (qTerm r_30_1)) (ai (laws_toIntS_s _ _ hr_30_3) (ai bod_14 (ai (oi (.osl (List.map I r_30_3))) (ai (FnSound.args (A1 := [hTerm r_30_1, .sl (shares (List.map I r_30_3))]) (A2 := [aTerm r_30_1, sI r_30_3]) (by simp only [sI, sB, aTerm, hTerm, List.map_nil, sh_GTerm_O, sh_I]) (impl_ContractAt_s _ _ hr_30_4)) (ai bod_41 (ai (Or.inr (nsh_cons (nsh_cons rfl (nsh_cons rfl (nsh_cons (nsh_row nsh_I r_30_4_0.fType) (nsh_cons (nsh_row nsh_GTerm_O r_30_4_0.fKids) rfl)))) (nsh_cons rfl rfl)) : ([18, 19, 20] : List Nat) = [] ∨ noSh (.tup [qTerm r_30_4_0, .bool r_30_4_1]) = true) trivial))))))))) ?_
           refine seqQ_norm ?_
           refine sN ?_
           refine sN ?_
           obtain ⟨v_13, hj_14, h⟩ := bsome h
           refine Wp.into (x := .normal) (mkS [(10, .ra 14 0), (13, I r_23_2), (108, .bool v_13)] [(12, .arr (List.map I o_23_2_0.fType)), (13, .arr (List.map GTerm_O o_23_2_0.fKids)), (14, .box [I r_10_2_0.fOp, I r_10_2_0.fN, .rs 12, .rs 13])]) ?_ ?_
           ·replace h := hj_14
            obtain ⟨r_31_2, hr_31_2, h⟩ := bsome h
            rcases itesome h with ⟨hb_31_0, h⟩ | ⟨hb_31_0, h⟩
            ·refine rg hc none [oN, oN, oc (.bool r_31_2), oN, oN, oN, oN, oN, oF] [(10, .ra 14 0), (13, I r_23_2), (108, .bool (!(r_30_4_1 == r_7_4_1)))] [(12, .arr (List.map I o_23_2_0.fType)), (13, .arr (List.map GTerm_O o_23_2_0.fKids)), (14, .box [I r_10_2_0.fOp, I r_10_2_0.fN, .rs 12, .rs 13])] (ai (FnSound.args (A1 := [hTerm r_30_4_0, hTerm r_7_4_0]) (A2 := [aTerm r_30_4_0, aTerm r_7_4_0]) (by simp only [sI, sB, aTerm, hTerm, List.map_nil, sh_GTerm_O, sh_I]) (laws_eqTerm_s _ _ hr_31_2)) (ai bod_16 (ai (Or.inr rfl : ([21, 22, 5, 6] : List Nat) = [] ∨ noSh (.bool r_31_2) = true) (ar 4 (nF hb_31_0) trivial)))) ?_
             obtain rfl := Option.some.inj h
             exact Into.mk
            ·refine rg hc none [oN, oN, oc (.bool r_31_2), oN, oN, o_, o_, o_, oT] [(10, .ra 14 0), (13, I r_23_2), (108, .bool true)] [(12, .arr (List.map I o_23_2_0.fType)), (13, .arr (List.map GTerm_O o_23_2_0.fKids)), (14, .box [I r_10_2_0.fOp, I r_10_2_0.fN, .rs 12, .rs 13])] (ai (FnSound.args (A1 := [hTerm r_30_4_0, hTerm r_7_4_0]) (A2 := [aTerm r_30_4_0, aTerm r_7_4_0]) (by simp only [sI, sB, aTerm, hTerm, List.map_nil, sh_GTerm_O, sh_I]) (laws_eqTerm_s _ _ hr_31_2)) (ai bod_16 (ai (Or.inr rfl : ([21, 22, 5, 6] : List Nat) = [] ∨ noSh (.bool r_31_2) = true) (ar 3 (neF (nT hb_31_0)) (ai (nT hb_31_0) trivial))))) ?_
             obtain rfl := Option.some.inj h
             exact Into.mk
           ·clear hj_14
            refine seqQ_norm ?_
            rcases itesome h with ⟨hb_15, h⟩ | ⟨hb_15, h⟩
            ·refine cT v_13 hb_15 ?_
             refine sN ?_
             refine rg0 hc 1 [(4, .bool false)] [] ?_
             refine seqQ_norm ?_
             refine Wp.retN (by kernel_rfl) ?_
             refine seqQ_ret ?_
             obtain rfl := Option.some.inj h
             exact RetQ.ret (fl := [true]) (by kernel_rfl)
            ·refine cF v_13 hb_15 ?_
             refine Wp.skipN (by kernel_rfl) ?_
             refine seqQ_norm ?_
             refine sN ?_
             refine rg0 hc 1 [(10, .ra 14 0), (13, I r_23_2), (14, I 1)] [(12, .arr (List.map I o_23_2_0.fType)), (13, .arr (List.map GTerm_O o_23_2_0.fKids)), (14, .box [I r_10_2_0.fOp, I r_10_2_0.fN, .rs 12, .rs 13])] ?_
             refine seqQ_norm ?_
             refine sN ?_
             obtain ⟨r_34_2, hr_34_2, h⟩ := bsome h
             refine rg hc none [oN, oN, oc (I r_34_2), oN] [(13, I r_23_2), (14, I r_34_2)] [] (ai (FnSound.args (A1 := [.agg [I r_10_2_0.fOp, I r_10_2_0.fN, .sl (shares (List.map I o_23_2_0.fType)), .sl (shares (List.map GTerm_O o_23_2_0.fKids))], I 1]) (A2 := [.agg [I r_10_2_0.fOp, I r_10_2_0.fN, sI o_23_2_0.fType, .sl (List.map GTerm_S o_23_2_0.fKids)], I 1]) (by simp only [sI, sB, aTerm, hTerm, List.map_nil, sh_GTerm_O, sh_I]) (laws_heldTerm_s _ _ hr_34_2)) (ai bod_22 (ai (Or.inr rfl : ([12, 13] : List Nat) = [] ∨ noSh (I r_34_2) = true) trivial))) ?_
             refine seqQ_norm ?_
             refine sN ?_
             refine sN ?_
             refine rg0 hc 2 [(13, I r_23_2), (14, I r_34_2), (113, .bool (decide (r_34_2 < 0)))] [] ?_
             refine seqQ_norm ?_
             rcases itesome h with ⟨hb_16, h⟩ | ⟨hb_16, h⟩
             ·refine cT ((decide (r_34_2 < 0))) hb_16 ?_
              refine sN ?_
              refine rg0 hc 1 [(4, .bool false)] [] ?_
              refine seqQ_norm ?_
              refine Wp.retN (by kernel_rfl) ?_
              refine seqQ_ret ?_
              obtain rfl := Option.some.inj h
              exact RetQ.ret (fl := [true]) (by kernel_rfl)
             ·refine cF ((decide (r_34_2 < 0))) hb_16 ?_
              refine Wp.skipN (by kernel_rfl) ?_
              refine seqQ_norm ?_
              refine sN ?_
              refine sN ?_
              refine rg0 hc 3 [(116, .bool (r_34_2 != r_23_2))] [] ?_
              refine seqQ_norm ?_
              rcases itesome h with ⟨hb_17, h⟩ | ⟨hb_17, h⟩
              ·refine cT ((r_34_2 != r_23_2)) hb_17 ?_
               refine sN ?_
               refine rg0 hc 1 [(4, .bool false)] [] ?_
               refine seqQ_norm ?_
               refine Wp.retN (by kernel_rfl) ?_
               refine seqQ_ret ?_
               obtain rfl := Option.some.inj h
               exact RetQ.ret (fl := [true]) (by kernel_rfl)
              ·refine cF ((r_34_2 != r_23_2)) hb_17 ?_
               refine Wp.skipN (by kernel_rfl) ?_
               refine seqQ_norm ?_
               refine sN ?_
               refine rg0 hc 1 [(4, .bool true)] [] ?_
               refine seqQ_norm ?_
               refine Wp.retN (by kernel_rfl) ?_
               obtain rfl := Option.some.inj h
               exact RetQ.ret (fl := [true]) (by kernel_rfl)
      ·refine cT (!r_15_3) (nT hb_7) ?_
       refine sN ?_
       refine rg0 hc 1 [(4, .bool false)] [] ?_
       refine seqQ_norm ?_
       refine Wp.retN (by kernel_rfl) ?_
       refine seqQ_ret ?_
       obtain rfl := Option.some.inj h
       exact RetQ.ret (fl := [true]) (by kernel_rfl)
     ·refine cT (!r_13_3) (nT hb_6) ?_
      refine sN ?_
      refine rg0 hc 1 [(4, .bool false)] [] ?_
      refine seqQ_norm ?_
      refine Wp.retN (by kernel_rfl) ?_
      refine seqQ_ret ?_
      obtain rfl := Option.some.inj h
      exact RetQ.ret (fl := [true]) (by kernel_rfl)
end Go.Am
