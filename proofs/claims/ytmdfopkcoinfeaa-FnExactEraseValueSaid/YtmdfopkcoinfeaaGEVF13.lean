/- Functions of the program as pure functions, and that it computes them. Printed by a program of mine (gen.py). -/
import Derived.Test.YtmdfopkcoinfeaaGEVF12
set_option linter.unusedVariables false
set_option linter.unusedSimpArgs false
set_option maxRecDepth 100000
namespace Go.Am
open Go Go.Proofs
def ah13_0 : Option (List (List Nat)) := rx [[0], [1], [0], [3], [0], [5], [0], [7], [8], [9], [10], [10], [0], [11, 12], [14]]
def ah13_1 : Option (List (List Nat)) := rx [[0], [0], [0, 1], [3], [4]]
def laws_FnExactEraseValue (p : GSystem × (List Int) × (List Int) × GTerm) : Option (Bool) :=
 match p with
 | (aS0, aView1, aTy2, aV3) =>
  if (decide ((aView1.length : Int) > 1048576)) = true then
   some true
  else
   if (decide ((aTy2.length : Int) > 1048576)) = true then
    some true
   else
    (laws_szSystem (aS0, 1048576)) >>= fun r_6_2 =>
    if (decide (r_6_2 < 0)) = true then
     some true
    else
     (laws_szTerm (aV3, r_6_2)) >>= fun r_9_2 =>
     if (decide (r_9_2 < 0)) = true then
      some true
     else
      (laws_toSystem aS0) >>= fun r_12_1 =>
      (laws_toIntS aView1) >>= fun r_12_3 =>
      (laws_toIntS aTy2) >>= fun r_12_5 =>
      (laws_toTerm aV3) >>= fun r_12_7 =>
      (spec_EraseValue (r_12_1, r_12_3, r_12_5, r_12_7)) >>= fun (r_12_8_0, r_12_8_1) =>
      (laws_toSystem aS0) >>= fun r_13_1 =>
      (laws_toIntS aView1) >>= fun r_14_1 =>
      (laws_toIntS aTy2) >>= fun r_15_1 =>
      (laws_toTerm aV3) >>= fun r_16_1 =>
      (impl_EraseValue (r_13_1, r_14_1, r_15_1, r_16_1)) >>= fun (r_17_4_0, r_17_4_1) =>
      (
       (laws_eqTerm (r_17_4_0, r_12_8_0)) >>= fun r_18_2 =>
       if r_18_2 = true then
        some ((!(r_17_4_1 == r_12_8_1)))
       else
        some (true)
      ) >>= fun v_5 =>
      if v_5 = true then
       some false
      else
       (laws_toSystem aS0) >>= fun r_20_2 =>
       (laws_eqSystem (r_13_1, r_20_2)) >>= fun r_20_3 =>
       if r_20_3 = true then
        (laws_toIntS aView1) >>= fun r_22_2 =>
        (laws_eqIntS (r_14_1, r_22_2)) >>= fun r_22_3 =>
        if r_22_3 = true then
         (laws_toIntS aTy2) >>= fun r_24_2 =>
         (laws_eqIntS (r_15_1, r_24_2)) >>= fun r_24_3 =>
         if r_24_3 = true then
          (laws_toTerm aV3) >>= fun r_26_2 =>
          (laws_eqTerm (r_16_1, r_26_2)) >>= fun r_26_3 =>
          if r_26_3 = true then
           (laws_markSystem (r_13_1, 1)) >>= fun (r_29_2, o_29_2_0) =>
           (laws_markIntS (r_14_1, r_29_2)) >>= fun (r_30_2, o_30_2_0) =>
           (laws_markIntS (r_15_1, r_30_2)) >>= fun (r_31_2, o_31_2_0) =>
           (laws_markTerm (r_16_1, r_31_2)) >>= fun (r_32_2, o_32_2_0) =>
           (
            if (decide (r_32_2 < 0)) = true then
             some (true)
            else
             (laws_eqTerm (r_17_4_0, r_12_8_0)) >>= fun r_33_5 =>
             if r_33_5 = true then
              some ((!(r_17_4_1 == r_12_8_1)))
             else
              some (true)
           ) >>= fun v_12 =>
           if v_12 = true then
            some false
           else
            (laws_markTerm (r_17_4_0, 1)) >>= fun (r_36_2, o_36_2_0) =>
            (laws_heldTerm ((GTerm.mk r_17_4_0.fOp r_17_4_0.fN o_36_2_0.fType o_36_2_0.fKids), 1)) >>= fun r_38_2 =>
            if (decide (r_38_2 < 0)) = true then
             some false
            else
             if (r_38_2 != r_36_2) = true then
              some false
             else
              (laws_toSystem aS0) >>= fun r_43_1 =>
              (laws_toIntS aView1) >>= fun r_43_3 =>
              (laws_toIntS aTy2) >>= fun r_43_5 =>
              (laws_toTerm aV3) >>= fun r_43_7 =>
              (impl_EraseValue (r_43_1, r_43_3, r_43_5, r_43_7)) >>= fun (r_43_8_0, r_43_8_1) =>
              (
               (laws_eqTerm (r_43_8_0, r_12_8_0)) >>= fun r_44_2 =>
               if r_44_2 = true then
                some ((!(r_43_8_1 == r_12_8_1)))
               else
                some (true)
              ) >>= fun v_17 =>
              if v_17 = true then
               some false
              else
               (laws_heldTerm ((GTerm.mk r_17_4_0.fOp r_17_4_0.fN o_36_2_0.fType o_36_2_0.fKids), 1)) >>= fun r_47_2 =>
               if (decide (r_47_2 < 0)) = true then
                some false
               else
                if (r_47_2 != r_36_2) = true then
                 some false
                else
                 some true
          else
           some false
         else
          some false
        else
         some false
       else
        some false
def M_laws_FnExactEraseValue (p : GSystem × (List Int) × (List Int) × GTerm) (r : Bool) : Prop :=
 match p with
 | (aS0, aView1, aTy2, aV3) => FnSound Try.prog 7 [aSystem aS0, sI aView1, sI aTy2, aTerm aV3] (.bool r) []
theorem laws_FnExactEraseValue_s : ∀ p r, laws_FnExactEraseValue p = some r → M_laws_FnExactEraseValue p r := by
 rintro ⟨aS0, aView1, aTy2, aV3⟩ r h
 unfold laws_FnExactEraseValue at h
 show FnSound Try.prog 7 [aSystem aS0, sI aView1, sI aTy2, aTerm aV3] (.bool r) []
 refine FnSound.body0 tiok (fn := Try.f7) (code := B7) (by kernel_rfl) (by kernel_rfl) (by kernel_rfl) (by kernel_rfl) (nt := 161) (by kernel_rfl) (by kernel_rfl) (T := [(0, aSystem aS0), (1, sI aView1), (2, sI aTy2), (3, aTerm aV3)]) (O := []) (by kernel_rfl) (by kernel_rfl) (fun c hc => ?_)
 refine sN ?_
 refine rg hc none [some (.new 1), some (.new 2), oN] [(1, sI aView1), (2, sI aTy2), (4, .ra 1 0), (7, .ra 2 0)] [(1, bSystem aS0), (2, bTerm aV3)] trivial ?_
 refine seqQ_norm ?_
 refine sN ?_
 refine sN ?_
 refine rg hc none [oN, some (.eqv (.no) ⟨[(24, I (aView1.length : Int))], [], []⟩), oN] [(1, sI aView1), (2, sI aTy2), (4, .ra 1 0), (7, .ra 2 0), (25, .bool (decide ((aView1.length : Int) > 1048576)))] [(1, bSystem aS0), (2, bTerm aV3)] (ai (lenT (d := 24) I aView1) trivial) ?_
 refine seqQ_norm ?_
 rcases itesome h with ⟨hb_1, h⟩ | ⟨hb_1, h⟩
 ·refine cT ((decide ((aView1.length : Int) > 1048576))) hb_1 ?_
  refine sN ?_
  refine rg0 hc 1 [(8, .bool true)] [] ?_
  refine seqQ_norm ?_
  refine Wp.retN (by kernel_rfl) ?_
  refine seqQ_ret ?_
  obtain rfl := Option.some.inj h
  exact RetQ.ret (fl := [true]) (by kernel_rfl)
 ·refine cF ((decide ((aView1.length : Int) > 1048576))) hb_1 ?_
  refine Wp.skipN (by kernel_rfl) ?_
  refine seqQ_norm ?_
  refine sN ?_
  refine sN ?_
  refine rg hc none [oN, some (.eqv (.no) ⟨[(27, I (aTy2.length : Int))], [], []⟩), oN] [(1, sI aView1), (2, sI aTy2), (4, .ra 1 0), (7, .ra 2 0), (28, .bool (decide ((aTy2.length : Int) > 1048576)))] [(1, bSystem aS0), (2, bTerm aV3)] (ai (lenT (d := 27) I aTy2) trivial) ?_
  refine seqQ_norm ?_
  rcases itesome h with ⟨hb_2, h⟩ | ⟨hb_2, h⟩
  ·refine cT ((decide ((aTy2.length : Int) > 1048576))) hb_2 ?_
   refine sN ?_
   refine rg0 hc 1 [(8, .bool true)] [] ?_
   refine seqQ_norm ?_
   refine Wp.retN (by kernel_rfl) ?_
   refine seqQ_ret ?_
   obtain rfl := Option.some.inj h
   exact RetQ.ret (fl := [true]) (by kernel_rfl)
  ·refine cF ((decide ((aTy2.length : Int) > 1048576))) hb_2 ?_
   refine Wp.skipN (by kernel_rfl) ?_
   refine seqQ_norm ?_
   refine sN ?_
   refine rg0 hc 1 [(1, sI aView1), (2, sI aTy2), (4, .ra 1 0), (7, .ra 2 0), (9, I 1048576)] [(1, bSystem aS0), (2, bTerm aV3)] ?_
   refine seqQ_norm ?_
   refine sN ?_
   obtain ⟨r_6_2, hr_6_2, h⟩ := bsome h
   refine rg hc none [oN, oN, oc (I r_6_2), oN] [(1, sI aView1), (2, sI aTy2), (4, .ra 1 0), (7, .ra 2 0), (9, I r_6_2)] [(1, bSystem aS0), (2, bTerm aV3)] (ai (laws_szSystem_s _ _ hr_6_2) (ai bod_8 (ai (oi (I r_6_2)) trivial))) ?_
   refine seqQ_norm ?_
   refine sN ?_
   refine sN ?_
   refine rg0 hc 2 [(1, sI aView1), (2, sI aTy2), (4, .ra 1 0), (7, .ra 2 0), (9, I r_6_2), (33, .bool (decide (r_6_2 < 0)))] [(1, bSystem aS0), (2, bTerm aV3)] ?_
   refine seqQ_norm ?_
   rcases itesome h with ⟨hb_3, h⟩ | ⟨hb_3, h⟩
   ·refine cT ((decide (r_6_2 < 0))) hb_3 ?_
    refine sN ?_
    refine rg0 hc 1 [(8, .bool true)] [] ?_
    refine seqQ_norm ?_
    refine Wp.retN (by kernel_rfl) ?_
    refine seqQ_ret ?_
    obtain rfl := Option.some.inj h
    exact RetQ.ret (fl := [true]) (by kernel_rfl)
   ·refine cF ((decide (r_6_2 < 0))) hb_3 ?_
    refine Wp.skipN (by kernel_rfl) ?_
    refine seqQ_norm ?_
    refine sN ?_
    obtain ⟨r_9_2, hr_9_2, h⟩ := bsome h
    refine rg hc none [oN, oN, oc (I r_9_2), oN] [(1, sI aView1), (2, sI aTy2), (4, .ra 1 0), (7, .ra 2 0), (9, I r_9_2)] [(1, bSystem aS0), (2, bTerm aV3)] (ai (laws_szTerm_s _ _ hr_9_2) (ai bod_9 (ai (oi (I r_9_2)) trivial))) ?_
    refine seqQ_norm ?_
    refine sN ?_
    refine sN ?_
    refine rg0 hc 2 [(1, sI aView1), (2, sI aTy2), (4, .ra 1 0), (7, .ra 2 0), (38, .bool (decide (r_9_2 < 0)))] [(1, bSystem aS0), (2, bTerm aV3)] ?_
    refine seqQ_norm ?_
    rcases itesome h with ⟨hb_4, h⟩ | ⟨hb_4, h⟩
    ·refine cT ((decide (r_9_2 < 0))) hb_4 ?_
     refine sN ?_
     refine rg0 hc 1 [(8, .bool true)] [] ?_
     refine seqQ_norm ?_
     refine Wp.retN (by kernel_rfl) ?_
     refine seqQ_ret ?_
     obtain rfl := Option.some.inj h
     exact RetQ.ret (fl := [true]) (by kernel_rfl)
    ·refine cF ((decide (r_9_2 < 0))) hb_4 ?_
     refine Wp.skipN (by kernel_rfl) ?_
     refine seqQ_norm ?_
     refine sN ?_
     obtain ⟨r_12_1, hr_12_1, h⟩ := bsome h
     obtain ⟨r_12_3, hr_12_3, h⟩ := bsome h
     obtain ⟨r_12_5, hr_12_5, h⟩ := bsome h
     obtain ⟨r_12_7, hr_12_7, h⟩ := bsome h
     obtain ⟨⟨r_12_8_0, r_12_8_1⟩, hr_12_8, h⟩ := bsome h
     refine rg hc ah13_0 [oN, some (.call (qSystem r_12_1) [] 3), oN, some (.call (.osl (List.map I r_12_3)) [] 6), oN, some (.call (.osl (List.map I r_12_5)) [] 7), oN, some (.call (qTerm r_12_7) [] 8), some (.call (.tup [qTerm r_12_8_0, .bool r_12_8_1]) [] 10), oN, oN, oN, some (.new 12), oN, oN] [(1, sI aView1), (2, sI aTy2), (4, .ra 1 0), (7, .ra 2 0), (10, .ra 12 0), (11, .bool r_12_8_1)] [(1, bSystem aS0), (2, bTerm aV3), (10, .arr (List.map I r_12_8_0.fType)), (11, .arr (List.map GTerm_O r_12_8_0.fKids)), (12, .box [I r_12_8_0.fOp, I r_12_8_0.fN, .rs 10, .rs 11])] (ai (laws_toSystem_s _ _ hr_12_1) (ai bod_11 (ai (oi (qSystem r_12_1)) (ai (laws_toIntS_s _ _ hr_12_3) (ai bod_12 (ai (oi (.osl (List.map I r_12_3))) (ai (laws_toIntS_s _ _ hr_12_5) (ai bod_12 (ai (oi (.osl (List.map I r_12_5))) (ai (laws_toTerm_s _ _ hr_12_7) (ai bod_13 (ai (oi (qTerm r_12_7)) (ai (FnSound.args (A1 := [hSystem r_12_1, .sl (shares (List.map I r_12_3)), .sl (shares (List.map I r_12_5)), hTerm r_12_7]) (A2 := [aSystem r_12_1, sI r_12_3, sI r_12_5, aTerm r_12_7]) (by simp only [sI, sB, aSystem, aTerm, hSystem, hTerm, List.map_nil, sh_B, sh_GTerm_O, sh_I]) (spec_EraseValue_s _ _ hr_12_8)) (ai bod_26 (ai (Or.inr (nsh_cons (nsh_cons rfl (nsh_cons rfl (nsh_cons (nsh_row nsh_I r_12_8_0.fType) (nsh_cons (nsh_row nsh_GTerm_O r_12_8_0.fKids) rfl)))) (nsh_cons rfl rfl)) : ([3, 4, 5, 6, 7, 8, 9] : List Nat) = [] ∨ noSh (.tup [qTerm r_12_8_0, .bool r_12_8_1]) = true) trivial))))))))))))))) ?_
     refine seqQ_norm ?_
     refine sN ?_
     obtain ⟨r_13_1, hr_13_1, h⟩ := bsome h
     refine rg hc none [oN, some (.call (qSystem r_13_1) [] 13), some (.new 16), oN] [(1, sI aView1), (2, sI aTy2), (4, .ra 1 0), (7, .ra 2 0), (10, .ra 12 0), (11, .bool r_12_8_1), (12, .ra 16 0)] [(1, bSystem aS0), (2, bTerm aV3), (10, .arr (List.map I r_12_8_0.fType)), (11, .arr (List.map GTerm_O r_12_8_0.fKids)), (12, .box [I r_12_8_0.fOp, I r_12_8_0.fN, .rs 10, .rs 11]), (13, .arr (List.map I r_13_1.fPlus)), (14, .arr (List.map I r_13_1.fTimes)), (15, .arr (List.map AV.bool r_13_1.fBelow)), (16, .box [I r_13_1.fSize, .rs 13, .rs 14, .rs 15])] (ai (laws_toSystem_s _ _ hr_13_1) (ai bod_11 (ai (oi (qSystem r_13_1)) trivial))) ?_
     refine seqQ_norm ?_
     refine sN ?_
     obtain ⟨r_14_1, hr_14_1, h⟩ := bsome h
     refine rg hc none [oN, some (.call (.osl (List.map I r_14_1)) [] 17), oN] [(1, sI aView1), (2, sI aTy2), (4, .ra 1 0), (7, .ra 2 0), (10, .ra 12 0), (11, .bool r_12_8_1), (12, .ra 16 0), (13, .rs 17)] [(1, bSystem aS0), (2, bTerm aV3), (10, .arr (List.map I r_12_8_0.fType)), (11, .arr (List.map GTerm_O r_12_8_0.fKids)), (12, .box [I r_12_8_0.fOp, I r_12_8_0.fN, .rs 10, .rs 11]), (13, .arr (List.map I r_13_1.fPlus)), (14, .arr (List.map I r_13_1.fTimes)), (15, .arr (List.map AV.bool r_13_1.fBelow)), (16, .box [I r_13_1.fSize, .rs 13, .rs 14, .rs 15]), (17, .arr (List.map I r_14_1))] (ai (laws_toIntS_s _ _ hr_14_1) (ai bod_12 (ai (oi (.osl (List.map I r_14_1))) trivial))) ?_
     refine seqQ_norm ?_
     refine sN ?_
     obtain ⟨r_15_1, hr_15_1, h⟩ := bsome h
     refine rg hc none [oN, some (.call (.osl (List.map I r_15_1)) [] 18), oN] [(1, sI aView1), (2, sI aTy2), (4, .ra 1 0), (7, .ra 2 0), (10, .ra 12 0), (11, .bool r_12_8_1), (12, .ra 16 0), (13, .rs 17), (14, .rs 18)] [(1, bSystem aS0), (2, bTerm aV3), (10, .arr (List.map I r_12_8_0.fType)), (11, .arr (List.map GTerm_O r_12_8_0.fKids)), (12, .box [I r_12_8_0.fOp, I r_12_8_0.fN, .rs 10, .rs 11]), (13, .arr (List.map I r_13_1.fPlus)), (14, .arr (List.map I r_13_1.fTimes)), (15, .arr (List.map AV.bool r_13_1.fBelow)), (16, .box [I r_13_1.fSize, .rs 13, .rs 14, .rs 15]), (17, .arr (List.map I r_14_1)), (18, .arr (List.map I r_15_1))] (ai (laws_toIntS_s _ _ hr_15_1) (ai bod_12 (ai (oi (.osl (List.map I r_15_1))) trivial))) ?_
     refine seqQ_norm ?_
     refine sN ?_
     obtain ⟨r_16_1, hr_16_1, h⟩ := bsome h
     refine rg hc none [oN, some (.call (qTerm r_16_1) [] 19), some (.new 21), oN] [(1, sI aView1), (2, sI aTy2), (4, .ra 1 0), (7, .ra 2 0), (10, .ra 12 0), (11, .bool r_12_8_1), (12, .ra 16 0), (13, .rs 17), (14, .rs 18), (15, .ra 21 0)] [(1, bSystem aS0), (2, bTerm aV3), (10, .arr (List.map I r_12_8_0.fType)), (11, .arr (List.map GTerm_O r_12_8_0.fKids)), (12, .box [I r_12_8_0.fOp, I r_12_8_0.fN, .rs 10, .rs 11]), (13, .arr (List.map I r_13_1.fPlus)), (14, .arr (List.map I r_13_1.fTimes)), (15, .arr (List.map AV.bool r_13_1.fBelow)), (16, .box [I r_13_1.fSize, .rs 13, .rs 14, .rs 15]), (17, .arr (List.map I r_14_1)), (18, .arr (List.map I r_15_1)), (19, .arr (List.map I r_16_1.fType)), (20, .arr (List.map GTerm_O r_16_1.fKids)), (21, .box [I r_16_1.fOp, I r_16_1.fN, .rs 19, .rs 20])] (ai (laws_toTerm_s _ _ hr_16_1) (ai bod_13 (ai (oi (qTerm r_16_1)) trivial))) ?_
     refine seqQ_norm ?_
     refine sN ?_
     obtain ⟨⟨r_17_4_0, r_17_4_1⟩, hr_17_4, h⟩ := bsome h
     refine rg hc none [oN, oN, oN, oN, some (.call (.tup [qTerm r_17_4_0, .bool r_17_4_1]) [] 22), oN, oN, oN, some (.new 24), oN, oN] [(1, sI aView1), (2, sI aTy2), (4, .ra 1 0), (7, .ra 2 0), (10, .ra 12 0), (11, .bool r_12_8_1), (12, .ra 16 0), (13, .rs 17), (14, .rs 18), (15, .ra 21 0), (16, .ra 24 0), (17, .bool r_17_4_1)] [(1, bSystem aS0), (2, bTerm aV3), (10, .arr (List.map I r_12_8_0.fType)), (11, .arr (List.map GTerm_O r_12_8_0.fKids)), (12, .box [I r_12_8_0.fOp, I r_12_8_0.fN, .rs 10, .rs 11]), (13, .arr (List.map I r_13_1.fPlus)), (14, .arr (List.map I r_13_1.fTimes)), (15, .arr (List.map AV.bool r_13_1.fBelow)), (16, .box [I r_13_1.fSize, .rs 13, .rs 14, .rs 15]), (17, .arr (List.map I r_14_1)), (18, .arr (List.map I r_15_1)), (19, .arr (List.map I r_16_1.fType)), (20, .arr (List.map GTerm_O r_16_1.fKids)), (21, .box [I r_16_1.fOp, I r_16_1.fN, .rs 19, .rs 20]), (22, .arr (List.map I r_17_4_0.fType)), (23, .arr (List.map GTerm_O r_17_4_0.fKids)), (24, .box [I r_17_4_0.fOp, I r_17_4_0.fN, .rs 22, .rs 23])] (ai (FnSound.args (A1 := [hSystem r_13_1, .sl (shares (List.map I r_14_1)), .sl (shares (List.map I r_15_1)), hTerm r_16_1]) (A2 := [aSystem r_13_1, sI r_14_1, sI r_15_1, aTerm r_16_1]) (by simp only [sI, sB, aSystem, aTerm, hSystem, hTerm, List.map_nil, sh_B, sh_GTerm_O, sh_I]) (impl_EraseValue_s _ _ hr_17_4)) (ai bod_27 (ai (Or.inr (nsh_cons (nsh_cons rfl (nsh_cons rfl (nsh_cons (nsh_row nsh_I r_17_4_0.fType) (nsh_cons (nsh_row nsh_GTerm_O r_17_4_0.fKids) rfl)))) (nsh_cons rfl rfl)) : ([13, 14, 15, 17, 18, 19, 20] : List Nat) = [] ∨ noSh (.tup [qTerm r_17_4_0, .bool r_17_4_1]) = true) trivial))) ?_
     refine seqQ_norm ?_
     refine sN ?_
     refine sN ?_
     obtain ⟨v_5, hj_6, h⟩ := bsome h
     refine Wp.into (x := .normal) (mkS [(1, sI aView1), (2, sI aTy2), (4, .ra 1 0), (7, .ra 2 0), (10, .ra 12 0), (11, .bool r_12_8_1), (12, .ra 16 0), (13, .rs 17), (14, .rs 18), (15, .ra 21 0), (16, .ra 24 0), (17, .bool r_17_4_1), (75, .bool v_5)] [(1, bSystem aS0), (2, bTerm aV3), (10, .arr (List.map I r_12_8_0.fType)), (11, .arr (List.map GTerm_O r_12_8_0.fKids)), (12, .box [I r_12_8_0.fOp, I r_12_8_0.fN, .rs 10, .rs 11]), (13, .arr (List.map I r_13_1.fPlus)), (14, .arr (List.map I r_13_1.fTimes)), (15, .arr (List.map AV.bool r_13_1.fBelow)), (16, .box [I r_13_1.fSize, .rs 13, .rs 14, .rs 15]), (17, .arr (List.map I r_14_1)), (18, .arr (List.map I r_15_1)), (19, .arr (List.map I r_16_1.fType)), (20, .arr (List.map GTerm_O r_16_1.fKids)), (21, .box [I r_16_1.fOp, I r_16_1.fN, .rs 19, .rs 20]), (22, .arr (List.map I r_17_4_0.fType)), (23, .arr (List.map GTerm_O r_17_4_0.fKids)), (24, .box [I r_17_4_0.fOp, I r_17_4_0.fN, .rs 22, .rs 23])]) ?_ ?_
     ·replace h := hj_6
      obtain ⟨r_18_2, hr_18_2, h⟩ := bsome h
      rcases itesome h with ⟨hb_18_0, h⟩ | ⟨hb_18_0, h⟩
      ·refine rg hc none [oN, oN, oc (.bool r_18_2), oN, oN, oN, oN, oN, oF] [(1, sI aView1), (2, sI aTy2), (4, .ra 1 0), (7, .ra 2 0), (10, .ra 12 0), (11, .bool r_12_8_1), (12, .ra 16 0), (13, .rs 17), (14, .rs 18), (15, .ra 21 0), (16, .ra 24 0), (17, .bool r_17_4_1), (75, .bool (!(r_17_4_1 == r_12_8_1)))] [(1, bSystem aS0), (2, bTerm aV3), (10, .arr (List.map I r_12_8_0.fType)), (11, .arr (List.map GTerm_O r_12_8_0.fKids)), (12, .box [I r_12_8_0.fOp, I r_12_8_0.fN, .rs 10, .rs 11]), (13, .arr (List.map I r_13_1.fPlus)), (14, .arr (List.map I r_13_1.fTimes)), (15, .arr (List.map AV.bool r_13_1.fBelow)), (16, .box [I r_13_1.fSize, .rs 13, .rs 14, .rs 15]), (17, .arr (List.map I r_14_1)), (18, .arr (List.map I r_15_1)), (19, .arr (List.map I r_16_1.fType)), (20, .arr (List.map GTerm_O r_16_1.fKids)), (21, .box [I r_16_1.fOp, I r_16_1.fN, .rs 19, .rs 20]), (22, .arr (List.map I r_17_4_0.fType)), (23, .arr (List.map GTerm_O r_17_4_0.fKids)), (24, .box [I r_17_4_0.fOp, I r_17_4_0.fN, .rs 22, .rs 23])] (ai (FnSound.args (A1 := [hTerm r_17_4_0, hTerm r_12_8_0]) (A2 := [aTerm r_17_4_0, aTerm r_12_8_0]) (by simp only [sI, sB, aSystem, aTerm, hSystem, hTerm, List.map_nil, sh_GTerm_O, sh_I]) (laws_eqTerm_s _ _ hr_18_2)) (ai bod_17 (ai (Or.inr rfl : ([22, 23, 10, 11] : List Nat) = [] ∨ noSh (.bool r_18_2) = true) (ar 4 (nF hb_18_0) trivial)))) ?_
       obtain rfl := Option.some.inj h
       exact Into.mk
      ·refine rg hc none [oN, oN, oc (.bool r_18_2), oN, oN, o_, o_, o_, oT] [(1, sI aView1), (2, sI aTy2), (4, .ra 1 0), (7, .ra 2 0), (10, .ra 12 0), (11, .bool r_12_8_1), (12, .ra 16 0), (13, .rs 17), (14, .rs 18), (15, .ra 21 0), (16, .ra 24 0), (17, .bool r_17_4_1), (75, .bool true)] [(1, bSystem aS0), (2, bTerm aV3), (10, .arr (List.map I r_12_8_0.fType)), (11, .arr (List.map GTerm_O r_12_8_0.fKids)), (12, .box [I r_12_8_0.fOp, I r_12_8_0.fN, .rs 10, .rs 11]), (13, .arr (List.map I r_13_1.fPlus)), (14, .arr (List.map I r_13_1.fTimes)), (15, .arr (List.map AV.bool r_13_1.fBelow)), (16, .box [I r_13_1.fSize, .rs 13, .rs 14, .rs 15]), (17, .arr (List.map I r_14_1)), (18, .arr (List.map I r_15_1)), (19, .arr (List.map I r_16_1.fType)), (20, .arr (List.map GTerm_O r_16_1.fKids)), (21, .box [I r_16_1.fOp, I r_16_1.fN, .rs 19, .rs 20]), (22, .arr (List.map I r_17_4_0.fType)), (23, .arr (List.map GTerm_O r_17_4_0.fKids)), (24, .box [I r_17_4_0.fOp, I r_17_4_0.fN, .rs 22, .rs 23])] (ai (FnSound.args (A1 := [hTerm r_17_4_0, hTerm r_12_8_0]) (A2 := [aTerm r_17_4_0, aTerm r_12_8_0]) (by simp only [sI, sB, aSystem, aTerm, hSystem, hTerm, List.map_nil, sh_GTerm_O, sh_I]) (laws_eqTerm_s _ _ hr_18_2)) (ai bod_17 (ai (Or.inr rfl : ([22, 23, 10, 11] : List Nat) = [] ∨ noSh (.bool r_18_2) = true) (ar 3 (neF (nT hb_18_0)) (ai (nT hb_18_0) trivial))))) ?_
       obtain rfl := Option.some.inj h
       exact Into.mk
     ·clear hj_6
      refine seqQ_norm ?_
      rcases itesome h with ⟨hb_7, h⟩ | ⟨hb_7, h⟩
      ·refine cT v_5 hb_7 ?_
       refine sN ?_
       refine rg0 hc 1 [(8, .bool false)] [] ?_
       refine seqQ_norm ?_
       refine Wp.retN (by kernel_rfl) ?_
       refine seqQ_ret ?_
       obtain rfl := Option.some.inj h
       exact RetQ.ret (fl := [true]) (by kernel_rfl)
      ·refine cF v_5 hb_7 ?_
       refine Wp.skipN (by kernel_rfl) ?_
       refine seqQ_norm ?_
       refine sN ?_
       refine sN ?_
       obtain ⟨r_20_2, hr_20_2, h⟩ := bsome h
       obtain ⟨r_20_3, hr_20_3, h⟩ := bsome h
       refine rg hc ah13_1 [oN, oN, some (.call (qSystem r_20_2) [] 25), oc (.bool r_20_3), oN] [(1, sI aView1), (2, sI aTy2), (4, .ra 1 0), (7, .ra 2 0), (10, .ra 12 0), (11, .bool r_12_8_1), (12, .ra 16 0), (13, .rs 17), (14, .rs 18), (15, .ra 21 0), (16, .ra 24 0), (17, .bool r_17_4_1), (80, .bool (!r_20_3))] [(1, bSystem aS0), (2, bTerm aV3), (10, .arr (List.map I r_12_8_0.fType)), (11, .arr (List.map GTerm_O r_12_8_0.fKids)), (12, .box [I r_12_8_0.fOp, I r_12_8_0.fN, .rs 10, .rs 11]), (13, .arr (List.map I r_13_1.fPlus)), (14, .arr (List.map I r_13_1.fTimes)), (15, .arr (List.map AV.bool r_13_1.fBelow)), (16, .box [I r_13_1.fSize, .rs 13, .rs 14, .rs 15]), (17, .arr (List.map I r_14_1)), (18, .arr (List.map I r_15_1)), (19, .arr (List.map I r_16_1.fType)), (20, .arr (List.map GTerm_O r_16_1.fKids)), (21, .box [I r_16_1.fOp, I r_16_1.fN, .rs 19, .rs 20]), (22, .arr (List.map I r_17_4_0.fType)), (23, .arr (List.map GTerm_O r_17_4_0.fKids)), (24, .box [I r_17_4_0.fOp, I r_17_4_0.fN, .rs 22, .rs 23])] (ai (laws_toSystem_s _ _ hr_20_2) (ai bod_11 (ai (oi (qSystem r_20_2)) (ai (FnSound.args (A1 := [hSystem r_13_1, hSystem r_20_2]) (A2 := [aSystem r_13_1, aSystem r_20_2]) (by simp only [sI, sB, aSystem, aTerm, hSystem, hTerm, List.map_nil, sh_B, sh_I]) (laws_eqSystem_s _ _ hr_20_3)) (ai bod_15 (ai (Or.inr rfl : ([13, 14, 15, 25, 26, 27] : List Nat) = [] ∨ noSh (.bool r_20_3) = true) trivial)))))) ?_
       refine seqQ_norm ?_
       rcases itesome h with ⟨hb_8, h⟩ | ⟨hb_8, h⟩
       ·refine cF (!r_20_3) (nF hb_8) ?_
        refine Wp.skipN (by kernel_rfl) ?_
        refine seqQ_norm ?_
        refine sN ?_
        refine sN ?_
        obtain ⟨r_22_2, hr_22_2, h⟩ := bsome h
        obtain ⟨r_22_3, hr_22_3, h⟩ := bsome h
        refine rg hc none [oN, oN, some (.call (.osl (List.map I r_22_2)) [] 28), oc (.bool r_22_3), oN] [(1, sI aView1), (2, sI aTy2), (4, .ra 1 0), (7, .ra 2 0), (10, .ra 12 0), (11, .bool r_12_8_1), (12, .ra 16 0), (13, .rs 17), (14, .rs 18), (15, .ra 21 0), (16, .ra 24 0), (17, .bool r_17_4_1), (85, .bool (!r_22_3))] [(1, bSystem aS0), (2, bTerm aV3), (10, .arr (List.map I r_12_8_0.fType)), (11, .arr (List.map GTerm_O r_12_8_0.fKids)), (12, .box [I r_12_8_0.fOp, I r_12_8_0.fN, .rs 10, .rs 11]), (13, .arr (List.map I r_13_1.fPlus)), (14, .arr (List.map I r_13_1.fTimes)), (15, .arr (List.map AV.bool r_13_1.fBelow)), (16, .box [I r_13_1.fSize, .rs 13, .rs 14, .rs 15]), (17, .arr (List.map I r_14_1)), (18, .arr (List.map I r_15_1)), (19, .arr (List.map I r_16_1.fType)), (20, .arr (List.map GTerm_O r_16_1.fKids)), (21, .box [I r_16_1.fOp, I r_16_1.fN, .rs 19, .rs 20]), (22, .arr (List.map I r_17_4_0.fType)), (23, .arr (List.map GTerm_O r_17_4_0.fKids)), (24, .box [I r_17_4_0.fOp, I r_17_4_0.fN, .rs 22, .rs 23])] (ai (laws_toIntS_s _ _ hr_22_2) (ai bod_12 (ai (oi (.osl (List.map I r_22_2))) (ai (FnSound.args (A1 := [.sl (shares (List.map I r_14_1)), .sl (shares (List.map I r_22_2))]) (A2 := [sI r_14_1, sI r_22_2]) (by simp only [sI, sB, aSystem, aTerm, hSystem, hTerm, List.map_nil, sh_I]) (laws_eqIntS_s _ _ hr_22_3)) (ai bod_16 (ai (Or.inr rfl : ([17, 28] : List Nat) = [] ∨ noSh (.bool r_22_3) = true) trivial)))))) ?_
        refine seqQ_norm ?_
        rcases itesome h with ⟨hb_9, h⟩ | ⟨hb_9, h⟩
        ·refine cF (!r_22_3) (nF hb_9) ?_
         refine Wp.skipN (by kernel_rfl) ?_
         refine seqQ_norm ?_
         refine sN ?_
         refine sN ?_
         obtain ⟨r_24_2, hr_24_2, h⟩ := bsome h
         obtain ⟨r_24_3, hr_24_3, h⟩ := bsome h
         refine rg hc none [oN, oN, some (.call (.osl (List.map I r_24_2)) [] 29), oc (.bool r_24_3), oN] [(1, sI aView1), (2, sI aTy2), (4, .ra 1 0), (7, .ra 2 0), (10, .ra 12 0), (11, .bool r_12_8_1), (12, .ra 16 0), (13, .rs 17), (14, .rs 18), (15, .ra 21 0), (16, .ra 24 0), (17, .bool r_17_4_1), (90, .bool (!r_24_3))] [(1, bSystem aS0), (2, bTerm aV3), (10, .arr (List.map I r_12_8_0.fType)), (11, .arr (List.map GTerm_O r_12_8_0.fKids)), (12, .box [I r_12_8_0.fOp, I r_12_8_0.fN, .rs 10, .rs 11]), (13, .arr (List.map I r_13_1.fPlus)), (14, .arr (List.map I r_13_1.fTimes)), (15, .arr (List.map AV.bool r_13_1.fBelow)), (16, .box [I r_13_1.fSize, .rs 13, .rs 14, .rs 15]), (17, .arr (List.map I r_14_1)), (18, .arr (List.map I r_15_1)), (19, .arr (List.map I r_16_1.fType)), (20, .arr (List.map GTerm_O r_16_1.fKids)), (21, .box [I r_16_1.fOp, I r_16_1.fN, .rs 19, .rs 20]), (22, .arr (List.map I r_17_4_0.fType)), (23, .arr (List.map GTerm_O r_17_4_0.fKids)), (24, .box [I r_17_4_0.fOp, I r_17_4_0.fN, .rs 22, .rs 23])] (ai (laws_toIntS_s _ _ hr_24_2) (ai bod_12 (ai (oi (.osl (List.map I r_24_2))) (ai (FnSound.args (A1 := [.sl (shares (List.map I r_15_1)), .sl (shares (List.map I r_24_2))]) (A2 := [sI r_15_1, sI r_24_2]) (by simp only [sI, sB, aSystem, aTerm, hSystem, hTerm, List.map_nil, sh_I]) (laws_eqIntS_s _ _ hr_24_3)) (ai bod_16 (ai (Or.inr rfl : ([18, 29] : List Nat) = [] ∨ noSh (.bool r_24_3) = true) trivial)))))) ?_
         refine seqQ_norm ?_
         rcases itesome h with ⟨hb_10, h⟩ | ⟨hb_10, h⟩
         ·refine cF (!r_24_3) (nF hb_10) ?_
          refine Wp.skipN (by kernel_rfl) ?_
          refine seqQ_norm ?_
          refine sN ?_
          refine sN ?_
          obtain ⟨r_26_2, hr_26_2, h⟩ := bsome h
          obtain ⟨r_26_3, hr_26_3, h⟩ := bsome h
          refine rg hc ah13_1 [oN, oN, some (.call (qTerm r_26_2) [] 30), oc (.bool r_26_3), oN] [(1, sI aView1), (2, sI aTy2), (4, .ra 1 0), (7, .ra 2 0), (10, .ra 12 0), (11, .bool r_12_8_1), (12, .ra 16 0), (13, .rs 17), (14, .rs 18), (15, .ra 21 0), (16, .ra 24 0), (17, .bool r_17_4_1), (95, .bool (!r_26_3))] [(1, bSystem aS0), (2, bTerm aV3), (10, .arr (List.map I r_12_8_0.fType)), (11, .arr (List.map GTerm_O r_12_8_0.fKids)), (12, .box [I r_12_8_0.fOp, I r_12_8_0.fN, .rs 10, .rs 11]), (13, .arr (List.map I r_13_1.fPlus)), (14, .arr (List.map I r_13_1.fTimes)), (15, .arr (List.map AV.bool r_13_1.fBelow)), (16, .box [I r_13_1.fSize, .rs 13, .rs 14, .rs 15]), (17, .arr (List.map I r_14_1)), (18, .arr (List.map I r_15_1)), (19, .arr (List.map I r_16_1.fType)), (20, .arr (List.map GTerm_O r_16_1.fKids)), (21, .box [I r_16_1.fOp, I r_16_1.fN, .rs 19, .rs 20]), (22, .arr (List.map I r_17_4_0.fType)), (23, .arr (List.map GTerm_O r_17_4_0.fKids)), (24, .box [I r_17_4_0.fOp, I r_17_4_0.fN, .rs 22, .rs 23])] (ai (laws_toTerm_s _ _ hr_26_2) (ai bod_13 (ai (oi (qTerm r_26_2)) (ai (FnSound.args (A1 := [hTerm r_16_1, hTerm r_26_2]) (A2 := [aTerm r_16_1, aTerm r_26_2]) (by simp only [sI, sB, aSystem, aTerm, hSystem, hTerm, List.map_nil, sh_GTerm_O, sh_I]) (laws_eqTerm_s _ _ hr_26_3)) (ai bod_17 (ai (Or.inr rfl : ([19, 20, 30, 31] : List Nat) = [] ∨ noSh (.bool r_26_3) = true) trivial)))))) ?_
          refine seqQ_norm ?_
          rcases itesome h with ⟨hb_11, h⟩ | ⟨hb_11, h⟩
          ·refine cF (!r_26_3) (nF hb_11) ?_
           refine Wp.skipN (by kernel_rfl) ?_
           refine seqQ_norm ?_
           refine sN ?_
           refine rg0 hc 1 [(1, sI aView1), (2, sI aTy2), (4, .ra 1 0), (7, .ra 2 0), (10, .ra 12 0), (11, .bool r_12_8_1), (12, .ra 16 0), (13, .rs 17), (14, .rs 18), (15, .ra 21 0), (16, .ra 24 0), (17, .bool r_17_4_1), (18, I 1)] [(1, bSystem aS0), (2, bTerm aV3), (10, .arr (List.map I r_12_8_0.fType)), (11, .arr (List.map GTerm_O r_12_8_0.fKids)), (12, .box [I r_12_8_0.fOp, I r_12_8_0.fN, .rs 10, .rs 11]), (13, .arr (List.map I r_13_1.fPlus)), (14, .arr (List.map I r_13_1.fTimes)), (15, .arr (List.map AV.bool r_13_1.fBelow)), (16, .box [I r_13_1.fSize, .rs 13, .rs 14, .rs 15]), (17, .arr (List.map I r_14_1)), (18, .arr (List.map I r_15_1)), (19, .arr (List.map I r_16_1.fType)), (20, .arr (List.map GTerm_O r_16_1.fKids)), (21, .box [I r_16_1.fOp, I r_16_1.fN, .rs 19, .rs 20]), (22, .arr (List.map I r_17_4_0.fType)), (23, .arr (List.map GTerm_O r_17_4_0.fKids)), (24, .box [I r_17_4_0.fOp, I r_17_4_0.fN, .rs 22, .rs 23])] ?_
           refine seqQ_norm ?_
           refine sN ?_
           obtain ⟨⟨r_29_2, o_29_2_0⟩, hr_29_2, h⟩ := bsome h
           refine rg hc none [oN, oN, some (.call (I r_29_2) [.agg [.undef, .osl (List.map I o_29_2_0.fPlus), .osl (List.map I o_29_2_0.fTimes), .osl (List.map AV.bool o_29_2_0.fBelow)], .undef] 1), oN] [(1, sI aView1), (2, sI aTy2), (4, .ra 1 0), (7, .ra 2 0), (10, .ra 12 0), (11, .bool r_12_8_1), (13, .rs 17), (14, .rs 18), (15, .ra 21 0), (16, .ra 24 0), (17, .bool r_17_4_1), (18, I r_29_2)] [(1, bSystem aS0), (2, bTerm aV3), (10, .arr (List.map I r_12_8_0.fType)), (11, .arr (List.map GTerm_O r_12_8_0.fKids)), (12, .box [I r_12_8_0.fOp, I r_12_8_0.fN, .rs 10, .rs 11]), (17, .arr (List.map I r_14_1)), (18, .arr (List.map I r_15_1)), (19, .arr (List.map I r_16_1.fType)), (20, .arr (List.map GTerm_O r_16_1.fKids)), (21, .box [I r_16_1.fOp, I r_16_1.fN, .rs 19, .rs 20]), (22, .arr (List.map I r_17_4_0.fType)), (23, .arr (List.map GTerm_O r_17_4_0.fKids)), (24, .box [I r_17_4_0.fOp, I r_17_4_0.fN, .rs 22, .rs 23])] (ai (laws_markSystem_s _ _ hr_29_2) (ai bod_28 trivial)) ?_
           refine seqQ_norm ?_
           refine sN ?_
           obtain ⟨⟨r_30_2, o_30_2_0⟩, hr_30_2, h⟩ := bsome h
           refine rg hc none [oN, oN, some (.call (I r_30_2) [.osl (List.map I o_30_2_0), .undef] 1), oN] [(1, sI aView1), (2, sI aTy2), (4, .ra 1 0), (7, .ra 2 0), (10, .ra 12 0), (11, .bool r_12_8_1), (14, .rs 18), (15, .ra 21 0), (16, .ra 24 0), (17, .bool r_17_4_1), (18, I r_30_2)] [(1, bSystem aS0), (2, bTerm aV3), (10, .arr (List.map I r_12_8_0.fType)), (11, .arr (List.map GTerm_O r_12_8_0.fKids)), (12, .box [I r_12_8_0.fOp, I r_12_8_0.fN, .rs 10, .rs 11]), (18, .arr (List.map I r_15_1)), (19, .arr (List.map I r_16_1.fType)), (20, .arr (List.map GTerm_O r_16_1.fKids)), (21, .box [I r_16_1.fOp, I r_16_1.fN, .rs 19, .rs 20]), (22, .arr (List.map I r_17_4_0.fType)), (23, .arr (List.map GTerm_O r_17_4_0.fKids)), (24, .box [I r_17_4_0.fOp, I r_17_4_0.fN, .rs 22, .rs 23])] (ai (laws_markIntS_s _ _ hr_30_2) (ai bod_29 trivial)) ?_
           refine seqQ_norm ?_
           refine sN ?_
           obtain ⟨⟨r_31_2, o_31_2_0⟩, hr_31_2, h⟩ := bsome h
           refine rg hc none [oN, oN, some (.call (I r_31_2) [.osl (List.map I o_31_2_0), .undef] 1), oN] [(1, sI aView1), (2, sI aTy2), (4, .ra 1 0), (7, .ra 2 0), (10, .ra 12 0), (11, .bool r_12_8_1), (15, .ra 21 0), (16, .ra 24 0), (17, .bool r_17_4_1), (18, I r_31_2)] [(1, bSystem aS0), (2, bTerm aV3), (10, .arr (List.map I r_12_8_0.fType)), (11, .arr (List.map GTerm_O r_12_8_0.fKids)), (12, .box [I r_12_8_0.fOp, I r_12_8_0.fN, .rs 10, .rs 11]), (19, .arr (List.map I r_16_1.fType)), (20, .arr (List.map GTerm_O r_16_1.fKids)), (21, .box [I r_16_1.fOp, I r_16_1.fN, .rs 19, .rs 20]), (22, .arr (List.map I r_17_4_0.fType)), (23, .arr (List.map GTerm_O r_17_4_0.fKids)), (24, .box [I r_17_4_0.fOp, I r_17_4_0.fN, .rs 22, .rs 23])] (ai (laws_markIntS_s _ _ hr_31_2) (ai bod_29 trivial)) ?_
           refine seqQ_norm ?_
           refine sN ?_
           obtain ⟨⟨r_32_2, o_32_2_0⟩, hr_32_2, h⟩ := bsome h
           refine rg hc none [oN, oN, some (.call (I r_32_2) [.agg [.undef, .undef, .osl (List.map I o_32_2_0.fType), .osl (List.map GTerm_O o_32_2_0.fKids)], .undef] 1), oN] [(1, sI aView1), (2, sI aTy2), (4, .ra 1 0), (7, .ra 2 0), (10, .ra 12 0), (11, .bool r_12_8_1), (16, .ra 24 0), (17, .bool r_17_4_1), (18, I r_32_2)] [(1, bSystem aS0), (2, bTerm aV3), (10, .arr (List.map I r_12_8_0.fType)), (11, .arr (List.map GTerm_O r_12_8_0.fKids)), (12, .box [I r_12_8_0.fOp, I r_12_8_0.fN, .rs 10, .rs 11]), (22, .arr (List.map I r_17_4_0.fType)), (23, .arr (List.map GTerm_O r_17_4_0.fKids)), (24, .box [I r_17_4_0.fOp, I r_17_4_0.fN, .rs 22, .rs 23])] (ai (laws_markTerm_s _ _ hr_32_2) (ai bod_22 trivial)) ?_
           refine seqQ_norm ?_
           refine sN ?_
           refine sN ?_
           obtain ⟨v_12, hj_13, h⟩ := bsome h
           refine Wp.into (x := .normal) (mkS [(1, sI aView1), (2, sI aTy2), (4, .ra 1 0), (7, .ra 2 0), (10, .ra 12 0), (11, .bool r_12_8_1), (16, .ra 24 0), (120, .bool v_12)] [(1, bSystem aS0), (2, bTerm aV3), (10, .arr (List.map I r_12_8_0.fType)), (11, .arr (List.map GTerm_O r_12_8_0.fKids)), (12, .box [I r_12_8_0.fOp, I r_12_8_0.fN, .rs 10, .rs 11]), (22, .arr (List.map I r_17_4_0.fType)), (23, .arr (List.map GTerm_O r_17_4_0.fKids)), (24, .box [I r_17_4_0.fOp, I r_17_4_0.fN, .rs 22, .rs 23])]) ?_ ?_
           ·replace h := hj_13
            rcases itesome h with ⟨hb_33_0, h⟩ | ⟨hb_33_0, h⟩
            ·refine rg hc none [oN, oN, oN, o_, o_, o_, o_, oT, oN, o_, o_, o_, oT] [(1, sI aView1), (2, sI aTy2), (4, .ra 1 0), (7, .ra 2 0), (10, .ra 12 0), (11, .bool r_12_8_1), (16, .ra 24 0), (120, .bool true)] [(1, bSystem aS0), (2, bTerm aV3), (10, .arr (List.map I r_12_8_0.fType)), (11, .arr (List.map GTerm_O r_12_8_0.fKids)), (12, .box [I r_12_8_0.fOp, I r_12_8_0.fN, .rs 10, .rs 11]), (22, .arr (List.map I r_17_4_0.fType)), (23, .arr (List.map GTerm_O r_17_4_0.fKids)), (24, .box [I r_17_4_0.fOp, I r_17_4_0.fN, .rs 22, .rs 23])] (ar 4 (neF hb_33_0) (ai hb_33_0 (ar 3 nf (ai tt trivial)))) ?_
             obtain rfl := Option.some.inj h
             exact Into.mk
            ·obtain ⟨r_33_5, hr_33_5, h⟩ := bsome h
             rcases itesome h with ⟨hb_33_1, h⟩ | ⟨hb_33_1, h⟩
             ·refine rg hc none [oN, oN, oN, oN, oN, oc (.bool r_33_5), oN, oF, oN, oN, oN, oN, oF] [(1, sI aView1), (2, sI aTy2), (4, .ra 1 0), (7, .ra 2 0), (10, .ra 12 0), (11, .bool r_12_8_1), (16, .ra 24 0), (120, .bool (!(r_17_4_1 == r_12_8_1)))] [(1, bSystem aS0), (2, bTerm aV3), (10, .arr (List.map I r_12_8_0.fType)), (11, .arr (List.map GTerm_O r_12_8_0.fKids)), (12, .box [I r_12_8_0.fOp, I r_12_8_0.fN, .rs 10, .rs 11]), (22, .arr (List.map I r_17_4_0.fType)), (23, .arr (List.map GTerm_O r_17_4_0.fKids)), (24, .box [I r_17_4_0.fOp, I r_17_4_0.fN, .rs 22, .rs 23])] (ar 3 hb_33_0 (ai (FnSound.args (A1 := [hTerm r_17_4_0, hTerm r_12_8_0]) (A2 := [aTerm r_17_4_0, aTerm r_12_8_0]) (by simp only [sI, sB, aSystem, aTerm, hSystem, hTerm, List.map_nil, sh_GTerm_O, sh_I]) (laws_eqTerm_s _ _ hr_33_5)) (ai bod_17 (ai (Or.inr rfl : ([22, 23, 10, 11] : List Nat) = [] ∨ noSh (.bool r_33_5) = true) (ar 2 hb_33_0 (ar 4 (nF hb_33_1) trivial)))))) ?_
              obtain rfl := Option.some.inj h
              exact Into.mk
             ·refine rg hc none [oN, oN, oN, oN, oN, oc (.bool r_33_5), oN, oF, oN, o_, o_, o_, oT] [(1, sI aView1), (2, sI aTy2), (4, .ra 1 0), (7, .ra 2 0), (10, .ra 12 0), (11, .bool r_12_8_1), (16, .ra 24 0), (120, .bool true)] [(1, bSystem aS0), (2, bTerm aV3), (10, .arr (List.map I r_12_8_0.fType)), (11, .arr (List.map GTerm_O r_12_8_0.fKids)), (12, .box [I r_12_8_0.fOp, I r_12_8_0.fN, .rs 10, .rs 11]), (22, .arr (List.map I r_17_4_0.fType)), (23, .arr (List.map GTerm_O r_17_4_0.fKids)), (24, .box [I r_17_4_0.fOp, I r_17_4_0.fN, .rs 22, .rs 23])] (ar 3 hb_33_0 (ai (FnSound.args (A1 := [hTerm r_17_4_0, hTerm r_12_8_0]) (A2 := [aTerm r_17_4_0, aTerm r_12_8_0]) (by simp only [sI, sB, aSystem, aTerm, hSystem, hTerm, List.map_nil, sh_GTerm_O, sh_I]) (laws_eqTerm_s _ _ hr_33_5)) (ai bod_17 (ai (Or.inr rfl : ([22, 23, 10, 11] : List Nat) = [] ∨ noSh (.bool r_33_5) = true) (ar 2 hb_33_0 (ar 3 (neF (nT hb_33_1)) (ai (nT hb_33_1) trivial))))))) ?_
              obtain rfl := Option.some.inj h
              exact Into.mk
           ·clear hj_13
            refine seqQ_norm ?_
            rcases itesome h with ⟨hb_14, h⟩ | ⟨hb_14, h⟩
            ·refine cT v_12 hb_14 ?_
             refine sN ?_
             refine rg0 hc 1 [(8, .bool false)] [] ?_
             refine seqQ_norm ?_
             refine Wp.retN (by kernel_rfl) ?_
             refine seqQ_ret ?_
             obtain rfl := Option.some.inj h
             exact RetQ.ret (fl := [true]) (by kernel_rfl)
            ·refine cF v_12 hb_14 ?_
             refine Wp.skipN (by kernel_rfl) ?_
             refine seqQ_norm ?_
             refine sN ?_
             refine rg0 hc 1 [(1, sI aView1), (2, sI aTy2), (4, .ra 1 0), (7, .ra 2 0), (10, .ra 12 0), (11, .bool r_12_8_1), (16, .ra 24 0), (19, I 1)] [(1, bSystem aS0), (2, bTerm aV3), (10, .arr (List.map I r_12_8_0.fType)), (11, .arr (List.map GTerm_O r_12_8_0.fKids)), (12, .box [I r_12_8_0.fOp, I r_12_8_0.fN, .rs 10, .rs 11]), (22, .arr (List.map I r_17_4_0.fType)), (23, .arr (List.map GTerm_O r_17_4_0.fKids)), (24, .box [I r_17_4_0.fOp, I r_17_4_0.fN, .rs 22, .rs 23])] ?_
             refine seqQ_norm ?_
             refine sN ?_
             obtain ⟨⟨r_36_2, o_36_2_0⟩, hr_36_2, h⟩ := bsome h
             refine rg hc none [oN, oN, some (.call (I r_36_2) [.agg [.undef, .undef, .osl (List.map I o_36_2_0.fType), .osl (List.map GTerm_O o_36_2_0.fKids)], .undef] 1), oN] [(1, sI aView1), (2, sI aTy2), (4, .ra 1 0), (7, .ra 2 0), (10, .ra 12 0), (11, .bool r_12_8_1), (16, .ra 24 0), (19, I r_36_2)] [(1, bSystem aS0), (2, bTerm aV3), (10, .arr (List.map I r_12_8_0.fType)), (11, .arr (List.map GTerm_O r_12_8_0.fKids)), (12, .box [I r_12_8_0.fOp, I r_12_8_0.fN, .rs 10, .rs 11]), (22, .arr (List.map I o_36_2_0.fType)), (23, .arr (List.map GTerm_O o_36_2_0.fKids)), (24, .box [I r_17_4_0.fOp, I r_17_4_0.fN, .rs 22, .rs 23])] (ai (laws_markTerm_s _ _ hr_36_2) (ai bod_22 trivial)) ?_
             refine seqQ_norm ?_
             refine sN ?_
             refine rg0 hc 1 [(1, sI aView1), (2, sI aTy2), (4, .ra 1 0), (7, .ra 2 0), (10, .ra 12 0), (11, .bool r_12_8_1), (16, .ra 24 0), (19, I r_36_2), (20, I 1)] [(1, bSystem aS0), (2, bTerm aV3), (10, .arr (List.map I r_12_8_0.fType)), (11, .arr (List.map GTerm_O r_12_8_0.fKids)), (12, .box [I r_12_8_0.fOp, I r_12_8_0.fN, .rs 10, .rs 11]), (22, .arr (List.map I o_36_2_0.fType)), (23, .arr (List.map GTerm_O o_36_2_0.fKids)), (24, .box [I r_17_4_0.fOp, I r_17_4_0.fN, .rs 22, .rs 23])] ?_
             refine seqQ_norm ?_
             refine sN ?_
             obtain ⟨r_38_2, hr_38_2, h⟩ := bsome h
             refine rg hc none [oN, oN, oc (I r_38_2), oN] [(1, sI aView1), (2, sI aTy2), (4, .ra 1 0), (7, .ra 2 0), (10, .ra 12 0), (11, .bool r_12_8_1), (16, .ra 24 0), (19, I r_36_2), (20, I r_38_2)] [(1, bSystem aS0), (2, bTerm aV3), (10, .arr (List.map I r_12_8_0.fType)), (11, .arr (List.map GTerm_O r_12_8_0.fKids)), (12, .box [I r_12_8_0.fOp, I r_12_8_0.fN, .rs 10, .rs 11]), (22, .arr (List.map I o_36_2_0.fType)), (23, .arr (List.map GTerm_O o_36_2_0.fKids)), (24, .box [I r_17_4_0.fOp, I r_17_4_0.fN, .rs 22, .rs 23])] (ai (FnSound.args (A1 := [.agg [I r_17_4_0.fOp, I r_17_4_0.fN, .sl (shares (List.map I o_36_2_0.fType)), .sl (shares (List.map GTerm_O o_36_2_0.fKids))], I 1]) (A2 := [.agg [I r_17_4_0.fOp, I r_17_4_0.fN, sI o_36_2_0.fType, .sl (List.map GTerm_S o_36_2_0.fKids)], I 1]) (by simp only [sI, sB, aSystem, aTerm, hSystem, hTerm, List.map_nil, sh_GTerm_O, sh_I]) (laws_heldTerm_s _ _ hr_38_2)) (ai bod_23 (ai (Or.inr rfl : ([22, 23] : List Nat) = [] ∨ noSh (I r_38_2) = true) trivial))) ?_
             refine seqQ_norm ?_
             refine sN ?_
             refine sN ?_
             refine rg0 hc 2 [(1, sI aView1), (2, sI aTy2), (4, .ra 1 0), (7, .ra 2 0), (10, .ra 12 0), (11, .bool r_12_8_1), (16, .ra 24 0), (19, I r_36_2), (20, I r_38_2), (128, .bool (decide (r_38_2 < 0)))] [(1, bSystem aS0), (2, bTerm aV3), (10, .arr (List.map I r_12_8_0.fType)), (11, .arr (List.map GTerm_O r_12_8_0.fKids)), (12, .box [I r_12_8_0.fOp, I r_12_8_0.fN, .rs 10, .rs 11]), (22, .arr (List.map I o_36_2_0.fType)), (23, .arr (List.map GTerm_O o_36_2_0.fKids)), (24, .box [I r_17_4_0.fOp, I r_17_4_0.fN, .rs 22, .rs 23])] ?_
             refine seqQ_norm ?_
             rcases itesome h with ⟨hb_15, h⟩ | ⟨hb_15, h⟩
             ·refine cT ((decide (r_38_2 < 0))) hb_15 ?_
              refine sN ?_
              refine rg0 hc 1 [(8, .bool false)] [] ?_
              refine seqQ_norm ?_
              refine Wp.retN (by kernel_rfl) ?_
              refine seqQ_ret ?_
              obtain rfl := Option.some.inj h
              exact RetQ.ret (fl := [true]) (by kernel_rfl)
             ·refine cF ((decide (r_38_2 < 0))) hb_15 ?_
              refine Wp.skipN (by kernel_rfl) ?_
              refine seqQ_norm ?_
              refine sN ?_
              refine sN ?_
              refine rg0 hc 3 [(1, sI aView1), (2, sI aTy2), (4, .ra 1 0), (7, .ra 2 0), (10, .ra 12 0), (11, .bool r_12_8_1), (16, .ra 24 0), (19, I r_36_2), (131, .bool (r_38_2 != r_36_2))] [(1, bSystem aS0), (2, bTerm aV3), (10, .arr (List.map I r_12_8_0.fType)), (11, .arr (List.map GTerm_O r_12_8_0.fKids)), (12, .box [I r_12_8_0.fOp, I r_12_8_0.fN, .rs 10, .rs 11]), (22, .arr (List.map I o_36_2_0.fType)), (23, .arr (List.map GTerm_O o_36_2_0.fKids)), (24, .box [I r_17_4_0.fOp, I r_17_4_0.fN, .rs 22, .rs 23])] ?_
              refine seqQ_norm ?_
              rcases itesome h with ⟨hb_16, h⟩ | ⟨hb_16, h⟩
              ·refine cT ((r_38_2 != r_36_2)) hb_16 ?_
               refine sN ?_
               refine rg0 hc 1 [(8, .bool false)] [] ?_
               refine seqQ_norm ?_
               refine Wp.retN (by kernel_rfl) ?_
               refine seqQ_ret ?_
               obtain rfl := Option.some.inj h
               exact RetQ.ret (fl := [true]) (by kernel_rfl)
              ·refine cF ((r_38_2 != r_36_2)) hb_16 ?_
               refine Wp.skipN (by kernel_rfl) ?_
               refine seqQ_norm ?_
               refine sN ?_
               obtain ⟨r_43_1, hr_43_1, h⟩ := bsome h
               obtain ⟨r_43_3, hr_43_3, h⟩ := bsome h
               obtain ⟨r_43_5, hr_43_5, h⟩ := bsome h
               obtain ⟨r_43_7, hr_43_7, h⟩ := bsome h
               obtain ⟨⟨r_43_8_0, r_43_8_1⟩, hr_43_8, h⟩ := bsome h
               refine rg hc ah13_0 [oN, some (.call (qSystem r_43_1) [] 32), oN, some (.call (.osl (List.map I r_43_3)) [] 35), oN, some (.call (.osl (List.map I r_43_5)) [] 36), oN, some (.call (qTerm r_43_7) [] 37), some (.call (.tup [qTerm r_43_8_0, .bool r_43_8_1]) [] 39), oN, oN, oN, some (.new 41), oN, oN] [(10, .ra 12 0), (11, .bool r_12_8_1), (16, .ra 24 0), (19, I r_36_2), (21, .ra 41 0), (22, .bool r_43_8_1)] [(10, .arr (List.map I r_12_8_0.fType)), (11, .arr (List.map GTerm_O r_12_8_0.fKids)), (12, .box [I r_12_8_0.fOp, I r_12_8_0.fN, .rs 10, .rs 11]), (22, .arr (List.map I o_36_2_0.fType)), (23, .arr (List.map GTerm_O o_36_2_0.fKids)), (24, .box [I r_17_4_0.fOp, I r_17_4_0.fN, .rs 22, .rs 23]), (39, .arr (List.map I r_43_8_0.fType)), (40, .arr (List.map GTerm_O r_43_8_0.fKids)), (41, .box [I r_43_8_0.fOp, I r_43_8_0.fN, .rs 39, .rs 40])] (ai (laws_toSystem_s _ _ hr_43_1) (ai bod_11 (ai (oi (qSystem r_43_1)) (ai (laws_toIntS_s _ _ hr_43_3) (ai bod_12 (ai (oi (.osl (List.map I r_43_3))) (ai (laws_toIntS_s _ _ hr_43_5) (ai bod_12 (ai (oi (.osl (List.map I r_43_5))) (ai (laws_toTerm_s _ _ hr_43_7) (ai bod_13 (ai (oi (qTerm r_43_7)) (ai (FnSound.args (A1 := [hSystem r_43_1, .sl (shares (List.map I r_43_3)), .sl (shares (List.map I r_43_5)), hTerm r_43_7]) (A2 := [aSystem r_43_1, sI r_43_3, sI r_43_5, aTerm r_43_7]) (by simp only [sI, sB, aSystem, aTerm, hSystem, hTerm, List.map_nil, sh_B, sh_GTerm_O, sh_I]) (impl_EraseValue_s _ _ hr_43_8)) (ai bod_27 (ai (Or.inr (nsh_cons (nsh_cons rfl (nsh_cons rfl (nsh_cons (nsh_row nsh_I r_43_8_0.fType) (nsh_cons (nsh_row nsh_GTerm_O r_43_8_0.fKids) rfl)))) (nsh_cons rfl rfl)) : ([32, 33, 34, 35, 36, 37, 38] : List Nat) = [] ∨ noSh (.tup [qTerm r_43_8_0, .bool r_43_8_1]) = true) trivial))))))))))))))) ?_
               refine seqQ_norm ?_
               refine sN ?_
               refine sN ?_
               obtain ⟨v_17, hj_18, h⟩ := bsome h
               refine Wp.into (x := .normal) (mkS [(16, .ra 24 0), (19, I r_36_2), (152, .bool v_17)] [(22, .arr (List.map I o_36_2_0.fType)), (23, .arr (List.map GTerm_O o_36_2_0.fKids)), (24, .box [I r_17_4_0.fOp, I r_17_4_0.fN, .rs 22, .rs 23])]) ?_ ?_
               ·replace h := hj_18
                obtain ⟨r_44_2, hr_44_2, h⟩ := bsome h
                rcases itesome h with ⟨hb_44_0, h⟩ | ⟨hb_44_0, h⟩
                ·refine rg hc none [oN, oN, oc (.bool r_44_2), oN, oN, oN, oN, oN, oF] [(16, .ra 24 0), (19, I r_36_2), (152, .bool (!(r_43_8_1 == r_12_8_1)))] [(22, .arr (List.map I o_36_2_0.fType)), (23, .arr (List.map GTerm_O o_36_2_0.fKids)), (24, .box [I r_17_4_0.fOp, I r_17_4_0.fN, .rs 22, .rs 23])] (ai (FnSound.args (A1 := [hTerm r_43_8_0, hTerm r_12_8_0]) (A2 := [aTerm r_43_8_0, aTerm r_12_8_0]) (by simp only [sI, sB, aSystem, aTerm, hSystem, hTerm, List.map_nil, sh_GTerm_O, sh_I]) (laws_eqTerm_s _ _ hr_44_2)) (ai bod_17 (ai (Or.inr rfl : ([39, 40, 10, 11] : List Nat) = [] ∨ noSh (.bool r_44_2) = true) (ar 4 (nF hb_44_0) trivial)))) ?_
                 obtain rfl := Option.some.inj h
                 exact Into.mk
                ·refine rg hc none [oN, oN, oc (.bool r_44_2), oN, oN, o_, o_, o_, oT] [(16, .ra 24 0), (19, I r_36_2), (152, .bool true)] [(22, .arr (List.map I o_36_2_0.fType)), (23, .arr (List.map GTerm_O o_36_2_0.fKids)), (24, .box [I r_17_4_0.fOp, I r_17_4_0.fN, .rs 22, .rs 23])] (ai (FnSound.args (A1 := [hTerm r_43_8_0, hTerm r_12_8_0]) (A2 := [aTerm r_43_8_0, aTerm r_12_8_0]) (by simp only [sI, sB, aSystem, aTerm, hSystem, hTerm, List.map_nil, sh_GTerm_O, sh_I]) (laws_eqTerm_s _ _ hr_44_2)) (ai bod_17 (ai (Or.inr rfl : ([39, 40, 10, 11] : List Nat) = [] ∨ noSh (.bool r_44_2) = true) (ar 3 (neF (nT hb_44_0)) (ai (nT hb_44_0) trivial))))) ?_
                 obtain rfl := Option.some.inj h
                 exact Into.mk
               ·clear hj_18
                refine seqQ_norm ?_
                rcases itesome h with ⟨hb_19, h⟩ | ⟨hb_19, h⟩
                ·refine cT v_17 hb_19 ?_
                 refine sN ?_
                 refine rg0 hc 1 [(8, .bool false)] [] ?_
                 refine seqQ_norm ?_
                 refine Wp.retN (by kernel_rfl) ?_
                 refine seqQ_ret ?_
                 obtain rfl := Option.some.inj h
                 exact RetQ.ret (fl := [true]) (by kernel_rfl)
                ·refine cF v_17 hb_19 ?_
                 refine Wp.skipN (by kernel_rfl) ?_
                 refine seqQ_norm ?_
                 refine sN ?_
                 refine rg0 hc 1 [(16, .ra 24 0), (19, I r_36_2), (20, I 1)] [(22, .arr (List.map I o_36_2_0.fType)), (23, .arr (List.map GTerm_O o_36_2_0.fKids)), (24, .box [I r_17_4_0.fOp, I r_17_4_0.fN, .rs 22, .rs 23])] ?_
                 refine seqQ_norm ?_
                 refine sN ?_
                 obtain ⟨r_47_2, hr_47_2, h⟩ := bsome h
                 refine rg hc none [oN, oN, oc (I r_47_2), oN] [(19, I r_36_2), (20, I r_47_2)] [] (ai (FnSound.args (A1 := [.agg [I r_17_4_0.fOp, I r_17_4_0.fN, .sl (shares (List.map I o_36_2_0.fType)), .sl (shares (List.map GTerm_O o_36_2_0.fKids))], I 1]) (A2 := [.agg [I r_17_4_0.fOp, I r_17_4_0.fN, sI o_36_2_0.fType, .sl (List.map GTerm_S o_36_2_0.fKids)], I 1]) (by simp only [sI, sB, aSystem, aTerm, hSystem, hTerm, List.map_nil, sh_GTerm_O, sh_I]) (laws_heldTerm_s _ _ hr_47_2)) (ai bod_23 (ai (Or.inr rfl : ([22, 23] : List Nat) = [] ∨ noSh (I r_47_2) = true) trivial))) ?_
                 refine seqQ_norm ?_
                 refine sN ?_
                 refine sN ?_
                 refine rg0 hc 2 [(19, I r_36_2), (20, I r_47_2), (157, .bool (decide (r_47_2 < 0)))] [] ?_
                 refine seqQ_norm ?_
                 rcases itesome h with ⟨hb_20, h⟩ | ⟨hb_20, h⟩
                 ·refine cT ((decide (r_47_2 < 0))) hb_20 ?_
                  refine sN ?_
                  refine rg0 hc 1 [(8, .bool false)] [] ?_
                  refine seqQ_norm ?_
                  refine Wp.retN (by kernel_rfl) ?_
                  refine seqQ_ret ?_
                  obtain rfl := Option.some.inj h
                  exact RetQ.ret (fl := [true]) (by kernel_rfl)
                 ·refine cF ((decide (r_47_2 < 0))) hb_20 ?_
                  refine Wp.skipN (by kernel_rfl) ?_
                  refine seqQ_norm ?_
                  refine sN ?_
                  refine sN ?_
                  refine rg0 hc 3 [(160, .bool (r_47_2 != r_36_2))] [] ?_
                  refine seqQ_norm ?_
                  rcases itesome h with ⟨hb_21, h⟩ | ⟨hb_21, h⟩
                  ·refine cT ((r_47_2 != r_36_2)) hb_21 ?_
                   refine sN ?_
                   refine rg0 hc 1 [(8, .bool false)] [] ?_
                   refine seqQ_norm ?_
                   refine Wp.retN (by kernel_rfl) ?_
                   refine seqQ_ret ?_
                   obtain rfl := Option.some.inj h
                   exact RetQ.ret (fl := [true]) (by kernel_rfl)
                  ·refine cF ((r_47_2 != r_36_2)) hb_21 ?_
                   refine Wp.skipN (by kernel_rfl) ?_
                   refine seqQ_norm ?_
                   refine sN ?_
                   refine rg0 hc 1 [(8, .bool true)] [] ?_
                   refine seqQ_norm ?_
                   refine Wp.retN (by kernel_rfl) ?_
                   obtain rfl := Option.some.inj h
                   exact RetQ.ret (fl := [true]) (by kernel_rfl)
          ·refine cT (!r_26_3) (nT hb_11) ?_
           refine sN ?_
           refine rg0 hc 1 [(8, .bool false)] [] ?_
           refine seqQ_norm ?_
           refine Wp.retN (by kernel_rfl) ?_
           refine seqQ_ret ?_
           obtain rfl := Option.some.inj h
           exact RetQ.ret (fl := [true]) (by kernel_rfl)
         ·refine cT (!r_24_3) (nT hb_10) ?_
          refine sN ?_
          refine rg0 hc 1 [(8, .bool false)] [] ?_
          refine seqQ_norm ?_
          refine Wp.retN (by kernel_rfl) ?_
          refine seqQ_ret ?_
          obtain rfl := Option.some.inj h
          exact RetQ.ret (fl := [true]) (by kernel_rfl)
        ·refine cT (!r_22_3) (nT hb_9) ?_
         refine sN ?_
         refine rg0 hc 1 [(8, .bool false)] [] ?_
         refine seqQ_norm ?_
         refine Wp.retN (by kernel_rfl) ?_
         refine seqQ_ret ?_
         obtain rfl := Option.some.inj h
         exact RetQ.ret (fl := [true]) (by kernel_rfl)
       ·refine cT (!r_20_3) (nT hb_8) ?_
        refine sN ?_
        refine rg0 hc 1 [(8, .bool false)] [] ?_
        refine seqQ_norm ?_
        refine Wp.retN (by kernel_rfl) ?_
        refine seqQ_ret ?_
        obtain rfl := Option.some.inj h
        exact RetQ.ret (fl := [true]) (by kernel_rfl)
end Go.Am
