/- Functions of the program as pure functions,and that it computes them. Printed by a program of mine (gen.py). -/
import Derived.Test.YtmcpomoofkjfcaaGreatGTOF12
set_option linter.unusedVariables false
set_option linter.unusedSimpArgs false
set_option maxRecDepth 100000
namespace Go.Am
open Go Go.Proofs
def ah13_0 : Option (List (List Nat)) := rx [[0],[1],[0],[3],[0],[5],[6],[7],[8],[8],[8],[9],[10,11],[13]]
def ah13_1 : Option (List (List Nat)) := rx [[0],[0],[0,1],[3],[4]]
def laws_FnExactTypeOf (p : GSystem × (List (List Int)) × GTerm) : Option (Bool) :=
 match p with
 | (aS0,aCtx1,aT2) =>
  (laws_szSystem (aS0,1048576)) >>= fun r_2_2 =>
  if (decide (r_2_2 < 0)) = true then
   some true
  else
   (laws_szIntSS (aCtx1,r_2_2)) >>= fun r_5_2 =>
   if (decide (r_5_2 < 0)) = true then
    some true
   else
    (laws_szTerm (aT2,r_5_2)) >>= fun r_8_2 =>
    if (decide (r_8_2 < 0)) = true then
     some true
    else
     (laws_toSystem aS0) >>= fun r_11_1 =>
     (laws_toIntSS aCtx1) >>= fun r_11_3 =>
     (laws_toTerm aT2) >>= fun r_11_5 =>
     (spec_TypeOf (r_11_1,r_11_3,r_11_5)) >>= fun (r_11_6_0,r_11_6_1,r_11_6_2) =>
     (laws_toSystem aS0) >>= fun r_12_1 =>
     (laws_toIntSS aCtx1) >>= fun r_13_1 =>
     (laws_toTerm aT2) >>= fun r_14_1 =>
     (impl_TypeOf (r_12_1,r_13_1,r_14_1)) >>= fun (r_15_3_0,r_15_3_1,r_15_3_2) =>
     ((
      (laws_eqIntS (r_15_3_0,r_11_6_0)) >>= fun r_16_2 =>
      if r_16_2 = true then
       (laws_eqIntS (r_15_3_1,r_11_6_1)) >>= fun r_16_7 =>
       if r_16_7 = true then
        some ((!(r_15_3_2 == r_11_6_2)))
       else
        some (true)
      else
       some (true)
     ) : Option (Bool)) >>= fun v_4 =>
     if v_4 = true then
      some false
     else
      (laws_toSystem aS0) >>= fun r_18_2 =>
      (laws_eqSystem (r_12_1,r_18_2)) >>= fun r_18_3 =>
      if r_18_3 = true then
       (laws_toIntSS aCtx1) >>= fun r_20_2 =>
       (laws_eqIntSS (r_13_1,r_20_2)) >>= fun r_20_3 =>
       if r_20_3 = true then
        (laws_toTerm aT2) >>= fun r_22_2 =>
        (laws_eqTerm (r_14_1,r_22_2)) >>= fun r_22_3 =>
        if r_22_3 = true then
         (laws_markSystem (r_12_1,1)) >>= fun (r_25_2,o_25_2_0) =>
         (laws_markIntSS (r_13_1,r_25_2)) >>= fun (r_26_2,o_26_2_0) =>
         (laws_markTerm (r_14_1,r_26_2)) >>= fun (r_27_2,o_27_2_0) =>
         ((
          if (decide (r_27_2 < 0)) = true then
           some (true)
          else
           (laws_eqIntS (r_15_3_0,r_11_6_0)) >>= fun r_28_5 =>
           if r_28_5 = true then
            (laws_eqIntS (r_15_3_1,r_11_6_1)) >>= fun r_28_11 =>
            if r_28_11 = true then
             some ((!(r_15_3_2 == r_11_6_2)))
            else
             some (true)
           else
            some (true)
         ) : Option (Bool)) >>= fun v_10 =>
         if v_10 = true then
          some false
         else
          (laws_markIntS (r_15_3_0,1)) >>= fun (r_31_2,o_31_2_0) =>
          (laws_markIntS (r_15_3_1,r_31_2)) >>= fun (r_32_2,o_32_2_0) =>
          (laws_heldIntS (o_31_2_0,1)) >>= fun r_34_2 =>
          if (decide (r_34_2 < 0)) = true then
           some false
          else
           (laws_heldIntS (o_32_2_0,r_34_2)) >>= fun r_37_2 =>
           if (decide (r_37_2 < 0)) = true then
            some false
           else
            if (r_37_2 != r_32_2) = true then
             some false
            else
             (laws_toSystem aS0) >>= fun r_42_1 =>
             (laws_toIntSS aCtx1) >>= fun r_42_3 =>
             (laws_toTerm aT2) >>= fun r_42_5 =>
             (impl_TypeOf (r_42_1,r_42_3,r_42_5)) >>= fun (r_42_6_0,r_42_6_1,r_42_6_2) =>
             ((
              (laws_eqIntS (r_42_6_0,r_11_6_0)) >>= fun r_43_2 =>
              if r_43_2 = true then
               (laws_eqIntS (r_42_6_1,r_11_6_1)) >>= fun r_43_7 =>
               if r_43_7 = true then
                some ((!(r_42_6_2 == r_11_6_2)))
               else
                some (true)
              else
               some (true)
             ) : Option (Bool)) >>= fun v_16 =>
             if v_16 = true then
              some false
             else
              (laws_heldIntS (o_31_2_0,1)) >>= fun r_46_2 =>
              if (decide (r_46_2 < 0)) = true then
               some false
              else
               (laws_heldIntS (o_32_2_0,r_46_2)) >>= fun r_49_2 =>
               if (decide (r_49_2 < 0)) = true then
                some false
               else
                if (r_49_2 != r_32_2) = true then
                 some false
                else
                 some true
        else
         some false
       else
        some false
      else
       some false
def M_laws_FnExactTypeOf (p : GSystem × (List (List Int)) × GTerm) (r : Bool) : Prop :=
 match p with
 | (aS0,aCtx1,aT2) => FnSound Tryz.prog 3 [aSystem aS0,sL aCtx1,aTerm aT2] (.bool r) []
theorem laws_FnExactTypeOf_s : ∀ p r,laws_FnExactTypeOf p = some r → M_laws_FnExactTypeOf p r := by
 rintro ⟨aS0,aCtx1,aT2⟩ r h
 unfold laws_FnExactTypeOf at h
 refine b0 Tryz.f3 B3 179 [(0,aSystem aS0),(1,sL aCtx1),(2,aTerm aT2)] fun c hc => ?_
 refine rs hc none [some (.new 1),some (.new 2),oN] [(1,sL aCtx1),(3,.ra 1 0),(5,.ra 2 0)] [(1,bSystem aS0),(2,bTerm aT2)] trivial ?_
 refine rs0 hc 1 [(1,sL aCtx1),(3,.ra 1 0),(5,.ra 2 0),(7,I 1048576)] [(1,bSystem aS0),(2,bTerm aT2)] ?_
 obtain ⟨r_2_2,hr_2_2,h⟩ := bsome h
 refine rs hc none [oN,oN,oc (I r_2_2),oN] [(1,sL aCtx1),(3,.ra 1 0),(5,.ra 2 0),(7,I r_2_2)] [(1,bSystem aS0),(2,bTerm aT2)] (ai (laws_szSystem_s _ _ hr_2_2) (ai bod_15 (ai (oi (I r_2_2)) trivial))) ?_
 refine sN ?_
 refine rs0 hc 2 [(1,sL aCtx1),(3,.ra 1 0),(5,.ra 2 0),(7,I r_2_2),(27,.bool (decide (r_2_2 < 0)))] [(1,bSystem aS0),(2,bTerm aT2)] ?_
 rcases is h with ⟨hb_1,h⟩ | ⟨hb_1,h⟩
 ·refine cT ((decide (r_2_2 < 0))) hb_1 ?_
  refine rs0 hc 1 [(6,.bool true)] [] ?_
  refine rt ?_
  obtain rfl := os h
  exact rq [true]
 refine cF ((decide (r_2_2 < 0))) hb_1 ?_
 refine sk ?_
 obtain ⟨r_5_2,hr_5_2,h⟩ := bsome h
 refine rs hc none [oN,oN,oc (I r_5_2),oN] [(1,sL aCtx1),(3,.ra 1 0),(5,.ra 2 0),(7,I r_5_2)] [(1,bSystem aS0),(2,bTerm aT2)] (ai (laws_szIntSS_s _ _ hr_5_2) (ai bod_16 (ai (oi (I r_5_2)) trivial))) ?_
 refine sN ?_
 refine rs0 hc 2 [(1,sL aCtx1),(3,.ra 1 0),(5,.ra 2 0),(7,I r_5_2),(32,.bool (decide (r_5_2 < 0)))] [(1,bSystem aS0),(2,bTerm aT2)] ?_
 rcases is h with ⟨hb_2,h⟩ | ⟨hb_2,h⟩
 ·refine cT ((decide (r_5_2 < 0))) hb_2 ?_
  refine rs0 hc 1 [(6,.bool true)] [] ?_
  refine rt ?_
  obtain rfl := os h
  exact rq [true]
 refine cF ((decide (r_5_2 < 0))) hb_2 ?_
 refine sk ?_
 obtain ⟨r_8_2,hr_8_2,h⟩ := bsome h
 refine rs hc none [oN,oN,oc (I r_8_2),oN] [(1,sL aCtx1),(3,.ra 1 0),(5,.ra 2 0),(7,I r_8_2)] [(1,bSystem aS0),(2,bTerm aT2)] (ai (laws_szTerm_s _ _ hr_8_2) (ai bod_17 (ai (oi (I r_8_2)) trivial))) ?_
 refine sN ?_
 refine rs0 hc 2 [(1,sL aCtx1),(3,.ra 1 0),(5,.ra 2 0),(37,.bool (decide (r_8_2 < 0)))] [(1,bSystem aS0),(2,bTerm aT2)] ?_
 rcases is h with ⟨hb_3,h⟩ | ⟨hb_3,h⟩
 ·refine cT ((decide (r_8_2 < 0))) hb_3 ?_
  refine rs0 hc 1 [(6,.bool true)] [] ?_
  refine rt ?_
  obtain rfl := os h
  exact rq [true]
 refine cF ((decide (r_8_2 < 0))) hb_3 ?_
 refine sk ?_
 obtain ⟨r_11_1,hr_11_1,h⟩ := bsome h
 obtain ⟨r_11_3,hr_11_3,h⟩ := bsome h
 obtain ⟨r_11_5,hr_11_5,h⟩ := bsome h
 obtain ⟨⟨r_11_6_0,r_11_6_1,r_11_6_2⟩,hr_11_6,h⟩ := bsome h
 refine rs hc ah13_0 [oN,some (.call (qSystem r_11_1) [] 3),oN,some (.call (.osl (List.map LI_o r_11_3)) [] 6),oN,some (.call (qTerm r_11_5) [] 7),some (.call (.tup [sI r_11_6_0,sI r_11_6_1,.bool r_11_6_2]) [.tup []] 1),oN,oN,oN,oN,oN,oN,oN] [(1,sL aCtx1),(3,.ra 1 0),(5,.ra 2 0),(8,sI r_11_6_0),(9,sI r_11_6_1),(10,.bool r_11_6_2)] [(1,bSystem aS0),(2,bTerm aT2)] (ai (laws_toSystem_s _ _ hr_11_1) (ai bod_19 (ai (oi (qSystem r_11_1)) (ai (laws_toIntSS_s _ _ hr_11_3) (ai bod_20 (ai (oi (.osl (List.map LI_o r_11_3))) (ai (laws_toTerm_s _ _ hr_11_5) (ai bod_21 (ai (oi (qTerm r_11_5)) (ai (FnSound.args (A1 := [hSystem r_11_1,.sl (shares (List.map LI_o r_11_3)),hTerm r_11_5]) (A2 := [aSystem r_11_1,sL r_11_3,aTerm r_11_5]) (by simp only [sI,sB,sL,aSystem,aTerm,aL3Told,aTyped,aTyper,hSystem,hTerm,hL3Told,hTyped,hTyper,List.map_nil,sh_B,sh_GTerm_O,sh_I,sh_LI_o]) (spec_TypeOf_s _ _ hr_11_6)) (ai bod_18 trivial))))))))))) ?_
 obtain ⟨r_12_1,hr_12_1,h⟩ := bsome h
 refine rs hc none [oN,some (.call (qSystem r_12_1) [] 9),some (.new 12),oN] [(1,sL aCtx1),(3,.ra 1 0),(5,.ra 2 0),(8,sI r_11_6_0),(9,sI r_11_6_1),(10,.bool r_11_6_2),(11,.ra 12 0)] [(1,bSystem aS0),(2,bTerm aT2),(9,rI r_12_1.fPlus),(10,rI r_12_1.fTimes),(11,.arr (List.map AV.bool r_12_1.fBelow)),(12,.box [I r_12_1.fSize,.rs 9,.rs 10,.rs 11])] (ai (laws_toSystem_s _ _ hr_12_1) (ai bod_19 (ai (oi (qSystem r_12_1)) trivial))) ?_
 obtain ⟨r_13_1,hr_13_1,h⟩ := bsome h
 refine rs hc none [oN,some (.call (.osl (List.map LI_o r_13_1)) [] 13),oN] [(1,sL aCtx1),(3,.ra 1 0),(5,.ra 2 0),(8,sI r_11_6_0),(9,sI r_11_6_1),(10,.bool r_11_6_2),(11,.ra 12 0),(12,.rs 13)] [(1,bSystem aS0),(2,bTerm aT2),(9,rI r_12_1.fPlus),(10,rI r_12_1.fTimes),(11,.arr (List.map AV.bool r_12_1.fBelow)),(12,.box [I r_12_1.fSize,.rs 9,.rs 10,.rs 11]),(13,.arr (List.map LI_o r_13_1))] (ai (laws_toIntSS_s _ _ hr_13_1) (ai bod_20 (ai (oi (.osl (List.map LI_o r_13_1))) trivial))) ?_
 obtain ⟨r_14_1,hr_14_1,h⟩ := bsome h
 refine rs hc none [oN,some (.call (qTerm r_14_1) [] 14),some (.new 16),oN] [(1,sL aCtx1),(3,.ra 1 0),(5,.ra 2 0),(8,sI r_11_6_0),(9,sI r_11_6_1),(10,.bool r_11_6_2),(11,.ra 12 0),(12,.rs 13),(13,.ra 16 0)] [(1,bSystem aS0),(2,bTerm aT2),(9,rI r_12_1.fPlus),(10,rI r_12_1.fTimes),(11,.arr (List.map AV.bool r_12_1.fBelow)),(12,.box [I r_12_1.fSize,.rs 9,.rs 10,.rs 11]),(13,.arr (List.map LI_o r_13_1)),(14,rI r_14_1.fType),(15,.arr (List.map GTerm_O r_14_1.fKids)),(16,.box [I r_14_1.fOp,I r_14_1.fN,.rs 14,.rs 15])] (ai (laws_toTerm_s _ _ hr_14_1) (ai bod_21 (ai (oi (qTerm r_14_1)) trivial))) ?_
 obtain ⟨⟨r_15_3_0,r_15_3_1,r_15_3_2⟩,hr_15_3,h⟩ := bsome h
 refine rs hc none [oN,oN,oN,some (.call (.tup [oI r_15_3_0,oI r_15_3_1,.bool r_15_3_2]) [] 17),oN,oN,oN,oN,oN,oN,oN] [(1,sL aCtx1),(3,.ra 1 0),(5,.ra 2 0),(8,sI r_11_6_0),(9,sI r_11_6_1),(10,.bool r_11_6_2),(11,.ra 12 0),(12,.rs 13),(13,.ra 16 0),(14,.rs 17),(15,.rs 18),(16,.bool r_15_3_2)] [(1,bSystem aS0),(2,bTerm aT2),(9,rI r_12_1.fPlus),(10,rI r_12_1.fTimes),(11,.arr (List.map AV.bool r_12_1.fBelow)),(12,.box [I r_12_1.fSize,.rs 9,.rs 10,.rs 11]),(13,.arr (List.map LI_o r_13_1)),(14,rI r_14_1.fType),(15,.arr (List.map GTerm_O r_14_1.fKids)),(16,.box [I r_14_1.fOp,I r_14_1.fN,.rs 14,.rs 15]),(17,rI r_15_3_0),(18,rI r_15_3_1)] (ai (FnSound.args (A1 := [hSystem r_12_1,.sl (shares (List.map LI_o r_13_1)),hTerm r_14_1]) (A2 := [aSystem r_12_1,sL r_13_1,aTerm r_14_1]) (by simp only [sI,sB,sL,aSystem,aTerm,aL3Told,aTyped,aTyper,hSystem,hTerm,hL3Told,hTyped,hTyper,List.map_nil,sh_B,sh_GTerm_O,sh_I,sh_LI_o]) (impl_TypeOf_s _ _ hr_15_3)) (ai bod_22 (ai (Or.inr (nsh_cons (nsh_row nsh_I r_15_3_0) (nsh_cons (nsh_row nsh_I r_15_3_1) (nsh_cons rfl rfl))) : ([9,10,11,13,14,15] : List Nat) = [] ∨ noSh (.tup [oI r_15_3_0,oI r_15_3_1,.bool r_15_3_2]) = true) trivial))) ?_
 refine sN ?_
 refine sN ?_
 obtain ⟨v_4,hj_5,h⟩ := bsome h
 refine Wp.into (x := .normal) (mkS [(1,sL aCtx1),(3,.ra 1 0),(5,.ra 2 0),(8,sI r_11_6_0),(9,sI r_11_6_1),(10,.bool r_11_6_2),(11,.ra 12 0),(12,.rs 13),(13,.ra 16 0),(14,.rs 17),(15,.rs 18),(16,.bool r_15_3_2),(77,.bool v_4)] [(1,bSystem aS0),(2,bTerm aT2),(9,rI r_12_1.fPlus),(10,rI r_12_1.fTimes),(11,.arr (List.map AV.bool r_12_1.fBelow)),(12,.box [I r_12_1.fSize,.rs 9,.rs 10,.rs 11]),(13,.arr (List.map LI_o r_13_1)),(14,rI r_14_1.fType),(15,.arr (List.map GTerm_O r_14_1.fKids)),(16,.box [I r_14_1.fOp,I r_14_1.fN,.rs 14,.rs 15]),(17,rI r_15_3_0),(18,rI r_15_3_1)]) ?_ ?_
 ·replace h := hj_5
  obtain ⟨r_16_2,hr_16_2,h⟩ := bsome h
  rcases is h with ⟨hb_16_0,h⟩ | ⟨hb_16_0,h⟩
  ·obtain ⟨r_16_7,hr_16_7,h⟩ := bsome h
   rcases is h with ⟨hb_16_1,h⟩ | ⟨hb_16_1,h⟩
   ·refine rg hc none [oN,oN,oc (.bool r_16_2),oN,oN,oN,oN,oc (.bool r_16_7),oN,oF,oN,oN,oN,oN,oF] [(1,sL aCtx1),(3,.ra 1 0),(5,.ra 2 0),(8,sI r_11_6_0),(9,sI r_11_6_1),(10,.bool r_11_6_2),(11,.ra 12 0),(12,.rs 13),(13,.ra 16 0),(14,.rs 17),(15,.rs 18),(16,.bool r_15_3_2),(77,.bool (!(r_15_3_2 == r_11_6_2)))] [(1,bSystem aS0),(2,bTerm aT2),(9,rI r_12_1.fPlus),(10,rI r_12_1.fTimes),(11,.arr (List.map AV.bool r_12_1.fBelow)),(12,.box [I r_12_1.fSize,.rs 9,.rs 10,.rs 11]),(13,.arr (List.map LI_o r_13_1)),(14,rI r_14_1.fType),(15,.arr (List.map GTerm_O r_14_1.fKids)),(16,.box [I r_14_1.fOp,I r_14_1.fN,.rs 14,.rs 15]),(17,rI r_15_3_0),(18,rI r_15_3_1)] (ai (FnSound.args (A1 := [.sl (shares (List.map I r_15_3_0)),sI r_11_6_0]) (A2 := [sI r_15_3_0,sI r_11_6_0]) (by simp only [sI,sB,sL,aSystem,aTerm,aL3Told,aTyped,aTyper,hSystem,hTerm,hL3Told,hTyped,hTyper,List.map_nil,sh_I]) (laws_eqIntS_s _ _ hr_16_2)) (ai bod_23 (ai (Or.inr rfl : ([17] : List Nat) = [] ∨ noSh (.bool r_16_2) = true) (ar 3 (nF hb_16_0) (ai (FnSound.args (A1 := [.sl (shares (List.map I r_15_3_1)),sI r_11_6_1]) (A2 := [sI r_15_3_1,sI r_11_6_1]) (by simp only [sI,sB,sL,aSystem,aTerm,aL3Told,aTyped,aTyper,hSystem,hTerm,hL3Told,hTyped,hTyper,List.map_nil,sh_I]) (laws_eqIntS_s _ _ hr_16_7)) (ai bod_23 (ai (Or.inr rfl : ([18] : List Nat) = [] ∨ noSh (.bool r_16_7) = true) (ar 2 (nF hb_16_0) (ar 4 (nF hb_16_1) trivial))))))))) ?_
    obtain rfl := os h
    exact Into.mk
   refine rg hc none [oN,oN,oc (.bool r_16_2),oN,oN,oN,oN,oc (.bool r_16_7),oN,oF,oN,o_,o_,o_,oT] [(1,sL aCtx1),(3,.ra 1 0),(5,.ra 2 0),(8,sI r_11_6_0),(9,sI r_11_6_1),(10,.bool r_11_6_2),(11,.ra 12 0),(12,.rs 13),(13,.ra 16 0),(14,.rs 17),(15,.rs 18),(16,.bool r_15_3_2),(77,.bool true)] [(1,bSystem aS0),(2,bTerm aT2),(9,rI r_12_1.fPlus),(10,rI r_12_1.fTimes),(11,.arr (List.map AV.bool r_12_1.fBelow)),(12,.box [I r_12_1.fSize,.rs 9,.rs 10,.rs 11]),(13,.arr (List.map LI_o r_13_1)),(14,rI r_14_1.fType),(15,.arr (List.map GTerm_O r_14_1.fKids)),(16,.box [I r_14_1.fOp,I r_14_1.fN,.rs 14,.rs 15]),(17,rI r_15_3_0),(18,rI r_15_3_1)] (ai (FnSound.args (A1 := [.sl (shares (List.map I r_15_3_0)),sI r_11_6_0]) (A2 := [sI r_15_3_0,sI r_11_6_0]) (by simp only [sI,sB,sL,aSystem,aTerm,aL3Told,aTyped,aTyper,hSystem,hTerm,hL3Told,hTyped,hTyper,List.map_nil,sh_I]) (laws_eqIntS_s _ _ hr_16_2)) (ai bod_23 (ai (Or.inr rfl : ([17] : List Nat) = [] ∨ noSh (.bool r_16_2) = true) (ar 3 (nF hb_16_0) (ai (FnSound.args (A1 := [.sl (shares (List.map I r_15_3_1)),sI r_11_6_1]) (A2 := [sI r_15_3_1,sI r_11_6_1]) (by simp only [sI,sB,sL,aSystem,aTerm,aL3Told,aTyped,aTyper,hSystem,hTerm,hL3Told,hTyped,hTyper,List.map_nil,sh_I]) (laws_eqIntS_s _ _ hr_16_7)) (ai bod_23 (ai (Or.inr rfl : ([18] : List Nat) = [] ∨ noSh (.bool r_16_7) = true) (ar 2 (nF hb_16_0) (ar 3 (neF (nT hb_16_1)) (ai (nT hb_16_1) trivial)))))))))) ?_
   obtain rfl := os h
   exact Into.mk
  refine rg hc none [oN,oN,oc (.bool r_16_2),oN,oN,o_,o_,o_,o_,oT,oN,o_,o_,o_,oT] [(1,sL aCtx1),(3,.ra 1 0),(5,.ra 2 0),(8,sI r_11_6_0),(9,sI r_11_6_1),(10,.bool r_11_6_2),(11,.ra 12 0),(12,.rs 13),(13,.ra 16 0),(14,.rs 17),(15,.rs 18),(16,.bool r_15_3_2),(77,.bool true)] [(1,bSystem aS0),(2,bTerm aT2),(9,rI r_12_1.fPlus),(10,rI r_12_1.fTimes),(11,.arr (List.map AV.bool r_12_1.fBelow)),(12,.box [I r_12_1.fSize,.rs 9,.rs 10,.rs 11]),(13,.arr (List.map LI_o r_13_1)),(14,rI r_14_1.fType),(15,.arr (List.map GTerm_O r_14_1.fKids)),(16,.box [I r_14_1.fOp,I r_14_1.fN,.rs 14,.rs 15]),(17,rI r_15_3_0),(18,rI r_15_3_1)] (ai (FnSound.args (A1 := [.sl (shares (List.map I r_15_3_0)),sI r_11_6_0]) (A2 := [sI r_15_3_0,sI r_11_6_0]) (by simp only [sI,sB,sL,aSystem,aTerm,aL3Told,aTyped,aTyper,hSystem,hTerm,hL3Told,hTyped,hTyper,List.map_nil,sh_I]) (laws_eqIntS_s _ _ hr_16_2)) (ai bod_23 (ai (Or.inr rfl : ([17] : List Nat) = [] ∨ noSh (.bool r_16_2) = true) (ar 4 (neF (nT hb_16_0)) (ai (nT hb_16_0) (ar 3 nf (ai tt trivial))))))) ?_
  obtain rfl := os h
  exact Into.mk
 clear hj_5
 rcases is h with ⟨hb_6,h⟩ | ⟨hb_6,h⟩
 ·refine cT v_4 hb_6 ?_
  refine rs0 hc 1 [(6,.bool false)] [] ?_
  refine rt ?_
  obtain rfl := os h
  exact rq [true]
 refine cF v_4 hb_6 ?_
 refine sk ?_
 refine sN ?_
 obtain ⟨r_18_2,hr_18_2,h⟩ := bsome h
 obtain ⟨r_18_3,hr_18_3,h⟩ := bsome h
 refine rs hc ah13_1 [oN,oN,some (.call (qSystem r_18_2) [] 19),oc (.bool r_18_3),oN] [(1,sL aCtx1),(3,.ra 1 0),(5,.ra 2 0),(8,sI r_11_6_0),(9,sI r_11_6_1),(10,.bool r_11_6_2),(11,.ra 12 0),(12,.rs 13),(13,.ra 16 0),(14,.rs 17),(15,.rs 18),(16,.bool r_15_3_2),(82,.bool (!r_18_3))] [(1,bSystem aS0),(2,bTerm aT2),(9,rI r_12_1.fPlus),(10,rI r_12_1.fTimes),(11,.arr (List.map AV.bool r_12_1.fBelow)),(12,.box [I r_12_1.fSize,.rs 9,.rs 10,.rs 11]),(13,.arr (List.map LI_o r_13_1)),(14,rI r_14_1.fType),(15,.arr (List.map GTerm_O r_14_1.fKids)),(16,.box [I r_14_1.fOp,I r_14_1.fN,.rs 14,.rs 15]),(17,rI r_15_3_0),(18,rI r_15_3_1)] (ai (laws_toSystem_s _ _ hr_18_2) (ai bod_19 (ai (oi (qSystem r_18_2)) (ai (FnSound.args (A1 := [hSystem r_12_1,hSystem r_18_2]) (A2 := [aSystem r_12_1,aSystem r_18_2]) (by simp only [sI,sB,sL,aSystem,aTerm,aL3Told,aTyped,aTyper,hSystem,hTerm,hL3Told,hTyped,hTyper,List.map_nil,sh_B,sh_I]) (laws_eqSystem_s _ _ hr_18_3)) (ai bod_24 (ai (Or.inr rfl : ([9,10,11,19,20,21] : List Nat) = [] ∨ noSh (.bool r_18_3) = true) trivial)))))) ?_
 rcases is h with ⟨hb_7,h⟩ | ⟨hb_7,h⟩
 ·refine cF (!r_18_3) (nF hb_7) ?_
  refine sk ?_
  refine sN ?_
  obtain ⟨r_20_2,hr_20_2,h⟩ := bsome h
  obtain ⟨r_20_3,hr_20_3,h⟩ := bsome h
  refine rs hc none [oN,oN,some (.call (.osl (List.map LI_o r_20_2)) [] 22),oc (.bool r_20_3),oN] [(1,sL aCtx1),(3,.ra 1 0),(5,.ra 2 0),(8,sI r_11_6_0),(9,sI r_11_6_1),(10,.bool r_11_6_2),(11,.ra 12 0),(12,.rs 13),(13,.ra 16 0),(14,.rs 17),(15,.rs 18),(16,.bool r_15_3_2),(87,.bool (!r_20_3))] [(1,bSystem aS0),(2,bTerm aT2),(9,rI r_12_1.fPlus),(10,rI r_12_1.fTimes),(11,.arr (List.map AV.bool r_12_1.fBelow)),(12,.box [I r_12_1.fSize,.rs 9,.rs 10,.rs 11]),(13,.arr (List.map LI_o r_13_1)),(14,rI r_14_1.fType),(15,.arr (List.map GTerm_O r_14_1.fKids)),(16,.box [I r_14_1.fOp,I r_14_1.fN,.rs 14,.rs 15]),(17,rI r_15_3_0),(18,rI r_15_3_1)] (ai (laws_toIntSS_s _ _ hr_20_2) (ai bod_20 (ai (oi (.osl (List.map LI_o r_20_2))) (ai (FnSound.args (A1 := [.sl (shares (List.map LI_o r_13_1)),.sl (shares (List.map LI_o r_20_2))]) (A2 := [sL r_13_1,sL r_20_2]) (by simp only [sI,sB,sL,aSystem,aTerm,aL3Told,aTyped,aTyper,hSystem,hTerm,hL3Told,hTyped,hTyper,List.map_nil,sh_LI_o]) (laws_eqIntSS_s _ _ hr_20_3)) (ai bod_25 (ai (Or.inr rfl : ([13,22] : List Nat) = [] ∨ noSh (.bool r_20_3) = true) trivial)))))) ?_
  rcases is h with ⟨hb_8,h⟩ | ⟨hb_8,h⟩
  ·refine cF (!r_20_3) (nF hb_8) ?_
   refine sk ?_
   refine sN ?_
   obtain ⟨r_22_2,hr_22_2,h⟩ := bsome h
   obtain ⟨r_22_3,hr_22_3,h⟩ := bsome h
   refine rs hc ah13_1 [oN,oN,some (.call (qTerm r_22_2) [] 23),oc (.bool r_22_3),oN] [(1,sL aCtx1),(3,.ra 1 0),(5,.ra 2 0),(8,sI r_11_6_0),(9,sI r_11_6_1),(10,.bool r_11_6_2),(11,.ra 12 0),(12,.rs 13),(13,.ra 16 0),(14,.rs 17),(15,.rs 18),(16,.bool r_15_3_2),(92,.bool (!r_22_3))] [(1,bSystem aS0),(2,bTerm aT2),(9,rI r_12_1.fPlus),(10,rI r_12_1.fTimes),(11,.arr (List.map AV.bool r_12_1.fBelow)),(12,.box [I r_12_1.fSize,.rs 9,.rs 10,.rs 11]),(13,.arr (List.map LI_o r_13_1)),(14,rI r_14_1.fType),(15,.arr (List.map GTerm_O r_14_1.fKids)),(16,.box [I r_14_1.fOp,I r_14_1.fN,.rs 14,.rs 15]),(17,rI r_15_3_0),(18,rI r_15_3_1)] (ai (laws_toTerm_s _ _ hr_22_2) (ai bod_21 (ai (oi (qTerm r_22_2)) (ai (FnSound.args (A1 := [hTerm r_14_1,hTerm r_22_2]) (A2 := [aTerm r_14_1,aTerm r_22_2]) (by simp only [sI,sB,sL,aSystem,aTerm,aL3Told,aTyped,aTyper,hSystem,hTerm,hL3Told,hTyped,hTyper,List.map_nil,sh_GTerm_O,sh_I]) (laws_eqTerm_s _ _ hr_22_3)) (ai bod_26 (ai (Or.inr rfl : ([14,15,23,24] : List Nat) = [] ∨ noSh (.bool r_22_3) = true) trivial)))))) ?_
   rcases is h with ⟨hb_9,h⟩ | ⟨hb_9,h⟩
   ·refine cF (!r_22_3) (nF hb_9) ?_
    refine sk ?_
    refine rs0 hc 1 [(1,sL aCtx1),(3,.ra 1 0),(5,.ra 2 0),(8,sI r_11_6_0),(9,sI r_11_6_1),(10,.bool r_11_6_2),(11,.ra 12 0),(12,.rs 13),(13,.ra 16 0),(14,.rs 17),(15,.rs 18),(16,.bool r_15_3_2),(17,I 1)] [(1,bSystem aS0),(2,bTerm aT2),(9,rI r_12_1.fPlus),(10,rI r_12_1.fTimes),(11,.arr (List.map AV.bool r_12_1.fBelow)),(12,.box [I r_12_1.fSize,.rs 9,.rs 10,.rs 11]),(13,.arr (List.map LI_o r_13_1)),(14,rI r_14_1.fType),(15,.arr (List.map GTerm_O r_14_1.fKids)),(16,.box [I r_14_1.fOp,I r_14_1.fN,.rs 14,.rs 15]),(17,rI r_15_3_0),(18,rI r_15_3_1)] ?_
    obtain ⟨⟨r_25_2,o_25_2_0⟩,hr_25_2,h⟩ := bsome h
    refine rs hc none [oN,oN,some (.call (I r_25_2) [.agg [.undef,oI o_25_2_0.fPlus,oI o_25_2_0.fTimes,.osl (List.map AV.bool o_25_2_0.fBelow)],.undef] 1),oN] [(1,sL aCtx1),(3,.ra 1 0),(5,.ra 2 0),(8,sI r_11_6_0),(9,sI r_11_6_1),(10,.bool r_11_6_2),(12,.rs 13),(13,.ra 16 0),(14,.rs 17),(15,.rs 18),(16,.bool r_15_3_2),(17,I r_25_2)] [(1,bSystem aS0),(2,bTerm aT2),(13,.arr (List.map LI_o r_13_1)),(14,rI r_14_1.fType),(15,.arr (List.map GTerm_O r_14_1.fKids)),(16,.box [I r_14_1.fOp,I r_14_1.fN,.rs 14,.rs 15]),(17,rI r_15_3_0),(18,rI r_15_3_1)] (ai (laws_markSystem_s _ _ hr_25_2) (ai bod_27 trivial)) ?_
    obtain ⟨⟨r_26_2,o_26_2_0⟩,hr_26_2,h⟩ := bsome h
    refine rs hc none [oN,oN,some (.call (I r_26_2) [.osl (List.map LI_o o_26_2_0),.undef] 1),oN] [(1,sL aCtx1),(3,.ra 1 0),(5,.ra 2 0),(8,sI r_11_6_0),(9,sI r_11_6_1),(10,.bool r_11_6_2),(13,.ra 16 0),(14,.rs 17),(15,.rs 18),(16,.bool r_15_3_2),(17,I r_26_2)] [(1,bSystem aS0),(2,bTerm aT2),(14,rI r_14_1.fType),(15,.arr (List.map GTerm_O r_14_1.fKids)),(16,.box [I r_14_1.fOp,I r_14_1.fN,.rs 14,.rs 15]),(17,rI r_15_3_0),(18,rI r_15_3_1)] (ai (laws_markIntSS_s _ _ hr_26_2) (ai bod_28 trivial)) ?_
    obtain ⟨⟨r_27_2,o_27_2_0⟩,hr_27_2,h⟩ := bsome h
    refine rs hc none [oN,oN,some (.call (I r_27_2) [.agg [.undef,.undef,oI o_27_2_0.fType,.osl (List.map GTerm_O o_27_2_0.fKids)],.undef] 1),oN] [(1,sL aCtx1),(3,.ra 1 0),(5,.ra 2 0),(8,sI r_11_6_0),(9,sI r_11_6_1),(10,.bool r_11_6_2),(14,.rs 17),(15,.rs 18),(16,.bool r_15_3_2),(17,I r_27_2)] [(1,bSystem aS0),(2,bTerm aT2),(17,rI r_15_3_0),(18,rI r_15_3_1)] (ai (laws_markTerm_s _ _ hr_27_2) (ai bod_29 trivial)) ?_
    refine sN ?_
    refine sN ?_
    obtain ⟨v_10,hj_11,h⟩ := bsome h
    refine Wp.into (x := .normal) (mkS [(1,sL aCtx1),(3,.ra 1 0),(5,.ra 2 0),(8,sI r_11_6_0),(9,sI r_11_6_1),(10,.bool r_11_6_2),(14,.rs 17),(15,.rs 18),(120,.bool v_10)] [(1,bSystem aS0),(2,bTerm aT2),(17,rI r_15_3_0),(18,rI r_15_3_1)]) ?_ ?_
    ·replace h := hj_11
     rcases is h with ⟨hb_28_0,h⟩ | ⟨hb_28_0,h⟩
     ·refine rg hc none [oN,oN,oN,o_,o_,o_,o_,oT,oN,o_,o_,o_,o_,oT,oN,o_,o_,o_,oT] [(1,sL aCtx1),(3,.ra 1 0),(5,.ra 2 0),(8,sI r_11_6_0),(9,sI r_11_6_1),(10,.bool r_11_6_2),(14,.rs 17),(15,.rs 18),(120,.bool true)] [(1,bSystem aS0),(2,bTerm aT2),(17,rI r_15_3_0),(18,rI r_15_3_1)] (ar 4 (neF hb_28_0) (ai hb_28_0 (ar 4 nf (ai tt (ar 3 nf (ai tt trivial)))))) ?_
      obtain rfl := os h
      exact Into.mk
     obtain ⟨r_28_5,hr_28_5,h⟩ := bsome h
     rcases is h with ⟨hb_28_1,h⟩ | ⟨hb_28_1,h⟩
     ·obtain ⟨r_28_11,hr_28_11,h⟩ := bsome h
      rcases is h with ⟨hb_28_2,h⟩ | ⟨hb_28_2,h⟩
      ·refine rg hc none [oN,oN,oN,oN,oN,oc (.bool r_28_5),oN,oF,oN,oN,oN,oc (.bool r_28_11),oN,oF,oN,oN,oN,oN,oF] [(1,sL aCtx1),(3,.ra 1 0),(5,.ra 2 0),(8,sI r_11_6_0),(9,sI r_11_6_1),(10,.bool r_11_6_2),(14,.rs 17),(15,.rs 18),(120,.bool (!(r_15_3_2 == r_11_6_2)))] [(1,bSystem aS0),(2,bTerm aT2),(17,rI r_15_3_0),(18,rI r_15_3_1)] (ar 3 hb_28_0 (ai (FnSound.args (A1 := [.sl (shares (List.map I r_15_3_0)),sI r_11_6_0]) (A2 := [sI r_15_3_0,sI r_11_6_0]) (by simp only [sI,sB,sL,aSystem,aTerm,aL3Told,aTyped,aTyper,hSystem,hTerm,hL3Told,hTyped,hTyper,List.map_nil,sh_I]) (laws_eqIntS_s _ _ hr_28_5)) (ai bod_23 (ai (Or.inr rfl : ([17] : List Nat) = [] ∨ noSh (.bool r_28_5) = true) (ar 2 hb_28_0 (ar 3 (nF hb_28_1) (ai (FnSound.args (A1 := [.sl (shares (List.map I r_15_3_1)),sI r_11_6_1]) (A2 := [sI r_15_3_1,sI r_11_6_1]) (by simp only [sI,sB,sL,aSystem,aTerm,aL3Told,aTyped,aTyper,hSystem,hTerm,hL3Told,hTyped,hTyper,List.map_nil,sh_I]) (laws_eqIntS_s _ _ hr_28_11)) (ai bod_23 (ai (Or.inr rfl : ([18] : List Nat) = [] ∨ noSh (.bool r_28_11) = true) (ar 2 (nF hb_28_1) (ar 4 (nF hb_28_2) trivial))))))))))) ?_
       obtain rfl := os h
       exact Into.mk
      refine rg hc none [oN,oN,oN,oN,oN,oc (.bool r_28_5),oN,oF,oN,oN,oN,oc (.bool r_28_11),oN,oF,oN,o_,o_,o_,oT] [(1,sL aCtx1),(3,.ra 1 0),(5,.ra 2 0),(8,sI r_11_6_0),(9,sI r_11_6_1),(10,.bool r_11_6_2),(14,.rs 17),(15,.rs 18),(120,.bool true)] [(1,bSystem aS0),(2,bTerm aT2),(17,rI r_15_3_0),(18,rI r_15_3_1)] (ar 3 hb_28_0 (ai (FnSound.args (A1 := [.sl (shares (List.map I r_15_3_0)),sI r_11_6_0]) (A2 := [sI r_15_3_0,sI r_11_6_0]) (by simp only [sI,sB,sL,aSystem,aTerm,aL3Told,aTyped,aTyper,hSystem,hTerm,hL3Told,hTyped,hTyper,List.map_nil,sh_I]) (laws_eqIntS_s _ _ hr_28_5)) (ai bod_23 (ai (Or.inr rfl : ([17] : List Nat) = [] ∨ noSh (.bool r_28_5) = true) (ar 2 hb_28_0 (ar 3 (nF hb_28_1) (ai (FnSound.args (A1 := [.sl (shares (List.map I r_15_3_1)),sI r_11_6_1]) (A2 := [sI r_15_3_1,sI r_11_6_1]) (by simp only [sI,sB,sL,aSystem,aTerm,aL3Told,aTyped,aTyper,hSystem,hTerm,hL3Told,hTyped,hTyper,List.map_nil,sh_I]) (laws_eqIntS_s _ _ hr_28_11)) (ai bod_23 (ai (Or.inr rfl : ([18] : List Nat) = [] ∨ noSh (.bool r_28_11) = true) (ar 2 (nF hb_28_1) (ar 3 (neF (nT hb_28_2)) (ai (nT hb_28_2) trivial)))))))))))) ?_
      obtain rfl := os h
      exact Into.mk
     refine rg hc none [oN,oN,oN,oN,oN,oc (.bool r_28_5),oN,oF,oN,o_,o_,o_,o_,oT,oN,o_,o_,o_,oT] [(1,sL aCtx1),(3,.ra 1 0),(5,.ra 2 0),(8,sI r_11_6_0),(9,sI r_11_6_1),(10,.bool r_11_6_2),(14,.rs 17),(15,.rs 18),(120,.bool true)] [(1,bSystem aS0),(2,bTerm aT2),(17,rI r_15_3_0),(18,rI r_15_3_1)] (ar 3 hb_28_0 (ai (FnSound.args (A1 := [.sl (shares (List.map I r_15_3_0)),sI r_11_6_0]) (A2 := [sI r_15_3_0,sI r_11_6_0]) (by simp only [sI,sB,sL,aSystem,aTerm,aL3Told,aTyped,aTyper,hSystem,hTerm,hL3Told,hTyped,hTyper,List.map_nil,sh_I]) (laws_eqIntS_s _ _ hr_28_5)) (ai bod_23 (ai (Or.inr rfl : ([17] : List Nat) = [] ∨ noSh (.bool r_28_5) = true) (ar 2 hb_28_0 (ar 4 (neF (nT hb_28_1)) (ai (nT hb_28_1) (ar 3 nf (ai tt trivial))))))))) ?_
     obtain rfl := os h
     exact Into.mk
    clear hj_11
    rcases is h with ⟨hb_12,h⟩ | ⟨hb_12,h⟩
    ·refine cT v_10 hb_12 ?_
     refine rs0 hc 1 [(6,.bool false)] [] ?_
     refine rt ?_
     obtain rfl := os h
     exact rq [true]
    refine cF v_10 hb_12 ?_
    refine sk ?_
    refine rs0 hc 1 [(1,sL aCtx1),(3,.ra 1 0),(5,.ra 2 0),(8,sI r_11_6_0),(9,sI r_11_6_1),(10,.bool r_11_6_2),(14,.rs 17),(15,.rs 18),(18,I 1)] [(1,bSystem aS0),(2,bTerm aT2),(17,rI r_15_3_0),(18,rI r_15_3_1)] ?_
    obtain ⟨⟨r_31_2,o_31_2_0⟩,hr_31_2,h⟩ := bsome h
    refine rs hc none [oN,oN,some (.call (I r_31_2) [oI o_31_2_0,.undef] 1),oN] [(1,sL aCtx1),(3,.ra 1 0),(5,.ra 2 0),(8,sI r_11_6_0),(9,sI r_11_6_1),(10,.bool r_11_6_2),(14,.rs 17),(15,.rs 18),(18,I r_31_2)] [(1,bSystem aS0),(2,bTerm aT2),(17,rI o_31_2_0),(18,rI r_15_3_1)] (ai (laws_markIntS_s _ _ hr_31_2) (ai bod_30 trivial)) ?_
    obtain ⟨⟨r_32_2,o_32_2_0⟩,hr_32_2,h⟩ := bsome h
    refine rs hc none [oN,oN,some (.call (I r_32_2) [oI o_32_2_0,.undef] 1),oN] [(1,sL aCtx1),(3,.ra 1 0),(5,.ra 2 0),(8,sI r_11_6_0),(9,sI r_11_6_1),(10,.bool r_11_6_2),(14,.rs 17),(15,.rs 18),(18,I r_32_2)] [(1,bSystem aS0),(2,bTerm aT2),(17,rI o_31_2_0),(18,rI o_32_2_0)] (ai (laws_markIntS_s _ _ hr_32_2) (ai bod_30 trivial)) ?_
    refine rs0 hc 1 [(1,sL aCtx1),(3,.ra 1 0),(5,.ra 2 0),(8,sI r_11_6_0),(9,sI r_11_6_1),(10,.bool r_11_6_2),(14,.rs 17),(15,.rs 18),(18,I r_32_2),(19,I 1)] [(1,bSystem aS0),(2,bTerm aT2),(17,rI o_31_2_0),(18,rI o_32_2_0)] ?_
    obtain ⟨r_34_2,hr_34_2,h⟩ := bsome h
    refine rs hc none [oN,oN,oc (I r_34_2),oN] [(1,sL aCtx1),(3,.ra 1 0),(5,.ra 2 0),(8,sI r_11_6_0),(9,sI r_11_6_1),(10,.bool r_11_6_2),(14,.rs 17),(15,.rs 18),(18,I r_32_2),(19,I r_34_2)] [(1,bSystem aS0),(2,bTerm aT2),(17,rI o_31_2_0),(18,rI o_32_2_0)] (ai (FnSound.args (A1 := [.sl (shares (List.map I o_31_2_0)),I 1]) (A2 := [sI o_31_2_0,I 1]) (by simp only [sI,sB,sL,aSystem,aTerm,aL3Told,aTyped,aTyper,hSystem,hTerm,hL3Told,hTyped,hTyper,List.map_nil,sh_I]) (laws_heldIntS_s _ _ hr_34_2)) (ai bod_31 (ai (Or.inr rfl : ([17] : List Nat) = [] ∨ noSh (I r_34_2) = true) trivial))) ?_
    refine sN ?_
    refine rs0 hc 2 [(1,sL aCtx1),(3,.ra 1 0),(5,.ra 2 0),(8,sI r_11_6_0),(9,sI r_11_6_1),(10,.bool r_11_6_2),(14,.rs 17),(15,.rs 18),(18,I r_32_2),(19,I r_34_2),(131,.bool (decide (r_34_2 < 0)))] [(1,bSystem aS0),(2,bTerm aT2),(17,rI o_31_2_0),(18,rI o_32_2_0)] ?_
    rcases is h with ⟨hb_13,h⟩ | ⟨hb_13,h⟩
    ·refine cT ((decide (r_34_2 < 0))) hb_13 ?_
     refine rs0 hc 1 [(6,.bool false)] [] ?_
     refine rt ?_
     obtain rfl := os h
     exact rq [true]
    refine cF ((decide (r_34_2 < 0))) hb_13 ?_
    refine sk ?_
    obtain ⟨r_37_2,hr_37_2,h⟩ := bsome h
    refine rs hc none [oN,oN,oc (I r_37_2),oN] [(1,sL aCtx1),(3,.ra 1 0),(5,.ra 2 0),(8,sI r_11_6_0),(9,sI r_11_6_1),(10,.bool r_11_6_2),(14,.rs 17),(15,.rs 18),(18,I r_32_2),(19,I r_37_2)] [(1,bSystem aS0),(2,bTerm aT2),(17,rI o_31_2_0),(18,rI o_32_2_0)] (ai (FnSound.args (A1 := [.sl (shares (List.map I o_32_2_0)),I r_34_2]) (A2 := [sI o_32_2_0,I r_34_2]) (by simp only [sI,sB,sL,aSystem,aTerm,aL3Told,aTyped,aTyper,hSystem,hTerm,hL3Told,hTyped,hTyper,List.map_nil,sh_I]) (laws_heldIntS_s _ _ hr_37_2)) (ai bod_31 (ai (Or.inr rfl : ([18] : List Nat) = [] ∨ noSh (I r_37_2) = true) trivial))) ?_
    refine sN ?_
    refine rs0 hc 2 [(1,sL aCtx1),(3,.ra 1 0),(5,.ra 2 0),(8,sI r_11_6_0),(9,sI r_11_6_1),(10,.bool r_11_6_2),(14,.rs 17),(15,.rs 18),(18,I r_32_2),(19,I r_37_2),(136,.bool (decide (r_37_2 < 0)))] [(1,bSystem aS0),(2,bTerm aT2),(17,rI o_31_2_0),(18,rI o_32_2_0)] ?_
    rcases is h with ⟨hb_14,h⟩ | ⟨hb_14,h⟩
    ·refine cT ((decide (r_37_2 < 0))) hb_14 ?_
     refine rs0 hc 1 [(6,.bool false)] [] ?_
     refine rt ?_
     obtain rfl := os h
     exact rq [true]
    refine cF ((decide (r_37_2 < 0))) hb_14 ?_
    refine sk ?_
    refine sN ?_
    refine rs0 hc 3 [(1,sL aCtx1),(3,.ra 1 0),(5,.ra 2 0),(8,sI r_11_6_0),(9,sI r_11_6_1),(10,.bool r_11_6_2),(14,.rs 17),(15,.rs 18),(18,I r_32_2),(139,.bool (r_37_2 != r_32_2))] [(1,bSystem aS0),(2,bTerm aT2),(17,rI o_31_2_0),(18,rI o_32_2_0)] ?_
    rcases is h with ⟨hb_15,h⟩ | ⟨hb_15,h⟩
    ·refine cT ((r_37_2 != r_32_2)) hb_15 ?_
     refine rs0 hc 1 [(6,.bool false)] [] ?_
     refine rt ?_
     obtain rfl := os h
     exact rq [true]
    refine cF ((r_37_2 != r_32_2)) hb_15 ?_
    refine sk ?_
    obtain ⟨r_42_1,hr_42_1,h⟩ := bsome h
    obtain ⟨r_42_3,hr_42_3,h⟩ := bsome h
    obtain ⟨r_42_5,hr_42_5,h⟩ := bsome h
    obtain ⟨⟨r_42_6_0,r_42_6_1,r_42_6_2⟩,hr_42_6,h⟩ := bsome h
    refine rs hc ah13_0 [oN,some (.call (qSystem r_42_1) [] 25),oN,some (.call (.osl (List.map LI_o r_42_3)) [] 28),oN,some (.call (qTerm r_42_5) [] 29),some (.call (.tup [oI r_42_6_0,oI r_42_6_1,.bool r_42_6_2]) [] 31),oN,oN,oN,oN,oN,oN,oN] [(8,sI r_11_6_0),(9,sI r_11_6_1),(10,.bool r_11_6_2),(14,.rs 17),(15,.rs 18),(18,I r_32_2),(20,.rs 31),(21,.rs 32),(22,.bool r_42_6_2)] [(17,rI o_31_2_0),(18,rI o_32_2_0),(31,rI r_42_6_0),(32,rI r_42_6_1)] (ai (laws_toSystem_s _ _ hr_42_1) (ai bod_19 (ai (oi (qSystem r_42_1)) (ai (laws_toIntSS_s _ _ hr_42_3) (ai bod_20 (ai (oi (.osl (List.map LI_o r_42_3))) (ai (laws_toTerm_s _ _ hr_42_5) (ai bod_21 (ai (oi (qTerm r_42_5)) (ai (FnSound.args (A1 := [hSystem r_42_1,.sl (shares (List.map LI_o r_42_3)),hTerm r_42_5]) (A2 := [aSystem r_42_1,sL r_42_3,aTerm r_42_5]) (by simp only [sI,sB,sL,aSystem,aTerm,aL3Told,aTyped,aTyper,hSystem,hTerm,hL3Told,hTyped,hTyper,List.map_nil,sh_B,sh_GTerm_O,sh_I,sh_LI_o]) (impl_TypeOf_s _ _ hr_42_6)) (ai bod_22 (ai (Or.inr (nsh_cons (nsh_row nsh_I r_42_6_0) (nsh_cons (nsh_row nsh_I r_42_6_1) (nsh_cons rfl rfl))) : ([25,26,27,28,29,30] : List Nat) = [] ∨ noSh (.tup [oI r_42_6_0,oI r_42_6_1,.bool r_42_6_2]) = true) trivial)))))))))))) ?_
    refine sN ?_
    refine sN ?_
    obtain ⟨v_16,hj_17,h⟩ := bsome h
    refine Wp.into (x := .normal) (mkS [(14,.rs 17),(15,.rs 18),(18,I r_32_2),(165,.bool v_16)] [(17,rI o_31_2_0),(18,rI o_32_2_0)]) ?_ ?_
    ·replace h := hj_17
     obtain ⟨r_43_2,hr_43_2,h⟩ := bsome h
     rcases is h with ⟨hb_43_0,h⟩ | ⟨hb_43_0,h⟩
     ·obtain ⟨r_43_7,hr_43_7,h⟩ := bsome h
      rcases is h with ⟨hb_43_1,h⟩ | ⟨hb_43_1,h⟩
      ·refine rg hc none [oN,oN,oc (.bool r_43_2),oN,oN,oN,oN,oc (.bool r_43_7),oN,oF,oN,oN,oN,oN,oF] [(14,.rs 17),(15,.rs 18),(18,I r_32_2),(165,.bool (!(r_42_6_2 == r_11_6_2)))] [(17,rI o_31_2_0),(18,rI o_32_2_0)] (ai (FnSound.args (A1 := [.sl (shares (List.map I r_42_6_0)),sI r_11_6_0]) (A2 := [sI r_42_6_0,sI r_11_6_0]) (by simp only [sI,sB,sL,aSystem,aTerm,aL3Told,aTyped,aTyper,hSystem,hTerm,hL3Told,hTyped,hTyper,List.map_nil,sh_I]) (laws_eqIntS_s _ _ hr_43_2)) (ai bod_23 (ai (Or.inr rfl : ([31] : List Nat) = [] ∨ noSh (.bool r_43_2) = true) (ar 3 (nF hb_43_0) (ai (FnSound.args (A1 := [.sl (shares (List.map I r_42_6_1)),sI r_11_6_1]) (A2 := [sI r_42_6_1,sI r_11_6_1]) (by simp only [sI,sB,sL,aSystem,aTerm,aL3Told,aTyped,aTyper,hSystem,hTerm,hL3Told,hTyped,hTyper,List.map_nil,sh_I]) (laws_eqIntS_s _ _ hr_43_7)) (ai bod_23 (ai (Or.inr rfl : ([32] : List Nat) = [] ∨ noSh (.bool r_43_7) = true) (ar 2 (nF hb_43_0) (ar 4 (nF hb_43_1) trivial))))))))) ?_
       obtain rfl := os h
       exact Into.mk
      refine rg hc none [oN,oN,oc (.bool r_43_2),oN,oN,oN,oN,oc (.bool r_43_7),oN,oF,oN,o_,o_,o_,oT] [(14,.rs 17),(15,.rs 18),(18,I r_32_2),(165,.bool true)] [(17,rI o_31_2_0),(18,rI o_32_2_0)] (ai (FnSound.args (A1 := [.sl (shares (List.map I r_42_6_0)),sI r_11_6_0]) (A2 := [sI r_42_6_0,sI r_11_6_0]) (by simp only [sI,sB,sL,aSystem,aTerm,aL3Told,aTyped,aTyper,hSystem,hTerm,hL3Told,hTyped,hTyper,List.map_nil,sh_I]) (laws_eqIntS_s _ _ hr_43_2)) (ai bod_23 (ai (Or.inr rfl : ([31] : List Nat) = [] ∨ noSh (.bool r_43_2) = true) (ar 3 (nF hb_43_0) (ai (FnSound.args (A1 := [.sl (shares (List.map I r_42_6_1)),sI r_11_6_1]) (A2 := [sI r_42_6_1,sI r_11_6_1]) (by simp only [sI,sB,sL,aSystem,aTerm,aL3Told,aTyped,aTyper,hSystem,hTerm,hL3Told,hTyped,hTyper,List.map_nil,sh_I]) (laws_eqIntS_s _ _ hr_43_7)) (ai bod_23 (ai (Or.inr rfl : ([32] : List Nat) = [] ∨ noSh (.bool r_43_7) = true) (ar 2 (nF hb_43_0) (ar 3 (neF (nT hb_43_1)) (ai (nT hb_43_1) trivial)))))))))) ?_
      obtain rfl := os h
      exact Into.mk
     refine rg hc none [oN,oN,oc (.bool r_43_2),oN,oN,o_,o_,o_,o_,oT,oN,o_,o_,o_,oT] [(14,.rs 17),(15,.rs 18),(18,I r_32_2),(165,.bool true)] [(17,rI o_31_2_0),(18,rI o_32_2_0)] (ai (FnSound.args (A1 := [.sl (shares (List.map I r_42_6_0)),sI r_11_6_0]) (A2 := [sI r_42_6_0,sI r_11_6_0]) (by simp only [sI,sB,sL,aSystem,aTerm,aL3Told,aTyped,aTyper,hSystem,hTerm,hL3Told,hTyped,hTyper,List.map_nil,sh_I]) (laws_eqIntS_s _ _ hr_43_2)) (ai bod_23 (ai (Or.inr rfl : ([31] : List Nat) = [] ∨ noSh (.bool r_43_2) = true) (ar 4 (neF (nT hb_43_0)) (ai (nT hb_43_0) (ar 3 nf (ai tt trivial))))))) ?_
     obtain rfl := os h
     exact Into.mk
    clear hj_17
    rcases is h with ⟨hb_18,h⟩ | ⟨hb_18,h⟩
    ·refine cT v_16 hb_18 ?_
     refine rs0 hc 1 [(6,.bool false)] [] ?_
     refine rt ?_
     obtain rfl := os h
     exact rq [true]
    refine cF v_16 hb_18 ?_
    refine sk ?_
    refine rs0 hc 1 [(14,.rs 17),(15,.rs 18),(18,I r_32_2),(19,I 1)] [(17,rI o_31_2_0),(18,rI o_32_2_0)] ?_
    obtain ⟨r_46_2,hr_46_2,h⟩ := bsome h
    refine rs hc none [oN,oN,oc (I r_46_2),oN] [(15,.rs 18),(18,I r_32_2),(19,I r_46_2)] [(18,rI o_32_2_0)] (ai (FnSound.args (A1 := [.sl (shares (List.map I o_31_2_0)),I 1]) (A2 := [sI o_31_2_0,I 1]) (by simp only [sI,sB,sL,aSystem,aTerm,aL3Told,aTyped,aTyper,hSystem,hTerm,hL3Told,hTyped,hTyper,List.map_nil,sh_I]) (laws_heldIntS_s _ _ hr_46_2)) (ai bod_31 (ai (Or.inr rfl : ([17] : List Nat) = [] ∨ noSh (I r_46_2) = true) trivial))) ?_
    refine sN ?_
    refine rs0 hc 2 [(15,.rs 18),(18,I r_32_2),(19,I r_46_2),(170,.bool (decide (r_46_2 < 0)))] [(18,rI o_32_2_0)] ?_
    rcases is h with ⟨hb_19,h⟩ | ⟨hb_19,h⟩
    ·refine cT ((decide (r_46_2 < 0))) hb_19 ?_
     refine rs0 hc 1 [(6,.bool false)] [] ?_
     refine rt ?_
     obtain rfl := os h
     exact rq [true]
    refine cF ((decide (r_46_2 < 0))) hb_19 ?_
    refine sk ?_
    obtain ⟨r_49_2,hr_49_2,h⟩ := bsome h
    refine rs hc none [oN,oN,oc (I r_49_2),oN] [(18,I r_32_2),(19,I r_49_2)] [] (ai (FnSound.args (A1 := [.sl (shares (List.map I o_32_2_0)),I r_46_2]) (A2 := [sI o_32_2_0,I r_46_2]) (by simp only [sI,sB,sL,aSystem,aTerm,aL3Told,aTyped,aTyper,hSystem,hTerm,hL3Told,hTyped,hTyper,List.map_nil,sh_I]) (laws_heldIntS_s _ _ hr_49_2)) (ai bod_31 (ai (Or.inr rfl : ([18] : List Nat) = [] ∨ noSh (I r_49_2) = true) trivial))) ?_
    refine sN ?_
    refine rs0 hc 2 [(18,I r_32_2),(19,I r_49_2),(175,.bool (decide (r_49_2 < 0)))] [] ?_
    rcases is h with ⟨hb_20,h⟩ | ⟨hb_20,h⟩
    ·refine cT ((decide (r_49_2 < 0))) hb_20 ?_
     refine rs0 hc 1 [(6,.bool false)] [] ?_
     refine rt ?_
     obtain rfl := os h
     exact rq [true]
    refine cF ((decide (r_49_2 < 0))) hb_20 ?_
    refine sk ?_
    refine sN ?_
    refine rs0 hc 3 [(178,.bool (r_49_2 != r_32_2))] [] ?_
    rcases is h with ⟨hb_21,h⟩ | ⟨hb_21,h⟩
    ·refine cT ((r_49_2 != r_32_2)) hb_21 ?_
     refine rs0 hc 1 [(6,.bool false)] [] ?_
     refine rt ?_
     obtain rfl := os h
     exact rq [true]
    refine cF ((r_49_2 != r_32_2)) hb_21 ?_
    refine sk ?_
    refine rs0 hc 1 [(6,.bool true)] [] ?_
    refine rt ?_
    obtain rfl := os h
    exact rq [true]
   refine cT (!r_22_3) (nT hb_9) ?_
   refine rs0 hc 1 [(6,.bool false)] [] ?_
   refine rt ?_
   obtain rfl := os h
   exact rq [true]
  refine cT (!r_20_3) (nT hb_8) ?_
  refine rs0 hc 1 [(6,.bool false)] [] ?_
  refine rt ?_
  obtain rfl := os h
  exact rq [true]
 refine cT (!r_18_3) (nT hb_7) ?_
 refine rs0 hc 1 [(6,.bool false)] [] ?_
 refine rt ?_
 obtain rfl := os h
 exact rq [true]
end Go.Am
