/- Functions of the program as pure functions,and that it computes them. Printed by a program of mine (gen.py). -/
import Derived.Test.YtmcpomoofkjfcaaGreatGFIF3
set_option linter.unusedVariables false
set_option linter.unusedSimpArgs false
set_option maxRecDepth 100000
namespace Go.Am
open Go Go.Proofs
def ah4_0 : Option (List (List Nat)) := rx [[0],[1],[0],[0,2],[4],[5],[0],[0,6],[8],[9]]
def ah4_1 : Option (List (List Nat)) := rx [[0],[0],[0,1],[0,1,2],[0,1,2,3],[0],[6],[7]]
def ah4_2 : Option (List (List Nat)) := rx [[0],[1],[2],[3],[3],[3,4],[3,4,5],[3,4,5,6],[3],[9],[10],[11]]
mutual
def spec_l3Tell (p : GSystem × (List (List Int)) × GTerm) : Option (GL3Told) :=
 match p with
 | (s0,ctx1,t2) =>
  if (t2.fOp == 0) = true then
   (spec_l3Zero (ctx1.length : Int)) >>= fun r_3_2 =>
   (idx r_3_2 t2.fN) >>= fun e_4_3 =>
   (idx ctx1 t2.fN) >>= fun e_5_3 =>
   (spec_l1Copy e_5_3) >>= fun r_5_5 =>
   some (GL3Told.mk r_5_5 (List.set r_3_2 (Int.toNat t2.fN) 1) 0 [])
  else
   if (t2.fOp == 1) = true then
    (spec_l3Zero (ctx1.length : Int)) >>= fun r_7_3 =>
    some (GL3Told.mk [0] r_7_3 0 [])
   else
    ((
     if (t2.fOp == 9) = true then
      (spec_l3With (ctx1,[t2.fType])) >>= fun r_10_4 =>
      some (r_10_4)
     else
      some (ctx1)
    ) : Option ((List (List Int)))) >>= fun inner_5 =>
    (spec_l3Of (s0,inner_5,t2,0)) >>= fun r_11_3 =>
    if (r_11_3.ffault != 0) = true then
     some r_11_3
    else
     ((
      if (t2.fOp == 2) = true then
       some ((t2.fOp == 2))
      else
       some ((t2.fOp == 3))
     ) : Option (Bool)) >>= fun j_9 =>
     if j_9 = true then
      (idx r_11_3.fty 0) >>= fun e_17_2 =>
      if (e_17_2 != 0) = true then
       (spec_l3Bad 2) >>= fun r_18_0 =>
       some r_18_0
      else
       (spec_l3Numbers (s0,ctx1,t2,r_11_3)) >>= fun r_19_4 =>
       some r_19_4
     else
      if (t2.fOp == 4) = true then
       (spec_l3Of (s0,ctx1,t2,1)) >>= fun r_21_3 =>
       if (r_21_3.ffault != 0) = true then
        some r_21_3
       else
        (spec_l3Glue (1,[r_11_3.fty,r_21_3.fty])) >>= fun r_24_5 =>
        (spec_l3Sum (s0,r_11_3.fneeds,1,r_21_3.fneeds)) >>= fun r_24_11 =>
        (spec_l3Done (r_24_5,r_24_11)) >>= fun r_24_12 =>
        some r_24_12
      else
       if (t2.fOp == 6) = true then
        (spec_l3Glue (2,[r_11_3.fty,t2.fType])) >>= fun r_26_5 =>
        (spec_l3Done (r_26_5,r_11_3.fneeds)) >>= fun r_26_8 =>
        some r_26_8
       else
        if (t2.fOp == 7) = true then
         (spec_l3Glue (2,[t2.fType,r_11_3.fty])) >>= fun r_28_5 =>
         (spec_l3Done (r_28_5,r_11_3.fneeds)) >>= fun r_28_8 =>
         some r_28_8
        else
         if (t2.fOp == 9) = true then
          (idx r_11_3.fneeds 0) >>= fun e_30_3 =>
          (spec_l1Le (s0,e_30_3,t2.fN)) >>= fun r_30_7 =>
          if r_30_7 = true then
           (spec_l3Glue ((wr (3 + t2.fN)),[t2.fType,r_11_3.fty])) >>= fun r_32_8 =>
           (cut r_11_3.fneeds (some 1) none none) >>= fun c_32_11 =>
           (spec_l1Copy c_32_11) >>= fun r_32_12 =>
           (spec_l3Done (r_32_8,r_32_12)) >>= fun r_32_13 =>
           some r_32_13
          else
           (spec_l3Bad 9) >>= fun r_31_0 =>
           some r_31_0
         else
          if (t2.fOp == 11) = true then
           (spec_l3Glue ((wr (19 + t2.fN)),[r_11_3.fty])) >>= fun r_34_6 =>
           (spec_l3Zero (ctx1.length : Int)) >>= fun r_34_10 =>
           (spec_l3Sum (s0,r_34_10,t2.fN,r_11_3.fneeds)) >>= fun r_34_15 =>
           (spec_l3Done (r_34_6,r_34_15)) >>= fun r_34_16 =>
           some r_34_16
          else
           if (t2.fOp == 10) = true then
            (idx r_11_3.fty 0) >>= fun e_36_2 =>
            (spec_l2Arrow e_36_2) >>= fun r_36_4 =>
            if r_36_4 = true then
             (spec_l3Of (s0,ctx1,t2,1)) >>= fun r_38_3 =>
             if (r_38_3.ffault != 0) = true then
              some r_38_3
             else
              (spec_l2Part (r_11_3.fty,0)) >>= fun r_41_4 =>
              (spec_l1Same (r_38_3.fty,r_41_4)) >>= fun r_41_5 =>
              if r_41_5 = true then
               (spec_l2Part (r_11_3.fty,1)) >>= fun r_43_2 =>
               (idx r_11_3.fty 0) >>= fun e_43_8 =>
               (spec_l2Grade e_43_8) >>= fun r_43_10 =>
               (spec_l3Sum (s0,r_11_3.fneeds,r_43_10,r_38_3.fneeds)) >>= fun r_43_13 =>
               some (GL3Told.mk r_43_2 r_43_13 0 [])
              else
               (spec_l3Bad 3) >>= fun r_42_0 =>
               some r_42_0
            else
             (spec_l3Bad 6) >>= fun r_37_0 =>
             some r_37_0
           else
            (spec_l3Taken (s0,ctx1,t2,r_11_3)) >>= fun r_44_4 =>
            some r_44_4
 partial_fixpoint
def spec_l3Taken (p : GSystem × (List (List Int)) × GTerm × GL3Told) : Option (GL3Told) :=
 match p with
 | (s0,ctx1,t2,a3) =>
  (idx a3.fty 0) >>= fun e_1_2 =>
  ((
   if (t2.fOp == 5) = true then
    some ((e_1_2 != 1))
   else
    some (false)
  ) : Option (Bool)) >>= fun v_1 =>
  if v_1 = true then
   (spec_l3Bad 4) >>= fun r_3_0 =>
   some r_3_0
  else
   ((
    if (t2.fOp == 8) = true then
     some ((e_1_2 != 2))
    else
     some (false)
   ) : Option (Bool)) >>= fun v_4 =>
   if v_4 = true then
    (spec_l3Bad 5) >>= fun r_5_0 =>
    some r_5_0
   else
    ((
     if (t2.fOp == 12) = true then
      (spec_l2Box e_1_2) >>= fun r_6_5 =>
      some ((!r_6_5))
     else
      some (false)
    ) : Option (Bool)) >>= fun v_7 =>
    if v_7 = true then
     (spec_l3Bad 7) >>= fun r_7_0 =>
     some r_7_0
    else
     (spec_l1Le (s0,1,t2.fN)) >>= fun r_8_3 =>
     if r_8_3 = true then
      (spec_l2Part (a3.fty,0)) >>= fun r_10_2 =>
      ((
       if (t2.fOp == 5) = true then
        (spec_l2Part (a3.fty,1)) >>= fun r_12_2 =>
        (spec_l2Part (a3.fty,0)) >>= fun r_12_5 =>
        some ([r_12_2,r_12_5])
       else
        some ([r_10_2])
      ) : Option ((List (List Int)))) >>= fun front_12 =>
      (spec_l3With (ctx1,front_12)) >>= fun r_13_3 =>
      (spec_l3Of (s0,r_13_3,t2,1)) >>= fun r_13_5 =>
      if (r_13_5.ffault != 0) = true then
       some r_13_5
      else
       (cut r_13_5.fneeds (some (front_12.length : Int)) none none) >>= fun c_18_3 =>
       (spec_l1Copy c_18_3) >>= fun r_18_4 =>
       ((
        if (t2.fOp == 12) = true then
         (spec_l2Grade e_1_2) >>= fun r_22_4 =>
         (spec_l1Mul (s0,t2.fN,r_22_4)) >>= fun r_22_5 =>
         some (.inl (r_22_5,r_18_4,true))
        else
         ((
          if (t2.fOp == 5) = true then
           (idx r_13_5.fneeds 1) >>= fun e_24_3 =>
           (spec_l1Le (s0,e_24_3,t2.fN)) >>= fun r_24_6 =>
           some (.inl (r_18_4,r_24_6))
          else
           ((
            if (t2.fOp == 8) = true then
             (spec_l2Part (a3.fty,1)) >>= fun r_26_4 =>
             (spec_l3With (ctx1,[r_26_4])) >>= fun r_26_6 =>
             (spec_l3Of (s0,r_26_6,t2,2)) >>= fun r_26_8 =>
             if (r_26_8.ffault != 0) = true then
              some (.inr r_26_8)
             else
              (spec_l1Same (r_13_5.fty,r_26_8.fty)) >>= fun r_29_4 =>
              if r_29_4 = true then
               (idx r_26_8.fneeds 0) >>= fun e_31_3 =>
               (spec_l1Le (s0,e_31_3,t2.fN)) >>= fun r_31_6 =>
               (cut r_26_8.fneeds (some 1) none none) >>= fun c_32_4 =>
               (spec_l3Join (s0,r_18_4,c_32_4)) >>= fun r_32_5 =>
               some (.inl (r_32_5,r_31_6))
              else
               (spec_l3Bad 3) >>= fun r_30_0 =>
               some (.inr r_30_0)
            else
             some (.inl (r_18_4,true))) : Option (((List Int) × Bool) ⊕ (GL3Told))) >>= fun fl => match fl with
           | .inl (rest_20,ok_21) =>
            some (.inl (rest_20,ok_21))
           | .inr r =>
            some (.inr r)) : Option (((List Int) × Bool) ⊕ (GL3Told))) >>= fun fl => match fl with
         | .inl (rest_24,ok_23) =>
          some (.inl (t2.fN,rest_24,ok_23))
         | .inr r =>
          some (.inr r)) : Option ((Int × (List Int) × Bool) ⊕ (GL3Told))) >>= fun fl => match fl with
       | .inl (most_26,rest_27,ok_28) =>
        ((
         if ok_28 = true then
          (idx r_13_5.fneeds 0) >>= fun e_33_6 =>
          (spec_l1Le (s0,e_33_6,most_26)) >>= fun r_33_9 =>
          some ((!r_33_9))
         else
          some (true)
        ) : Option (Bool)) >>= fun v_30 =>
        if v_30 = true then
         (spec_l3Bad 9) >>= fun r_34_0 =>
         some r_34_0
        else
         (spec_l3Zero (ctx1.length : Int)) >>= fun r_35_6 =>
         (spec_l3Sum (s0,r_35_6,t2.fN,a3.fneeds)) >>= fun r_35_11 =>
         (spec_l3Sum (s0,r_35_11,1,rest_27)) >>= fun r_35_13 =>
         some (GL3Told.mk r_13_5.fty r_35_13 0 [])
       | .inr r =>
        some r
     else
      (spec_l3Bad 8) >>= fun r_9_0 =>
      some r_9_0
 partial_fixpoint
def spec_l3Of (p : GSystem × (List (List Int)) × GTerm × Int) : Option (GL3Told) :=
 match p with
 | (s0,ctx1,t2,k3) =>
  (idx t2.fKids k3) >>= fun e_1_5 =>
  (spec_l3Tell (s0,ctx1,e_1_5)) >>= fun r_1_7 =>
  ((
   if (r_1_7.ffault != 0) = true then
    (fits ([k3].length + r_1_7.fpath.length) 8) >>= fun _ =>
    some (([k3] ++ r_1_7.fpath))
   else
    some (r_1_7.fpath)
  ) : Option ((List Int))) >>= fun x_2 =>
  some (GL3Told.mk r_1_7.fty r_1_7.fneeds r_1_7.ffault x_2)
 partial_fixpoint
def spec_l3Numbers (p : GSystem × (List (List Int)) × GTerm × GL3Told) : Option (GL3Told) :=
 match p with
 | (s0,ctx1,t2,a3) =>
  (spec_l3Of (s0,ctx1,t2,1)) >>= fun r_1_3 =>
  if (r_1_3.ffault != 0) = true then
   some r_1_3
  else
   if (t2.fOp == 2) = true then
    (idx r_1_3.fty 0) >>= fun e_5_2 =>
    if (e_5_2 != 0) = true then
     (spec_l3Bad 2) >>= fun r_6_0 =>
     some r_6_0
    else
     (spec_l3Sum (s0,a3.fneeds,1,r_1_3.fneeds)) >>= fun r_7_7 =>
     some (GL3Told.mk r_1_3.fty r_7_7 0 [])
   else
    (spec_l3Of (s0,ctx1,t2,2)) >>= fun r_8_3 =>
    if (r_8_3.ffault != 0) = true then
     some r_8_3
    else
     (spec_l1Same (r_1_3.fty,r_8_3.fty)) >>= fun r_11_4 =>
     if r_11_4 = true then
      (spec_l3Join (s0,r_1_3.fneeds,r_8_3.fneeds)) >>= fun r_13_10 =>
      (spec_l3Sum (s0,a3.fneeds,1,r_13_10)) >>= fun r_13_11 =>
      some (GL3Told.mk r_1_3.fty r_13_11 0 [])
     else
      (spec_l3Bad 3) >>= fun r_12_0 =>
      some r_12_0
 partial_fixpoint
end
def M_spec_l3Tell (p : GSystem × (List (List Int)) × GTerm) (r : GL3Told) : Prop :=
 match p with
 | (s0,ctx1,t2) => FnSound Tryz.prog 73 [aSystem s0,sL ctx1,aTerm t2] (aL3Told r) []
def M_spec_l3Taken (p : GSystem × (List (List Int)) × GTerm × GL3Told) (r : GL3Told) : Prop :=
 match p with
 | (s0,ctx1,t2,a3) => FnSound Tryz.prog 153 [aSystem s0,sL ctx1,aTerm t2,aL3Told a3] (aL3Told r) []
def M_spec_l3Of (p : GSystem × (List (List Int)) × GTerm × Int) (r : GL3Told) : Prop :=
 match p with
 | (s0,ctx1,t2,k3) => FnSound Tryz.prog 143 [aSystem s0,sL ctx1,aTerm t2,I k3] (aL3Told r) []
def M_spec_l3Numbers (p : GSystem × (List (List Int)) × GTerm × GL3Told) (r : GL3Told) : Prop :=
 match p with
 | (s0,ctx1,t2,a3) => FnSound Tryz.prog 145 [aSystem s0,sL ctx1,aTerm t2,aL3Told a3] (aL3Told r) []
theorem spec_l3Tell_all : (∀ p r,spec_l3Tell p = some r → M_spec_l3Tell p r) ∧ (∀ p r,spec_l3Taken p = some r → M_spec_l3Taken p r) ∧ (∀ p r,spec_l3Of p = some r → M_spec_l3Of p r) ∧ (∀ p r,spec_l3Numbers p = some r → M_spec_l3Numbers p r) := by
 refine spec_l3Tell.mutual_partial_correctness M_spec_l3Tell M_spec_l3Taken M_spec_l3Of M_spec_l3Numbers ?_ ?_ ?_ ?_
 ·rintro spec_l3Taken_f spec_l3Of_f spec_l3Numbers_f spec_l3Taken_ih spec_l3Of_ih spec_l3Numbers_ih ⟨s0,ctx1,t2⟩ r h
  refine b0 Tryz.f73 B73 206 [(0,aSystem s0),(1,sL ctx1),(2,aTerm t2)] fun c hc => ?_
  refine rs hc none [some (.new 1),some (.new 2),some (.new 3)] [(1,sL ctx1),(3,.ra 1 0),(5,.ra 2 0),(6,.ra 3 0)] [(1,bSystem s0),(2,bTerm t2),(3,.box [.nils,.nils,I 0,.nils])] trivial ?_
  refine sN ?_
  refine rs0 hc 2 [(1,sL ctx1),(3,.ra 1 0),(5,.ra 2 0),(6,.ra 3 0),(13,I t2.fOp)] [(1,bSystem s0),(2,bTerm t2),(3,.box [.nils,.nils,I 0,.nils])] ?_
  refine bk 0 ?_
  refine rs0 hc 2 [(1,sL ctx1),(3,.ra 1 0),(5,.ra 2 0),(6,.ra 3 0),(13,I t2.fOp),(14,.bool (t2.fOp == 0))] [(1,bSystem s0),(2,bTerm t2),(3,.box [.nils,.nils,I 0,.nils])] ?_
  rcases is h with ⟨hb_1,h⟩ | ⟨hb_1,h⟩
  ·refine cT ((t2.fOp == 0)) hb_1 ?_
   obtain ⟨r_3_2,hr_3_2,h⟩ := bsome h
   refine rs hc none [oN,some (.eqv (.no) ⟨[(17,I (ctx1.length : Int))],[],[]⟩),some (.call (oI r_3_2) [] 4),oN] [(1,sL ctx1),(5,.ra 2 0),(6,.ra 3 0),(7,.rs 4)] [(2,bTerm t2),(3,.box [.nils,.nils,I 0,.nils]),(4,rI r_3_2)] (ai (lenT (d := 17) LI_s ctx1) (ai (spec_l3Zero_s _ _ hr_3_2) (ai bod_142 (ai (oi (oI r_3_2)) trivial)))) ?_
   obtain ⟨e_4_3,hi_4_3,h⟩ := bsome h
   refine rs hc none [oN,oN,oN,oN,some (.eqv (.mk 0 true) ⟨[],[(4,some (.arr (List.map I (List.set r_3_2 (Int.toNat t2.fN) 1))))],[]⟩)] [(1,sL ctx1),(5,.ra 2 0),(6,.ra 3 0),(7,.rs 4)] [(2,bTerm t2),(3,.box [.nils,.nils,I 0,.nils]),(4,.arr (List.map I (List.set r_3_2 (Int.toNat t2.fN) 1)))] (ai (idx_own (enc := I) hi_4_3) (ai (congrArg (fun z => (⟨[],[(4,some (.arr z))],[]⟩ : Wr)) (set_row (enc := I) (i := Int.toNat t2.fN) (l := r_3_2) (v := 1) (x := I 1) (eq_I 1))) (ai (own_set (enc := I) (sz := 1) sz_I hi_4_3) trivial))) ?_
   obtain ⟨e_5_3,hi_5_3,h⟩ := bsome h
   obtain ⟨r_5_5,hr_5_5,h⟩ := bsome h
   refine rs hc none [oN,oN,oN,some (.el (sI e_5_3)),oN,some (.call (oI r_5_5) [] 5),oN,oN,oN] [(6,.ra 3 0)] [(3,.box [.rs 5,.rs 4,I 0,.nils]),(4,.arr (List.map I (List.set r_3_2 (Int.toNat t2.fN) 1))),(5,rI r_5_5)] (ai (idx_sl (enc := LI_s) (x := sI e_5_3) hi_5_3 (eq_LI_s e_5_3)) (ai (spec_l1Copy_s _ _ hr_5_5) (ai bod_93 (ai (oi (oI r_5_5)) trivial)))) ?_
   refine vz 5 (sh_I r_5_5) [(6,.ra 3 0)] [(3,.box [sI r_5_5,.rs 4,I 0,.nils]),(4,.arr (List.map I (List.set r_3_2 (Int.toNat t2.fN) 1)))] ?_
   refine vz 4 (sh_I (List.set r_3_2 (Int.toNat t2.fN) 1)) [(6,.ra 3 0)] [(3,.box [sI r_5_5,.sl (List.map I (List.set r_3_2 (Int.toNat t2.fN) 1)),I 0,.nils])] ?_
   refine rt ?_
   obtain rfl := os h
   exact rq [false]
  refine cF ((t2.fOp == 0)) hb_1 ?_
  refine rs0 hc 2 [(1,sL ctx1),(3,.ra 1 0),(5,.ra 2 0),(6,.ra 3 0),(31,.bool (t2.fOp == 1))] [(1,bSystem s0),(2,bTerm t2),(3,.box [.nils,.nils,I 0,.nils])] ?_
  rcases is h with ⟨hb_2,h⟩ | ⟨hb_2,h⟩
  ·refine cT ((t2.fOp == 1)) hb_2 ?_
   obtain ⟨r_7_3,hr_7_3,h⟩ := bsome h
   refine rs hc none [some (.mk 6 true),oN,some (.eqv (.no) ⟨[(35,I (ctx1.length : Int))],[],[]⟩),some (.call (oI r_7_3) [] 7),oN,oN] [(6,.ra 3 0)] [(3,.box [.rs 6,.rs 7,I 0,.nils]),(6,.arr (List.map I [0])),(7,rI r_7_3)] (ai (lenT (d := 35) LI_s ctx1) (ai (spec_l3Zero_s _ _ hr_7_3) (ai bod_142 (ai (oi (oI r_7_3)) trivial)))) ?_
   refine vz 6 (sh_I [0]) [(6,.ra 3 0)] [(3,.box [.sl (List.map I [0]),.rs 7,I 0,.nils]),(7,rI r_7_3)] ?_
   refine vz 7 (sh_I r_7_3) [(6,.ra 3 0)] [(3,.box [.sl (List.map I [0]),sI r_7_3,I 0,.nils])] ?_
   refine rt ?_
   obtain rfl := os h
   exact rq [false]
  refine cF ((t2.fOp == 1)) hb_2 ?_
  refine sk ?_
  refine rs0 hc 2 [(1,sL ctx1),(3,.ra 1 0),(5,.ra 2 0),(6,.ra 3 0),(8,sL ctx1)] [(1,bSystem s0),(2,bTerm t2),(3,.box [.nils,.nils,I 0,.nils])] ?_
  refine sN ?_
  refine rs0 hc 3 [(1,sL ctx1),(3,.ra 1 0),(5,.ra 2 0),(6,.ra 3 0),(8,sL ctx1),(41,.bool (t2.fOp == 9))] [(1,bSystem s0),(2,bTerm t2),(3,.box [.nils,.nils,I 0,.nils])] ?_
  obtain ⟨inner_5,hj_6,h⟩ := bsome h
  refine Wp.into (x := .normal) (mkS [(1,sL ctx1),(3,.ra 1 0),(5,.ra 2 0),(6,.ra 3 0),(8,sL inner_5)] [(1,bSystem s0),(2,bTerm t2),(3,.box [.nils,.nils,I 0,.nils])]) ?_ ?_
  ·replace h := hj_6
   rcases is h with ⟨hb_3,h⟩ | ⟨hb_3,h⟩
   ·refine cT ((t2.fOp == 9)) hb_3 ?_
    obtain ⟨r_10_4,hr_10_4,h⟩ := bsome h
    refine rg hc none [oN,oN,oN,some (.mk 8 false),some (.call (.osl (List.map LI_s r_10_4)) [.tup []] 9),oN] [(1,sL ctx1),(3,.ra 1 0),(5,.ra 2 0),(6,.ra 3 0),(8,.rs 9)] [(1,bSystem s0),(2,bTerm t2),(3,.box [.nils,.nils,I 0,.nils]),(9,.arr (List.map LI_s r_10_4))] (ai (FnSound.args (A1 := [sL ctx1,.sl (shares (List.map LI_s [t2.fType]))]) (A2 := [sL ctx1,.sl (List.map LI_s [t2.fType])]) (by simp only [sI,sB,sL,aSystem,aTerm,aL3Told,aTyped,aTyper,hSystem,hTerm,hL3Told,hTyped,hTyper,List.map_nil,sh_LI_s]) (spec_l3With_s _ _ hr_10_4)) (ai bod_105 trivial)) ?_
    obtain rfl := os h
    exact Into.view (fun a w hv => SRx.renL [] (SRx.frzC 9 (xs := List.map LI_s r_10_4) (xs' := List.map LI_s r_10_4) hv (by kernel_rfl) (sh_LI_s _)) (by kernel_rfl) (by kernel_rfl) (by kernel_rfl))
   refine cF ((t2.fOp == 9)) hb_3 ?_
   refine sk ?_
   obtain rfl := os h
   exact iv []
  clear hj_6
  obtain ⟨r_11_3,hr_11_3,h⟩ := bsome h
  refine rs hc none [oN,oN,oN,oc (aL3Told r_11_3),some (.new 10),oN] [(1,sL ctx1),(3,.ra 1 0),(5,.ra 2 0),(6,.ra 3 0),(9,.ra 10 0)] [(1,bSystem s0),(2,bTerm t2),(3,.box [.nils,.nils,I 0,.nils]),(10,bL3Told r_11_3)] (ai (spec_l3Of_ih _ _ hr_11_3) (ai bod_143 (ai (oi (aL3Told r_11_3)) trivial))) ?_
  refine sN ?_
  refine rs0 hc 3 [(1,sL ctx1),(3,.ra 1 0),(5,.ra 2 0),(6,.ra 3 0),(9,.ra 10 0),(53,.bool (r_11_3.ffault != 0))] [(1,bSystem s0),(2,bTerm t2),(3,.box [.nils,.nils,I 0,.nils]),(10,bL3Told r_11_3)] ?_
  rcases is h with ⟨hb_7,h⟩ | ⟨hb_7,h⟩
  ·refine cT ((r_11_3.ffault != 0)) hb_7 ?_
   refine rs0 hc 2 [(6,.ra 3 0)] [(3,bL3Told r_11_3)] ?_
   refine rt ?_
   obtain rfl := os h
   exact rq [false]
  refine cF ((r_11_3.ffault != 0)) hb_7 ?_
  refine sk ?_
  refine sN ?_
  refine rs0 hc 2 [(1,sL ctx1),(3,.ra 1 0),(5,.ra 2 0),(6,.ra 3 0),(9,.ra 10 0),(56,I t2.fOp)] [(1,bSystem s0),(2,bTerm t2),(3,.box [.nils,.nils,I 0,.nils]),(10,bL3Told r_11_3)] ?_
  refine bk 1 ?_
  refine sN ?_
  refine rs0 hc 2 [(1,sL ctx1),(3,.ra 1 0),(5,.ra 2 0),(6,.ra 3 0),(9,.ra 10 0),(56,I t2.fOp),(57,.bool (t2.fOp == 2))] [(1,bSystem s0),(2,bTerm t2),(3,.box [.nils,.nils,I 0,.nils]),(10,bL3Told r_11_3)] ?_
  obtain ⟨j_9,hj_10,h⟩ := bsome h
  refine Wp.into (x := .normal) (mkS [(1,sL ctx1),(3,.ra 1 0),(5,.ra 2 0),(6,.ra 3 0),(9,.ra 10 0),(56,I t2.fOp),(57,.bool j_9)] [(1,bSystem s0),(2,bTerm t2),(3,.box [.nils,.nils,I 0,.nils]),(10,bL3Told r_11_3)]) ?_ ?_
  ·replace h := hj_10
   rcases is h with ⟨hb_8,h⟩ | ⟨hb_8,h⟩
   ·refine cT ((t2.fOp == 2)) hb_8 ?_
    refine sk ?_
    obtain rfl := os h
    exact Into.mk
   refine cF ((t2.fOp == 2)) hb_8 ?_
   refine rg0 hc 2 [(1,sL ctx1),(3,.ra 1 0),(5,.ra 2 0),(6,.ra 3 0),(9,.ra 10 0),(56,I t2.fOp),(57,.bool (t2.fOp == 3))] [(1,bSystem s0),(2,bTerm t2),(3,.box [.nils,.nils,I 0,.nils]),(10,bL3Told r_11_3)] ?_
   obtain rfl := os h
   exact Into.mk
  clear hj_10
  rcases is h with ⟨hb_11,h⟩ | ⟨hb_11,h⟩
  ·refine cT j_9 hb_11 ?_
   refine sN ?_
   obtain ⟨e_17_2,hi_17_2,h⟩ := bsome h
   refine rs hc none [oN,oN,some (.el (I e_17_2)),oN,oN] [(1,sL ctx1),(3,.ra 1 0),(5,.ra 2 0),(6,.ra 3 0),(9,.ra 10 0),(64,.bool (e_17_2 != 0))] [(1,bSystem s0),(2,bTerm t2),(3,.box [.nils,.nils,I 0,.nils]),(10,bL3Told r_11_3)] (ai (ix hi_17_2) trivial) ?_
   rcases is h with ⟨hb_12,h⟩ | ⟨hb_12,h⟩
   ·refine cT ((e_17_2 != 0)) hb_12 ?_
    obtain ⟨r_18_0,hr_18_0,h⟩ := bsome h
    refine rs hc none [some (.call (qL3Told r_18_0) [] 11),oN] [(6,.ra 3 0)] [(3,.box [.rs 11,.rs 12,I r_18_0.ffault,.rs 13]),(11,rI r_18_0.fty),(12,rI r_18_0.fneeds),(13,rI r_18_0.fpath)] (ai (spec_l3Bad_s _ _ hr_18_0) (ai bod_144 (ai (oi (qL3Told r_18_0)) trivial))) ?_
    refine vz 11 (sh_I r_18_0.fty) [(6,.ra 3 0)] [(3,.box [sI r_18_0.fty,.rs 12,I r_18_0.ffault,.rs 13]),(12,rI r_18_0.fneeds),(13,rI r_18_0.fpath)] ?_
    refine vz 12 (sh_I r_18_0.fneeds) [(6,.ra 3 0)] [(3,.box [sI r_18_0.fty,sI r_18_0.fneeds,I r_18_0.ffault,.rs 13]),(13,rI r_18_0.fpath)] ?_
    refine vz 13 (sh_I r_18_0.fpath) [(6,.ra 3 0)] [(3,bL3Told r_18_0)] ?_
    refine rt ?_
    obtain rfl := os h
    exact rq [false]
   refine cF ((e_17_2 != 0)) hb_12 ?_
   refine sk ?_
   obtain ⟨r_19_4,hr_19_4,h⟩ := bsome h
   refine rs hc none [oN,oN,oN,oN,oc (aL3Told r_19_4),oN] [(6,.ra 3 0)] [(3,bL3Told r_19_4)] (ai (spec_l3Numbers_ih _ _ hr_19_4) (ai bod_145 (ai (oi (aL3Told r_19_4)) trivial))) ?_
   refine rt ?_
   obtain rfl := os h
   exact rq [false]
  refine cF j_9 hb_11 ?_
  refine rs0 hc 2 [(1,sL ctx1),(3,.ra 1 0),(5,.ra 2 0),(6,.ra 3 0),(9,.ra 10 0),(56,I t2.fOp),(71,.bool (t2.fOp == 4))] [(1,bSystem s0),(2,bTerm t2),(3,.box [.nils,.nils,I 0,.nils]),(10,bL3Told r_11_3)] ?_
  rcases is h with ⟨hb_13,h⟩ | ⟨hb_13,h⟩
  ·refine cT ((t2.fOp == 4)) hb_13 ?_
   obtain ⟨r_21_3,hr_21_3,h⟩ := bsome h
   refine rs hc none [oN,oN,oN,oc (aL3Told r_21_3),some (.new 14),oN] [(3,.ra 1 0),(6,.ra 3 0),(9,.ra 10 0),(10,.ra 14 0)] [(1,bSystem s0),(3,.box [.nils,.nils,I 0,.nils]),(10,bL3Told r_11_3),(14,bL3Told r_21_3)] (ai (spec_l3Of_ih _ _ hr_21_3) (ai bod_143 (ai (oi (aL3Told r_21_3)) trivial))) ?_
   refine sN ?_
   refine rs0 hc 3 [(3,.ra 1 0),(6,.ra 3 0),(9,.ra 10 0),(10,.ra 14 0),(79,.bool (r_21_3.ffault != 0))] [(1,bSystem s0),(3,.box [.nils,.nils,I 0,.nils]),(10,bL3Told r_11_3),(14,bL3Told r_21_3)] ?_
   rcases is h with ⟨hb_14,h⟩ | ⟨hb_14,h⟩
   ·refine cT ((r_21_3.ffault != 0)) hb_14 ?_
    refine rs0 hc 2 [(6,.ra 3 0)] [(3,bL3Told r_21_3)] ?_
    refine rt ?_
    obtain rfl := os h
    exact rq [false]
   refine cF ((r_21_3.ffault != 0)) hb_14 ?_
   refine sk ?_
   obtain ⟨r_24_5,hr_24_5,h⟩ := bsome h
   obtain ⟨r_24_11,hr_24_11,h⟩ := bsome h
   obtain ⟨r_24_12,hr_24_12,h⟩ := bsome h
   refine rs hc (rx [[0],[1],[0],[0,2],[4],[5],[0],[0],[0,7],[0],[0,9],[11],[12],[13]]) [oN,oN,oN,oN,some (.mk 15 false),some (.call (oI r_24_5) [] 16),oN,oN,oN,oN,oN,some (.call (oI r_24_11) [] 17),some (.call (aL3Told r_24_12) [.tup []] 1),oN] [(6,.ra 3 0)] [(3,bL3Told r_24_12)] (ai (FnSound.args (A1 := [I 1,.sl (shares (List.map LI_s [r_11_3.fty,r_21_3.fty]))]) (A2 := [I 1,.sl (List.map LI_s [r_11_3.fty,r_21_3.fty])]) (by simp only [sI,sB,sL,aSystem,aTerm,aL3Told,aTyped,aTyper,hSystem,hTerm,hL3Told,hTyped,hTyper,List.map_nil,sh_LI_s]) (spec_l3Glue_s _ _ hr_24_5)) (ai bod_147 (ai (Or.inr (nsh_row nsh_I r_24_5) : ([15] : List Nat) = [] ∨ noSh (oI r_24_5) = true) (ai (spec_l3Sum_s _ _ hr_24_11) (ai bod_148 (ai (oi (oI r_24_11)) (ai (FnSound.args (A1 := [.sl (shares (List.map I r_24_5)),.sl (shares (List.map I r_24_11))]) (A2 := [sI r_24_5,sI r_24_11]) (by simp only [sI,sB,sL,aSystem,aTerm,aL3Told,aTyped,aTyper,hSystem,hTerm,hL3Told,hTyped,hTyper,List.map_nil,sh_I]) (spec_l3Done_s _ _ hr_24_12)) (ai bod_146 trivial)))))))) ?_
   refine rt ?_
   obtain rfl := os h
   exact rq [false]
  refine cF ((t2.fOp == 4)) hb_13 ?_
  refine rs0 hc 2 [(1,sL ctx1),(3,.ra 1 0),(5,.ra 2 0),(6,.ra 3 0),(9,.ra 10 0),(56,I t2.fOp),(94,.bool (t2.fOp == 6))] [(1,bSystem s0),(2,bTerm t2),(3,.box [.nils,.nils,I 0,.nils]),(10,bL3Told r_11_3)] ?_
  rcases is h with ⟨hb_15,h⟩ | ⟨hb_15,h⟩
  ·refine cT ((t2.fOp == 6)) hb_15 ?_
   obtain ⟨r_26_5,hr_26_5,h⟩ := bsome h
   obtain ⟨r_26_8,hr_26_8,h⟩ := bsome h
   refine rs hc ah4_0 [oN,oN,oN,oN,some (.mk 18 false),some (.call (oI r_26_5) [] 19),oN,oN,some (.call (aL3Told r_26_8) [.tup []] 1),oN] [(6,.ra 3 0)] [(3,bL3Told r_26_8)] (ai (FnSound.args (A1 := [I 2,.sl (shares (List.map LI_s [r_11_3.fty,t2.fType]))]) (A2 := [I 2,.sl (List.map LI_s [r_11_3.fty,t2.fType])]) (by simp only [sI,sB,sL,aSystem,aTerm,aL3Told,aTyped,aTyper,hSystem,hTerm,hL3Told,hTyped,hTyper,List.map_nil,sh_LI_s]) (spec_l3Glue_s _ _ hr_26_5)) (ai bod_147 (ai (Or.inr (nsh_row nsh_I r_26_5) : ([18] : List Nat) = [] ∨ noSh (oI r_26_5) = true) (ai (FnSound.args (A1 := [.sl (shares (List.map I r_26_5)),sI r_11_3.fneeds]) (A2 := [sI r_26_5,sI r_11_3.fneeds]) (by simp only [sI,sB,sL,aSystem,aTerm,aL3Told,aTyped,aTyper,hSystem,hTerm,hL3Told,hTyped,hTyper,List.map_nil,sh_I]) (spec_l3Done_s _ _ hr_26_8)) (ai bod_146 trivial))))) ?_
   refine rt ?_
   obtain rfl := os h
   exact rq [false]
  refine cF ((t2.fOp == 6)) hb_15 ?_
  refine rs0 hc 2 [(1,sL ctx1),(3,.ra 1 0),(5,.ra 2 0),(6,.ra 3 0),(9,.ra 10 0),(56,I t2.fOp),(105,.bool (t2.fOp == 7))] [(1,bSystem s0),(2,bTerm t2),(3,.box [.nils,.nils,I 0,.nils]),(10,bL3Told r_11_3)] ?_
  rcases is h with ⟨hb_16,h⟩ | ⟨hb_16,h⟩
  ·refine cT ((t2.fOp == 7)) hb_16 ?_
   obtain ⟨r_28_5,hr_28_5,h⟩ := bsome h
   obtain ⟨r_28_8,hr_28_8,h⟩ := bsome h
   refine rs hc ah4_0 [oN,oN,oN,oN,some (.mk 20 false),some (.call (oI r_28_5) [] 21),oN,oN,some (.call (aL3Told r_28_8) [.tup []] 1),oN] [(6,.ra 3 0)] [(3,bL3Told r_28_8)] (ai (FnSound.args (A1 := [I 2,.sl (shares (List.map LI_s [t2.fType,r_11_3.fty]))]) (A2 := [I 2,.sl (List.map LI_s [t2.fType,r_11_3.fty])]) (by simp only [sI,sB,sL,aSystem,aTerm,aL3Told,aTyped,aTyper,hSystem,hTerm,hL3Told,hTyped,hTyper,List.map_nil,sh_LI_s]) (spec_l3Glue_s _ _ hr_28_5)) (ai bod_147 (ai (Or.inr (nsh_row nsh_I r_28_5) : ([20] : List Nat) = [] ∨ noSh (oI r_28_5) = true) (ai (FnSound.args (A1 := [.sl (shares (List.map I r_28_5)),sI r_11_3.fneeds]) (A2 := [sI r_28_5,sI r_11_3.fneeds]) (by simp only [sI,sB,sL,aSystem,aTerm,aL3Told,aTyped,aTyper,hSystem,hTerm,hL3Told,hTyped,hTyper,List.map_nil,sh_I]) (spec_l3Done_s _ _ hr_28_8)) (ai bod_146 trivial))))) ?_
   refine rt ?_
   obtain rfl := os h
   exact rq [false]
  refine cF ((t2.fOp == 7)) hb_16 ?_
  refine rs0 hc 2 [(1,sL ctx1),(3,.ra 1 0),(5,.ra 2 0),(6,.ra 3 0),(9,.ra 10 0),(56,I t2.fOp),(116,.bool (t2.fOp == 9))] [(1,bSystem s0),(2,bTerm t2),(3,.box [.nils,.nils,I 0,.nils]),(10,bL3Told r_11_3)] ?_
  rcases is h with ⟨hb_17,h⟩ | ⟨hb_17,h⟩
  ·refine cT ((t2.fOp == 9)) hb_17 ?_
   refine sN ?_
   obtain ⟨e_30_3,hi_30_3,h⟩ := bsome h
   obtain ⟨r_30_7,hr_30_7,h⟩ := bsome h
   refine rs hc (rx [[0],[0],[0,1],[0,1,2],[0,1,2,3],[0],[0,5],[7],[8]]) [oN,oN,oN,some (.el (I e_30_3)),oN,oN,oN,oc (.bool r_30_7),oN] [(5,.ra 2 0),(6,.ra 3 0),(9,.ra 10 0),(126,.bool (!r_30_7))] [(2,bTerm t2),(3,.box [.nils,.nils,I 0,.nils]),(10,bL3Told r_11_3)] (ai (ix hi_30_3) (ai (spec_l1Le_s _ _ hr_30_7) (ai bod_149 (ai (oi (.bool r_30_7)) trivial)))) ?_
   rcases is h with ⟨hb_18,h⟩ | ⟨hb_18,h⟩
   ·refine cF (!r_30_7) (nF hb_18) ?_
    refine sk ?_
    obtain ⟨r_32_8,hr_32_8,h⟩ := bsome h
    obtain ⟨c_32_11,hs_32_11,h⟩ := bsome h
    obtain ⟨r_32_12,hr_32_12,h⟩ := bsome h
    obtain ⟨r_32_13,hr_32_13,h⟩ := bsome h
    refine rs hc (rx [[0],[1],[2],[0],[0,3],[0],[0,5],[0,3,4,5,6],[8],[0],[0,9],[0,9,10],[12],[13],[14]]) [oN,oN,oN,oN,oN,oN,oN,some (.mk 22 false),some (.call (oI r_32_8) [] 23),oN,oN,some (.eqv (.no) ⟨[(139,sI c_32_11)],[],[]⟩),some (.call (oI r_32_12) [] 24),some (.call (aL3Told r_32_13) [.tup []] 1),oN] [(6,.ra 3 0)] [(3,bL3Told r_32_13)] (ai (FnSound.args (A1 := [I (wr (3 + t2.fN)),.sl (shares (List.map LI_s [t2.fType,r_11_3.fty]))]) (A2 := [I (wr (3 + t2.fN)),.sl (List.map LI_s [t2.fType,r_11_3.fty])]) (by simp only [sI,sB,sL,aSystem,aTerm,aL3Told,aTyped,aTyper,hSystem,hTerm,hL3Told,hTyped,hTyper,List.map_nil,sh_LI_s]) (spec_l3Glue_s _ _ hr_32_8)) (ai bod_147 (ai (Or.inr (nsh_row nsh_I r_32_8) : ([22] : List Nat) = [] ∨ noSh (oI r_32_8) = true) (ai (cut_wr (d := 139) I hs_32_11) (ai (cut_ob (enc := I) (sz := 1) sz_I hs_32_11) (ai (spec_l1Copy_s _ _ hr_32_12) (ai bod_93 (ai (oi (oI r_32_12)) (ai (FnSound.args (A1 := [.sl (shares (List.map I r_32_8)),.sl (shares (List.map I r_32_12))]) (A2 := [sI r_32_8,sI r_32_12]) (by simp only [sI,sB,sL,aSystem,aTerm,aL3Told,aTyped,aTyper,hSystem,hTerm,hL3Told,hTyped,hTyper,List.map_nil,sh_I]) (spec_l3Done_s _ _ hr_32_13)) (ai bod_146 trivial)))))))))) ?_
    refine rt ?_
    obtain rfl := os h
    exact rq [false]
   refine cT (!r_30_7) (nT hb_18) ?_
   obtain ⟨r_31_0,hr_31_0,h⟩ := bsome h
   refine rs hc none [some (.call (qL3Told r_31_0) [] 25),oN] [(6,.ra 3 0)] [(3,.box [.rs 25,.rs 26,I r_31_0.ffault,.rs 27]),(25,rI r_31_0.fty),(26,rI r_31_0.fneeds),(27,rI r_31_0.fpath)] (ai (spec_l3Bad_s _ _ hr_31_0) (ai bod_144 (ai (oi (qL3Told r_31_0)) trivial))) ?_
   refine vz 25 (sh_I r_31_0.fty) [(6,.ra 3 0)] [(3,.box [sI r_31_0.fty,.rs 26,I r_31_0.ffault,.rs 27]),(26,rI r_31_0.fneeds),(27,rI r_31_0.fpath)] ?_
   refine vz 26 (sh_I r_31_0.fneeds) [(6,.ra 3 0)] [(3,.box [sI r_31_0.fty,sI r_31_0.fneeds,I r_31_0.ffault,.rs 27]),(27,rI r_31_0.fpath)] ?_
   refine vz 27 (sh_I r_31_0.fpath) [(6,.ra 3 0)] [(3,bL3Told r_31_0)] ?_
   refine rt ?_
   obtain rfl := os h
   exact rq [false]
  refine cF ((t2.fOp == 9)) hb_17 ?_
  refine rs0 hc 2 [(1,sL ctx1),(3,.ra 1 0),(5,.ra 2 0),(6,.ra 3 0),(9,.ra 10 0),(56,I t2.fOp),(142,.bool (t2.fOp == 11))] [(1,bSystem s0),(2,bTerm t2),(3,.box [.nils,.nils,I 0,.nils]),(10,bL3Told r_11_3)] ?_
  rcases is h with ⟨hb_19,h⟩ | ⟨hb_19,h⟩
  ·refine cT ((t2.fOp == 11)) hb_19 ?_
   obtain ⟨r_34_6,hr_34_6,h⟩ := bsome h
   obtain ⟨r_34_10,hr_34_10,h⟩ := bsome h
   obtain ⟨r_34_15,hr_34_15,h⟩ := bsome h
   obtain ⟨r_34_16,hr_34_16,h⟩ := bsome h
   refine rs hc (rx [[0],[1],[2],[0],[0,3],[0,3,4],[6],[0],[0],[0,8],[7,8,9],[0],[0,11],[0],[0,13],[15],[16],[17]]) [oN,oN,oN,oN,oN,some (.mk 28 false),some (.call (oI r_34_6) [] 29),oN,oN,some (.eqv (.no) ⟨[(153,I (ctx1.length : Int))],[],[]⟩),some (.call (oI r_34_10) [] 30),oN,oN,oN,oN,some (.call (oI r_34_15) [] 31),some (.call (aL3Told r_34_16) [.tup []] 1),oN] [(6,.ra 3 0)] [(3,bL3Told r_34_16)] (ai (FnSound.args (A1 := [I (wr (19 + t2.fN)),.sl (shares (List.map LI_s [r_11_3.fty]))]) (A2 := [I (wr (19 + t2.fN)),.sl (List.map LI_s [r_11_3.fty])]) (by simp only [sI,sB,sL,aSystem,aTerm,aL3Told,aTyped,aTyper,hSystem,hTerm,hL3Told,hTyped,hTyper,List.map_nil,sh_LI_s]) (spec_l3Glue_s _ _ hr_34_6)) (ai bod_147 (ai (Or.inr (nsh_row nsh_I r_34_6) : ([28] : List Nat) = [] ∨ noSh (oI r_34_6) = true) (ai (lenT (d := 153) LI_s ctx1) (ai (spec_l3Zero_s _ _ hr_34_10) (ai bod_142 (ai (oi (oI r_34_10)) (ai (FnSound.args (A1 := [aSystem s0,.sl (shares (List.map I r_34_10)),I t2.fN,sI r_11_3.fneeds]) (A2 := [aSystem s0,sI r_34_10,I t2.fN,sI r_11_3.fneeds]) (by simp only [sI,sB,sL,aSystem,aTerm,aL3Told,aTyped,aTyper,hSystem,hTerm,hL3Told,hTyped,hTyper,List.map_nil,sh_I]) (spec_l3Sum_s _ _ hr_34_15)) (ai bod_148 (ai (Or.inr (nsh_row nsh_I r_34_15) : ([30] : List Nat) = [] ∨ noSh (oI r_34_15) = true) (ai (FnSound.args (A1 := [.sl (shares (List.map I r_34_6)),.sl (shares (List.map I r_34_15))]) (A2 := [sI r_34_6,sI r_34_15]) (by simp only [sI,sB,sL,aSystem,aTerm,aL3Told,aTyped,aTyper,hSystem,hTerm,hL3Told,hTyped,hTyper,List.map_nil,sh_I]) (spec_l3Done_s _ _ hr_34_16)) (ai bod_146 trivial)))))))))))) ?_
   refine rt ?_
   obtain rfl := os h
   exact rq [false]
  refine cF ((t2.fOp == 11)) hb_19 ?_
  refine rs0 hc 2 [(1,sL ctx1),(3,.ra 1 0),(5,.ra 2 0),(6,.ra 3 0),(9,.ra 10 0),(161,.bool (t2.fOp == 10))] [(1,bSystem s0),(2,bTerm t2),(3,.box [.nils,.nils,I 0,.nils]),(10,bL3Told r_11_3)] ?_
  rcases is h with ⟨hb_20,h⟩ | ⟨hb_20,h⟩
  ·refine cT ((t2.fOp == 10)) hb_20 ?_
   refine sN ?_
   obtain ⟨e_36_2,hi_36_2,h⟩ := bsome h
   obtain ⟨r_36_4,hr_36_4,h⟩ := bsome h
   refine rs hc none [oN,oN,some (.el (I e_36_2)),oN,oc (.bool r_36_4),oN] [(1,sL ctx1),(3,.ra 1 0),(5,.ra 2 0),(6,.ra 3 0),(9,.ra 10 0),(168,.bool (!r_36_4))] [(1,bSystem s0),(2,bTerm t2),(3,.box [.nils,.nils,I 0,.nils]),(10,bL3Told r_11_3)] (ai (ix hi_36_2) (ai (spec_l2Arrow_s _ _ hr_36_4) (ai bod_150 (ai (oi (.bool r_36_4)) trivial)))) ?_
   rcases is h with ⟨hb_21,h⟩ | ⟨hb_21,h⟩
   ·refine cF (!r_36_4) (nF hb_21) ?_
    refine sk ?_
    obtain ⟨r_38_3,hr_38_3,h⟩ := bsome h
    refine rs hc none [oN,oN,oN,oc (aL3Told r_38_3),some (.new 32),oN] [(3,.ra 1 0),(6,.ra 3 0),(9,.ra 10 0),(11,.ra 32 0)] [(1,bSystem s0),(3,.box [.nils,.nils,I 0,.nils]),(10,bL3Told r_11_3),(32,bL3Told r_38_3)] (ai (spec_l3Of_ih _ _ hr_38_3) (ai bod_143 (ai (oi (aL3Told r_38_3)) trivial))) ?_
    refine sN ?_
    refine rs0 hc 3 [(3,.ra 1 0),(6,.ra 3 0),(9,.ra 10 0),(11,.ra 32 0),(176,.bool (r_38_3.ffault != 0))] [(1,bSystem s0),(3,.box [.nils,.nils,I 0,.nils]),(10,bL3Told r_11_3),(32,bL3Told r_38_3)] ?_
    rcases is h with ⟨hb_22,h⟩ | ⟨hb_22,h⟩
    ·refine cT ((r_38_3.ffault != 0)) hb_22 ?_
     refine rs0 hc 2 [(6,.ra 3 0)] [(3,bL3Told r_38_3)] ?_
     refine rt ?_
     obtain rfl := os h
     exact rq [false]
    refine cF ((r_38_3.ffault != 0)) hb_22 ?_
    refine sk ?_
    refine sN ?_
    obtain ⟨r_41_4,hr_41_4,h⟩ := bsome h
    obtain ⟨r_41_5,hr_41_5,h⟩ := bsome h
    refine rs hc (rx [[0],[1],[0],[0,2],[0,2,3],[5],[6]]) [oN,oN,oN,oN,some (.call (oI r_41_4) [] 33),oc (.bool r_41_5),oN] [(3,.ra 1 0),(6,.ra 3 0),(9,.ra 10 0),(11,.ra 32 0),(184,.bool (!r_41_5))] [(1,bSystem s0),(3,.box [.nils,.nils,I 0,.nils]),(10,bL3Told r_11_3),(32,bL3Told r_38_3)] (ai (spec_l2Part_s _ _ hr_41_4) (ai bod_151 (ai (oi (oI r_41_4)) (ai (FnSound.args (A1 := [sI r_38_3.fty,.sl (shares (List.map I r_41_4))]) (A2 := [sI r_38_3.fty,sI r_41_4]) (by simp only [sI,sB,sL,aSystem,aTerm,aL3Told,aTyped,aTyper,hSystem,hTerm,hL3Told,hTyped,hTyper,List.map_nil,sh_I]) (spec_l1Same_s _ _ hr_41_5)) (ai bod_82 (ai (Or.inr rfl : ([33] : List Nat) = [] ∨ noSh (.bool r_41_5) = true) trivial)))))) ?_
    rcases is h with ⟨hb_23,h⟩ | ⟨hb_23,h⟩
    ·refine cF (!r_41_5) (nF hb_23) ?_
     refine sk ?_
     obtain ⟨r_43_2,hr_43_2,h⟩ := bsome h
     obtain ⟨e_43_8,hi_43_8,h⟩ := bsome h
     obtain ⟨r_43_10,hr_43_10,h⟩ := bsome h
     obtain ⟨r_43_13,hr_43_13,h⟩ := bsome h
     refine rs hc (rx [[0],[1],[2],[0],[0],[0,4],[0],[0,6],[0,6,7],[0,6,7,8],[3,6,7,8,9],[0],[0,11],[13],[14],[15]]) [oN,oN,some (.call (oI r_43_2) [] 34),oN,oN,oN,oN,oN,some (.el (I e_43_8)),oN,oc (I r_43_10),oN,oN,some (.call (oI r_43_13) [] 35),oN,oN] [(6,.ra 3 0)] [(3,.box [.rs 34,.rs 35,I 0,.nils]),(34,rI r_43_2),(35,rI r_43_13)] (ai (spec_l2Part_s _ _ hr_43_2) (ai bod_151 (ai (oi (oI r_43_2)) (ai (ix hi_43_8) (ai (spec_l2Grade_s _ _ hr_43_10) (ai bod_152 (ai (oi (I r_43_10)) (ai (spec_l3Sum_s _ _ hr_43_13) (ai bod_148 (ai (oi (oI r_43_13)) trivial)))))))))) ?_
     refine vz 34 (sh_I r_43_2) [(6,.ra 3 0)] [(3,.box [sI r_43_2,.rs 35,I 0,.nils]),(35,rI r_43_13)] ?_
     refine vz 35 (sh_I r_43_13) [(6,.ra 3 0)] [(3,.box [sI r_43_2,sI r_43_13,I 0,.nils])] ?_
     refine rt ?_
     obtain rfl := os h
     exact rq [false]
    refine cT (!r_41_5) (nT hb_23) ?_
    obtain ⟨r_42_0,hr_42_0,h⟩ := bsome h
    refine rs hc none [some (.call (qL3Told r_42_0) [] 36),oN] [(6,.ra 3 0)] [(3,.box [.rs 36,.rs 37,I r_42_0.ffault,.rs 38]),(36,rI r_42_0.fty),(37,rI r_42_0.fneeds),(38,rI r_42_0.fpath)] (ai (spec_l3Bad_s _ _ hr_42_0) (ai bod_144 (ai (oi (qL3Told r_42_0)) trivial))) ?_
    refine vz 36 (sh_I r_42_0.fty) [(6,.ra 3 0)] [(3,.box [sI r_42_0.fty,.rs 37,I r_42_0.ffault,.rs 38]),(37,rI r_42_0.fneeds),(38,rI r_42_0.fpath)] ?_
    refine vz 37 (sh_I r_42_0.fneeds) [(6,.ra 3 0)] [(3,.box [sI r_42_0.fty,sI r_42_0.fneeds,I r_42_0.ffault,.rs 38]),(38,rI r_42_0.fpath)] ?_
    refine vz 38 (sh_I r_42_0.fpath) [(6,.ra 3 0)] [(3,bL3Told r_42_0)] ?_
    refine rt ?_
    obtain rfl := os h
    exact rq [false]
   refine cT (!r_36_4) (nT hb_21) ?_
   obtain ⟨r_37_0,hr_37_0,h⟩ := bsome h
   refine rs hc none [some (.call (qL3Told r_37_0) [] 39),oN] [(6,.ra 3 0)] [(3,.box [.rs 39,.rs 40,I r_37_0.ffault,.rs 41]),(39,rI r_37_0.fty),(40,rI r_37_0.fneeds),(41,rI r_37_0.fpath)] (ai (spec_l3Bad_s _ _ hr_37_0) (ai bod_144 (ai (oi (qL3Told r_37_0)) trivial))) ?_
   refine vz 39 (sh_I r_37_0.fty) [(6,.ra 3 0)] [(3,.box [sI r_37_0.fty,.rs 40,I r_37_0.ffault,.rs 41]),(40,rI r_37_0.fneeds),(41,rI r_37_0.fpath)] ?_
   refine vz 40 (sh_I r_37_0.fneeds) [(6,.ra 3 0)] [(3,.box [sI r_37_0.fty,sI r_37_0.fneeds,I r_37_0.ffault,.rs 41]),(41,rI r_37_0.fpath)] ?_
   refine vz 41 (sh_I r_37_0.fpath) [(6,.ra 3 0)] [(3,bL3Told r_37_0)] ?_
   refine rt ?_
   obtain rfl := os h
   exact rq [false]
  refine cF ((t2.fOp == 10)) hb_20 ?_
  refine sk ?_
  obtain ⟨r_44_4,hr_44_4,h⟩ := bsome h
  refine rs hc none [oN,oN,oN,oN,oc (aL3Told r_44_4),oN] [(6,.ra 3 0)] [(3,bL3Told r_44_4)] (ai (spec_l3Taken_ih _ _ hr_44_4) (ai bod_153 (ai (oi (aL3Told r_44_4)) trivial))) ?_
  refine rt ?_
  obtain rfl := os h
  exact rq [false]
 ·rintro spec_l3Of_f spec_l3Of_ih ⟨s0,ctx1,t2,a3⟩ r h
  refine b0 Tryz.f153 B153 170 [(0,aSystem s0),(1,sL ctx1),(2,aTerm t2),(3,aL3Told a3)] fun c hc => ?_
  refine rs hc none [some (.new 1),some (.new 2),some (.new 3),some (.new 4)] [(1,sL ctx1),(4,.ra 1 0),(6,.ra 2 0),(7,.ra 3 0),(8,.ra 4 0)] [(1,bSystem s0),(2,bTerm t2),(3,bL3Told a3),(4,.box [.nils,.nils,I 0,.nils])] trivial ?_
  obtain ⟨e_1_2,hi_1_2,h⟩ := bsome h
  refine rs hc none [oN,oN,some (.el (I e_1_2)),oN,oN] [(1,sL ctx1),(4,.ra 1 0),(6,.ra 2 0),(7,.ra 3 0),(8,.ra 4 0),(9,I e_1_2)] [(1,bSystem s0),(2,bTerm t2),(3,bL3Told a3),(4,.box [.nils,.nils,I 0,.nils])] (ai (ix hi_1_2) trivial) ?_
  refine sN ?_
  refine bk 0 ?_
  refine sN ?_
  obtain ⟨v_1,hj_2,h⟩ := bsome h
  refine Wp.into (x := .normal) (mkS [(1,sL ctx1),(4,.ra 1 0),(6,.ra 2 0),(7,.ra 3 0),(8,.ra 4 0),(9,I e_1_2),(21,.bool v_1)] [(1,bSystem s0),(2,bTerm t2),(3,bL3Told a3),(4,.box [.nils,.nils,I 0,.nils])]) ?_ ?_
  ·replace h := hj_2
   rcases is h with ⟨hb_2_0,h⟩ | ⟨hb_2_0,h⟩
   ·refine rg hc none [oN,oN,oN,oN,oN,oN,oT,oN] [(1,sL ctx1),(4,.ra 1 0),(6,.ra 2 0),(7,.ra 3 0),(8,.ra 4 0),(9,I e_1_2),(21,.bool (e_1_2 != 1))] [(1,bSystem s0),(2,bTerm t2),(3,bL3Told a3),(4,.box [.nils,.nils,I 0,.nils])] (ar 3 hb_2_0 trivial) ?_
    obtain rfl := os h
    exact Into.mk
   refine rg hc none [oN,oN,oN,oN,o_,o_,oF,oN] [(1,sL ctx1),(4,.ra 1 0),(6,.ra 2 0),(7,.ra 3 0),(8,.ra 4 0),(9,I e_1_2),(21,.bool false)] [(1,bSystem s0),(2,bTerm t2),(3,bL3Told a3),(4,.box [.nils,.nils,I 0,.nils])] (ar 2 (neT hb_2_0) (ai hb_2_0 trivial)) ?_
   obtain rfl := os h
   exact Into.mk
  clear hj_2
  rcases is h with ⟨hb_3,h⟩ | ⟨hb_3,h⟩
  ·refine cT v_1 hb_3 ?_
   obtain ⟨r_3_0,hr_3_0,h⟩ := bsome h
   refine rs hc none [some (.call (qL3Told r_3_0) [] 5),oN] [(8,.ra 4 0)] [(4,.box [.rs 5,.rs 6,I r_3_0.ffault,.rs 7]),(5,rI r_3_0.fty),(6,rI r_3_0.fneeds),(7,rI r_3_0.fpath)] (ai (spec_l3Bad_s _ _ hr_3_0) (ai bod_144 (ai (oi (qL3Told r_3_0)) trivial))) ?_
   refine vz 5 (sh_I r_3_0.fty) [(8,.ra 4 0)] [(4,.box [sI r_3_0.fty,.rs 6,I r_3_0.ffault,.rs 7]),(6,rI r_3_0.fneeds),(7,rI r_3_0.fpath)] ?_
   refine vz 6 (sh_I r_3_0.fneeds) [(8,.ra 4 0)] [(4,.box [sI r_3_0.fty,sI r_3_0.fneeds,I r_3_0.ffault,.rs 7]),(7,rI r_3_0.fpath)] ?_
   refine vz 7 (sh_I r_3_0.fpath) [(8,.ra 4 0)] [(4,bL3Told r_3_0)] ?_
   refine rt ?_
   obtain rfl := os h
   exact rq [false]
  refine cF v_1 hb_3 ?_
  refine sN ?_
  obtain ⟨v_4,hj_5,h⟩ := bsome h
  refine Wp.into (x := .normal) (mkS [(1,sL ctx1),(4,.ra 1 0),(6,.ra 2 0),(7,.ra 3 0),(8,.ra 4 0),(9,I e_1_2),(30,.bool v_4)] [(1,bSystem s0),(2,bTerm t2),(3,bL3Told a3),(4,.box [.nils,.nils,I 0,.nils])]) ?_ ?_
  ·replace h := hj_5
   rcases is h with ⟨hb_4_0,h⟩ | ⟨hb_4_0,h⟩
   ·refine rg hc none [oN,oN,oN,oN,oN,oN,oT,oN] [(1,sL ctx1),(4,.ra 1 0),(6,.ra 2 0),(7,.ra 3 0),(8,.ra 4 0),(9,I e_1_2),(30,.bool (e_1_2 != 2))] [(1,bSystem s0),(2,bTerm t2),(3,bL3Told a3),(4,.box [.nils,.nils,I 0,.nils])] (ar 3 hb_4_0 trivial) ?_
    obtain rfl := os h
    exact Into.mk
   refine rg hc none [oN,oN,oN,oN,o_,o_,oF,oN] [(1,sL ctx1),(4,.ra 1 0),(6,.ra 2 0),(7,.ra 3 0),(8,.ra 4 0),(9,I e_1_2),(30,.bool false)] [(1,bSystem s0),(2,bTerm t2),(3,bL3Told a3),(4,.box [.nils,.nils,I 0,.nils])] (ar 2 (neT hb_4_0) (ai hb_4_0 trivial)) ?_
   obtain rfl := os h
   exact Into.mk
  clear hj_5
  rcases is h with ⟨hb_6,h⟩ | ⟨hb_6,h⟩
  ·refine cT v_4 hb_6 ?_
   obtain ⟨r_5_0,hr_5_0,h⟩ := bsome h
   refine rs hc none [some (.call (qL3Told r_5_0) [] 8),oN] [(8,.ra 4 0)] [(4,.box [.rs 8,.rs 9,I r_5_0.ffault,.rs 10]),(8,rI r_5_0.fty),(9,rI r_5_0.fneeds),(10,rI r_5_0.fpath)] (ai (spec_l3Bad_s _ _ hr_5_0) (ai bod_144 (ai (oi (qL3Told r_5_0)) trivial))) ?_
   refine vz 8 (sh_I r_5_0.fty) [(8,.ra 4 0)] [(4,.box [sI r_5_0.fty,.rs 9,I r_5_0.ffault,.rs 10]),(9,rI r_5_0.fneeds),(10,rI r_5_0.fpath)] ?_
   refine vz 9 (sh_I r_5_0.fneeds) [(8,.ra 4 0)] [(4,.box [sI r_5_0.fty,sI r_5_0.fneeds,I r_5_0.ffault,.rs 10]),(10,rI r_5_0.fpath)] ?_
   refine vz 10 (sh_I r_5_0.fpath) [(8,.ra 4 0)] [(4,bL3Told r_5_0)] ?_
   refine rt ?_
   obtain rfl := os h
   exact rq [false]
  refine cF v_4 hb_6 ?_
  refine sN ?_
  obtain ⟨v_7,hj_8,h⟩ := bsome h
  refine Wp.into (x := .normal) (mkS [(1,sL ctx1),(4,.ra 1 0),(6,.ra 2 0),(7,.ra 3 0),(8,.ra 4 0),(9,I e_1_2),(39,.bool v_7)] [(1,bSystem s0),(2,bTerm t2),(3,bL3Told a3),(4,.box [.nils,.nils,I 0,.nils])]) ?_ ?_
  ·replace h := hj_8
   rcases is h with ⟨hb_6_0,h⟩ | ⟨hb_6_0,h⟩
   ·obtain ⟨r_6_5,hr_6_5,h⟩ := bsome h
    refine rg hc none [oN,oN,oN,oN,oN,oc (.bool r_6_5),oN,oT,oN] [(1,sL ctx1),(4,.ra 1 0),(6,.ra 2 0),(7,.ra 3 0),(8,.ra 4 0),(9,I e_1_2),(39,.bool (!r_6_5))] [(1,bSystem s0),(2,bTerm t2),(3,bL3Told a3),(4,.box [.nils,.nils,I 0,.nils])] (ar 2 hb_6_0 (ai (spec_l2Box_s _ _ hr_6_5) (ai bod_166 (ai (oi (.bool r_6_5)) (ar 2 hb_6_0 trivial))))) ?_
    obtain rfl := os h
    exact Into.mk
   refine rg hc none [oN,oN,oN,oN,o_,o_,o_,oF,oN] [(1,sL ctx1),(4,.ra 1 0),(6,.ra 2 0),(7,.ra 3 0),(8,.ra 4 0),(9,I e_1_2),(39,.bool false)] [(1,bSystem s0),(2,bTerm t2),(3,bL3Told a3),(4,.box [.nils,.nils,I 0,.nils])] (ar 3 (neT hb_6_0) (ai hb_6_0 trivial)) ?_
   obtain rfl := os h
   exact Into.mk
  clear hj_8
  rcases is h with ⟨hb_9,h⟩ | ⟨hb_9,h⟩
  ·refine cT v_7 hb_9 ?_
   obtain ⟨r_7_0,hr_7_0,h⟩ := bsome h
   refine rs hc none [some (.call (qL3Told r_7_0) [] 11),oN] [(8,.ra 4 0)] [(4,.box [.rs 11,.rs 12,I r_7_0.ffault,.rs 13]),(11,rI r_7_0.fty),(12,rI r_7_0.fneeds),(13,rI r_7_0.fpath)] (ai (spec_l3Bad_s _ _ hr_7_0) (ai bod_144 (ai (oi (qL3Told r_7_0)) trivial))) ?_
   refine vz 11 (sh_I r_7_0.fty) [(8,.ra 4 0)] [(4,.box [sI r_7_0.fty,.rs 12,I r_7_0.ffault,.rs 13]),(12,rI r_7_0.fneeds),(13,rI r_7_0.fpath)] ?_
   refine vz 12 (sh_I r_7_0.fneeds) [(8,.ra 4 0)] [(4,.box [sI r_7_0.fty,sI r_7_0.fneeds,I r_7_0.ffault,.rs 13]),(13,rI r_7_0.fpath)] ?_
   refine vz 13 (sh_I r_7_0.fpath) [(8,.ra 4 0)] [(4,bL3Told r_7_0)] ?_
   refine rt ?_
   obtain rfl := os h
   exact rq [false]
  refine cF v_7 hb_9 ?_
  refine sk ?_
  refine sN ?_
  obtain ⟨r_8_3,hr_8_3,h⟩ := bsome h
  refine rs hc none [oN,oN,oN,oc (.bool r_8_3),oN] [(1,sL ctx1),(4,.ra 1 0),(6,.ra 2 0),(7,.ra 3 0),(8,.ra 4 0),(9,I e_1_2),(53,.bool (!r_8_3))] [(1,bSystem s0),(2,bTerm t2),(3,bL3Told a3),(4,.box [.nils,.nils,I 0,.nils])] (ai (spec_l1Le_s _ _ hr_8_3) (ai bod_149 (ai (oi (.bool r_8_3)) trivial))) ?_
  rcases is h with ⟨hb_10,h⟩ | ⟨hb_10,h⟩
  ·refine cF (!r_8_3) (nF hb_10) ?_
   refine sk ?_
   obtain ⟨r_10_2,hr_10_2,h⟩ := bsome h
   refine rs hc none [oN,oN,some (.call (oI r_10_2) [] 14),some (.mk 15 true),oN] [(1,sL ctx1),(4,.ra 1 0),(6,.ra 2 0),(7,.ra 3 0),(8,.ra 4 0),(9,I e_1_2),(10,.rs 15)] [(1,bSystem s0),(2,bTerm t2),(3,bL3Told a3),(4,.box [.nils,.nils,I 0,.nils]),(15,.arr (List.map LI_o [r_10_2]))] (ai (spec_l2Part_s _ _ hr_10_2) (ai bod_151 (ai (oi (oI r_10_2)) trivial))) ?_
   refine sN ?_
   refine rs0 hc 3 [(1,sL ctx1),(4,.ra 1 0),(6,.ra 2 0),(7,.ra 3 0),(8,.ra 4 0),(9,I e_1_2),(10,.rs 15),(61,.bool (t2.fOp == 5))] [(1,bSystem s0),(2,bTerm t2),(3,bL3Told a3),(4,.box [.nils,.nils,I 0,.nils]),(15,.arr (List.map LI_o [r_10_2]))] ?_
   obtain ⟨front_12,hj_13,h⟩ := bsome h
   refine Wp.into (x := .normal) (mkS [(1,sL ctx1),(4,.ra 1 0),(6,.ra 2 0),(7,.ra 3 0),(8,.ra 4 0),(9,I e_1_2),(10,.rs 18)] [(1,bSystem s0),(2,bTerm t2),(3,bL3Told a3),(4,.box [.nils,.nils,I 0,.nils]),(18,.arr (List.map LI_o front_12))]) ?_ ?_
   ·replace h := hj_13
    rcases is h with ⟨hb_11,h⟩ | ⟨hb_11,h⟩
    ·refine cT ((t2.fOp == 5)) hb_11 ?_
     obtain ⟨r_12_2,hr_12_2,h⟩ := bsome h
     obtain ⟨r_12_5,hr_12_5,h⟩ := bsome h
     refine rg hc (rx [[0],[1],[2],[0],[0,3],[5],[6],[7]]) [oN,oN,some (.call (oI r_12_2) [] 16),oN,oN,some (.call (oI r_12_5) [] 17),some (.mk 18 true),oN] [(1,sL ctx1),(4,.ra 1 0),(6,.ra 2 0),(7,.ra 3 0),(8,.ra 4 0),(9,I e_1_2),(10,.rs 18)] [(1,bSystem s0),(2,bTerm t2),(3,bL3Told a3),(4,.box [.nils,.nils,I 0,.nils]),(18,.arr (List.map LI_o [r_12_2,r_12_5]))] (ai (spec_l2Part_s _ _ hr_12_2) (ai bod_151 (ai (oi (oI r_12_2)) (ai (spec_l2Part_s _ _ hr_12_5) (ai bod_151 (ai (oi (oI r_12_5)) trivial)))))) ?_
     obtain rfl := os h
     exact Into.mk
    refine cF ((t2.fOp == 5)) hb_11 ?_
    refine sk ?_
    obtain rfl := os h
    exact iv [(18,15)]
   clear hj_13
   refine sN ?_
   refine vz 18 (sh_LI_o front_12) [(1,sL ctx1),(4,.ra 1 0),(6,.ra 2 0),(7,.ra 3 0),(8,.ra 4 0),(9,I e_1_2),(10,sL front_12)] [(1,bSystem s0),(2,bTerm t2),(3,bL3Told a3),(4,.box [.nils,.nils,I 0,.nils])] ?_
   obtain ⟨r_13_3,hr_13_3,h⟩ := bsome h
   obtain ⟨r_13_5,hr_13_5,h⟩ := bsome h
   refine rg hc (rx [[0],[0],[0],[0,1,2],[0],[5],[0],[7]]) [oN,oN,oN,some (.call (.osl (List.map LI_s r_13_3)) [] 20),oN,some (.call (aL3Told r_13_5) [.tup []] 1),some (.new 21),oN] [(1,sL ctx1),(4,.ra 1 0),(6,.ra 2 0),(7,.ra 3 0),(8,.ra 4 0),(9,I e_1_2),(10,sL front_12),(11,.ra 21 0)] [(1,bSystem s0),(2,bTerm t2),(3,bL3Told a3),(4,.box [.nils,.nils,I 0,.nils]),(21,bL3Told r_13_5)] (ai (spec_l3With_s _ _ hr_13_3) (ai bod_105 (ai (oi (.osl (List.map LI_s r_13_3))) (ai (FnSound.args (A1 := [aSystem s0,.sl (shares (List.map LI_s r_13_3)),aTerm t2,I 1]) (A2 := [aSystem s0,sL r_13_3,aTerm t2,I 1]) (by simp only [sI,sB,sL,aSystem,aTerm,aL3Told,aTyped,aTyper,hSystem,hTerm,hL3Told,hTyped,hTyper,List.map_nil,sh_LI_s]) (spec_l3Of_ih _ _ hr_13_5)) (ai bod_143 trivial))))) ?_
   refine sN ?_
   refine rs0 hc 3 [(1,sL ctx1),(4,.ra 1 0),(6,.ra 2 0),(7,.ra 3 0),(8,.ra 4 0),(9,I e_1_2),(10,sL front_12),(11,.ra 21 0),(77,.bool (r_13_5.ffault != 0))] [(1,bSystem s0),(2,bTerm t2),(3,bL3Told a3),(4,.box [.nils,.nils,I 0,.nils]),(21,bL3Told r_13_5)] ?_
   rcases is h with ⟨hb_14,h⟩ | ⟨hb_14,h⟩
   ·refine cT ((r_13_5.ffault != 0)) hb_14 ?_
    refine rs0 hc 2 [(8,.ra 4 0)] [(4,bL3Told r_13_5)] ?_
    refine rt ?_
    obtain rfl := os h
    exact rq [false]
   refine cF ((r_13_5.ffault != 0)) hb_14 ?_
   refine sk ?_
   refine rs hc none [oN,some (.eqv (.no) ⟨[(80,I (front_12.length : Int))],[],[]⟩),oN] [(1,sL ctx1),(4,.ra 1 0),(6,.ra 2 0),(7,.ra 3 0),(8,.ra 4 0),(9,I e_1_2),(11,.ra 21 0),(12,I (front_12.length : Int))] [(1,bSystem s0),(2,bTerm t2),(3,bL3Told a3),(4,.box [.nils,.nils,I 0,.nils]),(21,bL3Told r_13_5)] (ai (lenT (d := 80) LI_s front_12) trivial) ?_
   refine rs0 hc 3 [(1,sL ctx1),(4,.ra 1 0),(6,.ra 2 0),(7,.ra 3 0),(8,.ra 4 0),(9,I e_1_2),(11,.ra 21 0),(12,I (front_12.length : Int)),(13,I t2.fN)] [(1,bSystem s0),(2,bTerm t2),(3,bL3Told a3),(4,.box [.nils,.nils,I 0,.nils]),(21,bL3Told r_13_5)] ?_
   obtain ⟨c_18_3,hs_18_3,h⟩ := bsome h
   obtain ⟨r_18_4,hr_18_4,h⟩ := bsome h
   refine rs hc none [oN,oN,oN,some (.eqv (.no) ⟨[(86,sI c_18_3)],[],[]⟩),some (.call (oI r_18_4) [] 22),oN] [(1,sL ctx1),(4,.ra 1 0),(6,.ra 2 0),(7,.ra 3 0),(8,.ra 4 0),(9,I e_1_2),(11,.ra 21 0),(13,I t2.fN),(14,.rs 22)] [(1,bSystem s0),(2,bTerm t2),(3,bL3Told a3),(4,.box [.nils,.nils,I 0,.nils]),(21,bL3Told r_13_5),(22,rI r_18_4)] (ai (cut_wr (d := 86) I hs_18_3) (ai (cut_ob (enc := I) (sz := 1) sz_I hs_18_3) (ai (spec_l1Copy_s _ _ hr_18_4) (ai bod_93 (ai (oi (oI r_18_4)) trivial))))) ?_
   refine rs0 hc 1 [(1,sL ctx1),(4,.ra 1 0),(6,.ra 2 0),(7,.ra 3 0),(8,.ra 4 0),(9,I e_1_2),(11,.ra 21 0),(13,I t2.fN),(14,.rs 22),(15,.bool true)] [(1,bSystem s0),(2,bTerm t2),(3,bL3Told a3),(4,.box [.nils,.nils,I 0,.nils]),(21,bL3Told r_13_5),(22,rI r_18_4)] ?_
   refine sN ?_
   refine rs0 hc 2 [(1,sL ctx1),(4,.ra 1 0),(6,.ra 2 0),(7,.ra 3 0),(8,.ra 4 0),(9,I e_1_2),(11,.ra 21 0),(13,I t2.fN),(14,.rs 22),(15,.bool true),(89,I t2.fOp)] [(1,bSystem s0),(2,bTerm t2),(3,bL3Told a3),(4,.box [.nils,.nils,I 0,.nils]),(21,bL3Told r_13_5),(22,rI r_18_4)] ?_
   refine bk 1 ?_
   refine rs0 hc 2 [(1,sL ctx1),(4,.ra 1 0),(6,.ra 2 0),(7,.ra 3 0),(8,.ra 4 0),(9,I e_1_2),(11,.ra 21 0),(13,I t2.fN),(14,.rs 22),(15,.bool true),(89,I t2.fOp),(90,.bool (t2.fOp == 12))] [(1,bSystem s0),(2,bTerm t2),(3,bL3Told a3),(4,.box [.nils,.nils,I 0,.nils]),(21,bL3Told r_13_5),(22,rI r_18_4)] ?_
   obtain ⟨fl,hj_29,h⟩ := bsome h
   refine flw (spec_l3Taken_F3 c s0 ctx1 t2 a3 r_13_5 fl) ?_ (fun hF => ?_)
   ·replace h := hj_29
    rcases is h with ⟨hb_15,h⟩ | ⟨hb_15,h⟩
    ·refine cT ((t2.fOp == 12)) hb_15 ?_
     obtain ⟨r_22_4,hr_22_4,h⟩ := bsome h
     obtain ⟨r_22_5,hr_22_5,h⟩ := bsome h
     refine rg hc (rx [[0],[0],[0,1],[0],[0,3],[5],[6]]) [oN,oN,oN,oN,oc (I r_22_4),oc (I r_22_5),oN] [(1,sL ctx1),(4,.ra 1 0),(6,.ra 2 0),(7,.ra 3 0),(8,.ra 4 0),(11,.ra 21 0),(13,I r_22_5),(14,.rs 22),(15,.bool true)] [(1,bSystem s0),(2,bTerm t2),(3,bL3Told a3),(4,.box [.nils,.nils,I 0,.nils]),(21,bL3Told r_13_5),(22,rI r_18_4)] (ai (spec_l2Grade_s _ _ hr_22_4) (ai bod_152 (ai (oi (I r_22_4)) (ai (spec_l1Mul_s _ _ hr_22_5) (ai bod_168 (ai (oi (I r_22_5)) trivial)))))) ?_
     obtain rfl := os h
     exact Into.mk
    refine cF ((t2.fOp == 12)) hb_15 ?_
    refine rs0 hc 2 [(1,sL ctx1),(4,.ra 1 0),(6,.ra 2 0),(7,.ra 3 0),(8,.ra 4 0),(11,.ra 21 0),(13,I t2.fN),(14,.rs 22),(15,.bool true),(89,I t2.fOp),(98,.bool (t2.fOp == 5))] [(1,bSystem s0),(2,bTerm t2),(3,bL3Told a3),(4,.box [.nils,.nils,I 0,.nils]),(21,bL3Told r_13_5),(22,rI r_18_4)] ?_
    obtain ⟨fl,hj_25,h⟩ := bsome h
    refine flw (spec_l3Taken_F2 c s0 ctx1 t2 a3 r_13_5 fl) ?_ (fun hF => ?_)
    ·replace h := hj_25
     rcases is h with ⟨hb_16,h⟩ | ⟨hb_16,h⟩
     ·refine cT ((t2.fOp == 5)) hb_16 ?_
      obtain ⟨e_24_3,hi_24_3,h⟩ := bsome h
      obtain ⟨r_24_6,hr_24_6,h⟩ := bsome h
      refine rg hc ah4_1 [oN,oN,oN,some (.el (I e_24_3)),oN,oN,oc (.bool r_24_6),oN] [(1,sL ctx1),(4,.ra 1 0),(6,.ra 2 0),(7,.ra 3 0),(8,.ra 4 0),(11,.ra 21 0),(13,I t2.fN),(14,.rs 22),(15,.bool r_24_6)] [(1,bSystem s0),(2,bTerm t2),(3,bL3Told a3),(4,.box [.nils,.nils,I 0,.nils]),(21,bL3Told r_13_5),(22,rI r_18_4)] (ai (ix hi_24_3) (ai (spec_l1Le_s _ _ hr_24_6) (ai bod_149 (ai (oi (.bool r_24_6)) trivial)))) ?_
      obtain rfl := os h
      exact Into.mk
     refine cF ((t2.fOp == 5)) hb_16 ?_
     refine rs0 hc 2 [(1,sL ctx1),(4,.ra 1 0),(6,.ra 2 0),(7,.ra 3 0),(8,.ra 4 0),(11,.ra 21 0),(13,I t2.fN),(14,.rs 22),(15,.bool true),(107,.bool (t2.fOp == 8))] [(1,bSystem s0),(2,bTerm t2),(3,bL3Told a3),(4,.box [.nils,.nils,I 0,.nils]),(21,bL3Told r_13_5),(22,rI r_18_4)] ?_
     obtain ⟨fl,hj_22,h⟩ := bsome h
     refine flw (spec_l3Taken_F1 c s0 ctx1 t2 a3 r_13_5 fl) ?_ (fun hF => ?_)
     ·replace h := hj_22
      rcases is h with ⟨hb_17,h⟩ | ⟨hb_17,h⟩
      ·refine cT ((t2.fOp == 8)) hb_17 ?_
       obtain ⟨r_26_4,hr_26_4,h⟩ := bsome h
       obtain ⟨r_26_6,hr_26_6,h⟩ := bsome h
       obtain ⟨r_26_8,hr_26_8,h⟩ := bsome h
       refine rs hc (rx [[0],[0],[0],[0,2],[0,2,3],[0,2,3,4],[0,1,2,3,4,5],[0],[8],[0],[10]]) [oN,oN,oN,oN,some (.call (oI r_26_4) [] 23),some (.mk 24 true),some (.call (.osl (List.map LI_s r_26_6)) [.tup []] 25),oN,some (.call (aL3Told r_26_8) [.tup []] 1),some (.new 26),oN] [(1,sL ctx1),(4,.ra 1 0),(6,.ra 2 0),(7,.ra 3 0),(8,.ra 4 0),(11,.ra 21 0),(13,I t2.fN),(14,.rs 22),(16,.ra 26 0)] [(1,bSystem s0),(2,bTerm t2),(3,bL3Told a3),(4,.box [.nils,.nils,I 0,.nils]),(21,bL3Told r_13_5),(22,rI r_18_4),(26,bL3Told r_26_8)] (ai (spec_l2Part_s _ _ hr_26_4) (ai bod_151 (ai (oi (oI r_26_4)) (ai (FnSound.args (A1 := [sL ctx1,.sl (shares (List.map LI_o [r_26_4]))]) (A2 := [sL ctx1,.sl (List.map LI_s [r_26_4])]) (by simp only [sI,sB,sL,aSystem,aTerm,aL3Told,aTyped,aTyper,hSystem,hTerm,hL3Told,hTyped,hTyper,List.map_nil,sh_LI_o]) (spec_l3With_s _ _ hr_26_6)) (ai bod_105 (ai (FnSound.args (A1 := [aSystem s0,.sl (shares (List.map LI_s r_26_6)),aTerm t2,I 2]) (A2 := [aSystem s0,sL r_26_6,aTerm t2,I 2]) (by simp only [sI,sB,sL,aSystem,aTerm,aL3Told,aTyped,aTyper,hSystem,hTerm,hL3Told,hTyped,hTyper,List.map_nil,sh_LI_s]) (spec_l3Of_ih _ _ hr_26_8)) (ai bod_143 trivial))))))) ?_
       refine sN ?_
       refine rs0 hc 3 [(1,sL ctx1),(4,.ra 1 0),(6,.ra 2 0),(7,.ra 3 0),(8,.ra 4 0),(11,.ra 21 0),(13,I t2.fN),(14,.rs 22),(16,.ra 26 0),(120,.bool (r_26_8.ffault != 0))] [(1,bSystem s0),(2,bTerm t2),(3,bL3Told a3),(4,.box [.nils,.nils,I 0,.nils]),(21,bL3Told r_13_5),(22,rI r_18_4),(26,bL3Told r_26_8)] ?_
       rcases is h with ⟨hb_18,h⟩ | ⟨hb_18,h⟩
       ·refine cT ((r_26_8.ffault != 0)) hb_18 ?_
        refine rs0 hc 2 [(8,.ra 4 0)] [(4,bL3Told r_26_8)] ?_
        refine rt ?_
        obtain rfl := os h
        exact re [false]
       refine cF ((r_26_8.ffault != 0)) hb_18 ?_
       refine sk ?_
       refine sN ?_
       obtain ⟨r_29_4,hr_29_4,h⟩ := bsome h
       refine rs hc none [oN,oN,oN,oN,oc (.bool r_29_4),oN] [(1,sL ctx1),(4,.ra 1 0),(6,.ra 2 0),(7,.ra 3 0),(8,.ra 4 0),(11,.ra 21 0),(13,I t2.fN),(14,.rs 22),(16,.ra 26 0),(127,.bool (!r_29_4))] [(1,bSystem s0),(2,bTerm t2),(3,bL3Told a3),(4,.box [.nils,.nils,I 0,.nils]),(21,bL3Told r_13_5),(22,rI r_18_4),(26,bL3Told r_26_8)] (ai (spec_l1Same_s _ _ hr_29_4) (ai bod_82 (ai (oi (.bool r_29_4)) trivial))) ?_
       rcases is h with ⟨hb_19,h⟩ | ⟨hb_19,h⟩
       ·refine cF (!r_29_4) (nF hb_19) ?_
        refine sk ?_
        obtain ⟨e_31_3,hi_31_3,h⟩ := bsome h
        obtain ⟨r_31_6,hr_31_6,h⟩ := bsome h
        refine rs hc ah4_1 [oN,oN,oN,some (.el (I e_31_3)),oN,oN,oc (.bool r_31_6),oN] [(1,sL ctx1),(4,.ra 1 0),(6,.ra 2 0),(7,.ra 3 0),(8,.ra 4 0),(11,.ra 21 0),(13,I t2.fN),(14,.rs 22),(15,.bool r_31_6),(16,.ra 26 0)] [(1,bSystem s0),(2,bTerm t2),(3,bL3Told a3),(4,.box [.nils,.nils,I 0,.nils]),(21,bL3Told r_13_5),(22,rI r_18_4),(26,bL3Told r_26_8)] (ai (ix hi_31_3) (ai (spec_l1Le_s _ _ hr_31_6) (ai bod_149 (ai (oi (.bool r_31_6)) trivial)))) ?_
        obtain ⟨c_32_4,hs_32_4,h⟩ := bsome h
        obtain ⟨r_32_5,hr_32_5,h⟩ := bsome h
        refine rg hc (rx [[0],[0],[0],[0,2],[0,2,3],[5],[6]]) [oN,oN,oN,oN,some (.eqv (.no) ⟨[(140,sI c_32_4)],[],[]⟩),some (.call (oI r_32_5) [] 27),oN] [(1,sL ctx1),(4,.ra 1 0),(6,.ra 2 0),(7,.ra 3 0),(8,.ra 4 0),(11,.ra 21 0),(13,I t2.fN),(14,.rs 27),(15,.bool r_31_6)] [(1,bSystem s0),(2,bTerm t2),(3,bL3Told a3),(4,.box [.nils,.nils,I 0,.nils]),(21,bL3Told r_13_5),(27,rI r_32_5)] (ai (cut_wr (d := 140) I hs_32_4) (ai (cut_ob (enc := I) (sz := 1) sz_I hs_32_4) (ai (FnSound.args (A1 := [aSystem s0,.sl (shares (List.map I r_18_4)),sI c_32_4]) (A2 := [aSystem s0,sI r_18_4,sI c_32_4]) (by simp only [sI,sB,sL,aSystem,aTerm,aL3Told,aTyped,aTyper,hSystem,hTerm,hL3Told,hTyped,hTyper,List.map_nil,sh_I]) (spec_l3Join_s _ _ hr_32_5)) (ai bod_167 (ai (Or.inr (nsh_row nsh_I r_32_5) : ([22] : List Nat) = [] ∨ noSh (oI r_32_5) = true) trivial))))) ?_
        obtain rfl := os h
        exact Into.mk
       refine cT (!r_29_4) (nT hb_19) ?_
       obtain ⟨r_30_0,hr_30_0,h⟩ := bsome h
       refine rs hc none [some (.call (qL3Told r_30_0) [] 28),oN] [(8,.ra 4 0)] [(4,.box [.rs 28,.rs 29,I r_30_0.ffault,.rs 30]),(28,rI r_30_0.fty),(29,rI r_30_0.fneeds),(30,rI r_30_0.fpath)] (ai (spec_l3Bad_s _ _ hr_30_0) (ai bod_144 (ai (oi (qL3Told r_30_0)) trivial))) ?_
       refine vz 28 (sh_I r_30_0.fty) [(8,.ra 4 0)] [(4,.box [sI r_30_0.fty,.rs 29,I r_30_0.ffault,.rs 30]),(29,rI r_30_0.fneeds),(30,rI r_30_0.fpath)] ?_
       refine vz 29 (sh_I r_30_0.fneeds) [(8,.ra 4 0)] [(4,.box [sI r_30_0.fty,sI r_30_0.fneeds,I r_30_0.ffault,.rs 30]),(30,rI r_30_0.fpath)] ?_
       refine vz 30 (sh_I r_30_0.fpath) [(8,.ra 4 0)] [(4,bL3Told r_30_0)] ?_
       refine rt ?_
       obtain rfl := os h
       exact re [false]
      refine cF ((t2.fOp == 8)) hb_17 ?_
      refine sk ?_
      obtain rfl := os h
      exact iv [(27,22)]
     rcases fl with ⟨rest_20,ok_21⟩ | r
     ·refine Wp.into (x := .normal) (mkS [(1,sL ctx1),(4,.ra 1 0),(6,.ra 2 0),(7,.ra 3 0),(8,.ra 4 0),(11,.ra 21 0),(13,I t2.fN),(14,.rs 27),(15,.bool ok_21)] [(1,bSystem s0),(2,bTerm t2),(3,bL3Told a3),(4,.box [.nils,.nils,I 0,.nils]),(21,bL3Told r_13_5),(27,rI rest_20)]) hF ?_
      obtain rfl := os h
      exact iv [(22,27)]
     refine Wp.mono hF ?_
     rintro _ _ ⟨rfl,hfin⟩
     obtain rfl := os h
     exact ⟨rfl,hfin⟩
    rcases fl with ⟨rest_24,ok_23⟩ | r
    ·refine Wp.into (x := .normal) (mkS [(1,sL ctx1),(4,.ra 1 0),(6,.ra 2 0),(7,.ra 3 0),(8,.ra 4 0),(11,.ra 21 0),(13,I t2.fN),(14,.rs 22),(15,.bool ok_23)] [(1,bSystem s0),(2,bTerm t2),(3,bL3Told a3),(4,.box [.nils,.nils,I 0,.nils]),(21,bL3Told r_13_5),(22,rI rest_24)]) hF ?_
     obtain rfl := os h
     exact Into.mk
    refine Wp.mono hF ?_
    rintro _ _ ⟨rfl,hfin⟩
    obtain rfl := os h
    exact ⟨rfl,hfin⟩
   rcases fl with ⟨most_26,rest_27,ok_28⟩ | r
   ·refine Wp.into (x := .normal) (mkS [(1,sL ctx1),(4,.ra 1 0),(6,.ra 2 0),(7,.ra 3 0),(8,.ra 4 0),(11,.ra 21 0),(13,I most_26),(14,.rs 22),(15,.bool ok_28)] [(1,bSystem s0),(2,bTerm t2),(3,bL3Told a3),(4,.box [.nils,.nils,I 0,.nils]),(21,bL3Told r_13_5),(22,rI rest_27)]) hF ?_
    refine sN ?_
    refine sN ?_
    obtain ⟨v_30,hj_31,h⟩ := bsome h
    refine Wp.into (x := .normal) (mkS [(1,sL ctx1),(4,.ra 1 0),(6,.ra 2 0),(7,.ra 3 0),(8,.ra 4 0),(11,.ra 21 0),(14,.rs 22),(153,.bool v_30)] [(1,bSystem s0),(2,bTerm t2),(3,bL3Told a3),(4,.box [.nils,.nils,I 0,.nils]),(21,bL3Told r_13_5),(22,rI rest_27)]) ?_ ?_
    ·replace h := hj_31
     rcases is h with ⟨hb_33_0,h⟩ | ⟨hb_33_0,h⟩
     ·obtain ⟨e_33_6,hi_33_6,h⟩ := bsome h
      obtain ⟨r_33_9,hr_33_9,h⟩ := bsome h
      refine rg hc ah4_2 [oN,oN,oN,oN,oN,oN,some (.el (I e_33_6)),oN,oN,oc (.bool r_33_9),oN,oF] [(1,sL ctx1),(4,.ra 1 0),(6,.ra 2 0),(7,.ra 3 0),(8,.ra 4 0),(11,.ra 21 0),(14,.rs 22),(153,.bool (!r_33_9))] [(1,bSystem s0),(2,bTerm t2),(3,bL3Told a3),(4,.box [.nils,.nils,I 0,.nils]),(21,bL3Told r_13_5),(22,rI rest_27)] (ar 4 (nF hb_33_0) (ai (ix hi_33_6) (ar 3 (nF hb_33_0) (ai (spec_l1Le_s _ _ hr_33_9) (ai bod_149 (ai (oi (.bool r_33_9)) (ar 2 (nF hb_33_0) trivial))))))) ?_
      obtain rfl := os h
      exact Into.mk
     refine rg hc ah4_2 [oN,oN,oN,o_,o_,o_,o_,o_,o_,o_,o_,oT] [(1,sL ctx1),(4,.ra 1 0),(6,.ra 2 0),(7,.ra 3 0),(8,.ra 4 0),(11,.ra 21 0),(14,.rs 22),(153,.bool true)] [(1,bSystem s0),(2,bTerm t2),(3,bL3Told a3),(4,.box [.nils,.nils,I 0,.nils]),(21,bL3Told r_13_5),(22,rI rest_27)] (ar 8 (neF (nT hb_33_0)) (ai (nT hb_33_0) trivial)) ?_
     obtain rfl := os h
     exact Into.mk
    clear hj_31
    rcases is h with ⟨hb_32,h⟩ | ⟨hb_32,h⟩
    ·refine cT v_30 hb_32 ?_
     obtain ⟨r_34_0,hr_34_0,h⟩ := bsome h
     refine rs hc none [some (.call (qL3Told r_34_0) [] 31),oN] [(8,.ra 4 0)] [(4,.box [.rs 31,.rs 32,I r_34_0.ffault,.rs 33]),(31,rI r_34_0.fty),(32,rI r_34_0.fneeds),(33,rI r_34_0.fpath)] (ai (spec_l3Bad_s _ _ hr_34_0) (ai bod_144 (ai (oi (qL3Told r_34_0)) trivial))) ?_
     refine vz 31 (sh_I r_34_0.fty) [(8,.ra 4 0)] [(4,.box [sI r_34_0.fty,.rs 32,I r_34_0.ffault,.rs 33]),(32,rI r_34_0.fneeds),(33,rI r_34_0.fpath)] ?_
     refine vz 32 (sh_I r_34_0.fneeds) [(8,.ra 4 0)] [(4,.box [sI r_34_0.fty,sI r_34_0.fneeds,I r_34_0.ffault,.rs 33]),(33,rI r_34_0.fpath)] ?_
     refine vz 33 (sh_I r_34_0.fpath) [(8,.ra 4 0)] [(4,bL3Told r_34_0)] ?_
     refine rt ?_
     obtain rfl := os h
     exact rq [false]
    refine cF v_30 hb_32 ?_
    refine sk ?_
    obtain ⟨r_35_6,hr_35_6,h⟩ := bsome h
    obtain ⟨r_35_11,hr_35_11,h⟩ := bsome h
    obtain ⟨r_35_13,hr_35_13,h⟩ := bsome h
    refine rs hc (rx [[0],[1],[0],[0],[0],[0,4],[0,4,5],[0],[0,7],[0],[0,9],[0,3,4,5,6,7,8,9,10],[0],[0,2,3,4,5,6,7,8,9,10,11,12],[14],[15]]) [oN,oN,oN,oN,oN,some (.eqv (.no) ⟨[(160,I (ctx1.length : Int))],[],[]⟩),some (.call (oI r_35_6) [] 34),oN,oN,oN,oN,some (.call (oI r_35_11) [] 35),oN,some (.call (oI r_35_13) [] 36),oN,oN] [(8,.ra 4 0)] [(4,.box [sI r_13_5.fty,.rs 36,I 0,.nils]),(36,rI r_35_13)] (ai (lenT (d := 160) LI_s ctx1) (ai (spec_l3Zero_s _ _ hr_35_6) (ai bod_142 (ai (oi (oI r_35_6)) (ai (FnSound.args (A1 := [aSystem s0,.sl (shares (List.map I r_35_6)),I t2.fN,sI a3.fneeds]) (A2 := [aSystem s0,sI r_35_6,I t2.fN,sI a3.fneeds]) (by simp only [sI,sB,sL,aSystem,aTerm,aL3Told,aTyped,aTyper,hSystem,hTerm,hL3Told,hTyped,hTyper,List.map_nil,sh_I]) (spec_l3Sum_s _ _ hr_35_11)) (ai bod_148 (ai (Or.inr (nsh_row nsh_I r_35_11) : ([34] : List Nat) = [] ∨ noSh (oI r_35_11) = true) (ai (FnSound.args (A1 := [aSystem s0,.sl (shares (List.map I r_35_11)),I 1,.sl (shares (List.map I rest_27))]) (A2 := [aSystem s0,sI r_35_11,I 1,sI rest_27]) (by simp only [sI,sB,sL,aSystem,aTerm,aL3Told,aTyped,aTyper,hSystem,hTerm,hL3Told,hTyped,hTyper,List.map_nil,sh_I]) (spec_l3Sum_s _ _ hr_35_13)) (ai bod_148 (ai (Or.inr (nsh_row nsh_I r_35_13) : ([35,22] : List Nat) = [] ∨ noSh (oI r_35_13) = true) trivial)))))))))) ?_
    refine vz 36 (sh_I r_35_13) [(8,.ra 4 0)] [(4,.box [sI r_13_5.fty,sI r_35_13,I 0,.nils])] ?_
    refine rt ?_
    obtain rfl := os h
    exact rq [false]
   refine Wp.mono hF ?_
   rintro _ _ ⟨rfl,hfin⟩
   obtain rfl := os h
   exact ⟨.inl rfl,hfin⟩
  refine cT (!r_8_3) (nT hb_10) ?_
  obtain ⟨r_9_0,hr_9_0,h⟩ := bsome h
  refine rs hc none [some (.call (qL3Told r_9_0) [] 37),oN] [(8,.ra 4 0)] [(4,.box [.rs 37,.rs 38,I r_9_0.ffault,.rs 39]),(37,rI r_9_0.fty),(38,rI r_9_0.fneeds),(39,rI r_9_0.fpath)] (ai (spec_l3Bad_s _ _ hr_9_0) (ai bod_144 (ai (oi (qL3Told r_9_0)) trivial))) ?_
  refine vz 37 (sh_I r_9_0.fty) [(8,.ra 4 0)] [(4,.box [sI r_9_0.fty,.rs 38,I r_9_0.ffault,.rs 39]),(38,rI r_9_0.fneeds),(39,rI r_9_0.fpath)] ?_
  refine vz 38 (sh_I r_9_0.fneeds) [(8,.ra 4 0)] [(4,.box [sI r_9_0.fty,sI r_9_0.fneeds,I r_9_0.ffault,.rs 39]),(39,rI r_9_0.fpath)] ?_
  refine vz 39 (sh_I r_9_0.fpath) [(8,.ra 4 0)] [(4,bL3Told r_9_0)] ?_
  refine rt ?_
  obtain rfl := os h
  exact rq [false]
 ·rintro spec_l3Tell_f spec_l3Tell_ih ⟨s0,ctx1,t2,k3⟩ r h
  refine b0 Tryz.f143 B143 28 [(0,aSystem s0),(1,sL ctx1),(2,aTerm t2),(3,I k3)] fun c hc => ?_
  refine rs hc none [some (.new 1),some (.new 2),some (.new 3)] [(1,sL ctx1),(3,I k3),(4,.ra 1 0),(6,.ra 2 0),(8,.ra 3 0)] [(1,bSystem s0),(2,bTerm t2),(3,.box [.nils,.nils,I 0,.nils])] trivial ?_
  obtain ⟨e_1_5,hi_1_5,h⟩ := bsome h
  obtain ⟨r_1_7,hr_1_7,h⟩ := bsome h
  refine rs hc (rx [[0],[0],[0],[0,2],[0],[0,2,3,4],[0,2,3,4,5],[7],[0],[9]]) [oN,oN,oN,oN,oN,some (.el (aTerm e_1_5)),oN,oc (aL3Told r_1_7),some (.new 4),oN] [(3,I k3),(8,.ra 3 0),(9,.ra 4 0)] [(3,.box [.nils,.nils,I 0,.nils]),(4,bL3Told r_1_7)] (ai (idx_sl (enc := GTerm_S) (x := aTerm e_1_5) hi_1_5 (eq_GTerm_S e_1_5)) (ai (spec_l3Tell_ih _ _ hr_1_7) (ai bod_73 (ai (oi (aL3Told r_1_7)) trivial)))) ?_
  refine sN ?_
  refine rs0 hc 3 [(3,I k3),(8,.ra 3 0),(9,.ra 4 0),(20,.bool (r_1_7.ffault != 0))] [(3,.box [.nils,.nils,I 0,.nils]),(4,bL3Told r_1_7)] ?_
  obtain ⟨x_2,hj_3,h⟩ := bsome h
  refine Wp.into (x := .normal) (mkS [(8,.ra 3 0),(9,.ra 4 0)] [(3,.box [.nils,.nils,I 0,.nils]),(4,.box [sI r_1_7.fty,sI r_1_7.fneeds,I r_1_7.ffault,sI x_2])]) ?_ ?_
  ·replace h := hj_3
   rcases is h with ⟨hb_1,h⟩ | ⟨hb_1,h⟩
   ·refine cT ((r_1_7.ffault != 0)) hb_1 ?_
    obtain ⟨_,hk_3_4,h⟩ := bsome h
    refine rg hc none [oN,some (.mk 5 true),oN,oN,some (.eqv (.mk 6 true) ⟨[(25,.rs 6)],[(6,some (rI ([k3] ++ r_1_7.fpath))),(5,none)],[6]⟩),oN,oN] [(8,.ra 3 0),(9,.ra 4 0)] [(3,.box [.nils,.nils,I 0,.nils]),(4,.box [sI r_1_7.fty,sI r_1_7.fneeds,I r_1_7.ffault,.rs 6]),(6,rI ([k3] ++ r_1_7.fpath))] (ai (congrArg (fun z => (⟨[(25,.rs 6)],[(6,some (.arr z)),(5,none)],[6]⟩ : Wr)) ((List.map_append).symm : (List.map I [k3]) ++ (List.map I r_1_7.fpath) = List.map I ([k3] ++ r_1_7.fpath))) (ai (app_ob (enc1 := I) (enc2 := I) (e1 := [k3]) (e2 := r_1_7.fpath) (sz := 1) ek_I ek_I hk_3_4) trivial)) ?_
    obtain rfl := os h
    exact Into.view (fun a w hv => SRx.renL [] (SRx.frzC 6 (xs := List.map I ([k3] ++ r_1_7.fpath)) (xs' := List.map I ([k3] ++ r_1_7.fpath)) hv (by kernel_rfl) (sh_I _)) (by kernel_rfl) (by kernel_rfl) (by kernel_rfl))
   refine cF ((r_1_7.ffault != 0)) hb_1 ?_
   refine sk ?_
   obtain rfl := os h
   exact iv []
  clear hj_3
  refine rs0 hc 2 [(8,.ra 3 0)] [(3,.box [sI r_1_7.fty,sI r_1_7.fneeds,I r_1_7.ffault,sI x_2])] ?_
  refine rt ?_
  obtain rfl := os h
  exact rq [false]
 ·rintro spec_l3Of_f spec_l3Of_ih ⟨s0,ctx1,t2,a3⟩ r h
  refine b0 Tryz.f145 B145 65 [(0,aSystem s0),(1,sL ctx1),(2,aTerm t2),(3,aL3Told a3)] fun c hc => ?_
  refine rs hc none [some (.new 1),some (.new 2),some (.new 3),some (.new 4)] [(1,sL ctx1),(4,.ra 1 0),(6,.ra 2 0),(7,.ra 3 0),(8,.ra 4 0)] [(1,bSystem s0),(2,bTerm t2),(3,bL3Told a3),(4,.box [.nils,.nils,I 0,.nils])] trivial ?_
  obtain ⟨r_1_3,hr_1_3,h⟩ := bsome h
  refine rs hc none [oN,oN,oN,oc (aL3Told r_1_3),some (.new 5),oN] [(1,sL ctx1),(4,.ra 1 0),(6,.ra 2 0),(7,.ra 3 0),(8,.ra 4 0),(9,.ra 5 0)] [(1,bSystem s0),(2,bTerm t2),(3,bL3Told a3),(4,.box [.nils,.nils,I 0,.nils]),(5,bL3Told r_1_3)] (ai (spec_l3Of_ih _ _ hr_1_3) (ai bod_143 (ai (oi (aL3Told r_1_3)) trivial))) ?_
  refine sN ?_
  refine rs0 hc 3 [(1,sL ctx1),(4,.ra 1 0),(6,.ra 2 0),(7,.ra 3 0),(8,.ra 4 0),(9,.ra 5 0),(17,.bool (r_1_3.ffault != 0))] [(1,bSystem s0),(2,bTerm t2),(3,bL3Told a3),(4,.box [.nils,.nils,I 0,.nils]),(5,bL3Told r_1_3)] ?_
  rcases is h with ⟨hb_1,h⟩ | ⟨hb_1,h⟩
  ·refine cT ((r_1_3.ffault != 0)) hb_1 ?_
   refine rs0 hc 2 [(8,.ra 4 0)] [(4,bL3Told r_1_3)] ?_
   refine rt ?_
   obtain rfl := os h
   exact rq [false]
  refine cF ((r_1_3.ffault != 0)) hb_1 ?_
  refine sk ?_
  refine sN ?_
  refine rs0 hc 3 [(1,sL ctx1),(4,.ra 1 0),(6,.ra 2 0),(7,.ra 3 0),(8,.ra 4 0),(9,.ra 5 0),(21,.bool (t2.fOp == 2))] [(1,bSystem s0),(2,bTerm t2),(3,bL3Told a3),(4,.box [.nils,.nils,I 0,.nils]),(5,bL3Told r_1_3)] ?_
  rcases is h with ⟨hb_2,h⟩ | ⟨hb_2,h⟩
  ·refine cT ((t2.fOp == 2)) hb_2 ?_
   refine sN ?_
   obtain ⟨e_5_2,hi_5_2,h⟩ := bsome h
   refine rs hc none [oN,oN,some (.el (I e_5_2)),oN,oN] [(4,.ra 1 0),(7,.ra 3 0),(8,.ra 4 0),(9,.ra 5 0),(26,.bool (e_5_2 != 0))] [(1,bSystem s0),(3,bL3Told a3),(4,.box [.nils,.nils,I 0,.nils]),(5,bL3Told r_1_3)] (ai (ix hi_5_2) trivial) ?_
   rcases is h with ⟨hb_3,h⟩ | ⟨hb_3,h⟩
   ·refine cT ((e_5_2 != 0)) hb_3 ?_
    obtain ⟨r_6_0,hr_6_0,h⟩ := bsome h
    refine rs hc none [some (.call (qL3Told r_6_0) [] 6),oN] [(8,.ra 4 0)] [(4,.box [.rs 6,.rs 7,I r_6_0.ffault,.rs 8]),(6,rI r_6_0.fty),(7,rI r_6_0.fneeds),(8,rI r_6_0.fpath)] (ai (spec_l3Bad_s _ _ hr_6_0) (ai bod_144 (ai (oi (qL3Told r_6_0)) trivial))) ?_
    refine vz 6 (sh_I r_6_0.fty) [(8,.ra 4 0)] [(4,.box [sI r_6_0.fty,.rs 7,I r_6_0.ffault,.rs 8]),(7,rI r_6_0.fneeds),(8,rI r_6_0.fpath)] ?_
    refine vz 7 (sh_I r_6_0.fneeds) [(8,.ra 4 0)] [(4,.box [sI r_6_0.fty,sI r_6_0.fneeds,I r_6_0.ffault,.rs 8]),(8,rI r_6_0.fpath)] ?_
    refine vz 8 (sh_I r_6_0.fpath) [(8,.ra 4 0)] [(4,bL3Told r_6_0)] ?_
    refine rt ?_
    obtain rfl := os h
    exact rq [false]
   refine cF ((e_5_2 != 0)) hb_3 ?_
   refine sk ?_
   obtain ⟨r_7_7,hr_7_7,h⟩ := bsome h
   refine rs hc (rx [[0],[1],[0],[0],[0,3],[0],[0,5],[0,2,3,4,5,6],[8],[9]]) [oN,oN,oN,oN,oN,oN,oN,some (.call (oI r_7_7) [] 9),oN,oN] [(8,.ra 4 0)] [(4,.box [sI r_1_3.fty,.rs 9,I 0,.nils]),(9,rI r_7_7)] (ai (spec_l3Sum_s _ _ hr_7_7) (ai bod_148 (ai (oi (oI r_7_7)) trivial))) ?_
   refine vz 9 (sh_I r_7_7) [(8,.ra 4 0)] [(4,.box [sI r_1_3.fty,sI r_7_7,I 0,.nils])] ?_
   refine rt ?_
   obtain rfl := os h
   exact rq [false]
  refine cF ((t2.fOp == 2)) hb_2 ?_
  refine sk ?_
  obtain ⟨r_8_3,hr_8_3,h⟩ := bsome h
  refine rs hc none [oN,oN,oN,oc (aL3Told r_8_3),some (.new 10),oN] [(4,.ra 1 0),(7,.ra 3 0),(8,.ra 4 0),(9,.ra 5 0),(10,.ra 10 0)] [(1,bSystem s0),(3,bL3Told a3),(4,.box [.nils,.nils,I 0,.nils]),(5,bL3Told r_1_3),(10,bL3Told r_8_3)] (ai (spec_l3Of_ih _ _ hr_8_3) (ai bod_143 (ai (oi (aL3Told r_8_3)) trivial))) ?_
  refine sN ?_
  refine rs0 hc 3 [(4,.ra 1 0),(7,.ra 3 0),(8,.ra 4 0),(9,.ra 5 0),(10,.ra 10 0),(43,.bool (r_8_3.ffault != 0))] [(1,bSystem s0),(3,bL3Told a3),(4,.box [.nils,.nils,I 0,.nils]),(5,bL3Told r_1_3),(10,bL3Told r_8_3)] ?_
  rcases is h with ⟨hb_4,h⟩ | ⟨hb_4,h⟩
  ·refine cT ((r_8_3.ffault != 0)) hb_4 ?_
   refine rs0 hc 2 [(8,.ra 4 0)] [(4,bL3Told r_8_3)] ?_
   refine rt ?_
   obtain rfl := os h
   exact rq [false]
  refine cF ((r_8_3.ffault != 0)) hb_4 ?_
  refine sk ?_
  refine sN ?_
  obtain ⟨r_11_4,hr_11_4,h⟩ := bsome h
  refine rs hc none [oN,oN,oN,oN,oc (.bool r_11_4),oN] [(4,.ra 1 0),(7,.ra 3 0),(8,.ra 4 0),(9,.ra 5 0),(10,.ra 10 0),(50,.bool (!r_11_4))] [(1,bSystem s0),(3,bL3Told a3),(4,.box [.nils,.nils,I 0,.nils]),(5,bL3Told r_1_3),(10,bL3Told r_8_3)] (ai (spec_l1Same_s _ _ hr_11_4) (ai bod_82 (ai (oi (.bool r_11_4)) trivial))) ?_
  rcases is h with ⟨hb_5,h⟩ | ⟨hb_5,h⟩
  ·refine cF (!r_11_4) (nF hb_5) ?_
   refine sk ?_
   obtain ⟨r_13_10,hr_13_10,h⟩ := bsome h
   obtain ⟨r_13_11,hr_13_11,h⟩ := bsome h
   refine rs hc (rx [[0],[1],[0],[0],[0,3],[0],[0],[0,6],[0],[0,8],[0,5,6,7,8,9],[0,2,3,4,5,6,7,8,9,10],[12],[13]]) [oN,oN,oN,oN,oN,oN,oN,oN,oN,oN,some (.call (oI r_13_10) [] 11),some (.call (oI r_13_11) [] 12),oN,oN] [(8,.ra 4 0)] [(4,.box [sI r_1_3.fty,.rs 12,I 0,.nils]),(12,rI r_13_11)] (ai (spec_l3Join_s _ _ hr_13_10) (ai bod_167 (ai (oi (oI r_13_10)) (ai (FnSound.args (A1 := [aSystem s0,sI a3.fneeds,I 1,.sl (shares (List.map I r_13_10))]) (A2 := [aSystem s0,sI a3.fneeds,I 1,sI r_13_10]) (by simp only [sI,sB,sL,aSystem,aTerm,aL3Told,aTyped,aTyper,hSystem,hTerm,hL3Told,hTyped,hTyper,List.map_nil,sh_I]) (spec_l3Sum_s _ _ hr_13_11)) (ai bod_148 (ai (Or.inr (nsh_row nsh_I r_13_11) : ([11] : List Nat) = [] ∨ noSh (oI r_13_11) = true) trivial)))))) ?_
   refine vz 12 (sh_I r_13_11) [(8,.ra 4 0)] [(4,.box [sI r_1_3.fty,sI r_13_11,I 0,.nils])] ?_
   refine rt ?_
   obtain rfl := os h
   exact rq [false]
  refine cT (!r_11_4) (nT hb_5) ?_
  obtain ⟨r_12_0,hr_12_0,h⟩ := bsome h
  refine rs hc none [some (.call (qL3Told r_12_0) [] 13),oN] [(8,.ra 4 0)] [(4,.box [.rs 13,.rs 14,I r_12_0.ffault,.rs 15]),(13,rI r_12_0.fty),(14,rI r_12_0.fneeds),(15,rI r_12_0.fpath)] (ai (spec_l3Bad_s _ _ hr_12_0) (ai bod_144 (ai (oi (qL3Told r_12_0)) trivial))) ?_
  refine vz 13 (sh_I r_12_0.fty) [(8,.ra 4 0)] [(4,.box [sI r_12_0.fty,.rs 14,I r_12_0.ffault,.rs 15]),(14,rI r_12_0.fneeds),(15,rI r_12_0.fpath)] ?_
  refine vz 14 (sh_I r_12_0.fneeds) [(8,.ra 4 0)] [(4,.box [sI r_12_0.fty,sI r_12_0.fneeds,I r_12_0.ffault,.rs 15]),(15,rI r_12_0.fpath)] ?_
  refine vz 15 (sh_I r_12_0.fpath) [(8,.ra 4 0)] [(4,bL3Told r_12_0)] ?_
  refine rt ?_
  obtain rfl := os h
  exact rq [false]
theorem spec_l3Tell_s : ∀ p r,spec_l3Tell p = some r → M_spec_l3Tell p r := spec_l3Tell_all.1
theorem spec_l3Taken_s : ∀ p r,spec_l3Taken p = some r → M_spec_l3Taken p r := spec_l3Tell_all.2.1
theorem spec_l3Of_s : ∀ p r,spec_l3Of p = some r → M_spec_l3Of p r := spec_l3Tell_all.2.2.1
theorem spec_l3Numbers_s : ∀ p r,spec_l3Numbers p = some r → M_spec_l3Numbers p r := spec_l3Tell_all.2.2.2
end Go.Am
