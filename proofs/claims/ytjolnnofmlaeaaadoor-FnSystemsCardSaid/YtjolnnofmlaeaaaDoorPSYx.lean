/- Pure functions. -/
import Derived.Test.YtjolnnofmlaeaaaDoorGSYF3
set_option linter.unusedVariables false
namespace Go.Am
structure Kaw where
 fOp:Int
 fN:Int
 fType:List Int
 fKids:List Kaw
 deriving Inhabited
def Kax (p:Int × Int × Int):Option (Bool) :=
 match p with
 | (n0,low1,high2) =>
  (
   if (decide (n0 ≥ low1))=true then
    some ((decide (n0 ≤ high2)))
   else
    some (false)
  ) >>= fun v_1 =>
  some v_1
def Kay (p:K00 × Int × Int):Option (Int) :=
 match p with
 | (s0,a1,b2) =>
  (idx s0.fPlus (wr ((wr (a1 * s0.fSize)) + b2))) >>= fun e_1_8 =>
  some e_1_8
def Kaz (p:K00 × Int × Int):Option (Int) :=
 match p with
 | (s0,a1,b2) =>
  (idx s0.fTimes (wr ((wr (a1 * s0.fSize)) + b2))) >>= fun e_1_8 =>
  some e_1_8
def Kb0 (p:K00 × Int × Int):Option (Bool) :=
 match p with
 | (s0,a1,b2) =>
  (idx s0.fBelow (wr ((wr (a1 * s0.fSize)) + b2))) >>= fun e_1_8 =>
  some e_1_8
def Kb1 (p:K00 × Int × Int × Int × Bool × Int):Option (Bool) :=
 match p with
 | (s0,a1,b2,g_19,ok_28,h_29) =>
  (
   if (decide (h_29 < s0.fSize))=true then
    some (ok_28)
   else
    some (false)
  ) >>= fun v_30 =>
  if v_30=true then
   (
    (Kb0 (s0,a1,h_29)) >>= fun r_8_3 =>
    if r_8_3=true then
     (Kb0 (s0,b2,h_29)) >>= fun r_8_9 =>
     if r_8_9=true then
      (Kb0 (s0,g_19,h_29)) >>= fun r_8_16 =>
      some (r_8_16)
     else
      some (true)
    else
     some (true)
   ) >>= fun ok_33 =>
   Kb1 (s0,a1,b2,g_19,ok_33,(wr (h_29 + 1)))
  else
   some (ok_28)
 partial_fixpoint
def Kb2 (p:K00 × Int × Int × Int):Option ((Unit) ⊕ (Int)) :=
 match p with
 | (s0,a1,b2,g_19) =>
  if (decide (g_19 < s0.fSize))=true then
   (
    (Kb0 (s0,a1,g_19)) >>= fun r_4_3 =>
    if r_4_3=true then
     (Kb0 (s0,b2,g_19)) >>= fun r_4_8 =>
     some (r_4_8)
    else
     some (false)
   ) >>= fun ok_21 =>
   (Kb1 (s0,a1,b2,g_19,ok_21,0)) >>= fun ok_35 =>
   if ok_35=true then
    some (.inr g_19)
   else
    Kb2 (s0,a1,b2,(wr (g_19 + 1)))
  else
   some (.inl ())
 partial_fixpoint
def Kb3 (p:K00 × Int × Int):Option (Int) :=
 match p with
 | (s0,a1,b2) =>
  (Kb2 (s0,a1,b2,0)) >>= fun fl=>match fl with
  | .inl () =>
   some (-1)
  | .inr r =>
   some r
def Kb4 (c0:Int):Option (Bool) :=
  (
   (Kax (c0,3,18)) >>= fun r_1_1 =>
   if r_1_1=true then
    some (true)
   else
    some ((c0 == 35))
  ) >>= fun v_1 =>
  some v_1
def Kb5 (c0:Int):Option (Bool) :=
  (
   (Kax (c0,19,34)) >>= fun r_1_1 =>
   if r_1_1=true then
    some (true)
   else
    some ((c0 == 36))
  ) >>= fun v_1 =>
  some v_1
def Kb6 (c0:Int):Option (Int) :=
  if (c0 == 0)=true then
   some 0
  else
   (
    if (c0 == 1)=true then
     some (true)
    else
     if (c0 == 2)=true then
      some (true)
     else
      (Kb4 c0) >>= fun r_3_8 =>
      some (r_3_8)
   ) >>= fun v_2 =>
   if v_2=true then
    some 2
   else
    (Kb5 c0) >>= fun r_5_1 =>
    if r_5_1=true then
     some 1
    else
     some (-1)
def Kb7 (p:(List Int) × Int × Int):Option ((Unit) ⊕ (Int)) :=
 match p with
 | (ty0,missing_4,i_5) =>
  if (decide (i_5 < (ty0.length:Int)))=true then
   (idx ty0 i_5) >>= fun e_5_2 =>
   (Kb6 e_5_2) >>= fun r_5_4 =>
   if (decide (r_5_4 < 0))=true then
    some (.inr (-1))
   else
    if ((wr ((wr (missing_4 - 1)) + r_5_4)) == 0)=true then
     some (.inr (wr (i_5 + 1)))
    else
     Kb7 (ty0,(wr ((wr (missing_4 - 1)) + r_5_4)),(wr (i_5 + 1)))
  else
   some (.inl ())
 partial_fixpoint
def Kb8 (p:(List Int) × Int):Option (Int) :=
 match p with
 | (ty0,at1) =>
  (Kb7 (ty0,1,at1)) >>= fun fl=>match fl with
  | .inl () =>
   some (-1)
  | .inr r =>
   some r
def Kb9 (c0:Int):Option (Int) :=
  if (decide (c0 ≥ 35))=true then
   some (-1)
  else
   if (decide (c0 ≥ 19))=true then
    some (wr (c0 - 19))
   else
    some (wr (c0 - 3))
def Kba (code0:Int):Option (Int × Int) :=
  (K38 (code0,0,2)) >>= fun r_1_1 =>
  if r_1_1=true then
   some (code0,(-1))
  else
   (K38 (code0,3,18)) >>= fun r_3_1 =>
   if r_3_1=true then
    some (3,(wr (code0 - 3)))
   else
    (K38 (code0,19,34)) >>= fun r_5_1 =>
    if r_5_1=true then
     some (4,(wr (code0 - 19)))
    else
     if (code0 == 35)=true then
      some (3,(-1))
     else
      if (code0 == 36)=true then
       some (4,(-1))
      else
       some (5,(-1))
def Kbb (p:(List Int) × Int):Option (Int) :=
 match p with
 | (ty0,at1) =>
  (
   if (decide (at1 < 0))=true then
    some (true)
   else
    some ((decide (at1 ≥ (ty0.length:Int))))
  ) >>= fun v_1 =>
  if v_1=true then
   some (-1)
  else
   (idx ty0 at1) >>= fun e_3_2 =>
   (Kba e_3_2) >>= fun (r_3_4_0,r_3_4_1) =>
   if (r_3_4_0 == 0)=true then
    some (wr (at1 + 1))
   else
    if (r_3_4_0 == 4)=true then
     (Kbb (ty0,(wr (at1 + 1)))) >>= fun r_8_3 =>
     some r_8_3
    else
     if (r_3_4_0 == 5)=true then
      some (-1)
     else
      (Kbb (ty0,(wr (at1 + 1)))) >>= fun r_11_4 =>
      (Kbb (ty0,r_11_4)) >>= fun r_11_5 =>
      some r_11_5
 partial_fixpoint
def Kbc (p:Int × Int):Option (Int) :=
 match p with
 | (op0,kid1) =>
  (
   if (op0 == 5)=true then
    some ((kid1 == 1))
   else
    some (false)
  ) >>= fun v_1 =>
  if v_1=true then
   some 2
  else
   (
    if (op0 == 8)=true then
     some ((decide (kid1 > 0)))
    else
     some (false)
   ) >>= fun v_4 =>
   (
    if v_4=true then
     some (v_4)
    else
     (
      if (op0 == 9)=true then
       some ((op0 == 9))
      else
       (
        if (op0 == 12)=true then
         some ((kid1 == 1))
        else
         some (false)
       ) >>= fun v_8 =>
       some (v_8)
     ) >>= fun j_10 =>
     some (j_10)
   ) >>= fun j_12 =>
   if j_12=true then
    some 1
   else
    some 0
def Kbd (l0:(List Int)):Option ((List Int)) :=
  (Qey (([]:List Int).length + l0.length) 8) >>= fun _ =>
  some l0
def Kbe (s0:(List Int)):Option ((List Int)) :=
  (Qey (([]:List Int).length + s0.length) 8) >>= fun _ =>
  some s0
def Kbf (p:(List Int) × Int):Option ((List Int)) :=
 match p with
 | (ty0,k1) =>
  (Kb8 (ty0,1)) >>= fun r_1_1 =>
  if (k1 == 0)=true then
   (cut ty0 (some 1) (some r_1_1) none) >>= fun c_3_2 =>
   (Kbd c_3_2) >>= fun r_3_3 =>
   some r_3_3
  else
   (cut ty0 (some r_1_1) none none) >>= fun c_4_2 =>
   (Kbd c_4_2) >>= fun r_4_3 =>
   some r_4_3
def Kbg (p:(List Int) × (List (List Int)) × Int):Option ((List (List Int))) :=
 match p with
 | (ty0,out_4,at_2) =>
  if (decide (at_2 < (ty0.length:Int)))=true then
   (Kbb (ty0,at_2)) >>= fun r_4_2 =>
   (cut ty0 (some at_2) (some r_4_2) (some r_4_2)) >>= fun c_5_5 =>
   (Qey (out_4.length + [c_5_5].length) 24) >>= fun _ =>
   Kbg (ty0,(out_4 ++ [c_5_5]),r_4_2)
  else
   some (out_4)
 partial_fixpoint
def Kbh (ty0:(List Int)):Option ((List (List Int))) :=
  (Kbg (ty0,[],1)) >>= fun out_6 =>
  some out_6
def Kbi (p:(List Int) × (List Int) × Int):Option ((Unit) ⊕ (Bool)) :=
 match p with
 | (a0,b1,i_4) =>
  if (decide (i_4 < (a0.length:Int)))=true then
   (idx a0 i_4) >>= fun e_6_2 =>
   (idx b1 i_4) >>= fun e_6_6 =>
   if (e_6_2 != e_6_6)=true then
    some (.inr false)
   else
    Kbi (a0,b1,(wr (i_4 + 1)))
  else
   some (.inl ())
 partial_fixpoint
def Kbj (p:(List Int) × (List Int)):Option (Bool) :=
 match p with
 | (a0,b1) =>
  if ((a0.length:Int) != (b1.length:Int))=true then
   some false
  else
   (Kbi (a0,b1,0)) >>= fun fl=>match fl with
   | .inl () =>
    some true
   | .inr r =>
    some r
structure Kbk where
 fty:List Int
 fneeds:List Int
 ffault:Int
 fpath:List Int
 deriving Inhabited
structure Kbl where
 fty:List Int
 fneeds:List Int
 fkids:List Kbl
 ffault:Int
 fpath:List Int
 deriving Inhabited
structure Kbm where
 fs:K00
 deriving Inhabited
def Kbn (n0:Int):Option ((List Int)) :=
  (chk (0 ≤ n0∧(Int.toNat n0) * 8 ≤ 140737488355328)) >>= fun _ =>
  some (List.replicate (Int.toNat n0) 0)
def Kbo (p:(List (List Int)) × (List (List Int))):Option ((List (List Int))) :=
 match p with
 | (ctx0,front1) =>
  (Qey (([]:List (List Int)).length + front1.length) 24) >>= fun _ =>
  (Qey (front1.length + ctx0.length) 24) >>= fun _ =>
  some (front1 ++ ctx0)
def Kbp (fault0:Int):Option (Kbk) :=
  some (Kbk.mk [] [] fault0 [])
def Kbq (p:(List (List Int)) × (List Int) × Int):Option ((List Int)) :=
 match p with
 | (parts1,out_2,i_3) =>
  if (decide (i_3 < (parts1.length:Int)))=true then
   (idx parts1 i_3) >>= fun e_5_3 =>
   (Qey (out_2.length + e_5_3.length) 8) >>= fun _ =>
   Kbq (parts1,(out_2 ++ e_5_3),(wr (i_3 + 1)))
  else
   some (out_2)
 partial_fixpoint
def Kbr (p:Int × (List (List Int))):Option ((List Int)) :=
 match p with
 | (c0,parts1) =>
  (Kbq (parts1,[c0],0)) >>= fun out_5 =>
  some out_5
def Kbs (p:K00 × (List Int) × Int × (List Int) × (List Int) × Int):Option ((List Int)) :=
 match p with
 | (s0,a1,g2,b3,out_2,i_3) =>
  if (decide (i_3 < (a1.length:Int)))=true then
   (idx a1 i_3) >>= fun e_5_4 =>
   (idx b3 i_3) >>= fun e_5_10 =>
   (Kaz (s0,g2,e_5_10)) >>= fun r_5_12 =>
   (Kay (s0,e_5_4,r_5_12)) >>= fun r_5_13 =>
   (Qey (out_2.length + [r_5_13].length) 8) >>= fun _ =>
   Kbs (s0,a1,g2,b3,(out_2 ++ [r_5_13]),(wr (i_3 + 1)))
  else
   some (out_2)
 partial_fixpoint
def Kbt (p:K00 × (List Int) × Int × (List Int)):Option ((List Int)) :=
 match p with
 | (s0,a1,g2,b3) =>
  (Kbs (s0,a1,g2,b3,[],0)) >>= fun out_5 =>
  some out_5
def Kbu (p:(List Int) × (List Int)):Option (Kbk) :=
 match p with
 | (ty0,needs1) =>
  if (decide ((ty0.length:Int) > 40))=true then
   (Kbp 3) >>= fun r_2_0 =>
   some r_2_0
  else
   some (Kbk.mk ty0 needs1 0 [])
def Kbv (p:K00 × (List Int) × (List Int) × (List Int) × Int):Option ((List Int)) :=
 match p with
 | (s0,a1,b2,out_2,i_3) =>
  if (decide (i_3 < (a1.length:Int)))=true then
   (idx a1 i_3) >>= fun e_5_4 =>
   (idx b2 i_3) >>= fun e_5_8 =>
   (Kb3 (s0,e_5_4,e_5_8)) >>= fun r_5_10 =>
   (Qey (out_2.length + [r_5_10].length) 8) >>= fun _ =>
   Kbv (s0,a1,b2,(out_2 ++ [r_5_10]),(wr (i_3 + 1)))
  else
   some (out_2)
 partial_fixpoint
def Kbw (p:K00 × (List Int) × (List Int)):Option ((List Int)) :=
 match p with
 | (s0,a1,b2) =>
  (Kbv (s0,a1,b2,[],0)) >>= fun out_5 =>
  some out_5
mutual
def Kbx (p:K00 × (List (List Int)) × Kaw):Option (Kbk) :=
 match p with
 | (s0,ctx1,t2) =>
  if (t2.fOp == 0)=true then
   (Kbn (ctx1.length:Int)) >>= fun r_3_2 =>
   (idx r_3_2 t2.fN) >>= fun e_4_3 =>
   (idx ctx1 t2.fN) >>= fun e_5_3 =>
   (Kbd e_5_3) >>= fun r_5_5 =>
   some (Kbk.mk r_5_5 (List.set r_3_2 (Int.toNat t2.fN) 1) 0 [])
  else
   if (t2.fOp == 1)=true then
    (Kbn (ctx1.length:Int)) >>= fun r_7_3 =>
    some (Kbk.mk [0] r_7_3 0 [])
   else
    ((
     if (t2.fOp == 9)=true then
      (Kbo (ctx1,[t2.fType])) >>= fun r_10_4 =>
      some (r_10_4)
     else
      some (ctx1)
    ):Option ((List (List Int)))) >>= fun inner_5 =>
    (Kbz (s0,inner_5,t2,0)) >>= fun r_11_3 =>
    if (r_11_3.ffault != 0)=true then
     some r_11_3
    else
     ((
      if (t2.fOp == 2)=true then
       some ((t2.fOp == 2))
      else
       some ((t2.fOp == 3))
     ):Option (Bool)) >>= fun j_9 =>
     if j_9=true then
      (idx r_11_3.fty 0) >>= fun e_17_2 =>
      if (e_17_2 != 0)=true then
       (Kbp 2) >>= fun r_18_0 =>
       some r_18_0
      else
       (Kc0 (s0,ctx1,t2,r_11_3)) >>= fun r_19_4 =>
       some r_19_4
     else
      if (t2.fOp == 4)=true then
       (Kbz (s0,ctx1,t2,1)) >>= fun r_21_3 =>
       if (r_21_3.ffault != 0)=true then
        some r_21_3
       else
        (Kbr (1,[r_11_3.fty,r_21_3.fty])) >>= fun r_24_5 =>
        (Kbt (s0,r_11_3.fneeds,1,r_21_3.fneeds)) >>= fun r_24_11 =>
        (Kbu (r_24_5,r_24_11)) >>= fun r_24_12 =>
        some r_24_12
      else
       if (t2.fOp == 6)=true then
        (Kbr (2,[r_11_3.fty,t2.fType])) >>= fun r_26_5 =>
        (Kbu (r_26_5,r_11_3.fneeds)) >>= fun r_26_8 =>
        some r_26_8
       else
        if (t2.fOp == 7)=true then
         (Kbr (2,[t2.fType,r_11_3.fty])) >>= fun r_28_5 =>
         (Kbu (r_28_5,r_11_3.fneeds)) >>= fun r_28_8 =>
         some r_28_8
        else
         if (t2.fOp == 9)=true then
          (idx r_11_3.fneeds 0) >>= fun e_30_3 =>
          (Kb0 (s0,e_30_3,t2.fN)) >>= fun r_30_7 =>
          if r_30_7=true then
           (Kbr ((wr (3 + t2.fN)),[t2.fType,r_11_3.fty])) >>= fun r_32_8 =>
           (cut r_11_3.fneeds (some 1) none none) >>= fun c_32_11 =>
           (Kbd c_32_11) >>= fun r_32_12 =>
           (Kbu (r_32_8,r_32_12)) >>= fun r_32_13 =>
           some r_32_13
          else
           (Kbp 9) >>= fun r_31_0 =>
           some r_31_0
         else
          if (t2.fOp == 11)=true then
           (Kbr ((wr (19 + t2.fN)),[r_11_3.fty])) >>= fun r_34_6 =>
           (Kbn (ctx1.length:Int)) >>= fun r_34_10 =>
           (Kbt (s0,r_34_10,t2.fN,r_11_3.fneeds)) >>= fun r_34_15 =>
           (Kbu (r_34_6,r_34_15)) >>= fun r_34_16 =>
           some r_34_16
          else
           if (t2.fOp == 10)=true then
            (idx r_11_3.fty 0) >>= fun e_36_2 =>
            (Kb4 e_36_2) >>= fun r_36_4 =>
            if r_36_4=true then
             (Kbz (s0,ctx1,t2,1)) >>= fun r_38_3 =>
             if (r_38_3.ffault != 0)=true then
              some r_38_3
             else
              (Kbf (r_11_3.fty,0)) >>= fun r_41_4 =>
              (Kbj (r_38_3.fty,r_41_4)) >>= fun r_41_5 =>
              if r_41_5=true then
               (Kbf (r_11_3.fty,1)) >>= fun r_43_2 =>
               (idx r_11_3.fty 0) >>= fun e_43_8 =>
               (Kb9 e_43_8) >>= fun r_43_10 =>
               (Kbt (s0,r_11_3.fneeds,r_43_10,r_38_3.fneeds)) >>= fun r_43_13 =>
               some (Kbk.mk r_43_2 r_43_13 0 [])
              else
               (Kbp 3) >>= fun r_42_0 =>
               some r_42_0
            else
             (Kbp 6) >>= fun r_37_0 =>
             some r_37_0
           else
            (Kby (s0,ctx1,t2,r_11_3)) >>= fun r_44_4 =>
            some r_44_4
 partial_fixpoint
def Kby (p:K00 × (List (List Int)) × Kaw × Kbk):Option (Kbk) :=
 match p with
 | (s0,ctx1,t2,a3) =>
  (idx a3.fty 0) >>= fun e_1_2 =>
  ((
   if (t2.fOp == 5)=true then
    some ((e_1_2 != 1))
   else
    some (false)
  ):Option (Bool)) >>= fun v_1 =>
  if v_1=true then
   (Kbp 4) >>= fun r_3_0 =>
   some r_3_0
  else
   ((
    if (t2.fOp == 8)=true then
     some ((e_1_2 != 2))
    else
     some (false)
   ):Option (Bool)) >>= fun v_4 =>
   if v_4=true then
    (Kbp 5) >>= fun r_5_0 =>
    some r_5_0
   else
    ((
     if (t2.fOp == 12)=true then
      (Kb5 e_1_2) >>= fun r_6_5 =>
      some ((!r_6_5))
     else
      some (false)
    ):Option (Bool)) >>= fun v_7 =>
    if v_7=true then
     (Kbp 7) >>= fun r_7_0 =>
     some r_7_0
    else
     (Kb0 (s0,1,t2.fN)) >>= fun r_8_3 =>
     if r_8_3=true then
      (Kbf (a3.fty,0)) >>= fun r_10_2 =>
      ((
       if (t2.fOp == 5)=true then
        (Kbf (a3.fty,1)) >>= fun r_12_2 =>
        (Kbf (a3.fty,0)) >>= fun r_12_5 =>
        some ([r_12_2,r_12_5])
       else
        some ([r_10_2])
      ):Option ((List (List Int)))) >>= fun front_12 =>
      (Kbo (ctx1,front_12)) >>= fun r_13_3 =>
      (Kbz (s0,r_13_3,t2,1)) >>= fun r_13_5 =>
      if (r_13_5.ffault != 0)=true then
       some r_13_5
      else
       (cut r_13_5.fneeds (some (front_12.length:Int)) none none) >>= fun c_18_3 =>
       (Kbd c_18_3) >>= fun r_18_4 =>
       ((
        if (t2.fOp == 12)=true then
         (Kb9 e_1_2) >>= fun r_22_4 =>
         (Kaz (s0,t2.fN,r_22_4)) >>= fun r_22_5 =>
         some (.inl (r_22_5,r_18_4,true))
        else
         ((
          if (t2.fOp == 5)=true then
           (idx r_13_5.fneeds 1) >>= fun e_24_3 =>
           (Kb0 (s0,e_24_3,t2.fN)) >>= fun r_24_6 =>
           some (.inl (r_18_4,r_24_6))
          else
           ((
            if (t2.fOp == 8)=true then
             (Kbf (a3.fty,1)) >>= fun r_26_4 =>
             (Kbo (ctx1,[r_26_4])) >>= fun r_26_6 =>
             (Kbz (s0,r_26_6,t2,2)) >>= fun r_26_8 =>
             if (r_26_8.ffault != 0)=true then
              some (.inr r_26_8)
             else
              (Kbj (r_13_5.fty,r_26_8.fty)) >>= fun r_29_4 =>
              if r_29_4=true then
               (idx r_26_8.fneeds 0) >>= fun e_31_3 =>
               (Kb0 (s0,e_31_3,t2.fN)) >>= fun r_31_6 =>
               (cut r_26_8.fneeds (some 1) none none) >>= fun c_32_4 =>
               (Kbw (s0,r_18_4,c_32_4)) >>= fun r_32_5 =>
               some (.inl (r_32_5,r_31_6))
              else
               (Kbp 3) >>= fun r_30_0 =>
               some (.inr r_30_0)
            else
             some (.inl (r_18_4,true))):Option (((List Int) × Bool) ⊕ (Kbk))) >>= fun fl=>match fl with
           | .inl (rest_20,ok_21) =>
            some (.inl (rest_20,ok_21))
           | .inr r =>
            some (.inr r)):Option (((List Int) × Bool) ⊕ (Kbk))) >>= fun fl=>match fl with
         | .inl (rest_24,ok_23) =>
          some (.inl (t2.fN,rest_24,ok_23))
         | .inr r =>
          some (.inr r)):Option ((Int × (List Int) × Bool) ⊕ (Kbk))) >>= fun fl=>match fl with
       | .inl (most_26,rest_27,ok_28) =>
        ((
         if ok_28=true then
          (idx r_13_5.fneeds 0) >>= fun e_33_6 =>
          (Kb0 (s0,e_33_6,most_26)) >>= fun r_33_9 =>
          some ((!r_33_9))
         else
          some (true)
        ):Option (Bool)) >>= fun v_30 =>
        if v_30=true then
         (Kbp 9) >>= fun r_34_0 =>
         some r_34_0
        else
         (Kbn (ctx1.length:Int)) >>= fun r_35_6 =>
         (Kbt (s0,r_35_6,t2.fN,a3.fneeds)) >>= fun r_35_11 =>
         (Kbt (s0,r_35_11,1,rest_27)) >>= fun r_35_13 =>
         some (Kbk.mk r_13_5.fty r_35_13 0 [])
       | .inr r =>
        some r
     else
      (Kbp 8) >>= fun r_9_0 =>
      some r_9_0
 partial_fixpoint
def Kbz (p:K00 × (List (List Int)) × Kaw × Int):Option (Kbk) :=
 match p with
 | (s0,ctx1,t2,k3) =>
  (idx t2.fKids k3) >>= fun e_1_5 =>
  (Kbx (s0,ctx1,e_1_5)) >>= fun r_1_7 =>
  ((
   if (r_1_7.ffault != 0)=true then
    (Qey ([k3].length + r_1_7.fpath.length) 8) >>= fun _ =>
    some (([k3] ++ r_1_7.fpath))
   else
    some (r_1_7.fpath)
  ):Option ((List Int))) >>= fun x_2 =>
  some (Kbk.mk r_1_7.fty r_1_7.fneeds r_1_7.ffault x_2)
 partial_fixpoint
def Kc0 (p:K00 × (List (List Int)) × Kaw × Kbk):Option (Kbk) :=
 match p with
 | (s0,ctx1,t2,a3) =>
  (Kbz (s0,ctx1,t2,1)) >>= fun r_1_3 =>
  if (r_1_3.ffault != 0)=true then
   some r_1_3
  else
   if (t2.fOp == 2)=true then
    (idx r_1_3.fty 0) >>= fun e_5_2 =>
    if (e_5_2 != 0)=true then
     (Kbp 2) >>= fun r_6_0 =>
     some r_6_0
    else
     (Kbt (s0,a3.fneeds,1,r_1_3.fneeds)) >>= fun r_7_7 =>
     some (Kbk.mk r_1_3.fty r_7_7 0 [])
   else
    (Kbz (s0,ctx1,t2,2)) >>= fun r_8_3 =>
    if (r_8_3.ffault != 0)=true then
     some r_8_3
    else
     (Kbj (r_1_3.fty,r_8_3.fty)) >>= fun r_11_4 =>
     if r_11_4=true then
      (Kbw (s0,r_1_3.fneeds,r_8_3.fneeds)) >>= fun r_13_10 =>
      (Kbt (s0,a3.fneeds,1,r_13_10)) >>= fun r_13_11 =>
      some (Kbk.mk r_1_3.fty r_13_11 0 [])
     else
      (Kbp 3) >>= fun r_12_0 =>
      some r_12_0
 partial_fixpoint
end
def Kc1 (p:Kaw × Int × (List Int)):Option ((List (List Int))) :=
 match p with
 | (t0,kid1,first2) =>
  if (t0.fOp == 9)=true then
   some [t0.fType]
  else
   (Kbc (t0.fOp,kid1)) >>= fun r_3_3 =>
   if (r_3_3 == 0)=true then
    some []
   else
    (Kbh first2) >>= fun r_5_1 =>
    if (t0.fOp == 5)=true then
     (idx r_5_1 1) >>= fun e_8_1 =>
     (idx r_5_1 0) >>= fun e_8_4 =>
     some [e_8_1,e_8_4]
    else
     if (t0.fOp == 8)=true then
      (idx r_5_1 (wr (kid1 - 1))) >>= fun e_10_3 =>
      some [e_10_3]
     else
      some r_5_1
def Kc2 (n1:Int):Option (Unit) :=
  if (decide (n1 < 0))=true then
   none
  else
   if (decide ((wr (n1 - (wr (0 - 0)))) > 0))=true then
    (chk (0 ≤ (wr (n1 - (wr (0 - 0))))∧(Int.toNat (wr (n1 - (wr (0 - 0))))) * 24 ≤ 140737488355328)) >>= fun _ =>
    some ()
   else
    some ()
def Kc3 (p:(List (List (List Int))) × Int × Int):Option (Int) :=
 match p with
 | (slices0,size_4,w_5) =>
  if (decide (w_5 < (slices0.length:Int)))=true then
   (idx slices0 w_5) >>= fun e_4_0 =>
   ((
    if (decide ((wr (size_4 + (e_4_0.length:Int))) < 0))=true then
     none
    else
     some (())
   ):Option (Unit)) >>= fun () =>
   Kc3 (slices0,(wr (size_4 + (e_4_0.length:Int))),(wr (w_5 + 1)))
  else
   some (size_4)
 partial_fixpoint
def Kc4 (p:(List (List (List Int))) × (List (List Int)) × Int):Option ((List (List Int))) :=
 match p with
 | (slices0,newslice_12,w_13) =>
  if (decide (w_13 < (slices0.length:Int)))=true then
   (idx slices0 w_13) >>= fun e_12_0 =>
   (Qey (newslice_12.length + e_12_0.length) 24) >>= fun _ =>
   Kc4 (slices0,(newslice_12 ++ e_12_0),(wr (w_13 + 1)))
  else
   some (newslice_12)
 partial_fixpoint
def Kc5 (slices0:(List (List (List Int)))):Option ((List (List Int))) :=
  (Kc3 (slices0,0,0)) >>= fun size_9 =>
  (Kc2 size_9) >>= fun _ =>
  (Kc4 (slices0,[],0)) >>= fun newslice_15 =>
  some newslice_15
def Kc6 (p:Kbm × Kaw × Int × (List Int)):Option (Int) :=
 match p with
 | (p0,t1,kid2,ty3) =>
  (idx ty3 0) >>= fun e_1_1 =>
  (Kba e_1_1) >>= fun (r_1_3_0,r_1_3_1) =>
  ((
   if (t1.fOp == 2)=true then
    some ((t1.fOp == 2))
   else
    ((
     if (t1.fOp == 3)=true then
      some ((kid2 == 0))
     else
      some (false)
    ):Option (Bool)) >>= fun v_2 =>
    some (v_2)
  ):Option (Bool)) >>= fun j_4 =>
  ((
   if j_4=true then
    some ((0,2))
   else
    ((
     if (t1.fOp == 5)=true then
      some ((kid2 == 0))
     else
      some (false)
    ):Option (Bool)) >>= fun v_7 =>
    ((
     if v_7=true then
      some ((1,4))
     else
      ((
       if (t1.fOp == 8)=true then
        some ((kid2 == 0))
       else
        some (false)
      ):Option (Bool)) >>= fun v_10 =>
      ((
       if v_10=true then
        some ((2,5))
       else
        ((
         if (t1.fOp == 10)=true then
          some ((kid2 == 0))
         else
          some (false)
        ):Option (Bool)) >>= fun v_13 =>
        ((
         if v_13=true then
          some ((3,6))
         else
          ((
           if (t1.fOp == 12)=true then
            some ((kid2 == 0))
           else
            some (false)
          ):Option (Bool)) >>= fun v_16 =>
          ((
           if v_16=true then
            some ((4,7))
           else
            some (((-1),0))
          ):Option (Int × Int)) >>= fun (want_19,fault_20) =>
          some ((want_19,fault_20))
        ):Option (Int × Int)) >>= fun (want_22,fault_23) =>
        some ((want_22,fault_23))
      ):Option (Int × Int)) >>= fun (want_25,fault_26) =>
      some ((want_25,fault_26))
    ):Option (Int × Int)) >>= fun (want_28,fault_29) =>
    some ((want_28,fault_29))
  ):Option (Int × Int)) >>= fun (want_31,fault_32) =>
  ((
   if (decide (want_31 ≥ 0))=true then
    some ((r_1_3_0 != want_31))
   else
    some (false)
  ):Option (Bool)) >>= fun v_34 =>
  if v_34=true then
   some fault_32
  else
   ((
    if (kid2 == 0)=true then
     if (t1.fOp == 5)=true then
      (K5o (p0.fs,1,t1.fN)) >>= fun r_16_22 =>
      some ((!r_16_22))
     else
      if (t1.fOp == 8)=true then
       (K5o (p0.fs,1,t1.fN)) >>= fun r_16_22 =>
       some ((!r_16_22))
      else
       if (t1.fOp == 12)=true then
        (K5o (p0.fs,1,t1.fN)) >>= fun r_16_22 =>
        some ((!r_16_22))
       else
        some (false)
    else
     some (false)
   ):Option (Bool)) >>= fun v_37 =>
   if v_37=true then
    some 8
   else
    some 0
def Kc7 (p:K00 × (List Int) × (List Int) × (List Int) × Int):Option ((List Int)) :=
 match p with
 | (clo1_0,a2,b3,out_2,w_3) =>
  if (decide (w_3 < (a2.length:Int)))=true then
   (idx a2 w_3) >>= fun e_5_5 =>
   (idx b3 w_3) >>= fun e_5_9 =>
   (K5i (clo1_0,e_5_5,e_5_9)) >>= fun r_5_11 =>
   (idx out_2 w_3) >>= fun e_5_12 =>
   Kc7 (clo1_0,a2,b3,(List.set out_2 (Int.toNat w_3) r_5_11),(wr (w_3 + 1)))
  else
   some (out_2)
 partial_fixpoint
def Kc8 (p:Kbm × K00 × (List Int) × (List Int)):Option ((List Int)) :=
 match p with
 | (p0,clo1_0,a2,b3) =>
  (chk (0 ≤ (a2.length:Int)∧(Int.toNat (a2.length:Int)) * 8 ≤ 140737488355328)) >>= fun _ =>
  (Kc7 (clo1_0,a2,b3,(List.replicate (Int.toNat (a2.length:Int)) 0),0)) >>= fun out_5 =>
  some out_5
def Kc9 (p:Kbm × (List Int) × (List Int)):Option ((List Int)) :=
 match p with
 | (p0,a1,b2) =>
  (Kc8 (p0,p0.fs,a1,b2)) >>= fun r_1_6 =>
  some r_1_6
def Kca (p:Int × Kbl):Option ((List Int)) :=
 match p with
 | (i0,cap0) =>
  (idx cap0.fkids i0) >>= fun e_1_5 =>
  some e_1_5.fty
def Kcb (p:K00 × (List Int) × (List Int) × (List Int) × Int):Option ((List Int)) :=
 match p with
 | (clo1_0,a2,b3,out_2,w_3) =>
  if (decide (w_3 < (a2.length:Int)))=true then
   (idx a2 w_3) >>= fun e_5_5 =>
   (idx b3 w_3) >>= fun e_5_9 =>
   (K60 (clo1_0,e_5_5,e_5_9)) >>= fun r_5_11 =>
   (idx out_2 w_3) >>= fun e_5_12 =>
   Kcb (clo1_0,a2,b3,(List.set out_2 (Int.toNat w_3) r_5_11),(wr (w_3 + 1)))
  else
   some (out_2)
 partial_fixpoint
def Kcc (p:Kbm × K00 × (List Int) × (List Int)):Option ((List Int)) :=
 match p with
 | (p0,clo1_0,a2,b3) =>
  (chk (0 ≤ (a2.length:Int)∧(Int.toNat (a2.length:Int)) * 8 ≤ 140737488355328)) >>= fun _ =>
  (Kcb (clo1_0,a2,b3,(List.replicate (Int.toNat (a2.length:Int)) 0),0)) >>= fun out_5 =>
  some out_5
def Kcd (p:Kbm × (List Int) × (List Int)):Option ((List Int)) :=
 match p with
 | (p0,a1,b2) =>
  (Kcc (p0,p0.fs,a1,b2)) >>= fun r_1_6 =>
  some r_1_6
def Kce (n1:Int):Option (Unit) :=
  if (decide (n1 < 0))=true then
   none
  else
   if (decide ((wr (n1 - (wr (0 - 0)))) > 0))=true then
    (chk (0 ≤ (wr (n1 - (wr (0 - 0))))∧(Int.toNat (wr (n1 - (wr (0 - 0))))) * 8 ≤ 140737488355328)) >>= fun _ =>
    some ()
   else
    some ()
def Kcf (p:(List (List Int)) × Int × Int):Option (Int) :=
 match p with
 | (slices0,size_4,w_5) =>
  if (decide (w_5 < (slices0.length:Int)))=true then
   (idx slices0 w_5) >>= fun e_4_0 =>
   ((
    if (decide ((wr (size_4 + (e_4_0.length:Int))) < 0))=true then
     none
    else
     some (())
   ):Option (Unit)) >>= fun () =>
   Kcf (slices0,(wr (size_4 + (e_4_0.length:Int))),(wr (w_5 + 1)))
  else
   some (size_4)
 partial_fixpoint
def Kcg (p:(List (List Int)) × (List Int) × Int):Option ((List Int)) :=
 match p with
 | (slices0,newslice_12,w_13) =>
  if (decide (w_13 < (slices0.length:Int)))=true then
   (idx slices0 w_13) >>= fun e_12_0 =>
   (Qey (newslice_12.length + e_12_0.length) 8) >>= fun _ =>
   Kcg (slices0,(newslice_12 ++ e_12_0),(wr (w_13 + 1)))
  else
   some (newslice_12)
 partial_fixpoint
def Kch (slices0:(List (List Int))):Option ((List Int)) :=
  (Kcf (slices0,0,0)) >>= fun size_9 =>
  (Kce size_9) >>= fun _ =>
  (Kcg (slices0,[],0)) >>= fun newslice_15 =>
  some newslice_15
def Kci (p:Int × Kbm × Int):Option (Bool) :=
 match p with
 | (u0,cap0,cap1) =>
  (K5o (cap0.fs,u0,cap1)) >>= fun r_1_4 =>
  some (!r_1_4)
def Kcj (p:(List Int) × Kbm × Int × Int):Option ((Unit) ⊕ (Int)) :=
 match p with
 | (s0,clo1_0,clo1_1,w_3) =>
  if (decide (w_3 < (s0.length:Int)))=true then
   (idx s0 w_3) >>= fun e_4_3 =>
   (Kci (e_4_3,clo1_0,clo1_1)) >>= fun r_4_5 =>
   if r_4_5=true then
    some (.inr w_3)
   else
    Kcj (s0,clo1_0,clo1_1,(wr (w_3 + 1)))
  else
   some (.inl ())
 partial_fixpoint
def Kck (p:(List Int) × Kbm × Int):Option (Int) :=
 match p with
 | (s0,clo1_0,clo1_1) =>
  (Kcj (s0,clo1_0,clo1_1,0)) >>= fun fl=>match fl with
  | .inl () =>
   some (-1)
  | .inr r =>
   some r
def Kcl (p:(List Int) × Kbm × Int):Option (Bool) :=
 match p with
 | (s0,clo1_0,clo1_1) =>
  (Kck (s0,clo1_0,clo1_1)) >>= fun r_1_2 =>
  some (decide (r_1_2 ≥ 0))
def Kcm (p:Kbm × (List Int) × Int):Option (Bool) :=
 match p with
 | (p0,l1,g2) =>
  (Kcl (l1,p0,g2)) >>= fun r_1_2 =>
  some (!r_1_2)
def Kcn (p:Kbm × Int × (List Int) × (List Int) × Int):Option ((List Int)) :=
 match p with
 | (p0,g1,l2,out_2,w_3) =>
  if (decide (w_3 < (l2.length:Int)))=true then
   (idx l2 w_3) >>= fun e_4_1 =>
   (K5l (p0.fs,g1,e_4_1)) >>= fun r_5_6 =>
   (idx out_2 w_3) >>= fun e_5_7 =>
   Kcn (p0,g1,l2,(List.set out_2 (Int.toNat w_3) r_5_6),(wr (w_3 + 1)))
  else
   some (out_2)
 partial_fixpoint
def Kco (p:Kbm × Int × (List Int)):Option ((List Int)) :=
 match p with
 | (p0,g1,l2) =>
  (chk (0 ≤ (l2.length:Int)∧(Int.toNat (l2.length:Int)) * 8 ≤ 140737488355328)) >>= fun _ =>
  (Kcn (p0,g1,l2,(List.replicate (Int.toNat (l2.length:Int)) 0),0)) >>= fun out_5 =>
  some out_5
def Kcp (ty0:(List Int)):Option (Bool) :=
  some (decide ((ty0.length:Int) > 40))
def Kcq (p:Kbm × Kbl × (List (List Int)) × Kaw × (List (List Int)) × (List (List Int))):Option (Int × Kbl) :=
 match p with
 | (p0,out1,ctx2,t3,needs4,used5) =>
  ((
   if (t3.fOp == 0)=true then
    (idx ctx2 t3.fN) >>= fun e_4_4 =>
    (Kbe e_4_4) >>= fun r_4_6 =>
    (idx out1.fneeds t3.fN) >>= fun e_5_6 =>
    some (.inl (r_4_6,(List.set out1.fneeds (Int.toNat t3.fN) 1),out1.fkids,out1.fpath))
   else
    ((
     if (t3.fOp == 1)=true then
      some (.inl ([0],out1.fneeds,out1.fkids,out1.fpath))
     else
      ((
       if (t3.fOp == 2)=true then
        (idx needs4 0) >>= fun e_9_5 =>
        (idx needs4 1) >>= fun e_9_8 =>
        (Kc9 (p0,e_9_5,e_9_8)) >>= fun r_9_10 =>
        some (.inl ([0],r_9_10,out1.fkids,out1.fpath))
       else
        ((
         if (t3.fOp == 3)=true then
          (Kca (1,out1)) >>= fun r_11_1 =>
          (Kca (2,out1)) >>= fun r_11_3 =>
          (K90 (r_11_1,r_11_3)) >>= fun r_11_4 =>
          if r_11_4=true then
           (Kca (1,out1)) >>= fun r_13_3 =>
           (idx needs4 0) >>= fun e_13_6 =>
           (idx needs4 1) >>= fun e_13_10 =>
           (idx needs4 2) >>= fun e_13_13 =>
           (Kcd (p0,e_13_10,e_13_13)) >>= fun r_13_15 =>
           (Kc9 (p0,e_13_6,r_13_15)) >>= fun r_13_16 =>
           some (.inl (r_13_3,r_13_16))
          else
           some (.inr (3,out1))
         else
          ((
           if (t3.fOp == 4)=true then
            (Kca (0,out1)) >>= fun r_15_4 =>
            (Kca (1,out1)) >>= fun r_15_6 =>
            (Kch [[1],r_15_4,r_15_6]) >>= fun r_15_8 =>
            (idx needs4 0) >>= fun e_15_11 =>
            (idx needs4 1) >>= fun e_15_14 =>
            (Kc9 (p0,e_15_11,e_15_14)) >>= fun r_15_16 =>
            some (.inl (r_15_8,r_15_16))
           else
            ((
             if (t3.fOp == 5)=true then
              (idx used5 1) >>= fun e_17_2 =>
              (Kcm (p0,e_17_2,t3.fN)) >>= fun r_17_6 =>
              if r_17_6=true then
               (Kca (1,out1)) >>= fun r_19_3 =>
               (idx needs4 0) >>= fun e_19_9 =>
               (Kco (p0,t3.fN,e_19_9)) >>= fun r_19_11 =>
               (idx needs4 1) >>= fun e_19_13 =>
               (Kc9 (p0,r_19_11,e_19_13)) >>= fun r_19_15 =>
               some (.inl (r_19_3,r_19_15))
              else
               some (.inr (9,out1))
             else
              ((
               if (t3.fOp == 6)=true then
                (Kca (0,out1)) >>= fun r_21_4 =>
                (Kch [[2],r_21_4,t3.fType]) >>= fun r_21_8 =>
                (idx needs4 0) >>= fun e_21_10 =>
                some (.inl (r_21_8,e_21_10))
               else
                ((
                 if (t3.fOp == 7)=true then
                  (Kca (0,out1)) >>= fun r_23_6 =>
                  (Kch [[2],t3.fType,r_23_6]) >>= fun r_23_8 =>
                  (idx needs4 0) >>= fun e_23_10 =>
                  some (.inl (r_23_8,e_23_10))
                 else
                  ((
                   if (t3.fOp == 8)=true then
                    (Kca (1,out1)) >>= fun r_25_1 =>
                    (Kca (2,out1)) >>= fun r_25_3 =>
                    (K90 (r_25_1,r_25_3)) >>= fun r_25_4 =>
                    if r_25_4=true then
                     ((
                      (idx used5 1) >>= fun e_27_2 =>
                      (Kcm (p0,e_27_2,t3.fN)) >>= fun r_27_6 =>
                      if r_27_6=true then
                       (idx used5 2) >>= fun e_27_11 =>
                       (Kcm (p0,e_27_11,t3.fN)) >>= fun r_27_15 =>
                       some ((!r_27_15))
                      else
                       some (true)
                     ):Option (Bool)) >>= fun v_13 =>
                     if v_13=true then
                      some (.inr (9,out1))
                     else
                      (Kca (1,out1)) >>= fun r_29_3 =>
                      (idx needs4 0) >>= fun e_29_9 =>
                      (Kco (p0,t3.fN,e_29_9)) >>= fun r_29_11 =>
                      (idx needs4 1) >>= fun e_29_14 =>
                      (idx needs4 2) >>= fun e_29_17 =>
                      (Kcd (p0,e_29_14,e_29_17)) >>= fun r_29_19 =>
                      (Kc9 (p0,r_29_11,r_29_19)) >>= fun r_29_20 =>
                      some (.inl (r_29_3,r_29_20))
                    else
                     some (.inr (3,out1))
                   else
                    ((
                     if (t3.fOp == 9)=true then
                      (idx used5 0) >>= fun e_31_2 =>
                      (Kcm (p0,e_31_2,t3.fN)) >>= fun r_31_6 =>
                      if r_31_6=true then
                       (Kca (0,out1)) >>= fun r_33_9 =>
                       (Kch [[(wr (3 + t3.fN))],t3.fType,r_33_9]) >>= fun r_33_11 =>
                       (idx needs4 0) >>= fun e_33_13 =>
                       some (.inl (r_33_11,e_33_13))
                      else
                       some (.inr (9,out1))
                     else
                      ((
                       if (t3.fOp == 10)=true then
                        (Kca (0,out1)) >>= fun r_35_1 =>
                        (idx r_35_1 0) >>= fun e_35_2 =>
                        (Kba e_35_2) >>= fun (r_35_4_0,r_35_4_1) =>
                        (Kca (0,out1)) >>= fun r_36_3 =>
                        (Kbh r_36_3) >>= fun r_36_4 =>
                        (idx r_36_4 1) >>= fun e_36_5 =>
                        (idx needs4 0) >>= fun e_36_9 =>
                        (idx needs4 1) >>= fun e_36_14 =>
                        (Kco (p0,r_35_4_1,e_36_14)) >>= fun r_36_16 =>
                        (Kc9 (p0,e_36_9,r_36_16)) >>= fun r_36_17 =>
                        some (.inl (e_36_5,r_36_17))
                       else
                        ((
                         if (t3.fOp == 11)=true then
                          (Kca (0,out1)) >>= fun r_38_7 =>
                          (Kch [[(wr (19 + t3.fN))],r_38_7]) >>= fun r_38_9 =>
                          (idx needs4 0) >>= fun e_38_14 =>
                          (Kco (p0,t3.fN,e_38_14)) >>= fun r_38_16 =>
                          some (.inl (r_38_9,r_38_16))
                         else
                          ((
                           if (t3.fOp == 12)=true then
                            (Kca (0,out1)) >>= fun r_40_1 =>
                            (idx r_40_1 0) >>= fun e_40_2 =>
                            (Kba e_40_2) >>= fun (r_40_4_0,r_40_4_1) =>
                            (idx used5 1) >>= fun e_41_2 =>
                            (K5l (p0.fs,t3.fN,r_40_4_1)) >>= fun r_41_9 =>
                            (Kcm (p0,e_41_2,r_41_9)) >>= fun r_41_10 =>
                            if r_41_10=true then
                             (Kca (1,out1)) >>= fun r_43_3 =>
                             (idx needs4 0) >>= fun e_43_9 =>
                             (Kco (p0,t3.fN,e_43_9)) >>= fun r_43_11 =>
                             (idx needs4 1) >>= fun e_43_13 =>
                             (Kc9 (p0,r_43_11,e_43_13)) >>= fun r_43_15 =>
                             some (.inl (r_43_3,r_43_15))
                            else
                             some (.inr (9,out1))
                           else
                            some (.inl (out1.fty,out1.fneeds))):Option (((List Int) × (List Int)) ⊕ ((Int × Kbl)))) >>= fun fl=>match fl with
                          | .inl (out_22,out_23) =>
                           some (.inl (out_22,out_23))
                          | .inr r =>
                           some (.inr r)):Option (((List Int) × (List Int)) ⊕ ((Int × Kbl)))) >>= fun fl=>match fl with
                        | .inl (out_25,out_26) =>
                         some (.inl (out_25,out_26))
                        | .inr r =>
                         some (.inr r)):Option (((List Int) × (List Int)) ⊕ ((Int × Kbl)))) >>= fun fl=>match fl with
                      | .inl (out_28,out_29) =>
                       some (.inl (out_28,out_29))
                      | .inr r =>
                       some (.inr r)):Option (((List Int) × (List Int)) ⊕ ((Int × Kbl)))) >>= fun fl=>match fl with
                    | .inl (out_31,out_32) =>
                     some (.inl (out_31,out_32))
                    | .inr r =>
                     some (.inr r)):Option (((List Int) × (List Int)) ⊕ ((Int × Kbl)))) >>= fun fl=>match fl with
                  | .inl (out_34,out_36) =>
                   some (.inl (out_34,out_36))
                  | .inr r =>
                   some (.inr r)):Option (((List Int) × (List Int)) ⊕ ((Int × Kbl)))) >>= fun fl=>match fl with
                | .inl (out_38,out_39) =>
                 some (.inl (out_38,out_39))
                | .inr r =>
                 some (.inr r)):Option (((List Int) × (List Int)) ⊕ ((Int × Kbl)))) >>= fun fl=>match fl with
              | .inl (out_41,out_42) =>
               some (.inl (out_41,out_42))
              | .inr r =>
               some (.inr r)):Option (((List Int) × (List Int)) ⊕ ((Int × Kbl)))) >>= fun fl=>match fl with
            | .inl (out_44,out_46) =>
             some (.inl (out_44,out_46))
            | .inr r =>
             some (.inr r)):Option (((List Int) × (List Int)) ⊕ ((Int × Kbl)))) >>= fun fl=>match fl with
          | .inl (out_48,out_50) =>
           some (.inl (out_48,out_50))
          | .inr r =>
           some (.inr r)):Option (((List Int) × (List Int)) ⊕ ((Int × Kbl)))) >>= fun fl=>match fl with
        | .inl (out_52,out_54) =>
         some (.inl (out_52,out_54,out1.fkids,out1.fpath))
        | .inr r =>
         some (.inr r)):Option (((List Int) × (List Int) × (List Kbl) × (List Int)) ⊕ ((Int × Kbl)))) >>= fun fl=>match fl with
      | .inl (out_57,out_58,out_59,out_60) =>
       some (.inl (out_57,out_58,out_59,out_60))
      | .inr r =>
       some (.inr r)):Option (((List Int) × (List Int) × (List Kbl) × (List Int)) ⊕ ((Int × Kbl)))) >>= fun fl=>match fl with
    | .inl (out_62,out_63,out_64,out_65) =>
     some (.inl (out_62,out_63,out_64,out_65))
    | .inr r =>
     some (.inr r)):Option (((List Int) × (List Int) × (List Kbl) × (List Int)) ⊕ ((Int × Kbl)))) >>= fun fl=>match fl with
  | .inl (out_68,out_69,out_70,out_71) =>
   (Kcp out_68) >>= fun r_44_4 =>
   if r_44_4=true then
    some (3,(Kbl.mk out_68 out_69 out_70 out1.ffault out_71))
   else
    some (0,(Kbl.mk out_68 out_69 out_70 out1.ffault out_71))
  | .inr r =>
   some r
mutual
def Kcr (p:Kbm × (List (List Int)) × Kaw):Option (Kbl) :=
 match p with
 | (p0,ctx1,t2) =>
  (chk (0 ≤ (ctx1.length:Int)∧(Int.toNat (ctx1.length:Int)) * 8 ≤ 140737488355328)) >>= fun _ =>
  (Kcs (p0,ctx1,t2,[],[],[],0)) >>= fun fl=>match fl with
  | .inl (out_44,needs_45,used_46) =>
   (Kcq (p0,(Kbl.mk [] (List.replicate (Int.toNat (ctx1.length:Int)) 0) out_44 0 []),ctx1,t2,needs_45,used_46)) >>= fun (r_24_7,o_24_7_1) =>
   if (r_24_7 != 0)=true then
    some (Kbl.mk [] [] [] r_24_7 [])
   else
    some (Kbl.mk o_24_7_1.fty o_24_7_1.fneeds o_24_7_1.fkids r_24_7 o_24_7_1.fpath)
  | .inr r =>
   some r
 partial_fixpoint
def Kcs (p:Kbm × (List (List Int)) × Kaw × (List Kbl) × (List (List Int)) × (List (List Int)) × Int):Option (((List Kbl) × (List (List Int)) × (List (List Int))) ⊕ (Kbl)) :=
 match p with
 | (p0,ctx1,t2,out_27,needs_28,used_29,w_12) =>
  if (decide (w_12 < (t2.fKids.length:Int)))=true then
   (idx t2.fKids w_12) >>= fun e_6_1 =>
   ((
    if (decide (w_12 > 0))=true then
     some (true)
    else
     some ((t2.fOp == 9))
   ):Option (Bool)) >>= fun v_31 =>
   ((
    if v_31=true then
     ((
      if (decide (w_12 > 0))=true then
       (idx out_27 0) >>= fun e_11_4 =>
       some (e_11_4.fty)
      else
       some ([])
     ):Option ((List Int))) >>= fun first_35 =>
     (Kc1 (t2,w_12,first_35)) >>= fun r_12_3 =>
     some (r_12_3)
    else
     some ([])
   ):Option ((List (List Int)))) >>= fun more_37 =>
   (Kc5 [more_37,ctx1]) >>= fun r_13_4 =>
   (Kcr (p0,r_13_4,e_6_1)) >>= fun r_13_6 =>
   if (r_13_6.ffault != 0)=true then
    (Qey ([w_12].length + r_13_6.fpath.length) 8) >>= fun _ =>
    some (.inr (Kbl.mk [] [] [] r_13_6.ffault ([w_12] ++ r_13_6.fpath)))
   else
    (Kc6 (p0,t2,w_12,r_13_6.fty)) >>= fun r_16_7 =>
    if (r_16_7 != 0)=true then
     some (.inr (Kbl.mk [] [] [] r_16_7 []))
    else
     ((
      if (t2.fOp == 10)=true then
       if (w_12 == 1)=true then
        (idx out_27 0) >>= fun e_19_16 =>
        (Kbh e_19_16.fty) >>= fun r_19_21 =>
        (idx r_19_21 0) >>= fun e_19_22 =>
        (K90 (r_13_6.fty,e_19_22)) >>= fun r_19_24 =>
        some ((!r_19_24))
       else
        some (false)
      else
       some (false)
     ):Option (Bool)) >>= fun v_41 =>
     if v_41=true then
      some (.inr (Kbl.mk [] [] [] 3 []))
     else
      (Qey (out_27.length + [r_13_6].length) 8) >>= fun _ =>
      (cut r_13_6.fneeds none (some (more_37.length:Int)) none) >>= fun c_22_7 =>
      (Qey (used_29.length + [c_22_7].length) 24) >>= fun _ =>
      (cut r_13_6.fneeds (some (more_37.length:Int)) none none) >>= fun c_22_17 =>
      (Qey (needs_28.length + [c_22_17].length) 24) >>= fun _ =>
      Kcs (p0,ctx1,t2,(out_27 ++ [r_13_6]),(needs_28 ++ [c_22_17]),(used_29 ++ [c_22_7]),(wr (w_12 + 1)))
  else
   some (.inl (out_27,needs_28,used_29))
 partial_fixpoint
end
end Go.Am
