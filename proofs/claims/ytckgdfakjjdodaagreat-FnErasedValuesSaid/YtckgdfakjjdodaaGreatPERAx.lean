/- Pure functions. -/
import Derived.Test.YtckgdfakjjdodaaGreatGERAF14
set_option linter.unusedVariables false
namespace Go.Am
structure Knj where
 fty:List Int
 fneeds:List Int
 ffault:Int
 fpath:List Int
 deriving Inhabited
structure Knk where
 fty:List Int
 fneeds:List Int
 fkids:List Knk
 ffault:Int
 fpath:List Int
 deriving Inhabited
structure Knl where
 fs:K00
 deriving Inhabited
def Knm (n0:Int):Option ((List Int)) :=
  (chk (0 ≤ n0∧(Int.toNat n0) * 8 ≤ 140737488355328)) >>= fun _ =>
  some (List.replicate (Int.toNat n0) 0)
def Knn (p:(List (List Int)) × (List (List Int))):Option ((List (List Int))) :=
 match p with
 | (ctx0,front1) =>
  (Qe5 (([]:List (List Int)).length + front1.length) 24) >>= fun _ =>
  (Qe5 (front1.length + ctx0.length) 24) >>= fun _ =>
  some (front1 ++ ctx0)
def Kno (fault0:Int):Option (Knj) :=
  some (Knj.mk [] [] fault0 [])
def Knp (p:K00 × (List Int) × Int × (List Int) × (List Int) × Int):Option ((List Int)) :=
 match p with
 | (s0,a1,g2,b3,out_2,i_3) =>
  if (decide (i_3 < (a1.length:Int)))=true then
   (idx a1 i_3) >>= fun e_5_4 =>
   (idx b3 i_3) >>= fun e_5_10 =>
   (K9b (s0,g2,e_5_10)) >>= fun r_5_12 =>
   (K94 (s0,e_5_4,r_5_12)) >>= fun r_5_13 =>
   (Qe5 (out_2.length + [r_5_13].length) 8) >>= fun _ =>
   Knp (s0,a1,g2,b3,(out_2 ++ [r_5_13]),(wr (i_3 + 1)))
  else
   some (out_2)
 partial_fixpoint
def Knq (p:K00 × (List Int) × Int × (List Int)):Option ((List Int)) :=
 match p with
 | (s0,a1,g2,b3) =>
  (Knp (s0,a1,g2,b3,[],0)) >>= fun out_5 =>
  some out_5
def Knr (p:(List Int) × (List Int)):Option (Knj) :=
 match p with
 | (ty0,needs1) =>
  if (decide ((ty0.length:Int) > 40))=true then
   (Kno 3) >>= fun r_2_0 =>
   some r_2_0
  else
   some (Knj.mk ty0 needs1 0 [])
def Kns (p:K00 × (List Int) × (List Int) × (List Int) × Int):Option ((List Int)) :=
 match p with
 | (s0,a1,b2,out_2,i_3) =>
  if (decide (i_3 < (a1.length:Int)))=true then
   (idx a1 i_3) >>= fun e_5_4 =>
   (idx b2 i_3) >>= fun e_5_8 =>
   (K9s (s0,e_5_4,e_5_8)) >>= fun r_5_10 =>
   (Qe5 (out_2.length + [r_5_10].length) 8) >>= fun _ =>
   Kns (s0,a1,b2,(out_2 ++ [r_5_10]),(wr (i_3 + 1)))
  else
   some (out_2)
 partial_fixpoint
def Knt (p:K00 × (List Int) × (List Int)):Option ((List Int)) :=
 match p with
 | (s0,a1,b2) =>
  (Kns (s0,a1,b2,[],0)) >>= fun out_5 =>
  some out_5
mutual
def Knu (p:K00 × (List (List Int)) × K01):Option (Knj) :=
 match p with
 | (s0,ctx1,t2) =>
  if (t2.fOp == 0)=true then
   (Knm (ctx1.length:Int)) >>= fun r_3_2 =>
   (idx r_3_2 t2.fN) >>= fun e_4_3 =>
   (idx ctx1 t2.fN) >>= fun e_5_3 =>
   (Kc1 e_5_3) >>= fun r_5_5 =>
   some (Knj.mk r_5_5 (List.set r_3_2 (Int.toNat t2.fN) 1) 0 [])
  else
   if (t2.fOp == 1)=true then
    (Knm (ctx1.length:Int)) >>= fun r_7_3 =>
    some (Knj.mk [0] r_7_3 0 [])
   else
    ((
     if (t2.fOp == 9)=true then
      (Knn (ctx1,[t2.fType])) >>= fun r_10_4 =>
      some (r_10_4)
     else
      some (ctx1)
    ):Option ((List (List Int)))) >>= fun inner_5 =>
    (Knw (s0,inner_5,t2,0)) >>= fun r_11_3 =>
    if (r_11_3.ffault != 0)=true then
     some r_11_3
    else
     ((
      if (t2.fOp == 2)=true then
       some ((t2.fOp == 2))
      else
       some ((t2.fOp == 3))
     ):Option (Bool)) >>= fun j_9 =>
     if j_9=true then
      (idx r_11_3.fty 0) >>= fun e_17_2 =>
      if (e_17_2 != 0)=true then
       (Kno 2) >>= fun r_18_0 =>
       some r_18_0
      else
       (Knx (s0,ctx1,t2,r_11_3)) >>= fun r_19_4 =>
       some r_19_4
     else
      if (t2.fOp == 4)=true then
       (Knw (s0,ctx1,t2,1)) >>= fun r_21_3 =>
       if (r_21_3.ffault != 0)=true then
        some r_21_3
       else
        (Kbc (1,[r_11_3.fty,r_21_3.fty])) >>= fun r_24_5 =>
        (Knq (s0,r_11_3.fneeds,1,r_21_3.fneeds)) >>= fun r_24_11 =>
        (Knr (r_24_5,r_24_11)) >>= fun r_24_12 =>
        some r_24_12
      else
       if (t2.fOp == 6)=true then
        (Kbc (2,[r_11_3.fty,t2.fType])) >>= fun r_26_5 =>
        (Knr (r_26_5,r_11_3.fneeds)) >>= fun r_26_8 =>
        some r_26_8
       else
        if (t2.fOp == 7)=true then
         (Kbc (2,[t2.fType,r_11_3.fty])) >>= fun r_28_5 =>
         (Knr (r_28_5,r_11_3.fneeds)) >>= fun r_28_8 =>
         some r_28_8
        else
         if (t2.fOp == 9)=true then
          (idx r_11_3.fneeds 0) >>= fun e_30_3 =>
          (K9e (s0,e_30_3,t2.fN)) >>= fun r_30_7 =>
          if r_30_7=true then
           (Kbc ((wr (3 + t2.fN)),[t2.fType,r_11_3.fty])) >>= fun r_32_8 =>
           (cut r_11_3.fneeds (some 1) none none) >>= fun c_32_11 =>
           (Kc1 c_32_11) >>= fun r_32_12 =>
           (Knr (r_32_8,r_32_12)) >>= fun r_32_13 =>
           some r_32_13
          else
           (Kno 9) >>= fun r_31_0 =>
           some r_31_0
         else
          if (t2.fOp == 11)=true then
           (Kbc ((wr (19 + t2.fN)),[r_11_3.fty])) >>= fun r_34_6 =>
           (Knm (ctx1.length:Int)) >>= fun r_34_10 =>
           (Knq (s0,r_34_10,t2.fN,r_11_3.fneeds)) >>= fun r_34_15 =>
           (Knr (r_34_6,r_34_15)) >>= fun r_34_16 =>
           some r_34_16
          else
           if (t2.fOp == 10)=true then
            (idx r_11_3.fty 0) >>= fun e_36_2 =>
            (Kbl e_36_2) >>= fun r_36_4 =>
            if r_36_4=true then
             (Knw (s0,ctx1,t2,1)) >>= fun r_38_3 =>
             if (r_38_3.ffault != 0)=true then
              some r_38_3
             else
              (Kc4 (r_11_3.fty,0)) >>= fun r_41_4 =>
              (Klb (r_38_3.fty,r_41_4)) >>= fun r_41_5 =>
              if r_41_5=true then
               (Kc4 (r_11_3.fty,1)) >>= fun r_43_2 =>
               (idx r_11_3.fty 0) >>= fun e_43_8 =>
               (Kca e_43_8) >>= fun r_43_10 =>
               (Knq (s0,r_11_3.fneeds,r_43_10,r_38_3.fneeds)) >>= fun r_43_13 =>
               some (Knj.mk r_43_2 r_43_13 0 [])
              else
               (Kno 3) >>= fun r_42_0 =>
               some r_42_0
            else
             (Kno 6) >>= fun r_37_0 =>
             some r_37_0
           else
            (Knv (s0,ctx1,t2,r_11_3)) >>= fun r_44_4 =>
            some r_44_4
 partial_fixpoint
def Knv (p:K00 × (List (List Int)) × K01 × Knj):Option (Knj) :=
 match p with
 | (s0,ctx1,t2,a3) =>
  (idx a3.fty 0) >>= fun e_1_2 =>
  ((
   if (t2.fOp == 5)=true then
    some ((e_1_2 != 1))
   else
    some (false)
  ):Option (Bool)) >>= fun v_1 =>
  if v_1=true then
   (Kno 4) >>= fun r_3_0 =>
   some r_3_0
  else
   ((
    if (t2.fOp == 8)=true then
     some ((e_1_2 != 2))
    else
     some (false)
   ):Option (Bool)) >>= fun v_4 =>
   if v_4=true then
    (Kno 5) >>= fun r_5_0 =>
    some r_5_0
   else
    ((
     if (t2.fOp == 12)=true then
      (Kbo e_1_2) >>= fun r_6_5 =>
      some ((!r_6_5))
     else
      some (false)
    ):Option (Bool)) >>= fun v_7 =>
    if v_7=true then
     (Kno 7) >>= fun r_7_0 =>
     some r_7_0
    else
     (K9e (s0,1,t2.fN)) >>= fun r_8_3 =>
     if r_8_3=true then
      (Kc4 (a3.fty,0)) >>= fun r_10_2 =>
      ((
       if (t2.fOp == 5)=true then
        (Kc4 (a3.fty,1)) >>= fun r_12_2 =>
        (Kc4 (a3.fty,0)) >>= fun r_12_5 =>
        some ([r_12_2,r_12_5])
       else
        some ([r_10_2])
      ):Option ((List (List Int)))) >>= fun front_12 =>
      (Knn (ctx1,front_12)) >>= fun r_13_3 =>
      (Knw (s0,r_13_3,t2,1)) >>= fun r_13_5 =>
      if (r_13_5.ffault != 0)=true then
       some r_13_5
      else
       (cut r_13_5.fneeds (some (front_12.length:Int)) none none) >>= fun c_18_3 =>
       (Kc1 c_18_3) >>= fun r_18_4 =>
       ((
        if (t2.fOp == 12)=true then
         (Kca e_1_2) >>= fun r_22_4 =>
         (K9b (s0,t2.fN,r_22_4)) >>= fun r_22_5 =>
         some (.inl (r_22_5,r_18_4,true))
        else
         ((
          if (t2.fOp == 5)=true then
           (idx r_13_5.fneeds 1) >>= fun e_24_3 =>
           (K9e (s0,e_24_3,t2.fN)) >>= fun r_24_6 =>
           some (.inl (r_18_4,r_24_6))
          else
           ((
            if (t2.fOp == 8)=true then
             (Kc4 (a3.fty,1)) >>= fun r_26_4 =>
             (Knn (ctx1,[r_26_4])) >>= fun r_26_6 =>
             (Knw (s0,r_26_6,t2,2)) >>= fun r_26_8 =>
             if (r_26_8.ffault != 0)=true then
              some (.inr r_26_8)
             else
              (Klb (r_13_5.fty,r_26_8.fty)) >>= fun r_29_4 =>
              if r_29_4=true then
               (idx r_26_8.fneeds 0) >>= fun e_31_3 =>
               (K9e (s0,e_31_3,t2.fN)) >>= fun r_31_6 =>
               (cut r_26_8.fneeds (some 1) none none) >>= fun c_32_4 =>
               (Knt (s0,r_18_4,c_32_4)) >>= fun r_32_5 =>
               some (.inl (r_32_5,r_31_6))
              else
               (Kno 3) >>= fun r_30_0 =>
               some (.inr r_30_0)
            else
             some (.inl (r_18_4,true))):Option (((List Int) × Bool) ⊕ (Knj))) >>= fun fl=>match fl with
           | .inl (rest_20,ok_21) =>
            some (.inl (rest_20,ok_21))
           | .inr r =>
            some (.inr r)):Option (((List Int) × Bool) ⊕ (Knj))) >>= fun fl=>match fl with
         | .inl (rest_24,ok_23) =>
          some (.inl (t2.fN,rest_24,ok_23))
         | .inr r =>
          some (.inr r)):Option ((Int × (List Int) × Bool) ⊕ (Knj))) >>= fun fl=>match fl with
       | .inl (most_26,rest_27,ok_28) =>
        ((
         if ok_28=true then
          (idx r_13_5.fneeds 0) >>= fun e_33_6 =>
          (K9e (s0,e_33_6,most_26)) >>= fun r_33_9 =>
          some ((!r_33_9))
         else
          some (true)
        ):Option (Bool)) >>= fun v_30 =>
        if v_30=true then
         (Kno 9) >>= fun r_34_0 =>
         some r_34_0
        else
         (Knm (ctx1.length:Int)) >>= fun r_35_6 =>
         (Knq (s0,r_35_6,t2.fN,a3.fneeds)) >>= fun r_35_11 =>
         (Knq (s0,r_35_11,1,rest_27)) >>= fun r_35_13 =>
         some (Knj.mk r_13_5.fty r_35_13 0 [])
       | .inr r =>
        some r
     else
      (Kno 8) >>= fun r_9_0 =>
      some r_9_0
 partial_fixpoint
def Knw (p:K00 × (List (List Int)) × K01 × Int):Option (Knj) :=
 match p with
 | (s0,ctx1,t2,k3) =>
  (idx t2.fKids k3) >>= fun e_1_5 =>
  (Knu (s0,ctx1,e_1_5)) >>= fun r_1_7 =>
  ((
   if (r_1_7.ffault != 0)=true then
    (Qe5 ([k3].length + r_1_7.fpath.length) 8) >>= fun _ =>
    some (([k3] ++ r_1_7.fpath))
   else
    some (r_1_7.fpath)
  ):Option ((List Int))) >>= fun x_2 =>
  some (Knj.mk r_1_7.fty r_1_7.fneeds r_1_7.ffault x_2)
 partial_fixpoint
def Knx (p:K00 × (List (List Int)) × K01 × Knj):Option (Knj) :=
 match p with
 | (s0,ctx1,t2,a3) =>
  (Knw (s0,ctx1,t2,1)) >>= fun r_1_3 =>
  if (r_1_3.ffault != 0)=true then
   some r_1_3
  else
   if (t2.fOp == 2)=true then
    (idx r_1_3.fty 0) >>= fun e_5_2 =>
    if (e_5_2 != 0)=true then
     (Kno 2) >>= fun r_6_0 =>
     some r_6_0
    else
     (Knq (s0,a3.fneeds,1,r_1_3.fneeds)) >>= fun r_7_7 =>
     some (Knj.mk r_1_3.fty r_7_7 0 [])
   else
    (Knw (s0,ctx1,t2,2)) >>= fun r_8_3 =>
    if (r_8_3.ffault != 0)=true then
     some r_8_3
    else
     (Klb (r_1_3.fty,r_8_3.fty)) >>= fun r_11_4 =>
     if r_11_4=true then
      (Knt (s0,r_1_3.fneeds,r_8_3.fneeds)) >>= fun r_13_10 =>
      (Knq (s0,a3.fneeds,1,r_13_10)) >>= fun r_13_11 =>
      some (Knj.mk r_1_3.fty r_13_11 0 [])
     else
      (Kno 3) >>= fun r_12_0 =>
      some r_12_0
 partial_fixpoint
end
def Kny (p:K01 × Int × (List Int)):Option ((List (List Int))) :=
 match p with
 | (t0,kid1,first2) =>
  if (t0.fOp == 9)=true then
   some [t0.fType]
  else
   (Kmk (t0.fOp,kid1)) >>= fun r_3_3 =>
   if (r_3_3 == 0)=true then
    some []
   else
    (Khw first2) >>= fun r_5_1 =>
    if (t0.fOp == 5)=true then
     (idx r_5_1 1) >>= fun e_8_1 =>
     (idx r_5_1 0) >>= fun e_8_4 =>
     some [e_8_1,e_8_4]
    else
     if (t0.fOp == 8)=true then
      (idx r_5_1 (wr (kid1 - 1))) >>= fun e_10_3 =>
      some [e_10_3]
     else
      some r_5_1
def Knz (n1:Int):Option (Unit) :=
  if (decide (n1 < 0))=true then
   none
  else
   if (decide ((wr (n1 - (wr (0 - 0)))) > 0))=true then
    (chk (0 ≤ (wr (n1 - (wr (0 - 0))))∧(Int.toNat (wr (n1 - (wr (0 - 0))))) * 24 ≤ 140737488355328)) >>= fun _ =>
    some ()
   else
    some ()
def Ko0 (p:(List (List (List Int))) × Int × Int):Option (Int) :=
 match p with
 | (slices0,size_4,w_5) =>
  if (decide (w_5 < (slices0.length:Int)))=true then
   (idx slices0 w_5) >>= fun e_4_0 =>
   ((
    if (decide ((wr (size_4 + (e_4_0.length:Int))) < 0))=true then
     none
    else
     some (())
   ):Option (Unit)) >>= fun () =>
   Ko0 (slices0,(wr (size_4 + (e_4_0.length:Int))),(wr (w_5 + 1)))
  else
   some (size_4)
 partial_fixpoint
def Ko1 (p:(List (List (List Int))) × (List (List Int)) × Int):Option ((List (List Int))) :=
 match p with
 | (slices0,newslice_12,w_13) =>
  if (decide (w_13 < (slices0.length:Int)))=true then
   (idx slices0 w_13) >>= fun e_12_0 =>
   (Qe5 (newslice_12.length + e_12_0.length) 24) >>= fun _ =>
   Ko1 (slices0,(newslice_12 ++ e_12_0),(wr (w_13 + 1)))
  else
   some (newslice_12)
 partial_fixpoint
def Ko2 (slices0:(List (List (List Int)))):Option ((List (List Int))) :=
  (Ko0 (slices0,0,0)) >>= fun size_9 =>
  (Knz size_9) >>= fun _ =>
  (Ko1 (slices0,[],0)) >>= fun newslice_15 =>
  some newslice_15
def Ko3 (p:Knl × K01 × Int × (List Int)):Option (Int) :=
 match p with
 | (p0,t1,kid2,ty3) =>
  (idx ty3 0) >>= fun e_1_1 =>
  (Kgt e_1_1) >>= fun (r_1_3_0,r_1_3_1) =>
  ((
   if (t1.fOp == 2)=true then
    some ((t1.fOp == 2))
   else
    ((
     if (t1.fOp == 3)=true then
      some ((kid2 == 0))
     else
      some (false)
    ):Option (Bool)) >>= fun v_2 =>
    some (v_2)
  ):Option (Bool)) >>= fun j_4 =>
  ((
   if j_4=true then
    some ((0,2))
   else
    ((
     if (t1.fOp == 5)=true then
      some ((kid2 == 0))
     else
      some (false)
    ):Option (Bool)) >>= fun v_7 =>
    ((
     if v_7=true then
      some ((1,4))
     else
      ((
       if (t1.fOp == 8)=true then
        some ((kid2 == 0))
       else
        some (false)
      ):Option (Bool)) >>= fun v_10 =>
      ((
       if v_10=true then
        some ((2,5))
       else
        ((
         if (t1.fOp == 10)=true then
          some ((kid2 == 0))
         else
          some (false)
        ):Option (Bool)) >>= fun v_13 =>
        ((
         if v_13=true then
          some ((3,6))
         else
          ((
           if (t1.fOp == 12)=true then
            some ((kid2 == 0))
           else
            some (false)
          ):Option (Bool)) >>= fun v_16 =>
          ((
           if v_16=true then
            some ((4,7))
           else
            some (((-1),0))
          ):Option (Int × Int)) >>= fun (want_19,fault_20) =>
          some ((want_19,fault_20))
        ):Option (Int × Int)) >>= fun (want_22,fault_23) =>
        some ((want_22,fault_23))
      ):Option (Int × Int)) >>= fun (want_25,fault_26) =>
      some ((want_25,fault_26))
    ):Option (Int × Int)) >>= fun (want_28,fault_29) =>
    some ((want_28,fault_29))
  ):Option (Int × Int)) >>= fun (want_31,fault_32) =>
  ((
   if (decide (want_31 ≥ 0))=true then
    some ((r_1_3_0 != want_31))
   else
    some (false)
  ):Option (Bool)) >>= fun v_34 =>
  if v_34=true then
   some fault_32
  else
   ((
    if (kid2 == 0)=true then
     if (t1.fOp == 5)=true then
      (Kf4 (p0.fs,1,t1.fN)) >>= fun r_16_22 =>
      some ((!r_16_22))
     else
      if (t1.fOp == 8)=true then
       (Kf4 (p0.fs,1,t1.fN)) >>= fun r_16_22 =>
       some ((!r_16_22))
      else
       if (t1.fOp == 12)=true then
        (Kf4 (p0.fs,1,t1.fN)) >>= fun r_16_22 =>
        some ((!r_16_22))
       else
        some (false)
    else
     some (false)
   ):Option (Bool)) >>= fun v_37 =>
   if v_37=true then
    some 8
   else
    some 0
def Ko4 (p:K00 × (List Int) × (List Int) × (List Int) × Int):Option ((List Int)) :=
 match p with
 | (clo1_0,a2,b3,out_2,w_3) =>
  if (decide (w_3 < (a2.length:Int)))=true then
   (idx a2 w_3) >>= fun e_5_5 =>
   (idx b3 w_3) >>= fun e_5_9 =>
   (Key (clo1_0,e_5_5,e_5_9)) >>= fun r_5_11 =>
   (idx out_2 w_3) >>= fun e_5_12 =>
   Ko4 (clo1_0,a2,b3,(List.set out_2 (Int.toNat w_3) r_5_11),(wr (w_3 + 1)))
  else
   some (out_2)
 partial_fixpoint
def Ko5 (p:Knl × K00 × (List Int) × (List Int)):Option ((List Int)) :=
 match p with
 | (p0,clo1_0,a2,b3) =>
  (chk (0 ≤ (a2.length:Int)∧(Int.toNat (a2.length:Int)) * 8 ≤ 140737488355328)) >>= fun _ =>
  (Ko4 (clo1_0,a2,b3,(List.replicate (Int.toNat (a2.length:Int)) 0),0)) >>= fun out_5 =>
  some out_5
def Ko6 (p:Knl × (List Int) × (List Int)):Option ((List Int)) :=
 match p with
 | (p0,a1,b2) =>
  (Ko5 (p0,p0.fs,a1,b2)) >>= fun r_1_6 =>
  some r_1_6
def Ko7 (p:Int × Knk):Option ((List Int)) :=
 match p with
 | (i0,cap0) =>
  (idx cap0.fkids i0) >>= fun e_1_5 =>
  some e_1_5.fty
def Ko8 (p:K00 × (List Int) × (List Int) × (List Int) × Int):Option ((List Int)) :=
 match p with
 | (clo1_0,a2,b3,out_2,w_3) =>
  if (decide (w_3 < (a2.length:Int)))=true then
   (idx a2 w_3) >>= fun e_5_5 =>
   (idx b3 w_3) >>= fun e_5_9 =>
   (Kfk (clo1_0,e_5_5,e_5_9)) >>= fun r_5_11 =>
   (idx out_2 w_3) >>= fun e_5_12 =>
   Ko8 (clo1_0,a2,b3,(List.set out_2 (Int.toNat w_3) r_5_11),(wr (w_3 + 1)))
  else
   some (out_2)
 partial_fixpoint
def Ko9 (p:Knl × K00 × (List Int) × (List Int)):Option ((List Int)) :=
 match p with
 | (p0,clo1_0,a2,b3) =>
  (chk (0 ≤ (a2.length:Int)∧(Int.toNat (a2.length:Int)) * 8 ≤ 140737488355328)) >>= fun _ =>
  (Ko8 (clo1_0,a2,b3,(List.replicate (Int.toNat (a2.length:Int)) 0),0)) >>= fun out_5 =>
  some out_5
def Koa (p:Knl × (List Int) × (List Int)):Option ((List Int)) :=
 match p with
 | (p0,a1,b2) =>
  (Ko9 (p0,p0.fs,a1,b2)) >>= fun r_1_6 =>
  some r_1_6
def Kob (n1:Int):Option (Unit) :=
  if (decide (n1 < 0))=true then
   none
  else
   if (decide ((wr (n1 - (wr (0 - 0)))) > 0))=true then
    (chk (0 ≤ (wr (n1 - (wr (0 - 0))))∧(Int.toNat (wr (n1 - (wr (0 - 0))))) * 8 ≤ 140737488355328)) >>= fun _ =>
    some ()
   else
    some ()
def Koc (p:(List (List Int)) × Int × Int):Option (Int) :=
 match p with
 | (slices0,size_4,w_5) =>
  if (decide (w_5 < (slices0.length:Int)))=true then
   (idx slices0 w_5) >>= fun e_4_0 =>
   ((
    if (decide ((wr (size_4 + (e_4_0.length:Int))) < 0))=true then
     none
    else
     some (())
   ):Option (Unit)) >>= fun () =>
   Koc (slices0,(wr (size_4 + (e_4_0.length:Int))),(wr (w_5 + 1)))
  else
   some (size_4)
 partial_fixpoint
def Kod (p:(List (List Int)) × (List Int) × Int):Option ((List Int)) :=
 match p with
 | (slices0,newslice_12,w_13) =>
  if (decide (w_13 < (slices0.length:Int)))=true then
   (idx slices0 w_13) >>= fun e_12_0 =>
   (Qe5 (newslice_12.length + e_12_0.length) 8) >>= fun _ =>
   Kod (slices0,(newslice_12 ++ e_12_0),(wr (w_13 + 1)))
  else
   some (newslice_12)
 partial_fixpoint
def Koe (slices0:(List (List Int))):Option ((List Int)) :=
  (Koc (slices0,0,0)) >>= fun size_9 =>
  (Kob size_9) >>= fun _ =>
  (Kod (slices0,[],0)) >>= fun newslice_15 =>
  some newslice_15
def Kof (p:Int × Knl × Int):Option (Bool) :=
 match p with
 | (u0,cap0,cap1) =>
  (Kf4 (cap0.fs,u0,cap1)) >>= fun r_1_4 =>
  some (!r_1_4)
def Kog (p:(List Int) × Knl × Int × Int):Option ((Unit) ⊕ (Int)) :=
 match p with
 | (s0,clo1_0,clo1_1,w_3) =>
  if (decide (w_3 < (s0.length:Int)))=true then
   (idx s0 w_3) >>= fun e_4_3 =>
   (Kof (e_4_3,clo1_0,clo1_1)) >>= fun r_4_5 =>
   if r_4_5=true then
    some (.inr w_3)
   else
    Kog (s0,clo1_0,clo1_1,(wr (w_3 + 1)))
  else
   some (.inl ())
 partial_fixpoint
def Koh (p:(List Int) × Knl × Int):Option (Int) :=
 match p with
 | (s0,clo1_0,clo1_1) =>
  (Kog (s0,clo1_0,clo1_1,0)) >>= fun fl=>match fl with
  | .inl () =>
   some (-1)
  | .inr r =>
   some r
def Koi (p:(List Int) × Knl × Int):Option (Bool) :=
 match p with
 | (s0,clo1_0,clo1_1) =>
  (Koh (s0,clo1_0,clo1_1)) >>= fun r_1_2 =>
  some (decide (r_1_2 ≥ 0))
def Koj (p:Knl × (List Int) × Int):Option (Bool) :=
 match p with
 | (p0,l1,g2) =>
  (Koi (l1,p0,g2)) >>= fun r_1_2 =>
  some (!r_1_2)
def Kok (p:Knl × Int × (List Int) × (List Int) × Int):Option ((List Int)) :=
 match p with
 | (p0,g1,l2,out_2,w_3) =>
  if (decide (w_3 < (l2.length:Int)))=true then
   (idx l2 w_3) >>= fun e_4_1 =>
   (Kf1 (p0.fs,g1,e_4_1)) >>= fun r_5_6 =>
   (idx out_2 w_3) >>= fun e_5_7 =>
   Kok (p0,g1,l2,(List.set out_2 (Int.toNat w_3) r_5_6),(wr (w_3 + 1)))
  else
   some (out_2)
 partial_fixpoint
def Kol (p:Knl × Int × (List Int)):Option ((List Int)) :=
 match p with
 | (p0,g1,l2) =>
  (chk (0 ≤ (l2.length:Int)∧(Int.toNat (l2.length:Int)) * 8 ≤ 140737488355328)) >>= fun _ =>
  (Kok (p0,g1,l2,(List.replicate (Int.toNat (l2.length:Int)) 0),0)) >>= fun out_5 =>
  some out_5
def Kom (ty0:(List Int)):Option (Bool) :=
  some (decide ((ty0.length:Int) > 40))
def Kon (p:Knl × Knk × (List (List Int)) × K01 × (List (List Int)) × (List (List Int))):Option (Int × Knk) :=
 match p with
 | (p0,out1,ctx2,t3,needs4,used5) =>
  ((
   if (t3.fOp == 0)=true then
    (idx ctx2 t3.fN) >>= fun e_4_4 =>
    (Kif e_4_4) >>= fun r_4_6 =>
    (idx out1.fneeds t3.fN) >>= fun e_5_6 =>
    some (.inl (r_4_6,(List.set out1.fneeds (Int.toNat t3.fN) 1),out1.fkids,out1.fpath))
   else
    ((
     if (t3.fOp == 1)=true then
      some (.inl ([0],out1.fneeds,out1.fkids,out1.fpath))
     else
      ((
       if (t3.fOp == 2)=true then
        (idx needs4 0) >>= fun e_9_5 =>
        (idx needs4 1) >>= fun e_9_8 =>
        (Ko6 (p0,e_9_5,e_9_8)) >>= fun r_9_10 =>
        some (.inl ([0],r_9_10,out1.fkids,out1.fpath))
       else
        ((
         if (t3.fOp == 3)=true then
          (Ko7 (1,out1)) >>= fun r_11_1 =>
          (Ko7 (2,out1)) >>= fun r_11_3 =>
          (Ki3 (r_11_1,r_11_3)) >>= fun r_11_4 =>
          if r_11_4=true then
           (Ko7 (1,out1)) >>= fun r_13_3 =>
           (idx needs4 0) >>= fun e_13_6 =>
           (idx needs4 1) >>= fun e_13_10 =>
           (idx needs4 2) >>= fun e_13_13 =>
           (Koa (p0,e_13_10,e_13_13)) >>= fun r_13_15 =>
           (Ko6 (p0,e_13_6,r_13_15)) >>= fun r_13_16 =>
           some (.inl (r_13_3,r_13_16))
          else
           some (.inr (3,out1))
         else
          ((
           if (t3.fOp == 4)=true then
            (Ko7 (0,out1)) >>= fun r_15_4 =>
            (Ko7 (1,out1)) >>= fun r_15_6 =>
            (Koe [[1],r_15_4,r_15_6]) >>= fun r_15_8 =>
            (idx needs4 0) >>= fun e_15_11 =>
            (idx needs4 1) >>= fun e_15_14 =>
            (Ko6 (p0,e_15_11,e_15_14)) >>= fun r_15_16 =>
            some (.inl (r_15_8,r_15_16))
           else
            ((
             if (t3.fOp == 5)=true then
              (idx used5 1) >>= fun e_17_2 =>
              (Koj (p0,e_17_2,t3.fN)) >>= fun r_17_6 =>
              if r_17_6=true then
               (Ko7 (1,out1)) >>= fun r_19_3 =>
               (idx needs4 0) >>= fun e_19_9 =>
               (Kol (p0,t3.fN,e_19_9)) >>= fun r_19_11 =>
               (idx needs4 1) >>= fun e_19_13 =>
               (Ko6 (p0,r_19_11,e_19_13)) >>= fun r_19_15 =>
               some (.inl (r_19_3,r_19_15))
              else
               some (.inr (9,out1))
             else
              ((
               if (t3.fOp == 6)=true then
                (Ko7 (0,out1)) >>= fun r_21_4 =>
                (Koe [[2],r_21_4,t3.fType]) >>= fun r_21_8 =>
                (idx needs4 0) >>= fun e_21_10 =>
                some (.inl (r_21_8,e_21_10))
               else
                ((
                 if (t3.fOp == 7)=true then
                  (Ko7 (0,out1)) >>= fun r_23_6 =>
                  (Koe [[2],t3.fType,r_23_6]) >>= fun r_23_8 =>
                  (idx needs4 0) >>= fun e_23_10 =>
                  some (.inl (r_23_8,e_23_10))
                 else
                  ((
                   if (t3.fOp == 8)=true then
                    (Ko7 (1,out1)) >>= fun r_25_1 =>
                    (Ko7 (2,out1)) >>= fun r_25_3 =>
                    (Ki3 (r_25_1,r_25_3)) >>= fun r_25_4 =>
                    if r_25_4=true then
                     ((
                      (idx used5 1) >>= fun e_27_2 =>
                      (Koj (p0,e_27_2,t3.fN)) >>= fun r_27_6 =>
                      if r_27_6=true then
                       (idx used5 2) >>= fun e_27_11 =>
                       (Koj (p0,e_27_11,t3.fN)) >>= fun r_27_15 =>
                       some ((!r_27_15))
                      else
                       some (true)
                     ):Option (Bool)) >>= fun v_13 =>
                     if v_13=true then
                      some (.inr (9,out1))
                     else
                      (Ko7 (1,out1)) >>= fun r_29_3 =>
                      (idx needs4 0) >>= fun e_29_9 =>
                      (Kol (p0,t3.fN,e_29_9)) >>= fun r_29_11 =>
                      (idx needs4 1) >>= fun e_29_14 =>
                      (idx needs4 2) >>= fun e_29_17 =>
                      (Koa (p0,e_29_14,e_29_17)) >>= fun r_29_19 =>
                      (Ko6 (p0,r_29_11,r_29_19)) >>= fun r_29_20 =>
                      some (.inl (r_29_3,r_29_20))
                    else
                     some (.inr (3,out1))
                   else
                    ((
                     if (t3.fOp == 9)=true then
                      (idx used5 0) >>= fun e_31_2 =>
                      (Koj (p0,e_31_2,t3.fN)) >>= fun r_31_6 =>
                      if r_31_6=true then
                       (Ko7 (0,out1)) >>= fun r_33_9 =>
                       (Koe [[(wr (3 + t3.fN))],t3.fType,r_33_9]) >>= fun r_33_11 =>
                       (idx needs4 0) >>= fun e_33_13 =>
                       some (.inl (r_33_11,e_33_13))
                      else
                       some (.inr (9,out1))
                     else
                      ((
                       if (t3.fOp == 10)=true then
                        (Ko7 (0,out1)) >>= fun r_35_1 =>
                        (idx r_35_1 0) >>= fun e_35_2 =>
                        (Kgt e_35_2) >>= fun (r_35_4_0,r_35_4_1) =>
                        (Ko7 (0,out1)) >>= fun r_36_3 =>
                        (Khw r_36_3) >>= fun r_36_4 =>
                        (idx r_36_4 1) >>= fun e_36_5 =>
                        (idx needs4 0) >>= fun e_36_9 =>
                        (idx needs4 1) >>= fun e_36_14 =>
                        (Kol (p0,r_35_4_1,e_36_14)) >>= fun r_36_16 =>
                        (Ko6 (p0,e_36_9,r_36_16)) >>= fun r_36_17 =>
                        some (.inl (e_36_5,r_36_17))
                       else
                        ((
                         if (t3.fOp == 11)=true then
                          (Ko7 (0,out1)) >>= fun r_38_7 =>
                          (Koe [[(wr (19 + t3.fN))],r_38_7]) >>= fun r_38_9 =>
                          (idx needs4 0) >>= fun e_38_14 =>
                          (Kol (p0,t3.fN,e_38_14)) >>= fun r_38_16 =>
                          some (.inl (r_38_9,r_38_16))
                         else
                          ((
                           if (t3.fOp == 12)=true then
                            (Ko7 (0,out1)) >>= fun r_40_1 =>
                            (idx r_40_1 0) >>= fun e_40_2 =>
                            (Kgt e_40_2) >>= fun (r_40_4_0,r_40_4_1) =>
                            (idx used5 1) >>= fun e_41_2 =>
                            (Kf1 (p0.fs,t3.fN,r_40_4_1)) >>= fun r_41_9 =>
                            (Koj (p0,e_41_2,r_41_9)) >>= fun r_41_10 =>
                            if r_41_10=true then
                             (Ko7 (1,out1)) >>= fun r_43_3 =>
                             (idx needs4 0) >>= fun e_43_9 =>
                             (Kol (p0,t3.fN,e_43_9)) >>= fun r_43_11 =>
                             (idx needs4 1) >>= fun e_43_13 =>
                             (Ko6 (p0,r_43_11,e_43_13)) >>= fun r_43_15 =>
                             some (.inl (r_43_3,r_43_15))
                            else
                             some (.inr (9,out1))
                           else
                            some (.inl (out1.fty,out1.fneeds))):Option (((List Int) × (List Int)) ⊕ ((Int × Knk)))) >>= fun fl=>match fl with
                          | .inl (out_22,out_23) =>
                           some (.inl (out_22,out_23))
                          | .inr r =>
                           some (.inr r)):Option (((List Int) × (List Int)) ⊕ ((Int × Knk)))) >>= fun fl=>match fl with
                        | .inl (out_25,out_26) =>
                         some (.inl (out_25,out_26))
                        | .inr r =>
                         some (.inr r)):Option (((List Int) × (List Int)) ⊕ ((Int × Knk)))) >>= fun fl=>match fl with
                      | .inl (out_28,out_29) =>
                       some (.inl (out_28,out_29))
                      | .inr r =>
                       some (.inr r)):Option (((List Int) × (List Int)) ⊕ ((Int × Knk)))) >>= fun fl=>match fl with
                    | .inl (out_31,out_32) =>
                     some (.inl (out_31,out_32))
                    | .inr r =>
                     some (.inr r)):Option (((List Int) × (List Int)) ⊕ ((Int × Knk)))) >>= fun fl=>match fl with
                  | .inl (out_34,out_36) =>
                   some (.inl (out_34,out_36))
                  | .inr r =>
                   some (.inr r)):Option (((List Int) × (List Int)) ⊕ ((Int × Knk)))) >>= fun fl=>match fl with
                | .inl (out_38,out_39) =>
                 some (.inl (out_38,out_39))
                | .inr r =>
                 some (.inr r)):Option (((List Int) × (List Int)) ⊕ ((Int × Knk)))) >>= fun fl=>match fl with
              | .inl (out_41,out_42) =>
               some (.inl (out_41,out_42))
              | .inr r =>
               some (.inr r)):Option (((List Int) × (List Int)) ⊕ ((Int × Knk)))) >>= fun fl=>match fl with
            | .inl (out_44,out_46) =>
             some (.inl (out_44,out_46))
            | .inr r =>
             some (.inr r)):Option (((List Int) × (List Int)) ⊕ ((Int × Knk)))) >>= fun fl=>match fl with
          | .inl (out_48,out_50) =>
           some (.inl (out_48,out_50))
          | .inr r =>
           some (.inr r)):Option (((List Int) × (List Int)) ⊕ ((Int × Knk)))) >>= fun fl=>match fl with
        | .inl (out_52,out_54) =>
         some (.inl (out_52,out_54,out1.fkids,out1.fpath))
        | .inr r =>
         some (.inr r)):Option (((List Int) × (List Int) × (List Knk) × (List Int)) ⊕ ((Int × Knk)))) >>= fun fl=>match fl with
      | .inl (out_57,out_58,out_59,out_60) =>
       some (.inl (out_57,out_58,out_59,out_60))
      | .inr r =>
       some (.inr r)):Option (((List Int) × (List Int) × (List Knk) × (List Int)) ⊕ ((Int × Knk)))) >>= fun fl=>match fl with
    | .inl (out_62,out_63,out_64,out_65) =>
     some (.inl (out_62,out_63,out_64,out_65))
    | .inr r =>
     some (.inr r)):Option (((List Int) × (List Int) × (List Knk) × (List Int)) ⊕ ((Int × Knk)))) >>= fun fl=>match fl with
  | .inl (out_68,out_69,out_70,out_71) =>
   (Kom out_68) >>= fun r_44_4 =>
   if r_44_4=true then
    some (3,(Knk.mk out_68 out_69 out_70 out1.ffault out_71))
   else
    some (0,(Knk.mk out_68 out_69 out_70 out1.ffault out_71))
  | .inr r =>
   some r
mutual
def Koo (p:Knl × (List (List Int)) × K01):Option (Knk) :=
 match p with
 | (p0,ctx1,t2) =>
  (chk (0 ≤ (ctx1.length:Int)∧(Int.toNat (ctx1.length:Int)) * 8 ≤ 140737488355328)) >>= fun _ =>
  (Kop (p0,ctx1,t2,[],[],[],0)) >>= fun fl=>match fl with
  | .inl (out_44,needs_45,used_46) =>
   (Kon (p0,(Knk.mk [] (List.replicate (Int.toNat (ctx1.length:Int)) 0) out_44 0 []),ctx1,t2,needs_45,used_46)) >>= fun (r_24_7,o_24_7_1) =>
   if (r_24_7 != 0)=true then
    some (Knk.mk [] [] [] r_24_7 [])
   else
    some (Knk.mk o_24_7_1.fty o_24_7_1.fneeds o_24_7_1.fkids r_24_7 o_24_7_1.fpath)
  | .inr r =>
   some r
 partial_fixpoint
def Kop (p:Knl × (List (List Int)) × K01 × (List Knk) × (List (List Int)) × (List (List Int)) × Int):Option (((List Knk) × (List (List Int)) × (List (List Int))) ⊕ (Knk)) :=
 match p with
 | (p0,ctx1,t2,out_27,needs_28,used_29,w_12) =>
  if (decide (w_12 < (t2.fKids.length:Int)))=true then
   (idx t2.fKids w_12) >>= fun e_6_1 =>
   ((
    if (decide (w_12 > 0))=true then
     some (true)
    else
     some ((t2.fOp == 9))
   ):Option (Bool)) >>= fun v_31 =>
   ((
    if v_31=true then
     ((
      if (decide (w_12 > 0))=true then
       (idx out_27 0) >>= fun e_11_4 =>
       some (e_11_4.fty)
      else
       some ([])
     ):Option ((List Int))) >>= fun first_35 =>
     (Kny (t2,w_12,first_35)) >>= fun r_12_3 =>
     some (r_12_3)
    else
     some ([])
   ):Option ((List (List Int)))) >>= fun more_37 =>
   (Ko2 [more_37,ctx1]) >>= fun r_13_4 =>
   (Koo (p0,r_13_4,e_6_1)) >>= fun r_13_6 =>
   if (r_13_6.ffault != 0)=true then
    (Qe5 ([w_12].length + r_13_6.fpath.length) 8) >>= fun _ =>
    some (.inr (Knk.mk [] [] [] r_13_6.ffault ([w_12] ++ r_13_6.fpath)))
   else
    (Ko3 (p0,t2,w_12,r_13_6.fty)) >>= fun r_16_7 =>
    if (r_16_7 != 0)=true then
     some (.inr (Knk.mk [] [] [] r_16_7 []))
    else
     ((
      if (t2.fOp == 10)=true then
       if (w_12 == 1)=true then
        (idx out_27 0) >>= fun e_19_16 =>
        (Khw e_19_16.fty) >>= fun r_19_21 =>
        (idx r_19_21 0) >>= fun e_19_22 =>
        (Ki3 (r_13_6.fty,e_19_22)) >>= fun r_19_24 =>
        some ((!r_19_24))
       else
        some (false)
      else
       some (false)
     ):Option (Bool)) >>= fun v_41 =>
     if v_41=true then
      some (.inr (Knk.mk [] [] [] 3 []))
     else
      (Qe5 (out_27.length + [r_13_6].length) 8) >>= fun _ =>
      (cut r_13_6.fneeds none (some (more_37.length:Int)) none) >>= fun c_22_7 =>
      (Qe5 (used_29.length + [c_22_7].length) 24) >>= fun _ =>
      (cut r_13_6.fneeds (some (more_37.length:Int)) none none) >>= fun c_22_17 =>
      (Qe5 (needs_28.length + [c_22_17].length) 24) >>= fun _ =>
      Kop (p0,ctx1,t2,(out_27 ++ [r_13_6]),(needs_28 ++ [c_22_17]),(used_29 ++ [c_22_7]),(wr (w_12 + 1)))
  else
   some (.inl (out_27,needs_28,used_29))
 partial_fixpoint
end
end Go.Am
