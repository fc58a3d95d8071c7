/- Pure functions. -/
import Derived.Test.YtckgdfakjjdodaaGreatGCONF12
set_option linter.unusedVariables false
namespace Go.Am
def Kn7 (p:K02 × Int × Int):Option (Int) :=
 match p with
 | (s0,a1,b2) =>
  (idx s0.fPlus (wr ((wr (a1 * s0.fSize)) + b2))) >>= fun e_1_8 =>
  some e_1_8
def Kn8 (p:K02 × Int × Int):Option (Int) :=
 match p with
 | (s0,a1,b2) =>
  (idx s0.fTimes (wr ((wr (a1 * s0.fSize)) + b2))) >>= fun e_1_8 =>
  some e_1_8
def Kn9 (p:K02 × Int × Int):Option (Bool) :=
 match p with
 | (s0,a1,b2) =>
  (idx s0.fBelow (wr ((wr (a1 * s0.fSize)) + b2))) >>= fun e_1_8 =>
  some e_1_8
def Kna (p:K02 × Int × Int × Int × Bool × Int):Option (Bool) :=
 match p with
 | (s0,a1,b2,g_17,least_25,h_26) =>
  if (decide (h_26 < s0.fSize))=true then
   (
    if least_25=true then
     (Kn9 (s0,a1,h_26)) >>= fun r_9_5 =>
     if r_9_5=true then
      (Kn9 (s0,b2,h_26)) >>= fun r_9_11 =>
      if r_9_11=true then
       (Kn9 (s0,g_17,h_26)) >>= fun r_9_18 =>
       some (r_9_18)
      else
       some (true)
     else
      some (true)
    else
     some (false)
   ) >>= fun least_28 =>
   Kna (s0,a1,b2,g_17,least_28,(wr (h_26 + 1)))
  else
   some (least_25)
 partial_fixpoint
def Knb (p:K02 × Int × Int × Int):Option ((Unit) ⊕ (Int)) :=
 match p with
 | (s0,a1,b2,g_17) =>
  if (decide (g_17 < s0.fSize))=true then
   ((
    (
     (Kn9 (s0,a1,g_17)) >>= fun r_4_3 =>
     if r_4_3=true then
      (Kn9 (s0,b2,g_17)) >>= fun r_4_9 =>
      some ((!r_4_9))
     else
      some (true)
    ) >>= fun v_19 =>
    if v_19=true then
     some (.inl ())
    else
     (Kna (s0,a1,b2,g_17,true,0)) >>= fun least_30 =>
     if least_30=true then
      some (.inr g_17)
     else
      some (.inl ())):Option ((Unit) ⊕ (Int))) >>= fun fl=>match fl with
   | .inl () =>
    Knb (s0,a1,b2,(wr (g_17 + 1)))
   | .inr r =>
    some (.inr r)
  else
   some (.inl ())
 partial_fixpoint
def Knc (p:K02 × Int × Int):Option (Int) :=
 match p with
 | (s0,a1,b2) =>
  (Knb (s0,a1,b2,0)) >>= fun fl=>match fl with
  | .inl () =>
   some (-1)
  | .inr r =>
   some r
mutual
def Knd (p:K00 × (List Int)):Option ((List (List Int))) :=
 match p with
 | (t0,path1) =>
  (Kk5 t0) >>= fun r_2_1 =>
  (
   if r_2_1=true then
    (Kk8 path1) >>= fun r_3_2 =>
    (Qdw (([]:List (List Int)).length + [r_3_2].length) 24) >>= fun _ =>
    some ([r_3_2])
   else
    some ([])
  ) >>= fun out_2 =>
  (Kne (t0,path1,out_2,0)) >>= fun out_8 =>
  some out_8
 partial_fixpoint
def Kne (p:K00 × (List Int) × (List (List Int)) × Int):Option ((List (List Int))) :=
 match p with
 | (t0,path1,out_5,w_6) =>
  if (decide (w_6 < (t0.fKids.length:Int)))=true then
   (idx t0.fKids w_6) >>= fun e_6_1 =>
   (Kk8 path1) >>= fun r_7_3 =>
   (Qdw (r_7_3.length + [w_6].length) 8) >>= fun _ =>
   (Knd (e_6_1,(r_7_3 ++ [w_6]))) >>= fun r_7_7 =>
   (Qdw (out_5.length + r_7_7.length) 24) >>= fun _ =>
   Kne (t0,path1,(out_5 ++ r_7_7),(wr (w_6 + 1)))
  else
   some (out_5)
 partial_fixpoint
end
def Knf (p:(List Int) × (List (List Int)) × Int):Option ((List (List Int))) :=
 match p with
 | (ty0,out_4,at_2) =>
  if (decide (at_2 < (ty0.length:Int)))=true then
   (Kja (ty0,at_2)) >>= fun r_4_2 =>
   (cut ty0 (some at_2) (some r_4_2) (some r_4_2)) >>= fun c_5_5 =>
   (Qdw (out_4.length + [c_5_5].length) 24) >>= fun _ =>
   Knf (ty0,(out_4 ++ [c_5_5]),r_4_2)
  else
   some (out_4)
 partial_fixpoint
def Kng (ty0:(List Int)):Option ((List (List Int))) :=
  (Knf (ty0,[],1)) >>= fun out_6 =>
  some out_6
def Knh (t0:K00):Option ((List (List Int))) :=
  (Kjv t0) >>= fun r_1_1 =>
  if r_1_1=true then
   (Knd (t0,[])) >>= fun r_3_1 =>
   some r_3_1
  else
   some []
mutual
def Kni (p:K00 × (List Int) × K00):Option (K00) :=
 match p with
 | (t0,path1,u2) =>
  if ((path1.length:Int) == 0)=true then
   (Kez (u2,0,0)) >>= fun r_2_1 =>
   some r_2_1
  else
   (Kd3 t0.fType) >>= fun r_3_6 =>
   (Knj (t0,path1,u2,r_3_6,[],0)) >>= fun out_16 =>
   some (K00.mk t0.fOp t0.fN r_3_6 out_16)
 partial_fixpoint
def Knj (p:K00 × (List Int) × K00 × (List Int) × (List K00) × Int):Option ((List K00)) :=
 match p with
 | (t0,path1,u2,r_3_6,out_11,k_6) =>
  if (decide (k_6 < (t0.fKids.length:Int)))=true then
   (idx path1 0) >>= fun e_7_2 =>
   (
    if (k_6 == e_7_2)=true then
     (idx t0.fKids k_6) >>= fun e_8_5 =>
     (cut path1 (some 1) none none) >>= fun c_8_8 =>
     (Kni (e_8_5,c_8_8,u2)) >>= fun r_8_10 =>
     (Qdw (out_11.length + [r_8_10].length) 64) >>= fun _ =>
     some ((out_11 ++ [r_8_10]))
    else
     (idx t0.fKids k_6) >>= fun e_9_5 =>
     (Kez (e_9_5,0,0)) >>= fun r_9_7 =>
     (Qdw (out_11.length + [r_9_7].length) 64) >>= fun _ =>
     some ((out_11 ++ [r_9_7]))
   ) >>= fun out_14 =>
   Knj (t0,path1,u2,r_3_6,out_14,(wr (k_6 + 1)))
  else
   some (out_11)
 partial_fixpoint
end
def Knk (p:K00 × (List Int) × K00):Option (K00 × Bool) :=
 match p with
 | (t0,path1,u2) =>
  (Kn0 (t0,path1)) >>= fun (r_1_2_0,r_1_2_1) =>
  (
   if r_1_2_1=true then
    (Kfw (u2,400)) >>= fun r_2_4 =>
    some ((decide (r_2_4 < 0)))
   else
    some (true)
  ) >>= fun v_1 =>
  if v_1=true then
   some ((K00.mk 0 0 [] []),false)
  else
   (Kni (t0,path1,u2)) >>= fun r_4_3 =>
   (Ki4 r_4_3) >>= fun r_5_1 =>
   if r_5_1=true then
    some (r_4_3,true)
   else
    some ((K00.mk 0 0 [] []),false)
def Knl (t0:K00):Option (K00) :=
  if (t0.fOp == 10)=true then
   (idx t0.fKids 0) >>= fun e_2_2 =>
   (idx e_2_2.fKids 0) >>= fun e_2_5 =>
   some e_2_5
  else
   (
    if (t0.fOp == 8)=true then
     (idx t0.fKids 0) >>= fun e_3_6 =>
     some ((e_3_6.fOp == 7))
    else
     some (false)
   ) >>= fun v_2 =>
   if v_2=true then
    (idx t0.fKids 2) >>= fun e_4_2 =>
    some e_4_2
   else
    (idx t0.fKids 1) >>= fun e_5_2 =>
    some e_5_2
def Knm (t0:K00):Option (Int) :=
  (Kfw (t0,400)) >>= fun r_1_1 =>
  some (wr (400 - r_1_1))
mutual
def Knn (p:K00 × Int):Option (Int) :=
 match p with
 | (t0,i1) =>
  if (t0.fOp == 0)=true then
   if (t0.fN == i1)=true then
    some 1
   else
    some 0
  else
   (Kno (t0,i1,0,0)) >>= fun n_7 =>
   some n_7
 partial_fixpoint
def Kno (p:K00 × Int × Int × Int):Option (Int) :=
 match p with
 | (t0,i1,n_4,k_5) =>
  if (decide (k_5 < (t0.fKids.length:Int)))=true then
   (idx t0.fKids k_5) >>= fun e_9_4 =>
   (Kev (t0.fOp,k_5)) >>= fun r_9_10 =>
   (Knn (e_9_4,(wr (i1 + r_9_10)))) >>= fun r_9_12 =>
   Kno (t0,i1,(wr (n_4 + r_9_12)),(wr (k_5 + 1)))
  else
   some (n_4)
 partial_fixpoint
end
mutual
def Knp (p:K00 × Int × K00 × Int):Option (K00) :=
 match p with
 | (t0,i1,u2,deep3) =>
  (Kd3 t0.fType) >>= fun r_1_6 =>
  ((
   if (t0.fOp == 0)=true then
    if (t0.fN == (wr (i1 + deep3)))=true then
     (Kez (u2,deep3,0)) >>= fun r_4_2 =>
     some (.inr r_4_2)
    else
     (
      if (decide (t0.fN > (wr (i1 + deep3))))=true then
       some ((wr (t0.fN - 1)))
      else
       some (t0.fN)
     ) >>= fun out_4 =>
     some (.inl out_4)
   else
    some (.inl t0.fN)):Option ((Int) ⊕ (K00))) >>= fun fl=>match fl with
  | .inl out_6 =>
   (Knq (t0,i1,u2,deep3,r_1_6,out_6,[],0)) >>= fun out_13 =>
   some (K00.mk t0.fOp out_6 r_1_6 out_13)
  | .inr r =>
   some r
 partial_fixpoint
def Knq (p:K00 × Int × K00 × Int × (List Int) × Int × (List K00) × Int):Option ((List K00)) :=
 match p with
 | (t0,i1,u2,deep3,r_1_6,out_6,out_11,k_9) =>
  if (decide (k_9 < (t0.fKids.length:Int)))=true then
   (idx t0.fKids k_9) >>= fun e_10_5 =>
   (Kev (t0.fOp,k_9)) >>= fun r_10_13 =>
   (Knp (e_10_5,i1,u2,(wr (deep3 + r_10_13)))) >>= fun r_10_15 =>
   (Qdw (out_11.length + [r_10_15].length) 64) >>= fun _ =>
   Knq (t0,i1,u2,deep3,r_1_6,out_6,(out_11 ++ [r_10_15]),(wr (k_9 + 1)))
  else
   some (out_11)
 partial_fixpoint
end
def Knr (t0:K00):Option (K00 × Bool) :=
  (idx t0.fKids 0) >>= fun e_1_2 =>
  if (t0.fOp == 2)=true then
   (idx t0.fKids 1) >>= fun e_4_4 =>
   some ((K00.mk 1 (Int.tmod (wr (e_1_2.fN + e_4_4.fN)) 3) [] []),true)
  else
   if (t0.fOp == 3)=true then
    if (e_1_2.fN == 0)=true then
     (idx t0.fKids 1) >>= fun e_7_2 =>
     (Kez (e_7_2,0,0)) >>= fun r_7_4 =>
     some (r_7_4,true)
    else
     (idx t0.fKids 2) >>= fun e_8_2 =>
     (Kez (e_8_2,0,0)) >>= fun r_8_4 =>
     some (r_8_4,true)
   else
    (Knl t0) >>= fun r_9_1 =>
    if (t0.fOp == 5)=true then
     (Knm r_9_1) >>= fun r_11_1 =>
     (Knn (r_9_1,1)) >>= fun r_11_3 =>
     (idx e_1_2.fKids 0) >>= fun e_11_6 =>
     (Knm e_11_6) >>= fun r_11_8 =>
     (Knn (r_9_1,0)) >>= fun r_11_13 =>
     (idx e_1_2.fKids 1) >>= fun e_11_16 =>
     (Knm e_11_16) >>= fun r_11_18 =>
     if (decide ((wr ((wr (r_11_1 + (wr (r_11_3 * (wr (r_11_8 - 1)))))) + (wr (r_11_13 * (wr (r_11_18 - 1)))))) > 400))=true then
      some ((K00.mk 0 0 [] []),false)
     else
      (idx e_1_2.fKids 1) >>= fun e_14_3 =>
      (Kez (e_14_3,1,0)) >>= fun r_14_5 =>
      (Knp (r_9_1,0,r_14_5,0)) >>= fun r_14_6 =>
      (idx e_1_2.fKids 0) >>= fun e_14_9 =>
      (Knp (r_14_6,0,e_14_9,0)) >>= fun r_14_11 =>
      some (r_14_11,true)
    else
     (
      if (t0.fOp == 10)=true then
       (idx t0.fKids 1) >>= fun e_17_2 =>
       some ((e_17_2.fOp,e_17_2.fN,e_17_2.fType,e_17_2.fKids))
      else
       (idx e_1_2.fKids 0) >>= fun e_18_2 =>
       some ((e_18_2.fOp,e_18_2.fN,e_18_2.fType,e_18_2.fKids))
     ) >>= fun (arg_7,arg_8,arg_9,arg_10) =>
     (Knm r_9_1) >>= fun r_19_1 =>
     (Knn (r_9_1,0)) >>= fun r_19_3 =>
     (Knm (K00.mk arg_7 arg_8 arg_9 arg_10)) >>= fun r_19_5 =>
     if (decide ((wr (r_19_1 + (wr (r_19_3 * (wr (r_19_5 - 1)))))) > 400))=true then
      some ((K00.mk 0 0 [] []),false)
     else
      (Knp (r_9_1,0,(K00.mk arg_7 arg_8 arg_9 arg_10),0)) >>= fun r_21_2 =>
      some (r_21_2,true)
structure Kns where
 fty:List Int
 fneeds:List Int
 fkids:List Kns
 ffault:Int
 fpath:List Int
 deriving Inhabited
structure Knt where
 fs:K02
 deriving Inhabited
def Knu (p:K00 × Int × (List Int)):Option ((List (List Int))) :=
 match p with
 | (t0,kid1,first2) =>
  if (t0.fOp == 9)=true then
   some [t0.fType]
  else
   (Kjg (t0.fOp,kid1)) >>= fun r_3_3 =>
   if (r_3_3 == 0)=true then
    some []
   else
    (Kng first2) >>= fun r_5_1 =>
    if (t0.fOp == 5)=true then
     (idx r_5_1 1) >>= fun e_8_1 =>
     (idx r_5_1 0) >>= fun e_8_4 =>
     some [e_8_1,e_8_4]
    else
     if (t0.fOp == 8)=true then
      (idx r_5_1 (wr (kid1 - 1))) >>= fun e_10_3 =>
      some [e_10_3]
     else
      some r_5_1
def Knv (n1:Int):Option (Unit) :=
  if (decide (n1 < 0))=true then
   none
  else
   if (decide ((wr (n1 - (wr (0 - 0)))) > 0))=true then
    (chk (0 ≤ (wr (n1 - (wr (0 - 0))))∧(Int.toNat (wr (n1 - (wr (0 - 0))))) * 24 ≤ 140737488355328)) >>= fun _ =>
    some ()
   else
    some ()
def Knw (p:(List (List (List Int))) × Int × Int):Option (Int) :=
 match p with
 | (slices0,size_4,w_5) =>
  if (decide (w_5 < (slices0.length:Int)))=true then
   (idx slices0 w_5) >>= fun e_4_0 =>
   ((
    if (decide ((wr (size_4 + (e_4_0.length:Int))) < 0))=true then
     none
    else
     some (())
   ):Option (Unit)) >>= fun () =>
   Knw (slices0,(wr (size_4 + (e_4_0.length:Int))),(wr (w_5 + 1)))
  else
   some (size_4)
 partial_fixpoint
def Knx (p:(List (List (List Int))) × (List (List Int)) × Int):Option ((List (List Int))) :=
 match p with
 | (slices0,newslice_12,w_13) =>
  if (decide (w_13 < (slices0.length:Int)))=true then
   (idx slices0 w_13) >>= fun e_12_0 =>
   (Qdw (newslice_12.length + e_12_0.length) 24) >>= fun _ =>
   Knx (slices0,(newslice_12 ++ e_12_0),(wr (w_13 + 1)))
  else
   some (newslice_12)
 partial_fixpoint
def Kny (slices0:(List (List (List Int)))):Option ((List (List Int))) :=
  (Knw (slices0,0,0)) >>= fun size_9 =>
  (Knv size_9) >>= fun _ =>
  (Knx (slices0,[],0)) >>= fun newslice_15 =>
  some newslice_15
def Knz (p:Knt × K00 × Int × (List Int)):Option (Int) :=
 match p with
 | (p0,t1,kid2,ty3) =>
  (idx ty3 0) >>= fun e_1_1 =>
  (Kj7 e_1_1) >>= fun (r_1_3_0,r_1_3_1) =>
  ((
   if (t1.fOp == 2)=true then
    some ((t1.fOp == 2))
   else
    ((
     if (t1.fOp == 3)=true then
      some ((kid2 == 0))
     else
      some (false)
    ):Option (Bool)) >>= fun v_2 =>
    some (v_2)
  ):Option (Bool)) >>= fun j_4 =>
  ((
   if j_4=true then
    some ((0,2))
   else
    ((
     if (t1.fOp == 5)=true then
      some ((kid2 == 0))
     else
      some (false)
    ):Option (Bool)) >>= fun v_7 =>
    ((
     if v_7=true then
      some ((1,4))
     else
      ((
       if (t1.fOp == 8)=true then
        some ((kid2 == 0))
       else
        some (false)
      ):Option (Bool)) >>= fun v_10 =>
      ((
       if v_10=true then
        some ((2,5))
       else
        ((
         if (t1.fOp == 10)=true then
          some ((kid2 == 0))
         else
          some (false)
        ):Option (Bool)) >>= fun v_13 =>
        ((
         if v_13=true then
          some ((3,6))
         else
          ((
           if (t1.fOp == 12)=true then
            some ((kid2 == 0))
           else
            some (false)
          ):Option (Bool)) >>= fun v_16 =>
          ((
           if v_16=true then
            some ((4,7))
           else
            some (((-1),0))
          ):Option (Int × Int)) >>= fun (want_19,fault_20) =>
          some ((want_19,fault_20))
        ):Option (Int × Int)) >>= fun (want_22,fault_23) =>
        some ((want_22,fault_23))
      ):Option (Int × Int)) >>= fun (want_25,fault_26) =>
      some ((want_25,fault_26))
    ):Option (Int × Int)) >>= fun (want_28,fault_29) =>
    some ((want_28,fault_29))
  ):Option (Int × Int)) >>= fun (want_31,fault_32) =>
  ((
   if (decide (want_31 ≥ 0))=true then
    some ((r_1_3_0 != want_31))
   else
    some (false)
  ):Option (Bool)) >>= fun v_34 =>
  if v_34=true then
   some fault_32
  else
   ((
    if (kid2 == 0)=true then
     if (t1.fOp == 5)=true then
      (Kn9 (p0.fs,1,t1.fN)) >>= fun r_16_22 =>
      some ((!r_16_22))
     else
      if (t1.fOp == 8)=true then
       (Kn9 (p0.fs,1,t1.fN)) >>= fun r_16_22 =>
       some ((!r_16_22))
      else
       if (t1.fOp == 12)=true then
        (Kn9 (p0.fs,1,t1.fN)) >>= fun r_16_22 =>
        some ((!r_16_22))
       else
        some (false)
    else
     some (false)
   ):Option (Bool)) >>= fun v_37 =>
   if v_37=true then
    some 8
   else
    some 0
def Ko0 (p:K02 × (List Int) × (List Int) × (List Int) × Int):Option ((List Int)) :=
 match p with
 | (clo1_0,a2,b3,out_2,w_3) =>
  if (decide (w_3 < (a2.length:Int)))=true then
   (idx a2 w_3) >>= fun e_5_5 =>
   (idx b3 w_3) >>= fun e_5_9 =>
   (Kn7 (clo1_0,e_5_5,e_5_9)) >>= fun r_5_11 =>
   (idx out_2 w_3) >>= fun e_5_12 =>
   Ko0 (clo1_0,a2,b3,(List.set out_2 (Int.toNat w_3) r_5_11),(wr (w_3 + 1)))
  else
   some (out_2)
 partial_fixpoint
def Ko1 (p:Knt × K02 × (List Int) × (List Int)):Option ((List Int)) :=
 match p with
 | (p0,clo1_0,a2,b3) =>
  (chk (0 ≤ (a2.length:Int)∧(Int.toNat (a2.length:Int)) * 8 ≤ 140737488355328)) >>= fun _ =>
  (Ko0 (clo1_0,a2,b3,(List.replicate (Int.toNat (a2.length:Int)) 0),0)) >>= fun out_5 =>
  some out_5
def Ko2 (p:Knt × (List Int) × (List Int)):Option ((List Int)) :=
 match p with
 | (p0,a1,b2) =>
  (Ko1 (p0,p0.fs,a1,b2)) >>= fun r_1_6 =>
  some r_1_6
def Ko3 (p:Int × Kns):Option ((List Int)) :=
 match p with
 | (i0,cap0) =>
  (idx cap0.fkids i0) >>= fun e_1_5 =>
  some e_1_5.fty
def Ko4 (p:K02 × (List Int) × (List Int) × (List Int) × Int):Option ((List Int)) :=
 match p with
 | (clo1_0,a2,b3,out_2,w_3) =>
  if (decide (w_3 < (a2.length:Int)))=true then
   (idx a2 w_3) >>= fun e_5_5 =>
   (idx b3 w_3) >>= fun e_5_9 =>
   (Knc (clo1_0,e_5_5,e_5_9)) >>= fun r_5_11 =>
   (idx out_2 w_3) >>= fun e_5_12 =>
   Ko4 (clo1_0,a2,b3,(List.set out_2 (Int.toNat w_3) r_5_11),(wr (w_3 + 1)))
  else
   some (out_2)
 partial_fixpoint
def Ko5 (p:Knt × K02 × (List Int) × (List Int)):Option ((List Int)) :=
 match p with
 | (p0,clo1_0,a2,b3) =>
  (chk (0 ≤ (a2.length:Int)∧(Int.toNat (a2.length:Int)) * 8 ≤ 140737488355328)) >>= fun _ =>
  (Ko4 (clo1_0,a2,b3,(List.replicate (Int.toNat (a2.length:Int)) 0),0)) >>= fun out_5 =>
  some out_5
def Ko6 (p:Knt × (List Int) × (List Int)):Option ((List Int)) :=
 match p with
 | (p0,a1,b2) =>
  (Ko5 (p0,p0.fs,a1,b2)) >>= fun r_1_6 =>
  some r_1_6
def Ko7 (n1:Int):Option (Unit) :=
  if (decide (n1 < 0))=true then
   none
  else
   if (decide ((wr (n1 - (wr (0 - 0)))) > 0))=true then
    (chk (0 ≤ (wr (n1 - (wr (0 - 0))))∧(Int.toNat (wr (n1 - (wr (0 - 0))))) * 8 ≤ 140737488355328)) >>= fun _ =>
    some ()
   else
    some ()
def Ko8 (p:(List (List Int)) × Int × Int):Option (Int) :=
 match p with
 | (slices0,size_4,w_5) =>
  if (decide (w_5 < (slices0.length:Int)))=true then
   (idx slices0 w_5) >>= fun e_4_0 =>
   ((
    if (decide ((wr (size_4 + (e_4_0.length:Int))) < 0))=true then
     none
    else
     some (())
   ):Option (Unit)) >>= fun () =>
   Ko8 (slices0,(wr (size_4 + (e_4_0.length:Int))),(wr (w_5 + 1)))
  else
   some (size_4)
 partial_fixpoint
def Ko9 (p:(List (List Int)) × (List Int) × Int):Option ((List Int)) :=
 match p with
 | (slices0,newslice_12,w_13) =>
  if (decide (w_13 < (slices0.length:Int)))=true then
   (idx slices0 w_13) >>= fun e_12_0 =>
   (Qdw (newslice_12.length + e_12_0.length) 8) >>= fun _ =>
   Ko9 (slices0,(newslice_12 ++ e_12_0),(wr (w_13 + 1)))
  else
   some (newslice_12)
 partial_fixpoint
def Koa (slices0:(List (List Int))):Option ((List Int)) :=
  (Ko8 (slices0,0,0)) >>= fun size_9 =>
  (Ko7 size_9) >>= fun _ =>
  (Ko9 (slices0,[],0)) >>= fun newslice_15 =>
  some newslice_15
def Kob (p:Int × Knt × Int):Option (Bool) :=
 match p with
 | (u0,cap0,cap1) =>
  (Kn9 (cap0.fs,u0,cap1)) >>= fun r_1_4 =>
  some (!r_1_4)
def Koc (p:(List Int) × Knt × Int × Int):Option ((Unit) ⊕ (Int)) :=
 match p with
 | (s0,clo1_0,clo1_1,w_3) =>
  if (decide (w_3 < (s0.length:Int)))=true then
   (idx s0 w_3) >>= fun e_4_3 =>
   (Kob (e_4_3,clo1_0,clo1_1)) >>= fun r_4_5 =>
   if r_4_5=true then
    some (.inr w_3)
   else
    Koc (s0,clo1_0,clo1_1,(wr (w_3 + 1)))
  else
   some (.inl ())
 partial_fixpoint
def Kod (p:(List Int) × Knt × Int):Option (Int) :=
 match p with
 | (s0,clo1_0,clo1_1) =>
  (Koc (s0,clo1_0,clo1_1,0)) >>= fun fl=>match fl with
  | .inl () =>
   some (-1)
  | .inr r =>
   some r
def Koe (p:(List Int) × Knt × Int):Option (Bool) :=
 match p with
 | (s0,clo1_0,clo1_1) =>
  (Kod (s0,clo1_0,clo1_1)) >>= fun r_1_2 =>
  some (decide (r_1_2 ≥ 0))
def Kof (p:Knt × (List Int) × Int):Option (Bool) :=
 match p with
 | (p0,l1,g2) =>
  (Koe (l1,p0,g2)) >>= fun r_1_2 =>
  some (!r_1_2)
def Kog (p:Knt × Int × (List Int) × (List Int) × Int):Option ((List Int)) :=
 match p with
 | (p0,g1,l2,out_2,w_3) =>
  if (decide (w_3 < (l2.length:Int)))=true then
   (idx l2 w_3) >>= fun e_4_1 =>
   (Kn8 (p0.fs,g1,e_4_1)) >>= fun r_5_6 =>
   (idx out_2 w_3) >>= fun e_5_7 =>
   Kog (p0,g1,l2,(List.set out_2 (Int.toNat w_3) r_5_6),(wr (w_3 + 1)))
  else
   some (out_2)
 partial_fixpoint
def Koh (p:Knt × Int × (List Int)):Option ((List Int)) :=
 match p with
 | (p0,g1,l2) =>
  (chk (0 ≤ (l2.length:Int)∧(Int.toNat (l2.length:Int)) * 8 ≤ 140737488355328)) >>= fun _ =>
  (Kog (p0,g1,l2,(List.replicate (Int.toNat (l2.length:Int)) 0),0)) >>= fun out_5 =>
  some out_5
def Koi (ty0:(List Int)):Option (Bool) :=
  some (decide ((ty0.length:Int) > 40))
def Koj (p:Knt × Kns × (List (List Int)) × K00 × (List (List Int)) × (List (List Int))):Option (Int × Kns) :=
 match p with
 | (p0,out1,ctx2,t3,needs4,used5) =>
  ((
   if (t3.fOp == 0)=true then
    (idx ctx2 t3.fN) >>= fun e_4_4 =>
    (Kk8 e_4_4) >>= fun r_4_6 =>
    (idx out1.fneeds t3.fN) >>= fun e_5_6 =>
    some (.inl (r_4_6,(List.set out1.fneeds (Int.toNat t3.fN) 1),out1.fkids,out1.fpath))
   else
    ((
     if (t3.fOp == 1)=true then
      some (.inl ([0],out1.fneeds,out1.fkids,out1.fpath))
     else
      ((
       if (t3.fOp == 2)=true then
        (idx needs4 0) >>= fun e_9_5 =>
        (idx needs4 1) >>= fun e_9_8 =>
        (Ko2 (p0,e_9_5,e_9_8)) >>= fun r_9_10 =>
        some (.inl ([0],r_9_10,out1.fkids,out1.fpath))
       else
        ((
         if (t3.fOp == 3)=true then
          (Ko3 (1,out1)) >>= fun r_11_1 =>
          (Ko3 (2,out1)) >>= fun r_11_3 =>
          (Kmf (r_11_1,r_11_3)) >>= fun r_11_4 =>
          if r_11_4=true then
           (Ko3 (1,out1)) >>= fun r_13_3 =>
           (idx needs4 0) >>= fun e_13_6 =>
           (idx needs4 1) >>= fun e_13_10 =>
           (idx needs4 2) >>= fun e_13_13 =>
           (Ko6 (p0,e_13_10,e_13_13)) >>= fun r_13_15 =>
           (Ko2 (p0,e_13_6,r_13_15)) >>= fun r_13_16 =>
           some (.inl (r_13_3,r_13_16))
          else
           some (.inr (3,out1))
         else
          ((
           if (t3.fOp == 4)=true then
            (Ko3 (0,out1)) >>= fun r_15_4 =>
            (Ko3 (1,out1)) >>= fun r_15_6 =>
            (Koa [[1],r_15_4,r_15_6]) >>= fun r_15_8 =>
            (idx needs4 0) >>= fun e_15_11 =>
            (idx needs4 1) >>= fun e_15_14 =>
            (Ko2 (p0,e_15_11,e_15_14)) >>= fun r_15_16 =>
            some (.inl (r_15_8,r_15_16))
           else
            ((
             if (t3.fOp == 5)=true then
              (idx used5 1) >>= fun e_17_2 =>
              (Kof (p0,e_17_2,t3.fN)) >>= fun r_17_6 =>
              if r_17_6=true then
               (Ko3 (1,out1)) >>= fun r_19_3 =>
               (idx needs4 0) >>= fun e_19_9 =>
               (Koh (p0,t3.fN,e_19_9)) >>= fun r_19_11 =>
               (idx needs4 1) >>= fun e_19_13 =>
               (Ko2 (p0,r_19_11,e_19_13)) >>= fun r_19_15 =>
               some (.inl (r_19_3,r_19_15))
              else
               some (.inr (9,out1))
             else
              ((
               if (t3.fOp == 6)=true then
                (Ko3 (0,out1)) >>= fun r_21_4 =>
                (Koa [[2],r_21_4,t3.fType]) >>= fun r_21_8 =>
                (idx needs4 0) >>= fun e_21_10 =>
                some (.inl (r_21_8,e_21_10))
               else
                ((
                 if (t3.fOp == 7)=true then
                  (Ko3 (0,out1)) >>= fun r_23_6 =>
                  (Koa [[2],t3.fType,r_23_6]) >>= fun r_23_8 =>
                  (idx needs4 0) >>= fun e_23_10 =>
                  some (.inl (r_23_8,e_23_10))
                 else
                  ((
                   if (t3.fOp == 8)=true then
                    (Ko3 (1,out1)) >>= fun r_25_1 =>
                    (Ko3 (2,out1)) >>= fun r_25_3 =>
                    (Kmf (r_25_1,r_25_3)) >>= fun r_25_4 =>
                    if r_25_4=true then
                     ((
                      (idx used5 1) >>= fun e_27_2 =>
                      (Kof (p0,e_27_2,t3.fN)) >>= fun r_27_6 =>
                      if r_27_6=true then
                       (idx used5 2) >>= fun e_27_11 =>
                       (Kof (p0,e_27_11,t3.fN)) >>= fun r_27_15 =>
                       some ((!r_27_15))
                      else
                       some (true)
                     ):Option (Bool)) >>= fun v_13 =>
                     if v_13=true then
                      some (.inr (9,out1))
                     else
                      (Ko3 (1,out1)) >>= fun r_29_3 =>
                      (idx needs4 0) >>= fun e_29_9 =>
                      (Koh (p0,t3.fN,e_29_9)) >>= fun r_29_11 =>
                      (idx needs4 1) >>= fun e_29_14 =>
                      (idx needs4 2) >>= fun e_29_17 =>
                      (Ko6 (p0,e_29_14,e_29_17)) >>= fun r_29_19 =>
                      (Ko2 (p0,r_29_11,r_29_19)) >>= fun r_29_20 =>
                      some (.inl (r_29_3,r_29_20))
                    else
                     some (.inr (3,out1))
                   else
                    ((
                     if (t3.fOp == 9)=true then
                      (idx used5 0) >>= fun e_31_2 =>
                      (Kof (p0,e_31_2,t3.fN)) >>= fun r_31_6 =>
                      if r_31_6=true then
                       (Ko3 (0,out1)) >>= fun r_33_9 =>
                       (Koa [[(wr (3 + t3.fN))],t3.fType,r_33_9]) >>= fun r_33_11 =>
                       (idx needs4 0) >>= fun e_33_13 =>
                       some (.inl (r_33_11,e_33_13))
                      else
                       some (.inr (9,out1))
                     else
                      ((
                       if (t3.fOp == 10)=true then
                        (Ko3 (0,out1)) >>= fun r_35_1 =>
                        (idx r_35_1 0) >>= fun e_35_2 =>
                        (Kj7 e_35_2) >>= fun (r_35_4_0,r_35_4_1) =>
                        (Ko3 (0,out1)) >>= fun r_36_3 =>
                        (Kng r_36_3) >>= fun r_36_4 =>
                        (idx r_36_4 1) >>= fun e_36_5 =>
                        (idx needs4 0) >>= fun e_36_9 =>
                        (idx needs4 1) >>= fun e_36_14 =>
                        (Koh (p0,r_35_4_1,e_36_14)) >>= fun r_36_16 =>
                        (Ko2 (p0,e_36_9,r_36_16)) >>= fun r_36_17 =>
                        some (.inl (e_36_5,r_36_17))
                       else
                        ((
                         if (t3.fOp == 11)=true then
                          (Ko3 (0,out1)) >>= fun r_38_7 =>
                          (Koa [[(wr (19 + t3.fN))],r_38_7]) >>= fun r_38_9 =>
                          (idx needs4 0) >>= fun e_38_14 =>
                          (Koh (p0,t3.fN,e_38_14)) >>= fun r_38_16 =>
                          some (.inl (r_38_9,r_38_16))
                         else
                          ((
                           if (t3.fOp == 12)=true then
                            (Ko3 (0,out1)) >>= fun r_40_1 =>
                            (idx r_40_1 0) >>= fun e_40_2 =>
                            (Kj7 e_40_2) >>= fun (r_40_4_0,r_40_4_1) =>
                            (idx used5 1) >>= fun e_41_2 =>
                            (Kn8 (p0.fs,t3.fN,r_40_4_1)) >>= fun r_41_9 =>
                            (Kof (p0,e_41_2,r_41_9)) >>= fun r_41_10 =>
                            if r_41_10=true then
                             (Ko3 (1,out1)) >>= fun r_43_3 =>
                             (idx needs4 0) >>= fun e_43_9 =>
                             (Koh (p0,t3.fN,e_43_9)) >>= fun r_43_11 =>
                             (idx needs4 1) >>= fun e_43_13 =>
                             (Ko2 (p0,r_43_11,e_43_13)) >>= fun r_43_15 =>
                             some (.inl (r_43_3,r_43_15))
                            else
                             some (.inr (9,out1))
                           else
                            some (.inl (out1.fty,out1.fneeds))):Option (((List Int) × (List Int)) ⊕ ((Int × Kns)))) >>= fun fl=>match fl with
                          | .inl (out_22,out_23) =>
                           some (.inl (out_22,out_23))
                          | .inr r =>
                           some (.inr r)):Option (((List Int) × (List Int)) ⊕ ((Int × Kns)))) >>= fun fl=>match fl with
                        | .inl (out_25,out_26) =>
                         some (.inl (out_25,out_26))
                        | .inr r =>
                         some (.inr r)):Option (((List Int) × (List Int)) ⊕ ((Int × Kns)))) >>= fun fl=>match fl with
                      | .inl (out_28,out_29) =>
                       some (.inl (out_28,out_29))
                      | .inr r =>
                       some (.inr r)):Option (((List Int) × (List Int)) ⊕ ((Int × Kns)))) >>= fun fl=>match fl with
                    | .inl (out_31,out_32) =>
                     some (.inl (out_31,out_32))
                    | .inr r =>
                     some (.inr r)):Option (((List Int) × (List Int)) ⊕ ((Int × Kns)))) >>= fun fl=>match fl with
                  | .inl (out_34,out_36) =>
                   some (.inl (out_34,out_36))
                  | .inr r =>
                   some (.inr r)):Option (((List Int) × (List Int)) ⊕ ((Int × Kns)))) >>= fun fl=>match fl with
                | .inl (out_38,out_39) =>
                 some (.inl (out_38,out_39))
                | .inr r =>
                 some (.inr r)):Option (((List Int) × (List Int)) ⊕ ((Int × Kns)))) >>= fun fl=>match fl with
              | .inl (out_41,out_42) =>
               some (.inl (out_41,out_42))
              | .inr r =>
               some (.inr r)):Option (((List Int) × (List Int)) ⊕ ((Int × Kns)))) >>= fun fl=>match fl with
            | .inl (out_44,out_46) =>
             some (.inl (out_44,out_46))
            | .inr r =>
             some (.inr r)):Option (((List Int) × (List Int)) ⊕ ((Int × Kns)))) >>= fun fl=>match fl with
          | .inl (out_48,out_50) =>
           some (.inl (out_48,out_50))
          | .inr r =>
           some (.inr r)):Option (((List Int) × (List Int)) ⊕ ((Int × Kns)))) >>= fun fl=>match fl with
        | .inl (out_52,out_54) =>
         some (.inl (out_52,out_54,out1.fkids,out1.fpath))
        | .inr r =>
         some (.inr r)):Option (((List Int) × (List Int) × (List Kns) × (List Int)) ⊕ ((Int × Kns)))) >>= fun fl=>match fl with
      | .inl (out_57,out_58,out_59,out_60) =>
       some (.inl (out_57,out_58,out_59,out_60))
      | .inr r =>
       some (.inr r)):Option (((List Int) × (List Int) × (List Kns) × (List Int)) ⊕ ((Int × Kns)))) >>= fun fl=>match fl with
    | .inl (out_62,out_63,out_64,out_65) =>
     some (.inl (out_62,out_63,out_64,out_65))
    | .inr r =>
     some (.inr r)):Option (((List Int) × (List Int) × (List Kns) × (List Int)) ⊕ ((Int × Kns)))) >>= fun fl=>match fl with
  | .inl (out_68,out_69,out_70,out_71) =>
   (Koi out_68) >>= fun r_44_4 =>
   if r_44_4=true then
    some (3,(Kns.mk out_68 out_69 out_70 out1.ffault out_71))
   else
    some (0,(Kns.mk out_68 out_69 out_70 out1.ffault out_71))
  | .inr r =>
   some r
mutual
def Kok (p:Knt × (List (List Int)) × K00):Option (Kns) :=
 match p with
 | (p0,ctx1,t2) =>
  (chk (0 ≤ (ctx1.length:Int)∧(Int.toNat (ctx1.length:Int)) * 8 ≤ 140737488355328)) >>= fun _ =>
  (Kol (p0,ctx1,t2,[],[],[],0)) >>= fun fl=>match fl with
  | .inl (out_44,needs_45,used_46) =>
   (Koj (p0,(Kns.mk [] (List.replicate (Int.toNat (ctx1.length:Int)) 0) out_44 0 []),ctx1,t2,needs_45,used_46)) >>= fun (r_24_7,o_24_7_1) =>
   if (r_24_7 != 0)=true then
    some (Kns.mk [] [] [] r_24_7 [])
   else
    some (Kns.mk o_24_7_1.fty o_24_7_1.fneeds o_24_7_1.fkids r_24_7 o_24_7_1.fpath)
  | .inr r =>
   some r
 partial_fixpoint
def Kol (p:Knt × (List (List Int)) × K00 × (List Kns) × (List (List Int)) × (List (List Int)) × Int):Option (((List Kns) × (List (List Int)) × (List (List Int))) ⊕ (Kns)) :=
 match p with
 | (p0,ctx1,t2,out_27,needs_28,used_29,w_12) =>
  if (decide (w_12 < (t2.fKids.length:Int)))=true then
   (idx t2.fKids w_12) >>= fun e_6_1 =>
   ((
    if (decide (w_12 > 0))=true then
     some (true)
    else
     some ((t2.fOp == 9))
   ):Option (Bool)) >>= fun v_31 =>
   ((
    if v_31=true then
     ((
      if (decide (w_12 > 0))=true then
       (idx out_27 0) >>= fun e_11_4 =>
       some (e_11_4.fty)
      else
       some ([])
     ):Option ((List Int))) >>= fun first_35 =>
     (Knu (t2,w_12,first_35)) >>= fun r_12_3 =>
     some (r_12_3)
    else
     some ([])
   ):Option ((List (List Int)))) >>= fun more_37 =>
   (Kny [more_37,ctx1]) >>= fun r_13_4 =>
   (Kok (p0,r_13_4,e_6_1)) >>= fun r_13_6 =>
   if (r_13_6.ffault != 0)=true then
    (Qdw ([w_12].length + r_13_6.fpath.length) 8) >>= fun _ =>
    some (.inr (Kns.mk [] [] [] r_13_6.ffault ([w_12] ++ r_13_6.fpath)))
   else
    (Knz (p0,t2,w_12,r_13_6.fty)) >>= fun r_16_7 =>
    if (r_16_7 != 0)=true then
     some (.inr (Kns.mk [] [] [] r_16_7 []))
    else
     ((
      if (t2.fOp == 10)=true then
       if (w_12 == 1)=true then
        (idx out_27 0) >>= fun e_19_16 =>
        (Kng e_19_16.fty) >>= fun r_19_21 =>
        (idx r_19_21 0) >>= fun e_19_22 =>
        (Kmf (r_13_6.fty,e_19_22)) >>= fun r_19_24 =>
        some ((!r_19_24))
       else
        some (false)
      else
       some (false)
     ):Option (Bool)) >>= fun v_41 =>
     if v_41=true then
      some (.inr (Kns.mk [] [] [] 3 []))
     else
      (Qdw (out_27.length + [r_13_6].length) 8) >>= fun _ =>
      (cut r_13_6.fneeds none (some (more_37.length:Int)) none) >>= fun c_22_7 =>
      (Qdw (used_29.length + [c_22_7].length) 24) >>= fun _ =>
      (cut r_13_6.fneeds (some (more_37.length:Int)) none none) >>= fun c_22_17 =>
      (Qdw (needs_28.length + [c_22_17].length) 24) >>= fun _ =>
      Kol (p0,ctx1,t2,(out_27 ++ [r_13_6]),(needs_28 ++ [c_22_17]),(used_29 ++ [c_22_7]),(wr (w_12 + 1)))
  else
   some (.inl (out_27,needs_28,used_29))
 partial_fixpoint
end
end Go.Am
