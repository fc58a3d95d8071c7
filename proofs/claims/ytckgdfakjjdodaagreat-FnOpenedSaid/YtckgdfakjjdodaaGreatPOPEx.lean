/- Pure functions. -/
import Derived.Test.YtckgdfakjjdodaaGreatGOPEF10
set_option linter.unusedVariables false
namespace Go.Am
def Klc (p:K02 × Int × Int):Option (Int) :=
 match p with
 | (s0,a1,b2) =>
  (idx s0.fPlus (wr ((wr (a1 * s0.fSize)) + b2))) >>= fun e_1_8 =>
  some e_1_8
def Kld (p:K02 × Int × Int):Option (Int) :=
 match p with
 | (s0,a1,b2) =>
  (idx s0.fTimes (wr ((wr (a1 * s0.fSize)) + b2))) >>= fun e_1_8 =>
  some e_1_8
def Kle (p:K02 × Int × Int):Option (Bool) :=
 match p with
 | (s0,a1,b2) =>
  (idx s0.fBelow (wr ((wr (a1 * s0.fSize)) + b2))) >>= fun e_1_8 =>
  some e_1_8
def Klf (p:K02 × Int × Int × Int × Bool × Int):Option (Bool) :=
 match p with
 | (s0,a1,b2,g_17,least_25,h_26) =>
  if (decide (h_26 < s0.fSize))=true then
   (
    if least_25=true then
     (Kle (s0,a1,h_26)) >>= fun r_9_5 =>
     if r_9_5=true then
      (Kle (s0,b2,h_26)) >>= fun r_9_11 =>
      if r_9_11=true then
       (Kle (s0,g_17,h_26)) >>= fun r_9_18 =>
       some (r_9_18)
      else
       some (true)
     else
      some (true)
    else
     some (false)
   ) >>= fun least_28 =>
   Klf (s0,a1,b2,g_17,least_28,(wr (h_26 + 1)))
  else
   some (least_25)
 partial_fixpoint
def Klg (p:K02 × Int × Int × Int):Option ((Unit) ⊕ (Int)) :=
 match p with
 | (s0,a1,b2,g_17) =>
  if (decide (g_17 < s0.fSize))=true then
   ((
    (
     (Kle (s0,a1,g_17)) >>= fun r_4_3 =>
     if r_4_3=true then
      (Kle (s0,b2,g_17)) >>= fun r_4_9 =>
      some ((!r_4_9))
     else
      some (true)
    ) >>= fun v_19 =>
    if v_19=true then
     some (.inl ())
    else
     (Klf (s0,a1,b2,g_17,true,0)) >>= fun least_30 =>
     if least_30=true then
      some (.inr g_17)
     else
      some (.inl ())):Option ((Unit) ⊕ (Int))) >>= fun fl=>match fl with
   | .inl () =>
    Klg (s0,a1,b2,(wr (g_17 + 1)))
   | .inr r =>
    some (.inr r)
  else
   some (.inl ())
 partial_fixpoint
def Klh (p:K02 × Int × Int):Option (Int) :=
 match p with
 | (s0,a1,b2) =>
  (Klg (s0,a1,b2,0)) >>= fun fl=>match fl with
  | .inl () =>
   some (-1)
  | .inr r =>
   some r
def Kli (p:(List Int) × (List (List Int)) × Int):Option ((List (List Int))) :=
 match p with
 | (ty0,out_4,at_2) =>
  if (decide (at_2 < (ty0.length:Int)))=true then
   (Kh2 (ty0,at_2)) >>= fun r_4_2 =>
   (cut ty0 (some at_2) (some r_4_2) (some r_4_2)) >>= fun c_5_5 =>
   (Qdw (out_4.length + [c_5_5].length) 24) >>= fun _ =>
   Kli (ty0,(out_4 ++ [c_5_5]),r_4_2)
  else
   some (out_4)
 partial_fixpoint
def Klj (ty0:(List Int)):Option ((List (List Int))) :=
  (Kli (ty0,[],1)) >>= fun out_6 =>
  some out_6
def Klk (p:K00 × Int × (List Int) × Int):Option ((List Int)) :=
 match p with
 | (t0,out_5,out_20,i_13) =>
  if (decide (i_13 < (t0.fType.length:Int)))=true then
   (idx t0.fType i_13) >>= fun e_9_3 =>
   (
    (Kc7 e_9_3) >>= fun r_10_1 =>
    if (decide (r_10_1 > 0))=true then
     some ((decide (e_9_3 > 2)))
    else
     some (false)
   ) >>= fun v_22 =>
   (
    if v_22=true then
     (Kc1 e_9_3) >>= fun r_11_1 =>
     (Kfu (r_11_1,(-1))) >>= fun r_11_2 =>
     some (r_11_2)
    else
     some (e_9_3)
   ) >>= fun c_25 =>
   (Qdw (out_20.length + [c_25].length) 8) >>= fun _ =>
   Klk (t0,out_5,(out_20 ++ [c_25]),(wr (i_13 + 1)))
  else
   some (out_20)
 partial_fixpoint
mutual
def Kll (t0:K00):Option (K00) :=
  (Kfr t0.fOp) >>= fun r_2_2 =>
  (
   if r_2_2=true then
    some ((-1))
   else
    some (t0.fN)
  ) >>= fun out_2 =>
  (
   if (t0.fOp == 12)=true then
    some (1)
   else
    some (out_2)
  ) >>= fun out_5 =>
  (Klk (t0,out_5,[],0)) >>= fun out_27 =>
  (Klm (t0,out_5,out_27,[],0)) >>= fun out_34 =>
  some (K00.mk t0.fOp out_5 out_27 out_34)
 partial_fixpoint
def Klm (p:K00 × Int × (List Int) × (List K00) × Int):Option ((List K00)) :=
 match p with
 | (t0,out_5,out_27,out_32,k_30) =>
  if (decide (k_30 < (t0.fKids.length:Int)))=true then
   (idx t0.fKids k_30) >>= fun e_16_5 =>
   (Kll e_16_5) >>= fun r_16_7 =>
   (Qdw (out_32.length + [r_16_7].length) 64) >>= fun _ =>
   Klm (t0,out_5,out_27,(out_32 ++ [r_16_7]),(wr (k_30 + 1)))
  else
   some (out_32)
 partial_fixpoint
end
def Kln (t0:K00):Option (K00 × Bool) :=
  (Kl2 t0) >>= fun r_1_1 =>
  if r_1_1=true then
   (Kll t0) >>= fun r_3_1 =>
   some (r_3_1,true)
  else
   some ((K00.mk 0 0 [] []),false)
structure Klo where
 fty:List Int
 fneeds:List Int
 fkids:List Klo
 ffault:Int
 fpath:List Int
 deriving Inhabited
structure Klp where
 fs:K02
 deriving Inhabited
def Klq (p:K00 × Int × (List Int)):Option ((List (List Int))) :=
 match p with
 | (t0,kid1,first2) =>
  if (t0.fOp == 9)=true then
   some [t0.fType]
  else
   (Kh8 (t0.fOp,kid1)) >>= fun r_3_3 =>
   if (r_3_3 == 0)=true then
    some []
   else
    (Klj first2) >>= fun r_5_1 =>
    if (t0.fOp == 5)=true then
     (idx r_5_1 1) >>= fun e_8_1 =>
     (idx r_5_1 0) >>= fun e_8_4 =>
     some [e_8_1,e_8_4]
    else
     if (t0.fOp == 8)=true then
      (idx r_5_1 (wr (kid1 - 1))) >>= fun e_10_3 =>
      some [e_10_3]
     else
      some r_5_1
def Klr (n1:Int):Option (Unit) :=
  if (decide (n1 < 0))=true then
   none
  else
   if (decide ((wr (n1 - (wr (0 - 0)))) > 0))=true then
    (chk (0 ≤ (wr (n1 - (wr (0 - 0))))∧(Int.toNat (wr (n1 - (wr (0 - 0))))) * 24 ≤ 140737488355328)) >>= fun _ =>
    some ()
   else
    some ()
def Kls (p:(List (List (List Int))) × Int × Int):Option (Int) :=
 match p with
 | (slices0,size_4,w_5) =>
  if (decide (w_5 < (slices0.length:Int)))=true then
   (idx slices0 w_5) >>= fun e_4_0 =>
   ((
    if (decide ((wr (size_4 + (e_4_0.length:Int))) < 0))=true then
     none
    else
     some (())
   ):Option (Unit)) >>= fun () =>
   Kls (slices0,(wr (size_4 + (e_4_0.length:Int))),(wr (w_5 + 1)))
  else
   some (size_4)
 partial_fixpoint
def Klt (p:(List (List (List Int))) × (List (List Int)) × Int):Option ((List (List Int))) :=
 match p with
 | (slices0,newslice_12,w_13) =>
  if (decide (w_13 < (slices0.length:Int)))=true then
   (idx slices0 w_13) >>= fun e_12_0 =>
   (Qdw (newslice_12.length + e_12_0.length) 24) >>= fun _ =>
   Klt (slices0,(newslice_12 ++ e_12_0),(wr (w_13 + 1)))
  else
   some (newslice_12)
 partial_fixpoint
def Klu (slices0:(List (List (List Int)))):Option ((List (List Int))) :=
  (Kls (slices0,0,0)) >>= fun size_9 =>
  (Klr size_9) >>= fun _ =>
  (Klt (slices0,[],0)) >>= fun newslice_15 =>
  some newslice_15
def Klv (p:Klp × K00 × Int × (List Int)):Option (Int) :=
 match p with
 | (p0,t1,kid2,ty3) =>
  (idx ty3 0) >>= fun e_1_1 =>
  (Kgz e_1_1) >>= fun (r_1_3_0,r_1_3_1) =>
  ((
   if (t1.fOp == 2)=true then
    some ((t1.fOp == 2))
   else
    ((
     if (t1.fOp == 3)=true then
      some ((kid2 == 0))
     else
      some (false)
    ):Option (Bool)) >>= fun v_2 =>
    some (v_2)
  ):Option (Bool)) >>= fun j_4 =>
  ((
   if j_4=true then
    some ((0,2))
   else
    ((
     if (t1.fOp == 5)=true then
      some ((kid2 == 0))
     else
      some (false)
    ):Option (Bool)) >>= fun v_7 =>
    ((
     if v_7=true then
      some ((1,4))
     else
      ((
       if (t1.fOp == 8)=true then
        some ((kid2 == 0))
       else
        some (false)
      ):Option (Bool)) >>= fun v_10 =>
      ((
       if v_10=true then
        some ((2,5))
       else
        ((
         if (t1.fOp == 10)=true then
          some ((kid2 == 0))
         else
          some (false)
        ):Option (Bool)) >>= fun v_13 =>
        ((
         if v_13=true then
          some ((3,6))
         else
          ((
           if (t1.fOp == 12)=true then
            some ((kid2 == 0))
           else
            some (false)
          ):Option (Bool)) >>= fun v_16 =>
          ((
           if v_16=true then
            some ((4,7))
           else
            some (((-1),0))
          ):Option (Int × Int)) >>= fun (want_19,fault_20) =>
          some ((want_19,fault_20))
        ):Option (Int × Int)) >>= fun (want_22,fault_23) =>
        some ((want_22,fault_23))
      ):Option (Int × Int)) >>= fun (want_25,fault_26) =>
      some ((want_25,fault_26))
    ):Option (Int × Int)) >>= fun (want_28,fault_29) =>
    some ((want_28,fault_29))
  ):Option (Int × Int)) >>= fun (want_31,fault_32) =>
  ((
   if (decide (want_31 ≥ 0))=true then
    some ((r_1_3_0 != want_31))
   else
    some (false)
  ):Option (Bool)) >>= fun v_34 =>
  if v_34=true then
   some fault_32
  else
   ((
    if (kid2 == 0)=true then
     if (t1.fOp == 5)=true then
      (Kle (p0.fs,1,t1.fN)) >>= fun r_16_22 =>
      some ((!r_16_22))
     else
      if (t1.fOp == 8)=true then
       (Kle (p0.fs,1,t1.fN)) >>= fun r_16_22 =>
       some ((!r_16_22))
      else
       if (t1.fOp == 12)=true then
        (Kle (p0.fs,1,t1.fN)) >>= fun r_16_22 =>
        some ((!r_16_22))
       else
        some (false)
    else
     some (false)
   ):Option (Bool)) >>= fun v_37 =>
   if v_37=true then
    some 8
   else
    some 0
def Klw (p:K02 × (List Int) × (List Int) × (List Int) × Int):Option ((List Int)) :=
 match p with
 | (clo1_0,a2,b3,out_2,w_3) =>
  if (decide (w_3 < (a2.length:Int)))=true then
   (idx a2 w_3) >>= fun e_5_5 =>
   (idx b3 w_3) >>= fun e_5_9 =>
   (Klc (clo1_0,e_5_5,e_5_9)) >>= fun r_5_11 =>
   (idx out_2 w_3) >>= fun e_5_12 =>
   Klw (clo1_0,a2,b3,(List.set out_2 (Int.toNat w_3) r_5_11),(wr (w_3 + 1)))
  else
   some (out_2)
 partial_fixpoint
def Klx (p:Klp × K02 × (List Int) × (List Int)):Option ((List Int)) :=
 match p with
 | (p0,clo1_0,a2,b3) =>
  (chk (0 ≤ (a2.length:Int)∧(Int.toNat (a2.length:Int)) * 8 ≤ 140737488355328)) >>= fun _ =>
  (Klw (clo1_0,a2,b3,(List.replicate (Int.toNat (a2.length:Int)) 0),0)) >>= fun out_5 =>
  some out_5
def Kly (p:Klp × (List Int) × (List Int)):Option ((List Int)) :=
 match p with
 | (p0,a1,b2) =>
  (Klx (p0,p0.fs,a1,b2)) >>= fun r_1_6 =>
  some r_1_6
def Klz (p:Int × Klo):Option ((List Int)) :=
 match p with
 | (i0,cap0) =>
  (idx cap0.fkids i0) >>= fun e_1_5 =>
  some e_1_5.fty
def Km0 (p:K02 × (List Int) × (List Int) × (List Int) × Int):Option ((List Int)) :=
 match p with
 | (clo1_0,a2,b3,out_2,w_3) =>
  if (decide (w_3 < (a2.length:Int)))=true then
   (idx a2 w_3) >>= fun e_5_5 =>
   (idx b3 w_3) >>= fun e_5_9 =>
   (Klh (clo1_0,e_5_5,e_5_9)) >>= fun r_5_11 =>
   (idx out_2 w_3) >>= fun e_5_12 =>
   Km0 (clo1_0,a2,b3,(List.set out_2 (Int.toNat w_3) r_5_11),(wr (w_3 + 1)))
  else
   some (out_2)
 partial_fixpoint
def Km1 (p:Klp × K02 × (List Int) × (List Int)):Option ((List Int)) :=
 match p with
 | (p0,clo1_0,a2,b3) =>
  (chk (0 ≤ (a2.length:Int)∧(Int.toNat (a2.length:Int)) * 8 ≤ 140737488355328)) >>= fun _ =>
  (Km0 (clo1_0,a2,b3,(List.replicate (Int.toNat (a2.length:Int)) 0),0)) >>= fun out_5 =>
  some out_5
def Km2 (p:Klp × (List Int) × (List Int)):Option ((List Int)) :=
 match p with
 | (p0,a1,b2) =>
  (Km1 (p0,p0.fs,a1,b2)) >>= fun r_1_6 =>
  some r_1_6
def Km3 (n1:Int):Option (Unit) :=
  if (decide (n1 < 0))=true then
   none
  else
   if (decide ((wr (n1 - (wr (0 - 0)))) > 0))=true then
    (chk (0 ≤ (wr (n1 - (wr (0 - 0))))∧(Int.toNat (wr (n1 - (wr (0 - 0))))) * 8 ≤ 140737488355328)) >>= fun _ =>
    some ()
   else
    some ()
def Km4 (p:(List (List Int)) × Int × Int):Option (Int) :=
 match p with
 | (slices0,size_4,w_5) =>
  if (decide (w_5 < (slices0.length:Int)))=true then
   (idx slices0 w_5) >>= fun e_4_0 =>
   ((
    if (decide ((wr (size_4 + (e_4_0.length:Int))) < 0))=true then
     none
    else
     some (())
   ):Option (Unit)) >>= fun () =>
   Km4 (slices0,(wr (size_4 + (e_4_0.length:Int))),(wr (w_5 + 1)))
  else
   some (size_4)
 partial_fixpoint
def Km5 (p:(List (List Int)) × (List Int) × Int):Option ((List Int)) :=
 match p with
 | (slices0,newslice_12,w_13) =>
  if (decide (w_13 < (slices0.length:Int)))=true then
   (idx slices0 w_13) >>= fun e_12_0 =>
   (Qdw (newslice_12.length + e_12_0.length) 8) >>= fun _ =>
   Km5 (slices0,(newslice_12 ++ e_12_0),(wr (w_13 + 1)))
  else
   some (newslice_12)
 partial_fixpoint
def Km6 (slices0:(List (List Int))):Option ((List Int)) :=
  (Km4 (slices0,0,0)) >>= fun size_9 =>
  (Km3 size_9) >>= fun _ =>
  (Km5 (slices0,[],0)) >>= fun newslice_15 =>
  some newslice_15
def Km7 (p:Int × Klp × Int):Option (Bool) :=
 match p with
 | (u0,cap0,cap1) =>
  (Kle (cap0.fs,u0,cap1)) >>= fun r_1_4 =>
  some (!r_1_4)
def Km8 (p:(List Int) × Klp × Int × Int):Option ((Unit) ⊕ (Int)) :=
 match p with
 | (s0,clo1_0,clo1_1,w_3) =>
  if (decide (w_3 < (s0.length:Int)))=true then
   (idx s0 w_3) >>= fun e_4_3 =>
   (Km7 (e_4_3,clo1_0,clo1_1)) >>= fun r_4_5 =>
   if r_4_5=true then
    some (.inr w_3)
   else
    Km8 (s0,clo1_0,clo1_1,(wr (w_3 + 1)))
  else
   some (.inl ())
 partial_fixpoint
def Km9 (p:(List Int) × Klp × Int):Option (Int) :=
 match p with
 | (s0,clo1_0,clo1_1) =>
  (Km8 (s0,clo1_0,clo1_1,0)) >>= fun fl=>match fl with
  | .inl () =>
   some (-1)
  | .inr r =>
   some r
def Kma (p:(List Int) × Klp × Int):Option (Bool) :=
 match p with
 | (s0,clo1_0,clo1_1) =>
  (Km9 (s0,clo1_0,clo1_1)) >>= fun r_1_2 =>
  some (decide (r_1_2 ≥ 0))
def Kmb (p:Klp × (List Int) × Int):Option (Bool) :=
 match p with
 | (p0,l1,g2) =>
  (Kma (l1,p0,g2)) >>= fun r_1_2 =>
  some (!r_1_2)
def Kmc (p:Klp × Int × (List Int) × (List Int) × Int):Option ((List Int)) :=
 match p with
 | (p0,g1,l2,out_2,w_3) =>
  if (decide (w_3 < (l2.length:Int)))=true then
   (idx l2 w_3) >>= fun e_4_1 =>
   (Kld (p0.fs,g1,e_4_1)) >>= fun r_5_6 =>
   (idx out_2 w_3) >>= fun e_5_7 =>
   Kmc (p0,g1,l2,(List.set out_2 (Int.toNat w_3) r_5_6),(wr (w_3 + 1)))
  else
   some (out_2)
 partial_fixpoint
def Kmd (p:Klp × Int × (List Int)):Option ((List Int)) :=
 match p with
 | (p0,g1,l2) =>
  (chk (0 ≤ (l2.length:Int)∧(Int.toNat (l2.length:Int)) * 8 ≤ 140737488355328)) >>= fun _ =>
  (Kmc (p0,g1,l2,(List.replicate (Int.toNat (l2.length:Int)) 0),0)) >>= fun out_5 =>
  some out_5
def Kme (ty0:(List Int)):Option (Bool) :=
  some (decide ((ty0.length:Int) > 40))
def Kmf (p:Klp × Klo × (List (List Int)) × K00 × (List (List Int)) × (List (List Int))):Option (Int × Klo) :=
 match p with
 | (p0,out1,ctx2,t3,needs4,used5) =>
  ((
   if (t3.fOp == 0)=true then
    (idx ctx2 t3.fN) >>= fun e_4_4 =>
    (Khp e_4_4) >>= fun r_4_6 =>
    (idx out1.fneeds t3.fN) >>= fun e_5_6 =>
    some (.inl (r_4_6,(List.set out1.fneeds (Int.toNat t3.fN) 1),out1.fkids,out1.fpath))
   else
    ((
     if (t3.fOp == 1)=true then
      some (.inl ([0],out1.fneeds,out1.fkids,out1.fpath))
     else
      ((
       if (t3.fOp == 2)=true then
        (idx needs4 0) >>= fun e_9_5 =>
        (idx needs4 1) >>= fun e_9_8 =>
        (Kly (p0,e_9_5,e_9_8)) >>= fun r_9_10 =>
        some (.inl ([0],r_9_10,out1.fkids,out1.fpath))
       else
        ((
         if (t3.fOp == 3)=true then
          (Klz (1,out1)) >>= fun r_11_1 =>
          (Klz (2,out1)) >>= fun r_11_3 =>
          (Kjm (r_11_1,r_11_3)) >>= fun r_11_4 =>
          if r_11_4=true then
           (Klz (1,out1)) >>= fun r_13_3 =>
           (idx needs4 0) >>= fun e_13_6 =>
           (idx needs4 1) >>= fun e_13_10 =>
           (idx needs4 2) >>= fun e_13_13 =>
           (Km2 (p0,e_13_10,e_13_13)) >>= fun r_13_15 =>
           (Kly (p0,e_13_6,r_13_15)) >>= fun r_13_16 =>
           some (.inl (r_13_3,r_13_16))
          else
           some (.inr (3,out1))
         else
          ((
           if (t3.fOp == 4)=true then
            (Klz (0,out1)) >>= fun r_15_4 =>
            (Klz (1,out1)) >>= fun r_15_6 =>
            (Km6 [[1],r_15_4,r_15_6]) >>= fun r_15_8 =>
            (idx needs4 0) >>= fun e_15_11 =>
            (idx needs4 1) >>= fun e_15_14 =>
            (Kly (p0,e_15_11,e_15_14)) >>= fun r_15_16 =>
            some (.inl (r_15_8,r_15_16))
           else
            ((
             if (t3.fOp == 5)=true then
              (idx used5 1) >>= fun e_17_2 =>
              (Kmb (p0,e_17_2,t3.fN)) >>= fun r_17_6 =>
              if r_17_6=true then
               (Klz (1,out1)) >>= fun r_19_3 =>
               (idx needs4 0) >>= fun e_19_9 =>
               (Kmd (p0,t3.fN,e_19_9)) >>= fun r_19_11 =>
               (idx needs4 1) >>= fun e_19_13 =>
               (Kly (p0,r_19_11,e_19_13)) >>= fun r_19_15 =>
               some (.inl (r_19_3,r_19_15))
              else
               some (.inr (9,out1))
             else
              ((
               if (t3.fOp == 6)=true then
                (Klz (0,out1)) >>= fun r_21_4 =>
                (Km6 [[2],r_21_4,t3.fType]) >>= fun r_21_8 =>
                (idx needs4 0) >>= fun e_21_10 =>
                some (.inl (r_21_8,e_21_10))
               else
                ((
                 if (t3.fOp == 7)=true then
                  (Klz (0,out1)) >>= fun r_23_6 =>
                  (Km6 [[2],t3.fType,r_23_6]) >>= fun r_23_8 =>
                  (idx needs4 0) >>= fun e_23_10 =>
                  some (.inl (r_23_8,e_23_10))
                 else
                  ((
                   if (t3.fOp == 8)=true then
                    (Klz (1,out1)) >>= fun r_25_1 =>
                    (Klz (2,out1)) >>= fun r_25_3 =>
                    (Kjm (r_25_1,r_25_3)) >>= fun r_25_4 =>
                    if r_25_4=true then
                     ((
                      (idx used5 1) >>= fun e_27_2 =>
                      (Kmb (p0,e_27_2,t3.fN)) >>= fun r_27_6 =>
                      if r_27_6=true then
                       (idx used5 2) >>= fun e_27_11 =>
                       (Kmb (p0,e_27_11,t3.fN)) >>= fun r_27_15 =>
                       some ((!r_27_15))
                      else
                       some (true)
                     ):Option (Bool)) >>= fun v_13 =>
                     if v_13=true then
                      some (.inr (9,out1))
                     else
                      (Klz (1,out1)) >>= fun r_29_3 =>
                      (idx needs4 0) >>= fun e_29_9 =>
                      (Kmd (p0,t3.fN,e_29_9)) >>= fun r_29_11 =>
                      (idx needs4 1) >>= fun e_29_14 =>
                      (idx needs4 2) >>= fun e_29_17 =>
                      (Km2 (p0,e_29_14,e_29_17)) >>= fun r_29_19 =>
                      (Kly (p0,r_29_11,r_29_19)) >>= fun r_29_20 =>
                      some (.inl (r_29_3,r_29_20))
                    else
                     some (.inr (3,out1))
                   else
                    ((
                     if (t3.fOp == 9)=true then
                      (idx used5 0) >>= fun e_31_2 =>
                      (Kmb (p0,e_31_2,t3.fN)) >>= fun r_31_6 =>
                      if r_31_6=true then
                       (Klz (0,out1)) >>= fun r_33_9 =>
                       (Km6 [[(wr (3 + t3.fN))],t3.fType,r_33_9]) >>= fun r_33_11 =>
                       (idx needs4 0) >>= fun e_33_13 =>
                       some (.inl (r_33_11,e_33_13))
                      else
                       some (.inr (9,out1))
                     else
                      ((
                       if (t3.fOp == 10)=true then
                        (Klz (0,out1)) >>= fun r_35_1 =>
                        (idx r_35_1 0) >>= fun e_35_2 =>
                        (Kgz e_35_2) >>= fun (r_35_4_0,r_35_4_1) =>
                        (Klz (0,out1)) >>= fun r_36_3 =>
                        (Klj r_36_3) >>= fun r_36_4 =>
                        (idx r_36_4 1) >>= fun e_36_5 =>
                        (idx needs4 0) >>= fun e_36_9 =>
                        (idx needs4 1) >>= fun e_36_14 =>
                        (Kmd (p0,r_35_4_1,e_36_14)) >>= fun r_36_16 =>
                        (Kly (p0,e_36_9,r_36_16)) >>= fun r_36_17 =>
                        some (.inl (e_36_5,r_36_17))
                       else
                        ((
                         if (t3.fOp == 11)=true then
                          (Klz (0,out1)) >>= fun r_38_7 =>
                          (Km6 [[(wr (19 + t3.fN))],r_38_7]) >>= fun r_38_9 =>
                          (idx needs4 0) >>= fun e_38_14 =>
                          (Kmd (p0,t3.fN,e_38_14)) >>= fun r_38_16 =>
                          some (.inl (r_38_9,r_38_16))
                         else
                          ((
                           if (t3.fOp == 12)=true then
                            (Klz (0,out1)) >>= fun r_40_1 =>
                            (idx r_40_1 0) >>= fun e_40_2 =>
                            (Kgz e_40_2) >>= fun (r_40_4_0,r_40_4_1) =>
                            (idx used5 1) >>= fun e_41_2 =>
                            (Kld (p0.fs,t3.fN,r_40_4_1)) >>= fun r_41_9 =>
                            (Kmb (p0,e_41_2,r_41_9)) >>= fun r_41_10 =>
                            if r_41_10=true then
                             (Klz (1,out1)) >>= fun r_43_3 =>
                             (idx needs4 0) >>= fun e_43_9 =>
                             (Kmd (p0,t3.fN,e_43_9)) >>= fun r_43_11 =>
                             (idx needs4 1) >>= fun e_43_13 =>
                             (Kly (p0,r_43_11,e_43_13)) >>= fun r_43_15 =>
                             some (.inl (r_43_3,r_43_15))
                            else
                             some (.inr (9,out1))
                           else
                            some (.inl (out1.fty,out1.fneeds))):Option (((List Int) × (List Int)) ⊕ ((Int × Klo)))) >>= fun fl=>match fl with
                          | .inl (out_22,out_23) =>
                           some (.inl (out_22,out_23))
                          | .inr r =>
                           some (.inr r)):Option (((List Int) × (List Int)) ⊕ ((Int × Klo)))) >>= fun fl=>match fl with
                        | .inl (out_25,out_26) =>
                         some (.inl (out_25,out_26))
                        | .inr r =>
                         some (.inr r)):Option (((List Int) × (List Int)) ⊕ ((Int × Klo)))) >>= fun fl=>match fl with
                      | .inl (out_28,out_29) =>
                       some (.inl (out_28,out_29))
                      | .inr r =>
                       some (.inr r)):Option (((List Int) × (List Int)) ⊕ ((Int × Klo)))) >>= fun fl=>match fl with
                    | .inl (out_31,out_32) =>
                     some (.inl (out_31,out_32))
                    | .inr r =>
                     some (.inr r)):Option (((List Int) × (List Int)) ⊕ ((Int × Klo)))) >>= fun fl=>match fl with
                  | .inl (out_34,out_36) =>
                   some (.inl (out_34,out_36))
                  | .inr r =>
                   some (.inr r)):Option (((List Int) × (List Int)) ⊕ ((Int × Klo)))) >>= fun fl=>match fl with
                | .inl (out_38,out_39) =>
                 some (.inl (out_38,out_39))
                | .inr r =>
                 some (.inr r)):Option (((List Int) × (List Int)) ⊕ ((Int × Klo)))) >>= fun fl=>match fl with
              | .inl (out_41,out_42) =>
               some (.inl (out_41,out_42))
              | .inr r =>
               some (.inr r)):Option (((List Int) × (List Int)) ⊕ ((Int × Klo)))) >>= fun fl=>match fl with
            | .inl (out_44,out_46) =>
             some (.inl (out_44,out_46))
            | .inr r =>
             some (.inr r)):Option (((List Int) × (List Int)) ⊕ ((Int × Klo)))) >>= fun fl=>match fl with
          | .inl (out_48,out_50) =>
           some (.inl (out_48,out_50))
          | .inr r =>
           some (.inr r)):Option (((List Int) × (List Int)) ⊕ ((Int × Klo)))) >>= fun fl=>match fl with
        | .inl (out_52,out_54) =>
         some (.inl (out_52,out_54,out1.fkids,out1.fpath))
        | .inr r =>
         some (.inr r)):Option (((List Int) × (List Int) × (List Klo) × (List Int)) ⊕ ((Int × Klo)))) >>= fun fl=>match fl with
      | .inl (out_57,out_58,out_59,out_60) =>
       some (.inl (out_57,out_58,out_59,out_60))
      | .inr r =>
       some (.inr r)):Option (((List Int) × (List Int) × (List Klo) × (List Int)) ⊕ ((Int × Klo)))) >>= fun fl=>match fl with
    | .inl (out_62,out_63,out_64,out_65) =>
     some (.inl (out_62,out_63,out_64,out_65))
    | .inr r =>
     some (.inr r)):Option (((List Int) × (List Int) × (List Klo) × (List Int)) ⊕ ((Int × Klo)))) >>= fun fl=>match fl with
  | .inl (out_68,out_69,out_70,out_71) =>
   (Kme out_68) >>= fun r_44_4 =>
   if r_44_4=true then
    some (3,(Klo.mk out_68 out_69 out_70 out1.ffault out_71))
   else
    some (0,(Klo.mk out_68 out_69 out_70 out1.ffault out_71))
  | .inr r =>
   some r
mutual
def Kmg (p:Klp × (List (List Int)) × K00):Option (Klo) :=
 match p with
 | (p0,ctx1,t2) =>
  (chk (0 ≤ (ctx1.length:Int)∧(Int.toNat (ctx1.length:Int)) * 8 ≤ 140737488355328)) >>= fun _ =>
  (Kmh (p0,ctx1,t2,[],[],[],0)) >>= fun fl=>match fl with
  | .inl (out_44,needs_45,used_46) =>
   (Kmf (p0,(Klo.mk [] (List.replicate (Int.toNat (ctx1.length:Int)) 0) out_44 0 []),ctx1,t2,needs_45,used_46)) >>= fun (r_24_7,o_24_7_1) =>
   if (r_24_7 != 0)=true then
    some (Klo.mk [] [] [] r_24_7 [])
   else
    some (Klo.mk o_24_7_1.fty o_24_7_1.fneeds o_24_7_1.fkids r_24_7 o_24_7_1.fpath)
  | .inr r =>
   some r
 partial_fixpoint
def Kmh (p:Klp × (List (List Int)) × K00 × (List Klo) × (List (List Int)) × (List (List Int)) × Int):Option (((List Klo) × (List (List Int)) × (List (List Int))) ⊕ (Klo)) :=
 match p with
 | (p0,ctx1,t2,out_27,needs_28,used_29,w_12) =>
  if (decide (w_12 < (t2.fKids.length:Int)))=true then
   (idx t2.fKids w_12) >>= fun e_6_1 =>
   ((
    if (decide (w_12 > 0))=true then
     some (true)
    else
     some ((t2.fOp == 9))
   ):Option (Bool)) >>= fun v_31 =>
   ((
    if v_31=true then
     ((
      if (decide (w_12 > 0))=true then
       (idx out_27 0) >>= fun e_11_4 =>
       some (e_11_4.fty)
      else
       some ([])
     ):Option ((List Int))) >>= fun first_35 =>
     (Klq (t2,w_12,first_35)) >>= fun r_12_3 =>
     some (r_12_3)
    else
     some ([])
   ):Option ((List (List Int)))) >>= fun more_37 =>
   (Klu [more_37,ctx1]) >>= fun r_13_4 =>
   (Kmg (p0,r_13_4,e_6_1)) >>= fun r_13_6 =>
   if (r_13_6.ffault != 0)=true then
    (Qdw ([w_12].length + r_13_6.fpath.length) 8) >>= fun _ =>
    some (.inr (Klo.mk [] [] [] r_13_6.ffault ([w_12] ++ r_13_6.fpath)))
   else
    (Klv (p0,t2,w_12,r_13_6.fty)) >>= fun r_16_7 =>
    if (r_16_7 != 0)=true then
     some (.inr (Klo.mk [] [] [] r_16_7 []))
    else
     ((
      if (t2.fOp == 10)=true then
       if (w_12 == 1)=true then
        (idx out_27 0) >>= fun e_19_16 =>
        (Klj e_19_16.fty) >>= fun r_19_21 =>
        (idx r_19_21 0) >>= fun e_19_22 =>
        (Kjm (r_13_6.fty,e_19_22)) >>= fun r_19_24 =>
        some ((!r_19_24))
       else
        some (false)
      else
       some (false)
     ):Option (Bool)) >>= fun v_41 =>
     if v_41=true then
      some (.inr (Klo.mk [] [] [] 3 []))
     else
      (Qdw (out_27.length + [r_13_6].length) 8) >>= fun _ =>
      (cut r_13_6.fneeds none (some (more_37.length:Int)) none) >>= fun c_22_7 =>
      (Qdw (used_29.length + [c_22_7].length) 24) >>= fun _ =>
      (cut r_13_6.fneeds (some (more_37.length:Int)) none none) >>= fun c_22_17 =>
      (Qdw (needs_28.length + [c_22_17].length) 24) >>= fun _ =>
      Kmh (p0,ctx1,t2,(out_27 ++ [r_13_6]),(needs_28 ++ [c_22_17]),(used_29 ++ [c_22_7]),(wr (w_12 + 1)))
  else
   some (.inl (out_27,needs_28,used_29))
 partial_fixpoint
end
end Go.Am
