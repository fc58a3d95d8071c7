/- Pure functions. -/
import Derived.Test.YtckgdfakjjdodaaGreatGWIF15
set_option linter.unusedVariables false
namespace Go.Am
def Kqr (op0:Int):Option (Int) :=
  (Ka8 (op0,0,12)) >>= fun r_1_1 =>
  if r_1_1=true then
   (idx [0,0,2,3,2,2,1,1,3,1,2,1,2] op0) >>= fun e_3_2 =>
   some e_3_2
  else
   some (-1)
def Kqs (op0:Int):Option (Bool) :=
  (
   if (op0 == 5)=true then
    some (true)
   else
    if (op0 == 8)=true then
     some (true)
    else
     if (op0 == 9)=true then
      some (true)
     else
      if (op0 == 11)=true then
       some (true)
      else
       some ((op0 == 12))
  ) >>= fun v_1 =>
  some v_1
def Kqt (op0:Int):Option (Bool) :=
  (
   if (op0 == 6)=true then
    some (true)
   else
    if (op0 == 7)=true then
     some (true)
    else
     some ((op0 == 9))
  ) >>= fun v_1 =>
  some v_1
def Kqu (ty0:(List Int)):Option (Bool) :=
  (
   if (decide ((ty0.length:Int) ≤ 40))=true then
    (Kel (ty0,0)) >>= fun r_1_5 =>
    if (r_1_5 == (ty0.length:Int))=true then
     some ((decide ((ty0.length:Int) > 0)))
    else
     some (false)
   else
    some (false)
  ) >>= fun v_1 =>
  some v_1
def Kqv (p:(List Int) × Int × Bool × Int):Option ((Unit) ⊕ (Bool)) :=
 match p with
 | (ty0,size1,closed2,i_9) =>
  if (decide (i_9 < (ty0.length:Int)))=true then
   (
    (idx ty0 i_9) >>= fun e_4_2 =>
    (Kee e_4_2) >>= fun r_4_4 =>
    if (decide (r_4_4 > 0))=true then
     (idx ty0 i_9) >>= fun e_4_9 =>
     some ((decide (e_4_9 > 2)))
    else
     some (false)
   ) >>= fun v_11 =>
   ((
    if v_11=true then
     (idx ty0 i_9) >>= fun e_5_2 =>
     (Keu e_5_2) >>= fun r_5_4 =>
     (
      if (decide (r_5_4 ≥ size1))=true then
       some (true)
      else
       if closed2=true then
        some ((decide (r_5_4 < 0)))
       else
        some (false)
     ) >>= fun v_14 =>
     if v_14=true then
      some (.inr false)
     else
      some (.inl ())
    else
     some (.inl ())):Option ((Unit) ⊕ (Bool))) >>= fun fl=>match fl with
   | .inl () =>
    Kqv (ty0,size1,closed2,(wr (i_9 + 1)))
   | .inr r =>
    some (.inr r)
  else
   some (.inl ())
 partial_fixpoint
def Kqw (p:(List Int) × Int × Bool):Option (Bool) :=
 match p with
 | (ty0,size1,closed2) =>
  (Kqv (ty0,size1,closed2,0)) >>= fun fl=>match fl with
  | .inl () =>
   some true
  | .inr r =>
   some r
def Kqx (p:K01 × Int × Int × Bool):Option (Bool) :=
 match p with
 | (t0,n1,size2,closed3) =>
  (Kqr t0.fOp) >>= fun r_1_5 =>
  if ((t0.fKids.length:Int) != r_1_5)=true then
   some false
  else
   ((
    if (t0.fOp == 0)=true then
     (Ka8 (t0.fN,0,(wr (n1 - 1)))) >>= fun r_6_4 =>
     if r_6_4=true then
      some (.inl ())
     else
      some (.inr false)
    else
     ((
      if (t0.fOp == 1)=true then
       (Ka8 (t0.fN,0,2)) >>= fun r_9_2 =>
       if r_9_2=true then
        some (.inl ())
       else
        some (.inr false)
      else
       (Kqs t0.fOp) >>= fun r_11_2 =>
       ((
        if r_11_2=true then
         (
          if (decide (t0.fN ≥ size2))=true then
           some (true)
          else
           if (decide (t0.fN < (-1)))=true then
            some (true)
           else
            if closed3=true then
             some ((decide (t0.fN < 0)))
            else
             some (false)
         ) >>= fun v_7 =>
         if v_7=true then
          some (.inr false)
         else
          some (.inl ())
        else
         if (t0.fN != 0)=true then
          some (.inr false)
         else
          some (.inl ())):Option ((Unit) ⊕ (Bool))) >>= fun fl=>match fl with
       | .inl () =>
        some (.inl ())
       | .inr r =>
        some (.inr r)):Option ((Unit) ⊕ (Bool))) >>= fun fl=>match fl with
     | .inl () =>
      some (.inl ())
     | .inr r =>
      some (.inr r)):Option ((Unit) ⊕ (Bool))) >>= fun fl=>match fl with
   | .inl () =>
    (Kqt t0.fOp) >>= fun r_14_2 =>
    if r_14_2=true then
     (
      (Kqu t0.fType) >>= fun r_16_2 =>
      if r_16_2=true then
       (Kqw (t0.fType,size2,closed3)) >>= fun r_16_8 =>
       some (r_16_8)
      else
       some (false)
     ) >>= fun v_15 =>
     some v_15
    else
     some ((t0.fType.length:Int) == 0)
   | .inr r =>
    some r
mutual
def Kqy (p:K01 × Int × Int × Bool):Option (Bool) :=
 match p with
 | (t0,n1,size2,closed3) =>
  (Kqx (t0,n1,size2,closed3)) >>= fun r_1_4 =>
  if r_1_4=true then
   (Kqz (t0,n1,size2,closed3,0)) >>= fun fl=>match fl with
   | .inl () =>
    some true
   | .inr r =>
    some r
  else
   some false
 partial_fixpoint
def Kqz (p:K01 × Int × Int × Bool × Int):Option ((Unit) ⊕ (Bool)) :=
 match p with
 | (t0,n1,size2,closed3,k_4) =>
  if (decide (k_4 < (t0.fKids.length:Int)))=true then
   (idx t0.fKids k_4) >>= fun e_6_3 =>
   (Kgi (t0.fOp,k_4)) >>= fun r_6_9 =>
   (Kqy (e_6_3,(wr (n1 + r_6_9)),size2,closed3)) >>= fun r_6_13 =>
   if r_6_13=true then
    Kqz (t0,n1,size2,closed3,(wr (k_4 + 1)))
   else
    some (.inr false)
  else
   some (.inl ())
 partial_fixpoint
end
def Kr0 (p:K00 × K01 × Int):Option (Bool) :=
 match p with
 | (s0,t1,n2) =>
  (
   (Kco s0) >>= fun r_1_1 =>
   if r_1_1=true then
    (Ka8 (n2,0,8)) >>= fun r_1_4 =>
    if r_1_4=true then
     (Khj (t1,400)) >>= fun r_1_8 =>
     if (decide (r_1_8 ≥ 0))=true then
      (Kqy (t1,n2,s0.fSize,true)) >>= fun r_1_16 =>
      some (r_1_16)
     else
      some (false)
    else
     some (false)
   else
    some (false)
  ) >>= fun v_1 =>
  some v_1
def Kr1 (p:K00 × (List (List Int)) × Int):Option ((Unit) ⊕ (Bool)) :=
 match p with
 | (s0,ctx1,i_6) =>
  if (decide (i_6 < (ctx1.length:Int)))=true then
   ((
    (idx ctx1 i_6) >>= fun e_6_2 =>
    (Kqu e_6_2) >>= fun r_6_4 =>
    if r_6_4=true then
     (idx ctx1 i_6) >>= fun e_6_9 =>
     (Kqw (e_6_9,s0.fSize,true)) >>= fun r_6_13 =>
     some ((!r_6_13))
    else
     some (true)
   ):Option (Bool)) >>= fun v_8 =>
   if v_8=true then
    some (.inr false)
   else
    Kr1 (s0,ctx1,(wr (i_6 + 1)))
  else
   some (.inl ())
 partial_fixpoint
def Kr2 (p:K00 × (List (List Int))):Option (Bool) :=
 match p with
 | (s0,ctx1) =>
  if (decide ((ctx1.length:Int) > 8))=true then
   some false
  else
   (Kr1 (s0,ctx1,0)) >>= fun fl=>match fl with
   | .inl () =>
    some true
   | .inr r =>
    some r
def Kr3 (p:K00 × (List (List Int)) × K01):Option (Bool) :=
 match p with
 | (s0,ctx1,t2) =>
  ((
   (Kco s0) >>= fun r_1_1 =>
   if r_1_1=true then
    (Kr2 (s0,ctx1)) >>= fun r_1_5 =>
    if r_1_5=true then
     (Kr0 (s0,t2,(ctx1.length:Int))) >>= fun r_1_12 =>
     some (r_1_12)
    else
     some (false)
   else
    some (false)
  ):Option (Bool)) >>= fun v_1 =>
  some v_1
def Kr4 (p:K00 × (List (List Int)) × K01):Option ((List Int) × (List Int) × Bool) :=
 match p with
 | (s0,ctx1,t2) =>
  (Kr3 (s0,ctx1,t2)) >>= fun r_1_3 =>
  if r_1_3=true then
   (Kfv (s0,ctx1,t2)) >>= fun r_3_3 =>
   if (r_3_3.ffault != 0)=true then
    some ([],[],false)
   else
    some (r_3_3.fty,r_3_3.fneeds,true)
  else
   some ([],[],false)
mutual
def Kr5 (p:K00 × (List (List Int)) × K01):Option ((List (List Int))) :=
 match p with
 | (s0,ctx1,t2) =>
  (Kfv (s0,ctx1,t2)) >>= fun r_1_3 =>
  (Kr6 (s0,ctx1,t2,[r_1_3.fty],0)) >>= fun out_27 =>
  some out_27
 partial_fixpoint
def Kr6 (p:K00 × (List (List Int)) × K01 × (List (List Int)) × Int):Option ((List (List Int))) :=
 match p with
 | (s0,ctx1,t2,out_13,k_14) =>
  if (decide (k_14 < (t2.fKids.length:Int)))=true then
   (Kgi (t2.fOp,k_14)) >>= fun r_7_3 =>
   ((
    if (r_7_3 == 2)=true then
     (idx t2.fKids 0) >>= fun e_9_4 =>
     (Kfv (s0,ctx1,e_9_4)) >>= fun r_9_6 =>
     (Ker (r_9_6.fty,1)) >>= fun r_10_2 =>
     (Ker (r_9_6.fty,0)) >>= fun r_10_4 =>
     (Kex (ctx1,[r_10_2,r_10_4])) >>= fun r_10_6 =>
     some (r_10_6)
    else
     ((
      if (r_7_3 == 1)=true then
       ((
        if (t2.fOp == 9)=true then
         (Kex (ctx1,[t2.fType])) >>= fun r_13_4 =>
         some (r_13_4)
        else
         (idx t2.fKids 0) >>= fun e_14_5 =>
         (Kfv (s0,ctx1,e_14_5)) >>= fun r_14_7 =>
         (Ker (r_14_7.fty,(wr (k_14 - 1)))) >>= fun r_14_11 =>
         (Kex (ctx1,[r_14_11])) >>= fun r_14_13 =>
         some (r_14_13)
       ):Option ((List (List Int)))) >>= fun inner_19 =>
       some (inner_19)
      else
       some (ctx1)
     ):Option ((List (List Int)))) >>= fun inner_22 =>
     some (inner_22)
   ):Option ((List (List Int)))) >>= fun inner_25 =>
   (idx t2.fKids k_14) >>= fun e_15_6 =>
   (Kr5 (s0,inner_25,e_15_6)) >>= fun r_15_8 =>
   (Qei (out_13.length + r_15_8.length) 24) >>= fun _ =>
   Kr6 (s0,ctx1,t2,(out_13 ++ r_15_8),(wr (k_14 + 1)))
  else
   some (out_13)
 partial_fixpoint
end
end Go.Am
