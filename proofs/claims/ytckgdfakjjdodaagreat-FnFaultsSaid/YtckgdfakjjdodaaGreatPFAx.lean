/- Pure functions. -/
import Derived.Test.YtckgdfakjjdodaaGreatGFAF15
set_option linter.unusedVariables false
namespace Go.Am
def Kqt (op0:Int):Option (Int) :=
  (Ka9 (op0,0,12)) >>= fun r_1_1 =>
  if r_1_1=true then
   (idx [0,0,2,3,2,2,1,1,3,1,2,1,2] op0) >>= fun e_3_2 =>
   some e_3_2
  else
   some (-1)
def Kqu (op0:Int):Option (Bool) :=
  (
   if (op0 == 5)=true then
    some (true)
   else
    if (op0 == 8)=true then
     some (true)
    else
     if (op0 == 9)=true then
      some (true)
     else
      if (op0 == 11)=true then
       some (true)
      else
       some ((op0 == 12))
  ) >>= fun v_1 =>
  some v_1
def Kqv (op0:Int):Option (Bool) :=
  (
   if (op0 == 6)=true then
    some (true)
   else
    if (op0 == 7)=true then
     some (true)
    else
     some ((op0 == 9))
  ) >>= fun v_1 =>
  some v_1
def Kqw (ty0:(List Int)):Option (Bool) :=
  (
   if (decide ((ty0.length:Int) ≤ 40))=true then
    (Kem (ty0,0)) >>= fun r_1_5 =>
    if (r_1_5 == (ty0.length:Int))=true then
     some ((decide ((ty0.length:Int) > 0)))
    else
     some (false)
   else
    some (false)
  ) >>= fun v_1 =>
  some v_1
def Kqx (p:(List Int) × Int × Bool × Int):Option ((Unit) ⊕ (Bool)) :=
 match p with
 | (ty0,size1,closed2,i_9) =>
  if (decide (i_9 < (ty0.length:Int)))=true then
   (
    (idx ty0 i_9) >>= fun e_4_2 =>
    (Kef e_4_2) >>= fun r_4_4 =>
    if (decide (r_4_4 > 0))=true then
     (idx ty0 i_9) >>= fun e_4_9 =>
     some ((decide (e_4_9 > 2)))
    else
     some (false)
   ) >>= fun v_11 =>
   ((
    if v_11=true then
     (idx ty0 i_9) >>= fun e_5_2 =>
     (Kev e_5_2) >>= fun r_5_4 =>
     (
      if (decide (r_5_4 ≥ size1))=true then
       some (true)
      else
       if closed2=true then
        some ((decide (r_5_4 < 0)))
       else
        some (false)
     ) >>= fun v_14 =>
     if v_14=true then
      some (.inr false)
     else
      some (.inl ())
    else
     some (.inl ())):Option ((Unit) ⊕ (Bool))) >>= fun fl=>match fl with
   | .inl () =>
    Kqx (ty0,size1,closed2,(wr (i_9 + 1)))
   | .inr r =>
    some (.inr r)
  else
   some (.inl ())
 partial_fixpoint
def Kqy (p:(List Int) × Int × Bool):Option (Bool) :=
 match p with
 | (ty0,size1,closed2) =>
  (Kqx (ty0,size1,closed2,0)) >>= fun fl=>match fl with
  | .inl () =>
   some true
  | .inr r =>
   some r
def Kqz (p:K01 × Int × Int × Bool):Option (Bool) :=
 match p with
 | (t0,n1,size2,closed3) =>
  (Kqt t0.fOp) >>= fun r_1_5 =>
  if ((t0.fKids.length:Int) != r_1_5)=true then
   some false
  else
   ((
    if (t0.fOp == 0)=true then
     (Ka9 (t0.fN,0,(wr (n1 - 1)))) >>= fun r_6_4 =>
     if r_6_4=true then
      some (.inl ())
     else
      some (.inr false)
    else
     ((
      if (t0.fOp == 1)=true then
       (Ka9 (t0.fN,0,2)) >>= fun r_9_2 =>
       if r_9_2=true then
        some (.inl ())
       else
        some (.inr false)
      else
       (Kqu t0.fOp) >>= fun r_11_2 =>
       ((
        if r_11_2=true then
         (
          if (decide (t0.fN ≥ size2))=true then
           some (true)
          else
           if (decide (t0.fN < (-1)))=true then
            some (true)
           else
            if closed3=true then
             some ((decide (t0.fN < 0)))
            else
             some (false)
         ) >>= fun v_7 =>
         if v_7=true then
          some (.inr false)
         else
          some (.inl ())
        else
         if (t0.fN != 0)=true then
          some (.inr false)
         else
          some (.inl ())):Option ((Unit) ⊕ (Bool))) >>= fun fl=>match fl with
       | .inl () =>
        some (.inl ())
       | .inr r =>
        some (.inr r)):Option ((Unit) ⊕ (Bool))) >>= fun fl=>match fl with
     | .inl () =>
      some (.inl ())
     | .inr r =>
      some (.inr r)):Option ((Unit) ⊕ (Bool))) >>= fun fl=>match fl with
   | .inl () =>
    (Kqv t0.fOp) >>= fun r_14_2 =>
    if r_14_2=true then
     (
      (Kqw t0.fType) >>= fun r_16_2 =>
      if r_16_2=true then
       (Kqy (t0.fType,size2,closed3)) >>= fun r_16_8 =>
       some (r_16_8)
      else
       some (false)
     ) >>= fun v_15 =>
     some v_15
    else
     some ((t0.fType.length:Int) == 0)
   | .inr r =>
    some r
mutual
def Kr0 (p:K01 × Int × Int × Bool):Option (Bool) :=
 match p with
 | (t0,n1,size2,closed3) =>
  (Kqz (t0,n1,size2,closed3)) >>= fun r_1_4 =>
  if r_1_4=true then
   (Kr1 (t0,n1,size2,closed3,0)) >>= fun fl=>match fl with
   | .inl () =>
    some true
   | .inr r =>
    some r
  else
   some false
 partial_fixpoint
def Kr1 (p:K01 × Int × Int × Bool × Int):Option ((Unit) ⊕ (Bool)) :=
 match p with
 | (t0,n1,size2,closed3,k_4) =>
  if (decide (k_4 < (t0.fKids.length:Int)))=true then
   (idx t0.fKids k_4) >>= fun e_6_3 =>
   (Kgj (t0.fOp,k_4)) >>= fun r_6_9 =>
   (Kr0 (e_6_3,(wr (n1 + r_6_9)),size2,closed3)) >>= fun r_6_13 =>
   if r_6_13=true then
    Kr1 (t0,n1,size2,closed3,(wr (k_4 + 1)))
   else
    some (.inr false)
  else
   some (.inl ())
 partial_fixpoint
end
def Kr2 (p:K00 × K01 × Int):Option (Bool) :=
 match p with
 | (s0,t1,n2) =>
  (
   (Kcp s0) >>= fun r_1_1 =>
   if r_1_1=true then
    (Ka9 (n2,0,8)) >>= fun r_1_4 =>
    if r_1_4=true then
     (Khk (t1,400)) >>= fun r_1_8 =>
     if (decide (r_1_8 ≥ 0))=true then
      (Kr0 (t1,n2,s0.fSize,true)) >>= fun r_1_16 =>
      some (r_1_16)
     else
      some (false)
    else
     some (false)
   else
    some (false)
  ) >>= fun v_1 =>
  some v_1
def Kr3 (p:K00 × (List (List Int)) × Int):Option ((Unit) ⊕ (Bool)) :=
 match p with
 | (s0,ctx1,i_6) =>
  if (decide (i_6 < (ctx1.length:Int)))=true then
   ((
    (idx ctx1 i_6) >>= fun e_6_2 =>
    (Kqw e_6_2) >>= fun r_6_4 =>
    if r_6_4=true then
     (idx ctx1 i_6) >>= fun e_6_9 =>
     (Kqy (e_6_9,s0.fSize,true)) >>= fun r_6_13 =>
     some ((!r_6_13))
    else
     some (true)
   ):Option (Bool)) >>= fun v_8 =>
   if v_8=true then
    some (.inr false)
   else
    Kr3 (s0,ctx1,(wr (i_6 + 1)))
  else
   some (.inl ())
 partial_fixpoint
def Kr4 (p:K00 × (List (List Int))):Option (Bool) :=
 match p with
 | (s0,ctx1) =>
  if (decide ((ctx1.length:Int) > 8))=true then
   some false
  else
   (Kr3 (s0,ctx1,0)) >>= fun fl=>match fl with
   | .inl () =>
    some true
   | .inr r =>
    some r
def Kr5 (p:K00 × (List (List Int)) × K01):Option (Bool) :=
 match p with
 | (s0,ctx1,t2) =>
  ((
   (Kcp s0) >>= fun r_1_1 =>
   if r_1_1=true then
    (Kr4 (s0,ctx1)) >>= fun r_1_5 =>
    if r_1_5=true then
     (Kr2 (s0,t2,(ctx1.length:Int))) >>= fun r_1_12 =>
     some (r_1_12)
    else
     some (false)
   else
    some (false)
  ):Option (Bool)) >>= fun v_1 =>
  some v_1
def Kr6 (p:K00 × (List (List Int)) × K01):Option ((List Int) × (List Int) × Bool) :=
 match p with
 | (s0,ctx1,t2) =>
  (Kr5 (s0,ctx1,t2)) >>= fun r_1_3 =>
  if r_1_3=true then
   (Kfw (s0,ctx1,t2)) >>= fun r_3_3 =>
   if (r_3_3.ffault != 0)=true then
    some ([],[],false)
   else
    some (r_3_3.fty,r_3_3.fneeds,true)
  else
   some ([],[],false)
end Go.Am
