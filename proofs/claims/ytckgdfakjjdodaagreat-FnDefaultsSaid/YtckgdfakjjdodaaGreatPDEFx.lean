/- Pure functions. -/
import Derived.Test.YtckgdfakjjdodaaGreatGDEFF12
set_option linter.unusedVariables false
namespace Go.Am
mutual
def Klx (p:K02 × Int):Option (Int) :=
 match p with
 | (t0,left1) =>
  (Kly (t0,(wr (left1 - 1)),0)) >>= fun left_9 =>
  some left_9
 partial_fixpoint
def Kly (p:K02 × Int × Int):Option (Int) :=
 match p with
 | (t0,left_4,k_5) =>
  (
   if (decide (k_5 < (t0.fKids.length:Int)))=true then
    some ((decide (left_4 ≥ 0)))
   else
    some (false)
  ) >>= fun v_6 =>
  if v_6=true then
   (idx t0.fKids k_5) >>= fun e_5_3 =>
   (Klx (e_5_3,left_4)) >>= fun r_5_6 =>
   Kly (t0,r_5_6,(wr (k_5 + 1)))
  else
   some (left_4)
 partial_fixpoint
end
def Klz (op0:Int):Option (Int) :=
  (K82 (op0,0,12)) >>= fun r_1_1 =>
  if r_1_1=true then
   (idx [0,0,2,3,2,2,1,1,3,1,2,1,2] op0) >>= fun e_3_2 =>
   some e_3_2
  else
   some (-1)
def Km0 (op0:Int):Option (Bool) :=
  (
   if (op0 == 5)=true then
    some (true)
   else
    if (op0 == 8)=true then
     some (true)
    else
     if (op0 == 9)=true then
      some (true)
     else
      if (op0 == 11)=true then
       some (true)
      else
       some ((op0 == 12))
  ) >>= fun v_1 =>
  some v_1
def Km1 (op0:Int):Option (Bool) :=
  (
   if (op0 == 6)=true then
    some (true)
   else
    if (op0 == 7)=true then
     some (true)
    else
     some ((op0 == 9))
  ) >>= fun v_1 =>
  some v_1
def Km2 (p:K02 × Int × Int × Bool):Option (Bool) :=
 match p with
 | (t0,n1,size2,closed3) =>
  (Klz t0.fOp) >>= fun r_1_5 =>
  if ((t0.fKids.length:Int) != r_1_5)=true then
   some false
  else
   ((
    if (t0.fOp == 0)=true then
     (K82 (t0.fN,0,(wr (n1 - 1)))) >>= fun r_6_4 =>
     if r_6_4=true then
      some (.inl ())
     else
      some (.inr false)
    else
     ((
      if (t0.fOp == 1)=true then
       (K82 (t0.fN,0,2)) >>= fun r_9_2 =>
       if r_9_2=true then
        some (.inl ())
       else
        some (.inr false)
      else
       (Km0 t0.fOp) >>= fun r_11_2 =>
       ((
        if r_11_2=true then
         (
          if (decide (t0.fN ≥ size2))=true then
           some (true)
          else
           if (decide (t0.fN < (-1)))=true then
            some (true)
           else
            if closed3=true then
             some ((decide (t0.fN < 0)))
            else
             some (false)
         ) >>= fun v_7 =>
         if v_7=true then
          some (.inr false)
         else
          some (.inl ())
        else
         if (t0.fN != 0)=true then
          some (.inr false)
         else
          some (.inl ())):Option ((Unit) ⊕ (Bool))) >>= fun fl=>match fl with
       | .inl () =>
        some (.inl ())
       | .inr r =>
        some (.inr r)):Option ((Unit) ⊕ (Bool))) >>= fun fl=>match fl with
     | .inl () =>
      some (.inl ())
     | .inr r =>
      some (.inr r)):Option ((Unit) ⊕ (Bool))) >>= fun fl=>match fl with
   | .inl () =>
    (Km1 t0.fOp) >>= fun r_14_2 =>
    if r_14_2=true then
     (
      (Kld t0.fType) >>= fun r_16_2 =>
      if r_16_2=true then
       (Klo (t0.fType,size2,closed3)) >>= fun r_16_8 =>
       some (r_16_8)
      else
       some (false)
     ) >>= fun v_15 =>
     some v_15
    else
     some ((t0.fType.length:Int) == 0)
   | .inr r =>
    some r
def Km3 (p:Int × Int):Option (Int) :=
 match p with
 | (op0,kid1) =>
  (
   if (op0 == 5)=true then
    some ((kid1 == 1))
   else
    some (false)
  ) >>= fun v_1 =>
  if v_1=true then
   some 2
  else
   (
    if (op0 == 8)=true then
     if (decide (kid1 > 0))=true then
      some (true)
     else
      if (op0 == 9)=true then
       some (true)
      else
       if (op0 == 12)=true then
        some ((kid1 == 1))
       else
        some (false)
    else
     if (op0 == 9)=true then
      some (true)
     else
      if (op0 == 12)=true then
       some ((kid1 == 1))
      else
       some (false)
   ) >>= fun v_4 =>
   if v_4=true then
    some 1
   else
    some 0
mutual
def Km4 (p:K02 × Int × Int × Bool):Option (Bool) :=
 match p with
 | (t0,n1,size2,closed3) =>
  (Km2 (t0,n1,size2,closed3)) >>= fun r_1_4 =>
  if r_1_4=true then
   (Km5 (t0,n1,size2,closed3,0)) >>= fun fl=>match fl with
   | .inl () =>
    some true
   | .inr r =>
    some r
  else
   some false
 partial_fixpoint
def Km5 (p:K02 × Int × Int × Bool × Int):Option ((Unit) ⊕ (Bool)) :=
 match p with
 | (t0,n1,size2,closed3,k_4) =>
  if (decide (k_4 < (t0.fKids.length:Int)))=true then
   (idx t0.fKids k_4) >>= fun e_6_3 =>
   (Km3 (t0.fOp,k_4)) >>= fun r_6_9 =>
   (Km4 (e_6_3,(wr (n1 + r_6_9)),size2,closed3)) >>= fun r_6_13 =>
   if r_6_13=true then
    Km5 (t0,n1,size2,closed3,(wr (k_4 + 1)))
   else
    some (.inr false)
  else
   some (.inl ())
 partial_fixpoint
end
def Km6 (l0:(List Int)):Option ((List Int)) :=
  (Qdq (([]:List Int).length + l0.length) 8) >>= fun _ =>
  some l0
def Km7 (p:(List Int) × Int):Option ((Unit) ⊕ (Bool)) :=
 match p with
 | (ty0,i_3) =>
  if (decide (i_3 < (ty0.length:Int)))=true then
   (idx ty0 i_3) >>= fun e_4_2 =>
   (Kkx e_4_2) >>= fun r_4_4 =>
   if r_4_4=true then
    some (.inr false)
   else
    Km7 (ty0,(wr (i_3 + 1)))
  else
   some (.inl ())
 partial_fixpoint
def Km8 (ty0:(List Int)):Option (Bool) :=
  (Km7 (ty0,0)) >>= fun fl=>match fl with
  | .inl () =>
   some true
  | .inr r =>
   some r
def Km9 (p:K00 × (List Int)):Option (Bool) :=
 match p with
 | (s0,ty1) =>
  (
   (Klr (s0,ty1)) >>= fun r_1_2 =>
   if r_1_2=true then
    (Km8 ty1) >>= fun r_1_5 =>
    some (r_1_5)
   else
    some (false)
  ) >>= fun v_1 =>
  some v_1
def Kma (p:(List Int) × Int):Option ((List Int)) :=
 match p with
 | (ty0,k1) =>
  (Kla (ty0,1)) >>= fun r_1_1 =>
  if (k1 == 0)=true then
   (cut ty0 (some 1) (some r_1_1) none) >>= fun c_3_2 =>
   (Km6 c_3_2) >>= fun r_3_3 =>
   some r_3_3
  else
   (cut ty0 (some r_1_1) none none) >>= fun c_4_2 =>
   (Km6 c_4_2) >>= fun r_4_3 =>
   some r_4_3
def Kmb (ty0:(List Int)):Option (Int) :=
  (idx ty0 0) >>= fun e_1_1 =>
  if (e_1_1 == 0)=true then
   some 3
  else
   if (e_1_1 == 1)=true then
    (Kma (ty0,0)) >>= fun r_5_1 =>
    (Kmb r_5_1) >>= fun r_5_2 =>
    (Kma (ty0,1)) >>= fun r_5_4 =>
    (Kmb r_5_4) >>= fun r_5_5 =>
    (K85 ((wr (r_5_2 * r_5_5)),301)) >>= fun r_5_7 =>
    some r_5_7
   else
    if (e_1_1 == 2)=true then
     (Kma (ty0,0)) >>= fun r_7_1 =>
     (Kmb r_7_1) >>= fun r_7_2 =>
     (Kma (ty0,1)) >>= fun r_7_4 =>
     (Kmb r_7_4) >>= fun r_7_5 =>
     (K85 ((wr (r_7_2 + r_7_5)),301)) >>= fun r_7_7 =>
     some r_7_7
    else
     (Kma (ty0,0)) >>= fun r_8_1 =>
     (Kmb r_8_1) >>= fun r_8_2 =>
     some r_8_2
 partial_fixpoint
def Kmc (p:K00 × (List Int)):Option (Int) :=
 match p with
 | (s0,ty1) =>
  (
   (Km9 (s0,ty1)) >>= fun r_1_2 =>
   if r_1_2=true then
    (Kmb ty1) >>= fun r_1_6 =>
    some ((decide (r_1_6 > 300)))
   else
    some (true)
  ) >>= fun v_1 =>
  if v_1=true then
   some (-1)
  else
   (Kmb ty1) >>= fun r_3_1 =>
   some r_3_1
def Kmd (p:K00 × K02 × Int):Option (Bool) :=
 match p with
 | (s0,t1,n2) =>
  (
   (Kal s0) >>= fun r_1_1 =>
   if r_1_1=true then
    (K82 (n2,0,8)) >>= fun r_1_4 =>
    if r_1_4=true then
     (Klx (t1,400)) >>= fun r_1_8 =>
     if (decide (r_1_8 ≥ 0))=true then
      (Km4 (t1,n2,s0.fSize,true)) >>= fun r_1_16 =>
      some (r_1_16)
     else
      some (false)
    else
     some (false)
   else
    some (false)
  ) >>= fun v_1 =>
  some v_1
def Kme (p:(List Int) × (List Int) × Int):Option ((Unit) ⊕ (Bool)) :=
 match p with
 | (a0,b1,i_4) =>
  if (decide (i_4 < (a0.length:Int)))=true then
   (idx a0 i_4) >>= fun e_6_2 =>
   (idx b1 i_4) >>= fun e_6_6 =>
   if (e_6_2 != e_6_6)=true then
    some (.inr false)
   else
    Kme (a0,b1,(wr (i_4 + 1)))
  else
   some (.inl ())
 partial_fixpoint
def Kmf (p:(List Int) × (List Int)):Option (Bool) :=
 match p with
 | (a0,b1) =>
  if ((a0.length:Int) != (b1.length:Int))=true then
   some false
  else
   (Kme (a0,b1,0)) >>= fun fl=>match fl with
   | .inl () =>
    some true
   | .inr r =>
    some r
def Kmg (p:(List Int) × K02):Option (Bool) :=
 match p with
 | (ty0,v1) =>
  (idx ty0 0) >>= fun e_1_1 =>
  if (e_1_1 == 0)=true then
   some (v1.fOp == 1)
  else
   if (e_1_1 == 1)=true then
    (
     if (v1.fOp == 4)=true then
      (Kma (ty0,0)) >>= fun r_5_5 =>
      (idx v1.fKids 0) >>= fun e_5_8 =>
      (Kmg (r_5_5,e_5_8)) >>= fun r_5_10 =>
      if r_5_10=true then
       (Kma (ty0,1)) >>= fun r_5_14 =>
       (idx v1.fKids 1) >>= fun e_5_17 =>
       (Kmg (r_5_14,e_5_17)) >>= fun r_5_19 =>
       some (r_5_19)
      else
       some (false)
     else
      some (false)
    ) >>= fun v_3 =>
    some v_3
   else
    (
     if (e_1_1 == 2)=true then
      some ((v1.fOp == 6))
     else
      some (false)
    ) >>= fun v_5 =>
    if v_5=true then
     (
      (Kma (ty0,1)) >>= fun r_7_3 =>
      (Kmf (v1.fType,r_7_3)) >>= fun r_7_4 =>
      if r_7_4=true then
       (Kma (ty0,0)) >>= fun r_7_7 =>
       (idx v1.fKids 0) >>= fun e_7_10 =>
       (Kmg (r_7_7,e_7_10)) >>= fun r_7_12 =>
       some (r_7_12)
      else
       some (false)
     ) >>= fun v_8 =>
     some v_8
    else
     if (e_1_1 == 2)=true then
      (
       if (v1.fOp == 7)=true then
        (Kma (ty0,0)) >>= fun r_9_7 =>
        (Kmf (v1.fType,r_9_7)) >>= fun r_9_8 =>
        if r_9_8=true then
         (Kma (ty0,1)) >>= fun r_9_12 =>
         (idx v1.fKids 0) >>= fun e_9_15 =>
         (Kmg (r_9_12,e_9_15)) >>= fun r_9_17 =>
         some (r_9_17)
        else
         some (false)
       else
        some (false)
      ) >>= fun v_11 =>
      some v_11
     else
      (
       if (v1.fOp == 11)=true then
        (Klg e_1_1) >>= fun r_10_7 =>
        if (v1.fN == r_10_7)=true then
         (Kma (ty0,0)) >>= fun r_10_12 =>
         (idx v1.fKids 0) >>= fun e_10_15 =>
         (Kmg (r_10_12,e_10_15)) >>= fun r_10_17 =>
         some (r_10_17)
        else
         some (false)
       else
        some (false)
      ) >>= fun v_13 =>
      some v_13
 partial_fixpoint
def Kmh (p:K00 × (List Int) × K02):Option (Bool) :=
 match p with
 | (s0,ty1,v2) =>
  (
   (Km9 (s0,ty1)) >>= fun r_1_2 =>
   if r_1_2=true then
    (Kmd (s0,v2,0)) >>= fun r_1_6 =>
    if r_1_6=true then
     (Kmg (ty1,v2)) >>= fun r_1_11 =>
     some (r_1_11)
    else
     some (false)
   else
    some (false)
  ) >>= fun v_1 =>
  some v_1
structure Kmi where
 fty:List Int
 fneeds:List Int
 ffault:Int
 fpath:List Int
 deriving Inhabited
def Kmj (p:K00 × (List (List Int)) × Int):Option ((Unit) ⊕ (Bool)) :=
 match p with
 | (s0,ctx1,i_6) =>
  if (decide (i_6 < (ctx1.length:Int)))=true then
   ((
    (idx ctx1 i_6) >>= fun e_6_2 =>
    (Kld e_6_2) >>= fun r_6_4 =>
    if r_6_4=true then
     (idx ctx1 i_6) >>= fun e_6_9 =>
     (Klo (e_6_9,s0.fSize,true)) >>= fun r_6_13 =>
     some ((!r_6_13))
    else
     some (true)
   ):Option (Bool)) >>= fun v_8 =>
   if v_8=true then
    some (.inr false)
   else
    Kmj (s0,ctx1,(wr (i_6 + 1)))
  else
   some (.inl ())
 partial_fixpoint
def Kmk (p:K00 × (List (List Int))):Option (Bool) :=
 match p with
 | (s0,ctx1) =>
  if (decide ((ctx1.length:Int) > 8))=true then
   some false
  else
   (Kmj (s0,ctx1,0)) >>= fun fl=>match fl with
   | .inl () =>
    some true
   | .inr r =>
    some r
def Kml (p:K00 × (List (List Int)) × K02):Option (Bool) :=
 match p with
 | (s0,ctx1,t2) =>
  ((
   (Kal s0) >>= fun r_1_1 =>
   if r_1_1=true then
    (Kmk (s0,ctx1)) >>= fun r_1_5 =>
    if r_1_5=true then
     (Kmd (s0,t2,(ctx1.length:Int))) >>= fun r_1_12 =>
     some (r_1_12)
    else
     some (false)
   else
    some (false)
  ):Option (Bool)) >>= fun v_1 =>
  some v_1
def Kmm (n0:Int):Option ((List Int)) :=
  (chk (0 ≤ n0∧(Int.toNat n0) * 8 ≤ 140737488355328)) >>= fun _ =>
  some (List.replicate (Int.toNat n0) 0)
def Kmn (p:(List (List Int)) × (List (List Int))):Option ((List (List Int))) :=
 match p with
 | (ctx0,front1) =>
  (Qdq (([]:List (List Int)).length + front1.length) 24) >>= fun _ =>
  (Qdq (front1.length + ctx0.length) 24) >>= fun _ =>
  some (front1 ++ ctx0)
def Kmo (fault0:Int):Option (Kmi) :=
  some (Kmi.mk [] [] fault0 [])
def Kmp (p:K00 × (List Int) × Int × (List Int) × (List Int) × Int):Option ((List Int)) :=
 match p with
 | (s0,a1,g2,b3,out_2,i_3) =>
  if (decide (i_3 < (a1.length:Int)))=true then
   (idx a1 i_3) >>= fun e_5_4 =>
   (idx b3 i_3) >>= fun e_5_10 =>
   (K9h (s0,g2,e_5_10)) >>= fun r_5_12 =>
   (K9a (s0,e_5_4,r_5_12)) >>= fun r_5_13 =>
   (Qdq (out_2.length + [r_5_13].length) 8) >>= fun _ =>
   Kmp (s0,a1,g2,b3,(out_2 ++ [r_5_13]),(wr (i_3 + 1)))
  else
   some (out_2)
 partial_fixpoint
def Kmq (p:K00 × (List Int) × Int × (List Int)):Option ((List Int)) :=
 match p with
 | (s0,a1,g2,b3) =>
  (Kmp (s0,a1,g2,b3,[],0)) >>= fun out_5 =>
  some out_5
def Kmr (p:(List Int) × (List Int)):Option (Kmi) :=
 match p with
 | (ty0,needs1) =>
  if (decide ((ty0.length:Int) > 40))=true then
   (Kmo 3) >>= fun r_2_0 =>
   some r_2_0
  else
   some (Kmi.mk ty0 needs1 0 [])
def Kms (p:K00 × (List Int) × (List Int) × (List Int) × Int):Option ((List Int)) :=
 match p with
 | (s0,a1,b2,out_2,i_3) =>
  if (decide (i_3 < (a1.length:Int)))=true then
   (idx a1 i_3) >>= fun e_5_4 =>
   (idx b2 i_3) >>= fun e_5_8 =>
   (K9y (s0,e_5_4,e_5_8)) >>= fun r_5_10 =>
   (Qdq (out_2.length + [r_5_10].length) 8) >>= fun _ =>
   Kms (s0,a1,b2,(out_2 ++ [r_5_10]),(wr (i_3 + 1)))
  else
   some (out_2)
 partial_fixpoint
def Kmt (p:K00 × (List Int) × (List Int)):Option ((List Int)) :=
 match p with
 | (s0,a1,b2) =>
  (Kms (s0,a1,b2,[],0)) >>= fun out_5 =>
  some out_5
mutual
def Kmu (p:K00 × (List (List Int)) × K02):Option (Kmi) :=
 match p with
 | (s0,ctx1,t2) =>
  if (t2.fOp == 0)=true then
   (Kmm (ctx1.length:Int)) >>= fun r_3_2 =>
   (idx r_3_2 t2.fN) >>= fun e_4_3 =>
   (idx ctx1 t2.fN) >>= fun e_5_3 =>
   (Km6 e_5_3) >>= fun r_5_5 =>
   some (Kmi.mk r_5_5 (List.set r_3_2 (Int.toNat t2.fN) 1) 0 [])
  else
   if (t2.fOp == 1)=true then
    (Kmm (ctx1.length:Int)) >>= fun r_7_3 =>
    some (Kmi.mk [0] r_7_3 0 [])
   else
    ((
     if (t2.fOp == 9)=true then
      (Kmn (ctx1,[t2.fType])) >>= fun r_10_4 =>
      some (r_10_4)
     else
      some (ctx1)
    ):Option ((List (List Int)))) >>= fun inner_5 =>
    (Kmw (s0,inner_5,t2,0)) >>= fun r_11_3 =>
    if (r_11_3.ffault != 0)=true then
     some r_11_3
    else
     ((
      if (t2.fOp == 2)=true then
       some ((t2.fOp == 2))
      else
       some ((t2.fOp == 3))
     ):Option (Bool)) >>= fun j_9 =>
     if j_9=true then
      (idx r_11_3.fty 0) >>= fun e_17_2 =>
      if (e_17_2 != 0)=true then
       (Kmo 2) >>= fun r_18_0 =>
       some r_18_0
      else
       (Kmx (s0,ctx1,t2,r_11_3)) >>= fun r_19_4 =>
       some r_19_4
     else
      if (t2.fOp == 4)=true then
       (Kmw (s0,ctx1,t2,1)) >>= fun r_21_3 =>
       if (r_21_3.ffault != 0)=true then
        some r_21_3
       else
        (Kbu (1,[r_11_3.fty,r_21_3.fty])) >>= fun r_24_5 =>
        (Kmq (s0,r_11_3.fneeds,1,r_21_3.fneeds)) >>= fun r_24_11 =>
        (Kmr (r_24_5,r_24_11)) >>= fun r_24_12 =>
        some r_24_12
      else
       if (t2.fOp == 6)=true then
        (Kbu (2,[r_11_3.fty,t2.fType])) >>= fun r_26_5 =>
        (Kmr (r_26_5,r_11_3.fneeds)) >>= fun r_26_8 =>
        some r_26_8
       else
        if (t2.fOp == 7)=true then
         (Kbu (2,[t2.fType,r_11_3.fty])) >>= fun r_28_5 =>
         (Kmr (r_28_5,r_11_3.fneeds)) >>= fun r_28_8 =>
         some r_28_8
        else
         if (t2.fOp == 9)=true then
          (idx r_11_3.fneeds 0) >>= fun e_30_3 =>
          (K9k (s0,e_30_3,t2.fN)) >>= fun r_30_7 =>
          if r_30_7=true then
           (Kbu ((wr (3 + t2.fN)),[t2.fType,r_11_3.fty])) >>= fun r_32_8 =>
           (cut r_11_3.fneeds (some 1) none none) >>= fun c_32_11 =>
           (Km6 c_32_11) >>= fun r_32_12 =>
           (Kmr (r_32_8,r_32_12)) >>= fun r_32_13 =>
           some r_32_13
          else
           (Kmo 9) >>= fun r_31_0 =>
           some r_31_0
         else
          if (t2.fOp == 11)=true then
           (Kbu ((wr (19 + t2.fN)),[r_11_3.fty])) >>= fun r_34_6 =>
           (Kmm (ctx1.length:Int)) >>= fun r_34_10 =>
           (Kmq (s0,r_34_10,t2.fN,r_11_3.fneeds)) >>= fun r_34_15 =>
           (Kmr (r_34_6,r_34_15)) >>= fun r_34_16 =>
           some r_34_16
          else
           if (t2.fOp == 10)=true then
            (idx r_11_3.fty 0) >>= fun e_36_2 =>
            (Kkx e_36_2) >>= fun r_36_4 =>
            if r_36_4=true then
             (Kmw (s0,ctx1,t2,1)) >>= fun r_38_3 =>
             if (r_38_3.ffault != 0)=true then
              some r_38_3
             else
              (Kma (r_11_3.fty,0)) >>= fun r_41_4 =>
              (Kmf (r_38_3.fty,r_41_4)) >>= fun r_41_5 =>
              if r_41_5=true then
               (Kma (r_11_3.fty,1)) >>= fun r_43_2 =>
               (idx r_11_3.fty 0) >>= fun e_43_8 =>
               (Klg e_43_8) >>= fun r_43_10 =>
               (Kmq (s0,r_11_3.fneeds,r_43_10,r_38_3.fneeds)) >>= fun r_43_13 =>
               some (Kmi.mk r_43_2 r_43_13 0 [])
              else
               (Kmo 3) >>= fun r_42_0 =>
               some r_42_0
            else
             (Kmo 6) >>= fun r_37_0 =>
             some r_37_0
           else
            (Kmv (s0,ctx1,t2,r_11_3)) >>= fun r_44_4 =>
            some r_44_4
 partial_fixpoint
def Kmv (p:K00 × (List (List Int)) × K02 × Kmi):Option (Kmi) :=
 match p with
 | (s0,ctx1,t2,a3) =>
  (idx a3.fty 0) >>= fun e_1_2 =>
  ((
   if (t2.fOp == 5)=true then
    some ((e_1_2 != 1))
   else
    some (false)
  ):Option (Bool)) >>= fun v_1 =>
  if v_1=true then
   (Kmo 4) >>= fun r_3_0 =>
   some r_3_0
  else
   ((
    if (t2.fOp == 8)=true then
     some ((e_1_2 != 2))
    else
     some (false)
   ):Option (Bool)) >>= fun v_4 =>
   if v_4=true then
    (Kmo 5) >>= fun r_5_0 =>
    some r_5_0
   else
    ((
     if (t2.fOp == 12)=true then
      (Kl0 e_1_2) >>= fun r_6_5 =>
      some ((!r_6_5))
     else
      some (false)
    ):Option (Bool)) >>= fun v_7 =>
    if v_7=true then
     (Kmo 7) >>= fun r_7_0 =>
     some r_7_0
    else
     (K9k (s0,1,t2.fN)) >>= fun r_8_3 =>
     if r_8_3=true then
      (Kma (a3.fty,0)) >>= fun r_10_2 =>
      ((
       if (t2.fOp == 5)=true then
        (Kma (a3.fty,1)) >>= fun r_12_2 =>
        (Kma (a3.fty,0)) >>= fun r_12_5 =>
        some ([r_12_2,r_12_5])
       else
        some ([r_10_2])
      ):Option ((List (List Int)))) >>= fun front_12 =>
      (Kmn (ctx1,front_12)) >>= fun r_13_3 =>
      (Kmw (s0,r_13_3,t2,1)) >>= fun r_13_5 =>
      if (r_13_5.ffault != 0)=true then
       some r_13_5
      else
       (cut r_13_5.fneeds (some (front_12.length:Int)) none none) >>= fun c_18_3 =>
       (Km6 c_18_3) >>= fun r_18_4 =>
       ((
        if (t2.fOp == 12)=true then
         (Klg e_1_2) >>= fun r_22_4 =>
         (K9h (s0,t2.fN,r_22_4)) >>= fun r_22_5 =>
         some (.inl (r_22_5,r_18_4,true))
        else
         ((
          if (t2.fOp == 5)=true then
           (idx r_13_5.fneeds 1) >>= fun e_24_3 =>
           (K9k (s0,e_24_3,t2.fN)) >>= fun r_24_6 =>
           some (.inl (r_18_4,r_24_6))
          else
           ((
            if (t2.fOp == 8)=true then
             (Kma (a3.fty,1)) >>= fun r_26_4 =>
             (Kmn (ctx1,[r_26_4])) >>= fun r_26_6 =>
             (Kmw (s0,r_26_6,t2,2)) >>= fun r_26_8 =>
             if (r_26_8.ffault != 0)=true then
              some (.inr r_26_8)
             else
              (Kmf (r_13_5.fty,r_26_8.fty)) >>= fun r_29_4 =>
              if r_29_4=true then
               (idx r_26_8.fneeds 0) >>= fun e_31_3 =>
               (K9k (s0,e_31_3,t2.fN)) >>= fun r_31_6 =>
               (cut r_26_8.fneeds (some 1) none none) >>= fun c_32_4 =>
               (Kmt (s0,r_18_4,c_32_4)) >>= fun r_32_5 =>
               some (.inl (r_32_5,r_31_6))
              else
               (Kmo 3) >>= fun r_30_0 =>
               some (.inr r_30_0)
            else
             some (.inl (r_18_4,true))):Option (((List Int) × Bool) ⊕ (Kmi))) >>= fun fl=>match fl with
           | .inl (rest_20,ok_21) =>
            some (.inl (rest_20,ok_21))
           | .inr r =>
            some (.inr r)):Option (((List Int) × Bool) ⊕ (Kmi))) >>= fun fl=>match fl with
         | .inl (rest_24,ok_23) =>
          some (.inl (t2.fN,rest_24,ok_23))
         | .inr r =>
          some (.inr r)):Option ((Int × (List Int) × Bool) ⊕ (Kmi))) >>= fun fl=>match fl with
       | .inl (most_26,rest_27,ok_28) =>
        ((
         if ok_28=true then
          (idx r_13_5.fneeds 0) >>= fun e_33_6 =>
          (K9k (s0,e_33_6,most_26)) >>= fun r_33_9 =>
          some ((!r_33_9))
         else
          some (true)
        ):Option (Bool)) >>= fun v_30 =>
        if v_30=true then
         (Kmo 9) >>= fun r_34_0 =>
         some r_34_0
        else
         (Kmm (ctx1.length:Int)) >>= fun r_35_6 =>
         (Kmq (s0,r_35_6,t2.fN,a3.fneeds)) >>= fun r_35_11 =>
         (Kmq (s0,r_35_11,1,rest_27)) >>= fun r_35_13 =>
         some (Kmi.mk r_13_5.fty r_35_13 0 [])
       | .inr r =>
        some r
     else
      (Kmo 8) >>= fun r_9_0 =>
      some r_9_0
 partial_fixpoint
def Kmw (p:K00 × (List (List Int)) × K02 × Int):Option (Kmi) :=
 match p with
 | (s0,ctx1,t2,k3) =>
  (idx t2.fKids k3) >>= fun e_1_5 =>
  (Kmu (s0,ctx1,e_1_5)) >>= fun r_1_7 =>
  ((
   if (r_1_7.ffault != 0)=true then
    (Qdq ([k3].length + r_1_7.fpath.length) 8) >>= fun _ =>
    some (([k3] ++ r_1_7.fpath))
   else
    some (r_1_7.fpath)
  ):Option ((List Int))) >>= fun x_2 =>
  some (Kmi.mk r_1_7.fty r_1_7.fneeds r_1_7.ffault x_2)
 partial_fixpoint
def Kmx (p:K00 × (List (List Int)) × K02 × Kmi):Option (Kmi) :=
 match p with
 | (s0,ctx1,t2,a3) =>
  (Kmw (s0,ctx1,t2,1)) >>= fun r_1_3 =>
  if (r_1_3.ffault != 0)=true then
   some r_1_3
  else
   if (t2.fOp == 2)=true then
    (idx r_1_3.fty 0) >>= fun e_5_2 =>
    if (e_5_2 != 0)=true then
     (Kmo 2) >>= fun r_6_0 =>
     some r_6_0
    else
     (Kmq (s0,a3.fneeds,1,r_1_3.fneeds)) >>= fun r_7_7 =>
     some (Kmi.mk r_1_3.fty r_7_7 0 [])
   else
    (Kmw (s0,ctx1,t2,2)) >>= fun r_8_3 =>
    if (r_8_3.ffault != 0)=true then
     some r_8_3
    else
     (Kmf (r_1_3.fty,r_8_3.fty)) >>= fun r_11_4 =>
     if r_11_4=true then
      (Kmt (s0,r_1_3.fneeds,r_8_3.fneeds)) >>= fun r_13_10 =>
      (Kmq (s0,a3.fneeds,1,r_13_10)) >>= fun r_13_11 =>
      some (Kmi.mk r_1_3.fty r_13_11 0 [])
     else
      (Kmo 3) >>= fun r_12_0 =>
      some r_12_0
 partial_fixpoint
end
def Kmy (p:K00 × (List (List Int)) × K02):Option ((List Int) × (List Int) × Bool) :=
 match p with
 | (s0,ctx1,t2) =>
  (Kml (s0,ctx1,t2)) >>= fun r_1_3 =>
  if r_1_3=true then
   (Kmu (s0,ctx1,t2)) >>= fun r_3_3 =>
   if (r_3_3.ffault != 0)=true then
    some ([],[],false)
   else
    some (r_3_3.fty,r_3_3.fneeds,true)
  else
   some ([],[],false)
end Go.Am
