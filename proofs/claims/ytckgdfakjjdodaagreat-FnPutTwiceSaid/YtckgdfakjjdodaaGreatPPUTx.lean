/- Pure functions. -/
import Derived.Test.YtckgdfakjjdodaaGreatGPUTF10
set_option linter.unusedVariables false
namespace Go.Am
def Kmh (p:K02 × Int):Option (Bool) :=
 match p with
 | (s0,g1) =>
  (Kic (g1,0,(wr (s0.fSize - 1)))) >>= fun r_1_4 =>
  some r_1_4
def Kmi (p:K02 × Int × Int):Option (Int) :=
 match p with
 | (s0,a1,b2) =>
  (idx s0.fPlus (wr ((wr (a1 * s0.fSize)) + b2))) >>= fun e_1_8 =>
  some e_1_8
def Kmj (p:K02 × Int × Int):Option (Int) :=
 match p with
 | (s0,a1,b2) =>
  (idx s0.fTimes (wr ((wr (a1 * s0.fSize)) + b2))) >>= fun e_1_8 =>
  some e_1_8
def Kmk (p:K02 × Int × Int):Option (Bool) :=
 match p with
 | (s0,a1,b2) =>
  (idx s0.fBelow (wr ((wr (a1 * s0.fSize)) + b2))) >>= fun e_1_8 =>
  some e_1_8
def Kml (p:K02 × Int × Int × Int × Bool × Int):Option (Bool) :=
 match p with
 | (s0,a1,b2,g_17,least_25,h_26) =>
  if (decide (h_26 < s0.fSize))=true then
   (
    if least_25=true then
     (Kmk (s0,a1,h_26)) >>= fun r_9_5 =>
     if r_9_5=true then
      (Kmk (s0,b2,h_26)) >>= fun r_9_11 =>
      if r_9_11=true then
       (Kmk (s0,g_17,h_26)) >>= fun r_9_18 =>
       some (r_9_18)
      else
       some (true)
     else
      some (true)
    else
     some (false)
   ) >>= fun least_28 =>
   Kml (s0,a1,b2,g_17,least_28,(wr (h_26 + 1)))
  else
   some (least_25)
 partial_fixpoint
def Kmm (p:K02 × Int × Int × Int):Option ((Unit) ⊕ (Int)) :=
 match p with
 | (s0,a1,b2,g_17) =>
  if (decide (g_17 < s0.fSize))=true then
   ((
    (
     (Kmk (s0,a1,g_17)) >>= fun r_4_3 =>
     if r_4_3=true then
      (Kmk (s0,b2,g_17)) >>= fun r_4_9 =>
      some ((!r_4_9))
     else
      some (true)
    ) >>= fun v_19 =>
    if v_19=true then
     some (.inl ())
    else
     (Kml (s0,a1,b2,g_17,true,0)) >>= fun least_30 =>
     if least_30=true then
      some (.inr g_17)
     else
      some (.inl ())):Option ((Unit) ⊕ (Int))) >>= fun fl=>match fl with
   | .inl () =>
    Kmm (s0,a1,b2,(wr (g_17 + 1)))
   | .inr r =>
    some (.inr r)
  else
   some (.inl ())
 partial_fixpoint
def Kmn (p:K02 × Int × Int):Option (Int) :=
 match p with
 | (s0,a1,b2) =>
  (Kmm (s0,a1,b2,0)) >>= fun fl=>match fl with
  | .inl () =>
   some (-1)
  | .inr r =>
   some r
def Kmo (p:K02 × Int × Int × Int):Option (Bool) :=
 match p with
 | (s0,a1,b2,c3) =>
  (
   (Kmi (s0,a1,b2)) >>= fun r_1_4 =>
   (Kmi (s0,r_1_4,c3)) >>= fun r_1_6 =>
   (Kmi (s0,b2,c3)) >>= fun r_1_12 =>
   (Kmi (s0,a1,r_1_12)) >>= fun r_1_13 =>
   if (r_1_6 != r_1_13)=true then
    some (true)
   else
    (Kmj (s0,a1,b2)) >>= fun r_1_20 =>
    (Kmj (s0,r_1_20,c3)) >>= fun r_1_22 =>
    (Kmj (s0,b2,c3)) >>= fun r_1_28 =>
    (Kmj (s0,a1,r_1_28)) >>= fun r_1_29 =>
    some ((r_1_22 != r_1_29))
  ) >>= fun v_1 =>
  if v_1=true then
   some false
  else
   (
    (Kmi (s0,b2,c3)) >>= fun r_3_5 =>
    (Kmj (s0,a1,r_3_5)) >>= fun r_3_6 =>
    (Kmj (s0,a1,b2)) >>= fun r_3_11 =>
    (Kmj (s0,a1,c3)) >>= fun r_3_15 =>
    (Kmi (s0,r_3_11,r_3_15)) >>= fun r_3_16 =>
    if (r_3_6 != r_3_16)=true then
     some (true)
    else
     (Kmi (s0,a1,b2)) >>= fun r_3_23 =>
     (Kmj (s0,r_3_23,c3)) >>= fun r_3_25 =>
     (Kmj (s0,a1,c3)) >>= fun r_3_30 =>
     (Kmj (s0,b2,c3)) >>= fun r_3_34 =>
     (Kmi (s0,r_3_30,r_3_34)) >>= fun r_3_35 =>
     some ((r_3_25 != r_3_35))
   ) >>= fun v_4 =>
   if v_4=true then
    some false
   else
    (
     (Kmk (s0,a1,b2)) >>= fun r_5_3 =>
     if r_5_3=true then
      (Kmk (s0,b2,c3)) >>= fun r_5_8 =>
      if r_5_8=true then
       (Kmk (s0,a1,c3)) >>= fun r_5_14 =>
       some ((!r_5_14))
      else
       some (false)
     else
      some (false)
    ) >>= fun v_7 =>
    if v_7=true then
     some false
    else
     (
      (Kmk (s0,a1,b2)) >>= fun r_7_3 =>
      if r_7_3=true then
       (Kmi (s0,a1,c3)) >>= fun r_7_10 =>
       (Kmi (s0,b2,c3)) >>= fun r_7_14 =>
       (Kmk (s0,r_7_10,r_7_14)) >>= fun r_7_15 =>
       if r_7_15=true then
        (Kmj (s0,a1,c3)) >>= fun r_7_21 =>
        (Kmj (s0,b2,c3)) >>= fun r_7_25 =>
        (Kmk (s0,r_7_21,r_7_25)) >>= fun r_7_26 =>
        if r_7_26=true then
         (Kmj (s0,c3,a1)) >>= fun r_7_33 =>
         (Kmj (s0,c3,b2)) >>= fun r_7_37 =>
         (Kmk (s0,r_7_33,r_7_37)) >>= fun r_7_38 =>
         some (r_7_38)
        else
         some (false)
       else
        some (false)
      else
       some (true)
     ) >>= fun v_10 =>
     some v_10
def Kmp (p:K02 × Int):Option ((Unit) ⊕ (Bool)) :=
 match p with
 | (s0,w_8) =>
  if (decide (w_8 < (s0.fPlus.length:Int)))=true then
   (
    (idx s0.fPlus w_8) >>= fun e_7_4 =>
    (Kmh (s0,e_7_4)) >>= fun r_7_6 =>
    if r_7_6=true then
     (idx s0.fTimes w_8) >>= fun e_7_13 =>
     (Kmh (s0,e_7_13)) >>= fun r_7_15 =>
     some ((!r_7_15))
    else
     some (true)
   ) >>= fun v_10 =>
   if v_10=true then
    some (.inr false)
   else
    Kmp (s0,(wr (w_8 + 1)))
  else
   some (.inl ())
 partial_fixpoint
def Kmq (p:K02 × Int × Int × Int):Option ((Unit) ⊕ (Bool)) :=
 match p with
 | (s0,a_40,b_55,c_62) =>
  if (decide (c_62 < s0.fSize))=true then
   (Kmo (s0,a_40,b_55,c_62)) >>= fun r_23_4 =>
   if r_23_4=true then
    Kmq (s0,a_40,b_55,(wr (c_62 + 1)))
   else
    some (.inr false)
  else
   some (.inl ())
 partial_fixpoint
def Kmr (p:K02 × Int × Int):Option ((Unit) ⊕ (Bool)) :=
 match p with
 | (s0,a_40,b_55) =>
  if (decide (b_55 < s0.fSize))=true then
   (
    (Kmi (s0,a_40,b_55)) >>= fun r_18_3 =>
    (Kmi (s0,b_55,a_40)) >>= fun r_18_7 =>
    if (r_18_3 != r_18_7)=true then
     some (true)
    else
     if (a_40 != b_55)=true then
      (Kmk (s0,a_40,b_55)) >>= fun r_18_17 =>
      if r_18_17=true then
       (Kmk (s0,b_55,a_40)) >>= fun r_18_23 =>
       if r_18_23=true then
        some (true)
       else
        (Kmn (s0,a_40,b_55)) >>= fun r_18_30 =>
        some ((decide (r_18_30 < 0)))
      else
       (Kmn (s0,a_40,b_55)) >>= fun r_18_30 =>
       some ((decide (r_18_30 < 0)))
     else
      (Kmn (s0,a_40,b_55)) >>= fun r_18_30 =>
      some ((decide (r_18_30 < 0)))
   ) >>= fun v_57 =>
   if v_57=true then
    some (.inr false)
   else
    (Kmq (s0,a_40,b_55,0)) >>= fun fl=>match fl with
    | .inl () =>
     Kmr (s0,a_40,(wr (b_55 + 1)))
    | .inr r =>
     some (.inr r)
  else
   some (.inl ())
 partial_fixpoint
def Kms (p:K02 × Int):Option ((Unit) ⊕ (Bool)) :=
 match p with
 | (s0,a_40) =>
  if (decide (a_40 < s0.fSize))=true then
   (
    (Kmi (s0,0,a_40)) >>= fun r_13_2 =>
    if (r_13_2 != a_40)=true then
     some (true)
    else
     (Kmj (s0,1,a_40)) >>= fun r_13_8 =>
     if (r_13_8 != a_40)=true then
      some (true)
     else
      (Kmj (s0,a_40,1)) >>= fun r_13_15 =>
      if (r_13_15 != a_40)=true then
       some (true)
      else
       (Kmj (s0,0,a_40)) >>= fun r_13_22 =>
       if (r_13_22 != 0)=true then
        some (true)
       else
        (Kmj (s0,a_40,0)) >>= fun r_13_28 =>
        if (r_13_28 != 0)=true then
         some (true)
        else
         (Kmk (s0,a_40,a_40)) >>= fun r_13_35 =>
         some ((!r_13_35))
   ) >>= fun v_42 =>
   if v_42=true then
    some (.inr false)
   else
    (Kmr (s0,a_40,0)) >>= fun fl=>match fl with
    | .inl () =>
     Kms (s0,(wr (a_40 + 1)))
    | .inr r =>
     some (.inr r)
  else
   some (.inl ())
 partial_fixpoint
def Kmt (s0:K02):Option (Bool) :=
  (
   (Kic (s0.fSize,2,16)) >>= fun r_2_1 =>
   if r_2_1=true then
    if ((s0.fPlus.length:Int) != (wr (s0.fSize * s0.fSize)))=true then
     some (true)
    else
     if ((s0.fTimes.length:Int) != (wr (s0.fSize * s0.fSize)))=true then
      some (true)
     else
      some (((s0.fBelow.length:Int) != (wr (s0.fSize * s0.fSize))))
   else
    some (true)
  ) >>= fun v_1 =>
  if v_1=true then
   some false
  else
   (Kmp (s0,0)) >>= fun fl=>match fl with
   | .inl () =>
    (Kms (s0,0)) >>= fun fl=>match fl with
    | .inl () =>
     some true
    | .inr r =>
     some r
   | .inr r =>
    some r
def Kmu (p:K02 × (List Int) × Int):Option ((Unit) ⊕ (Bool)) :=
 match p with
 | (s0,ty1,w_6) =>
  if (decide (w_6 < (ty1.length:Int)))=true then
   (idx ty1 w_6) >>= fun e_5_0 =>
   (Kil e_5_0) >>= fun (r_6_1_0,r_6_1_1) =>
   (
    if (r_6_1_0 == 3)=true then
     (Kmh (s0,r_6_1_1)) >>= fun r_7_9 =>
     some ((!r_7_9))
    else
     if (r_6_1_0 == 4)=true then
      (Kmh (s0,r_6_1_1)) >>= fun r_7_9 =>
      some ((!r_7_9))
     else
      some (false)
   ) >>= fun v_8 =>
   if v_8=true then
    some (.inr false)
   else
    Kmu (s0,ty1,(wr (w_6 + 1)))
  else
   some (.inl ())
 partial_fixpoint
def Kmv (p:K02 × (List Int)):Option (Bool) :=
 match p with
 | (s0,ty1) =>
  (Kir ty1) >>= fun r_1_1 =>
  if r_1_1=true then
   (Kmu (s0,ty1,0)) >>= fun fl=>match fl with
   | .inl () =>
    some true
   | .inr r =>
    some r
  else
   some false
def Kmw (c0:Int):Option (Bool) :=
  (Kil c0) >>= fun (r_1_1_0,r_1_1_1) =>
  some (r_1_1_0 == 3)
def Kmx (p:(List Int) × Int):Option ((Unit) ⊕ (Int)) :=
 match p with
 | (s0,w_3) =>
  if (decide (w_3 < (s0.length:Int)))=true then
   (idx s0 w_3) >>= fun e_4_3 =>
   (Kmw e_4_3) >>= fun r_4_5 =>
   if r_4_5=true then
    some (.inr w_3)
   else
    Kmx (s0,(wr (w_3 + 1)))
  else
   some (.inl ())
 partial_fixpoint
def Kmy (s0:(List Int)):Option (Int) :=
  (Kmx (s0,0)) >>= fun fl=>match fl with
  | .inl () =>
   some (-1)
  | .inr r =>
   some r
def Kmz (s0:(List Int)):Option (Bool) :=
  (Kmy s0) >>= fun r_1_2 =>
  some (decide (r_1_2 ≥ 0))
def Kn0 (p:K02 × (List Int)):Option (Bool) :=
 match p with
 | (s0,ty1) =>
  (
   (Kmv (s0,ty1)) >>= fun r_1_2 =>
   if r_1_2=true then
    (Kmz ty1) >>= fun r_1_5 =>
    some ((!r_1_5))
   else
    some (false)
  ) >>= fun v_1 =>
  some v_1
def Kn1 (p:K02 × (List Int)):Option (Bool) :=
 match p with
 | (s0,ty1) =>
  (
   (Kn0 (s0,ty1)) >>= fun r_1_2 =>
   if r_1_2=true then
    (Kmt s0) >>= fun r_1_5 =>
    some (r_1_5)
   else
    some (false)
  ) >>= fun v_1 =>
  some v_1
def Kn2 (p:(List Int) × (List (List Int)) × Int):Option ((List (List Int))) :=
 match p with
 | (ty0,out_4,at_2) =>
  if (decide (at_2 < (ty0.length:Int)))=true then
   (Kio (ty0,at_2)) >>= fun r_4_2 =>
   (cut ty0 (some at_2) (some r_4_2) (some r_4_2)) >>= fun c_5_5 =>
   (Qdw (out_4.length + [c_5_5].length) 24) >>= fun _ =>
   Kn2 (ty0,(out_4 ++ [c_5_5]),r_4_2)
  else
   some (out_4)
 partial_fixpoint
def Kn3 (ty0:(List Int)):Option ((List (List Int))) :=
  (Kn2 (ty0,[],1)) >>= fun out_6 =>
  some out_6
def Kn4 (ty0:(List Int)):Option (Int) :=
  (idx ty0 0) >>= fun e_1_1 =>
  (Kil e_1_1) >>= fun (r_1_3_0,r_1_3_1) =>
  (Kn3 ty0) >>= fun r_2_1 =>
  (
   if (r_1_3_0 == 1)=true then
    (idx r_2_1 0) >>= fun e_6_1 =>
    (Kn4 e_6_1) >>= fun r_6_3 =>
    (idx r_2_1 1) >>= fun e_6_5 =>
    (Kn4 e_6_5) >>= fun r_6_7 =>
    some ((wr (r_6_3 * r_6_7)))
   else
    (
     if (r_1_3_0 == 2)=true then
      (idx r_2_1 0) >>= fun e_8_1 =>
      (Kn4 e_8_1) >>= fun r_8_3 =>
      (idx r_2_1 1) >>= fun e_8_5 =>
      (Kn4 e_8_5) >>= fun r_8_7 =>
      some ((wr (r_8_3 + r_8_7)))
     else
      (
       if (r_1_3_0 == 4)=true then
        (idx r_2_1 0) >>= fun e_10_1 =>
        (Kn4 e_10_1) >>= fun r_10_3 =>
        some (r_10_3)
       else
        some (3)
      ) >>= fun n_4 =>
      some (n_4)
    ) >>= fun n_6 =>
    some (n_6)
  ) >>= fun n_8 =>
  some (mnx false n_8 301)
 partial_fixpoint
def Kn5 (p:K02 × (List Int)):Option (Int) :=
 match p with
 | (s0,ty1) =>
  (
   (Kn1 (s0,ty1)) >>= fun r_1_2 =>
   if r_1_2=true then
    (Kn4 ty1) >>= fun r_1_6 =>
    some ((decide (r_1_6 > 300)))
   else
    some (true)
  ) >>= fun v_1 =>
  if v_1=true then
   some (-1)
  else
   (Kn4 ty1) >>= fun r_3_1 =>
   some r_3_1
def Kn6 (p:(List Int) × Int):Option (K00) :=
 match p with
 | (ty0,k1) =>
  (idx ty0 0) >>= fun e_1_1 =>
  (Kil e_1_1) >>= fun (r_1_3_0,r_1_3_1) =>
  (Kn3 ty0) >>= fun r_2_1 =>
  if (r_1_3_0 == 1)=true then
   (idx r_2_1 1) >>= fun e_5_1 =>
   (Kn4 e_5_1) >>= fun r_5_3 =>
   (idx r_2_1 0) >>= fun e_6_1 =>
   (chk (r_5_3 ≠ 0)) >>= fun _ =>
   (Kn6 (e_6_1,(wr (Int.tdiv k1 r_5_3)))) >>= fun r_6_6 =>
   (idx r_2_1 1) >>= fun e_6_8 =>
   (chk (r_5_3 ≠ 0)) >>= fun _ =>
   (Kn6 (e_6_8,(Int.tmod k1 r_5_3))) >>= fun r_6_13 =>
   some (K00.mk 4 0 [] [r_6_6,r_6_13])
  else
   if (r_1_3_0 == 2)=true then
    (idx r_2_1 0) >>= fun e_8_1 =>
    (Kn4 e_8_1) >>= fun r_8_3 =>
    if (decide (k1 ≥ r_8_3))=true then
     (idx r_2_1 0) >>= fun e_10_1 =>
     (Kjb e_10_1) >>= fun r_10_3 =>
     (idx r_2_1 1) >>= fun e_10_5 =>
     (Kn6 (e_10_5,(wr (k1 - r_8_3)))) >>= fun r_10_10 =>
     some (K00.mk 7 0 r_10_3 [r_10_10])
    else
     (idx r_2_1 1) >>= fun e_11_1 =>
     (Kjb e_11_1) >>= fun r_11_3 =>
     (idx r_2_1 0) >>= fun e_11_5 =>
     (Kn6 (e_11_5,k1)) >>= fun r_11_8 =>
     some (K00.mk 6 0 r_11_3 [r_11_8])
   else
    if (r_1_3_0 == 4)=true then
     (idx r_2_1 0) >>= fun e_13_2 =>
     (Kn6 (e_13_2,k1)) >>= fun r_13_5 =>
     some (K00.mk 11 r_1_3_1 [] [r_13_5])
    else
     some (K00.mk 1 k1 [] [])
 partial_fixpoint
def Kn7 (p:K02 × (List Int) × Int):Option (K00 × Bool) :=
 match p with
 | (s0,ty1,k2) =>
  (Kn5 (s0,ty1)) >>= fun r_1_3 =>
  (Kic (k2,0,(wr (r_1_3 - 1)))) >>= fun r_1_5 =>
  if r_1_5=true then
   (Kn6 (ty1,k2)) >>= fun r_3_2 =>
   some (r_3_2,true)
  else
   some ((K00.mk 0 0 [] []),false)
structure Kn8 where
 fty:List Int
 fneeds:List Int
 fkids:List Kn8
 ffault:Int
 fpath:List Int
 deriving Inhabited
structure Kn9 where
 fs:K02
 deriving Inhabited
def Kna (p:K00 × Int × (List Int)):Option ((List (List Int))) :=
 match p with
 | (t0,kid1,first2) =>
  if (t0.fOp == 9)=true then
   some [t0.fType]
  else
   (Kiu (t0.fOp,kid1)) >>= fun r_3_3 =>
   if (r_3_3 == 0)=true then
    some []
   else
    (Kn3 first2) >>= fun r_5_1 =>
    if (t0.fOp == 5)=true then
     (idx r_5_1 1) >>= fun e_8_1 =>
     (idx r_5_1 0) >>= fun e_8_4 =>
     some [e_8_1,e_8_4]
    else
     if (t0.fOp == 8)=true then
      (idx r_5_1 (wr (kid1 - 1))) >>= fun e_10_3 =>
      some [e_10_3]
     else
      some r_5_1
def Knb (n1:Int):Option (Unit) :=
  if (decide (n1 < 0))=true then
   none
  else
   if (decide ((wr (n1 - (wr (0 - 0)))) > 0))=true then
    (chk (0 ≤ (wr (n1 - (wr (0 - 0))))∧(Int.toNat (wr (n1 - (wr (0 - 0))))) * 24 ≤ 140737488355328)) >>= fun _ =>
    some ()
   else
    some ()
def Knc (p:(List (List (List Int))) × Int × Int):Option (Int) :=
 match p with
 | (slices0,size_4,w_5) =>
  if (decide (w_5 < (slices0.length:Int)))=true then
   (idx slices0 w_5) >>= fun e_4_0 =>
   ((
    if (decide ((wr (size_4 + (e_4_0.length:Int))) < 0))=true then
     none
    else
     some (())
   ):Option (Unit)) >>= fun () =>
   Knc (slices0,(wr (size_4 + (e_4_0.length:Int))),(wr (w_5 + 1)))
  else
   some (size_4)
 partial_fixpoint
def Knd (p:(List (List (List Int))) × (List (List Int)) × Int):Option ((List (List Int))) :=
 match p with
 | (slices0,newslice_12,w_13) =>
  if (decide (w_13 < (slices0.length:Int)))=true then
   (idx slices0 w_13) >>= fun e_12_0 =>
   (Qdw (newslice_12.length + e_12_0.length) 24) >>= fun _ =>
   Knd (slices0,(newslice_12 ++ e_12_0),(wr (w_13 + 1)))
  else
   some (newslice_12)
 partial_fixpoint
def Kne (slices0:(List (List (List Int)))):Option ((List (List Int))) :=
  (Knc (slices0,0,0)) >>= fun size_9 =>
  (Knb size_9) >>= fun _ =>
  (Knd (slices0,[],0)) >>= fun newslice_15 =>
  some newslice_15
def Knf (p:Kn9 × K00 × Int × (List Int)):Option (Int) :=
 match p with
 | (p0,t1,kid2,ty3) =>
  (idx ty3 0) >>= fun e_1_1 =>
  (Kil e_1_1) >>= fun (r_1_3_0,r_1_3_1) =>
  ((
   if (t1.fOp == 2)=true then
    some ((t1.fOp == 2))
   else
    ((
     if (t1.fOp == 3)=true then
      some ((kid2 == 0))
     else
      some (false)
    ):Option (Bool)) >>= fun v_2 =>
    some (v_2)
  ):Option (Bool)) >>= fun j_4 =>
  ((
   if j_4=true then
    some ((0,2))
   else
    ((
     if (t1.fOp == 5)=true then
      some ((kid2 == 0))
     else
      some (false)
    ):Option (Bool)) >>= fun v_7 =>
    ((
     if v_7=true then
      some ((1,4))
     else
      ((
       if (t1.fOp == 8)=true then
        some ((kid2 == 0))
       else
        some (false)
      ):Option (Bool)) >>= fun v_10 =>
      ((
       if v_10=true then
        some ((2,5))
       else
        ((
         if (t1.fOp == 10)=true then
          some ((kid2 == 0))
         else
          some (false)
        ):Option (Bool)) >>= fun v_13 =>
        ((
         if v_13=true then
          some ((3,6))
         else
          ((
           if (t1.fOp == 12)=true then
            some ((kid2 == 0))
           else
            some (false)
          ):Option (Bool)) >>= fun v_16 =>
          ((
           if v_16=true then
            some ((4,7))
           else
            some (((-1),0))
          ):Option (Int × Int)) >>= fun (want_19,fault_20) =>
          some ((want_19,fault_20))
        ):Option (Int × Int)) >>= fun (want_22,fault_23) =>
        some ((want_22,fault_23))
      ):Option (Int × Int)) >>= fun (want_25,fault_26) =>
      some ((want_25,fault_26))
    ):Option (Int × Int)) >>= fun (want_28,fault_29) =>
    some ((want_28,fault_29))
  ):Option (Int × Int)) >>= fun (want_31,fault_32) =>
  ((
   if (decide (want_31 ≥ 0))=true then
    some ((r_1_3_0 != want_31))
   else
    some (false)
  ):Option (Bool)) >>= fun v_34 =>
  if v_34=true then
   some fault_32
  else
   ((
    if (kid2 == 0)=true then
     if (t1.fOp == 5)=true then
      (Kmk (p0.fs,1,t1.fN)) >>= fun r_16_22 =>
      some ((!r_16_22))
     else
      if (t1.fOp == 8)=true then
       (Kmk (p0.fs,1,t1.fN)) >>= fun r_16_22 =>
       some ((!r_16_22))
      else
       if (t1.fOp == 12)=true then
        (Kmk (p0.fs,1,t1.fN)) >>= fun r_16_22 =>
        some ((!r_16_22))
       else
        some (false)
    else
     some (false)
   ):Option (Bool)) >>= fun v_37 =>
   if v_37=true then
    some 8
   else
    some 0
def Kng (p:K02 × (List Int) × (List Int) × (List Int) × Int):Option ((List Int)) :=
 match p with
 | (clo1_0,a2,b3,out_2,w_3) =>
  if (decide (w_3 < (a2.length:Int)))=true then
   (idx a2 w_3) >>= fun e_5_5 =>
   (idx b3 w_3) >>= fun e_5_9 =>
   (Kmi (clo1_0,e_5_5,e_5_9)) >>= fun r_5_11 =>
   (idx out_2 w_3) >>= fun e_5_12 =>
   Kng (clo1_0,a2,b3,(List.set out_2 (Int.toNat w_3) r_5_11),(wr (w_3 + 1)))
  else
   some (out_2)
 partial_fixpoint
def Knh (p:Kn9 × K02 × (List Int) × (List Int)):Option ((List Int)) :=
 match p with
 | (p0,clo1_0,a2,b3) =>
  (chk (0 ≤ (a2.length:Int)∧(Int.toNat (a2.length:Int)) * 8 ≤ 140737488355328)) >>= fun _ =>
  (Kng (clo1_0,a2,b3,(List.replicate (Int.toNat (a2.length:Int)) 0),0)) >>= fun out_5 =>
  some out_5
def Kni (p:Kn9 × (List Int) × (List Int)):Option ((List Int)) :=
 match p with
 | (p0,a1,b2) =>
  (Knh (p0,p0.fs,a1,b2)) >>= fun r_1_6 =>
  some r_1_6
def Knj (p:Int × Kn8):Option ((List Int)) :=
 match p with
 | (i0,cap0) =>
  (idx cap0.fkids i0) >>= fun e_1_5 =>
  some e_1_5.fty
def Knk (p:K02 × (List Int) × (List Int) × (List Int) × Int):Option ((List Int)) :=
 match p with
 | (clo1_0,a2,b3,out_2,w_3) =>
  if (decide (w_3 < (a2.length:Int)))=true then
   (idx a2 w_3) >>= fun e_5_5 =>
   (idx b3 w_3) >>= fun e_5_9 =>
   (Kmn (clo1_0,e_5_5,e_5_9)) >>= fun r_5_11 =>
   (idx out_2 w_3) >>= fun e_5_12 =>
   Knk (clo1_0,a2,b3,(List.set out_2 (Int.toNat w_3) r_5_11),(wr (w_3 + 1)))
  else
   some (out_2)
 partial_fixpoint
def Knl (p:Kn9 × K02 × (List Int) × (List Int)):Option ((List Int)) :=
 match p with
 | (p0,clo1_0,a2,b3) =>
  (chk (0 ≤ (a2.length:Int)∧(Int.toNat (a2.length:Int)) * 8 ≤ 140737488355328)) >>= fun _ =>
  (Knk (clo1_0,a2,b3,(List.replicate (Int.toNat (a2.length:Int)) 0),0)) >>= fun out_5 =>
  some out_5
def Knm (p:Kn9 × (List Int) × (List Int)):Option ((List Int)) :=
 match p with
 | (p0,a1,b2) =>
  (Knl (p0,p0.fs,a1,b2)) >>= fun r_1_6 =>
  some r_1_6
def Knn (n1:Int):Option (Unit) :=
  if (decide (n1 < 0))=true then
   none
  else
   if (decide ((wr (n1 - (wr (0 - 0)))) > 0))=true then
    (chk (0 ≤ (wr (n1 - (wr (0 - 0))))∧(Int.toNat (wr (n1 - (wr (0 - 0))))) * 8 ≤ 140737488355328)) >>= fun _ =>
    some ()
   else
    some ()
def Kno (p:(List (List Int)) × Int × Int):Option (Int) :=
 match p with
 | (slices0,size_4,w_5) =>
  if (decide (w_5 < (slices0.length:Int)))=true then
   (idx slices0 w_5) >>= fun e_4_0 =>
   ((
    if (decide ((wr (size_4 + (e_4_0.length:Int))) < 0))=true then
     none
    else
     some (())
   ):Option (Unit)) >>= fun () =>
   Kno (slices0,(wr (size_4 + (e_4_0.length:Int))),(wr (w_5 + 1)))
  else
   some (size_4)
 partial_fixpoint
def Knp (p:(List (List Int)) × (List Int) × Int):Option ((List Int)) :=
 match p with
 | (slices0,newslice_12,w_13) =>
  if (decide (w_13 < (slices0.length:Int)))=true then
   (idx slices0 w_13) >>= fun e_12_0 =>
   (Qdw (newslice_12.length + e_12_0.length) 8) >>= fun _ =>
   Knp (slices0,(newslice_12 ++ e_12_0),(wr (w_13 + 1)))
  else
   some (newslice_12)
 partial_fixpoint
def Knq (slices0:(List (List Int))):Option ((List Int)) :=
  (Kno (slices0,0,0)) >>= fun size_9 =>
  (Knn size_9) >>= fun _ =>
  (Knp (slices0,[],0)) >>= fun newslice_15 =>
  some newslice_15
def Knr (p:Int × Kn9 × Int):Option (Bool) :=
 match p with
 | (u0,cap0,cap1) =>
  (Kmk (cap0.fs,u0,cap1)) >>= fun r_1_4 =>
  some (!r_1_4)
def Kns (p:(List Int) × Kn9 × Int × Int):Option ((Unit) ⊕ (Int)) :=
 match p with
 | (s0,clo1_0,clo1_1,w_3) =>
  if (decide (w_3 < (s0.length:Int)))=true then
   (idx s0 w_3) >>= fun e_4_3 =>
   (Knr (e_4_3,clo1_0,clo1_1)) >>= fun r_4_5 =>
   if r_4_5=true then
    some (.inr w_3)
   else
    Kns (s0,clo1_0,clo1_1,(wr (w_3 + 1)))
  else
   some (.inl ())
 partial_fixpoint
def Knt (p:(List Int) × Kn9 × Int):Option (Int) :=
 match p with
 | (s0,clo1_0,clo1_1) =>
  (Kns (s0,clo1_0,clo1_1,0)) >>= fun fl=>match fl with
  | .inl () =>
   some (-1)
  | .inr r =>
   some r
def Knu (p:(List Int) × Kn9 × Int):Option (Bool) :=
 match p with
 | (s0,clo1_0,clo1_1) =>
  (Knt (s0,clo1_0,clo1_1)) >>= fun r_1_2 =>
  some (decide (r_1_2 ≥ 0))
def Knv (p:Kn9 × (List Int) × Int):Option (Bool) :=
 match p with
 | (p0,l1,g2) =>
  (Knu (l1,p0,g2)) >>= fun r_1_2 =>
  some (!r_1_2)
def Knw (p:Kn9 × Int × (List Int) × (List Int) × Int):Option ((List Int)) :=
 match p with
 | (p0,g1,l2,out_2,w_3) =>
  if (decide (w_3 < (l2.length:Int)))=true then
   (idx l2 w_3) >>= fun e_4_1 =>
   (Kmj (p0.fs,g1,e_4_1)) >>= fun r_5_6 =>
   (idx out_2 w_3) >>= fun e_5_7 =>
   Knw (p0,g1,l2,(List.set out_2 (Int.toNat w_3) r_5_6),(wr (w_3 + 1)))
  else
   some (out_2)
 partial_fixpoint
def Knx (p:Kn9 × Int × (List Int)):Option ((List Int)) :=
 match p with
 | (p0,g1,l2) =>
  (chk (0 ≤ (l2.length:Int)∧(Int.toNat (l2.length:Int)) * 8 ≤ 140737488355328)) >>= fun _ =>
  (Knw (p0,g1,l2,(List.replicate (Int.toNat (l2.length:Int)) 0),0)) >>= fun out_5 =>
  some out_5
def Kny (ty0:(List Int)):Option (Bool) :=
  some (decide ((ty0.length:Int) > 40))
def Knz (p:Kn9 × Kn8 × (List (List Int)) × K00 × (List (List Int)) × (List (List Int))):Option (Int × Kn8) :=
 match p with
 | (p0,out1,ctx2,t3,needs4,used5) =>
  ((
   if (t3.fOp == 0)=true then
    (idx ctx2 t3.fN) >>= fun e_4_4 =>
    (Kjb e_4_4) >>= fun r_4_6 =>
    (idx out1.fneeds t3.fN) >>= fun e_5_6 =>
    some (.inl (r_4_6,(List.set out1.fneeds (Int.toNat t3.fN) 1),out1.fkids,out1.fpath))
   else
    ((
     if (t3.fOp == 1)=true then
      some (.inl ([0],out1.fneeds,out1.fkids,out1.fpath))
     else
      ((
       if (t3.fOp == 2)=true then
        (idx needs4 0) >>= fun e_9_5 =>
        (idx needs4 1) >>= fun e_9_8 =>
        (Kni (p0,e_9_5,e_9_8)) >>= fun r_9_10 =>
        some (.inl ([0],r_9_10,out1.fkids,out1.fpath))
       else
        ((
         if (t3.fOp == 3)=true then
          (Knj (1,out1)) >>= fun r_11_1 =>
          (Knj (2,out1)) >>= fun r_11_3 =>
          (Klx (r_11_1,r_11_3)) >>= fun r_11_4 =>
          if r_11_4=true then
           (Knj (1,out1)) >>= fun r_13_3 =>
           (idx needs4 0) >>= fun e_13_6 =>
           (idx needs4 1) >>= fun e_13_10 =>
           (idx needs4 2) >>= fun e_13_13 =>
           (Knm (p0,e_13_10,e_13_13)) >>= fun r_13_15 =>
           (Kni (p0,e_13_6,r_13_15)) >>= fun r_13_16 =>
           some (.inl (r_13_3,r_13_16))
          else
           some (.inr (3,out1))
         else
          ((
           if (t3.fOp == 4)=true then
            (Knj (0,out1)) >>= fun r_15_4 =>
            (Knj (1,out1)) >>= fun r_15_6 =>
            (Knq [[1],r_15_4,r_15_6]) >>= fun r_15_8 =>
            (idx needs4 0) >>= fun e_15_11 =>
            (idx needs4 1) >>= fun e_15_14 =>
            (Kni (p0,e_15_11,e_15_14)) >>= fun r_15_16 =>
            some (.inl (r_15_8,r_15_16))
           else
            ((
             if (t3.fOp == 5)=true then
              (idx used5 1) >>= fun e_17_2 =>
              (Knv (p0,e_17_2,t3.fN)) >>= fun r_17_6 =>
              if r_17_6=true then
               (Knj (1,out1)) >>= fun r_19_3 =>
               (idx needs4 0) >>= fun e_19_9 =>
               (Knx (p0,t3.fN,e_19_9)) >>= fun r_19_11 =>
               (idx needs4 1) >>= fun e_19_13 =>
               (Kni (p0,r_19_11,e_19_13)) >>= fun r_19_15 =>
               some (.inl (r_19_3,r_19_15))
              else
               some (.inr (9,out1))
             else
              ((
               if (t3.fOp == 6)=true then
                (Knj (0,out1)) >>= fun r_21_4 =>
                (Knq [[2],r_21_4,t3.fType]) >>= fun r_21_8 =>
                (idx needs4 0) >>= fun e_21_10 =>
                some (.inl (r_21_8,e_21_10))
               else
                ((
                 if (t3.fOp == 7)=true then
                  (Knj (0,out1)) >>= fun r_23_6 =>
                  (Knq [[2],t3.fType,r_23_6]) >>= fun r_23_8 =>
                  (idx needs4 0) >>= fun e_23_10 =>
                  some (.inl (r_23_8,e_23_10))
                 else
                  ((
                   if (t3.fOp == 8)=true then
                    (Knj (1,out1)) >>= fun r_25_1 =>
                    (Knj (2,out1)) >>= fun r_25_3 =>
                    (Klx (r_25_1,r_25_3)) >>= fun r_25_4 =>
                    if r_25_4=true then
                     ((
                      (idx used5 1) >>= fun e_27_2 =>
                      (Knv (p0,e_27_2,t3.fN)) >>= fun r_27_6 =>
                      if r_27_6=true then
                       (idx used5 2) >>= fun e_27_11 =>
                       (Knv (p0,e_27_11,t3.fN)) >>= fun r_27_15 =>
                       some ((!r_27_15))
                      else
                       some (true)
                     ):Option (Bool)) >>= fun v_13 =>
                     if v_13=true then
                      some (.inr (9,out1))
                     else
                      (Knj (1,out1)) >>= fun r_29_3 =>
                      (idx needs4 0) >>= fun e_29_9 =>
                      (Knx (p0,t3.fN,e_29_9)) >>= fun r_29_11 =>
                      (idx needs4 1) >>= fun e_29_14 =>
                      (idx needs4 2) >>= fun e_29_17 =>
                      (Knm (p0,e_29_14,e_29_17)) >>= fun r_29_19 =>
                      (Kni (p0,r_29_11,r_29_19)) >>= fun r_29_20 =>
                      some (.inl (r_29_3,r_29_20))
                    else
                     some (.inr (3,out1))
                   else
                    ((
                     if (t3.fOp == 9)=true then
                      (idx used5 0) >>= fun e_31_2 =>
                      (Knv (p0,e_31_2,t3.fN)) >>= fun r_31_6 =>
                      if r_31_6=true then
                       (Knj (0,out1)) >>= fun r_33_9 =>
                       (Knq [[(wr (3 + t3.fN))],t3.fType,r_33_9]) >>= fun r_33_11 =>
                       (idx needs4 0) >>= fun e_33_13 =>
                       some (.inl (r_33_11,e_33_13))
                      else
                       some (.inr (9,out1))
                     else
                      ((
                       if (t3.fOp == 10)=true then
                        (Knj (0,out1)) >>= fun r_35_1 =>
                        (idx r_35_1 0) >>= fun e_35_2 =>
                        (Kil e_35_2) >>= fun (r_35_4_0,r_35_4_1) =>
                        (Knj (0,out1)) >>= fun r_36_3 =>
                        (Kn3 r_36_3) >>= fun r_36_4 =>
                        (idx r_36_4 1) >>= fun e_36_5 =>
                        (idx needs4 0) >>= fun e_36_9 =>
                        (idx needs4 1) >>= fun e_36_14 =>
                        (Knx (p0,r_35_4_1,e_36_14)) >>= fun r_36_16 =>
                        (Kni (p0,e_36_9,r_36_16)) >>= fun r_36_17 =>
                        some (.inl (e_36_5,r_36_17))
                       else
                        ((
                         if (t3.fOp == 11)=true then
                          (Knj (0,out1)) >>= fun r_38_7 =>
                          (Knq [[(wr (19 + t3.fN))],r_38_7]) >>= fun r_38_9 =>
                          (idx needs4 0) >>= fun e_38_14 =>
                          (Knx (p0,t3.fN,e_38_14)) >>= fun r_38_16 =>
                          some (.inl (r_38_9,r_38_16))
                         else
                          ((
                           if (t3.fOp == 12)=true then
                            (Knj (0,out1)) >>= fun r_40_1 =>
                            (idx r_40_1 0) >>= fun e_40_2 =>
                            (Kil e_40_2) >>= fun (r_40_4_0,r_40_4_1) =>
                            (idx used5 1) >>= fun e_41_2 =>
                            (Kmj (p0.fs,t3.fN,r_40_4_1)) >>= fun r_41_9 =>
                            (Knv (p0,e_41_2,r_41_9)) >>= fun r_41_10 =>
                            if r_41_10=true then
                             (Knj (1,out1)) >>= fun r_43_3 =>
                             (idx needs4 0) >>= fun e_43_9 =>
                             (Knx (p0,t3.fN,e_43_9)) >>= fun r_43_11 =>
                             (idx needs4 1) >>= fun e_43_13 =>
                             (Kni (p0,r_43_11,e_43_13)) >>= fun r_43_15 =>
                             some (.inl (r_43_3,r_43_15))
                            else
                             some (.inr (9,out1))
                           else
                            some (.inl (out1.fty,out1.fneeds))):Option (((List Int) × (List Int)) ⊕ ((Int × Kn8)))) >>= fun fl=>match fl with
                          | .inl (out_22,out_23) =>
                           some (.inl (out_22,out_23))
                          | .inr r =>
                           some (.inr r)):Option (((List Int) × (List Int)) ⊕ ((Int × Kn8)))) >>= fun fl=>match fl with
                        | .inl (out_25,out_26) =>
                         some (.inl (out_25,out_26))
                        | .inr r =>
                         some (.inr r)):Option (((List Int) × (List Int)) ⊕ ((Int × Kn8)))) >>= fun fl=>match fl with
                      | .inl (out_28,out_29) =>
                       some (.inl (out_28,out_29))
                      | .inr r =>
                       some (.inr r)):Option (((List Int) × (List Int)) ⊕ ((Int × Kn8)))) >>= fun fl=>match fl with
                    | .inl (out_31,out_32) =>
                     some (.inl (out_31,out_32))
                    | .inr r =>
                     some (.inr r)):Option (((List Int) × (List Int)) ⊕ ((Int × Kn8)))) >>= fun fl=>match fl with
                  | .inl (out_34,out_36) =>
                   some (.inl (out_34,out_36))
                  | .inr r =>
                   some (.inr r)):Option (((List Int) × (List Int)) ⊕ ((Int × Kn8)))) >>= fun fl=>match fl with
                | .inl (out_38,out_39) =>
                 some (.inl (out_38,out_39))
                | .inr r =>
                 some (.inr r)):Option (((List Int) × (List Int)) ⊕ ((Int × Kn8)))) >>= fun fl=>match fl with
              | .inl (out_41,out_42) =>
               some (.inl (out_41,out_42))
              | .inr r =>
               some (.inr r)):Option (((List Int) × (List Int)) ⊕ ((Int × Kn8)))) >>= fun fl=>match fl with
            | .inl (out_44,out_46) =>
             some (.inl (out_44,out_46))
            | .inr r =>
             some (.inr r)):Option (((List Int) × (List Int)) ⊕ ((Int × Kn8)))) >>= fun fl=>match fl with
          | .inl (out_48,out_50) =>
           some (.inl (out_48,out_50))
          | .inr r =>
           some (.inr r)):Option (((List Int) × (List Int)) ⊕ ((Int × Kn8)))) >>= fun fl=>match fl with
        | .inl (out_52,out_54) =>
         some (.inl (out_52,out_54,out1.fkids,out1.fpath))
        | .inr r =>
         some (.inr r)):Option (((List Int) × (List Int) × (List Kn8) × (List Int)) ⊕ ((Int × Kn8)))) >>= fun fl=>match fl with
      | .inl (out_57,out_58,out_59,out_60) =>
       some (.inl (out_57,out_58,out_59,out_60))
      | .inr r =>
       some (.inr r)):Option (((List Int) × (List Int) × (List Kn8) × (List Int)) ⊕ ((Int × Kn8)))) >>= fun fl=>match fl with
    | .inl (out_62,out_63,out_64,out_65) =>
     some (.inl (out_62,out_63,out_64,out_65))
    | .inr r =>
     some (.inr r)):Option (((List Int) × (List Int) × (List Kn8) × (List Int)) ⊕ ((Int × Kn8)))) >>= fun fl=>match fl with
  | .inl (out_68,out_69,out_70,out_71) =>
   (Kny out_68) >>= fun r_44_4 =>
   if r_44_4=true then
    some (3,(Kn8.mk out_68 out_69 out_70 out1.ffault out_71))
   else
    some (0,(Kn8.mk out_68 out_69 out_70 out1.ffault out_71))
  | .inr r =>
   some r
mutual
def Ko0 (p:Kn9 × (List (List Int)) × K00):Option (Kn8) :=
 match p with
 | (p0,ctx1,t2) =>
  (chk (0 ≤ (ctx1.length:Int)∧(Int.toNat (ctx1.length:Int)) * 8 ≤ 140737488355328)) >>= fun _ =>
  (Ko1 (p0,ctx1,t2,[],[],[],0)) >>= fun fl=>match fl with
  | .inl (out_44,needs_45,used_46) =>
   (Knz (p0,(Kn8.mk [] (List.replicate (Int.toNat (ctx1.length:Int)) 0) out_44 0 []),ctx1,t2,needs_45,used_46)) >>= fun (r_24_7,o_24_7_1) =>
   if (r_24_7 != 0)=true then
    some (Kn8.mk [] [] [] r_24_7 [])
   else
    some (Kn8.mk o_24_7_1.fty o_24_7_1.fneeds o_24_7_1.fkids r_24_7 o_24_7_1.fpath)
  | .inr r =>
   some r
 partial_fixpoint
def Ko1 (p:Kn9 × (List (List Int)) × K00 × (List Kn8) × (List (List Int)) × (List (List Int)) × Int):Option (((List Kn8) × (List (List Int)) × (List (List Int))) ⊕ (Kn8)) :=
 match p with
 | (p0,ctx1,t2,out_27,needs_28,used_29,w_12) =>
  if (decide (w_12 < (t2.fKids.length:Int)))=true then
   (idx t2.fKids w_12) >>= fun e_6_1 =>
   ((
    if (decide (w_12 > 0))=true then
     some (true)
    else
     some ((t2.fOp == 9))
   ):Option (Bool)) >>= fun v_31 =>
   ((
    if v_31=true then
     ((
      if (decide (w_12 > 0))=true then
       (idx out_27 0) >>= fun e_11_4 =>
       some (e_11_4.fty)
      else
       some ([])
     ):Option ((List Int))) >>= fun first_35 =>
     (Kna (t2,w_12,first_35)) >>= fun r_12_3 =>
     some (r_12_3)
    else
     some ([])
   ):Option ((List (List Int)))) >>= fun more_37 =>
   (Kne [more_37,ctx1]) >>= fun r_13_4 =>
   (Ko0 (p0,r_13_4,e_6_1)) >>= fun r_13_6 =>
   if (r_13_6.ffault != 0)=true then
    (Qdw ([w_12].length + r_13_6.fpath.length) 8) >>= fun _ =>
    some (.inr (Kn8.mk [] [] [] r_13_6.ffault ([w_12] ++ r_13_6.fpath)))
   else
    (Knf (p0,t2,w_12,r_13_6.fty)) >>= fun r_16_7 =>
    if (r_16_7 != 0)=true then
     some (.inr (Kn8.mk [] [] [] r_16_7 []))
    else
     ((
      if (t2.fOp == 10)=true then
       if (w_12 == 1)=true then
        (idx out_27 0) >>= fun e_19_16 =>
        (Kn3 e_19_16.fty) >>= fun r_19_21 =>
        (idx r_19_21 0) >>= fun e_19_22 =>
        (Klx (r_13_6.fty,e_19_22)) >>= fun r_19_24 =>
        some ((!r_19_24))
       else
        some (false)
      else
       some (false)
     ):Option (Bool)) >>= fun v_41 =>
     if v_41=true then
      some (.inr (Kn8.mk [] [] [] 3 []))
     else
      (Qdw (out_27.length + [r_13_6].length) 8) >>= fun _ =>
      (cut r_13_6.fneeds none (some (more_37.length:Int)) none) >>= fun c_22_7 =>
      (Qdw (used_29.length + [c_22_7].length) 24) >>= fun _ =>
      (cut r_13_6.fneeds (some (more_37.length:Int)) none none) >>= fun c_22_17 =>
      (Qdw (needs_28.length + [c_22_17].length) 24) >>= fun _ =>
      Ko1 (p0,ctx1,t2,(out_27 ++ [r_13_6]),(needs_28 ++ [c_22_17]),(used_29 ++ [c_22_7]),(wr (w_12 + 1)))
  else
   some (.inl (out_27,needs_28,used_29))
 partial_fixpoint
end
end Go.Am
