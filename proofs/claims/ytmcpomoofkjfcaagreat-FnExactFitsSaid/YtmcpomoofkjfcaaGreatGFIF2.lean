/- Functions of the program as pure functions,and that it computes them. Printed by a program of mine (gen.py). -/
import Derived.Test.YtmcpomoofkjfcaaGreatGFIF1
set_option linter.unusedVariables false
set_option linter.unusedSimpArgs false
set_option maxRecDepth 100000
namespace Go.Am
open Go Go.Proofs
def ah2_0 : Option (List (List Nat)) := rx [[0],[0],[2],[3],[4],[5],[6],[7],[7],[9],[10],[7],[7,11],[13],[14],[15]]
def spec_IsSystem_l2 (p : GSystem × Int) : Option ((Unit) ⊕ (Bool)) :=
 match p with
 | (s0,a_22) =>
  if (decide (a_22 < s0.fSize)) = true then
   (spec_l1One (s0,a_22)) >>= fun r_6_2 =>
   if r_6_2 = true then
    (spec_IsSystem_l1 (s0,a_22,0)) >>= fun fl => match fl with
    | .inl () =>
     spec_IsSystem_l2 (s0,(wr (a_22 + 1)))
    | .inr r =>
     some (.inr r)
   else
    some (.inr false)
  else
   some (.inl ())
 partial_fixpoint
def M_spec_IsSystem_l2 (p : GSystem × Int) (fl : (Unit) ⊕ (Bool)) : Prop :=
 match p with
 | (s0,a_22) => ∀ c : Ctx,c.nt = 42 → WpL Tryz.prog c (cl (cl (cr (cl (cr (cr B139)))))) (spec_IsSystem_F3 c fl) (mkS [(1,.ra 1 0),(3,I a_22)] [(1,bSystem s0)])
theorem spec_IsSystem_l2_s : ∀ p r,spec_IsSystem_l2 p = some r → M_spec_IsSystem_l2 p r := by
 refine spec_IsSystem_l2.partial_correctness M_spec_IsSystem_l2 ?_
 rintro spec_IsSystem_l2_f spec_IsSystem_l2_ih ⟨s0,a_22⟩ r h
 intro c hc
 refine WpL.step ?_
 refine sN ?_
 refine rs0 hc 4 [(1,.ra 1 0),(3,I a_22),(12,.bool (decide (a_22 < s0.fSize)))] [(1,bSystem s0)] ?_
 rcases is h with ⟨hb_23,h⟩ | ⟨hb_23,h⟩
 ·refine cT ((decide (a_22 < s0.fSize))) hb_23 ?_
  refine sk ?_
  refine sN ?_
  refine bk 1 ?_
  refine sN ?_
  obtain ⟨r_6_2,hr_6_2,h⟩ := bsome h
  refine rs hc none [oN,oN,oc (.bool r_6_2),oN] [(1,.ra 1 0),(3,I a_22),(18,.bool (!r_6_2))] [(1,bSystem s0)] (ai (spec_l1One_s _ _ hr_6_2) (ai bod_203 (ai (oi (.bool r_6_2)) trivial))) ?_
  rcases is h with ⟨hb_24,h⟩ | ⟨hb_24,h⟩
  ·refine cF (!r_6_2) (nF hb_24) ?_
   refine sk ?_
   refine rs0 hc 1 [(1,.ra 1 0),(3,I a_22),(4,I 0)] [(1,bSystem s0)] ?_
   refine bk 2 ?_
   obtain ⟨fl,hl_42,h⟩ := bsome h
   have hL := spec_IsSystem_l1_s _ _ hl_42 c hc
   refine lp ?_
   rcases fl with ⟨⟩ | r
   ·refine WpL.into (e := (.exit 2)) (mkS [(1,.ra 1 0),(3,I a_22)] [(1,bSystem s0)]) hL ?_
    refine blockQ_hit ?_
    refine rg0 hc 3 [(1,.ra 1 0),(3,I (wr (a_22 + 1)))] [(1,bSystem s0)] ?_
    refine loopQ_norm ?_
    exact (spec_IsSystem_l2_ih _ _ h c hc)
   refine WpL.mono hL ?_
   rintro _ _ ⟨rfl,hfin⟩
   obtain rfl := os h
   exact ⟨rfl,hfin⟩
  refine cT (!r_6_2) (nT hb_24) ?_
  refine rs0 hc 1 [(2,.bool false)] [] ?_
  refine rt ?_
  obtain rfl := os h
  exact re [true]
 refine cF ((decide (a_22 < s0.fSize))) hb_23 ?_
 refine xt 0 ?_
 refine seqQ_exit ?_
 refine loopQ_exit ?_
 obtain rfl := os h
 exact iv []
def spec_IsSystem (s0 : GSystem) : Option (Bool) :=
  (spec_l1Tables s0) >>= fun r_1_1 =>
  if r_1_1 = true then
   (spec_IsSystem_l2 (s0,0)) >>= fun fl => match fl with
   | .inl () =>
    some true
   | .inr r =>
    some r
  else
   some false
def M_spec_IsSystem (s0 : GSystem) (r : Bool) : Prop :=
 FnSound Tryz.prog 139 [aSystem s0] (.bool r) []
theorem spec_IsSystem_s : ∀ p r,spec_IsSystem p = some r → M_spec_IsSystem p r := by
 rintro s0 r h
 unfold spec_IsSystem at h
 refine b0 Tryz.f139 B139 42 [(0,aSystem s0)] fun c hc => ?_
 refine rs hc none [some (.new 1),oN] [(1,.ra 1 0)] [(1,bSystem s0)] trivial ?_
 refine sN ?_
 obtain ⟨r_1_1,hr_1_1,h⟩ := bsome h
 refine rs hc none [oN,oc (.bool r_1_1),oN] [(1,.ra 1 0),(8,.bool (!r_1_1))] [(1,bSystem s0)] (ai (spec_l1Tables_s _ _ hr_1_1) (ai bod_202 (ai (oi (.bool r_1_1)) trivial))) ?_
 rcases is h with ⟨hb_1,h⟩ | ⟨hb_1,h⟩
 ·refine cF (!r_1_1) (nF hb_1) ?_
  refine sk ?_
  refine sN ?_
  refine rs0 hc 1 [(1,.ra 1 0),(3,I 0)] [(1,bSystem s0)] ?_
  refine bk 0 ?_
  obtain ⟨fl,hl_43,h⟩ := bsome h
  have hL := spec_IsSystem_l2_s _ _ hl_43 c hc
  refine lp ?_
  rcases fl with ⟨⟩ | r
  ·refine WpL.into (e := (.exit 0)) (mkS [] []) hL ?_
   refine blockQ_hit ?_
   refine rs0 hc 1 [(2,.bool true)] [] ?_
   refine rt ?_
   obtain rfl := os h
   exact rq [true]
  refine WpL.mono hL ?_
  rintro _ _ ⟨rfl,hfin⟩
  obtain rfl := os h
  exact ⟨.inl rfl,hfin⟩
 refine cT (!r_1_1) (nT hb_1) ?_
 refine rs0 hc 1 [(2,.bool false)] [] ?_
 refine rt ?_
 obtain rfl := os h
 exact rq [true]
def spec_l2Arrow (c0 : Int) : Option (Bool) :=
  ((
   (spec_l1In (c0,3,18)) >>= fun r_1_1 =>
   if r_1_1 = true then
    some (true)
   else
    some ((c0 == 35))
  ) : Option (Bool)) >>= fun v_1 =>
  some v_1
def M_spec_l2Arrow (c0 : Int) (r : Bool) : Prop :=
 FnSound Tryz.prog 150 [I c0] (.bool r) []
theorem spec_l2Arrow_s : ∀ p r,spec_l2Arrow p = some r → M_spec_l2Arrow p r := by
 rintro c0 r h
 unfold spec_l2Arrow at h
 refine b0 Tryz.f150 B150 9 [(0,I c0)] fun c hc => ?_
 refine rs0 hc 1 [(0,I c0)] [] ?_
 refine sN ?_
 obtain ⟨v_1,hj_2,h⟩ := bsome h
 refine Wp.into (x := .normal) (mkS [(2,.bool v_1)] []) ?_ ?_
 ·replace h := hj_2
  obtain ⟨r_1_1,hr_1_1,h⟩ := bsome h
  rcases is h with ⟨hb_1_0,h⟩ | ⟨hb_1_0,h⟩
  ·refine rg hc none [oN,oc (.bool r_1_1),oN,o_,o_,oT,oN] [(2,.bool true)] [] (ai (spec_l1In_s _ _ hr_1_1) (ai bod_100 (ai (oi (.bool r_1_1)) (ar 2 (neF hb_1_0) (ai hb_1_0 trivial))))) ?_
   obtain rfl := os h
   exact Into.mk
  refine rg hc none [oN,oc (.bool r_1_1),oN,oN,oN,oF,oN] [(2,.bool (c0 == 35))] [] (ai (spec_l1In_s _ _ hr_1_1) (ai bod_100 (ai (oi (.bool r_1_1)) (ar 3 hb_1_0 trivial)))) ?_
  obtain rfl := os h
  exact Into.mk
 clear hj_2
 refine rt ?_
 obtain rfl := os h
 exact rq [true]
def spec_l2Box (c0 : Int) : Option (Bool) :=
  ((
   (spec_l1In (c0,19,34)) >>= fun r_1_1 =>
   if r_1_1 = true then
    some (true)
   else
    some ((c0 == 36))
  ) : Option (Bool)) >>= fun v_1 =>
  some v_1
def M_spec_l2Box (c0 : Int) (r : Bool) : Prop :=
 FnSound Tryz.prog 166 [I c0] (.bool r) []
theorem spec_l2Box_s : ∀ p r,spec_l2Box p = some r → M_spec_l2Box p r := by
 rintro c0 r h
 unfold spec_l2Box at h
 refine b0 Tryz.f166 B166 9 [(0,I c0)] fun c hc => ?_
 refine rs0 hc 1 [(0,I c0)] [] ?_
 refine sN ?_
 obtain ⟨v_1,hj_2,h⟩ := bsome h
 refine Wp.into (x := .normal) (mkS [(2,.bool v_1)] []) ?_ ?_
 ·replace h := hj_2
  obtain ⟨r_1_1,hr_1_1,h⟩ := bsome h
  rcases is h with ⟨hb_1_0,h⟩ | ⟨hb_1_0,h⟩
  ·refine rg hc none [oN,oc (.bool r_1_1),oN,o_,o_,oT,oN] [(2,.bool true)] [] (ai (spec_l1In_s _ _ hr_1_1) (ai bod_100 (ai (oi (.bool r_1_1)) (ar 2 (neF hb_1_0) (ai hb_1_0 trivial))))) ?_
   obtain rfl := os h
   exact Into.mk
  refine rg hc none [oN,oc (.bool r_1_1),oN,oN,oN,oF,oN] [(2,.bool (c0 == 36))] [] (ai (spec_l1In_s _ _ hr_1_1) (ai bod_100 (ai (oi (.bool r_1_1)) (ar 3 hb_1_0 trivial)))) ?_
  obtain rfl := os h
  exact Into.mk
 clear hj_2
 refine rt ?_
 obtain rfl := os h
 exact rq [true]
def spec_l2Kids (c0 : Int) : Option (Int) :=
  if (c0 == 0) = true then
   some 0
  else
   ((
    if (c0 == 1) = true then
     some (true)
    else
     if (c0 == 2) = true then
      some (true)
     else
      (spec_l2Arrow c0) >>= fun r_3_8 =>
      some (r_3_8)
   ) : Option (Bool)) >>= fun v_2 =>
   if v_2 = true then
    some 2
   else
    (spec_l2Box c0) >>= fun r_5_1 =>
    if r_5_1 = true then
     some 1
    else
     some (-1)
def M_spec_l2Kids (c0 : Int) (r : Int) : Prop :=
 FnSound Tryz.prog 214 [I c0] (I r) []
theorem spec_l2Kids_s : ∀ p r,spec_l2Kids p = some r → M_spec_l2Kids p r := by
 rintro c0 r h
 unfold spec_l2Kids at h
 refine b0 Tryz.f214 B214 20 [(0,I c0)] fun c hc => ?_
 refine rs0 hc 1 [(0,I c0)] [] ?_
 refine sN ?_
 refine bk 0 ?_
 refine rs0 hc 3 [(0,I c0),(3,.bool (c0 == 0))] [] ?_
 rcases is h with ⟨hb_1,h⟩ | ⟨hb_1,h⟩
 ·refine cT ((c0 == 0)) hb_1 ?_
  refine rs0 hc 1 [(2,I 0)] [] ?_
  refine rt ?_
  obtain rfl := os h
  exact rq [true]
 refine cF ((c0 == 0)) hb_1 ?_
 refine sN ?_
 obtain ⟨v_2,hj_3,h⟩ := bsome h
 refine Wp.into (x := .normal) (mkS [(0,I c0),(6,.bool v_2)] []) ?_ ?_
 ·replace h := hj_3
  rcases is h with ⟨hb_3_0,h⟩ | ⟨hb_3_0,h⟩
  ·refine rg hc none [oN,oN,oN,o_,o_,oT,oN,o_,o_,oT,oN] [(0,I c0),(6,.bool true)] [] (ar 2 (neF hb_3_0) (ai hb_3_0 (ar 2 nf (ai tt trivial)))) ?_
   obtain rfl := os h
   exact Into.mk
  rcases is h with ⟨hb_3_1,h⟩ | ⟨hb_3_1,h⟩
  ·refine rg hc none [oN,oN,oN,oN,oN,oF,oN,o_,o_,oT,oN] [(0,I c0),(6,.bool true)] [] (ar 3 hb_3_0 (ar 2 (neF hb_3_1) (ai hb_3_1 trivial))) ?_
   obtain rfl := os h
   exact Into.mk
  obtain ⟨r_3_8,hr_3_8,h⟩ := bsome h
  refine rg hc none [oN,oN,oN,oN,oN,oF,oN,oN,oc (.bool r_3_8),oF,oN] [(0,I c0),(6,.bool r_3_8)] [] (ar 3 hb_3_0 (ar 2 hb_3_1 (ai (spec_l2Arrow_s _ _ hr_3_8) (ai bod_150 (ai (oi (.bool r_3_8)) (ai hb_3_1 trivial)))))) ?_
  obtain rfl := os h
  exact Into.mk
 clear hj_3
 rcases is h with ⟨hb_4,h⟩ | ⟨hb_4,h⟩
 ·refine cT v_2 hb_4 ?_
  refine rs0 hc 1 [(2,I 2)] [] ?_
  refine rt ?_
  obtain rfl := os h
  exact rq [true]
 refine cF v_2 hb_4 ?_
 obtain ⟨r_5_1,hr_5_1,h⟩ := bsome h
 refine rs hc none [oN,oc (.bool r_5_1),oN] [(17,.bool r_5_1)] [] (ai (spec_l2Box_s _ _ hr_5_1) (ai bod_166 (ai (oi (.bool r_5_1)) trivial))) ?_
 rcases is h with ⟨hb_5,h⟩ | ⟨hb_5,h⟩
 ·refine cT r_5_1 hb_5 ?_
  refine rs0 hc 1 [(2,I 1)] [] ?_
  refine rt ?_
  obtain rfl := os h
  exact rq [true]
 refine cF r_5_1 hb_5 ?_
 refine sk ?_
 refine rs0 hc 1 [(2,I (-1))] [] ?_
 refine rt ?_
 obtain rfl := os h
 exact rq [true]
def spec_l2End_F1 (c : Ctx) : (Unit) ⊕ (Int) → Exit → AState → Prop
 | .inl _ => Into c (.exit 0) (mkS [] [])
 | .inr r => RetE TIx Tryz.f207 [] (I r)
def spec_l2End_l0 (p : (List Int) × Int × Int) : Option ((Unit) ⊕ (Int)) :=
 match p with
 | (ty0,missing_4,i_5) =>
  if (decide (i_5 < (ty0.length : Int))) = true then
   (idx ty0 i_5) >>= fun e_5_2 =>
   (spec_l2Kids e_5_2) >>= fun r_5_4 =>
   if (decide (r_5_4 < 0)) = true then
    some (.inr (-1))
   else
    if ((wr ((wr (missing_4 - 1)) + r_5_4)) == 0) = true then
     some (.inr (wr (i_5 + 1)))
    else
     spec_l2End_l0 (ty0,(wr ((wr (missing_4 - 1)) + r_5_4)),(wr (i_5 + 1)))
  else
   some (.inl ())
 partial_fixpoint
def M_spec_l2End_l0 (p : (List Int) × Int × Int) (fl : (Unit) ⊕ (Int)) : Prop :=
 match p with
 | (ty0,missing_4,i_5) => ∀ c : Ctx,c.nt = 30 → WpL Tryz.prog c (cl (cl (cr (cl (cr (cr B207)))))) (spec_l2End_F1 c fl) (mkS [(0,sI ty0),(5,I missing_4),(6,I i_5)] [])
theorem spec_l2End_l0_s : ∀ p r,spec_l2End_l0 p = some r → M_spec_l2End_l0 p r := by
 refine spec_l2End_l0.partial_correctness M_spec_l2End_l0 ?_
 rintro spec_l2End_l0_f spec_l2End_l0_ih ⟨ty0,missing_4,i_5⟩ r h
 intro c hc
 refine WpL.step ?_
 refine sN ?_
 refine rs hc none [oN,oN,some (.eqv (.no) ⟨[(11,I (ty0.length : Int))],[],[]⟩),oN] [(0,sI ty0),(5,I missing_4),(6,I i_5),(12,.bool (decide (i_5 < (ty0.length : Int))))] [] (ai (lenT (d := 11) I ty0) trivial) ?_
 rcases is h with ⟨hb_6,h⟩ | ⟨hb_6,h⟩
 ·refine cT ((decide (i_5 < (ty0.length : Int)))) hb_6 ?_
  refine sk ?_
  refine sN ?_
  refine bk 1 ?_
  obtain ⟨e_5_2,hi_5_2,h⟩ := bsome h
  obtain ⟨r_5_4,hr_5_4,h⟩ := bsome h
  refine rs hc none [oN,oN,some (.el (I e_5_2)),oN,oc (I r_5_4),oN] [(0,sI ty0),(5,I missing_4),(6,I i_5),(7,I r_5_4)] [] (ai (ix hi_5_2) (ai (spec_l2Kids_s _ _ hr_5_4) (ai bod_214 (ai (oi (I r_5_4)) trivial)))) ?_
  refine sN ?_
  refine rs0 hc 2 [(0,sI ty0),(5,I missing_4),(6,I i_5),(7,I r_5_4),(21,.bool (decide (r_5_4 < 0)))] [] ?_
  rcases is h with ⟨hb_7,h⟩ | ⟨hb_7,h⟩
  ·refine cT ((decide (r_5_4 < 0))) hb_7 ?_
   refine rs0 hc 1 [(4,I (-1))] [] ?_
   refine rt ?_
   obtain rfl := os h
   exact re [true]
  refine cF ((decide (r_5_4 < 0))) hb_7 ?_
  refine sk ?_
  refine rs0 hc 5 [(0,sI ty0),(5,I (wr ((wr (missing_4 - 1)) + r_5_4))),(6,I i_5)] [] ?_
  refine rs0 hc 2 [(0,sI ty0),(5,I (wr ((wr (missing_4 - 1)) + r_5_4))),(6,I i_5),(27,.bool ((wr ((wr (missing_4 - 1)) + r_5_4)) == 0))] [] ?_
  rcases is h with ⟨hb_8,h⟩ | ⟨hb_8,h⟩
  ·refine cT (((wr ((wr (missing_4 - 1)) + r_5_4)) == 0)) hb_8 ?_
   refine rs0 hc 3 [(4,I (wr (i_5 + 1)))] [] ?_
   refine rt ?_
   obtain rfl := os h
   exact re [true]
  refine cF (((wr ((wr (missing_4 - 1)) + r_5_4)) == 0)) hb_8 ?_
  refine sk ?_
  refine rg0 hc 3 [(0,sI ty0),(5,I (wr ((wr (missing_4 - 1)) + r_5_4))),(6,I (wr (i_5 + 1)))] [] ?_
  refine loopQ_norm ?_
  exact (spec_l2End_l0_ih _ _ h c hc)
 refine cF ((decide (i_5 < (ty0.length : Int)))) hb_6 ?_
 refine xt 0 ?_
 refine seqQ_exit ?_
 refine loopQ_exit ?_
 obtain rfl := os h
 exact iv []
def spec_l2End (p : (List Int) × Int) : Option (Int) :=
 match p with
 | (ty0,at1) =>
  (spec_l2End_l0 (ty0,1,at1)) >>= fun fl => match fl with
  | .inl () =>
   some (-1)
  | .inr r =>
   some r
def M_spec_l2End (p : (List Int) × Int) (r : Int) : Prop :=
 match p with
 | (ty0,at1) => FnSound Tryz.prog 207 [sI ty0,I at1] (I r) []
theorem spec_l2End_s : ∀ p r,spec_l2End p = some r → M_spec_l2End p r := by
 rintro ⟨ty0,at1⟩ r h
 unfold spec_l2End at h
 refine b0 Tryz.f207 B207 30 [(0,sI ty0),(1,I at1)] fun c hc => ?_
 refine rs0 hc 1 [(0,sI ty0),(1,I at1)] [] ?_
 refine rs0 hc 1 [(0,sI ty0),(1,I at1),(5,I 1)] [] ?_
 refine sN ?_
 refine rs0 hc 2 [(0,sI ty0),(5,I 1),(6,I at1)] [] ?_
 refine bk 0 ?_
 obtain ⟨fl,hl_9,h⟩ := bsome h
 have hL := spec_l2End_l0_s _ _ hl_9 c hc
 refine lp ?_
 rcases fl with ⟨⟩ | r
 ·refine WpL.into (e := (.exit 0)) (mkS [] []) hL ?_
  refine blockQ_hit ?_
  refine rs0 hc 1 [(4,I (-1))] [] ?_
  refine rt ?_
  obtain rfl := os h
  exact rq [true]
 refine WpL.mono hL ?_
 rintro _ _ ⟨rfl,hfin⟩
 obtain rfl := os h
 exact ⟨.inl rfl,hfin⟩
def spec_l2Type (ty0 : (List Int)) : Option (Bool) :=
  ((
   if (decide ((ty0.length : Int) ≤ 40)) = true then
    (spec_l2End (ty0,0)) >>= fun r_1_5 =>
    if (r_1_5 == (ty0.length : Int)) = true then
     some ((decide ((ty0.length : Int) > 0)))
    else
     some (false)
   else
    some (false)
  ) : Option (Bool)) >>= fun v_1 =>
  some v_1
def M_spec_l2Type (ty0 : (List Int)) (r : Bool) : Prop :=
 FnSound Tryz.prog 164 [sI ty0] (.bool r) []
theorem spec_l2Type_s : ∀ p r,spec_l2Type p = some r → M_spec_l2Type p r := by
 rintro ty0 r h
 unfold spec_l2Type at h
 refine b0 Tryz.f164 B164 18 [(0,sI ty0)] fun c hc => ?_
 refine rs0 hc 1 [(0,sI ty0)] [] ?_
 refine sN ?_
 obtain ⟨v_1,hj_2,h⟩ := bsome h
 refine Wp.into (x := .normal) (mkS [(2,.bool v_1)] []) ?_ ?_
 ·replace h := hj_2
  rcases is h with ⟨hb_1_0,h⟩ | ⟨hb_1_0,h⟩
  ·obtain ⟨r_1_5,hr_1_5,h⟩ := bsome h
   rcases is h with ⟨hb_1_1,h⟩ | ⟨hb_1_1,h⟩
   ·refine rg hc none [oN,some (.eqv (.no) ⟨[(4,I (ty0.length : Int))],[],[]⟩),oN,oN,oN,oc (I r_1_5),oN,some (.eqv (.no) ⟨[(10,I (ty0.length : Int))],[],[]⟩),oN,oT,oN,oN,some (.eqv (.no) ⟨[(15,I (ty0.length : Int))],[],[]⟩),oN,oT,oN] [(2,.bool (decide ((ty0.length : Int) > 0)))] [] (ai (lenT (d := 4) I ty0) (ar 2 hb_1_0 (ai (spec_l2End_s _ _ hr_1_5) (ai bod_207 (ai (oi (I r_1_5)) (ar 2 hb_1_0 (ai (lenT (d := 10) I ty0) (ar 2 hb_1_0 (ar 2 hb_1_1 (ai (lenT (d := 15) I ty0) (ar 2 hb_1_1 trivial))))))))))) ?_
    obtain rfl := os h
    exact Into.mk
   refine rg hc none [oN,some (.eqv (.no) ⟨[(4,I (ty0.length : Int))],[],[]⟩),oN,oN,oN,oc (I r_1_5),oN,some (.eqv (.no) ⟨[(10,I (ty0.length : Int))],[],[]⟩),oN,oT,oN,o_,o_,o_,oF,oN] [(2,.bool false)] [] (ai (lenT (d := 4) I ty0) (ar 2 hb_1_0 (ai (spec_l2End_s _ _ hr_1_5) (ai bod_207 (ai (oi (I r_1_5)) (ar 2 hb_1_0 (ai (lenT (d := 10) I ty0) (ar 2 hb_1_0 (ar 3 (neT hb_1_1) (ai hb_1_1 trivial)))))))))) ?_
   obtain rfl := os h
   exact Into.mk
  refine rg hc none [oN,some (.eqv (.no) ⟨[(4,I (ty0.length : Int))],[],[]⟩),oN,oN,o_,o_,o_,o_,o_,oF,oN,o_,o_,o_,oF,oN] [(2,.bool false)] [] (ai (lenT (d := 4) I ty0) (ar 5 (neT hb_1_0) (ai hb_1_0 (ar 3 (neT (rfl : false = false)) (ai (rfl : false = false) trivial))))) ?_
  obtain rfl := os h
  exact Into.mk
 clear hj_2
 refine rt ?_
 obtain rfl := os h
 exact rq [true]
def spec_l2Grade (c0 : Int) : Option (Int) :=
  if (decide (c0 ≥ 35)) = true then
   some (-1)
  else
   if (decide (c0 ≥ 19)) = true then
    some (wr (c0 - 19))
   else
    some (wr (c0 - 3))
def M_spec_l2Grade (c0 : Int) (r : Int) : Prop :=
 FnSound Tryz.prog 152 [I c0] (I r) []
theorem spec_l2Grade_s : ∀ p r,spec_l2Grade p = some r → M_spec_l2Grade p r := by
 rintro c0 r h
 unfold spec_l2Grade at h
 refine b0 Tryz.f152 B152 13 [(0,I c0)] fun c hc => ?_
 refine rs0 hc 1 [(0,I c0)] [] ?_
 refine sN ?_
 refine bk 0 ?_
 refine rs0 hc 3 [(0,I c0),(3,.bool (decide (c0 ≥ 35)))] [] ?_
 rcases is h with ⟨hb_1,h⟩ | ⟨hb_1,h⟩
 ·refine cT ((decide (c0 ≥ 35))) hb_1 ?_
  refine rs0 hc 1 [(2,I (-1))] [] ?_
  refine rt ?_
  obtain rfl := os h
  exact rq [true]
 refine cF ((decide (c0 ≥ 35))) hb_1 ?_
 refine rs0 hc 3 [(0,I c0),(6,.bool (decide (c0 ≥ 19)))] [] ?_
 rcases is h with ⟨hb_2,h⟩ | ⟨hb_2,h⟩
 ·refine cT ((decide (c0 ≥ 19))) hb_2 ?_
  refine rs0 hc 3 [(2,I (wr (c0 - 19)))] [] ?_
  refine rt ?_
  obtain rfl := os h
  exact rq [true]
 refine cF ((decide (c0 ≥ 19))) hb_2 ?_
 refine sk ?_
 refine rs0 hc 3 [(2,I (wr (c0 - 3)))] [] ?_
 refine rt ?_
 obtain rfl := os h
 exact rq [true]
def spec_l2Graded_F1 (c : Ctx) (ty0 : List Int) (size1 : Int) (closed2 : Bool) (i_9 : Int) : (Unit) ⊕ (Bool) → Exit → AState → Prop
 | .inl _ => Into c .normal (mkS [(0,sI ty0),(1,I size1),(2,.bool closed2),(7,I i_9)] [])
 | .inr r => RetE TIx Tryz.f165 [] (.bool r)
def spec_l2Graded_F2 (c : Ctx) : (Unit) ⊕ (Bool) → Exit → AState → Prop
 | .inl _ => Into c (.exit 0) (mkS [] [])
 | .inr r => RetE TIx Tryz.f165 [] (.bool r)
def spec_l2Graded_l0 (p : (List Int) × Int × Bool × Int) : Option ((Unit) ⊕ (Bool)) :=
 match p with
 | (ty0,size1,closed2,i_9) =>
  if (decide (i_9 < (ty0.length : Int))) = true then
   ((
    (idx ty0 i_9) >>= fun e_4_2 =>
    (spec_l2Kids e_4_2) >>= fun r_4_4 =>
    if (decide (r_4_4 > 0)) = true then
     (idx ty0 i_9) >>= fun e_4_9 =>
     some ((decide (e_4_9 > 2)))
    else
     some (false)
   ) : Option (Bool)) >>= fun v_11 =>
   ((
    if v_11 = true then
     (idx ty0 i_9) >>= fun e_5_2 =>
     (spec_l2Grade e_5_2) >>= fun r_5_4 =>
     ((
      if (decide (r_5_4 ≥ size1)) = true then
       some (true)
      else
       if closed2 = true then
        some ((decide (r_5_4 < 0)))
       else
        some (false)
     ) : Option (Bool)) >>= fun v_14 =>
     if v_14 = true then
      some (.inr false)
     else
      some (.inl ())
    else
     some (.inl ())) : Option ((Unit) ⊕ (Bool))) >>= fun fl => match fl with
   | .inl () =>
    spec_l2Graded_l0 (ty0,size1,closed2,(wr (i_9 + 1)))
   | .inr r =>
    some (.inr r)
  else
   some (.inl ())
 partial_fixpoint
def M_spec_l2Graded_l0 (p : (List Int) × Int × Bool × Int) (fl : (Unit) ⊕ (Bool)) : Prop :=
 match p with
 | (ty0,size1,closed2,i_9) => ∀ c : Ctx,c.nt = 43 → WpL Tryz.prog c (cl (cl (cr (cl (cr B165))))) (spec_l2Graded_F2 c fl) (mkS [(0,sI ty0),(1,I size1),(2,.bool closed2),(7,I i_9)] [])
theorem spec_l2Graded_l0_s : ∀ p r,spec_l2Graded_l0 p = some r → M_spec_l2Graded_l0 p r := by
 refine spec_l2Graded_l0.partial_correctness M_spec_l2Graded_l0 ?_
 rintro spec_l2Graded_l0_f spec_l2Graded_l0_ih ⟨ty0,size1,closed2,i_9⟩ r h
 intro c hc
 refine WpL.step ?_
 refine sN ?_
 refine rs hc none [oN,oN,some (.eqv (.no) ⟨[(11,I (ty0.length : Int))],[],[]⟩),oN] [(0,sI ty0),(1,I size1),(2,.bool closed2),(7,I i_9),(12,.bool (decide (i_9 < (ty0.length : Int))))] [] (ai (lenT (d := 11) I ty0) trivial) ?_
 rcases is h with ⟨hb_10,h⟩ | ⟨hb_10,h⟩
 ·refine cT ((decide (i_9 < (ty0.length : Int)))) hb_10 ?_
  refine sk ?_
  refine sN ?_
  refine bk 1 ?_
  refine sN ?_
  obtain ⟨v_11,hj_12,h⟩ := bsome h
  refine Wp.into (x := .normal) (mkS [(0,sI ty0),(1,I size1),(2,.bool closed2),(7,I i_9),(27,.bool v_11)] []) ?_ ?_
  ·replace h := hj_12
   obtain ⟨e_4_2,hi_4_2,h⟩ := bsome h
   obtain ⟨r_4_4,hr_4_4,h⟩ := bsome h
   rcases is h with ⟨hb_4_0,h⟩ | ⟨hb_4_0,h⟩
   ·obtain ⟨e_4_9,hi_4_9,h⟩ := bsome h
    refine rg hc none [oN,oN,some (.el (I e_4_2)),oN,oc (I r_4_4),oN,oN,oN,oN,some (.el (I e_4_9)),oN,oN,oT] [(0,sI ty0),(1,I size1),(2,.bool closed2),(7,I i_9),(27,.bool (decide (e_4_9 > 2)))] [] (ai (ix hi_4_2) (ai (spec_l2Kids_s _ _ hr_4_4) (ai bod_214 (ai (oi (I r_4_4)) (ar 3 hb_4_0 (ai (ix hi_4_9) (ar 3 hb_4_0 trivial))))))) ?_
    obtain rfl := os h
    exact Into.mk
   refine rg hc none [oN,oN,some (.el (I e_4_2)),oN,oc (I r_4_4),oN,oN,o_,o_,o_,o_,o_,oF] [(0,sI ty0),(1,I size1),(2,.bool closed2),(7,I i_9),(27,.bool false)] [] (ai (ix hi_4_2) (ai (spec_l2Kids_s _ _ hr_4_4) (ai bod_214 (ai (oi (I r_4_4)) (ar 5 (neT hb_4_0) (ai hb_4_0 trivial)))))) ?_
   obtain rfl := os h
   exact Into.mk
  clear hj_12
  obtain ⟨fl,hj_17,h⟩ := bsome h
  refine flw (spec_l2Graded_F1 c ty0 size1 closed2 i_9 fl) ?_ (fun hF => ?_)
  ·replace h := hj_17
   rcases is h with ⟨hb_13,h⟩ | ⟨hb_13,h⟩
   ·refine cT v_11 hb_13 ?_
    obtain ⟨e_5_2,hi_5_2,h⟩ := bsome h
    obtain ⟨r_5_4,hr_5_4,h⟩ := bsome h
    refine rs hc none [oN,oN,some (.el (I e_5_2)),oN,oc (I r_5_4),oN] [(0,sI ty0),(1,I size1),(2,.bool closed2),(7,I i_9),(8,I r_5_4)] [] (ai (ix hi_5_2) (ai (spec_l2Grade_s _ _ hr_5_4) (ai bod_152 (ai (oi (I r_5_4)) trivial)))) ?_
    refine sN ?_
    obtain ⟨v_14,hj_15,h⟩ := bsome h
    refine Wp.into (x := .normal) (mkS [(0,sI ty0),(1,I size1),(2,.bool closed2),(7,I i_9),(42,.bool v_14)] []) ?_ ?_
    ·replace h := hj_15
     rcases is h with ⟨hb_6_0,h⟩ | ⟨hb_6_0,h⟩
     ·refine rg hc none [oN,oN,oN,oN,o_,o_,o_,o_,o_,oT] [(0,sI ty0),(1,I size1),(2,.bool closed2),(7,I i_9),(42,.bool true)] [] (ar 3 (neF hb_6_0) (ai hb_6_0 trivial)) ?_
      obtain rfl := os h
      exact Into.mk
     rcases is h with ⟨hb_6_1,h⟩ | ⟨hb_6_1,h⟩
     ·refine rg hc none [oN,oN,oN,oN,oN,oN,oN,oN,oT,oF] [(0,sI ty0),(1,I size1),(2,.bool closed2),(7,I i_9),(42,.bool (decide (r_5_4 < 0)))] [] (ar 2 hb_6_0 (ar 2 hb_6_1 (ai hb_6_0 (ai hb_6_1 (ai hb_6_0 trivial))))) ?_
      obtain rfl := os h
      exact Into.mk
     refine rg hc none [oN,oN,oN,oN,oN,oN,o_,o_,oF,oF] [(0,sI ty0),(1,I size1),(2,.bool closed2),(7,I i_9),(42,.bool false)] [] (ar 2 hb_6_0 (ar 2 (neT hb_6_1) (ai hb_6_0 (ai hb_6_1 (ai hb_6_0 trivial))))) ?_
     obtain rfl := os h
     exact Into.mk
    clear hj_15
    rcases is h with ⟨hb_16,h⟩ | ⟨hb_16,h⟩
    ·refine cT v_14 hb_16 ?_
     refine rs0 hc 1 [(6,.bool false)] [] ?_
     refine rt ?_
     obtain rfl := os h
     exact re [true]
    refine cF v_14 hb_16 ?_
    refine sk ?_
    obtain rfl := os h
    exact iv []
   refine cF v_11 hb_13 ?_
   refine sk ?_
   obtain rfl := os h
   exact iv []
  rcases fl with ⟨⟩ | r
  ·refine Wp.into (x := .normal) (mkS [(0,sI ty0),(1,I size1),(2,.bool closed2),(7,I i_9)] []) hF ?_
   refine rg0 hc 3 [(0,sI ty0),(1,I size1),(2,.bool closed2),(7,I (wr (i_9 + 1)))] [] ?_
   refine loopQ_norm ?_
   exact (spec_l2Graded_l0_ih _ _ h c hc)
  refine Wp.mono hF ?_
  rintro _ _ ⟨rfl,hfin⟩
  obtain rfl := os h
  exact ⟨rfl,hfin⟩
 refine cF ((decide (i_9 < (ty0.length : Int)))) hb_10 ?_
 refine xt 0 ?_
 refine seqQ_exit ?_
 refine loopQ_exit ?_
 obtain rfl := os h
 exact iv []
def spec_l2Graded (p : (List Int) × Int × Bool) : Option (Bool) :=
 match p with
 | (ty0,size1,closed2) =>
  (spec_l2Graded_l0 (ty0,size1,closed2,0)) >>= fun fl => match fl with
  | .inl () =>
   some true
  | .inr r =>
   some r
def M_spec_l2Graded (p : (List Int) × Int × Bool) (r : Bool) : Prop :=
 match p with
 | (ty0,size1,closed2) => FnSound Tryz.prog 165 [sI ty0,I size1,.bool closed2] (.bool r) []
theorem spec_l2Graded_s : ∀ p r,spec_l2Graded p = some r → M_spec_l2Graded p r := by
 rintro ⟨ty0,size1,closed2⟩ r h
 unfold spec_l2Graded at h
 refine b0 Tryz.f165 B165 43 [(0,sI ty0),(1,I size1),(2,.bool closed2)] fun c hc => ?_
 refine rs0 hc 1 [(0,sI ty0),(1,I size1),(2,.bool closed2)] [] ?_
 refine sN ?_
 refine rs0 hc 1 [(0,sI ty0),(1,I size1),(2,.bool closed2),(7,I 0)] [] ?_
 refine bk 0 ?_
 obtain ⟨fl,hl_18,h⟩ := bsome h
 have hL := spec_l2Graded_l0_s _ _ hl_18 c hc
 refine lp ?_
 rcases fl with ⟨⟩ | r
 ·refine WpL.into (e := (.exit 0)) (mkS [] []) hL ?_
  refine blockQ_hit ?_
  refine rs0 hc 1 [(6,.bool true)] [] ?_
  refine rt ?_
  obtain rfl := os h
  exact rq [true]
 refine WpL.mono hL ?_
 rintro _ _ ⟨rfl,hfin⟩
 obtain rfl := os h
 exact ⟨.inl rfl,hfin⟩
def spec_l3Context_F1 (c : Ctx) : (Unit) ⊕ (Bool) → Exit → AState → Prop
 | .inl _ => Into c (.exit 0) (mkS [] [])
 | .inr r => RetE TIx Tryz.f140 [] (.bool r)
def spec_l3Context_l0 (p : GSystem × (List (List Int)) × Int) : Option ((Unit) ⊕ (Bool)) :=
 match p with
 | (s0,ctx1,i_6) =>
  if (decide (i_6 < (ctx1.length : Int))) = true then
   ((
    (idx ctx1 i_6) >>= fun e_6_2 =>
    (spec_l2Type e_6_2) >>= fun r_6_4 =>
    if r_6_4 = true then
     (idx ctx1 i_6) >>= fun e_6_9 =>
     (spec_l2Graded (e_6_9,s0.fSize,true)) >>= fun r_6_13 =>
     some ((!r_6_13))
    else
     some (true)
   ) : Option (Bool)) >>= fun v_8 =>
   if v_8 = true then
    some (.inr false)
   else
    spec_l3Context_l0 (s0,ctx1,(wr (i_6 + 1)))
  else
   some (.inl ())
 partial_fixpoint
def M_spec_l3Context_l0 (p : GSystem × (List (List Int)) × Int) (fl : (Unit) ⊕ (Bool)) : Prop :=
 match p with
 | (s0,ctx1,i_6) => ∀ c : Ctx,c.nt = 31 → WpL Tryz.prog c (cl (cl (cr (cl (cr (cr B140)))))) (spec_l3Context_F1 c fl) (mkS [(1,sL ctx1),(2,.ra 1 0),(5,I i_6)] [(1,bSystem s0)])
theorem spec_l3Context_l0_s : ∀ p r,spec_l3Context_l0 p = some r → M_spec_l3Context_l0 p r := by
 refine spec_l3Context_l0.partial_correctness M_spec_l3Context_l0 ?_
 rintro spec_l3Context_l0_f spec_l3Context_l0_ih ⟨s0,ctx1,i_6⟩ r h
 intro c hc
 refine WpL.step ?_
 refine sN ?_
 refine rs hc none [oN,oN,some (.eqv (.no) ⟨[(11,I (ctx1.length : Int))],[],[]⟩),oN] [(1,sL ctx1),(2,.ra 1 0),(5,I i_6),(12,.bool (decide (i_6 < (ctx1.length : Int))))] [(1,bSystem s0)] (ai (lenT (d := 11) LI_s ctx1) trivial) ?_
 rcases is h with ⟨hb_7,h⟩ | ⟨hb_7,h⟩
 ·refine cT ((decide (i_6 < (ctx1.length : Int)))) hb_7 ?_
  refine sk ?_
  refine sN ?_
  refine bk 1 ?_
  refine sN ?_
  obtain ⟨v_8,hj_9,h⟩ := bsome h
  refine Wp.into (x := .normal) (mkS [(1,sL ctx1),(2,.ra 1 0),(5,I i_6),(30,.bool v_8)] [(1,bSystem s0)]) ?_ ?_
  ·replace h := hj_9
   obtain ⟨e_6_2,hi_6_2,h⟩ := bsome h
   obtain ⟨r_6_4,hr_6_4,h⟩ := bsome h
   rcases is h with ⟨hb_6_0,h⟩ | ⟨hb_6_0,h⟩
   ·obtain ⟨e_6_9,hi_6_9,h⟩ := bsome h
    obtain ⟨r_6_13,hr_6_13,h⟩ := bsome h
    refine rg hc ah2_0 [oN,oN,some (.el (sI e_6_2)),oN,oc (.bool r_6_4),oN,oN,oN,oN,some (.el (sI e_6_9)),oN,oN,oN,oc (.bool r_6_13),oN,oF] [(1,sL ctx1),(2,.ra 1 0),(5,I i_6),(30,.bool (!r_6_13))] [(1,bSystem s0)] (ai (idx_sl (enc := LI_s) (x := sI e_6_2) hi_6_2 (eq_LI_s e_6_2)) (ai (spec_l2Type_s _ _ hr_6_4) (ai bod_164 (ai (oi (.bool r_6_4)) (ar 3 (nF hb_6_0) (ai (idx_sl (enc := LI_s) (x := sI e_6_9) hi_6_9 (eq_LI_s e_6_9)) (ar 4 (nF hb_6_0) (ai (spec_l2Graded_s _ _ hr_6_13) (ai bod_165 (ai (oi (.bool r_6_13)) (ar 2 (nF hb_6_0) trivial))))))))))) ?_
    obtain rfl := os h
    exact Into.mk
   refine rg hc ah2_0 [oN,oN,some (.el (sI e_6_2)),oN,oc (.bool r_6_4),oN,oN,o_,o_,o_,o_,o_,o_,o_,o_,oT] [(1,sL ctx1),(2,.ra 1 0),(5,I i_6),(30,.bool true)] [(1,bSystem s0)] (ai (idx_sl (enc := LI_s) (x := sI e_6_2) hi_6_2 (eq_LI_s e_6_2)) (ai (spec_l2Type_s _ _ hr_6_4) (ai bod_164 (ai (oi (.bool r_6_4)) (ar 8 (neF (nT hb_6_0)) (ai (nT hb_6_0) trivial)))))) ?_
   obtain rfl := os h
   exact Into.mk
  clear hj_9
  rcases is h with ⟨hb_10,h⟩ | ⟨hb_10,h⟩
  ·refine cT v_8 hb_10 ?_
   refine rs0 hc 1 [(4,.bool false)] [] ?_
   refine rt ?_
   obtain rfl := os h
   exact re [true]
  refine cF v_8 hb_10 ?_
  refine sk ?_
  refine rg0 hc 3 [(1,sL ctx1),(2,.ra 1 0),(5,I (wr (i_6 + 1)))] [(1,bSystem s0)] ?_
  refine loopQ_norm ?_
  exact (spec_l3Context_l0_ih _ _ h c hc)
 refine cF ((decide (i_6 < (ctx1.length : Int)))) hb_7 ?_
 refine xt 0 ?_
 refine seqQ_exit ?_
 refine loopQ_exit ?_
 obtain rfl := os h
 exact iv []
def spec_l3Context (p : GSystem × (List (List Int))) : Option (Bool) :=
 match p with
 | (s0,ctx1) =>
  if (decide ((ctx1.length : Int) > 8)) = true then
   some false
  else
   (spec_l3Context_l0 (s0,ctx1,0)) >>= fun fl => match fl with
   | .inl () =>
    some true
   | .inr r =>
    some r
def M_spec_l3Context (p : GSystem × (List (List Int))) (r : Bool) : Prop :=
 match p with
 | (s0,ctx1) => FnSound Tryz.prog 140 [aSystem s0,sL ctx1] (.bool r) []
theorem spec_l3Context_s : ∀ p r,spec_l3Context p = some r → M_spec_l3Context p r := by
 rintro ⟨s0,ctx1⟩ r h
 unfold spec_l3Context at h
 refine b0 Tryz.f140 B140 31 [(0,aSystem s0),(1,sL ctx1)] fun c hc => ?_
 refine rs hc none [some (.new 1),oN] [(1,sL ctx1),(2,.ra 1 0)] [(1,bSystem s0)] trivial ?_
 refine sN ?_
 refine rs hc none [oN,some (.eqv (.no) ⟨[(7,I (ctx1.length : Int))],[],[]⟩),oN] [(1,sL ctx1),(2,.ra 1 0),(8,.bool (decide ((ctx1.length : Int) > 8)))] [(1,bSystem s0)] (ai (lenT (d := 7) LI_s ctx1) trivial) ?_
 rcases is h with ⟨hb_1,h⟩ | ⟨hb_1,h⟩
 ·refine cT ((decide ((ctx1.length : Int) > 8))) hb_1 ?_
  refine rs0 hc 1 [(4,.bool false)] [] ?_
  refine rt ?_
  obtain rfl := os h
  exact rq [true]
 refine cF ((decide ((ctx1.length : Int) > 8))) hb_1 ?_
 refine sk ?_
 refine sN ?_
 refine rs0 hc 1 [(1,sL ctx1),(2,.ra 1 0),(5,I 0)] [(1,bSystem s0)] ?_
 refine bk 0 ?_
 obtain ⟨fl,hl_11,h⟩ := bsome h
 have hL := spec_l3Context_l0_s _ _ hl_11 c hc
 refine lp ?_
 rcases fl with ⟨⟩ | r
 ·refine WpL.into (e := (.exit 0)) (mkS [] []) hL ?_
  refine blockQ_hit ?_
  refine rs0 hc 1 [(4,.bool true)] [] ?_
  refine rt ?_
  obtain rfl := os h
  exact rq [true]
 refine WpL.mono hL ?_
 rintro _ _ ⟨rfl,hfin⟩
 obtain rfl := os h
 exact ⟨.inl rfl,hfin⟩
def spec_l2Left_F1 (c : Ctx) : Int → Exit → AState → Prop
 | left_9 => Into c (.exit 0) (mkS [(1,I left_9)] [])
mutual
def spec_l2Left (p : GTerm × Int) : Option (Int) :=
 match p with
 | (t0,left1) =>
  (spec_l2Left_l0 (t0,(wr (left1 - 1)),0)) >>= fun left_9 =>
  some left_9
 partial_fixpoint
def spec_l2Left_l0 (p : GTerm × Int × Int) : Option (Int) :=
 match p with
 | (t0,left_4,k_5) =>
  ((
   if (decide (k_5 < (t0.fKids.length : Int))) = true then
    some ((decide (left_4 ≥ 0)))
   else
    some (false)
  ) : Option (Bool)) >>= fun v_6 =>
  if v_6 = true then
   (idx t0.fKids k_5) >>= fun e_5_3 =>
   (spec_l2Left (e_5_3,left_4)) >>= fun r_5_6 =>
   spec_l2Left_l0 (t0,r_5_6,(wr (k_5 + 1)))
  else
   some (left_4)
 partial_fixpoint
end
def M_spec_l2Left (p : GTerm × Int) (r : Int) : Prop :=
 match p with
 | (t0,left1) => FnSound Tryz.prog 115 [aTerm t0,I left1] (I r) []
def M_spec_l2Left_l0 (p : GTerm × Int × Int) (fl : Int) : Prop :=
 match p with
 | (t0,left_4,k_5) => ∀ c : Ctx,c.nt = 27 → WpL Tryz.prog c (cl (cl (cr (cl (cr (cr B115)))))) (spec_l2Left_F1 c fl) (mkS [(1,I left_4),(2,.ra 1 0),(5,I k_5)] [(1,bTerm t0)])
theorem spec_l2Left_all : (∀ p r,spec_l2Left p = some r → M_spec_l2Left p r) ∧ (∀ p r,spec_l2Left_l0 p = some r → M_spec_l2Left_l0 p r) := by
 refine spec_l2Left.mutual_partial_correctness M_spec_l2Left M_spec_l2Left_l0 ?_ ?_
 ·rintro spec_l2Left_l0_f spec_l2Left_l0_ih ⟨t0,left1⟩ r h
  refine b0 Tryz.f115 B115 27 [(0,aTerm t0),(1,I left1)] fun c hc => ?_
  refine rs hc none [some (.new 1),oN] [(1,I left1),(2,.ra 1 0)] [(1,bTerm t0)] trivial ?_
  refine rs0 hc 3 [(1,I (wr (left1 - 1))),(2,.ra 1 0)] [(1,bTerm t0)] ?_
  refine sN ?_
  refine rs0 hc 1 [(1,I (wr (left1 - 1))),(2,.ra 1 0),(5,I 0)] [(1,bTerm t0)] ?_
  refine bk 0 ?_
  obtain ⟨left_9,hl_10,h⟩ := bsome h
  have hL := spec_l2Left_l0_ih _ _ hl_10 c hc
  refine lp ?_
  refine WpL.into (e := (.exit 0)) (mkS [(1,I left_9)] []) hL ?_
  refine blockQ_hit ?_
  refine rs0 hc 2 [(4,I left_9)] [] ?_
  refine rt ?_
  obtain rfl := os h
  exact rq [true]
 ·rintro spec_l2Left_f spec_l2Left_l0_f spec_l2Left_ih spec_l2Left_l0_ih ⟨t0,left_4,k_5⟩ r h
  intro c hc
  refine WpL.step ?_
  refine sN ?_
  refine sN ?_
  obtain ⟨v_6,hj_7,h⟩ := bsome h
  refine Wp.into (x := .normal) (mkS [(1,I left_4),(2,.ra 1 0),(5,I k_5),(16,.bool v_6)] [(1,bTerm t0)]) ?_ ?_
  ·replace h := hj_7
   rcases is h with ⟨hb_3_0,h⟩ | ⟨hb_3_0,h⟩
   ·refine rg hc none [oN,oN,oN,some (.eqv (.no) ⟨[(11,I (t0.fKids.length : Int))],[],[]⟩),oN,oN,oN,oN,oT] [(1,I left_4),(2,.ra 1 0),(5,I k_5),(16,.bool (decide (left_4 ≥ 0)))] [(1,bTerm t0)] (ai (lenT (d := 11) GTerm_S t0.fKids) (ar 3 hb_3_0 trivial)) ?_
    obtain rfl := os h
    exact Into.mk
   refine rg hc none [oN,oN,oN,some (.eqv (.no) ⟨[(11,I (t0.fKids.length : Int))],[],[]⟩),oN,oN,o_,o_,oF] [(1,I left_4),(2,.ra 1 0),(5,I k_5),(16,.bool false)] [(1,bTerm t0)] (ai (lenT (d := 11) GTerm_S t0.fKids) (ar 2 (neT hb_3_0) (ai hb_3_0 trivial))) ?_
   obtain rfl := os h
   exact Into.mk
  clear hj_7
  rcases is h with ⟨hb_8,h⟩ | ⟨hb_8,h⟩
  ·refine cT v_6 hb_8 ?_
   refine sk ?_
   refine sN ?_
   refine bk 1 ?_
   obtain ⟨e_5_3,hi_5_3,h⟩ := bsome h
   obtain ⟨r_5_6,hr_5_6,h⟩ := bsome h
   refine rg hc none [oN,oN,oN,some (.el (aTerm e_5_3)),oN,oN,oc (I r_5_6),oN] [(1,I r_5_6),(2,.ra 1 0),(5,I k_5)] [(1,bTerm t0)] (ai (idx_sl (enc := GTerm_S) (x := aTerm e_5_3) hi_5_3 (eq_GTerm_S e_5_3)) (ai (spec_l2Left_ih _ _ hr_5_6) (ai bod_115 (ai (oi (I r_5_6)) trivial)))) ?_
   refine rg0 hc 3 [(1,I r_5_6),(2,.ra 1 0),(5,I (wr (k_5 + 1)))] [(1,bTerm t0)] ?_
   refine loopQ_norm ?_
   exact (spec_l2Left_l0_ih _ _ h c hc)
  refine cF v_6 hb_8 ?_
  refine xt 0 ?_
  refine seqQ_exit ?_
  refine loopQ_exit ?_
  obtain rfl := os h
  exact iv []
theorem spec_l2Left_s : ∀ p r,spec_l2Left p = some r → M_spec_l2Left p r := spec_l2Left_all.1
theorem spec_l2Left_l0_s : ∀ p r,spec_l2Left_l0 p = some r → M_spec_l2Left_l0 p r := spec_l2Left_all.2
def spec_l2Many (op0 : Int) : Option (Int) :=
  (spec_l1In (op0,0,12)) >>= fun r_1_1 =>
  if r_1_1 = true then
   (idx [0,0,2,3,2,2,1,1,3,1,2,1,2] op0) >>= fun e_3_2 =>
   some e_3_2
  else
   some (-1)
def M_spec_l2Many (op0 : Int) (r : Int) : Prop :=
 FnSound Tryz.prog 241 [I op0] (I r) []
theorem spec_l2Many_s : ∀ p r,spec_l2Many p = some r → M_spec_l2Many p r := by
 rintro op0 r h
 unfold spec_l2Many at h
 refine b0 Tryz.f241 B241 10 [(0,I op0)] fun c hc => ?_
 refine rs0 hc 1 [(0,I op0)] [] ?_
 refine sN ?_
 obtain ⟨r_1_1,hr_1_1,h⟩ := bsome h
 refine rs hc none [oN,oc (.bool r_1_1),oN] [(0,I op0),(5,.bool (!r_1_1))] [] (ai (spec_l1In_s _ _ hr_1_1) (ai bod_100 (ai (oi (.bool r_1_1)) trivial))) ?_
 rcases is h with ⟨hb_1,h⟩ | ⟨hb_1,h⟩
 ·refine cF (!r_1_1) (nF hb_1) ?_
  refine sk ?_
  obtain ⟨e_3_2,hi_3_2,h⟩ := bsome h
  refine rs hc none [some (.mk 1 true),oN,oN,some (.el (I e_3_2)),oN] [(2,I e_3_2)] [] (ai (idx_own (enc := I) hi_3_2) (ai (ix hi_3_2).2 trivial)) ?_
  refine rt ?_
  obtain rfl := os h
  exact rq [true]
 refine cT (!r_1_1) (nT hb_1) ?_
 refine rs0 hc 1 [(2,I (-1))] [] ?_
 refine rt ?_
 obtain rfl := os h
 exact rq [true]
def spec_l2Has (op0 : Int) : Option (Bool) :=
  ((
   if (op0 == 5) = true then
    some (true)
   else
    if (op0 == 8) = true then
     some (true)
    else
     if (op0 == 9) = true then
      some (true)
     else
      if (op0 == 11) = true then
       some (true)
      else
       some ((op0 == 12))
  ) : Option (Bool)) >>= fun v_1 =>
  some v_1
def M_spec_l2Has (op0 : Int) (r : Bool) : Prop :=
 FnSound Tryz.prog 242 [I op0] (.bool r) []
theorem spec_l2Has_s : ∀ p r,spec_l2Has p = some r → M_spec_l2Has p r := by
 rintro op0 r h
 unfold spec_l2Has at h
 refine b0 Tryz.f242 B242 21 [(0,I op0)] fun c hc => ?_
 refine rs0 hc 1 [(0,I op0)] [] ?_
 refine sN ?_
 obtain ⟨v_1,hj_2,h⟩ := bsome h
 refine Wp.into (x := .normal) (mkS [(2,.bool v_1)] []) ?_ ?_
 ·replace h := hj_2
  rcases is h with ⟨hb_1_0,h⟩ | ⟨hb_1_0,h⟩
  ·refine rg hc none [oN,oN,oN,o_,o_,oT,oN,o_,o_,oT,oN,o_,o_,oT,oN,o_,o_,oT,oN] [(2,.bool true)] [] (ar 2 (neF hb_1_0) (ai hb_1_0 (ar 2 nf (ai tt (ar 2 nf (ai tt (ar 2 nf (ai tt trivial)))))))) ?_
   obtain rfl := os h
   exact Into.mk
  rcases is h with ⟨hb_1_1,h⟩ | ⟨hb_1_1,h⟩
  ·refine rg hc none [oN,oN,oN,oN,oN,oF,oN,o_,o_,oT,oN,o_,o_,oT,oN,o_,o_,oT,oN] [(2,.bool true)] [] (ar 3 hb_1_0 (ar 2 (neF hb_1_1) (ai hb_1_1 (ar 2 nf (ai tt (ar 2 nf (ai tt trivial))))))) ?_
   obtain rfl := os h
   exact Into.mk
  rcases is h with ⟨hb_1_2,h⟩ | ⟨hb_1_2,h⟩
  ·refine rg hc none [oN,oN,oN,oN,oN,oF,oN,oN,oN,oF,oN,o_,o_,oT,oN,o_,o_,oT,oN] [(2,.bool true)] [] (ar 3 hb_1_0 (ar 3 hb_1_1 (ar 2 (neF hb_1_2) (ai hb_1_2 (ar 2 nf (ai tt trivial)))))) ?_
   obtain rfl := os h
   exact Into.mk
  rcases is h with ⟨hb_1_3,h⟩ | ⟨hb_1_3,h⟩
  ·refine rg hc none [oN,oN,oN,oN,oN,oF,oN,oN,oN,oF,oN,oN,oN,oF,oN,o_,o_,oT,oN] [(2,.bool true)] [] (ar 3 hb_1_0 (ar 3 hb_1_1 (ar 3 hb_1_2 (ar 2 (neF hb_1_3) (ai hb_1_3 trivial))))) ?_
   obtain rfl := os h
   exact Into.mk
  refine rg hc none [oN,oN,oN,oN,oN,oF,oN,oN,oN,oF,oN,oN,oN,oF,oN,oN,oN,oF,oN] [(2,.bool (op0 == 12))] [] (ar 3 hb_1_0 (ar 3 hb_1_1 (ar 3 hb_1_2 (ar 3 hb_1_3 trivial)))) ?_
  obtain rfl := os h
  exact Into.mk
 clear hj_2
 refine rt ?_
 obtain rfl := os h
 exact rq [true]
def spec_l2Typed (op0 : Int) : Option (Bool) :=
  ((
   if (op0 == 6) = true then
    some (true)
   else
    if (op0 == 7) = true then
     some (true)
    else
     some ((op0 == 9))
  ) : Option (Bool)) >>= fun v_1 =>
  some v_1
def M_spec_l2Typed (op0 : Int) (r : Bool) : Prop :=
 FnSound Tryz.prog 243 [I op0] (.bool r) []
theorem spec_l2Typed_s : ∀ p r,spec_l2Typed p = some r → M_spec_l2Typed p r := by
 rintro op0 r h
 unfold spec_l2Typed at h
 refine b0 Tryz.f243 B243 13 [(0,I op0)] fun c hc => ?_
 refine rs0 hc 1 [(0,I op0)] [] ?_
 refine sN ?_
 obtain ⟨v_1,hj_2,h⟩ := bsome h
 refine Wp.into (x := .normal) (mkS [(2,.bool v_1)] []) ?_ ?_
 ·replace h := hj_2
  rcases is h with ⟨hb_1_0,h⟩ | ⟨hb_1_0,h⟩
  ·refine rg hc none [oN,oN,oN,o_,o_,oT,oN,o_,o_,oT,oN] [(2,.bool true)] [] (ar 2 (neF hb_1_0) (ai hb_1_0 (ar 2 nf (ai tt trivial)))) ?_
   obtain rfl := os h
   exact Into.mk
  rcases is h with ⟨hb_1_1,h⟩ | ⟨hb_1_1,h⟩
  ·refine rg hc none [oN,oN,oN,oN,oN,oF,oN,o_,o_,oT,oN] [(2,.bool true)] [] (ar 3 hb_1_0 (ar 2 (neF hb_1_1) (ai hb_1_1 trivial))) ?_
   obtain rfl := os h
   exact Into.mk
  refine rg hc none [oN,oN,oN,oN,oN,oF,oN,oN,oN,oF,oN] [(2,.bool (op0 == 9))] [] (ar 3 hb_1_0 (ar 3 hb_1_1 trivial)) ?_
  obtain rfl := os h
  exact Into.mk
 clear hj_2
 refine rt ?_
 obtain rfl := os h
 exact rq [true]
def spec_l2Node_F1 (c : Ctx) (t0 : GTerm) (size2 : Int) (closed3 : Bool) : (Unit) ⊕ (Bool) → Exit → AState → Prop
 | .inl _ => Into c .normal (mkS [(2,I size2),(3,.bool closed3),(4,.ra 1 0)] [(1,bTerm t0)])
 | .inr r => RetE TIx Tryz.f212 [] (.bool r)
def spec_l2Node_F2 (c : Ctx) (t0 : GTerm) (size2 : Int) (closed3 : Bool) : (Unit) ⊕ (Bool) → Exit → AState → Prop
 | .inl _ => Into c .normal (mkS [(2,I size2),(3,.bool closed3),(4,.ra 1 0)] [(1,bTerm t0)])
 | .inr r => RetE TIx Tryz.f212 [] (.bool r)
def spec_l2Node_F3 (c : Ctx) (t0 : GTerm) (size2 : Int) (closed3 : Bool) : (Unit) ⊕ (Bool) → Exit → AState → Prop
 | .inl _ => Into c .normal (mkS [(2,I size2),(3,.bool closed3),(4,.ra 1 0)] [(1,bTerm t0)])
 | .inr r => RetE TIx Tryz.f212 [] (.bool r)
def spec_l2Node (p : GTerm × Int × Int × Bool) : Option (Bool) :=
 match p with
 | (t0,n1,size2,closed3) =>
  (spec_l2Many t0.fOp) >>= fun r_1_5 =>
  if ((t0.fKids.length : Int) != r_1_5) = true then
   some false
  else
   ((
    if (t0.fOp == 0) = true then
     (spec_l1In (t0.fN,0,(wr (n1 - 1)))) >>= fun r_6_4 =>
     if r_6_4 = true then
      some (.inl ())
     else
      some (.inr false)
    else
     ((
      if (t0.fOp == 1) = true then
       (spec_l1In (t0.fN,0,2)) >>= fun r_9_2 =>
       if r_9_2 = true then
        some (.inl ())
       else
        some (.inr false)
      else
       (spec_l2Has t0.fOp) >>= fun r_11_2 =>
       ((
        if r_11_2 = true then
         ((
          if (decide (t0.fN ≥ size2)) = true then
           some (true)
          else
           if (decide (t0.fN < (-1))) = true then
            some (true)
           else
            if closed3 = true then
             some ((decide (t0.fN < 0)))
            else
             some (false)
         ) : Option (Bool)) >>= fun v_7 =>
         if v_7 = true then
          some (.inr false)
         else
          some (.inl ())
        else
         if (t0.fN != 0) = true then
          some (.inr false)
         else
          some (.inl ())) : Option ((Unit) ⊕ (Bool))) >>= fun fl => match fl with
       | .inl () =>
        some (.inl ())
       | .inr r =>
        some (.inr r)) : Option ((Unit) ⊕ (Bool))) >>= fun fl => match fl with
     | .inl () =>
      some (.inl ())
     | .inr r =>
      some (.inr r)) : Option ((Unit) ⊕ (Bool))) >>= fun fl => match fl with
   | .inl () =>
    (spec_l2Typed t0.fOp) >>= fun r_14_2 =>
    if r_14_2 = true then
     ((
      (spec_l2Type t0.fType) >>= fun r_16_2 =>
      if r_16_2 = true then
       (spec_l2Graded (t0.fType,size2,closed3)) >>= fun r_16_8 =>
       some (r_16_8)
      else
       some (false)
     ) : Option (Bool)) >>= fun v_15 =>
     some v_15
    else
     some ((t0.fType.length : Int) == 0)
   | .inr r =>
    some r
def M_spec_l2Node (p : GTerm × Int × Int × Bool) (r : Bool) : Prop :=
 match p with
 | (t0,n1,size2,closed3) => FnSound Tryz.prog 212 [aTerm t0,I n1,I size2,.bool closed3] (.bool r) []
theorem spec_l2Node_s : ∀ p r,spec_l2Node p = some r → M_spec_l2Node p r := by
 rintro ⟨t0,n1,size2,closed3⟩ r h
 unfold spec_l2Node at h
 refine b0 Tryz.f212 B212 76 [(0,aTerm t0),(1,I n1),(2,I size2),(3,.bool closed3)] fun c hc => ?_
 refine rs hc none [some (.new 1),oN] [(1,I n1),(2,I size2),(3,.bool closed3),(4,.ra 1 0)] [(1,bTerm t0)] trivial ?_
 refine sN ?_
 obtain ⟨r_1_5,hr_1_5,h⟩ := bsome h
 refine rs hc (rx [[0],[1],[2],[0],[0,3],[0,3,4],[6]]) [oN,oN,some (.eqv (.no) ⟨[(11,I (t0.fKids.length : Int))],[],[]⟩),oN,oN,oc (I r_1_5),oN] [(1,I n1),(2,I size2),(3,.bool closed3),(4,.ra 1 0),(15,.bool ((t0.fKids.length : Int) != r_1_5))] [(1,bTerm t0)] (ai (lenT (d := 11) GTerm_S t0.fKids) (ai (spec_l2Many_s _ _ hr_1_5) (ai bod_241 (ai (oi (I r_1_5)) trivial)))) ?_
 rcases is h with ⟨hb_1,h⟩ | ⟨hb_1,h⟩
 ·refine cT (((t0.fKids.length : Int) != r_1_5)) hb_1 ?_
  refine rs0 hc 1 [(8,.bool false)] [] ?_
  refine rt ?_
  obtain rfl := os h
  exact rq [true]
 refine cF (((t0.fKids.length : Int) != r_1_5)) hb_1 ?_
 refine sk ?_
 refine sN ?_
 refine bk 0 ?_
 refine rs0 hc 4 [(1,I n1),(2,I size2),(3,.bool closed3),(4,.ra 1 0),(19,.bool (t0.fOp == 0))] [(1,bTerm t0)] ?_
 obtain ⟨fl,hj_13,h⟩ := bsome h
 refine flw (spec_l2Node_F3 c t0 size2 closed3 fl) ?_ (fun hF => ?_)
 ·replace h := hj_13
  rcases is h with ⟨hb_2,h⟩ | ⟨hb_2,h⟩
  ·refine cT ((t0.fOp == 0)) hb_2 ?_
   obtain ⟨r_6_4,hr_6_4,h⟩ := bsome h
   refine rs hc none [oN,oN,oN,oN,oc (.bool r_6_4),oN] [(2,I size2),(3,.bool closed3),(4,.ra 1 0),(28,.bool (!r_6_4))] [(1,bTerm t0)] (ai (spec_l1In_s _ _ hr_6_4) (ai bod_100 (ai (oi (.bool r_6_4)) trivial))) ?_
   rcases is h with ⟨hb_3,h⟩ | ⟨hb_3,h⟩
   ·refine cF (!r_6_4) (nF hb_3) ?_
    refine sk ?_
    obtain rfl := os h
    exact iv []
   refine cT (!r_6_4) (nT hb_3) ?_
   refine rs0 hc 1 [(8,.bool false)] [] ?_
   refine rt ?_
   obtain rfl := os h
   exact re [true]
  refine cF ((t0.fOp == 0)) hb_2 ?_
  refine rs0 hc 4 [(2,I size2),(3,.bool closed3),(4,.ra 1 0),(29,.bool (t0.fOp == 1))] [(1,bTerm t0)] ?_
  obtain ⟨fl,hj_12,h⟩ := bsome h
  refine flw (spec_l2Node_F2 c t0 size2 closed3 fl) ?_ (fun hF => ?_)
  ·replace h := hj_12
   rcases is h with ⟨hb_4,h⟩ | ⟨hb_4,h⟩
   ·refine cT ((t0.fOp == 1)) hb_4 ?_
    obtain ⟨r_9_2,hr_9_2,h⟩ := bsome h
    refine rs hc none [oN,oN,oc (.bool r_9_2),oN] [(2,I size2),(3,.bool closed3),(4,.ra 1 0),(36,.bool (!r_9_2))] [(1,bTerm t0)] (ai (spec_l1In_s _ _ hr_9_2) (ai bod_100 (ai (oi (.bool r_9_2)) trivial))) ?_
    rcases is h with ⟨hb_5,h⟩ | ⟨hb_5,h⟩
    ·refine cF (!r_9_2) (nF hb_5) ?_
     refine sk ?_
     obtain rfl := os h
     exact iv []
    refine cT (!r_9_2) (nT hb_5) ?_
    refine rs0 hc 1 [(8,.bool false)] [] ?_
    refine rt ?_
    obtain rfl := os h
    exact re [true]
   refine cF ((t0.fOp == 1)) hb_4 ?_
   obtain ⟨r_11_2,hr_11_2,h⟩ := bsome h
   refine rs hc none [oN,oN,oc (.bool r_11_2),oN] [(2,I size2),(3,.bool closed3),(4,.ra 1 0),(37,.bool r_11_2)] [(1,bTerm t0)] (ai (spec_l2Has_s _ _ hr_11_2) (ai bod_242 (ai (oi (.bool r_11_2)) trivial))) ?_
   obtain ⟨fl,hj_11,h⟩ := bsome h
   refine flw (spec_l2Node_F1 c t0 size2 closed3 fl) ?_ (fun hF => ?_)
   ·replace h := hj_11
    rcases is h with ⟨hb_6,h⟩ | ⟨hb_6,h⟩
    ·refine cT r_11_2 hb_6 ?_
     refine sN ?_
     obtain ⟨v_7,hj_8,h⟩ := bsome h
     refine Wp.into (x := .normal) (mkS [(2,I size2),(3,.bool closed3),(4,.ra 1 0),(57,.bool v_7)] [(1,bTerm t0)]) ?_ ?_
     ·replace h := hj_8
      rcases is h with ⟨hb_12_0,h⟩ | ⟨hb_12_0,h⟩
      ·refine rg hc none [oN,oN,oN,oN,oN,o_,o_,o_,oT,oN,o_,o_,o_,o_,o_,o_,oT] [(2,I size2),(3,.bool closed3),(4,.ra 1 0),(57,.bool true)] [(1,bTerm t0)] (ar 3 (neF hb_12_0) (ai hb_12_0 (ar 3 nf (ai tt trivial)))) ?_
       obtain rfl := os h
       exact Into.mk
      rcases is h with ⟨hb_12_1,h⟩ | ⟨hb_12_1,h⟩
      ·refine rg hc none [oN,oN,oN,oN,oN,oN,oN,oN,oF,oN,o_,o_,o_,o_,o_,o_,oT] [(2,I size2),(3,.bool closed3),(4,.ra 1 0),(57,.bool true)] [(1,bTerm t0)] (ar 4 hb_12_0 (ar 3 (neF hb_12_1) (ai hb_12_1 trivial))) ?_
       obtain rfl := os h
       exact Into.mk
      rcases is h with ⟨hb_12_2,h⟩ | ⟨hb_12_2,h⟩
      ·refine rg hc none [oN,oN,oN,oN,oN,oN,oN,oN,oF,oN,oN,oN,oN,oN,oN,oT,oF] [(2,I size2),(3,.bool closed3),(4,.ra 1 0),(57,.bool (decide (t0.fN < 0)))] [(1,bTerm t0)] (ar 4 hb_12_0 (ar 2 hb_12_1 (ar 3 hb_12_2 (ai hb_12_1 (ai hb_12_2 (ai hb_12_1 trivial)))))) ?_
       obtain rfl := os h
       exact Into.mk
      refine rg hc none [oN,oN,oN,oN,oN,oN,oN,oN,oF,oN,oN,oN,o_,o_,o_,oF,oF] [(2,I size2),(3,.bool closed3),(4,.ra 1 0),(57,.bool false)] [(1,bTerm t0)] (ar 4 hb_12_0 (ar 2 hb_12_1 (ar 3 (neT hb_12_2) (ai hb_12_1 (ai hb_12_2 (ai hb_12_1 trivial)))))) ?_
      obtain rfl := os h
      exact Into.mk
     clear hj_8
     rcases is h with ⟨hb_9,h⟩ | ⟨hb_9,h⟩
     ·refine cT v_7 hb_9 ?_
      refine rs0 hc 1 [(8,.bool false)] [] ?_
      refine rt ?_
      obtain rfl := os h
      exact re [true]
     refine cF v_7 hb_9 ?_
     refine sk ?_
     obtain rfl := os h
     exact iv []
    refine cF r_11_2 hb_6 ?_
    refine rs0 hc 3 [(2,I size2),(3,.bool closed3),(4,.ra 1 0),(18,.bool (t0.fN != 0))] [(1,bTerm t0)] ?_
    rcases is h with ⟨hb_10,h⟩ | ⟨hb_10,h⟩
    ·refine cT ((t0.fN != 0)) hb_10 ?_
     refine rs0 hc 1 [(8,.bool false)] [] ?_
     refine rt ?_
     obtain rfl := os h
     exact re [true]
    refine cF ((t0.fN != 0)) hb_10 ?_
    refine sk ?_
    obtain rfl := os h
    exact iv []
   rcases fl with ⟨⟩ | r
   ·refine Wp.into (x := .normal) (mkS [(2,I size2),(3,.bool closed3),(4,.ra 1 0)] [(1,bTerm t0)]) hF ?_
    obtain rfl := os h
    exact Into.mk
   refine Wp.mono hF ?_
   rintro _ _ ⟨rfl,hfin⟩
   obtain rfl := os h
   exact ⟨rfl,hfin⟩
  rcases fl with ⟨⟩ | r
  ·refine Wp.into (x := .normal) (mkS [(2,I size2),(3,.bool closed3),(4,.ra 1 0)] [(1,bTerm t0)]) hF ?_
   obtain rfl := os h
   exact Into.mk
  refine Wp.mono hF ?_
  rintro _ _ ⟨rfl,hfin⟩
  obtain rfl := os h
  exact ⟨rfl,hfin⟩
 rcases fl with ⟨⟩ | r
 ·refine Wp.into (x := .normal) (mkS [(2,I size2),(3,.bool closed3),(4,.ra 1 0)] [(1,bTerm t0)]) hF ?_
  refine sN ?_
  obtain ⟨r_14_2,hr_14_2,h⟩ := bsome h
  refine rs hc none [oN,oN,oc (.bool r_14_2),oN] [(2,I size2),(3,.bool closed3),(4,.ra 1 0),(61,.bool (!r_14_2))] [(1,bTerm t0)] (ai (spec_l2Typed_s _ _ hr_14_2) (ai bod_243 (ai (oi (.bool r_14_2)) trivial))) ?_
  rcases is h with ⟨hb_14,h⟩ | ⟨hb_14,h⟩
  ·refine cF (!r_14_2) (nF hb_14) ?_
   refine sk ?_
   refine sN ?_
   obtain ⟨v_15,hj_16,h⟩ := bsome h
   refine Wp.into (x := .normal) (mkS [(8,.bool v_15)] []) ?_ ?_
   ·replace h := hj_16
    obtain ⟨r_16_2,hr_16_2,h⟩ := bsome h
    rcases is h with ⟨hb_16_0,h⟩ | ⟨hb_16_0,h⟩
    ·obtain ⟨r_16_8,hr_16_8,h⟩ := bsome h
     refine rg hc none [oN,oN,oc (.bool r_16_2),oN,oN,oN,oN,oN,oc (.bool r_16_8),oT,oN] [(8,.bool r_16_8)] [] (ai (spec_l2Type_s _ _ hr_16_2) (ai bod_164 (ai (oi (.bool r_16_2)) (ar 5 hb_16_0 (ai (spec_l2Graded_s _ _ hr_16_8) (ai bod_165 (ai (oi (.bool r_16_8)) (ai hb_16_0 trivial)))))))) ?_
     obtain rfl := os h
     exact Into.mk
    refine rg hc none [oN,oN,oc (.bool r_16_2),oN,o_,o_,o_,o_,o_,oF,oN] [(8,.bool false)] [] (ai (spec_l2Type_s _ _ hr_16_2) (ai bod_164 (ai (oi (.bool r_16_2)) (ar 5 (neT hb_16_0) (ai hb_16_0 trivial))))) ?_
    obtain rfl := os h
    exact Into.mk
   clear hj_16
   refine rt ?_
   obtain rfl := os h
   exact rq [true]
  refine cT (!r_14_2) (nT hb_14) ?_
  refine rs hc none [oN,oN,some (.eqv (.no) ⟨[(64,I (t0.fType.length : Int))],[],[]⟩),oN,oN] [(8,.bool ((t0.fType.length : Int) == 0))] [] (ai (lenT (d := 64) I t0.fType) trivial) ?_
  refine rt ?_
  obtain rfl := os h
  exact rq [true]
 refine Wp.mono hF ?_
 rintro _ _ ⟨rfl,hfin⟩
 obtain rfl := os h
 exact ⟨.inl rfl,hfin⟩
end Go.Am
