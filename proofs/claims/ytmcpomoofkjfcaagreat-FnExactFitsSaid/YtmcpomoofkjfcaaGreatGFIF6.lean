/- Functions of the program as pure functions,and that it computes them. Printed by a program of mine (gen.py). -/
import Derived.Test.YtmcpomoofkjfcaaGreatGFIF5
set_option linter.unusedVariables false
set_option linter.unusedSimpArgs false
set_option maxRecDepth 100000
namespace Go.Am
open Go Go.Proofs
def ah6_0 : Option (List (List Nat)) := rx [[0],[0],[0,1],[0],[0,1,2,3],[0,1,2,3,4],[6],[7],[8],[9],[9],[9,10],[9],[9,10,11,12],[9,10,11,12,13],[15],[16],[17]]
def ah6_1 : Option (List (List Nat)) := rh [0,0,0,3,0,0,0,7,8,9,10,10,12,13,14,14,14,17,18,19,20,20,20,23,24,25,26,27,27,27,30,31,32]
def impl_IsSystem_l0 (p : GSystem × Int) : Option ((Unit) ⊕ (Bool)) :=
 match p with
 | (s0,w_8) =>
  if (decide (w_8 < (s0.fPlus.length : Int))) = true then
   ((
    (idx s0.fPlus w_8) >>= fun e_7_4 =>
    (impl_Systemhas (s0,e_7_4)) >>= fun r_7_6 =>
    if r_7_6 = true then
     (idx s0.fTimes w_8) >>= fun e_7_13 =>
     (impl_Systemhas (s0,e_7_13)) >>= fun r_7_15 =>
     some ((!r_7_15))
    else
     some (true)
   ) : Option (Bool)) >>= fun v_10 =>
   if v_10 = true then
    some (.inr false)
   else
    impl_IsSystem_l0 (s0,(wr (w_8 + 1)))
  else
   some (.inl ())
 partial_fixpoint
def M_impl_IsSystem_l0 (p : GSystem × Int) (fl : (Unit) ⊕ (Bool)) : Prop :=
 match p with
 | (s0,w_8) => ∀ c : Ctx,c.nt = 157 → WpL Tryz.prog c (cl (cl (cr (cl (cr (cr (cr B109))))))) (impl_IsSystem_F1 c s0 fl) (mkS [(1,.ra 1 0),(3,I s0.fSize),(42,I (s0.fPlus.length : Int)),(43,I w_8)] [(1,bSystem s0)])
theorem impl_IsSystem_l0_s : ∀ p r,impl_IsSystem_l0 p = some r → M_impl_IsSystem_l0 p r := by
 refine impl_IsSystem_l0.partial_correctness M_impl_IsSystem_l0 ?_
 rintro impl_IsSystem_l0_f impl_IsSystem_l0_ih ⟨s0,w_8⟩ r h
 intro c hc
 refine WpL.step ?_
 refine rs0 hc 1 [(1,.ra 1 0),(3,I s0.fSize),(42,I (s0.fPlus.length : Int)),(43,I w_8),(44,.bool (decide (w_8 < (s0.fPlus.length : Int))))] [(1,bSystem s0)] ?_
 refine sN ?_
 rcases is h with ⟨hb_9,h⟩ | ⟨hb_9,h⟩
 ·refine cT ((decide (w_8 < (s0.fPlus.length : Int)))) hb_9 ?_
  refine sk ?_
  refine sN ?_
  refine bk 1 ?_
  refine rs0 hc 2 [(1,.ra 1 0),(3,I s0.fSize),(4,I w_8),(42,I (s0.fPlus.length : Int)),(43,I w_8)] [(1,bSystem s0)] ?_
  refine sN ?_
  obtain ⟨v_10,hj_11,h⟩ := bsome h
  refine Wp.into (x := .normal) (mkS [(1,.ra 1 0),(3,I s0.fSize),(42,I (s0.fPlus.length : Int)),(43,I w_8),(63,.bool v_10)] [(1,bSystem s0)]) ?_ ?_
  ·replace h := hj_11
   obtain ⟨e_7_4,hi_7_4,h⟩ := bsome h
   obtain ⟨r_7_6,hr_7_6,h⟩ := bsome h
   rcases is h with ⟨hb_7_0,h⟩ | ⟨hb_7_0,h⟩
   ·obtain ⟨e_7_13,hi_7_13,h⟩ := bsome h
    obtain ⟨r_7_15,hr_7_15,h⟩ := bsome h
    refine rg hc ah6_0 [oN,oN,oN,oN,some (.el (I e_7_4)),oN,oc (.bool r_7_6),oN,oN,oN,oN,oN,oN,some (.el (I e_7_13)),oN,oc (.bool r_7_15),oN,oF] [(1,.ra 1 0),(3,I s0.fSize),(42,I (s0.fPlus.length : Int)),(43,I w_8),(63,.bool (!r_7_15))] [(1,bSystem s0)] (ai (ix hi_7_4) (ai (impl_Systemhas_s _ _ hr_7_6) (ai bod_85 (ai (oi (.bool r_7_6)) (ar 5 (nF hb_7_0) (ai (ix hi_7_13) (ar 2 (nF hb_7_0) (ai (impl_Systemhas_s _ _ hr_7_15) (ai bod_85 (ai (oi (.bool r_7_15)) (ar 2 (nF hb_7_0) trivial))))))))))) ?_
    obtain rfl := os h
    exact Into.mk
   refine rg hc ah6_0 [oN,oN,oN,oN,some (.el (I e_7_4)),oN,oc (.bool r_7_6),oN,oN,o_,o_,o_,o_,o_,o_,o_,o_,oT] [(1,.ra 1 0),(3,I s0.fSize),(42,I (s0.fPlus.length : Int)),(43,I w_8),(63,.bool true)] [(1,bSystem s0)] (ai (ix hi_7_4) (ai (impl_Systemhas_s _ _ hr_7_6) (ai bod_85 (ai (oi (.bool r_7_6)) (ar 8 (neF (nT hb_7_0)) (ai (nT hb_7_0) trivial)))))) ?_
   obtain rfl := os h
   exact Into.mk
  clear hj_11
  rcases is h with ⟨hb_12,h⟩ | ⟨hb_12,h⟩
  ·refine cT v_10 hb_12 ?_
   refine rs0 hc 1 [(2,.bool false)] [] ?_
   refine rt ?_
   obtain rfl := os h
   exact re [true]
  refine cF v_10 hb_12 ?_
  refine sk ?_
  refine rg0 hc 2 [(1,.ra 1 0),(3,I s0.fSize),(42,I (s0.fPlus.length : Int)),(43,I (wr (w_8 + 1)))] [(1,bSystem s0)] ?_
  refine loopQ_norm ?_
  exact (impl_IsSystem_l0_ih _ _ h c hc)
 refine cF ((decide (w_8 < (s0.fPlus.length : Int)))) hb_9 ?_
 refine xt 0 ?_
 refine seqQ_exit ?_
 refine loopQ_exit ?_
 obtain rfl := os h
 exact iv []
def impl_IsSystem_F2 (c : Ctx) (s0 : GSystem) (a_40 : Int) (b_55 : Int) : (Unit) ⊕ (Bool) → Exit → AState → Prop
 | .inl _ => Into c (.exit 6) (mkS [(1,.ra 1 0),(3,I s0.fSize),(5,I a_40),(6,I b_55)] [(1,bSystem s0)])
 | .inr r => RetE TIx Tryz.f109 [] (.bool r)
def impl_IsSystem_l1 (p : GSystem × Int × Int × Int) : Option ((Unit) ⊕ (Bool)) :=
 match p with
 | (s0,a_40,b_55,c_62) =>
  if (decide (c_62 < s0.fSize)) = true then
   (impl_SystemlawsOf (s0,a_40,b_55,c_62)) >>= fun r_23_4 =>
   if r_23_4 = true then
    impl_IsSystem_l1 (s0,a_40,b_55,(wr (c_62 + 1)))
   else
    some (.inr false)
  else
   some (.inl ())
 partial_fixpoint
def M_impl_IsSystem_l1 (p : GSystem × Int × Int × Int) (fl : (Unit) ⊕ (Bool)) : Prop :=
 match p with
 | (s0,a_40,b_55,c_62) => ∀ c : Ctx,c.nt = 157 → WpL Tryz.prog c (cl (cl (cr (cr (cl (cl (cr (cl (cl (cr (cr (cl (cl (cr (cl (cl (cr (cl (cr (cr (cr (cr B109)))))))))))))))))))))) (impl_IsSystem_F2 c s0 a_40 b_55 fl) (mkS [(1,.ra 1 0),(3,I s0.fSize),(5,I a_40),(6,I b_55),(7,I c_62)] [(1,bSystem s0)])
theorem impl_IsSystem_l1_s : ∀ p r,impl_IsSystem_l1 p = some r → M_impl_IsSystem_l1 p r := by
 refine impl_IsSystem_l1.partial_correctness M_impl_IsSystem_l1 ?_
 rintro impl_IsSystem_l1_f impl_IsSystem_l1_ih ⟨s0,a_40,b_55,c_62⟩ r h
 intro c hc
 refine WpL.step ?_
 refine sN ?_
 refine rs0 hc 3 [(1,.ra 1 0),(3,I s0.fSize),(5,I a_40),(6,I b_55),(7,I c_62),(148,.bool (decide (c_62 < s0.fSize)))] [(1,bSystem s0)] ?_
 rcases is h with ⟨hb_63,h⟩ | ⟨hb_63,h⟩
 ·refine cT ((decide (c_62 < s0.fSize))) hb_63 ?_
  refine sk ?_
  refine sN ?_
  refine bk 7 ?_
  obtain ⟨r_23_4,hr_23_4,h⟩ := bsome h
  refine rs hc none [oN,oN,oN,oN,oc (.bool r_23_4),oN] [(1,.ra 1 0),(3,I s0.fSize),(5,I a_40),(6,I b_55),(7,I c_62),(156,.bool (!r_23_4))] [(1,bSystem s0)] (ai (impl_SystemlawsOf_s _ _ hr_23_4) (ai bod_172 (ai (oi (.bool r_23_4)) trivial))) ?_
  rcases is h with ⟨hb_64,h⟩ | ⟨hb_64,h⟩
  ·refine cF (!r_23_4) (nF hb_64) ?_
   refine sk ?_
   refine rg0 hc 3 [(1,.ra 1 0),(3,I s0.fSize),(5,I a_40),(6,I b_55),(7,I (wr (c_62 + 1)))] [(1,bSystem s0)] ?_
   refine loopQ_norm ?_
   exact (impl_IsSystem_l1_ih _ _ h c hc)
  refine cT (!r_23_4) (nT hb_64) ?_
  refine rs0 hc 1 [(2,.bool false)] [] ?_
  refine rt ?_
  obtain rfl := os h
  exact re [true]
 refine cF ((decide (c_62 < s0.fSize))) hb_63 ?_
 refine xt 6 ?_
 refine seqQ_exit ?_
 refine loopQ_exit ?_
 obtain rfl := os h
 exact iv []
def impl_IsSystem_F3 (c : Ctx) (s0 : GSystem) (a_40 : Int) : (Unit) ⊕ (Bool) → Exit → AState → Prop
 | .inl _ => Into c (.exit 4) (mkS [(1,.ra 1 0),(3,I s0.fSize),(5,I a_40)] [(1,bSystem s0)])
 | .inr r => RetE TIx Tryz.f109 [] (.bool r)
def impl_IsSystem_l2 (p : GSystem × Int × Int) : Option ((Unit) ⊕ (Bool)) :=
 match p with
 | (s0,a_40,b_55) =>
  if (decide (b_55 < s0.fSize)) = true then
   ((
    (impl_Systemplus (s0,a_40,b_55)) >>= fun r_18_3 =>
    (impl_Systemplus (s0,b_55,a_40)) >>= fun r_18_7 =>
    if (r_18_3 != r_18_7) = true then
     some (true)
    else
     if (a_40 != b_55) = true then
      (impl_Systembelow (s0,a_40,b_55)) >>= fun r_18_17 =>
      if r_18_17 = true then
       (impl_Systembelow (s0,b_55,a_40)) >>= fun r_18_23 =>
       if r_18_23 = true then
        some (true)
       else
        (impl_Systemjoin (s0,a_40,b_55)) >>= fun r_18_30 =>
        some ((decide (r_18_30 < 0)))
      else
       (impl_Systemjoin (s0,a_40,b_55)) >>= fun r_18_30 =>
       some ((decide (r_18_30 < 0)))
     else
      (impl_Systemjoin (s0,a_40,b_55)) >>= fun r_18_30 =>
      some ((decide (r_18_30 < 0)))
   ) : Option (Bool)) >>= fun v_57 =>
   if v_57 = true then
    some (.inr false)
   else
    (impl_IsSystem_l1 (s0,a_40,b_55,0)) >>= fun fl => match fl with
    | .inl () =>
     impl_IsSystem_l2 (s0,a_40,(wr (b_55 + 1)))
    | .inr r =>
     some (.inr r)
  else
   some (.inl ())
 partial_fixpoint
def M_impl_IsSystem_l2 (p : GSystem × Int × Int) (fl : (Unit) ⊕ (Bool)) : Prop :=
 match p with
 | (s0,a_40,b_55) => ∀ c : Ctx,c.nt = 157 → WpL Tryz.prog c (cl (cl (cr (cr (cl (cl (cr (cl (cl (cr (cl (cr (cr (cr (cr B109))))))))))))))) (impl_IsSystem_F3 c s0 a_40 fl) (mkS [(1,.ra 1 0),(3,I s0.fSize),(5,I a_40),(6,I b_55)] [(1,bSystem s0)])
theorem impl_IsSystem_l2_s : ∀ p r,impl_IsSystem_l2 p = some r → M_impl_IsSystem_l2 p r := by
 refine impl_IsSystem_l2.partial_correctness M_impl_IsSystem_l2 ?_
 rintro impl_IsSystem_l2_f impl_IsSystem_l2_ih ⟨s0,a_40,b_55⟩ r h
 intro c hc
 refine WpL.step ?_
 refine sN ?_
 refine rs0 hc 3 [(1,.ra 1 0),(3,I s0.fSize),(5,I a_40),(6,I b_55),(110,.bool (decide (b_55 < s0.fSize)))] [(1,bSystem s0)] ?_
 rcases is h with ⟨hb_56,h⟩ | ⟨hb_56,h⟩
 ·refine cT ((decide (b_55 < s0.fSize))) hb_56 ?_
  refine sk ?_
  refine sN ?_
  refine bk 5 ?_
  refine sN ?_
  refine sN ?_
  obtain ⟨v_57,hj_58,h⟩ := bsome h
  refine Wp.into (x := .normal) (mkS [(1,.ra 1 0),(3,I s0.fSize),(5,I a_40),(6,I b_55),(145,.bool v_57)] [(1,bSystem s0)]) ?_ ?_
  ·replace h := hj_58
   obtain ⟨r_18_3,hr_18_3,h⟩ := bsome h
   obtain ⟨r_18_7,hr_18_7,h⟩ := bsome h
   rcases is h with ⟨hb_18_0,h⟩ | ⟨hb_18_0,h⟩
   ·refine rg hc ah6_1 [oN,oN,oN,oc (I r_18_3),oN,oN,oN,oc (I r_18_7),oN,oN,o_,o_,o_,o_,o_,o_,o_,o_,o_,o_,o_,o_,o_,o_,o_,oT,oN,o_,o_,o_,o_,o_,oT] [(1,.ra 1 0),(3,I s0.fSize),(5,I a_40),(6,I b_55),(145,.bool true)] [(1,bSystem s0)] (ai (impl_Systemplus_s _ _ hr_18_3) (ai bod_169 (ai (oi (I r_18_3)) (ai (impl_Systemplus_s _ _ hr_18_7) (ai bod_169 (ai (oi (I r_18_7)) (ar 7 (neF hb_18_0) (ai hb_18_0 (ar 5 nf (ai tt trivial)))))))))) ?_
    obtain rfl := os h
    exact Into.mk
   rcases is h with ⟨hb_18_1,h⟩ | ⟨hb_18_1,h⟩
   ·obtain ⟨r_18_17,hr_18_17,h⟩ := bsome h
    rcases is h with ⟨hb_18_2,h⟩ | ⟨hb_18_2,h⟩
    ·obtain ⟨r_18_23,hr_18_23,h⟩ := bsome h
     rcases is h with ⟨hb_18_3,h⟩ | ⟨hb_18_3,h⟩
     ·refine rg hc ah6_1 [oN,oN,oN,oc (I r_18_3),oN,oN,oN,oc (I r_18_7),oN,oN,oN,oN,oN,oN,oN,oN,oN,oc (.bool r_18_17),oT,oN,oN,oN,oN,oc (.bool r_18_23),oT,oF,oN,o_,o_,o_,o_,o_,oT] [(1,.ra 1 0),(3,I s0.fSize),(5,I a_40),(6,I b_55),(145,.bool true)] [(1,bSystem s0)] (ai (impl_Systemplus_s _ _ hr_18_3) (ai bod_169 (ai (oi (I r_18_3)) (ai (impl_Systemplus_s _ _ hr_18_7) (ai bod_169 (ai (oi (I r_18_7)) (ar 4 hb_18_0 (ar 4 hb_18_1 (ai (impl_Systembelow_s _ _ hr_18_17) (ai bod_86 (ai (oi (.bool r_18_17)) (ai hb_18_0 (ai hb_18_1 (ai hb_18_0 (ar 4 hb_18_2 (ai (impl_Systembelow_s _ _ hr_18_23) (ai bod_86 (ai (oi (.bool r_18_23)) (ai hb_18_0 (ai hb_18_2 (ai hb_18_0 (ar 5 (neF hb_18_3) (ai hb_18_3 trivial))))))))))))))))))))))) ?_
      obtain rfl := os h
      exact Into.mk
     obtain ⟨r_18_30,hr_18_30,h⟩ := bsome h
     refine rg hc ah6_1 [oN,oN,oN,oc (I r_18_3),oN,oN,oN,oc (I r_18_7),oN,oN,oN,oN,oN,oN,oN,oN,oN,oc (.bool r_18_17),oT,oN,oN,oN,oN,oc (.bool r_18_23),oT,oF,oN,oN,oN,oN,oc (I r_18_30),oN,oF] [(1,.ra 1 0),(3,I s0.fSize),(5,I a_40),(6,I b_55),(145,.bool (decide (r_18_30 < 0)))] [(1,bSystem s0)] (ai (impl_Systemplus_s _ _ hr_18_3) (ai bod_169 (ai (oi (I r_18_3)) (ai (impl_Systemplus_s _ _ hr_18_7) (ai bod_169 (ai (oi (I r_18_7)) (ar 4 hb_18_0 (ar 4 hb_18_1 (ai (impl_Systembelow_s _ _ hr_18_17) (ai bod_86 (ai (oi (.bool r_18_17)) (ai hb_18_0 (ai hb_18_1 (ai hb_18_0 (ar 4 hb_18_2 (ai (impl_Systembelow_s _ _ hr_18_23) (ai bod_86 (ai (oi (.bool r_18_23)) (ai hb_18_0 (ai hb_18_2 (ai hb_18_0 (ar 4 hb_18_3 (ai (impl_Systemjoin_s _ _ hr_18_30) (ai bod_171 (ai (oi (I r_18_30)) (ar 2 hb_18_3 trivial)))))))))))))))))))))))))) ?_
     obtain rfl := os h
     exact Into.mk
    obtain ⟨r_18_30,hr_18_30,h⟩ := bsome h
    refine rg hc ah6_1 [oN,oN,oN,oc (I r_18_3),oN,oN,oN,oc (I r_18_7),oN,oN,oN,oN,oN,oN,oN,oN,oN,oc (.bool r_18_17),oT,oN,o_,o_,o_,o_,oF,oF,oN,oN,oN,oN,oc (I r_18_30),oN,oF] [(1,.ra 1 0),(3,I s0.fSize),(5,I a_40),(6,I b_55),(145,.bool (decide (r_18_30 < 0)))] [(1,bSystem s0)] (ai (impl_Systemplus_s _ _ hr_18_3) (ai bod_169 (ai (oi (I r_18_3)) (ai (impl_Systemplus_s _ _ hr_18_7) (ai bod_169 (ai (oi (I r_18_7)) (ar 4 hb_18_0 (ar 4 hb_18_1 (ai (impl_Systembelow_s _ _ hr_18_17) (ai bod_86 (ai (oi (.bool r_18_17)) (ai hb_18_0 (ai hb_18_1 (ai hb_18_0 (ar 4 (neT hb_18_2) (ai hb_18_0 (ai hb_18_2 (ai hb_18_0 (ar 4 (rfl : false = false) (ai (impl_Systemjoin_s _ _ hr_18_30) (ai bod_171 (ai (oi (I r_18_30)) (ar 2 (rfl : false = false) trivial))))))))))))))))))))))) ?_
    obtain rfl := os h
    exact Into.mk
   obtain ⟨r_18_30,hr_18_30,h⟩ := bsome h
   refine rg hc ah6_1 [oN,oN,oN,oc (I r_18_3),oN,oN,oN,oc (I r_18_7),oN,oN,oN,oN,oN,oN,o_,o_,o_,o_,oF,oN,o_,o_,o_,o_,oF,oF,oN,oN,oN,oN,oc (I r_18_30),oN,oF] [(1,.ra 1 0),(3,I s0.fSize),(5,I a_40),(6,I b_55),(145,.bool (decide (r_18_30 < 0)))] [(1,bSystem s0)] (ai (impl_Systemplus_s _ _ hr_18_3) (ai bod_169 (ai (oi (I r_18_3)) (ai (impl_Systemplus_s _ _ hr_18_7) (ai bod_169 (ai (oi (I r_18_7)) (ar 4 hb_18_0 (ar 4 (neT hb_18_1) (ai hb_18_0 (ai hb_18_1 (ai hb_18_0 (ar 4 (neT (rfl : false = false)) (ai hb_18_0 (ai (rfl : false = false) (ai hb_18_0 (ar 4 (rfl : false = false) (ai (impl_Systemjoin_s _ _ hr_18_30) (ai bod_171 (ai (oi (I r_18_30)) (ar 2 (rfl : false = false) trivial)))))))))))))))))))) ?_
   obtain rfl := os h
   exact Into.mk
  clear hj_58
  rcases is h with ⟨hb_59,h⟩ | ⟨hb_59,h⟩
  ·refine cT v_57 hb_59 ?_
   refine rs0 hc 1 [(2,.bool false)] [] ?_
   refine rt ?_
   obtain rfl := os h
   exact re [true]
  refine cF v_57 hb_59 ?_
  refine sk ?_
  refine rs0 hc 1 [(1,.ra 1 0),(3,I s0.fSize),(5,I a_40),(6,I b_55),(7,I 0)] [(1,bSystem s0)] ?_
  refine bk 6 ?_
  obtain ⟨fl,hl_65,h⟩ := bsome h
  have hL := impl_IsSystem_l1_s _ _ hl_65 c hc
  refine lp ?_
  rcases fl with ⟨⟩ | r
  ·refine WpL.into (e := (.exit 6)) (mkS [(1,.ra 1 0),(3,I s0.fSize),(5,I a_40),(6,I b_55)] [(1,bSystem s0)]) hL ?_
   refine blockQ_hit ?_
   refine rg0 hc 3 [(1,.ra 1 0),(3,I s0.fSize),(5,I a_40),(6,I (wr (b_55 + 1)))] [(1,bSystem s0)] ?_
   refine loopQ_norm ?_
   exact (impl_IsSystem_l2_ih _ _ h c hc)
  refine WpL.mono hL ?_
  rintro _ _ ⟨rfl,hfin⟩
  obtain rfl := os h
  exact ⟨rfl,hfin⟩
 refine cF ((decide (b_55 < s0.fSize))) hb_56 ?_
 refine xt 4 ?_
 refine seqQ_exit ?_
 refine loopQ_exit ?_
 obtain rfl := os h
 exact iv []
def impl_IsSystem_F4 (c : Ctx) : (Unit) ⊕ (Bool) → Exit → AState → Prop
 | .inl _ => Into c (.exit 2) (mkS [] [])
 | .inr r => RetE TIx Tryz.f109 [] (.bool r)
def impl_IsSystem_l3 (p : GSystem × Int) : Option ((Unit) ⊕ (Bool)) :=
 match p with
 | (s0,a_40) =>
  if (decide (a_40 < s0.fSize)) = true then
   ((
    (impl_Systemplus (s0,0,a_40)) >>= fun r_13_2 =>
    if (r_13_2 != a_40) = true then
     some (true)
    else
     (impl_Systemtimes (s0,1,a_40)) >>= fun r_13_8 =>
     if (r_13_8 != a_40) = true then
      some (true)
     else
      (impl_Systemtimes (s0,a_40,1)) >>= fun r_13_15 =>
      if (r_13_15 != a_40) = true then
       some (true)
      else
       (impl_Systemtimes (s0,0,a_40)) >>= fun r_13_22 =>
       if (r_13_22 != 0) = true then
        some (true)
       else
        (impl_Systemtimes (s0,a_40,0)) >>= fun r_13_28 =>
        if (r_13_28 != 0) = true then
         some (true)
        else
         (impl_Systembelow (s0,a_40,a_40)) >>= fun r_13_35 =>
         some ((!r_13_35))
   ) : Option (Bool)) >>= fun v_42 =>
   if v_42 = true then
    some (.inr false)
   else
    (impl_IsSystem_l2 (s0,a_40,0)) >>= fun fl => match fl with
    | .inl () =>
     impl_IsSystem_l3 (s0,(wr (a_40 + 1)))
    | .inr r =>
     some (.inr r)
  else
   some (.inl ())
 partial_fixpoint
def M_impl_IsSystem_l3 (p : GSystem × Int) (fl : (Unit) ⊕ (Bool)) : Prop :=
 match p with
 | (s0,a_40) => ∀ c : Ctx,c.nt = 157 → WpL Tryz.prog c (cl (cl (cr (cl (cr (cr (cr (cr B109)))))))) (impl_IsSystem_F4 c fl) (mkS [(1,.ra 1 0),(3,I s0.fSize),(5,I a_40)] [(1,bSystem s0)])
theorem impl_IsSystem_l3_s : ∀ p r,impl_IsSystem_l3 p = some r → M_impl_IsSystem_l3 p r := by
 refine impl_IsSystem_l3.partial_correctness M_impl_IsSystem_l3 ?_
 rintro impl_IsSystem_l3_f impl_IsSystem_l3_ih ⟨s0,a_40⟩ r h
 intro c hc
 refine WpL.step ?_
 refine sN ?_
 refine rs0 hc 3 [(1,.ra 1 0),(3,I s0.fSize),(5,I a_40),(67,.bool (decide (a_40 < s0.fSize)))] [(1,bSystem s0)] ?_
 rcases is h with ⟨hb_41,h⟩ | ⟨hb_41,h⟩
 ·refine cT ((decide (a_40 < s0.fSize))) hb_41 ?_
  refine sk ?_
  refine sN ?_
  refine bk 3 ?_
  refine sN ?_
  refine sN ?_
  obtain ⟨v_42,hj_43,h⟩ := bsome h
  refine Wp.into (x := .normal) (mkS [(1,.ra 1 0),(3,I s0.fSize),(5,I a_40),(107,.bool v_42)] [(1,bSystem s0)]) ?_ ?_
  ·replace h := hj_43
   obtain ⟨r_13_2,hr_13_2,h⟩ := bsome h
   rcases is h with ⟨hb_13_0,h⟩ | ⟨hb_13_0,h⟩
   ·refine rg hc none [oN,oN,oc (I r_13_2),oN,oN,oN,o_,o_,o_,o_,o_,oT,oN,o_,o_,o_,o_,o_,oT,oN,o_,o_,o_,o_,oT,oN,o_,o_,o_,o_,oT,oN,o_,o_,o_,o_,o_,oT] [(1,.ra 1 0),(3,I s0.fSize),(5,I a_40),(107,.bool true)] [(1,bSystem s0)] (ai (impl_Systemplus_s _ _ hr_13_2) (ai bod_169 (ai (oi (I r_13_2)) (ar 5 (neF hb_13_0) (ai hb_13_0 (ar 5 nf (ai tt (ar 4 nf (ai tt (ar 4 nf (ai tt (ar 5 nf (ai tt trivial))))))))))))) ?_
    obtain rfl := os h
    exact Into.mk
   obtain ⟨r_13_8,hr_13_8,h⟩ := bsome h
   rcases is h with ⟨hb_13_1,h⟩ | ⟨hb_13_1,h⟩
   ·refine rg hc none [oN,oN,oc (I r_13_2),oN,oN,oN,oN,oN,oc (I r_13_8),oN,oN,oF,oN,o_,o_,o_,o_,o_,oT,oN,o_,o_,o_,o_,oT,oN,o_,o_,o_,o_,oT,oN,o_,o_,o_,o_,o_,oT] [(1,.ra 1 0),(3,I s0.fSize),(5,I a_40),(107,.bool true)] [(1,bSystem s0)] (ai (impl_Systemplus_s _ _ hr_13_2) (ai bod_169 (ai (oi (I r_13_2)) (ar 3 hb_13_0 (ai (impl_Systemtimes_s _ _ hr_13_8) (ai bod_170 (ai (oi (I r_13_8)) (ar 3 hb_13_0 (ar 5 (neF hb_13_1) (ai hb_13_1 (ar 4 nf (ai tt (ar 4 nf (ai tt (ar 5 nf (ai tt trivial)))))))))))))))) ?_
    obtain rfl := os h
    exact Into.mk
   obtain ⟨r_13_15,hr_13_15,h⟩ := bsome h
   rcases is h with ⟨hb_13_2,h⟩ | ⟨hb_13_2,h⟩
   ·refine rg hc none [oN,oN,oc (I r_13_2),oN,oN,oN,oN,oN,oc (I r_13_8),oN,oN,oF,oN,oN,oN,oc (I r_13_15),oN,oN,oF,oN,o_,o_,o_,o_,oT,oN,o_,o_,o_,o_,oT,oN,o_,o_,o_,o_,o_,oT] [(1,.ra 1 0),(3,I s0.fSize),(5,I a_40),(107,.bool true)] [(1,bSystem s0)] (ai (impl_Systemplus_s _ _ hr_13_2) (ai bod_169 (ai (oi (I r_13_2)) (ar 3 hb_13_0 (ai (impl_Systemtimes_s _ _ hr_13_8) (ai bod_170 (ai (oi (I r_13_8)) (ar 3 hb_13_0 (ar 3 hb_13_1 (ai (impl_Systemtimes_s _ _ hr_13_15) (ai bod_170 (ai (oi (I r_13_15)) (ar 3 hb_13_1 (ar 4 (neF hb_13_2) (ai hb_13_2 (ar 4 nf (ai tt (ar 5 nf (ai tt trivial))))))))))))))))))) ?_
    obtain rfl := os h
    exact Into.mk
   obtain ⟨r_13_22,hr_13_22,h⟩ := bsome h
   rcases is h with ⟨hb_13_3,h⟩ | ⟨hb_13_3,h⟩
   ·refine rg hc none [oN,oN,oc (I r_13_2),oN,oN,oN,oN,oN,oc (I r_13_8),oN,oN,oF,oN,oN,oN,oc (I r_13_15),oN,oN,oF,oN,oN,oN,oc (I r_13_22),oN,oF,oN,o_,o_,o_,o_,oT,oN,o_,o_,o_,o_,o_,oT] [(1,.ra 1 0),(3,I s0.fSize),(5,I a_40),(107,.bool true)] [(1,bSystem s0)] (ai (impl_Systemplus_s _ _ hr_13_2) (ai bod_169 (ai (oi (I r_13_2)) (ar 3 hb_13_0 (ai (impl_Systemtimes_s _ _ hr_13_8) (ai bod_170 (ai (oi (I r_13_8)) (ar 3 hb_13_0 (ar 3 hb_13_1 (ai (impl_Systemtimes_s _ _ hr_13_15) (ai bod_170 (ai (oi (I r_13_15)) (ar 3 hb_13_1 (ar 3 hb_13_2 (ai (impl_Systemtimes_s _ _ hr_13_22) (ai bod_170 (ai (oi (I r_13_22)) (ar 2 hb_13_2 (ar 4 (neF hb_13_3) (ai hb_13_3 (ar 5 nf (ai tt trivial)))))))))))))))))))))) ?_
    obtain rfl := os h
    exact Into.mk
   obtain ⟨r_13_28,hr_13_28,h⟩ := bsome h
   rcases is h with ⟨hb_13_4,h⟩ | ⟨hb_13_4,h⟩
   ·refine rg hc none [oN,oN,oc (I r_13_2),oN,oN,oN,oN,oN,oc (I r_13_8),oN,oN,oF,oN,oN,oN,oc (I r_13_15),oN,oN,oF,oN,oN,oN,oc (I r_13_22),oN,oF,oN,oN,oN,oc (I r_13_28),oN,oF,oN,o_,o_,o_,o_,o_,oT] [(1,.ra 1 0),(3,I s0.fSize),(5,I a_40),(107,.bool true)] [(1,bSystem s0)] (ai (impl_Systemplus_s _ _ hr_13_2) (ai bod_169 (ai (oi (I r_13_2)) (ar 3 hb_13_0 (ai (impl_Systemtimes_s _ _ hr_13_8) (ai bod_170 (ai (oi (I r_13_8)) (ar 3 hb_13_0 (ar 3 hb_13_1 (ai (impl_Systemtimes_s _ _ hr_13_15) (ai bod_170 (ai (oi (I r_13_15)) (ar 3 hb_13_1 (ar 3 hb_13_2 (ai (impl_Systemtimes_s _ _ hr_13_22) (ai bod_170 (ai (oi (I r_13_22)) (ar 2 hb_13_2 (ar 3 hb_13_3 (ai (impl_Systemtimes_s _ _ hr_13_28) (ai bod_170 (ai (oi (I r_13_28)) (ar 2 hb_13_3 (ar 5 (neF hb_13_4) (ai hb_13_4 trivial))))))))))))))))))))))))) ?_
    obtain rfl := os h
    exact Into.mk
   obtain ⟨r_13_35,hr_13_35,h⟩ := bsome h
   refine rg hc none [oN,oN,oc (I r_13_2),oN,oN,oN,oN,oN,oc (I r_13_8),oN,oN,oF,oN,oN,oN,oc (I r_13_15),oN,oN,oF,oN,oN,oN,oc (I r_13_22),oN,oF,oN,oN,oN,oc (I r_13_28),oN,oF,oN,oN,oN,oN,oc (.bool r_13_35),oN,oF] [(1,.ra 1 0),(3,I s0.fSize),(5,I a_40),(107,.bool (!r_13_35))] [(1,bSystem s0)] (ai (impl_Systemplus_s _ _ hr_13_2) (ai bod_169 (ai (oi (I r_13_2)) (ar 3 hb_13_0 (ai (impl_Systemtimes_s _ _ hr_13_8) (ai bod_170 (ai (oi (I r_13_8)) (ar 3 hb_13_0 (ar 3 hb_13_1 (ai (impl_Systemtimes_s _ _ hr_13_15) (ai bod_170 (ai (oi (I r_13_15)) (ar 3 hb_13_1 (ar 3 hb_13_2 (ai (impl_Systemtimes_s _ _ hr_13_22) (ai bod_170 (ai (oi (I r_13_22)) (ar 2 hb_13_2 (ar 3 hb_13_3 (ai (impl_Systemtimes_s _ _ hr_13_28) (ai bod_170 (ai (oi (I r_13_28)) (ar 2 hb_13_3 (ar 4 hb_13_4 (ai (impl_Systembelow_s _ _ hr_13_35) (ai bod_86 (ai (oi (.bool r_13_35)) (ar 2 hb_13_4 trivial)))))))))))))))))))))))))))) ?_
   obtain rfl := os h
   exact Into.mk
  clear hj_43
  rcases is h with ⟨hb_44,h⟩ | ⟨hb_44,h⟩
  ·refine cT v_42 hb_44 ?_
   refine rs0 hc 1 [(2,.bool false)] [] ?_
   refine rt ?_
   obtain rfl := os h
   exact re [true]
  refine cF v_42 hb_44 ?_
  refine sk ?_
  refine rs0 hc 1 [(1,.ra 1 0),(3,I s0.fSize),(5,I a_40),(6,I 0)] [(1,bSystem s0)] ?_
  refine bk 4 ?_
  obtain ⟨fl,hl_66,h⟩ := bsome h
  have hL := impl_IsSystem_l2_s _ _ hl_66 c hc
  refine lp ?_
  rcases fl with ⟨⟩ | r
  ·refine WpL.into (e := (.exit 4)) (mkS [(1,.ra 1 0),(3,I s0.fSize),(5,I a_40)] [(1,bSystem s0)]) hL ?_
   refine blockQ_hit ?_
   refine rg0 hc 3 [(1,.ra 1 0),(3,I s0.fSize),(5,I (wr (a_40 + 1)))] [(1,bSystem s0)] ?_
   refine loopQ_norm ?_
   exact (impl_IsSystem_l3_ih _ _ h c hc)
  refine WpL.mono hL ?_
  rintro _ _ ⟨rfl,hfin⟩
  obtain rfl := os h
  exact ⟨rfl,hfin⟩
 refine cF ((decide (a_40 < s0.fSize))) hb_41 ?_
 refine xt 2 ?_
 refine seqQ_exit ?_
 refine loopQ_exit ?_
 obtain rfl := os h
 exact iv []
def impl_IsSystem (s0 : GSystem) : Option (Bool) :=
  ((
   (impl_within (s0.fSize,2,16)) >>= fun r_2_1 =>
   if r_2_1 = true then
    if ((s0.fPlus.length : Int) != (wr (s0.fSize * s0.fSize))) = true then
     some (true)
    else
     if ((s0.fTimes.length : Int) != (wr (s0.fSize * s0.fSize))) = true then
      some (true)
     else
      some (((s0.fBelow.length : Int) != (wr (s0.fSize * s0.fSize))))
   else
    some (true)
  ) : Option (Bool)) >>= fun v_1 =>
  if v_1 = true then
   some false
  else
   (impl_IsSystem_l0 (s0,0)) >>= fun fl => match fl with
   | .inl () =>
    (impl_IsSystem_l3 (s0,0)) >>= fun fl => match fl with
    | .inl () =>
     some true
    | .inr r =>
     some r
   | .inr r =>
    some r
def M_impl_IsSystem (s0 : GSystem) (r : Bool) : Prop :=
 FnSound Tryz.prog 109 [aSystem s0] (.bool r) []
theorem impl_IsSystem_s : ∀ p r,impl_IsSystem p = some r → M_impl_IsSystem p r := by
 rintro s0 r h
 unfold impl_IsSystem at h
 refine b0 Tryz.f109 B109 157 [(0,aSystem s0)] fun c hc => ?_
 refine rs hc none [some (.new 1),oN] [(1,.ra 1 0)] [(1,bSystem s0)] trivial ?_
 refine rs0 hc 3 [(1,.ra 1 0),(3,I s0.fSize)] [(1,bSystem s0)] ?_
 refine sN ?_
 refine sN ?_
 obtain ⟨v_1,hj_2,h⟩ := bsome h
 refine Wp.into (x := .normal) (mkS [(1,.ra 1 0),(3,I s0.fSize),(39,.bool v_1)] [(1,bSystem s0)]) ?_ ?_
 ·replace h := hj_2
  obtain ⟨r_2_1,hr_2_1,h⟩ := bsome h
  rcases is h with ⟨hb_2_0,h⟩ | ⟨hb_2_0,h⟩
  ·rcases is h with ⟨hb_2_1,h⟩ | ⟨hb_2_1,h⟩
   ·refine rg hc none [oN,oc (.bool r_2_1),oN,oN,oN,oN,some (.eqv (.no) ⟨[(16,I (s0.fPlus.length : Int))],[],[]⟩),oN,oN,oN,oN,oF,oN,o_,o_,o_,o_,o_,o_,o_,oT,oN,o_,o_,o_,o_,o_,o_,o_,oT] [(1,.ra 1 0),(3,I s0.fSize),(39,.bool true)] [(1,bSystem s0)] (ai (impl_within_s _ _ hr_2_1) (ai bod_108 (ai (oi (.bool r_2_1)) (ar 3 (nF hb_2_0) (ai (lenT (d := 16) I s0.fPlus) (ar 5 (nF hb_2_0) (ar 7 (neF hb_2_1) (ai hb_2_1 (ar 7 nf (ai tt trivial)))))))))) ?_
    obtain rfl := os h
    exact Into.mk
   rcases is h with ⟨hb_2_2,h⟩ | ⟨hb_2_2,h⟩
   ·refine rg hc none [oN,oc (.bool r_2_1),oN,oN,oN,oN,some (.eqv (.no) ⟨[(16,I (s0.fPlus.length : Int))],[],[]⟩),oN,oN,oN,oN,oF,oN,oN,oN,some (.eqv (.no) ⟨[(25,I (s0.fTimes.length : Int))],[],[]⟩),oN,oN,oN,oN,oF,oN,o_,o_,o_,o_,o_,o_,o_,oT] [(1,.ra 1 0),(3,I s0.fSize),(39,.bool true)] [(1,bSystem s0)] (ai (impl_within_s _ _ hr_2_1) (ai bod_108 (ai (oi (.bool r_2_1)) (ar 3 (nF hb_2_0) (ai (lenT (d := 16) I s0.fPlus) (ar 5 (nF hb_2_0) (ar 3 hb_2_1 (ai (lenT (d := 25) I s0.fTimes) (ar 5 hb_2_1 (ar 7 (neF hb_2_2) (ai hb_2_2 trivial))))))))))) ?_
    obtain rfl := os h
    exact Into.mk
   refine rg hc none [oN,oc (.bool r_2_1),oN,oN,oN,oN,some (.eqv (.no) ⟨[(16,I (s0.fPlus.length : Int))],[],[]⟩),oN,oN,oN,oN,oF,oN,oN,oN,some (.eqv (.no) ⟨[(25,I (s0.fTimes.length : Int))],[],[]⟩),oN,oN,oN,oN,oF,oN,oN,oN,some (.eqv (.no) ⟨[(34,I (s0.fBelow.length : Int))],[],[]⟩),oN,oN,oN,oN,oF] [(1,.ra 1 0),(3,I s0.fSize),(39,.bool ((s0.fBelow.length : Int) != (wr (s0.fSize * s0.fSize))))] [(1,bSystem s0)] (ai (impl_within_s _ _ hr_2_1) (ai bod_108 (ai (oi (.bool r_2_1)) (ar 3 (nF hb_2_0) (ai (lenT (d := 16) I s0.fPlus) (ar 5 (nF hb_2_0) (ar 3 hb_2_1 (ai (lenT (d := 25) I s0.fTimes) (ar 5 hb_2_1 (ar 3 hb_2_2 (ai (lenT (d := 34) AV.bool s0.fBelow) (ar 5 hb_2_2 trivial)))))))))))) ?_
   obtain rfl := os h
   exact Into.mk
  refine rg hc none [oN,oc (.bool r_2_1),oN,oN,o_,o_,o_,o_,o_,o_,o_,oT,oN,o_,o_,o_,o_,o_,o_,o_,oT,oN,o_,o_,o_,o_,o_,o_,o_,oT] [(1,.ra 1 0),(3,I s0.fSize),(39,.bool true)] [(1,bSystem s0)] (ai (impl_within_s _ _ hr_2_1) (ai bod_108 (ai (oi (.bool r_2_1)) (ar 7 (neF (nT hb_2_0)) (ai (nT hb_2_0) (ar 7 nf (ai tt (ar 7 nf (ai tt trivial))))))))) ?_
  obtain rfl := os h
  exact Into.mk
 clear hj_2
 rcases is h with ⟨hb_3,h⟩ | ⟨hb_3,h⟩
 ·refine cT v_1 hb_3 ?_
  refine rs0 hc 1 [(2,.bool false)] [] ?_
  refine rt ?_
  obtain rfl := os h
  exact rq [true]
 refine cF v_1 hb_3 ?_
 refine sk ?_
 refine sN ?_
 refine rs hc none [oN,oN,some (.eqv (.no) ⟨[(42,I (s0.fPlus.length : Int))],[],[]⟩),oN] [(1,.ra 1 0),(3,I s0.fSize),(42,I (s0.fPlus.length : Int)),(43,I 0)] [(1,bSystem s0)] (ai (lenT (d := 42) I s0.fPlus) trivial) ?_
 refine bk 0 ?_
 obtain ⟨fl,hl_13,h⟩ := bsome h
 have hL := impl_IsSystem_l0_s _ _ hl_13 c hc
 refine lp ?_
 rcases fl with ⟨⟩ | r
 ·refine WpL.into (e := (.exit 0)) (mkS [(1,.ra 1 0),(3,I s0.fSize)] [(1,bSystem s0)]) hL ?_
  refine blockQ_hit ?_
  refine sN ?_
  refine rs0 hc 1 [(1,.ra 1 0),(3,I s0.fSize),(5,I 0)] [(1,bSystem s0)] ?_
  refine bk 2 ?_
  obtain ⟨fl,hl_67,h⟩ := bsome h
  have hL := impl_IsSystem_l3_s _ _ hl_67 c hc
  refine lp ?_
  rcases fl with ⟨⟩ | r
  ·refine WpL.into (e := (.exit 2)) (mkS [] []) hL ?_
   refine blockQ_hit ?_
   refine rs0 hc 1 [(2,.bool true)] [] ?_
   refine rt ?_
   obtain rfl := os h
   exact rq [true]
  refine WpL.mono hL ?_
  rintro _ _ ⟨rfl,hfin⟩
  obtain rfl := os h
  exact ⟨.inl rfl,hfin⟩
 refine WpL.mono hL ?_
 rintro _ _ ⟨rfl,hfin⟩
 obtain rfl := os h
 exact ⟨.inl rfl,hfin⟩
def impl_shape (code0 : Int) : Option (Int × Int) :=
  (impl_within (code0,0,2)) >>= fun r_1_1 =>
  if r_1_1 = true then
   some (code0,(-1))
  else
   (impl_within (code0,3,18)) >>= fun r_3_1 =>
   if r_3_1 = true then
    some (3,(wr (code0 - 3)))
   else
    (impl_within (code0,19,34)) >>= fun r_5_1 =>
    if r_5_1 = true then
     some (4,(wr (code0 - 19)))
    else
     if (code0 == 35) = true then
      some (3,(-1))
     else
      if (code0 == 36) = true then
       some (4,(-1))
      else
       some (5,(-1))
def M_impl_shape (code0 : Int) (r : Int × Int) : Prop :=
 FnSound Tryz.prog 182 [I code0] (.tup [I r.1,I r.2]) []
theorem impl_shape_s : ∀ p r,impl_shape p = some r → M_impl_shape p r := by
 rintro code0 r h
 unfold impl_shape at h
 refine b0 Tryz.f182 B182 24 [(0,I code0)] fun c hc => ?_
 refine rs0 hc 2 [(0,I code0)] [] ?_
 refine sN ?_
 refine bk 0 ?_
 obtain ⟨r_1_1,hr_1_1,h⟩ := bsome h
 refine rs hc none [oN,oc (.bool r_1_1),oN] [(0,I code0),(4,.bool r_1_1)] [] (ai (impl_within_s _ _ hr_1_1) (ai bod_108 (ai (oi (.bool r_1_1)) trivial))) ?_
 rcases is h with ⟨hb_1,h⟩ | ⟨hb_1,h⟩
 ·refine cT r_1_1 hb_1 ?_
  refine rs0 hc 3 [(2,I code0),(3,I (-1))] [] ?_
  refine rt ?_
  obtain rfl := os h
  exact rq [true,true]
 refine cF r_1_1 hb_1 ?_
 obtain ⟨r_3_1,hr_3_1,h⟩ := bsome h
 refine rs hc none [oN,oc (.bool r_3_1),oN] [(0,I code0),(8,.bool r_3_1)] [] (ai (impl_within_s _ _ hr_3_1) (ai bod_108 (ai (oi (.bool r_3_1)) trivial))) ?_
 rcases is h with ⟨hb_2,h⟩ | ⟨hb_2,h⟩
 ·refine cT r_3_1 hb_2 ?_
  refine rs0 hc 4 [(2,I 3),(3,I (wr (code0 - 3)))] [] ?_
  refine rt ?_
  obtain rfl := os h
  exact rq [true,true]
 refine cF r_3_1 hb_2 ?_
 obtain ⟨r_5_1,hr_5_1,h⟩ := bsome h
 refine rs hc none [oN,oc (.bool r_5_1),oN] [(0,I code0),(13,.bool r_5_1)] [] (ai (impl_within_s _ _ hr_5_1) (ai bod_108 (ai (oi (.bool r_5_1)) trivial))) ?_
 rcases is h with ⟨hb_3,h⟩ | ⟨hb_3,h⟩
 ·refine cT r_5_1 hb_3 ?_
  refine rs0 hc 4 [(2,I 4),(3,I (wr (code0 - 19)))] [] ?_
  refine rt ?_
  obtain rfl := os h
  exact rq [true,true]
 refine cF r_5_1 hb_3 ?_
 refine rs0 hc 3 [(0,I code0),(18,.bool (code0 == 35))] [] ?_
 rcases is h with ⟨hb_4,h⟩ | ⟨hb_4,h⟩
 ·refine cT ((code0 == 35)) hb_4 ?_
  refine rs0 hc 2 [(2,I 3),(3,I (-1))] [] ?_
  refine rt ?_
  obtain rfl := os h
  exact rq [true,true]
 refine cF ((code0 == 35)) hb_4 ?_
 refine rs0 hc 3 [(21,.bool (code0 == 36))] [] ?_
 rcases is h with ⟨hb_5,h⟩ | ⟨hb_5,h⟩
 ·refine cT ((code0 == 36)) hb_5 ?_
  refine rs0 hc 2 [(2,I 4),(3,I (-1))] [] ?_
  refine rt ?_
  obtain rfl := os h
  exact rq [true,true]
 refine cF ((code0 == 36)) hb_5 ?_
 refine sk ?_
 refine rs0 hc 2 [(2,I 5),(3,I (-1))] [] ?_
 refine rt ?_
 obtain rfl := os h
 exact rq [true,true]
def impl_typeEnd (p : (List Int) × Int) : Option (Int) :=
 match p with
 | (ty0,at1) =>
  ((
   if (decide (at1 < 0)) = true then
    some (true)
   else
    some ((decide (at1 ≥ (ty0.length : Int))))
  ) : Option (Bool)) >>= fun v_1 =>
  if v_1 = true then
   some (-1)
  else
   (idx ty0 at1) >>= fun e_3_2 =>
   (impl_shape e_3_2) >>= fun (r_3_4_0,r_3_4_1) =>
   if (r_3_4_0 == 0) = true then
    some (wr (at1 + 1))
   else
    if (r_3_4_0 == 4) = true then
     (impl_typeEnd (ty0,(wr (at1 + 1)))) >>= fun r_8_3 =>
     some r_8_3
    else
     if (r_3_4_0 == 5) = true then
      some (-1)
     else
      (impl_typeEnd (ty0,(wr (at1 + 1)))) >>= fun r_11_4 =>
      (impl_typeEnd (ty0,r_11_4)) >>= fun r_11_5 =>
      some r_11_5
 partial_fixpoint
def M_impl_typeEnd (p : (List Int) × Int) (r : Int) : Prop :=
 match p with
 | (ty0,at1) => FnSound Tryz.prog 186 [sI ty0,I at1] (I r) []
theorem impl_typeEnd_s : ∀ p r,impl_typeEnd p = some r → M_impl_typeEnd p r := by
 refine impl_typeEnd.partial_correctness M_impl_typeEnd ?_
 rintro impl_typeEnd_f impl_typeEnd_ih ⟨ty0,at1⟩ r h
 refine b0 Tryz.f186 B186 42 [(0,sI ty0),(1,I at1)] fun c hc => ?_
 refine rs0 hc 1 [(0,sI ty0),(1,I at1)] [] ?_
 refine sN ?_
 refine sN ?_
 obtain ⟨v_1,hj_2,h⟩ := bsome h
 refine Wp.into (x := .normal) (mkS [(0,sI ty0),(1,I at1),(14,.bool v_1)] []) ?_ ?_
 ·replace h := hj_2
  rcases is h with ⟨hb_1_0,h⟩ | ⟨hb_1_0,h⟩
  ·refine rg hc none [oN,oN,oN,o_,o_,o_,o_,oT] [(0,sI ty0),(1,I at1),(14,.bool true)] [] (ar 4 (neF hb_1_0) (ai hb_1_0 trivial)) ?_
   obtain rfl := os h
   exact Into.mk
  refine rg hc none [oN,oN,oN,oN,oN,some (.eqv (.no) ⟨[(12,I (ty0.length : Int))],[],[]⟩),oN,oF] [(0,sI ty0),(1,I at1),(14,.bool (decide (at1 ≥ (ty0.length : Int))))] [] (ar 3 hb_1_0 (ai (lenT (d := 12) I ty0) (ar 2 hb_1_0 trivial))) ?_
  obtain rfl := os h
  exact Into.mk
 clear hj_2
 rcases is h with ⟨hb_3,h⟩ | ⟨hb_3,h⟩
 ·refine cT v_1 hb_3 ?_
  refine rs0 hc 1 [(4,I (-1))] [] ?_
  refine rt ?_
  obtain rfl := os h
  exact rq [true]
 refine cF v_1 hb_3 ?_
 refine sk ?_
 obtain ⟨e_3_2,hi_3_2,h⟩ := bsome h
 obtain ⟨⟨r_3_4_0,r_3_4_1⟩,hr_3_4,h⟩ := bsome h
 refine rs hc none [oN,oN,some (.el (I e_3_2)),oN,oc (.tup [I r_3_4_0,I r_3_4_1]),oN,oN,oN,oN,oN] [(0,sI ty0),(1,I at1),(5,I r_3_4_0)] [] (ai (ix hi_3_2) (ai (impl_shape_s _ _ hr_3_4) (ai bod_182 (ai (oi (.tup [I r_3_4_0,I r_3_4_1])) trivial)))) ?_
 refine sN ?_
 refine rs0 hc 1 [(0,sI ty0),(1,I at1),(23,I r_3_4_0)] [] ?_
 refine bk 0 ?_
 refine rs0 hc 2 [(0,sI ty0),(1,I at1),(23,I r_3_4_0),(24,.bool (r_3_4_0 == 0))] [] ?_
 rcases is h with ⟨hb_4,h⟩ | ⟨hb_4,h⟩
 ·refine cT ((r_3_4_0 == 0)) hb_4 ?_
  refine rs0 hc 3 [(4,I (wr (at1 + 1)))] [] ?_
  refine rt ?_
  obtain rfl := os h
  exact rq [true]
 refine cF ((r_3_4_0 == 0)) hb_4 ?_
 refine rs0 hc 2 [(0,sI ty0),(1,I at1),(23,I r_3_4_0),(28,.bool (r_3_4_0 == 4))] [] ?_
 rcases is h with ⟨hb_5,h⟩ | ⟨hb_5,h⟩
 ·refine cT ((r_3_4_0 == 4)) hb_5 ?_
  obtain ⟨r_8_3,hr_8_3,h⟩ := bsome h
  refine rs hc none [oN,oN,oN,oc (I r_8_3),oN] [(4,I r_8_3)] [] (ai (impl_typeEnd_ih _ _ hr_8_3) (ai bod_186 (ai (oi (I r_8_3)) trivial))) ?_
  refine rt ?_
  obtain rfl := os h
  exact rq [true]
 refine cF ((r_3_4_0 == 4)) hb_5 ?_
 refine rs0 hc 2 [(0,sI ty0),(1,I at1),(34,.bool (r_3_4_0 == 5))] [] ?_
 rcases is h with ⟨hb_6,h⟩ | ⟨hb_6,h⟩
 ·refine cT ((r_3_4_0 == 5)) hb_6 ?_
  refine rs0 hc 1 [(4,I (-1))] [] ?_
  refine rt ?_
  obtain rfl := os h
  exact rq [true]
 refine cF ((r_3_4_0 == 5)) hb_6 ?_
 refine sk ?_
 obtain ⟨r_11_4,hr_11_4,h⟩ := bsome h
 obtain ⟨r_11_5,hr_11_5,h⟩ := bsome h
 refine rs hc none [oN,oN,oN,oN,oc (I r_11_4),oc (I r_11_5),oN] [(4,I r_11_5)] [] (ai (impl_typeEnd_ih _ _ hr_11_4) (ai bod_186 (ai (oi (I r_11_4)) (ai (impl_typeEnd_ih _ _ hr_11_5) (ai bod_186 (ai (oi (I r_11_5)) trivial)))))) ?_
 refine rt ?_
 obtain rfl := os h
 exact rq [true]
def impl_isWrittenType (ty0 : (List Int)) : Option (Bool) :=
  ((
   (impl_within ((ty0.length : Int),1,40)) >>= fun r_1_2 =>
   if r_1_2 = true then
    (impl_typeEnd (ty0,0)) >>= fun r_1_5 =>
    some ((r_1_5 == (ty0.length : Int)))
   else
    some (false)
  ) : Option (Bool)) >>= fun v_1 =>
  some v_1
def M_impl_isWrittenType (ty0 : (List Int)) (r : Bool) : Prop :=
 FnSound Tryz.prog 118 [sI ty0] (.bool r) []
theorem impl_isWrittenType_s : ∀ p r,impl_isWrittenType p = some r → M_impl_isWrittenType p r := by
 rintro ty0 r h
 unfold impl_isWrittenType at h
 refine b0 Tryz.f118 B118 13 [(0,sI ty0)] fun c hc => ?_
 refine rs0 hc 1 [(0,sI ty0)] [] ?_
 refine sN ?_
 obtain ⟨v_1,hj_2,h⟩ := bsome h
 refine Wp.into (x := .normal) (mkS [(2,.bool v_1)] []) ?_ ?_
 ·replace h := hj_2
  obtain ⟨r_1_2,hr_1_2,h⟩ := bsome h
  rcases is h with ⟨hb_1_0,h⟩ | ⟨hb_1_0,h⟩
  ·obtain ⟨r_1_5,hr_1_5,h⟩ := bsome h
   refine rg hc none [oN,some (.eqv (.no) ⟨[(4,I (ty0.length : Int))],[],[]⟩),oc (.bool r_1_2),oN,oN,oc (I r_1_5),oN,some (.eqv (.no) ⟨[(10,I (ty0.length : Int))],[],[]⟩),oN,oT,oN] [(2,.bool (r_1_5 == (ty0.length : Int)))] [] (ai (lenT (d := 4) I ty0) (ai (impl_within_s _ _ hr_1_2) (ai bod_108 (ai (oi (.bool r_1_2)) (ar 2 hb_1_0 (ai (impl_typeEnd_s _ _ hr_1_5) (ai bod_186 (ai (oi (I r_1_5)) (ar 2 hb_1_0 (ai (lenT (d := 10) I ty0) (ar 2 hb_1_0 trivial))))))))))) ?_
   obtain rfl := os h
   exact Into.mk
  refine rg hc none [oN,some (.eqv (.no) ⟨[(4,I (ty0.length : Int))],[],[]⟩),oc (.bool r_1_2),oN,o_,o_,o_,o_,o_,oF,oN] [(2,.bool false)] [] (ai (lenT (d := 4) I ty0) (ai (impl_within_s _ _ hr_1_2) (ai bod_108 (ai (oi (.bool r_1_2)) (ar 5 (neT hb_1_0) (ai hb_1_0 trivial)))))) ?_
  obtain rfl := os h
  exact Into.mk
 clear hj_2
 refine rt ?_
 obtain rfl := os h
 exact rq [true]
def impl_isTypeOf_F1 (c : Ctx) : (Unit) ⊕ (Bool) → Exit → AState → Prop
 | .inl _ => Into c (.exit 0) (mkS [] [])
 | .inr r => RetE TIx Tryz.f210 [] (.bool r)
def impl_isTypeOf_l0 (p : GSystem × (List Int) × Int) : Option ((Unit) ⊕ (Bool)) :=
 match p with
 | (s0,ty1,w_6) =>
  if (decide (w_6 < (ty1.length : Int))) = true then
   (idx ty1 w_6) >>= fun e_5_0 =>
   (impl_shape e_5_0) >>= fun (r_6_1_0,r_6_1_1) =>
   ((
    if (r_6_1_0 == 3) = true then
     (impl_Systemhas (s0,r_6_1_1)) >>= fun r_7_9 =>
     some ((!r_7_9))
    else
     if (r_6_1_0 == 4) = true then
      (impl_Systemhas (s0,r_6_1_1)) >>= fun r_7_9 =>
      some ((!r_7_9))
     else
      some (false)
   ) : Option (Bool)) >>= fun v_8 =>
   if v_8 = true then
    some (.inr false)
   else
    impl_isTypeOf_l0 (s0,ty1,(wr (w_6 + 1)))
  else
   some (.inl ())
 partial_fixpoint
def M_impl_isTypeOf_l0 (p : GSystem × (List Int) × Int) (fl : (Unit) ⊕ (Bool)) : Prop :=
 match p with
 | (s0,ty1,w_6) => ∀ c : Ctx,c.nt = 36 → WpL Tryz.prog c (cl (cl (cr (cl (cr (cr B210)))))) (impl_isTypeOf_F1 c fl) (mkS [(2,.ra 1 0),(12,sI ty1),(13,I (ty1.length : Int)),(14,I w_6)] [(1,bSystem s0)])
theorem impl_isTypeOf_l0_s : ∀ p r,impl_isTypeOf_l0 p = some r → M_impl_isTypeOf_l0 p r := by
 refine impl_isTypeOf_l0.partial_correctness M_impl_isTypeOf_l0 ?_
 rintro impl_isTypeOf_l0_f impl_isTypeOf_l0_ih ⟨s0,ty1,w_6⟩ r h
 intro c hc
 refine WpL.step ?_
 refine rs0 hc 1 [(2,.ra 1 0),(12,sI ty1),(13,I (ty1.length : Int)),(14,I w_6),(15,.bool (decide (w_6 < (ty1.length : Int))))] [(1,bSystem s0)] ?_
 refine sN ?_
 rcases is h with ⟨hb_7,h⟩ | ⟨hb_7,h⟩
 ·refine cT ((decide (w_6 < (ty1.length : Int)))) hb_7 ?_
  refine sk ?_
  refine sN ?_
  refine bk 1 ?_
  obtain ⟨e_5_0,hi_5_0,h⟩ := bsome h
  refine rs hc none [some (.el (I e_5_0)),oN,oN] [(2,.ra 1 0),(6,I e_5_0),(12,sI ty1),(13,I (ty1.length : Int)),(14,I w_6)] [(1,bSystem s0)] (ai (ix hi_5_0) trivial) ?_
  obtain ⟨⟨r_6_1_0,r_6_1_1⟩,hr_6_1,h⟩ := bsome h
  refine rs hc none [oN,oc (.tup [I r_6_1_0,I r_6_1_1]),oN,oN,oN,oN,oN] [(2,.ra 1 0),(7,I r_6_1_0),(8,I r_6_1_1),(12,sI ty1),(13,I (ty1.length : Int)),(14,I w_6)] [(1,bSystem s0)] (ai (impl_shape_s _ _ hr_6_1) (ai bod_182 (ai (oi (.tup [I r_6_1_0,I r_6_1_1])) trivial))) ?_
  refine sN ?_
  obtain ⟨v_8,hj_9,h⟩ := bsome h
  refine Wp.into (x := .normal) (mkS [(2,.ra 1 0),(12,sI ty1),(13,I (ty1.length : Int)),(14,I w_6),(34,.bool v_8)] [(1,bSystem s0)]) ?_ ?_
  ·replace h := hj_9
   rcases is h with ⟨hb_7_0,h⟩ | ⟨hb_7_0,h⟩
   ·obtain ⟨r_7_9,hr_7_9,h⟩ := bsome h
    refine rg hc none [oN,oN,oN,o_,o_,oT,oN,oN,oN,oc (.bool r_7_9),oN,oT] [(2,.ra 1 0),(12,sI ty1),(13,I (ty1.length : Int)),(14,I w_6),(34,.bool (!r_7_9))] [(1,bSystem s0)] (ar 2 (neF hb_7_0) (ai hb_7_0 (ar 3 tt (ai (impl_Systemhas_s _ _ hr_7_9) (ai bod_85 (ai (oi (.bool r_7_9)) (ar 2 tt trivial))))))) ?_
    obtain rfl := os h
    exact Into.mk
   rcases is h with ⟨hb_7_1,h⟩ | ⟨hb_7_1,h⟩
   ·obtain ⟨r_7_9,hr_7_9,h⟩ := bsome h
    refine rg hc none [oN,oN,oN,oN,oN,oF,oN,oN,oN,oc (.bool r_7_9),oN,oT] [(2,.ra 1 0),(12,sI ty1),(13,I (ty1.length : Int)),(14,I w_6),(34,.bool (!r_7_9))] [(1,bSystem s0)] (ar 3 hb_7_0 (ar 3 hb_7_1 (ai (impl_Systemhas_s _ _ hr_7_9) (ai bod_85 (ai (oi (.bool r_7_9)) (ar 2 hb_7_1 trivial)))))) ?_
    obtain rfl := os h
    exact Into.mk
   refine rg hc none [oN,oN,oN,oN,oN,oF,oN,o_,o_,o_,o_,oF] [(2,.ra 1 0),(12,sI ty1),(13,I (ty1.length : Int)),(14,I w_6),(34,.bool false)] [(1,bSystem s0)] (ar 3 hb_7_0 (ar 4 (neT hb_7_1) (ai hb_7_1 trivial))) ?_
   obtain rfl := os h
   exact Into.mk
  clear hj_9
  rcases is h with ⟨hb_10,h⟩ | ⟨hb_10,h⟩
  ·refine cT v_8 hb_10 ?_
   refine rs0 hc 1 [(4,.bool false)] [] ?_
   refine rt ?_
   obtain rfl := os h
   exact re [true]
  refine cF v_8 hb_10 ?_
  refine sk ?_
  refine rg0 hc 2 [(2,.ra 1 0),(12,sI ty1),(13,I (ty1.length : Int)),(14,I (wr (w_6 + 1)))] [(1,bSystem s0)] ?_
  refine loopQ_norm ?_
  exact (impl_isTypeOf_l0_ih _ _ h c hc)
 refine cF ((decide (w_6 < (ty1.length : Int)))) hb_7 ?_
 refine xt 0 ?_
 refine seqQ_exit ?_
 refine loopQ_exit ?_
 obtain rfl := os h
 exact iv []
def impl_isTypeOf (p : GSystem × (List Int)) : Option (Bool) :=
 match p with
 | (s0,ty1) =>
  (impl_isWrittenType ty1) >>= fun r_1_1 =>
  if r_1_1 = true then
   (impl_isTypeOf_l0 (s0,ty1,0)) >>= fun fl => match fl with
   | .inl () =>
    some true
   | .inr r =>
    some r
  else
   some false
def M_impl_isTypeOf (p : GSystem × (List Int)) (r : Bool) : Prop :=
 match p with
 | (s0,ty1) => FnSound Tryz.prog 210 [aSystem s0,sI ty1] (.bool r) []
theorem impl_isTypeOf_s : ∀ p r,impl_isTypeOf p = some r → M_impl_isTypeOf p r := by
 rintro ⟨s0,ty1⟩ r h
 unfold impl_isTypeOf at h
 refine b0 Tryz.f210 B210 36 [(0,aSystem s0),(1,sI ty1)] fun c hc => ?_
 refine rs hc none [some (.new 1),oN] [(1,sI ty1),(2,.ra 1 0)] [(1,bSystem s0)] trivial ?_
 refine sN ?_
 obtain ⟨r_1_1,hr_1_1,h⟩ := bsome h
 refine rs hc none [oN,oc (.bool r_1_1),oN] [(1,sI ty1),(2,.ra 1 0),(11,.bool (!r_1_1))] [(1,bSystem s0)] (ai (impl_isWrittenType_s _ _ hr_1_1) (ai bod_118 (ai (oi (.bool r_1_1)) trivial))) ?_
 rcases is h with ⟨hb_1,h⟩ | ⟨hb_1,h⟩
 ·refine cF (!r_1_1) (nF hb_1) ?_
  refine sk ?_
  refine sN ?_
  refine rs hc none [oN,some (.eqv (.no) ⟨[(13,I (ty1.length : Int))],[],[]⟩),oN] [(2,.ra 1 0),(12,sI ty1),(13,I (ty1.length : Int)),(14,I 0)] [(1,bSystem s0)] (ai (lenT (d := 13) I ty1) trivial) ?_
  refine bk 0 ?_
  obtain ⟨fl,hl_11,h⟩ := bsome h
  have hL := impl_isTypeOf_l0_s _ _ hl_11 c hc
  refine lp ?_
  rcases fl with ⟨⟩ | r
  ·refine WpL.into (e := (.exit 0)) (mkS [] []) hL ?_
   refine blockQ_hit ?_
   refine rs0 hc 1 [(4,.bool true)] [] ?_
   refine rt ?_
   obtain rfl := os h
   exact rq [true]
  refine WpL.mono hL ?_
  rintro _ _ ⟨rfl,hfin⟩
  obtain rfl := os h
  exact ⟨.inl rfl,hfin⟩
 refine cT (!r_1_1) (nT hb_1) ?_
 refine rs0 hc 1 [(4,.bool false)] [] ?_
 refine rt ?_
 obtain rfl := os h
 exact rq [true]
def impl_isContext_c1 (p : (List Int) × GSystem) : Option (Bool) :=
 match p with
 | (ty0,cap0) =>
  (impl_isTypeOf (cap0,ty0)) >>= fun r_1_2 =>
  some (!r_1_2)
def M_impl_isContext_c1 (p : (List Int) × GSystem) (r : Bool) : Prop :=
 match p with
 | (ty0,cap0) => FnSound Tryz.prog 209 [sI ty0,.ptr [I cap0.fSize,sI cap0.fPlus,sI cap0.fTimes,sB cap0.fBelow] 0] (.bool r) []
theorem impl_isContext_c1_s : ∀ p r,impl_isContext_c1 p = some r → M_impl_isContext_c1 p r := by
 rintro ⟨ty0,cap0⟩ r h
 unfold impl_isContext_c1 at h
 refine b0 Tryz.f209 B209 8 [(0,sI ty0),(1,.ptr [I cap0.fSize,sI cap0.fPlus,sI cap0.fTimes,sB cap0.fBelow] 0)] fun c hc => ?_
 refine rs0 hc 1 [(0,sI ty0),(1,.ptr [I cap0.fSize,sI cap0.fPlus,sI cap0.fTimes,sB cap0.fBelow] 0)] [] ?_
 obtain ⟨r_1_2,hr_1_2,h⟩ := bsome h
 refine rs hc none [oN,oN,oc (.bool r_1_2),oN,oN] [(3,.bool (!r_1_2))] [] (ai (impl_isTypeOf_s _ _ hr_1_2) (ai bod_210 (ai (oi (.bool r_1_2)) trivial))) ?_
 refine rt ?_
 obtain rfl := os h
 exact rq [true]
def slices_IndexFunc_Lint_Kimpl_isContext_c1_F1 (c : Ctx) : (Unit) ⊕ (Int) → Exit → AState → Prop
 | .inl _ => Into c (.exit 0) (mkS [] [])
 | .inr r => RetE TIx Tryz.f240 [] (I r)
end Go.Am
