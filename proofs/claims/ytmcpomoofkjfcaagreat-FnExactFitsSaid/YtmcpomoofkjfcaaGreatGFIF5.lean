/- Functions of the program as pure functions,and that it computes them. Printed by a program of mine (gen.py). -/
import Derived.Test.YtmcpomoofkjfcaaGreatGFIF4
set_option linter.unusedVariables false
set_option linter.unusedSimpArgs false
set_option maxRecDepth 100000
namespace Go.Am
open Go Go.Proofs
def ah5_0 : Option (List (List Nat)) := rx [[0],[0],[2],[3],[0],[0,4],[0,4,5],[7],[8],[9],[10],[10],[10],[10,11,12],[10,11,12,13],[10],[10],[10,15,16],[10,15,16,17],[19],[20],[21]]
def ah5_1 : Option (List (List Nat)) := rx [[0],[0],[0],[0],[0,1,2,3],[0],[6],[0],[0],[0],[0],[0],[7,9,10,11],[13],[14],[15],[16],[16],[16],[16],[16,17,18,19],[16],[22],[16],[16],[16],[16],[16],[23,25,26,27],[29],[30],[31]]
def ah5_2 : Option (List (List Nat)) := rx [[0],[0],[0],[0],[0],[0,2,3,4],[6],[0],[0],[0],[0],[7,8,9,10],[0],[0],[0],[7,8,9,10,11,12,13,14],[16],[17],[18],[19],[19],[19],[19],[19,20,21,22],[19],[25],[19],[19],[19],[19],[26,27,28,29],[19],[19],[19],[26,27,28,29,30,31,32,33],[35],[36],[37]]
def ah5_3 : Option (List (List Nat)) := rx [[0],[0],[0],[3],[4],[5],[6],[6],[6],[6],[6,7,8,9],[6],[6],[6],[6,7,8,9,10,11,12,13],[15],[16],[17],[17],[17],[17],[17,18,19,20],[17],[17],[17],[17,18,19,20,21,22,23,24],[26],[27],[28],[29],[29],[29],[29],[29,30,31,32],[29],[29],[29],[29,30,31,32,33,34,35,36],[38],[39],[40],[41]]
def spec_TypeOf (p : GSystem × (List (List Int)) × GTerm) : Option ((List Int) × (List Int) × Bool) :=
 match p with
 | (s0,ctx1,t2) =>
  (spec_l3Input (s0,ctx1,t2)) >>= fun r_1_3 =>
  if r_1_3 = true then
   (spec_l3Tell (s0,ctx1,t2)) >>= fun r_3_3 =>
   if (r_3_3.ffault != 0) = true then
    some ([],[],false)
   else
    some (r_3_3.fty,r_3_3.fneeds,true)
  else
   some ([],[],false)
def M_spec_TypeOf (p : GSystem × (List (List Int)) × GTerm) (r : (List Int) × (List Int) × Bool) : Prop :=
 match p with
 | (s0,ctx1,t2) => FnSound Tryz.prog 18 [aSystem s0,sL ctx1,aTerm t2] (.tup [sI r.1,.sl (List.map I r.2.1),.bool r.2.2]) []
theorem spec_TypeOf_s : ∀ p r,spec_TypeOf p = some r → M_spec_TypeOf p r := by
 rintro ⟨s0,ctx1,t2⟩ r h
 unfold spec_TypeOf at h
 refine b0 Tryz.f18 B18 26 [(0,aSystem s0),(1,sL ctx1),(2,aTerm t2)] fun c hc => ?_
 refine rs hc none [some (.new 1),some (.new 2),oN,oN,oN] [(1,sL ctx1),(3,.ra 1 0),(5,.ra 2 0)] [(1,bSystem s0),(2,bTerm t2)] trivial ?_
 refine sN ?_
 obtain ⟨r_1_3,hr_1_3,h⟩ := bsome h
 refine rs hc none [oN,oN,oN,oc (.bool r_1_3),oN] [(1,sL ctx1),(3,.ra 1 0),(5,.ra 2 0),(14,.bool (!r_1_3))] [(1,bSystem s0),(2,bTerm t2)] (ai (spec_l3Input_s _ _ hr_1_3) (ai bod_72 (ai (oi (.bool r_1_3)) trivial))) ?_
 rcases is h with ⟨hb_1,h⟩ | ⟨hb_1,h⟩
 ·refine cF (!r_1_3) (nF hb_1) ?_
  refine sk ?_
  obtain ⟨r_3_3,hr_3_3,h⟩ := bsome h
  refine rs hc none [oN,oN,oN,oc (aL3Told r_3_3),some (.new 3),oN] [(9,.ra 3 0)] [(3,bL3Told r_3_3)] (ai (spec_l3Tell_s _ _ hr_3_3) (ai bod_73 (ai (oi (aL3Told r_3_3)) trivial))) ?_
  refine sN ?_
  refine rs0 hc 3 [(9,.ra 3 0),(21,.bool (r_3_3.ffault != 0))] [(3,bL3Told r_3_3)] ?_
  rcases is h with ⟨hb_2,h⟩ | ⟨hb_2,h⟩
  ·refine cT ((r_3_3.ffault != 0)) hb_2 ?_
   refine rs0 hc 3 [(6,.nils),(7,.nils),(8,.bool false)] [] ?_
   refine rt ?_
   obtain rfl := os h
   exact rq [false,false,true]
  refine cF ((r_3_3.ffault != 0)) hb_2 ?_
  refine sk ?_
  refine rs hc (rx [[0],[1],[0],[0,2],[2],[5],[6]]) [oN,oN,oN,oN,oN,oN,oN] [(6,sI r_3_3.fty),(7,sI r_3_3.fneeds),(8,.bool true)] [] trivial ?_
  refine rt ?_
  obtain rfl := os h
  exact rq [false,false,true]
 refine cT (!r_1_3) (nT hb_1) ?_
 refine rs0 hc 3 [(6,.nils),(7,.nils),(8,.bool false)] [] ?_
 refine rt ?_
 obtain rfl := os h
 exact rq [false,false,true]
def spec_l3Below_F1 (c : Ctx) : (Unit) ⊕ (Bool) → Exit → AState → Prop
 | .inl _ => Into c (.exit 0) (mkS [] [])
 | .inr r => RetE TIx Tryz.f83 [] (.bool r)
def spec_l3Below_l0 (p : GSystem × (List Int) × (List Int) × Int) : Option ((Unit) ⊕ (Bool)) :=
 match p with
 | (s0,needs1,budgets2,i_6) =>
  if (decide (i_6 < (needs1.length : Int))) = true then
   ((
    (idx budgets2 i_6) >>= fun e_6_2 =>
    (spec_l1In (e_6_2,0,(wr (s0.fSize - 1)))) >>= fun r_6_7 =>
    if r_6_7 = true then
     (idx needs1 i_6) >>= fun e_6_13 =>
     (idx budgets2 i_6) >>= fun e_6_17 =>
     (spec_l1Le (s0,e_6_13,e_6_17)) >>= fun r_6_19 =>
     some ((!r_6_19))
    else
     some (true)
   ) : Option (Bool)) >>= fun v_8 =>
   if v_8 = true then
    some (.inr false)
   else
    spec_l3Below_l0 (s0,needs1,budgets2,(wr (i_6 + 1)))
  else
   some (.inl ())
 partial_fixpoint
def M_spec_l3Below_l0 (p : GSystem × (List Int) × (List Int) × Int) (fl : (Unit) ⊕ (Bool)) : Prop :=
 match p with
 | (s0,needs1,budgets2,i_6) => ∀ c : Ctx,c.nt = 41 → WpL Tryz.prog c (cl (cl (cr (cl (cr (cr B83)))))) (spec_l3Below_F1 c fl) (mkS [(1,sI needs1),(2,sI budgets2),(3,.ra 1 0),(7,I i_6)] [(1,bSystem s0)])
theorem spec_l3Below_l0_s : ∀ p r,spec_l3Below_l0 p = some r → M_spec_l3Below_l0 p r := by
 refine spec_l3Below_l0.partial_correctness M_spec_l3Below_l0 ?_
 rintro spec_l3Below_l0_f spec_l3Below_l0_ih ⟨s0,needs1,budgets2,i_6⟩ r h
 intro c hc
 refine WpL.step ?_
 refine sN ?_
 refine rs hc none [oN,oN,some (.eqv (.no) ⟨[(15,I (needs1.length : Int))],[],[]⟩),oN] [(1,sI needs1),(2,sI budgets2),(3,.ra 1 0),(7,I i_6),(16,.bool (decide (i_6 < (needs1.length : Int))))] [(1,bSystem s0)] (ai (lenT (d := 15) I needs1) trivial) ?_
 rcases is h with ⟨hb_7,h⟩ | ⟨hb_7,h⟩
 ·refine cT ((decide (i_6 < (needs1.length : Int)))) hb_7 ?_
  refine sk ?_
  refine sN ?_
  refine bk 1 ?_
  refine sN ?_
  obtain ⟨v_8,hj_9,h⟩ := bsome h
  refine Wp.into (x := .normal) (mkS [(1,sI needs1),(2,sI budgets2),(3,.ra 1 0),(7,I i_6),(40,.bool v_8)] [(1,bSystem s0)]) ?_ ?_
  ·replace h := hj_9
   obtain ⟨e_6_2,hi_6_2,h⟩ := bsome h
   obtain ⟨r_6_7,hr_6_7,h⟩ := bsome h
   rcases is h with ⟨hb_6_0,h⟩ | ⟨hb_6_0,h⟩
   ·obtain ⟨e_6_13,hi_6_13,h⟩ := bsome h
    obtain ⟨e_6_17,hi_6_17,h⟩ := bsome h
    obtain ⟨r_6_19,hr_6_19,h⟩ := bsome h
    refine rg hc ah5_0 [oN,oN,some (.el (I e_6_2)),oN,oN,oN,oN,oc (.bool r_6_7),oN,oN,oN,oN,oN,some (.el (I e_6_13)),oN,oN,oN,some (.el (I e_6_17)),oN,oc (.bool r_6_19),oN,oF] [(1,sI needs1),(2,sI budgets2),(3,.ra 1 0),(7,I i_6),(40,.bool (!r_6_19))] [(1,bSystem s0)] (ai (ix hi_6_2) (ai (spec_l1In_s _ _ hr_6_7) (ai bod_100 (ai (oi (.bool r_6_7)) (ar 4 (nF hb_6_0) (ai (ix hi_6_13) (ar 4 (nF hb_6_0) (ai (ix hi_6_17) (ar 2 (nF hb_6_0) (ai (spec_l1Le_s _ _ hr_6_19) (ai bod_149 (ai (oi (.bool r_6_19)) (ar 2 (nF hb_6_0) trivial))))))))))))) ?_
    obtain rfl := os h
    exact Into.mk
   refine rg hc ah5_0 [oN,oN,some (.el (I e_6_2)),oN,oN,oN,oN,oc (.bool r_6_7),oN,oN,o_,o_,o_,o_,o_,o_,o_,o_,o_,o_,o_,oT] [(1,sI needs1),(2,sI budgets2),(3,.ra 1 0),(7,I i_6),(40,.bool true)] [(1,bSystem s0)] (ai (ix hi_6_2) (ai (spec_l1In_s _ _ hr_6_7) (ai bod_100 (ai (oi (.bool r_6_7)) (ar 11 (neF (nT hb_6_0)) (ai (nT hb_6_0) trivial)))))) ?_
   obtain rfl := os h
   exact Into.mk
  clear hj_9
  rcases is h with ⟨hb_10,h⟩ | ⟨hb_10,h⟩
  ·refine cT v_8 hb_10 ?_
   refine rs0 hc 1 [(6,.bool false)] [] ?_
   refine rt ?_
   obtain rfl := os h
   exact re [true]
  refine cF v_8 hb_10 ?_
  refine sk ?_
  refine rg0 hc 3 [(1,sI needs1),(2,sI budgets2),(3,.ra 1 0),(7,I (wr (i_6 + 1)))] [(1,bSystem s0)] ?_
  refine loopQ_norm ?_
  exact (spec_l3Below_l0_ih _ _ h c hc)
 refine cF ((decide (i_6 < (needs1.length : Int)))) hb_7 ?_
 refine xt 0 ?_
 refine seqQ_exit ?_
 refine loopQ_exit ?_
 obtain rfl := os h
 exact iv []
def spec_l3Below (p : GSystem × (List Int) × (List Int)) : Option (Bool) :=
 match p with
 | (s0,needs1,budgets2) =>
  if ((needs1.length : Int) != (budgets2.length : Int)) = true then
   some false
  else
   (spec_l3Below_l0 (s0,needs1,budgets2,0)) >>= fun fl => match fl with
   | .inl () =>
    some true
   | .inr r =>
    some r
def M_spec_l3Below (p : GSystem × (List Int) × (List Int)) (r : Bool) : Prop :=
 match p with
 | (s0,needs1,budgets2) => FnSound Tryz.prog 83 [aSystem s0,sI needs1,sI budgets2] (.bool r) []
theorem spec_l3Below_s : ∀ p r,spec_l3Below p = some r → M_spec_l3Below p r := by
 rintro ⟨s0,needs1,budgets2⟩ r h
 unfold spec_l3Below at h
 refine b0 Tryz.f83 B83 41 [(0,aSystem s0),(1,sI needs1),(2,sI budgets2)] fun c hc => ?_
 refine rs hc none [some (.new 1),oN] [(1,sI needs1),(2,sI budgets2),(3,.ra 1 0)] [(1,bSystem s0)] trivial ?_
 refine sN ?_
 refine rs hc none [oN,some (.eqv (.no) ⟨[(9,I (needs1.length : Int))],[],[]⟩),oN,some (.eqv (.no) ⟨[(11,I (budgets2.length : Int))],[],[]⟩),oN] [(1,sI needs1),(2,sI budgets2),(3,.ra 1 0),(12,.bool ((needs1.length : Int) != (budgets2.length : Int)))] [(1,bSystem s0)] (ai (lenT (d := 9) I needs1) (ai (lenT (d := 11) I budgets2) trivial)) ?_
 rcases is h with ⟨hb_1,h⟩ | ⟨hb_1,h⟩
 ·refine cT (((needs1.length : Int) != (budgets2.length : Int))) hb_1 ?_
  refine rs0 hc 1 [(6,.bool false)] [] ?_
  refine rt ?_
  obtain rfl := os h
  exact rq [true]
 refine cF (((needs1.length : Int) != (budgets2.length : Int))) hb_1 ?_
 refine sk ?_
 refine sN ?_
 refine rs0 hc 1 [(1,sI needs1),(2,sI budgets2),(3,.ra 1 0),(7,I 0)] [(1,bSystem s0)] ?_
 refine bk 0 ?_
 obtain ⟨fl,hl_11,h⟩ := bsome h
 have hL := spec_l3Below_l0_s _ _ hl_11 c hc
 refine lp ?_
 rcases fl with ⟨⟩ | r
 ·refine WpL.into (e := (.exit 0)) (mkS [] []) hL ?_
  refine blockQ_hit ?_
  refine rs0 hc 1 [(6,.bool true)] [] ?_
  refine rt ?_
  obtain rfl := os h
  exact rq [true]
 refine WpL.mono hL ?_
 rintro _ _ ⟨rfl,hfin⟩
 obtain rfl := os h
 exact ⟨.inl rfl,hfin⟩
def spec_Fits (p : GSystem × (List (List Int)) × (List Int) × GTerm × (List Int)) : Option (Bool) :=
 match p with
 | (s0,ctx1,budgets2,t3,ty4) =>
  (spec_TypeOf (s0,ctx1,t3)) >>= fun (r_1_3_0,r_1_3_1,r_1_3_2) =>
  ((
   if r_1_3_2 = true then
    (spec_l1Same (r_1_3_0,ty4)) >>= fun r_2_4 =>
    if r_2_4 = true then
     (spec_l3Below (s0,r_1_3_1,budgets2)) >>= fun r_2_10 =>
     some (r_2_10)
    else
     some (false)
   else
    some (false)
  ) : Option (Bool)) >>= fun v_1 =>
  some v_1
def M_spec_Fits (p : GSystem × (List (List Int)) × (List Int) × GTerm × (List Int)) (r : Bool) : Prop :=
 match p with
 | (s0,ctx1,budgets2,t3,ty4) => FnSound Tryz.prog 34 [aSystem s0,sL ctx1,sI budgets2,aTerm t3,sI ty4] (.bool r) []
theorem spec_Fits_s : ∀ p r,spec_Fits p = some r → M_spec_Fits p r := by
 rintro ⟨s0,ctx1,budgets2,t3,ty4⟩ r h
 unfold spec_Fits at h
 refine b0 Tryz.f34 B34 34 [(0,aSystem s0),(1,sL ctx1),(2,sI budgets2),(3,aTerm t3),(4,sI ty4)] fun c hc => ?_
 refine rs hc none [some (.new 1),some (.new 2),oN] [(1,sL ctx1),(2,sI budgets2),(4,sI ty4),(5,.ra 1 0),(8,.ra 2 0)] [(1,bSystem s0),(2,bTerm t3)] trivial ?_
 obtain ⟨⟨r_1_3_0,r_1_3_1,r_1_3_2⟩,hr_1_3,h⟩ := bsome h
 refine rs hc none [oN,oN,oN,oc (.tup [sI r_1_3_0,sI r_1_3_1,.bool r_1_3_2]),oN,oN,oN,oN,oN,oN,oN] [(2,sI budgets2),(4,sI ty4),(5,.ra 1 0),(11,sI r_1_3_0),(12,sI r_1_3_1),(13,.bool r_1_3_2)] [(1,bSystem s0)] (ai (spec_TypeOf_s _ _ hr_1_3) (ai bod_18 (ai (oi (.tup [sI r_1_3_0,sI r_1_3_1,.bool r_1_3_2])) trivial))) ?_
 refine sN ?_
 obtain ⟨v_1,hj_2,h⟩ := bsome h
 refine Wp.into (x := .normal) (mkS [(10,.bool v_1)] []) ?_ ?_
 ·replace h := hj_2
  rcases is h with ⟨hb_2_0,h⟩ | ⟨hb_2_0,h⟩
  ·obtain ⟨r_2_4,hr_2_4,h⟩ := bsome h
   rcases is h with ⟨hb_2_1,h⟩ | ⟨hb_2_1,h⟩
   ·obtain ⟨r_2_10,hr_2_10,h⟩ := bsome h
    refine rg hc none [oN,oN,oN,oN,oc (.bool r_2_4),oT,oN,oN,oN,oN,oc (.bool r_2_10),oT,oN] [(10,.bool r_2_10)] [] (ar 3 hb_2_0 (ai (spec_l1Same_s _ _ hr_2_4) (ai bod_82 (ai (oi (.bool r_2_4)) (ai hb_2_0 (ar 4 hb_2_1 (ai (spec_l3Below_s _ _ hr_2_10) (ai bod_83 (ai (oi (.bool r_2_10)) (ai hb_2_1 trivial)))))))))) ?_
    obtain rfl := os h
    exact Into.mk
   refine rg hc none [oN,oN,oN,oN,oc (.bool r_2_4),oT,oN,o_,o_,o_,o_,oF,oN] [(10,.bool false)] [] (ar 3 hb_2_0 (ai (spec_l1Same_s _ _ hr_2_4) (ai bod_82 (ai (oi (.bool r_2_4)) (ai hb_2_0 (ar 4 (neT hb_2_1) (ai hb_2_1 trivial))))))) ?_
   obtain rfl := os h
   exact Into.mk
  refine rg hc none [oN,oN,o_,o_,o_,oF,oN,o_,o_,o_,o_,oF,oN] [(10,.bool false)] [] (ar 3 (neT hb_2_0) (ai hb_2_0 (ar 4 (neT (rfl : false = false)) (ai (rfl : false = false) trivial)))) ?_
  obtain rfl := os h
  exact Into.mk
 clear hj_2
 refine rt ?_
 obtain rfl := os h
 exact rq [true]
def impl_within (p : Int × Int × Int) : Option (Bool) :=
 match p with
 | (n0,low1,high2) =>
  ((
   if (decide (n0 ≥ low1)) = true then
    some ((decide (n0 ≤ high2)))
   else
    some (false)
  ) : Option (Bool)) >>= fun v_1 =>
  some v_1
def M_impl_within (p : Int × Int × Int) (r : Bool) : Prop :=
 match p with
 | (n0,low1,high2) => FnSound Tryz.prog 108 [I n0,I low1,I high2] (.bool r) []
theorem impl_within_s : ∀ p r,impl_within p = some r → M_impl_within p r := by
 rintro ⟨n0,low1,high2⟩ r h
 unfold impl_within at h
 refine b0 Tryz.f108 B108 15 [(0,I n0),(1,I low1),(2,I high2)] fun c hc => ?_
 refine rs0 hc 1 [(0,I n0),(1,I low1),(2,I high2)] [] ?_
 refine sN ?_
 obtain ⟨v_1,hj_2,h⟩ := bsome h
 refine Wp.into (x := .normal) (mkS [(6,.bool v_1)] []) ?_ ?_
 ·replace h := hj_2
  rcases is h with ⟨hb_1_0,h⟩ | ⟨hb_1_0,h⟩
  ·refine rg hc none [oN,oN,oN,oN,oN,oN,oN,oT,oN] [(6,.bool (decide (n0 ≤ high2)))] [] (ar 4 hb_1_0 trivial) ?_
   obtain rfl := os h
   exact Into.mk
  refine rg hc none [oN,oN,oN,oN,o_,o_,o_,oF,oN] [(6,.bool false)] [] (ar 3 (neT hb_1_0) (ai hb_1_0 trivial)) ?_
  obtain rfl := os h
  exact Into.mk
 clear hj_2
 refine rt ?_
 obtain rfl := os h
 exact rq [true]
def impl_Systemhas (p : GSystem × Int) : Option (Bool) :=
 match p with
 | (s0,g1) =>
  (impl_within (g1,0,(wr (s0.fSize - 1)))) >>= fun r_1_4 =>
  some r_1_4
def M_impl_Systemhas (p : GSystem × Int) (r : Bool) : Prop :=
 match p with
 | (s0,g1) => FnSound Tryz.prog 85 [aSystem s0,I g1] (.bool r) []
theorem impl_Systemhas_s : ∀ p r,impl_Systemhas p = some r → M_impl_Systemhas p r := by
 rintro ⟨s0,g1⟩ r h
 unfold impl_Systemhas at h
 refine b0 Tryz.f85 B85 10 [(0,aSystem s0),(1,I g1)] fun c hc => ?_
 refine rs hc none [some (.new 1),oN] [(1,I g1),(2,.ra 1 0)] [(1,bSystem s0)] trivial ?_
 obtain ⟨r_1_4,hr_1_4,h⟩ := bsome h
 refine rs hc none [oN,oN,oN,oN,oc (.bool r_1_4),oN] [(4,.bool r_1_4)] [] (ai (impl_within_s _ _ hr_1_4) (ai bod_108 (ai (oi (.bool r_1_4)) trivial))) ?_
 refine rt ?_
 obtain rfl := os h
 exact rq [true]
def impl_Systemplus (p : GSystem × Int × Int) : Option (Int) :=
 match p with
 | (s0,a1,b2) =>
  (idx s0.fPlus (wr ((wr (a1 * s0.fSize)) + b2))) >>= fun e_1_8 =>
  some e_1_8
def M_impl_Systemplus (p : GSystem × Int × Int) (r : Int) : Prop :=
 match p with
 | (s0,a1,b2) => FnSound Tryz.prog 169 [aSystem s0,I a1,I b2] (I r) []
theorem impl_Systemplus_s : ∀ p r,impl_Systemplus p = some r → M_impl_Systemplus p r := by
 rintro ⟨s0,a1,b2⟩ r h
 unfold impl_Systemplus at h
 refine b0 Tryz.f169 B169 17 [(0,aSystem s0),(1,I a1),(2,I b2)] fun c hc => ?_
 refine rs hc none [some (.new 1),oN] [(1,I a1),(2,I b2),(3,.ra 1 0)] [(1,bSystem s0)] trivial ?_
 obtain ⟨e_1_8,hi_1_8,h⟩ := bsome h
 refine rs hc none [oN,oN,oN,oN,oN,oN,oN,oN,some (.el (I e_1_8)),oN,oN] [(6,I e_1_8)] [] (ai (ix hi_1_8) trivial) ?_
 refine rt ?_
 obtain rfl := os h
 exact rq [true]
def impl_Systemtimes (p : GSystem × Int × Int) : Option (Int) :=
 match p with
 | (s0,a1,b2) =>
  (idx s0.fTimes (wr ((wr (a1 * s0.fSize)) + b2))) >>= fun e_1_8 =>
  some e_1_8
def M_impl_Systemtimes (p : GSystem × Int × Int) (r : Int) : Prop :=
 match p with
 | (s0,a1,b2) => FnSound Tryz.prog 170 [aSystem s0,I a1,I b2] (I r) []
theorem impl_Systemtimes_s : ∀ p r,impl_Systemtimes p = some r → M_impl_Systemtimes p r := by
 rintro ⟨s0,a1,b2⟩ r h
 unfold impl_Systemtimes at h
 refine b0 Tryz.f170 B170 17 [(0,aSystem s0),(1,I a1),(2,I b2)] fun c hc => ?_
 refine rs hc none [some (.new 1),oN] [(1,I a1),(2,I b2),(3,.ra 1 0)] [(1,bSystem s0)] trivial ?_
 obtain ⟨e_1_8,hi_1_8,h⟩ := bsome h
 refine rs hc none [oN,oN,oN,oN,oN,oN,oN,oN,some (.el (I e_1_8)),oN,oN] [(6,I e_1_8)] [] (ai (ix hi_1_8) trivial) ?_
 refine rt ?_
 obtain rfl := os h
 exact rq [true]
def impl_Systembelow (p : GSystem × Int × Int) : Option (Bool) :=
 match p with
 | (s0,a1,b2) =>
  (idx s0.fBelow (wr ((wr (a1 * s0.fSize)) + b2))) >>= fun e_1_8 =>
  some e_1_8
def M_impl_Systembelow (p : GSystem × Int × Int) (r : Bool) : Prop :=
 match p with
 | (s0,a1,b2) => FnSound Tryz.prog 86 [aSystem s0,I a1,I b2] (.bool r) []
theorem impl_Systembelow_s : ∀ p r,impl_Systembelow p = some r → M_impl_Systembelow p r := by
 rintro ⟨s0,a1,b2⟩ r h
 unfold impl_Systembelow at h
 refine b0 Tryz.f86 B86 17 [(0,aSystem s0),(1,I a1),(2,I b2)] fun c hc => ?_
 refine rs hc none [some (.new 1),oN] [(1,I a1),(2,I b2),(3,.ra 1 0)] [(1,bSystem s0)] trivial ?_
 obtain ⟨e_1_8,hi_1_8,h⟩ := bsome h
 refine rs hc none [oN,oN,oN,oN,oN,oN,oN,oN,some (.el (.bool e_1_8)),oN,oN] [(6,.bool e_1_8)] [] (ai (idx_sl (enc := AV.bool) (x := .bool e_1_8) hi_1_8 (eq_B e_1_8)) trivial) ?_
 refine rt ?_
 obtain rfl := os h
 exact rq [true]
def impl_Systemjoin_F1 (c : Ctx) (s0 : GSystem) (a1 : Int) (b2 : Int) (g_17 : Int) : Bool → Exit → AState → Prop
 | least_30 => Into c (.exit 2) (mkS [(1,I a1),(2,I b2),(3,.ra 1 0),(7,I g_17),(8,.bool least_30)] [(1,bSystem s0)])
def impl_Systemjoin_l0 (p : GSystem × Int × Int × Int × Bool × Int) : Option (Bool) :=
 match p with
 | (s0,a1,b2,g_17,least_25,h_26) =>
  if (decide (h_26 < s0.fSize)) = true then
   ((
    if least_25 = true then
     (impl_Systembelow (s0,a1,h_26)) >>= fun r_9_5 =>
     if r_9_5 = true then
      (impl_Systembelow (s0,b2,h_26)) >>= fun r_9_11 =>
      if r_9_11 = true then
       (impl_Systembelow (s0,g_17,h_26)) >>= fun r_9_18 =>
       some (r_9_18)
      else
       some (true)
     else
      some (true)
    else
     some (false)
   ) : Option (Bool)) >>= fun least_28 =>
   impl_Systemjoin_l0 (s0,a1,b2,g_17,least_28,(wr (h_26 + 1)))
  else
   some (least_25)
 partial_fixpoint
def M_impl_Systemjoin_l0 (p : GSystem × Int × Int × Int × Bool × Int) (fl : Bool) : Prop :=
 match p with
 | (s0,a1,b2,g_17,least_25,h_26) => ∀ c : Ctx,c.nt = 57 → WpL Tryz.prog c (cl (cl (cr (cl (cr (cr (cl (cl (cr (cl (cl (cr (cl (cr B171)))))))))))))) (impl_Systemjoin_F1 c s0 a1 b2 g_17 fl) (mkS [(1,I a1),(2,I b2),(3,.ra 1 0),(7,I g_17),(8,.bool least_25),(9,I h_26)] [(1,bSystem s0)])
theorem impl_Systemjoin_l0_s : ∀ p r,impl_Systemjoin_l0 p = some r → M_impl_Systemjoin_l0 p r := by
 refine impl_Systemjoin_l0.partial_correctness M_impl_Systemjoin_l0 ?_
 rintro impl_Systemjoin_l0_f impl_Systemjoin_l0_ih ⟨s0,a1,b2,g_17,least_25,h_26⟩ r h
 intro c hc
 refine WpL.step ?_
 refine sN ?_
 refine rs0 hc 4 [(1,I a1),(2,I b2),(3,.ra 1 0),(7,I g_17),(8,.bool least_25),(9,I h_26),(31,.bool (decide (h_26 < s0.fSize)))] [(1,bSystem s0)] ?_
 rcases is h with ⟨hb_27,h⟩ | ⟨hb_27,h⟩
 ·refine cT ((decide (h_26 < s0.fSize))) hb_27 ?_
  refine sk ?_
  refine sN ?_
  refine bk 3 ?_
  obtain ⟨least_28,hj_29,h⟩ := bsome h
  refine Wp.into (x := .normal) (mkS [(1,I a1),(2,I b2),(3,.ra 1 0),(7,I g_17),(8,.bool least_28),(9,I h_26)] [(1,bSystem s0)]) ?_ ?_
  ·replace h := hj_29
   rcases is h with ⟨hb_9_0,h⟩ | ⟨hb_9_0,h⟩
   ·obtain ⟨r_9_5,hr_9_5,h⟩ := bsome h
    rcases is h with ⟨hb_9_1,h⟩ | ⟨hb_9_1,h⟩
    ·obtain ⟨r_9_11,hr_9_11,h⟩ := bsome h
     rcases is h with ⟨hb_9_2,h⟩ | ⟨hb_9_2,h⟩
     ·obtain ⟨r_9_18,hr_9_18,h⟩ := bsome h
      refine rg hc none [oN,oN,oN,oN,oN,oc (.bool r_9_5),oN,oN,oN,oN,oN,oc (.bool r_9_11),oN,oF,oN,oN,oN,oN,oc (.bool r_9_18),oF,oT,oN] [(1,I a1),(2,I b2),(3,.ra 1 0),(7,I g_17),(8,.bool r_9_18),(9,I h_26)] [(1,bSystem s0)] (ar 4 hb_9_0 (ai (impl_Systembelow_s _ _ hr_9_5) (ai bod_86 (ai (oi (.bool r_9_5)) (ar 2 hb_9_0 (ar 4 (nF hb_9_1) (ai (impl_Systembelow_s _ _ hr_9_11) (ai bod_86 (ai (oi (.bool r_9_11)) (ai (nF hb_9_1) (ai hb_9_0 (ai (nF hb_9_1) (ai hb_9_0 (ar 4 (nF hb_9_2) (ai (impl_Systembelow_s _ _ hr_9_18) (ai bod_86 (ai (oi (.bool r_9_18)) (ai hb_9_0 (ai (nF hb_9_2) (ai hb_9_0 trivial)))))))))))))))))))) ?_
      obtain rfl := os h
      exact Into.mk
     refine rg hc none [oN,oN,oN,oN,oN,oc (.bool r_9_5),oN,oN,oN,oN,oN,oc (.bool r_9_11),oN,oF,oN,o_,o_,o_,o_,oT,oT,oN] [(1,I a1),(2,I b2),(3,.ra 1 0),(7,I g_17),(8,.bool true),(9,I h_26)] [(1,bSystem s0)] (ar 4 hb_9_0 (ai (impl_Systembelow_s _ _ hr_9_5) (ai bod_86 (ai (oi (.bool r_9_5)) (ar 2 hb_9_0 (ar 4 (nF hb_9_1) (ai (impl_Systembelow_s _ _ hr_9_11) (ai bod_86 (ai (oi (.bool r_9_11)) (ai (nF hb_9_1) (ai hb_9_0 (ai (nF hb_9_1) (ai hb_9_0 (ar 4 (neF (nT hb_9_2)) (ai hb_9_0 (ai (nT hb_9_2) (ai hb_9_0 trivial))))))))))))))))) ?_
     obtain rfl := os h
     exact Into.mk
    refine rg hc none [oN,oN,oN,oN,oN,oc (.bool r_9_5),oN,oN,o_,o_,o_,o_,o_,oT,oN,o_,o_,o_,o_,oT,oT,oN] [(1,I a1),(2,I b2),(3,.ra 1 0),(7,I g_17),(8,.bool true),(9,I h_26)] [(1,bSystem s0)] (ar 4 hb_9_0 (ai (impl_Systembelow_s _ _ hr_9_5) (ai bod_86 (ai (oi (.bool r_9_5)) (ar 2 hb_9_0 (ar 5 (neF (nT hb_9_1)) (ai hb_9_0 (ai (nT hb_9_1) (ai hb_9_0 (ar 4 nf (ai hb_9_0 (ai tt (ai hb_9_0 trivial))))))))))))) ?_
    obtain rfl := os h
    exact Into.mk
   refine rg hc none [oN,oN,o_,o_,o_,o_,o_,o_,o_,o_,o_,o_,o_,o_,o_,o_,o_,o_,o_,o_,oF,oN] [(1,I a1),(2,I b2),(3,.ra 1 0),(7,I g_17),(8,.bool false),(9,I h_26)] [(1,bSystem s0)] (ar 9 (neT hb_9_0) (ai hb_9_0 trivial)) ?_
   obtain rfl := os h
   exact Into.mk
  clear hj_29
  refine rg0 hc 3 [(1,I a1),(2,I b2),(3,.ra 1 0),(7,I g_17),(8,.bool least_28),(9,I (wr (h_26 + 1)))] [(1,bSystem s0)] ?_
  refine loopQ_norm ?_
  exact (impl_Systemjoin_l0_ih _ _ h c hc)
 refine cF ((decide (h_26 < s0.fSize))) hb_27 ?_
 refine xt 2 ?_
 refine seqQ_exit ?_
 refine loopQ_exit ?_
 obtain rfl := os h
 exact iv []
def impl_Systemjoin_F2 (c : Ctx) (s0 : GSystem) (a1 : Int) (b2 : Int) (g_17 : Int) : (Unit) ⊕ (Int) → Exit → AState → Prop
 | .inl _ => Into c .normal (mkS [(1,I a1),(2,I b2),(3,.ra 1 0),(7,I g_17)] [(1,bSystem s0)])
 | .inr r => RetE TIx Tryz.f171 [] (I r)
def impl_Systemjoin_F3 (c : Ctx) : (Unit) ⊕ (Int) → Exit → AState → Prop
 | .inl _ => Into c (.exit 0) (mkS [] [])
 | .inr r => RetE TIx Tryz.f171 [] (I r)
def impl_Systemjoin_l1 (p : GSystem × Int × Int × Int) : Option ((Unit) ⊕ (Int)) :=
 match p with
 | (s0,a1,b2,g_17) =>
  if (decide (g_17 < s0.fSize)) = true then
   ((
    ((
     (impl_Systembelow (s0,a1,g_17)) >>= fun r_4_3 =>
     if r_4_3 = true then
      (impl_Systembelow (s0,b2,g_17)) >>= fun r_4_9 =>
      some ((!r_4_9))
     else
      some (true)
    ) : Option (Bool)) >>= fun v_19 =>
    if v_19 = true then
     some (.inl ())
    else
     (impl_Systemjoin_l0 (s0,a1,b2,g_17,true,0)) >>= fun least_30 =>
     if least_30 = true then
      some (.inr g_17)
     else
      some (.inl ())) : Option ((Unit) ⊕ (Int))) >>= fun fl => match fl with
   | .inl () =>
    impl_Systemjoin_l1 (s0,a1,b2,(wr (g_17 + 1)))
   | .inr r =>
    some (.inr r)
  else
   some (.inl ())
 partial_fixpoint
def M_impl_Systemjoin_l1 (p : GSystem × Int × Int × Int) (fl : (Unit) ⊕ (Int)) : Prop :=
 match p with
 | (s0,a1,b2,g_17) => ∀ c : Ctx,c.nt = 57 → WpL Tryz.prog c (cl (cl (cr (cl (cr B171))))) (impl_Systemjoin_F3 c fl) (mkS [(1,I a1),(2,I b2),(3,.ra 1 0),(7,I g_17)] [(1,bSystem s0)])
theorem impl_Systemjoin_l1_s : ∀ p r,impl_Systemjoin_l1 p = some r → M_impl_Systemjoin_l1 p r := by
 refine impl_Systemjoin_l1.partial_correctness M_impl_Systemjoin_l1 ?_
 rintro impl_Systemjoin_l1_f impl_Systemjoin_l1_ih ⟨s0,a1,b2,g_17⟩ r h
 intro c hc
 refine WpL.step ?_
 refine sN ?_
 refine rs0 hc 4 [(1,I a1),(2,I b2),(3,.ra 1 0),(7,I g_17),(13,.bool (decide (g_17 < s0.fSize)))] [(1,bSystem s0)] ?_
 rcases is h with ⟨hb_18,h⟩ | ⟨hb_18,h⟩
 ·refine cT ((decide (g_17 < s0.fSize))) hb_18 ?_
  refine sk ?_
  refine sN ?_
  obtain ⟨fl,hj_33,h⟩ := bsome h
  refine flw (impl_Systemjoin_F2 c s0 a1 b2 g_17 fl) ?_ (fun hF => ?_)
  ·replace h := hj_33
   refine bk 1 ?_
   refine sN ?_
   refine sN ?_
   obtain ⟨v_19,hj_20,h⟩ := bsome h
   refine Wp.into (x := .normal) (mkS [(1,I a1),(2,I b2),(3,.ra 1 0),(7,I g_17),(27,.bool v_19)] [(1,bSystem s0)]) ?_ ?_
   ·replace h := hj_20
    obtain ⟨r_4_3,hr_4_3,h⟩ := bsome h
    rcases is h with ⟨hb_4_0,h⟩ | ⟨hb_4_0,h⟩
    ·obtain ⟨r_4_9,hr_4_9,h⟩ := bsome h
     refine rg hc none [oN,oN,oN,oc (.bool r_4_3),oN,oN,oN,oN,oN,oc (.bool r_4_9),oN,oF] [(1,I a1),(2,I b2),(3,.ra 1 0),(7,I g_17),(27,.bool (!r_4_9))] [(1,bSystem s0)] (ai (impl_Systembelow_s _ _ hr_4_3) (ai bod_86 (ai (oi (.bool r_4_3)) (ar 4 (nF hb_4_0) (ai (impl_Systembelow_s _ _ hr_4_9) (ai bod_86 (ai (oi (.bool r_4_9)) (ar 2 (nF hb_4_0) trivial)))))))) ?_
     obtain rfl := os h
     exact Into.mk
    refine rg hc none [oN,oN,oN,oc (.bool r_4_3),oN,oN,o_,o_,o_,o_,o_,oT] [(1,I a1),(2,I b2),(3,.ra 1 0),(7,I g_17),(27,.bool true)] [(1,bSystem s0)] (ai (impl_Systembelow_s _ _ hr_4_3) (ai bod_86 (ai (oi (.bool r_4_3)) (ar 5 (neF (nT hb_4_0)) (ai (nT hb_4_0) trivial))))) ?_
    obtain rfl := os h
    exact Into.mk
   clear hj_20
   rcases is h with ⟨hb_21,h⟩ | ⟨hb_21,h⟩
   ·refine cT v_19 hb_21 ?_
    refine xt 1 ?_
    refine seqQ_exit ?_
    refine blockQ_hit ?_
    obtain rfl := os h
    exact iv []
   refine cF v_19 hb_21 ?_
   refine sk ?_
   refine rs0 hc 1 [(1,I a1),(2,I b2),(3,.ra 1 0),(7,I g_17),(8,.bool true)] [(1,bSystem s0)] ?_
   refine sN ?_
   refine rs0 hc 1 [(1,I a1),(2,I b2),(3,.ra 1 0),(7,I g_17),(8,.bool true),(9,I 0)] [(1,bSystem s0)] ?_
   refine bk 2 ?_
   obtain ⟨least_30,hl_31,h⟩ := bsome h
   have hL := impl_Systemjoin_l0_s _ _ hl_31 c hc
   refine lp ?_
   refine WpL.into (e := (.exit 2)) (mkS [(1,I a1),(2,I b2),(3,.ra 1 0),(7,I g_17),(8,.bool least_30)] [(1,bSystem s0)]) hL ?_
   refine blockQ_hit ?_
   refine rs0 hc 1 [(1,I a1),(2,I b2),(3,.ra 1 0),(7,I g_17),(55,.bool least_30)] [(1,bSystem s0)] ?_
   rcases is h with ⟨hb_32,h⟩ | ⟨hb_32,h⟩
   ·refine cT least_30 hb_32 ?_
    refine rs0 hc 2 [(6,I g_17)] [] ?_
    refine rt ?_
    obtain rfl := os h
    exact re [true]
   refine cF least_30 hb_32 ?_
   refine sk ?_
   obtain rfl := os h
   exact iv []
  rcases fl with ⟨⟩ | r
  ·refine Wp.into (x := .normal) (mkS [(1,I a1),(2,I b2),(3,.ra 1 0),(7,I g_17)] [(1,bSystem s0)]) hF ?_
   refine rg0 hc 3 [(1,I a1),(2,I b2),(3,.ra 1 0),(7,I (wr (g_17 + 1)))] [(1,bSystem s0)] ?_
   refine loopQ_norm ?_
   exact (impl_Systemjoin_l1_ih _ _ h c hc)
  refine Wp.mono hF ?_
  rintro _ _ ⟨rfl,hfin⟩
  obtain rfl := os h
  exact ⟨rfl,hfin⟩
 refine cF ((decide (g_17 < s0.fSize))) hb_18 ?_
 refine xt 0 ?_
 refine seqQ_exit ?_
 refine loopQ_exit ?_
 obtain rfl := os h
 exact iv []
def impl_Systemjoin (p : GSystem × Int × Int) : Option (Int) :=
 match p with
 | (s0,a1,b2) =>
  (impl_Systemjoin_l1 (s0,a1,b2,0)) >>= fun fl => match fl with
  | .inl () =>
   some (-1)
  | .inr r =>
   some r
def M_impl_Systemjoin (p : GSystem × Int × Int) (r : Int) : Prop :=
 match p with
 | (s0,a1,b2) => FnSound Tryz.prog 171 [aSystem s0,I a1,I b2] (I r) []
theorem impl_Systemjoin_s : ∀ p r,impl_Systemjoin p = some r → M_impl_Systemjoin p r := by
 rintro ⟨s0,a1,b2⟩ r h
 unfold impl_Systemjoin at h
 refine b0 Tryz.f171 B171 57 [(0,aSystem s0),(1,I a1),(2,I b2)] fun c hc => ?_
 refine rs hc none [some (.new 1),oN] [(1,I a1),(2,I b2),(3,.ra 1 0)] [(1,bSystem s0)] trivial ?_
 refine sN ?_
 refine rs0 hc 1 [(1,I a1),(2,I b2),(3,.ra 1 0),(7,I 0)] [(1,bSystem s0)] ?_
 refine bk 0 ?_
 obtain ⟨fl,hl_34,h⟩ := bsome h
 have hL := impl_Systemjoin_l1_s _ _ hl_34 c hc
 refine lp ?_
 rcases fl with ⟨⟩ | r
 ·refine WpL.into (e := (.exit 0)) (mkS [] []) hL ?_
  refine blockQ_hit ?_
  refine rs0 hc 1 [(6,I (-1))] [] ?_
  refine rt ?_
  obtain rfl := os h
  exact rq [true]
 refine WpL.mono hL ?_
 rintro _ _ ⟨rfl,hfin⟩
 obtain rfl := os h
 exact ⟨.inl rfl,hfin⟩
def impl_SystemlawsOf (p : GSystem × Int × Int × Int) : Option (Bool) :=
 match p with
 | (s0,a1,b2,c3) =>
  ((
   (impl_Systemplus (s0,a1,b2)) >>= fun r_1_4 =>
   (impl_Systemplus (s0,r_1_4,c3)) >>= fun r_1_6 =>
   (impl_Systemplus (s0,b2,c3)) >>= fun r_1_12 =>
   (impl_Systemplus (s0,a1,r_1_12)) >>= fun r_1_13 =>
   if (r_1_6 != r_1_13) = true then
    some (true)
   else
    (impl_Systemtimes (s0,a1,b2)) >>= fun r_1_20 =>
    (impl_Systemtimes (s0,r_1_20,c3)) >>= fun r_1_22 =>
    (impl_Systemtimes (s0,b2,c3)) >>= fun r_1_28 =>
    (impl_Systemtimes (s0,a1,r_1_28)) >>= fun r_1_29 =>
    some ((r_1_22 != r_1_29))
  ) : Option (Bool)) >>= fun v_1 =>
  if v_1 = true then
   some false
  else
   ((
    (impl_Systemplus (s0,b2,c3)) >>= fun r_3_5 =>
    (impl_Systemtimes (s0,a1,r_3_5)) >>= fun r_3_6 =>
    (impl_Systemtimes (s0,a1,b2)) >>= fun r_3_11 =>
    (impl_Systemtimes (s0,a1,c3)) >>= fun r_3_15 =>
    (impl_Systemplus (s0,r_3_11,r_3_15)) >>= fun r_3_16 =>
    if (r_3_6 != r_3_16) = true then
     some (true)
    else
     (impl_Systemplus (s0,a1,b2)) >>= fun r_3_23 =>
     (impl_Systemtimes (s0,r_3_23,c3)) >>= fun r_3_25 =>
     (impl_Systemtimes (s0,a1,c3)) >>= fun r_3_30 =>
     (impl_Systemtimes (s0,b2,c3)) >>= fun r_3_34 =>
     (impl_Systemplus (s0,r_3_30,r_3_34)) >>= fun r_3_35 =>
     some ((r_3_25 != r_3_35))
   ) : Option (Bool)) >>= fun v_4 =>
   if v_4 = true then
    some false
   else
    ((
     (impl_Systembelow (s0,a1,b2)) >>= fun r_5_3 =>
     if r_5_3 = true then
      (impl_Systembelow (s0,b2,c3)) >>= fun r_5_8 =>
      if r_5_8 = true then
       (impl_Systembelow (s0,a1,c3)) >>= fun r_5_14 =>
       some ((!r_5_14))
      else
       some (false)
     else
      some (false)
    ) : Option (Bool)) >>= fun v_7 =>
    if v_7 = true then
     some false
    else
     ((
      (impl_Systembelow (s0,a1,b2)) >>= fun r_7_3 =>
      if r_7_3 = true then
       (impl_Systemplus (s0,a1,c3)) >>= fun r_7_10 =>
       (impl_Systemplus (s0,b2,c3)) >>= fun r_7_14 =>
       (impl_Systembelow (s0,r_7_10,r_7_14)) >>= fun r_7_15 =>
       if r_7_15 = true then
        (impl_Systemtimes (s0,a1,c3)) >>= fun r_7_21 =>
        (impl_Systemtimes (s0,b2,c3)) >>= fun r_7_25 =>
        (impl_Systembelow (s0,r_7_21,r_7_25)) >>= fun r_7_26 =>
        if r_7_26 = true then
         (impl_Systemtimes (s0,c3,a1)) >>= fun r_7_33 =>
         (impl_Systemtimes (s0,c3,b2)) >>= fun r_7_37 =>
         (impl_Systembelow (s0,r_7_33,r_7_37)) >>= fun r_7_38 =>
         some (r_7_38)
        else
         some (false)
       else
        some (false)
      else
       some (true)
     ) : Option (Bool)) >>= fun v_10 =>
     some v_10
def M_impl_SystemlawsOf (p : GSystem × Int × Int × Int) (r : Bool) : Prop :=
 match p with
 | (s0,a1,b2,c3) => FnSound Tryz.prog 172 [aSystem s0,I a1,I b2,I c3] (.bool r) []
theorem impl_SystemlawsOf_s : ∀ p r,impl_SystemlawsOf p = some r → M_impl_SystemlawsOf p r := by
 rintro ⟨s0,a1,b2,c3⟩ r h
 unfold impl_SystemlawsOf at h
 refine b0 Tryz.f172 B172 137 [(0,aSystem s0),(1,I a1),(2,I b2),(3,I c3)] fun c hc => ?_
 refine rs hc none [some (.new 1),oN] [(1,I a1),(2,I b2),(3,I c3),(4,.ra 1 0)] [(1,bSystem s0)] trivial ?_
 refine sN ?_
 refine sN ?_
 obtain ⟨v_1,hj_2,h⟩ := bsome h
 refine Wp.into (x := .normal) (mkS [(1,I a1),(2,I b2),(3,I c3),(4,.ra 1 0),(40,.bool v_1)] [(1,bSystem s0)]) ?_ ?_
 ·replace h := hj_2
  obtain ⟨r_1_4,hr_1_4,h⟩ := bsome h
  obtain ⟨r_1_6,hr_1_6,h⟩ := bsome h
  obtain ⟨r_1_12,hr_1_12,h⟩ := bsome h
  obtain ⟨r_1_13,hr_1_13,h⟩ := bsome h
  rcases is h with ⟨hb_1_0,h⟩ | ⟨hb_1_0,h⟩
  ·refine rg hc ah5_1 [oN,oN,oN,oN,oc (I r_1_4),oN,oc (I r_1_6),oN,oN,oN,oN,oN,oc (I r_1_12),oc (I r_1_13),oN,oN,o_,o_,o_,o_,o_,o_,o_,o_,o_,o_,o_,o_,o_,o_,o_,oT] [(1,I a1),(2,I b2),(3,I c3),(4,.ra 1 0),(40,.bool true)] [(1,bSystem s0)] (ai (impl_Systemplus_s _ _ hr_1_4) (ai bod_169 (ai (oi (I r_1_4)) (ai (impl_Systemplus_s _ _ hr_1_6) (ai bod_169 (ai (oi (I r_1_6)) (ai (impl_Systemplus_s _ _ hr_1_12) (ai bod_169 (ai (oi (I r_1_12)) (ai (impl_Systemplus_s _ _ hr_1_13) (ai bod_169 (ai (oi (I r_1_13)) (ar 15 (neF hb_1_0) (ai hb_1_0 trivial)))))))))))))) ?_
   obtain rfl := os h
   exact Into.mk
  obtain ⟨r_1_20,hr_1_20,h⟩ := bsome h
  obtain ⟨r_1_22,hr_1_22,h⟩ := bsome h
  obtain ⟨r_1_28,hr_1_28,h⟩ := bsome h
  obtain ⟨r_1_29,hr_1_29,h⟩ := bsome h
  refine rg hc ah5_1 [oN,oN,oN,oN,oc (I r_1_4),oN,oc (I r_1_6),oN,oN,oN,oN,oN,oc (I r_1_12),oc (I r_1_13),oN,oN,oN,oN,oN,oN,oc (I r_1_20),oN,oc (I r_1_22),oN,oN,oN,oN,oN,oc (I r_1_28),oc (I r_1_29),oN,oF] [(1,I a1),(2,I b2),(3,I c3),(4,.ra 1 0),(40,.bool (r_1_22 != r_1_29))] [(1,bSystem s0)] (ai (impl_Systemplus_s _ _ hr_1_4) (ai bod_169 (ai (oi (I r_1_4)) (ai (impl_Systemplus_s _ _ hr_1_6) (ai bod_169 (ai (oi (I r_1_6)) (ai (impl_Systemplus_s _ _ hr_1_12) (ai bod_169 (ai (oi (I r_1_12)) (ai (impl_Systemplus_s _ _ hr_1_13) (ai bod_169 (ai (oi (I r_1_13)) (ar 5 hb_1_0 (ai (impl_Systemtimes_s _ _ hr_1_20) (ai bod_170 (ai (oi (I r_1_20)) (ar 2 hb_1_0 (ai (impl_Systemtimes_s _ _ hr_1_22) (ai bod_170 (ai (oi (I r_1_22)) (ar 6 hb_1_0 (ai (impl_Systemtimes_s _ _ hr_1_28) (ai bod_170 (ai (oi (I r_1_28)) (ai hb_1_0 (ai (impl_Systemtimes_s _ _ hr_1_29) (ai bod_170 (ai (oi (I r_1_29)) (ar 2 hb_1_0 trivial))))))))))))))))))))))))))))) ?_
  obtain rfl := os h
  exact Into.mk
 clear hj_2
 rcases is h with ⟨hb_3,h⟩ | ⟨hb_3,h⟩
 ·refine cT v_1 hb_3 ?_
  refine rs0 hc 1 [(8,.bool false)] [] ?_
  refine rt ?_
  obtain rfl := os h
  exact rq [true]
 refine cF v_1 hb_3 ?_
 refine sk ?_
 refine sN ?_
 refine sN ?_
 obtain ⟨v_4,hj_5,h⟩ := bsome h
 refine Wp.into (x := .normal) (mkS [(1,I a1),(2,I b2),(3,I c3),(4,.ra 1 0),(78,.bool v_4)] [(1,bSystem s0)]) ?_ ?_
 ·replace h := hj_5
  obtain ⟨r_3_5,hr_3_5,h⟩ := bsome h
  obtain ⟨r_3_6,hr_3_6,h⟩ := bsome h
  obtain ⟨r_3_11,hr_3_11,h⟩ := bsome h
  obtain ⟨r_3_15,hr_3_15,h⟩ := bsome h
  obtain ⟨r_3_16,hr_3_16,h⟩ := bsome h
  rcases is h with ⟨hb_3_0,h⟩ | ⟨hb_3_0,h⟩
  ·refine rg hc ah5_2 [oN,oN,oN,oN,oN,oc (I r_3_5),oc (I r_3_6),oN,oN,oN,oN,oc (I r_3_11),oN,oN,oN,oc (I r_3_15),oc (I r_3_16),oN,oN,o_,o_,o_,o_,o_,o_,o_,o_,o_,o_,o_,o_,o_,o_,o_,o_,o_,o_,oT] [(1,I a1),(2,I b2),(3,I c3),(4,.ra 1 0),(78,.bool true)] [(1,bSystem s0)] (ai (impl_Systemplus_s _ _ hr_3_5) (ai bod_169 (ai (oi (I r_3_5)) (ai (impl_Systemtimes_s _ _ hr_3_6) (ai bod_170 (ai (oi (I r_3_6)) (ai (impl_Systemtimes_s _ _ hr_3_11) (ai bod_170 (ai (oi (I r_3_11)) (ai (impl_Systemtimes_s _ _ hr_3_15) (ai bod_170 (ai (oi (I r_3_15)) (ai (impl_Systemplus_s _ _ hr_3_16) (ai bod_169 (ai (oi (I r_3_16)) (ar 18 (neF hb_3_0) (ai hb_3_0 trivial))))))))))))))))) ?_
   obtain rfl := os h
   exact Into.mk
  obtain ⟨r_3_23,hr_3_23,h⟩ := bsome h
  obtain ⟨r_3_25,hr_3_25,h⟩ := bsome h
  obtain ⟨r_3_30,hr_3_30,h⟩ := bsome h
  obtain ⟨r_3_34,hr_3_34,h⟩ := bsome h
  obtain ⟨r_3_35,hr_3_35,h⟩ := bsome h
  refine rg hc ah5_2 [oN,oN,oN,oN,oN,oc (I r_3_5),oc (I r_3_6),oN,oN,oN,oN,oc (I r_3_11),oN,oN,oN,oc (I r_3_15),oc (I r_3_16),oN,oN,oN,oN,oN,oN,oc (I r_3_23),oN,oc (I r_3_25),oN,oN,oN,oN,oc (I r_3_30),oN,oN,oN,oc (I r_3_34),oc (I r_3_35),oN,oF] [(1,I a1),(2,I b2),(3,I c3),(4,.ra 1 0),(78,.bool (r_3_25 != r_3_35))] [(1,bSystem s0)] (ai (impl_Systemplus_s _ _ hr_3_5) (ai bod_169 (ai (oi (I r_3_5)) (ai (impl_Systemtimes_s _ _ hr_3_6) (ai bod_170 (ai (oi (I r_3_6)) (ai (impl_Systemtimes_s _ _ hr_3_11) (ai bod_170 (ai (oi (I r_3_11)) (ai (impl_Systemtimes_s _ _ hr_3_15) (ai bod_170 (ai (oi (I r_3_15)) (ai (impl_Systemplus_s _ _ hr_3_16) (ai bod_169 (ai (oi (I r_3_16)) (ar 5 hb_3_0 (ai (impl_Systemplus_s _ _ hr_3_23) (ai bod_169 (ai (oi (I r_3_23)) (ar 2 hb_3_0 (ai (impl_Systemtimes_s _ _ hr_3_25) (ai bod_170 (ai (oi (I r_3_25)) (ar 5 hb_3_0 (ai (impl_Systemtimes_s _ _ hr_3_30) (ai bod_170 (ai (oi (I r_3_30)) (ar 4 hb_3_0 (ai (impl_Systemtimes_s _ _ hr_3_34) (ai bod_170 (ai (oi (I r_3_34)) (ai hb_3_0 (ai (impl_Systemplus_s _ _ hr_3_35) (ai bod_169 (ai (oi (I r_3_35)) (ar 2 hb_3_0 trivial)))))))))))))))))))))))))))))))))))) ?_
  obtain rfl := os h
  exact Into.mk
 clear hj_5
 rcases is h with ⟨hb_6,h⟩ | ⟨hb_6,h⟩
 ·refine cT v_4 hb_6 ?_
  refine rs0 hc 1 [(8,.bool false)] [] ?_
  refine rt ?_
  obtain rfl := os h
  exact rq [true]
 refine cF v_4 hb_6 ?_
 refine sk ?_
 refine sN ?_
 refine sN ?_
 obtain ⟨v_7,hj_8,h⟩ := bsome h
 refine Wp.into (x := .normal) (mkS [(1,I a1),(2,I b2),(3,I c3),(4,.ra 1 0),(95,.bool v_7)] [(1,bSystem s0)]) ?_ ?_
 ·replace h := hj_8
  obtain ⟨r_5_3,hr_5_3,h⟩ := bsome h
  rcases is h with ⟨hb_5_0,h⟩ | ⟨hb_5_0,h⟩
  ·obtain ⟨r_5_8,hr_5_8,h⟩ := bsome h
   rcases is h with ⟨hb_5_1,h⟩ | ⟨hb_5_1,h⟩
   ·obtain ⟨r_5_14,hr_5_14,h⟩ := bsome h
    refine rg hc none [oN,oN,oN,oc (.bool r_5_3),oN,oN,oN,oN,oc (.bool r_5_8),oT,oN,oN,oN,oN,oc (.bool r_5_14),oN,oT] [(1,I a1),(2,I b2),(3,I c3),(4,.ra 1 0),(95,.bool (!r_5_14))] [(1,bSystem s0)] (ai (impl_Systembelow_s _ _ hr_5_3) (ai bod_86 (ai (oi (.bool r_5_3)) (ar 4 hb_5_0 (ai (impl_Systembelow_s _ _ hr_5_8) (ai bod_86 (ai (oi (.bool r_5_8)) (ai hb_5_0 (ar 4 hb_5_1 (ai (impl_Systembelow_s _ _ hr_5_14) (ai bod_86 (ai (oi (.bool r_5_14)) (ar 2 hb_5_1 trivial))))))))))))) ?_
    obtain rfl := os h
    exact Into.mk
   refine rg hc none [oN,oN,oN,oc (.bool r_5_3),oN,oN,oN,oN,oc (.bool r_5_8),oT,oN,o_,o_,o_,o_,o_,oF] [(1,I a1),(2,I b2),(3,I c3),(4,.ra 1 0),(95,.bool false)] [(1,bSystem s0)] (ai (impl_Systembelow_s _ _ hr_5_3) (ai bod_86 (ai (oi (.bool r_5_3)) (ar 4 hb_5_0 (ai (impl_Systembelow_s _ _ hr_5_8) (ai bod_86 (ai (oi (.bool r_5_8)) (ai hb_5_0 (ar 5 (neT hb_5_1) (ai hb_5_1 trivial)))))))))) ?_
   obtain rfl := os h
   exact Into.mk
  refine rg hc none [oN,oN,oN,oc (.bool r_5_3),oN,o_,o_,o_,o_,oF,oN,o_,o_,o_,o_,o_,oF] [(1,I a1),(2,I b2),(3,I c3),(4,.ra 1 0),(95,.bool false)] [(1,bSystem s0)] (ai (impl_Systembelow_s _ _ hr_5_3) (ai bod_86 (ai (oi (.bool r_5_3)) (ar 4 (neT hb_5_0) (ai hb_5_0 (ar 5 (neT (rfl : false = false)) (ai (rfl : false = false) trivial))))))) ?_
  obtain rfl := os h
  exact Into.mk
 clear hj_8
 rcases is h with ⟨hb_9,h⟩ | ⟨hb_9,h⟩
 ·refine cT v_7 hb_9 ?_
  refine rs0 hc 1 [(8,.bool false)] [] ?_
  refine rt ?_
  obtain rfl := os h
  exact rq [true]
 refine cF v_7 hb_9 ?_
 refine sk ?_
 refine sN ?_
 obtain ⟨v_10,hj_11,h⟩ := bsome h
 refine Wp.into (x := .normal) (mkS [(8,.bool v_10)] []) ?_ ?_
 ·replace h := hj_11
  obtain ⟨r_7_3,hr_7_3,h⟩ := bsome h
  rcases is h with ⟨hb_7_0,h⟩ | ⟨hb_7_0,h⟩
  ·obtain ⟨r_7_10,hr_7_10,h⟩ := bsome h
   obtain ⟨r_7_14,hr_7_14,h⟩ := bsome h
   obtain ⟨r_7_15,hr_7_15,h⟩ := bsome h
   rcases is h with ⟨hb_7_1,h⟩ | ⟨hb_7_1,h⟩
   ·obtain ⟨r_7_21,hr_7_21,h⟩ := bsome h
    obtain ⟨r_7_25,hr_7_25,h⟩ := bsome h
    obtain ⟨r_7_26,hr_7_26,h⟩ := bsome h
    rcases is h with ⟨hb_7_2,h⟩ | ⟨hb_7_2,h⟩
    ·obtain ⟨r_7_33,hr_7_33,h⟩ := bsome h
     obtain ⟨r_7_37,hr_7_37,h⟩ := bsome h
     obtain ⟨r_7_38,hr_7_38,h⟩ := bsome h
     refine rg hc ah5_3 [oN,oN,oN,oc (.bool r_7_3),oN,oN,oN,oN,oN,oN,oc (I r_7_10),oN,oN,oN,oc (I r_7_14),oc (.bool r_7_15),oN,oN,oN,oN,oN,oc (I r_7_21),oN,oN,oN,oc (I r_7_25),oc (.bool r_7_26),oT,oN,oN,oN,oN,oN,oc (I r_7_33),oN,oN,oN,oc (I r_7_37),oc (.bool r_7_38),oT,oF,oN] [(8,.bool r_7_38)] [] (ai (impl_Systembelow_s _ _ hr_7_3) (ai bod_86 (ai (oi (.bool r_7_3)) (ar 5 (nF hb_7_0) (ai (impl_Systemplus_s _ _ hr_7_10) (ai bod_169 (ai (oi (I r_7_10)) (ar 4 (nF hb_7_0) (ai (impl_Systemplus_s _ _ hr_7_14) (ai bod_169 (ai (oi (I r_7_14)) (ai (nF hb_7_0) (ai (impl_Systembelow_s _ _ hr_7_15) (ai bod_86 (ai (oi (.bool r_7_15)) (ai (nF hb_7_0) (ar 5 hb_7_1 (ai (impl_Systemtimes_s _ _ hr_7_21) (ai bod_170 (ai (oi (I r_7_21)) (ar 4 hb_7_1 (ai (impl_Systemtimes_s _ _ hr_7_25) (ai bod_170 (ai (oi (I r_7_25)) (ai hb_7_1 (ai (impl_Systembelow_s _ _ hr_7_26) (ai bod_86 (ai (oi (.bool r_7_26)) (ai (nF hb_7_0) (ai hb_7_1 (ai (nF hb_7_0) (ar 5 hb_7_2 (ai (impl_Systemtimes_s _ _ hr_7_33) (ai bod_170 (ai (oi (I r_7_33)) (ar 4 hb_7_2 (ai (impl_Systemtimes_s _ _ hr_7_37) (ai bod_170 (ai (oi (I r_7_37)) (ai hb_7_2 (ai (impl_Systembelow_s _ _ hr_7_38) (ai bod_86 (ai (oi (.bool r_7_38)) (ai (nF hb_7_0) (ai hb_7_2 (ai (nF hb_7_0) trivial)))))))))))))))))))))))))))))))))))))))))))))) ?_
     obtain rfl := os h
     exact Into.mk
    refine rg hc ah5_3 [oN,oN,oN,oc (.bool r_7_3),oN,oN,oN,oN,oN,oN,oc (I r_7_10),oN,oN,oN,oc (I r_7_14),oc (.bool r_7_15),oN,oN,oN,oN,oN,oc (I r_7_21),oN,oN,oN,oc (I r_7_25),oc (.bool r_7_26),oT,oN,o_,o_,o_,o_,o_,o_,o_,o_,o_,o_,oF,oF,oN] [(8,.bool false)] [] (ai (impl_Systembelow_s _ _ hr_7_3) (ai bod_86 (ai (oi (.bool r_7_3)) (ar 5 (nF hb_7_0) (ai (impl_Systemplus_s _ _ hr_7_10) (ai bod_169 (ai (oi (I r_7_10)) (ar 4 (nF hb_7_0) (ai (impl_Systemplus_s _ _ hr_7_14) (ai bod_169 (ai (oi (I r_7_14)) (ai (nF hb_7_0) (ai (impl_Systembelow_s _ _ hr_7_15) (ai bod_86 (ai (oi (.bool r_7_15)) (ai (nF hb_7_0) (ar 5 hb_7_1 (ai (impl_Systemtimes_s _ _ hr_7_21) (ai bod_170 (ai (oi (I r_7_21)) (ar 4 hb_7_1 (ai (impl_Systemtimes_s _ _ hr_7_25) (ai bod_170 (ai (oi (I r_7_25)) (ai hb_7_1 (ai (impl_Systembelow_s _ _ hr_7_26) (ai bod_86 (ai (oi (.bool r_7_26)) (ai (nF hb_7_0) (ai hb_7_1 (ai (nF hb_7_0) (ar 10 (neT hb_7_2) (ai (nF hb_7_0) (ai hb_7_2 (ai (nF hb_7_0) trivial))))))))))))))))))))))))))))))))))) ?_
    obtain rfl := os h
    exact Into.mk
   refine rg hc ah5_3 [oN,oN,oN,oc (.bool r_7_3),oN,oN,oN,oN,oN,oN,oc (I r_7_10),oN,oN,oN,oc (I r_7_14),oc (.bool r_7_15),oN,o_,o_,o_,o_,o_,o_,o_,o_,o_,o_,oF,oN,o_,o_,o_,o_,o_,o_,o_,o_,o_,o_,oF,oF,oN] [(8,.bool false)] [] (ai (impl_Systembelow_s _ _ hr_7_3) (ai bod_86 (ai (oi (.bool r_7_3)) (ar 5 (nF hb_7_0) (ai (impl_Systemplus_s _ _ hr_7_10) (ai bod_169 (ai (oi (I r_7_10)) (ar 4 (nF hb_7_0) (ai (impl_Systemplus_s _ _ hr_7_14) (ai bod_169 (ai (oi (I r_7_14)) (ai (nF hb_7_0) (ai (impl_Systembelow_s _ _ hr_7_15) (ai bod_86 (ai (oi (.bool r_7_15)) (ai (nF hb_7_0) (ar 10 (neT hb_7_1) (ai (nF hb_7_0) (ai hb_7_1 (ai (nF hb_7_0) (ar 10 (neT (rfl : false = false)) (ai (nF hb_7_0) (ai (rfl : false = false) (ai (nF hb_7_0) trivial)))))))))))))))))))))))) ?_
   obtain rfl := os h
   exact Into.mk
  refine rg hc ah5_3 [oN,oN,oN,oc (.bool r_7_3),oN,oN,o_,o_,o_,o_,o_,o_,o_,o_,o_,o_,o_,o_,o_,o_,o_,o_,o_,o_,o_,o_,o_,o_,o_,o_,o_,o_,o_,o_,o_,o_,o_,o_,o_,o_,oT,oN] [(8,.bool true)] [] (ai (impl_Systembelow_s _ _ hr_7_3) (ai bod_86 (ai (oi (.bool r_7_3)) (ar 14 (neF (nT hb_7_0)) (ai (nT hb_7_0) trivial))))) ?_
  obtain rfl := os h
  exact Into.mk
 clear hj_11
 refine rt ?_
 obtain rfl := os h
 exact rq [true]
def impl_IsSystem_F1 (c : Ctx) (s0 : GSystem) : (Unit) ⊕ (Bool) → Exit → AState → Prop
 | .inl _ => Into c (.exit 0) (mkS [(1,.ra 1 0),(3,I s0.fSize)] [(1,bSystem s0)])
 | .inr r => RetE TIx Tryz.f109 [] (.bool r)
end Go.Am
