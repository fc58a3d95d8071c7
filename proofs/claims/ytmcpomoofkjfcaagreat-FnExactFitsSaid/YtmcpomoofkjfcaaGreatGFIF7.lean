/- Functions of the program as pure functions,and that it computes them. Printed by a program of mine (gen.py). -/
import Derived.Test.YtmcpomoofkjfcaaGreatGFIF6
set_option linter.unusedVariables false
set_option linter.unusedSimpArgs false
set_option maxRecDepth 100000
namespace Go.Am
open Go Go.Proofs
def slices_IndexFunc_Lint_Kimpl_isContext_c1_l0 (p : (List (List Int)) × GSystem × Int) : Option ((Unit) ⊕ (Int)) :=
 match p with
 | (s0,clo1_0,w_3) =>
  if (decide (w_3 < (s0.length : Int))) = true then
   (idx s0 w_3) >>= fun e_4_3 =>
   (impl_isContext_c1 (e_4_3,clo1_0)) >>= fun r_4_5 =>
   if r_4_5 = true then
    some (.inr w_3)
   else
    slices_IndexFunc_Lint_Kimpl_isContext_c1_l0 (s0,clo1_0,(wr (w_3 + 1)))
  else
   some (.inl ())
 partial_fixpoint
def M_slices_IndexFunc_Lint_Kimpl_isContext_c1_l0 (p : (List (List Int)) × GSystem × Int) (fl : (Unit) ⊕ (Int)) : Prop :=
 match p with
 | (s0,clo1_0,w_3) => ∀ c : Ctx,c.nt = 19 → WpL Tryz.prog c (cl (cl (cr (cl (cr B240))))) (slices_IndexFunc_Lint_Kimpl_isContext_c1_F1 c fl) (mkS [(0,sL s0),(1,.fn 209 [.ptr [I clo1_0.fSize,sI clo1_0.fPlus,sI clo1_0.fTimes,sB clo1_0.fBelow] 0]),(7,I (s0.length : Int)),(8,I w_3)] [])
theorem slices_IndexFunc_Lint_Kimpl_isContext_c1_l0_s : ∀ p r,slices_IndexFunc_Lint_Kimpl_isContext_c1_l0 p = some r → M_slices_IndexFunc_Lint_Kimpl_isContext_c1_l0 p r := by
 refine slices_IndexFunc_Lint_Kimpl_isContext_c1_l0.partial_correctness M_slices_IndexFunc_Lint_Kimpl_isContext_c1_l0 ?_
 rintro slices_IndexFunc_Lint_Kimpl_isContext_c1_l0_f slices_IndexFunc_Lint_Kimpl_isContext_c1_l0_ih ⟨s0,clo1_0,w_3⟩ r h
 intro c hc
 refine WpL.step ?_
 refine rs0 hc 1 [(0,sL s0),(1,.fn 209 [.ptr [I clo1_0.fSize,sI clo1_0.fPlus,sI clo1_0.fTimes,sB clo1_0.fBelow] 0]),(7,I (s0.length : Int)),(8,I w_3),(9,.bool (decide (w_3 < (s0.length : Int))))] [] ?_
 refine sN ?_
 rcases is h with ⟨hb_4,h⟩ | ⟨hb_4,h⟩
 ·refine cT ((decide (w_3 < (s0.length : Int)))) hb_4 ?_
  refine sk ?_
  refine sN ?_
  refine bk 1 ?_
  refine rs0 hc 2 [(0,sL s0),(1,.fn 209 [.ptr [I clo1_0.fSize,sI clo1_0.fPlus,sI clo1_0.fTimes,sB clo1_0.fBelow] 0]),(5,I w_3),(7,I (s0.length : Int)),(8,I w_3)] [] ?_
  obtain ⟨e_4_3,hi_4_3,h⟩ := bsome h
  obtain ⟨r_4_5,hr_4_5,h⟩ := bsome h
  refine rs hc none [oN,oN,oN,some (.el (sI e_4_3)),oN,oc (.bool r_4_5)] [(0,sL s0),(1,.fn 209 [.ptr [I clo1_0.fSize,sI clo1_0.fPlus,sI clo1_0.fTimes,sB clo1_0.fBelow] 0]),(5,I w_3),(7,I (s0.length : Int)),(8,I w_3),(16,.bool r_4_5)] [] (ai (idx_sl (enc := LI_s) (x := sI e_4_3) hi_4_3 (eq_LI_s e_4_3)) (ai (impl_isContext_c1_s _ _ hr_4_5) (ai bod_209 (ai (oi (.bool r_4_5)) trivial)))) ?_
  rcases is h with ⟨hb_5,h⟩ | ⟨hb_5,h⟩
  ·refine cT r_4_5 hb_5 ?_
   refine rs0 hc 2 [(4,I w_3)] [] ?_
   refine rt ?_
   obtain rfl := os h
   exact re [true]
  refine cF r_4_5 hb_5 ?_
  refine sk ?_
  refine rg0 hc 2 [(0,sL s0),(1,.fn 209 [.ptr [I clo1_0.fSize,sI clo1_0.fPlus,sI clo1_0.fTimes,sB clo1_0.fBelow] 0]),(7,I (s0.length : Int)),(8,I (wr (w_3 + 1)))] [] ?_
  refine loopQ_norm ?_
  exact (slices_IndexFunc_Lint_Kimpl_isContext_c1_l0_ih _ _ h c hc)
 refine cF ((decide (w_3 < (s0.length : Int)))) hb_4 ?_
 refine xt 0 ?_
 refine seqQ_exit ?_
 refine loopQ_exit ?_
 obtain rfl := os h
 exact iv []
def slices_IndexFunc_Lint_Kimpl_isContext_c1 (p : (List (List Int)) × GSystem) : Option (Int) :=
 match p with
 | (s0,clo1_0) =>
  (slices_IndexFunc_Lint_Kimpl_isContext_c1_l0 (s0,clo1_0,0)) >>= fun fl => match fl with
  | .inl () =>
   some (-1)
  | .inr r =>
   some r
def M_slices_IndexFunc_Lint_Kimpl_isContext_c1 (p : (List (List Int)) × GSystem) (r : Int) : Prop :=
 match p with
 | (s0,clo1_0) => FnSound Tryz.prog 240 [sL s0,.fn 209 [.ptr [I clo1_0.fSize,sI clo1_0.fPlus,sI clo1_0.fTimes,sB clo1_0.fBelow] 0]] (I r) []
theorem slices_IndexFunc_Lint_Kimpl_isContext_c1_s : ∀ p r,slices_IndexFunc_Lint_Kimpl_isContext_c1 p = some r → M_slices_IndexFunc_Lint_Kimpl_isContext_c1 p r := by
 rintro ⟨s0,clo1_0⟩ r h
 unfold slices_IndexFunc_Lint_Kimpl_isContext_c1 at h
 refine b0 Tryz.f240 B240 19 [(0,sL s0),(1,.fn 209 [.ptr [I clo1_0.fSize,sI clo1_0.fPlus,sI clo1_0.fTimes,sB clo1_0.fBelow] 0])] fun c hc => ?_
 refine rs0 hc 1 [(0,sL s0),(1,.fn 209 [.ptr [I clo1_0.fSize,sI clo1_0.fPlus,sI clo1_0.fTimes,sB clo1_0.fBelow] 0])] [] ?_
 refine sN ?_
 refine rs hc none [oN,some (.eqv (.no) ⟨[(7,I (s0.length : Int))],[],[]⟩),oN] [(0,sL s0),(1,.fn 209 [.ptr [I clo1_0.fSize,sI clo1_0.fPlus,sI clo1_0.fTimes,sB clo1_0.fBelow] 0]),(7,I (s0.length : Int)),(8,I 0)] [] (ai (lenT (d := 7) LI_s s0) trivial) ?_
 refine bk 0 ?_
 obtain ⟨fl,hl_6,h⟩ := bsome h
 have hL := slices_IndexFunc_Lint_Kimpl_isContext_c1_l0_s _ _ hl_6 c hc
 refine lp ?_
 rcases fl with ⟨⟩ | r
 ·refine WpL.into (e := (.exit 0)) (mkS [] []) hL ?_
  refine blockQ_hit ?_
  refine rs0 hc 1 [(4,I (-1))] [] ?_
  refine rt ?_
  obtain rfl := os h
  exact rq [true]
 refine WpL.mono hL ?_
 rintro _ _ ⟨rfl,hfin⟩
 obtain rfl := os h
 exact ⟨.inl rfl,hfin⟩
def slices_ContainsFunc_Lint_Kimpl_isContext_c1 (p : (List (List Int)) × GSystem) : Option (Bool) :=
 match p with
 | (s0,clo1_0) =>
  (slices_IndexFunc_Lint_Kimpl_isContext_c1 (s0,clo1_0)) >>= fun r_1_2 =>
  some (decide (r_1_2 ≥ 0))
def M_slices_ContainsFunc_Lint_Kimpl_isContext_c1 (p : (List (List Int)) × GSystem) (r : Bool) : Prop :=
 match p with
 | (s0,clo1_0) => FnSound Tryz.prog 208 [sL s0,.fn 209 [.ptr [I clo1_0.fSize,sI clo1_0.fPlus,sI clo1_0.fTimes,sB clo1_0.fBelow] 0]] (.bool r) []
theorem slices_ContainsFunc_Lint_Kimpl_isContext_c1_s : ∀ p r,slices_ContainsFunc_Lint_Kimpl_isContext_c1 p = some r → M_slices_ContainsFunc_Lint_Kimpl_isContext_c1 p r := by
 rintro ⟨s0,clo1_0⟩ r h
 unfold slices_ContainsFunc_Lint_Kimpl_isContext_c1 at h
 refine b0 Tryz.f208 B208 9 [(0,sL s0),(1,.fn 209 [.ptr [I clo1_0.fSize,sI clo1_0.fPlus,sI clo1_0.fTimes,sB clo1_0.fBelow] 0])] fun c hc => ?_
 refine rs0 hc 1 [(0,sL s0),(1,.fn 209 [.ptr [I clo1_0.fSize,sI clo1_0.fPlus,sI clo1_0.fTimes,sB clo1_0.fBelow] 0])] [] ?_
 obtain ⟨r_1_2,hr_1_2,h⟩ := bsome h
 refine rs hc none [oN,oN,oc (I r_1_2),oN,oN] [(4,.bool (decide (r_1_2 ≥ 0)))] [] (ai (slices_IndexFunc_Lint_Kimpl_isContext_c1_s _ _ hr_1_2) (ai bod_240 (ai (oi (I r_1_2)) trivial))) ?_
 refine rt ?_
 obtain rfl := os h
 exact rq [true]
def impl_isContext (p : GSystem × (List (List Int))) : Option (Bool) :=
 match p with
 | (s0,ctx1) =>
  ((
   if (decide ((ctx1.length : Int) ≤ 8)) = true then
    (slices_ContainsFunc_Lint_Kimpl_isContext_c1 (ctx1,s0)) >>= fun r_1_6 =>
    some ((!r_1_6))
   else
    some (false)
  ) : Option (Bool)) >>= fun v_1 =>
  some v_1
def M_impl_isContext (p : GSystem × (List (List Int))) (r : Bool) : Prop :=
 match p with
 | (s0,ctx1) => FnSound Tryz.prog 154 [aSystem s0,sL ctx1] (.bool r) []
theorem impl_isContext_s : ∀ p r,impl_isContext p = some r → M_impl_isContext p r := by
 rintro ⟨s0,ctx1⟩ r h
 unfold impl_isContext at h
 refine b0 Tryz.f154 B154 14 [(0,aSystem s0),(1,sL ctx1)] fun c hc => ?_
 refine rs hc none [some (.new 1),oN] [(1,sL ctx1),(2,.ra 1 0)] [(1,bSystem s0)] trivial ?_
 refine sN ?_
 obtain ⟨v_1,hj_2,h⟩ := bsome h
 refine Wp.into (x := .normal) (mkS [(4,.bool v_1)] []) ?_ ?_
 ·replace h := hj_2
  rcases is h with ⟨hb_1_0,h⟩ | ⟨hb_1_0,h⟩
  ·obtain ⟨r_1_6,hr_1_6,h⟩ := bsome h
   refine rg hc none [oN,some (.eqv (.no) ⟨[(6,I (ctx1.length : Int))],[],[]⟩),oN,oN,oN,oN,oc (.bool r_1_6),oN,oT,oN] [(4,.bool (!r_1_6))] [] (ai (lenT (d := 6) LI_s ctx1) (ar 3 hb_1_0 (ai (slices_ContainsFunc_Lint_Kimpl_isContext_c1_s _ _ hr_1_6) (ai bod_208 (ai (Or.inr rfl : ([1] : List Nat) = [] ∨ noSh (.bool r_1_6) = true) (ar 2 hb_1_0 trivial)))))) ?_
   obtain rfl := os h
   exact Into.mk
  refine rg hc none [oN,some (.eqv (.no) ⟨[(6,I (ctx1.length : Int))],[],[]⟩),oN,oN,o_,o_,o_,o_,oF,oN] [(4,.bool false)] [] (ai (lenT (d := 6) LI_s ctx1) (ar 4 (neT hb_1_0) (ai hb_1_0 trivial))) ?_
  obtain rfl := os h
  exact Into.mk
 clear hj_2
 refine rt ?_
 obtain rfl := os h
 exact rq [true]
def impl_formOf (op0 : Int) : Option (GForm × Bool) :=
  (impl_within (op0,0,12)) >>= fun r_1_1 =>
  if r_1_1 = true then
   (idx [(GForm.mk (ByteArray.mk #[120]) 0 false false),(GForm.mk ByteArray.empty 0 false false),(GForm.mk (ByteArray.mk #[97,100,100]) 2 false false),(GForm.mk (ByteArray.mk #[105,102]) 3 false false),(GForm.mk (ByteArray.mk #[112,97,105,114]) 2 false false),(GForm.mk (ByteArray.mk #[115,112,108,105,116]) 2 true false),(GForm.mk (ByteArray.mk #[108,101,102,116]) 1 false true),(GForm.mk (ByteArray.mk #[114,105,103,104,116]) 1 false true),(GForm.mk (ByteArray.mk #[99,97,115,101]) 3 true false),(GForm.mk (ByteArray.mk #[102,117,110]) 1 true true),(GForm.mk (ByteArray.mk #[97,112,112]) 2 false false),(GForm.mk (ByteArray.mk #[98,111,120]) 1 true false),(GForm.mk (ByteArray.mk #[111,112,101,110]) 2 true false)] op0) >>= fun e_3_15 =>
   some (e_3_15,true)
  else
   some ((GForm.mk ByteArray.empty 0 false false),false)
def M_impl_formOf (op0 : Int) (r : GForm × Bool) : Prop :=
 FnSound Tryz.prog 184 [I op0] (.tup [.agg [.str r.1.fword,I r.1.fkids,.bool r.1.fgrade,.bool r.1.ftyped],.bool r.2]) []
theorem impl_formOf_s : ∀ p r,impl_formOf p = some r → M_impl_formOf p r := by
 rintro op0 r h
 unfold impl_formOf at h
 refine b0 Tryz.f184 B184 25 [(0,I op0)] fun c hc => ?_
 refine rs hc none [some (.new 1),oN] [(0,I op0),(2,.ra 1 0)] [(1,.box [.str ByteArray.empty,I 0,.bool false,.bool false])] trivial ?_
 refine sN ?_
 obtain ⟨r_1_1,hr_1_1,h⟩ := bsome h
 refine rs hc none [oN,oc (.bool r_1_1),oN] [(0,I op0),(2,.ra 1 0),(6,.bool (!r_1_1))] [(1,.box [.str ByteArray.empty,I 0,.bool false,.bool false])] (ai (impl_within_s _ _ hr_1_1) (ai bod_108 (ai (oi (.bool r_1_1)) trivial))) ?_
 rcases is h with ⟨hb_1,h⟩ | ⟨hb_1,h⟩
 ·refine cF (!r_1_1) (nF hb_1) ?_
  refine sk ?_
  obtain ⟨e_3_15,hi_3_15,h⟩ := bsome h
  refine rs hc none [oN,oN,oN,oN,oN,oN,oN,oN,oN,oN,oN,oN,oN,some (.mk 2 true),oN,oN,some (.el (.agg [.str e_3_15.fword,I e_3_15.fkids,.bool e_3_15.fgrade,.bool e_3_15.ftyped])),oN,oN] [(2,.ra 1 0),(3,.bool true)] [(1,.box [.str e_3_15.fword,I e_3_15.fkids,.bool e_3_15.fgrade,.bool e_3_15.ftyped])] (ai (idx_own (enc := GForm_v) hi_3_15) (ai (idx_sl (enc := GForm_v) (x := .agg [.str e_3_15.fword,I e_3_15.fkids,.bool e_3_15.fgrade,.bool e_3_15.ftyped]) hi_3_15 (eq_GForm_v e_3_15)).2 trivial)) ?_
  refine rt ?_
  obtain rfl := os h
  exact rq [true,true]
 refine cT (!r_1_1) (nT hb_1) ?_
 refine rs0 hc 3 [(2,.ra 1 0),(3,.bool false)] [(1,.box [.str ByteArray.empty,I 0,.bool false,.bool false])] ?_
 refine rt ?_
 obtain rfl := os h
 exact rq [true,true]
def impl_isTermOf_c1 (p : (List Int) × GSystem) : Option (Bool) :=
 match p with
 | (ty0,cap0) =>
  (impl_isTypeOf (cap0,ty0)) >>= fun r_1_2 =>
  some r_1_2
def M_impl_isTermOf_c1 (p : (List Int) × GSystem) (r : Bool) : Prop :=
 match p with
 | (ty0,cap0) => FnSound Tryz.prog 211 [sI ty0,.ptr [I cap0.fSize,sI cap0.fPlus,sI cap0.fTimes,sB cap0.fBelow] 0] (.bool r) []
theorem impl_isTermOf_c1_s : ∀ p r,impl_isTermOf_c1 p = some r → M_impl_isTermOf_c1 p r := by
 rintro ⟨ty0,cap0⟩ r h
 unfold impl_isTermOf_c1 at h
 refine b0 Tryz.f211 B211 7 [(0,sI ty0),(1,.ptr [I cap0.fSize,sI cap0.fPlus,sI cap0.fTimes,sB cap0.fBelow] 0)] fun c hc => ?_
 refine rs0 hc 1 [(0,sI ty0),(1,.ptr [I cap0.fSize,sI cap0.fPlus,sI cap0.fTimes,sB cap0.fBelow] 0)] [] ?_
 obtain ⟨r_1_2,hr_1_2,h⟩ := bsome h
 refine rs hc none [oN,oN,oc (.bool r_1_2),oN] [(3,.bool r_1_2)] [] (ai (impl_isTypeOf_s _ _ hr_1_2) (ai bod_210 (ai (oi (.bool r_1_2)) trivial))) ?_
 refine rt ?_
 obtain rfl := os h
 exact rq [true]
def impl_adds (p : Int × Int) : Option (Int) :=
 match p with
 | (op0,kid1) =>
  ((
   if (op0 == 5) = true then
    some ((kid1 == 1))
   else
    some (false)
  ) : Option (Bool)) >>= fun v_1 =>
  if v_1 = true then
   some 2
  else
   ((
    if (op0 == 8) = true then
     some ((decide (kid1 > 0)))
    else
     some (false)
   ) : Option (Bool)) >>= fun v_4 =>
   ((
    if v_4 = true then
     some (v_4)
    else
     ((
      if (op0 == 9) = true then
       some ((op0 == 9))
      else
       ((
        if (op0 == 12) = true then
         some ((kid1 == 1))
        else
         some (false)
       ) : Option (Bool)) >>= fun v_8 =>
       some (v_8)
     ) : Option (Bool)) >>= fun j_10 =>
     some (j_10)
   ) : Option (Bool)) >>= fun j_12 =>
   if j_12 = true then
    some 1
   else
    some 0
def M_impl_adds (p : Int × Int) (r : Int) : Prop :=
 match p with
 | (op0,kid1) => FnSound Tryz.prog 185 [I op0,I kid1] (I r) []
theorem impl_adds_s : ∀ p r,impl_adds p = some r → M_impl_adds p r := by
 rintro ⟨op0,kid1⟩ r h
 unfold impl_adds at h
 refine b0 Tryz.f185 B185 27 [(0,I op0),(1,I kid1)] fun c hc => ?_
 refine rs0 hc 1 [(0,I op0),(1,I kid1)] [] ?_
 refine sN ?_
 refine bk 0 ?_
 refine sN ?_
 obtain ⟨v_1,hj_2,h⟩ := bsome h
 refine Wp.into (x := .normal) (mkS [(0,I op0),(1,I kid1),(5,.bool v_1)] []) ?_ ?_
 ·replace h := hj_2
  rcases is h with ⟨hb_1_0,h⟩ | ⟨hb_1_0,h⟩
  ·refine rg hc none [oN,oN,oN,oN,oN,oT,oN] [(0,I op0),(1,I kid1),(5,.bool (kid1 == 1))] [] (ar 3 hb_1_0 trivial) ?_
   obtain rfl := os h
   exact Into.mk
  refine rg hc none [oN,oN,oN,o_,o_,oF,oN] [(0,I op0),(1,I kid1),(5,.bool false)] [] (ar 2 (neT hb_1_0) (ai hb_1_0 trivial)) ?_
  obtain rfl := os h
  exact Into.mk
 clear hj_2
 rcases is h with ⟨hb_3,h⟩ | ⟨hb_3,h⟩
 ·refine cT v_1 hb_3 ?_
  refine rs0 hc 1 [(4,I 2)] [] ?_
  refine rt ?_
  obtain rfl := os h
  exact rq [true]
 refine cF v_1 hb_3 ?_
 refine sN ?_
 refine sN ?_
 obtain ⟨v_4,hj_5,h⟩ := bsome h
 refine Wp.into (x := .normal) (mkS [(0,I op0),(1,I kid1),(12,.bool v_4)] []) ?_ ?_
 ·replace h := hj_5
  rcases is h with ⟨hb_3_0,h⟩ | ⟨hb_3_0,h⟩
  ·refine rg hc none [oN,oN,oN,oN,oN,oT,oN] [(0,I op0),(1,I kid1),(12,.bool (decide (kid1 > 0)))] [] (ar 3 hb_3_0 trivial) ?_
   obtain rfl := os h
   exact Into.mk
  refine rg hc none [oN,oN,oN,o_,o_,oF,oN] [(0,I op0),(1,I kid1),(12,.bool false)] [] (ar 2 (neT hb_3_0) (ai hb_3_0 trivial)) ?_
  obtain rfl := os h
  exact Into.mk
 clear hj_5
 obtain ⟨j_12,hj_13,h⟩ := bsome h
 refine Wp.into (x := .normal) (mkS [(12,.bool j_12)] []) ?_ ?_
 ·replace h := hj_13
  rcases is h with ⟨hb_6,h⟩ | ⟨hb_6,h⟩
  ·refine cT v_4 hb_6 ?_
   refine sk ?_
   obtain rfl := os h
   exact iv []
  refine cF v_4 hb_6 ?_
  refine rs0 hc 3 [(0,I op0),(1,I kid1),(12,.bool (op0 == 9))] [] ?_
  obtain ⟨j_10,hj_11,h⟩ := bsome h
  refine Wp.into (x := .normal) (mkS [(12,.bool j_10)] []) ?_ ?_
  ·replace h := hj_11
   rcases is h with ⟨hb_7,h⟩ | ⟨hb_7,h⟩
   ·refine cT ((op0 == 9)) hb_7 ?_
    refine sk ?_
    obtain rfl := os h
    exact iv []
   refine cF ((op0 == 9)) hb_7 ?_
   obtain ⟨v_8,hj_9,h⟩ := bsome h
   refine Wp.into (x := .normal) (mkS [(12,.bool v_8)] []) ?_ ?_
   ·replace h := hj_9
    rcases is h with ⟨hb_5_0,h⟩ | ⟨hb_5_0,h⟩
    ·refine rg hc none [oN,oN,oN,oN,oN,oT,oN] [(12,.bool (kid1 == 1))] [] (ar 3 hb_5_0 trivial) ?_
     obtain rfl := os h
     exact Into.mk
    refine rg hc none [oN,oN,oN,o_,o_,oF,oN] [(12,.bool false)] [] (ar 2 (neT hb_5_0) (ai hb_5_0 trivial)) ?_
    obtain rfl := os h
    exact Into.mk
   clear hj_9
   obtain rfl := os h
   exact Into.mk
  clear hj_11
  obtain rfl := os h
  exact Into.mk
 clear hj_13
 rcases is h with ⟨hb_14,h⟩ | ⟨hb_14,h⟩
 ·refine cT j_12 hb_14 ?_
  refine rs0 hc 1 [(4,I 1)] [] ?_
  refine rt ?_
  obtain rfl := os h
  exact rq [true]
 refine cF j_12 hb_14 ?_
 refine sk ?_
 refine rs0 hc 1 [(4,I 0)] [] ?_
 refine rt ?_
 obtain rfl := os h
 exact rq [true]
def impl_check_Kimpl_Systemhas_Kimpl_isTermOf_c1_F1 (c : Ctx) : (Int) ⊕ (Int) → Exit → AState → Prop
 | .inl nodes_27 => Into c (.exit 1) (mkS [(4,I nodes_27)] [])
 | .inr r => RetE TIx Tryz.f117 [] (I r)
mutual
def impl_check_Kimpl_Systemhas_Kimpl_isTermOf_c1 (p : GTerm × Int × GSystem × GSystem × Int) : Option (Int) :=
 match p with
 | (t0,n1,clo2_0,clo3_0,nodes4) =>
  (impl_formOf t0.fOp) >>= fun (r_2_2_0,r_2_2_1) =>
  ((
   if r_2_2_1 = true then
    if (decide ((wr (nodes4 + 1)) > 400)) = true then
     some (true)
    else
     some (((t0.fKids.length : Int) != r_2_2_0.fkids))
   else
    some (true)
  ) : Option (Bool)) >>= fun v_1 =>
  if v_1 = true then
   some 401
  else
   ((
    if (t0.fOp == 0) = true then
     (impl_within (t0.fN,0,(wr (n1 - 1)))) >>= fun r_7_4 =>
     some (r_7_4)
    else
     ((
      if (t0.fOp == 1) = true then
       (impl_within (t0.fN,0,2)) >>= fun r_9_2 =>
       some (r_9_2)
      else
       ((
        if r_2_2_0.fgrade = true then
         (impl_Systemhas (clo2_0,t0.fN)) >>= fun r_11_3 =>
         some (r_11_3)
        else
         some ((t0.fN == 0))
       ) : Option (Bool)) >>= fun ok_7 =>
       some (ok_7)
     ) : Option (Bool)) >>= fun ok_9 =>
     some (ok_9)
   ) : Option (Bool)) >>= fun ok_11 =>
   ((
    if r_2_2_0.ftyped = true then
     ((
      if ok_11 = true then
       (impl_isTermOf_c1 (t0.fType,clo3_0)) >>= fun r_13_5 =>
       some (r_13_5)
      else
       some (false)
     ) : Option (Bool)) >>= fun ok_14 =>
     some (ok_14)
    else
     ((
      if ok_11 = true then
       some (((t0.fType.length : Int) == 0))
      else
       some (false)
     ) : Option (Bool)) >>= fun ok_16 =>
     some (ok_16)
   ) : Option (Bool)) >>= fun ok_18 =>
   if ok_18 = true then
    (impl_check_Kimpl_Systemhas_Kimpl_isTermOf_c1_l0 (t0,n1,clo2_0,clo3_0,(wr (nodes4 + 1)),0)) >>= fun fl => match fl with
    | .inl nodes_27 =>
     some nodes_27
    | .inr r =>
     some r
   else
    some 401
 partial_fixpoint
def impl_check_Kimpl_Systemhas_Kimpl_isTermOf_c1_l0 (p : GTerm × Int × GSystem × GSystem × Int × Int) : Option ((Int) ⊕ (Int)) :=
 match p with
 | (t0,n1,clo2_0,clo3_0,nodes_23,w_24) =>
  if (decide (w_24 < (t0.fKids.length : Int))) = true then
   (idx t0.fKids w_24) >>= fun e_19_1 =>
   (impl_adds (t0.fOp,w_24)) >>= fun r_20_5 =>
   (impl_check_Kimpl_Systemhas_Kimpl_isTermOf_c1 (e_19_1,(wr (n1 + r_20_5)),clo2_0,clo3_0,nodes_23)) >>= fun r_20_10 =>
   if (decide (r_20_10 > 400)) = true then
    some (.inr 401)
   else
    impl_check_Kimpl_Systemhas_Kimpl_isTermOf_c1_l0 (t0,n1,clo2_0,clo3_0,r_20_10,(wr (w_24 + 1)))
  else
   some (.inl nodes_23)
 partial_fixpoint
end
def M_impl_check_Kimpl_Systemhas_Kimpl_isTermOf_c1 (p : GTerm × Int × GSystem × GSystem × Int) (r : Int) : Prop :=
 match p with
 | (t0,n1,clo2_0,clo3_0,nodes4) => FnSound Tryz.prog 117 [aTerm t0,I n1,.fnb 85 [aSystem clo2_0],.fn 211 [.ptr [I clo3_0.fSize,sI clo3_0.fPlus,sI clo3_0.fTimes,sB clo3_0.fBelow] 0],I nodes4] (I r) []
def M_impl_check_Kimpl_Systemhas_Kimpl_isTermOf_c1_l0 (p : GTerm × Int × GSystem × GSystem × Int × Int) (fl : (Int) ⊕ (Int)) : Prop :=
 match p with
 | (t0,n1,clo2_0,clo3_0,nodes_23,w_24) => ∀ c : Ctx,c.nt = 104 → WpL Tryz.prog c (cl (cl (cr (cl (cr (cr (cr (cr (cr (cr (cr B117))))))))))) (impl_check_Kimpl_Systemhas_Kimpl_isTermOf_c1_F1 c fl) (mkS [(1,I n1),(2,.fnb 85 [aSystem clo2_0]),(3,.fn 211 [.ptr [I clo3_0.fSize,sI clo3_0.fPlus,sI clo3_0.fTimes,sB clo3_0.fBelow] 0]),(4,I nodes_23),(5,.ra 1 0),(82,.sl (List.map GTerm_S t0.fKids)),(83,I (t0.fKids.length : Int)),(84,I w_24)] [(1,bTerm t0)])
theorem impl_check_Kimpl_Systemhas_Kimpl_isTermOf_c1_all : (∀ p r,impl_check_Kimpl_Systemhas_Kimpl_isTermOf_c1 p = some r → M_impl_check_Kimpl_Systemhas_Kimpl_isTermOf_c1 p r) ∧ (∀ p r,impl_check_Kimpl_Systemhas_Kimpl_isTermOf_c1_l0 p = some r → M_impl_check_Kimpl_Systemhas_Kimpl_isTermOf_c1_l0 p r) := by
 refine impl_check_Kimpl_Systemhas_Kimpl_isTermOf_c1.mutual_partial_correctness M_impl_check_Kimpl_Systemhas_Kimpl_isTermOf_c1 M_impl_check_Kimpl_Systemhas_Kimpl_isTermOf_c1_l0 ?_ ?_
 ·rintro impl_check_Kimpl_Systemhas_Kimpl_isTermOf_c1_l0_f impl_check_Kimpl_Systemhas_Kimpl_isTermOf_c1_l0_ih ⟨t0,n1,clo2_0,clo3_0,nodes4⟩ r h
  refine b0 Tryz.f117 B117 104 [(0,aTerm t0),(1,I n1),(2,.fnb 85 [aSystem clo2_0]),(3,.fn 211 [.ptr [I clo3_0.fSize,sI clo3_0.fPlus,sI clo3_0.fTimes,sB clo3_0.fBelow] 0]),(4,I nodes4)] fun c hc => ?_
  refine rs hc none [some (.new 1),oN] [(1,I n1),(2,.fnb 85 [aSystem clo2_0]),(3,.fn 211 [.ptr [I clo3_0.fSize,sI clo3_0.fPlus,sI clo3_0.fTimes,sB clo3_0.fBelow] 0]),(4,I nodes4),(5,.ra 1 0)] [(1,bTerm t0)] trivial ?_
  refine rs0 hc 3 [(1,I n1),(2,.fnb 85 [aSystem clo2_0]),(3,.fn 211 [.ptr [I clo3_0.fSize,sI clo3_0.fPlus,sI clo3_0.fTimes,sB clo3_0.fBelow] 0]),(4,I (wr (nodes4 + 1))),(5,.ra 1 0)] [(1,bTerm t0)] ?_
  obtain ⟨⟨r_2_2_0,r_2_2_1⟩,hr_2_2,h⟩ := bsome h
  refine rs hc none [oN,oN,oc (.tup [.agg [.str r_2_2_0.fword,I r_2_2_0.fkids,.bool r_2_2_0.fgrade,.bool r_2_2_0.ftyped],.bool r_2_2_1]),oN,oN,oN,some (.new 2),oN,oN] [(1,I n1),(2,.fnb 85 [aSystem clo2_0]),(3,.fn 211 [.ptr [I clo3_0.fSize,sI clo3_0.fPlus,sI clo3_0.fTimes,sB clo3_0.fBelow] 0]),(4,I (wr (nodes4 + 1))),(5,.ra 1 0),(11,.ra 2 0),(12,.bool r_2_2_1)] [(1,bTerm t0),(2,.box [.str r_2_2_0.fword,I r_2_2_0.fkids,.bool r_2_2_0.fgrade,.bool r_2_2_0.ftyped])] (ai (impl_formOf_s _ _ hr_2_2) (ai bod_184 (ai (oi (.tup [.agg [.str r_2_2_0.fword,I r_2_2_0.fkids,.bool r_2_2_0.fgrade,.bool r_2_2_0.ftyped],.bool r_2_2_1])) trivial))) ?_
  refine sN ?_
  refine sN ?_
  obtain ⟨v_1,hj_2,h⟩ := bsome h
  refine Wp.into (x := .normal) (mkS [(1,I n1),(2,.fnb 85 [aSystem clo2_0]),(3,.fn 211 [.ptr [I clo3_0.fSize,sI clo3_0.fPlus,sI clo3_0.fTimes,sB clo3_0.fBelow] 0]),(4,I (wr (nodes4 + 1))),(5,.ra 1 0),(11,.ra 2 0),(36,.bool v_1)] [(1,bTerm t0),(2,.box [.str r_2_2_0.fword,I r_2_2_0.fkids,.bool r_2_2_0.fgrade,.bool r_2_2_0.ftyped])]) ?_ ?_
  ·replace h := hj_2
   rcases is h with ⟨hb_3_0,h⟩ | ⟨hb_3_0,h⟩
   ·rcases is h with ⟨hb_3_1,h⟩ | ⟨hb_3_1,h⟩
    ·refine rg hc none [oN,oN,oN,oN,oN,oF,oN,o_,o_,o_,o_,o_,o_,oT] [(1,I n1),(2,.fnb 85 [aSystem clo2_0]),(3,.fn 211 [.ptr [I clo3_0.fSize,sI clo3_0.fPlus,sI clo3_0.fTimes,sB clo3_0.fBelow] 0]),(4,I (wr (nodes4 + 1))),(5,.ra 1 0),(11,.ra 2 0),(36,.bool true)] [(1,bTerm t0),(2,.box [.str r_2_2_0.fword,I r_2_2_0.fkids,.bool r_2_2_0.fgrade,.bool r_2_2_0.ftyped])] (ar 3 (nF hb_3_0) (ar 6 (neF hb_3_1) (ai hb_3_1 trivial))) ?_
     obtain rfl := os h
     exact Into.mk
    refine rg hc none [oN,oN,oN,oN,oN,oF,oN,oN,oN,some (.eqv (.no) ⟨[(32,I (t0.fKids.length : Int))],[],[]⟩),oN,oN,oN,oF] [(1,I n1),(2,.fnb 85 [aSystem clo2_0]),(3,.fn 211 [.ptr [I clo3_0.fSize,sI clo3_0.fPlus,sI clo3_0.fTimes,sB clo3_0.fBelow] 0]),(4,I (wr (nodes4 + 1))),(5,.ra 1 0),(11,.ra 2 0),(36,.bool ((t0.fKids.length : Int) != r_2_2_0.fkids))] [(1,bTerm t0),(2,.box [.str r_2_2_0.fword,I r_2_2_0.fkids,.bool r_2_2_0.fgrade,.bool r_2_2_0.ftyped])] (ar 3 (nF hb_3_0) (ar 3 hb_3_1 (ai (lenT (d := 32) GTerm_S t0.fKids) (ar 4 hb_3_1 trivial)))) ?_
    obtain rfl := os h
    exact Into.mk
   refine rg hc none [oN,oN,oN,o_,o_,oT,oN,o_,o_,o_,o_,o_,o_,oT] [(1,I n1),(2,.fnb 85 [aSystem clo2_0]),(3,.fn 211 [.ptr [I clo3_0.fSize,sI clo3_0.fPlus,sI clo3_0.fTimes,sB clo3_0.fBelow] 0]),(4,I (wr (nodes4 + 1))),(5,.ra 1 0),(11,.ra 2 0),(36,.bool true)] [(1,bTerm t0),(2,.box [.str r_2_2_0.fword,I r_2_2_0.fkids,.bool r_2_2_0.fgrade,.bool r_2_2_0.ftyped])] (ar 2 (neF (nT hb_3_0)) (ai (nT hb_3_0) (ar 6 nf (ai tt trivial)))) ?_
   obtain rfl := os h
   exact Into.mk
  clear hj_2
  rcases is h with ⟨hb_3,h⟩ | ⟨hb_3,h⟩
  ·refine cT v_1 hb_3 ?_
   refine rs0 hc 1 [(10,I 401)] [] ?_
   refine rt ?_
   obtain rfl := os h
   exact rq [true]
  refine cF v_1 hb_3 ?_
  refine sk ?_
  refine sN ?_
  refine bk 0 ?_
  refine rs0 hc 4 [(1,I n1),(2,.fnb 85 [aSystem clo2_0]),(3,.fn 211 [.ptr [I clo3_0.fSize,sI clo3_0.fPlus,sI clo3_0.fTimes,sB clo3_0.fBelow] 0]),(4,I (wr (nodes4 + 1))),(5,.ra 1 0),(11,.ra 2 0),(40,.bool (t0.fOp == 0))] [(1,bTerm t0),(2,.box [.str r_2_2_0.fword,I r_2_2_0.fkids,.bool r_2_2_0.fgrade,.bool r_2_2_0.ftyped])] ?_
  obtain ⟨ok_11,hj_12,h⟩ := bsome h
  refine Wp.into (x := .normal) (mkS [(1,I n1),(2,.fnb 85 [aSystem clo2_0]),(3,.fn 211 [.ptr [I clo3_0.fSize,sI clo3_0.fPlus,sI clo3_0.fTimes,sB clo3_0.fBelow] 0]),(4,I (wr (nodes4 + 1))),(5,.ra 1 0),(11,.ra 2 0),(12,.bool ok_11)] [(1,bTerm t0),(2,.box [.str r_2_2_0.fword,I r_2_2_0.fkids,.bool r_2_2_0.fgrade,.bool r_2_2_0.ftyped])]) ?_ ?_
  ·replace h := hj_12
   rcases is h with ⟨hb_4,h⟩ | ⟨hb_4,h⟩
   ·refine cT ((t0.fOp == 0)) hb_4 ?_
    obtain ⟨r_7_4,hr_7_4,h⟩ := bsome h
    refine rg hc none [oN,oN,oN,oN,oc (.bool r_7_4),oN] [(1,I n1),(2,.fnb 85 [aSystem clo2_0]),(3,.fn 211 [.ptr [I clo3_0.fSize,sI clo3_0.fPlus,sI clo3_0.fTimes,sB clo3_0.fBelow] 0]),(4,I (wr (nodes4 + 1))),(5,.ra 1 0),(11,.ra 2 0),(12,.bool r_7_4)] [(1,bTerm t0),(2,.box [.str r_2_2_0.fword,I r_2_2_0.fkids,.bool r_2_2_0.fgrade,.bool r_2_2_0.ftyped])] (ai (impl_within_s _ _ hr_7_4) (ai bod_108 (ai (oi (.bool r_7_4)) trivial))) ?_
    obtain rfl := os h
    exact Into.mk
   refine cF ((t0.fOp == 0)) hb_4 ?_
   refine rs0 hc 4 [(1,I n1),(2,.fnb 85 [aSystem clo2_0]),(3,.fn 211 [.ptr [I clo3_0.fSize,sI clo3_0.fPlus,sI clo3_0.fTimes,sB clo3_0.fBelow] 0]),(4,I (wr (nodes4 + 1))),(5,.ra 1 0),(11,.ra 2 0),(49,.bool (t0.fOp == 1))] [(1,bTerm t0),(2,.box [.str r_2_2_0.fword,I r_2_2_0.fkids,.bool r_2_2_0.fgrade,.bool r_2_2_0.ftyped])] ?_
   obtain ⟨ok_9,hj_10,h⟩ := bsome h
   refine Wp.into (x := .normal) (mkS [(1,I n1),(2,.fnb 85 [aSystem clo2_0]),(3,.fn 211 [.ptr [I clo3_0.fSize,sI clo3_0.fPlus,sI clo3_0.fTimes,sB clo3_0.fBelow] 0]),(4,I (wr (nodes4 + 1))),(5,.ra 1 0),(11,.ra 2 0),(12,.bool ok_9)] [(1,bTerm t0),(2,.box [.str r_2_2_0.fword,I r_2_2_0.fkids,.bool r_2_2_0.fgrade,.bool r_2_2_0.ftyped])]) ?_ ?_
   ·replace h := hj_10
    rcases is h with ⟨hb_5,h⟩ | ⟨hb_5,h⟩
    ·refine cT ((t0.fOp == 1)) hb_5 ?_
     obtain ⟨r_9_2,hr_9_2,h⟩ := bsome h
     refine rg hc none [oN,oN,oc (.bool r_9_2),oN] [(1,I n1),(2,.fnb 85 [aSystem clo2_0]),(3,.fn 211 [.ptr [I clo3_0.fSize,sI clo3_0.fPlus,sI clo3_0.fTimes,sB clo3_0.fBelow] 0]),(4,I (wr (nodes4 + 1))),(5,.ra 1 0),(11,.ra 2 0),(12,.bool r_9_2)] [(1,bTerm t0),(2,.box [.str r_2_2_0.fword,I r_2_2_0.fkids,.bool r_2_2_0.fgrade,.bool r_2_2_0.ftyped])] (ai (impl_within_s _ _ hr_9_2) (ai bod_108 (ai (oi (.bool r_9_2)) trivial))) ?_
     obtain rfl := os h
     exact Into.mk
    refine cF ((t0.fOp == 1)) hb_5 ?_
    refine rs0 hc 3 [(1,I n1),(2,.fnb 85 [aSystem clo2_0]),(3,.fn 211 [.ptr [I clo3_0.fSize,sI clo3_0.fPlus,sI clo3_0.fTimes,sB clo3_0.fBelow] 0]),(4,I (wr (nodes4 + 1))),(5,.ra 1 0),(11,.ra 2 0),(56,.bool r_2_2_0.fgrade)] [(1,bTerm t0),(2,.box [.str r_2_2_0.fword,I r_2_2_0.fkids,.bool r_2_2_0.fgrade,.bool r_2_2_0.ftyped])] ?_
    obtain ⟨ok_7,hj_8,h⟩ := bsome h
    refine Wp.into (x := .normal) (mkS [(1,I n1),(2,.fnb 85 [aSystem clo2_0]),(3,.fn 211 [.ptr [I clo3_0.fSize,sI clo3_0.fPlus,sI clo3_0.fTimes,sB clo3_0.fBelow] 0]),(4,I (wr (nodes4 + 1))),(5,.ra 1 0),(11,.ra 2 0),(12,.bool ok_7)] [(1,bTerm t0),(2,.box [.str r_2_2_0.fword,I r_2_2_0.fkids,.bool r_2_2_0.fgrade,.bool r_2_2_0.ftyped])]) ?_ ?_
    ·replace h := hj_8
     rcases is h with ⟨hb_6,h⟩ | ⟨hb_6,h⟩
     ·refine cT r_2_2_0.fgrade hb_6 ?_
      obtain ⟨r_11_3,hr_11_3,h⟩ := bsome h
      refine rg hc none [oN,oN,oN,oc (.bool r_11_3),oN] [(1,I n1),(2,.fnb 85 [aSystem clo2_0]),(3,.fn 211 [.ptr [I clo3_0.fSize,sI clo3_0.fPlus,sI clo3_0.fTimes,sB clo3_0.fBelow] 0]),(4,I (wr (nodes4 + 1))),(5,.ra 1 0),(11,.ra 2 0),(12,.bool r_11_3)] [(1,bTerm t0),(2,.box [.str r_2_2_0.fword,I r_2_2_0.fkids,.bool r_2_2_0.fgrade,.bool r_2_2_0.ftyped])] (ai (impl_Systemhas_s _ _ hr_11_3) (ai bod_85 (ai (oi (.bool r_11_3)) trivial))) ?_
      obtain rfl := os h
      exact Into.mk
     refine cF r_2_2_0.fgrade hb_6 ?_
     refine rg0 hc 4 [(1,I n1),(2,.fnb 85 [aSystem clo2_0]),(3,.fn 211 [.ptr [I clo3_0.fSize,sI clo3_0.fPlus,sI clo3_0.fTimes,sB clo3_0.fBelow] 0]),(4,I (wr (nodes4 + 1))),(5,.ra 1 0),(11,.ra 2 0),(12,.bool (t0.fN == 0))] [(1,bTerm t0),(2,.box [.str r_2_2_0.fword,I r_2_2_0.fkids,.bool r_2_2_0.fgrade,.bool r_2_2_0.ftyped])] ?_
     obtain rfl := os h
     exact Into.mk
    clear hj_8
    obtain rfl := os h
    exact Into.mk
   clear hj_10
   obtain rfl := os h
   exact Into.mk
  clear hj_12
  refine sN ?_
  refine rs0 hc 2 [(1,I n1),(2,.fnb 85 [aSystem clo2_0]),(3,.fn 211 [.ptr [I clo3_0.fSize,sI clo3_0.fPlus,sI clo3_0.fTimes,sB clo3_0.fBelow] 0]),(4,I (wr (nodes4 + 1))),(5,.ra 1 0),(12,.bool ok_11),(64,.bool r_2_2_0.ftyped)] [(1,bTerm t0)] ?_
  obtain ⟨ok_18,hj_19,h⟩ := bsome h
  refine Wp.into (x := .normal) (mkS [(1,I n1),(2,.fnb 85 [aSystem clo2_0]),(3,.fn 211 [.ptr [I clo3_0.fSize,sI clo3_0.fPlus,sI clo3_0.fTimes,sB clo3_0.fBelow] 0]),(4,I (wr (nodes4 + 1))),(5,.ra 1 0),(12,.bool ok_18)] [(1,bTerm t0)]) ?_ ?_
  ·replace h := hj_19
   rcases is h with ⟨hb_13,h⟩ | ⟨hb_13,h⟩
   ·refine cT r_2_2_0.ftyped hb_13 ?_
    obtain ⟨ok_14,hj_15,h⟩ := bsome h
    refine Wp.into (x := .normal) (mkS [(1,I n1),(2,.fnb 85 [aSystem clo2_0]),(3,.fn 211 [.ptr [I clo3_0.fSize,sI clo3_0.fPlus,sI clo3_0.fTimes,sB clo3_0.fBelow] 0]),(4,I (wr (nodes4 + 1))),(5,.ra 1 0),(12,.bool ok_14)] [(1,bTerm t0)]) ?_ ?_
    ·replace h := hj_15
     rcases is h with ⟨hb_13_0,h⟩ | ⟨hb_13_0,h⟩
     ·obtain ⟨r_13_5,hr_13_5,h⟩ := bsome h
      refine rg hc none [oN,oN,oN,oN,oN,oc (.bool r_13_5),oT,oN] [(1,I n1),(2,.fnb 85 [aSystem clo2_0]),(3,.fn 211 [.ptr [I clo3_0.fSize,sI clo3_0.fPlus,sI clo3_0.fTimes,sB clo3_0.fBelow] 0]),(4,I (wr (nodes4 + 1))),(5,.ra 1 0),(12,.bool r_13_5)] [(1,bTerm t0)] (ar 4 hb_13_0 (ai (impl_isTermOf_c1_s _ _ hr_13_5) (ai bod_211 (ai (oi (.bool r_13_5)) (ai hb_13_0 trivial))))) ?_
      obtain rfl := os h
      exact Into.mk
     refine rg hc none [oN,oN,o_,o_,o_,o_,oF,oN] [(1,I n1),(2,.fnb 85 [aSystem clo2_0]),(3,.fn 211 [.ptr [I clo3_0.fSize,sI clo3_0.fPlus,sI clo3_0.fTimes,sB clo3_0.fBelow] 0]),(4,I (wr (nodes4 + 1))),(5,.ra 1 0),(12,.bool false)] [(1,bTerm t0)] (ar 4 (neT hb_13_0) (ai hb_13_0 trivial)) ?_
     obtain rfl := os h
     exact Into.mk
    clear hj_15
    obtain rfl := os h
    exact Into.mk
   refine cF r_2_2_0.ftyped hb_13 ?_
   obtain ⟨ok_16,hj_17,h⟩ := bsome h
   refine Wp.into (x := .normal) (mkS [(1,I n1),(2,.fnb 85 [aSystem clo2_0]),(3,.fn 211 [.ptr [I clo3_0.fSize,sI clo3_0.fPlus,sI clo3_0.fTimes,sB clo3_0.fBelow] 0]),(4,I (wr (nodes4 + 1))),(5,.ra 1 0),(12,.bool ok_16)] [(1,bTerm t0)]) ?_ ?_
   ·replace h := hj_17
    rcases is h with ⟨hb_14_0,h⟩ | ⟨hb_14_0,h⟩
    ·refine rg hc none [oN,oN,oN,oN,some (.eqv (.no) ⟨[(76,I (t0.fType.length : Int))],[],[]⟩),oN,oT,oN] [(1,I n1),(2,.fnb 85 [aSystem clo2_0]),(3,.fn 211 [.ptr [I clo3_0.fSize,sI clo3_0.fPlus,sI clo3_0.fTimes,sB clo3_0.fBelow] 0]),(4,I (wr (nodes4 + 1))),(5,.ra 1 0),(12,.bool ((t0.fType.length : Int) == 0))] [(1,bTerm t0)] (ar 3 hb_14_0 (ai (lenT (d := 76) I t0.fType) (ar 2 hb_14_0 trivial))) ?_
     obtain rfl := os h
     exact Into.mk
    refine rg hc none [oN,oN,o_,o_,o_,o_,oF,oN] [(1,I n1),(2,.fnb 85 [aSystem clo2_0]),(3,.fn 211 [.ptr [I clo3_0.fSize,sI clo3_0.fPlus,sI clo3_0.fTimes,sB clo3_0.fBelow] 0]),(4,I (wr (nodes4 + 1))),(5,.ra 1 0),(12,.bool false)] [(1,bTerm t0)] (ar 4 (neT hb_14_0) (ai hb_14_0 trivial)) ?_
    obtain rfl := os h
    exact Into.mk
   clear hj_17
   obtain rfl := os h
   exact Into.mk
  clear hj_19
  refine sN ?_
  refine rs0 hc 2 [(1,I n1),(2,.fnb 85 [aSystem clo2_0]),(3,.fn 211 [.ptr [I clo3_0.fSize,sI clo3_0.fPlus,sI clo3_0.fTimes,sB clo3_0.fBelow] 0]),(4,I (wr (nodes4 + 1))),(5,.ra 1 0),(80,.bool (!ok_18))] [(1,bTerm t0)] ?_
  rcases is h with ⟨hb_20,h⟩ | ⟨hb_20,h⟩
  ·refine cF (!ok_18) (nF hb_20) ?_
   refine sk ?_
   refine sN ?_
   refine rs hc none [oN,oN,some (.eqv (.no) ⟨[(83,I (t0.fKids.length : Int))],[],[]⟩),oN] [(1,I n1),(2,.fnb 85 [aSystem clo2_0]),(3,.fn 211 [.ptr [I clo3_0.fSize,sI clo3_0.fPlus,sI clo3_0.fTimes,sB clo3_0.fBelow] 0]),(4,I (wr (nodes4 + 1))),(5,.ra 1 0),(82,.sl (List.map GTerm_S t0.fKids)),(83,I (t0.fKids.length : Int)),(84,I 0)] [(1,bTerm t0)] (ai (lenT (d := 83) GTerm_S t0.fKids) trivial) ?_
   refine bk 1 ?_
   obtain ⟨fl,hl_28,h⟩ := bsome h
   have hL := impl_check_Kimpl_Systemhas_Kimpl_isTermOf_c1_l0_ih _ _ hl_28 c hc
   refine lp ?_
   rcases fl with nodes_27 | r
   ·refine WpL.into (e := (.exit 1)) (mkS [(4,I nodes_27)] []) hL ?_
    refine blockQ_hit ?_
    refine rs0 hc 2 [(10,I nodes_27)] [] ?_
    refine rt ?_
    obtain rfl := os h
    exact rq [true]
   refine WpL.mono hL ?_
   rintro _ _ ⟨rfl,hfin⟩
   obtain rfl := os h
   exact ⟨.inl rfl,hfin⟩
  refine cT (!ok_18) (nT hb_20) ?_
  refine rs0 hc 1 [(10,I 401)] [] ?_
  refine rt ?_
  obtain rfl := os h
  exact rq [true]
 ·rintro impl_check_Kimpl_Systemhas_Kimpl_isTermOf_c1_f impl_check_Kimpl_Systemhas_Kimpl_isTermOf_c1_l0_f impl_check_Kimpl_Systemhas_Kimpl_isTermOf_c1_ih impl_check_Kimpl_Systemhas_Kimpl_isTermOf_c1_l0_ih ⟨t0,n1,clo2_0,clo3_0,nodes_23,w_24⟩ r h
  intro c hc
  refine WpL.step ?_
  refine rs0 hc 1 [(1,I n1),(2,.fnb 85 [aSystem clo2_0]),(3,.fn 211 [.ptr [I clo3_0.fSize,sI clo3_0.fPlus,sI clo3_0.fTimes,sB clo3_0.fBelow] 0]),(4,I nodes_23),(5,.ra 1 0),(82,.sl (List.map GTerm_S t0.fKids)),(83,I (t0.fKids.length : Int)),(84,I w_24),(85,.bool (decide (w_24 < (t0.fKids.length : Int))))] [(1,bTerm t0)] ?_
  refine sN ?_
  rcases is h with ⟨hb_25,h⟩ | ⟨hb_25,h⟩
  ·refine cT ((decide (w_24 < (t0.fKids.length : Int)))) hb_25 ?_
   refine sk ?_
   refine sN ?_
   refine bk 2 ?_
   obtain ⟨e_19_1,hi_19_1,h⟩ := bsome h
   refine rs hc none [oN,some (.el (aTerm e_19_1)),oN,some (.new 4),oN,oN] [(1,I n1),(2,.fnb 85 [aSystem clo2_0]),(3,.fn 211 [.ptr [I clo3_0.fSize,sI clo3_0.fPlus,sI clo3_0.fTimes,sB clo3_0.fBelow] 0]),(4,I nodes_23),(5,.ra 1 0),(13,I w_24),(14,.ra 4 0),(82,.sl (List.map GTerm_S t0.fKids)),(83,I (t0.fKids.length : Int)),(84,I w_24)] [(1,bTerm t0),(4,bTerm e_19_1)] (ai (idx_sl (enc := GTerm_S) (x := aTerm e_19_1) hi_19_1 (eq_GTerm_S e_19_1)) trivial) ?_
   obtain ⟨r_20_5,hr_20_5,h⟩ := bsome h
   obtain ⟨r_20_10,hr_20_10,h⟩ := bsome h
   refine rs hc (rx [[0],[0],[0],[0,2],[0],[0,2,3,4],[0,1,2,3,4,5],[0],[0],[0],[10],[11]]) [oN,oN,oN,oN,oN,oc (I r_20_5),oN,oN,oN,oN,oc (I r_20_10),oN] [(1,I n1),(2,.fnb 85 [aSystem clo2_0]),(3,.fn 211 [.ptr [I clo3_0.fSize,sI clo3_0.fPlus,sI clo3_0.fTimes,sB clo3_0.fBelow] 0]),(4,I r_20_10),(5,.ra 1 0),(82,.sl (List.map GTerm_S t0.fKids)),(83,I (t0.fKids.length : Int)),(84,I w_24)] [(1,bTerm t0)] (ai (impl_adds_s _ _ hr_20_5) (ai bod_185 (ai (oi (I r_20_5)) (ai (impl_check_Kimpl_Systemhas_Kimpl_isTermOf_c1_ih _ _ hr_20_10) (ai bod_117 (ai (oi (I r_20_10)) trivial)))))) ?_
   refine rs0 hc 2 [(1,I n1),(2,.fnb 85 [aSystem clo2_0]),(3,.fn 211 [.ptr [I clo3_0.fSize,sI clo3_0.fPlus,sI clo3_0.fTimes,sB clo3_0.fBelow] 0]),(4,I r_20_10),(5,.ra 1 0),(82,.sl (List.map GTerm_S t0.fKids)),(83,I (t0.fKids.length : Int)),(84,I w_24),(101,.bool (decide (r_20_10 > 400)))] [(1,bTerm t0)] ?_
   rcases is h with ⟨hb_26,h⟩ | ⟨hb_26,h⟩
   ·refine cT ((decide (r_20_10 > 400))) hb_26 ?_
    refine rs0 hc 1 [(10,I 401)] [] ?_
    refine rt ?_
    obtain rfl := os h
    exact re [true]
   refine cF ((decide (r_20_10 > 400))) hb_26 ?_
   refine sk ?_
   refine rg0 hc 2 [(1,I n1),(2,.fnb 85 [aSystem clo2_0]),(3,.fn 211 [.ptr [I clo3_0.fSize,sI clo3_0.fPlus,sI clo3_0.fTimes,sB clo3_0.fBelow] 0]),(4,I r_20_10),(5,.ra 1 0),(82,.sl (List.map GTerm_S t0.fKids)),(83,I (t0.fKids.length : Int)),(84,I (wr (w_24 + 1)))] [(1,bTerm t0)] ?_
   refine loopQ_norm ?_
   exact (impl_check_Kimpl_Systemhas_Kimpl_isTermOf_c1_l0_ih _ _ h c hc)
  refine cF ((decide (w_24 < (t0.fKids.length : Int)))) hb_25 ?_
  refine xt 1 ?_
  refine seqQ_exit ?_
  refine loopQ_exit ?_
  obtain rfl := os h
  exact iv []
theorem impl_check_Kimpl_Systemhas_Kimpl_isTermOf_c1_s : ∀ p r,impl_check_Kimpl_Systemhas_Kimpl_isTermOf_c1 p = some r → M_impl_check_Kimpl_Systemhas_Kimpl_isTermOf_c1 p r := impl_check_Kimpl_Systemhas_Kimpl_isTermOf_c1_all.1
theorem impl_check_Kimpl_Systemhas_Kimpl_isTermOf_c1_l0_s : ∀ p r,impl_check_Kimpl_Systemhas_Kimpl_isTermOf_c1_l0 p = some r → M_impl_check_Kimpl_Systemhas_Kimpl_isTermOf_c1_l0 p r := impl_check_Kimpl_Systemhas_Kimpl_isTermOf_c1_all.2
def impl_isTermOf (p : GSystem × GTerm × Int) : Option (Bool) :=
 match p with
 | (s0,t1,n2) =>
  ((
   (impl_within (n2,0,8)) >>= fun r_1_1 =>
   if r_1_1 = true then
    (impl_check_Kimpl_Systemhas_Kimpl_isTermOf_c1 (t1,n2,s0,s0,0)) >>= fun r_1_8 =>
    some ((decide (r_1_8 ≤ 400)))
   else
    some (false)
  ) : Option (Bool)) >>= fun v_1 =>
  some v_1
def M_impl_isTermOf (p : GSystem × GTerm × Int) (r : Bool) : Prop :=
 match p with
 | (s0,t1,n2) => FnSound Tryz.prog 155 [aSystem s0,aTerm t1,I n2] (.bool r) []
theorem impl_isTermOf_s : ∀ p r,impl_isTermOf p = some r → M_impl_isTermOf p r := by
 rintro ⟨s0,t1,n2⟩ r h
 unfold impl_isTermOf at h
 refine b0 Tryz.f155 B155 18 [(0,aSystem s0),(1,aTerm t1),(2,I n2)] fun c hc => ?_
 refine rs hc none [some (.new 1),some (.new 2),oN] [(2,I n2),(3,.ra 1 0),(4,.ra 2 0)] [(1,bSystem s0),(2,bTerm t1)] trivial ?_
 refine sN ?_
 obtain ⟨v_1,hj_2,h⟩ := bsome h
 refine Wp.into (x := .normal) (mkS [(6,.bool v_1)] []) ?_ ?_
 ·replace h := hj_2
  obtain ⟨r_1_1,hr_1_1,h⟩ := bsome h
  rcases is h with ⟨hb_1_0,h⟩ | ⟨hb_1_0,h⟩
  ·obtain ⟨r_1_8,hr_1_8,h⟩ := bsome h
   refine rg hc none [oN,oc (.bool r_1_1),oN,oN,oN,oN,oN,oN,oc (I r_1_8),oN,oT,oN] [(6,.bool (decide (r_1_8 ≤ 400)))] [] (ai (impl_within_s _ _ hr_1_1) (ai bod_108 (ai (oi (.bool r_1_1)) (ar 6 hb_1_0 (ai (impl_check_Kimpl_Systemhas_Kimpl_isTermOf_c1_s _ _ hr_1_8) (ai bod_117 (ai (Or.inr rfl : ([1] : List Nat) = [] ∨ noSh (I r_1_8) = true) (ar 2 hb_1_0 trivial)))))))) ?_
   obtain rfl := os h
   exact Into.mk
  refine rg hc none [oN,oc (.bool r_1_1),oN,o_,o_,o_,o_,o_,o_,o_,oF,oN] [(6,.bool false)] [] (ai (impl_within_s _ _ hr_1_1) (ai bod_108 (ai (oi (.bool r_1_1)) (ar 7 (neT hb_1_0) (ai hb_1_0 trivial))))) ?_
  obtain rfl := os h
  exact Into.mk
 clear hj_2
 refine rt ?_
 obtain rfl := os h
 exact rq [true]
def impl_parts_F1 (c : Ctx) : (List (List Int)) → Exit → AState → Prop
 | out_6 => Into c (.exit 0) (mkS [(3,.rs 3)] [(3,.arr (List.map LI_s out_6))])
def impl_parts_l0 (p : (List Int) × (List (List Int)) × Int) : Option ((List (List Int))) :=
 match p with
 | (ty0,out_4,at_2) =>
  if (decide (at_2 < (ty0.length : Int))) = true then
   (impl_typeEnd (ty0,at_2)) >>= fun r_4_2 =>
   (cut ty0 (some at_2) (some r_4_2) (some r_4_2)) >>= fun c_5_5 =>
   (fits (out_4.length + [c_5_5].length) 24) >>= fun _ =>
   impl_parts_l0 (ty0,(out_4 ++ [c_5_5]),r_4_2)
  else
   some (out_4)
 partial_fixpoint
def M_impl_parts_l0 (p : (List Int) × (List (List Int)) × Int) (fl : (List (List Int))) : Prop :=
 match p with
 | (ty0,out_4,at_2) => ∀ c : Ctx,c.nt = 23 → WpL Tryz.prog c (cl (cl (cr (cl (cr (cr B178)))))) (impl_parts_F1 c fl) (mkS [(0,sI ty0),(3,.rs 3),(4,I at_2)] [(3,.arr (List.map LI_s out_4))])
theorem impl_parts_l0_s : ∀ p r,impl_parts_l0 p = some r → M_impl_parts_l0 p r := by
 refine impl_parts_l0.partial_correctness M_impl_parts_l0 ?_
 rintro impl_parts_l0_f impl_parts_l0_ih ⟨ty0,out_4,at_2⟩ r h
 intro c hc
 refine WpL.step ?_
 refine sN ?_
 refine rs hc none [oN,oN,some (.eqv (.no) ⟨[(8,I (ty0.length : Int))],[],[]⟩),oN] [(0,sI ty0),(3,.rs 3),(4,I at_2),(9,.bool (decide (at_2 < (ty0.length : Int))))] [(3,.arr (List.map LI_s out_4))] (ai (lenT (d := 8) I ty0) trivial) ?_
 rcases is h with ⟨hb_5,h⟩ | ⟨hb_5,h⟩
 ·refine cT ((decide (at_2 < (ty0.length : Int)))) hb_5 ?_
  refine sk ?_
  refine bk 1 ?_
  obtain ⟨r_4_2,hr_4_2,h⟩ := bsome h
  refine rs hc none [oN,oN,oc (I r_4_2),oN] [(0,sI ty0),(3,.rs 3),(4,I at_2),(5,I r_4_2)] [(3,.arr (List.map LI_s out_4))] (ai (impl_typeEnd_s _ _ hr_4_2) (ai bod_186 (ai (oi (I r_4_2)) trivial))) ?_
  obtain ⟨c_5_5,hs_5_5,h⟩ := bsome h
  obtain ⟨_,hk_5_7,h⟩ := bsome h
  refine rs hc none [oN,oN,oN,oN,oN,some (.eqv (.no) ⟨[(18,sI c_5_5)],[],[]⟩),some (.mk 6 false),some (.eqv (.mk 7 true) ⟨[(20,.rs 7)],[(7,some (.arr (List.map LI_s (out_4 ++ [c_5_5])))),(3,none),(6,none)],[7]⟩),oN] [(0,sI ty0),(3,.rs 7),(5,I r_4_2)] [(7,.arr (List.map LI_s (out_4 ++ [c_5_5])))] (ai (cut_wr (d := 18) I hs_5_5) (ai (cut_ob (enc := I) (sz := 1) sz_I hs_5_5) (ai (congrArg (fun z => (⟨[(20,.rs 7)],[(7,some (.arr z)),(3,none),(6,none)],[7]⟩ : Wr)) ((List.map_append).symm : (List.map LI_s out_4) ++ (List.map LI_s [c_5_5]) = List.map LI_s (out_4 ++ [c_5_5]))) (ai (app_ob (enc1 := LI_s) (enc2 := LI_s) (e1 := out_4) (e2 := [c_5_5]) (sz := 1) ek_LI_s ek_LI_s hk_5_7) trivial)))) ?_
  refine rg0 hc 2 [(0,sI ty0),(3,.rs 7),(4,I r_4_2)] [(7,.arr (List.map LI_s (out_4 ++ [c_5_5])))] ?_
  refine loopQ_norm ?_
  exact WpL.view (fun a w hv => SRx.renL [(3,7)] hv (by kernel_rfl) (by kernel_rfl) (by kernel_rfl)) (impl_parts_l0_ih _ _ h c hc)
 refine cF ((decide (at_2 < (ty0.length : Int)))) hb_5 ?_
 refine xt 0 ?_
 refine seqQ_exit ?_
 refine loopQ_exit ?_
 obtain rfl := os h
 exact iv []
def impl_parts (ty0 : (List Int)) : Option ((List (List Int))) :=
  (impl_parts_l0 (ty0,[],1)) >>= fun out_6 =>
  some out_6
def M_impl_parts (ty0 : (List Int)) (r : (List (List Int))) : Prop :=
 FnSound Tryz.prog 178 [sI ty0] (.osl (List.map LI_s r)) []
theorem impl_parts_s : ∀ p r,impl_parts p = some r → M_impl_parts p r := by
 rintro ty0 r h
 unfold impl_parts at h
 refine b0 Tryz.f178 B178 23 [(0,sI ty0)] fun c hc => ?_
 refine rs0 hc 1 [(0,sI ty0)] [] ?_
 refine rs0 hc 1 [(0,sI ty0),(3,.nils)] [] ?_
 refine sN ?_
 refine rs0 hc 1 [(0,sI ty0),(3,.nils),(4,I 1)] [] ?_
 refine bk 0 ?_
 obtain ⟨out_6,hl_7,h⟩ := bsome h
 have hL := impl_parts_l0_s _ _ hl_7 c hc
 refine Wp.loopN (by kernel_rfl) (WpL.view (fun a w hv => SRx.renL [(3,8)] (SRx.nilTL 3 8 hv (by kernel_rfl) (by kernel_rfl)) (by kernel_rfl) (by kernel_rfl) (by kernel_rfl)) (?_ : WpL _ c _ _ (mkS [(0,sI ty0),(3,.rs 3),(4,I 1)] [(3,.arr (List.map LI_s []))])))
 refine WpL.into (e := (.exit 0)) (mkS [(3,.rs 3)] [(3,.arr (List.map LI_s out_6))]) hL ?_
 refine blockQ_hit ?_
 refine rs0 hc 2 [(2,.rs 3)] [(3,.arr (List.map LI_s out_6))] ?_
 refine rt ?_
 obtain rfl := os h
 exact rq [true]
def impl_added (p : GTerm × Int × (List Int)) : Option ((List (List Int))) :=
 match p with
 | (t0,kid1,first2) =>
  if (t0.fOp == 9) = true then
   some [t0.fType]
  else
   (impl_adds (t0.fOp,kid1)) >>= fun r_3_3 =>
   if (r_3_3 == 0) = true then
    some []
   else
    (impl_parts first2) >>= fun r_5_1 =>
    if (t0.fOp == 5) = true then
     (idx r_5_1 1) >>= fun e_8_1 =>
     (idx r_5_1 0) >>= fun e_8_4 =>
     some [e_8_1,e_8_4]
    else
     if (t0.fOp == 8) = true then
      (idx r_5_1 (wr (kid1 - 1))) >>= fun e_10_3 =>
      some [e_10_3]
     else
      some r_5_1
def M_impl_added (p : GTerm × Int × (List Int)) (r : (List (List Int))) : Prop :=
 match p with
 | (t0,kid1,first2) => FnSound Tryz.prog 174 [aTerm t0,I kid1,sI first2] (.osl (List.map LI_s r)) []
theorem impl_added_s : ∀ p r,impl_added p = some r → M_impl_added p r := by
 rintro ⟨t0,kid1,first2⟩ r h
 unfold impl_added at h
 refine b0 Tryz.f174 B174 43 [(0,aTerm t0),(1,I kid1),(2,sI first2)] fun c hc => ?_
 refine rs hc none [some (.new 1),oN] [(1,I kid1),(2,sI first2),(3,.ra 1 0)] [(1,bTerm t0)] trivial ?_
 refine sN ?_
 refine bk 0 ?_
 refine rs0 hc 4 [(1,I kid1),(2,sI first2),(3,.ra 1 0),(8,.bool (t0.fOp == 9))] [(1,bTerm t0)] ?_
 rcases is h with ⟨hb_1,h⟩ | ⟨hb_1,h⟩
 ·refine cT ((t0.fOp == 9)) hb_1 ?_
  refine rs hc none [oN,oN,some (.mk 2 false),oN] [(6,.rs 2)] [(2,.arr (List.map LI_s [t0.fType]))] trivial ?_
  refine rt ?_
  obtain rfl := os h
  exact rq [true]
 refine cF ((t0.fOp == 9)) hb_1 ?_
 obtain ⟨r_3_3,hr_3_3,h⟩ := bsome h
 refine rs hc none [oN,oN,oN,oc (I r_3_3),oN,oN] [(1,I kid1),(2,sI first2),(3,.ra 1 0),(15,.bool (r_3_3 == 0))] [(1,bTerm t0)] (ai (impl_adds_s _ _ hr_3_3) (ai bod_185 (ai (oi (I r_3_3)) trivial))) ?_
 rcases is h with ⟨hb_2,h⟩ | ⟨hb_2,h⟩
 ·refine cT ((r_3_3 == 0)) hb_2 ?_
  refine rs0 hc 1 [(6,.nils)] [] ?_
  refine rt ?_
  obtain rfl := os h
  exact rq [true]
 refine cF ((r_3_3 == 0)) hb_2 ?_
 refine sk ?_
 obtain ⟨r_5_1,hr_5_1,h⟩ := bsome h
 refine rs hc none [oN,some (.call (.osl (List.map LI_s r_5_1)) [] 3),oN] [(1,I kid1),(3,.ra 1 0),(7,.rs 3)] [(1,bTerm t0),(3,.arr (List.map LI_s r_5_1))] (ai (impl_parts_s _ _ hr_5_1) (ai bod_178 (ai (oi (.osl (List.map LI_s r_5_1))) trivial))) ?_
 refine sN ?_
 refine rs0 hc 2 [(1,I kid1),(7,.rs 3),(24,I t0.fOp)] [(3,.arr (List.map LI_s r_5_1))] ?_
 refine bk 1 ?_
 refine rs0 hc 2 [(1,I kid1),(7,.rs 3),(24,I t0.fOp),(25,.bool (t0.fOp == 5))] [(3,.arr (List.map LI_s r_5_1))] ?_
 rcases is h with ⟨hb_3,h⟩ | ⟨hb_3,h⟩
 ·refine cT ((t0.fOp == 5)) hb_3 ?_
  obtain ⟨e_8_1,hi_8_1,h⟩ := bsome h
  obtain ⟨e_8_4,hi_8_4,h⟩ := bsome h
  refine rs hc (rx [[0],[1],[2],[0],[0,3],[0,3,4],[6],[7]]) [oN,oN,some (.el (sI e_8_1)),oN,oN,some (.el (sI e_8_4)),some (.mk 4 false),oN] [(6,.rs 4)] [(4,.arr (List.map LI_s [e_8_1,e_8_4]))] (ai (idx_own (enc := LI_s) hi_8_1) (ai (idx_sl (enc := LI_s) (x := sI e_8_1) hi_8_1 (eq_LI_s e_8_1)).2 (ai (idx_own (enc := LI_s) hi_8_4) (ai (idx_sl (enc := LI_s) (x := sI e_8_4) hi_8_4 (eq_LI_s e_8_4)).2 trivial)))) ?_
  refine rt ?_
  obtain rfl := os h
  exact rq [true]
 refine cF ((t0.fOp == 5)) hb_3 ?_
 refine rs0 hc 2 [(1,I kid1),(7,.rs 3),(34,.bool (t0.fOp == 8))] [(3,.arr (List.map LI_s r_5_1))] ?_
 rcases is h with ⟨hb_4,h⟩ | ⟨hb_4,h⟩
 ·refine cT ((t0.fOp == 8)) hb_4 ?_
  obtain ⟨e_10_3,hi_10_3,h⟩ := bsome h
  refine rs hc none [oN,oN,oN,oN,some (.el (sI e_10_3)),some (.mk 5 false),oN] [(6,.rs 5)] [(5,.arr (List.map LI_s [e_10_3]))] (ai (idx_own (enc := LI_s) hi_10_3) (ai (idx_sl (enc := LI_s) (x := sI e_10_3) hi_10_3 (eq_LI_s e_10_3)).2 trivial)) ?_
  refine rt ?_
  obtain rfl := os h
  exact rq [true]
 refine cF ((t0.fOp == 8)) hb_4 ?_
 refine sk ?_
 refine rs0 hc 2 [(6,.rs 3)] [(3,.arr (List.map LI_s r_5_1))] ?_
 refine rt ?_
 obtain rfl := os h
 exact rq [true]
def slices_Grow_Lint (n1 : Int) : Option (Unit) :=
  if (decide (n1 < 0)) = true then
   none
  else
   if (decide ((wr (n1 - (wr (0 - 0)))) > 0)) = true then
    (chk (0 ≤ (wr (n1 - (wr (0 - 0)))) ∧ (Int.toNat (wr (n1 - (wr (0 - 0))))) * 24 ≤ 140737488355328)) >>= fun _ =>
    some ()
   else
    some ()
def M_slices_Grow_Lint (n1 : Int) (r : Unit) : Prop :=
 GrowS Tryz.prog 219 n1
theorem slices_Grow_Lint_s : ∀ p r,slices_Grow_Lint p = some r → M_slices_Grow_Lint p r := by
 rintro n1 r h
 unfold slices_Grow_Lint at h
 show GrowS Tryz.prog 219 n1
 refine GrowS.of_body tiok (fn := Tryz.f219) (code := B219) (by kernel_rfl) (by kernel_rfl) (nt := 27) (by kernel_rfl) (by kernel_rfl) (fun c hc => ?_)
 refine rs0 hc 1 [(0,.nils),(1,I n1)] [] ?_
 refine sN ?_
 refine rs0 hc 2 [(0,.nils),(1,I n1),(6,.bool (decide (n1 < 0)))] [] ?_
 rcases is h with ⟨hb_1,h⟩ | ⟨hb_1,h⟩
 ·refine cT ((decide (n1 < 0))) hb_1 ?_
  cases h
 refine cF ((decide (n1 < 0))) hb_1 ?_
 refine sk ?_
 refine sN ?_
 refine rs0 hc 8 [(0,.nils),(1,I (wr (n1 - (wr (0 - 0)))))] [] ?_
 refine rs0 hc 2 [(0,.nils),(1,I (wr (n1 - (wr (0 - 0))))),(16,.bool (decide ((wr (n1 - (wr (0 - 0)))) > 0)))] [] ?_
 rcases is h with ⟨hb_2,h⟩ | ⟨hb_2,h⟩
 ·refine cT ((decide ((wr (n1 - (wr (0 - 0)))) > 0))) hb_2 ?_
  obtain ⟨_,hk_5_5,h⟩ := bsome h
  refine rg hc none [oN,oN,oN,oN,oN,some (.new 1),oN,oN,some (.new 2),oN] [(0,.rs 2)] [(2,.ary (List.map LI_s []))] (ai (chk_of hk_5_5) trivial) ?_
  refine rs0 hc 2 [(4,.rs 2)] [(2,.ary (List.map LI_s []))] ?_
  refine rt ?_
  exact EndY.ret (by kernel_rfl)
 refine cF ((decide ((wr (n1 - (wr (0 - 0)))) > 0))) hb_2 ?_
 refine sk ?_
 refine rs0 hc 2 [(4,.nils)] [] ?_
 refine rt ?_
 exact EndY.ret (by kernel_rfl)
def slices_Concat_Lint_F1 (c : Ctx) (slices0 : List (List (List Int))) : Int → Exit → AState → Prop
 | size_9 => Into c (.exit 0) (mkS [(0,.sl (List.map LLI_s slices0)),(3,I size_9)] [])
def slices_Concat_Lint_l0 (p : (List (List (List Int))) × Int × Int) : Option (Int) :=
 match p with
 | (slices0,size_4,w_5) =>
  if (decide (w_5 < (slices0.length : Int))) = true then
   (idx slices0 w_5) >>= fun e_4_0 =>
   ((
    if (decide ((wr (size_4 + (e_4_0.length : Int))) < 0)) = true then
     none
    else
     some (())
   ) : Option (Unit)) >>= fun () =>
   slices_Concat_Lint_l0 (slices0,(wr (size_4 + (e_4_0.length : Int))),(wr (w_5 + 1)))
  else
   some (size_4)
 partial_fixpoint
def M_slices_Concat_Lint_l0 (p : (List (List (List Int))) × Int × Int) (fl : Int) : Prop :=
 match p with
 | (slices0,size_4,w_5) => ∀ c : Ctx,c.nt = 36 → WpL Tryz.prog c (cl (cl (cr (cl (cr (cr B176)))))) (slices_Concat_Lint_F1 c slices0 fl) (mkS [(0,.sl (List.map LLI_s slices0)),(3,I size_4),(9,.sl (List.map LLI_s slices0)),(10,I (slices0.length : Int)),(11,I w_5)] [])
theorem slices_Concat_Lint_l0_s : ∀ p r,slices_Concat_Lint_l0 p = some r → M_slices_Concat_Lint_l0 p r := by
 refine slices_Concat_Lint_l0.partial_correctness M_slices_Concat_Lint_l0 ?_
 rintro slices_Concat_Lint_l0_f slices_Concat_Lint_l0_ih ⟨slices0,size_4,w_5⟩ r h
 intro c hc
 refine WpL.step ?_
 refine rs0 hc 1 [(0,.sl (List.map LLI_s slices0)),(3,I size_4),(9,.sl (List.map LLI_s slices0)),(10,I (slices0.length : Int)),(11,I w_5),(12,.bool (decide (w_5 < (slices0.length : Int))))] [] ?_
 refine sN ?_
 rcases is h with ⟨hb_6,h⟩ | ⟨hb_6,h⟩
 ·refine cT ((decide (w_5 < (slices0.length : Int)))) hb_6 ?_
  refine sk ?_
  refine sN ?_
  refine bk 1 ?_
  obtain ⟨e_4_0,hi_4_0,h⟩ := bsome h
  refine rs hc none [some (.el (sL e_4_0)),oN,oN] [(0,.sl (List.map LLI_s slices0)),(3,I size_4),(5,sL e_4_0),(9,.sl (List.map LLI_s slices0)),(10,I (slices0.length : Int)),(11,I w_5)] [] (ai (idx_sl (enc := LLI_s) (x := sL e_4_0) hi_4_0 (eq_LLI_s e_4_0)) trivial) ?_
  refine rs hc none [oN,oN,some (.eqv (.no) ⟨[(17,I (e_4_0.length : Int))],[],[]⟩),oN,oN] [(0,.sl (List.map LLI_s slices0)),(3,I (wr (size_4 + (e_4_0.length : Int)))),(9,.sl (List.map LLI_s slices0)),(10,I (slices0.length : Int)),(11,I w_5)] [] (ai (lenT (d := 17) LI_s e_4_0) trivial) ?_
  refine rs0 hc 2 [(0,.sl (List.map LLI_s slices0)),(3,I (wr (size_4 + (e_4_0.length : Int)))),(9,.sl (List.map LLI_s slices0)),(10,I (slices0.length : Int)),(11,I w_5),(20,.bool (decide ((wr (size_4 + (e_4_0.length : Int))) < 0)))] [] ?_
  obtain ⟨⟨⟩,hj_8,h⟩ := bsome h
  refine Wp.into (x := .normal) (mkS [(0,.sl (List.map LLI_s slices0)),(3,I (wr (size_4 + (e_4_0.length : Int)))),(9,.sl (List.map LLI_s slices0)),(10,I (slices0.length : Int)),(11,I w_5)] []) ?_ ?_
  ·replace h := hj_8
   rcases is h with ⟨hb_7,h⟩ | ⟨hb_7,h⟩
   ·refine cT ((decide ((wr (size_4 + (e_4_0.length : Int))) < 0))) hb_7 ?_
    cases h
   refine cF ((decide ((wr (size_4 + (e_4_0.length : Int))) < 0))) hb_7 ?_
   refine sk ?_
   exact iv []
  clear hj_8
  refine rg0 hc 2 [(0,.sl (List.map LLI_s slices0)),(3,I (wr (size_4 + (e_4_0.length : Int)))),(9,.sl (List.map LLI_s slices0)),(10,I (slices0.length : Int)),(11,I (wr (w_5 + 1)))] [] ?_
  refine loopQ_norm ?_
  exact (slices_Concat_Lint_l0_ih _ _ h c hc)
 refine cF ((decide (w_5 < (slices0.length : Int)))) hb_6 ?_
 refine xt 0 ?_
 refine seqQ_exit ?_
 refine loopQ_exit ?_
 obtain rfl := os h
 exact iv []
def slices_Concat_Lint_F2 (c : Ctx) : (List (List Int)) → Exit → AState → Prop
 | newslice_15 => Into c (.exit 2) (mkS [(6,.rs 1)] [(1,.ary (List.map LI_s newslice_15))])
def slices_Concat_Lint_l1 (p : (List (List (List Int))) × (List (List Int)) × Int) : Option ((List (List Int))) :=
 match p with
 | (slices0,newslice_12,w_13) =>
  if (decide (w_13 < (slices0.length : Int))) = true then
   (idx slices0 w_13) >>= fun e_12_0 =>
   (fits (newslice_12.length + e_12_0.length) 24) >>= fun _ =>
   slices_Concat_Lint_l1 (slices0,(newslice_12 ++ e_12_0),(wr (w_13 + 1)))
  else
   some (newslice_12)
 partial_fixpoint
def M_slices_Concat_Lint_l1 (p : (List (List (List Int))) × (List (List Int)) × Int) (fl : (List (List Int))) : Prop :=
 match p with
 | (slices0,newslice_12,w_13) => ∀ c : Ctx,c.nt = 36 → WpL Tryz.prog c (cl (cl (cr (cl (cr (cr (cr (cr B176)))))))) (slices_Concat_Lint_F2 c fl) (mkS [(6,.rs 1),(25,.sl (List.map LLI_s slices0)),(26,I (slices0.length : Int)),(27,I w_13)] [(1,.ary (List.map LI_s newslice_12))])
theorem slices_Concat_Lint_l1_s : ∀ p r,slices_Concat_Lint_l1 p = some r → M_slices_Concat_Lint_l1 p r := by
 refine slices_Concat_Lint_l1.partial_correctness M_slices_Concat_Lint_l1 ?_
 rintro slices_Concat_Lint_l1_f slices_Concat_Lint_l1_ih ⟨slices0,newslice_12,w_13⟩ r h
 intro c hc
 refine WpL.step ?_
 refine rs0 hc 1 [(6,.rs 1),(25,.sl (List.map LLI_s slices0)),(26,I (slices0.length : Int)),(27,I w_13),(28,.bool (decide (w_13 < (slices0.length : Int))))] [(1,.ary (List.map LI_s newslice_12))] ?_
 refine sN ?_
 rcases is h with ⟨hb_14,h⟩ | ⟨hb_14,h⟩
 ·refine cT ((decide (w_13 < (slices0.length : Int)))) hb_14 ?_
  refine sk ?_
  refine sN ?_
  refine bk 3 ?_
  obtain ⟨e_12_0,hi_12_0,h⟩ := bsome h
  refine rs hc none [some (.el (sL e_12_0)),oN,oN] [(6,.rs 1),(8,sL e_12_0),(25,.sl (List.map LLI_s slices0)),(26,I (slices0.length : Int)),(27,I w_13)] [(1,.ary (List.map LI_s newslice_12))] (ai (idx_sl (enc := LLI_s) (x := sL e_12_0) hi_12_0 (eq_LLI_s e_12_0)) trivial) ?_
  obtain ⟨_,hk_13_2,h⟩ := bsome h
  refine rg hc none [oN,oN,some (.eqv (.new 3) ⟨[(33,.rs 3)],[(3,some (.ary (List.map LI_s (newslice_12 ++ e_12_0)))),(1,none)],[3]⟩),oN] [(6,.rs 3),(25,.sl (List.map LLI_s slices0)),(26,I (slices0.length : Int)),(27,I w_13)] [(3,.ary (List.map LI_s (newslice_12 ++ e_12_0)))] (ai (congrArg (fun z => (⟨[(33,.rs 3)],[(3,some (.ary z)),(1,none)],[3]⟩ : Wr)) ((List.map_append).symm : (List.map LI_s newslice_12) ++ (List.map LI_s e_12_0) = List.map LI_s (newslice_12 ++ e_12_0))) (ai (appY_ob (enc := LI_s) (e1 := newslice_12) (e2 := e_12_0) (fun _ => rfl) hk_13_2) trivial)) ?_
  refine rg0 hc 2 [(6,.rs 3),(25,.sl (List.map LLI_s slices0)),(26,I (slices0.length : Int)),(27,I (wr (w_13 + 1)))] [(3,.ary (List.map LI_s (newslice_12 ++ e_12_0)))] ?_
  refine loopQ_norm ?_
  exact WpL.view (fun a w hv => SRx.renL [(1,3)] hv (by kernel_rfl) (by kernel_rfl) (by kernel_rfl)) (slices_Concat_Lint_l1_ih _ _ h c hc)
 refine cF ((decide (w_13 < (slices0.length : Int)))) hb_14 ?_
 refine xt 2 ?_
 refine seqQ_exit ?_
 refine loopQ_exit ?_
 obtain rfl := os h
 exact iv []
def slices_Concat_Lint (slices0 : (List (List (List Int)))) : Option ((List (List Int))) :=
  (slices_Concat_Lint_l0 (slices0,0,0)) >>= fun size_9 =>
  (slices_Grow_Lint size_9) >>= fun _ =>
  (slices_Concat_Lint_l1 (slices0,[],0)) >>= fun newslice_15 =>
  some newslice_15
def M_slices_Concat_Lint (slices0 : (List (List (List Int)))) (r : (List (List Int))) : Prop :=
 FnSound Tryz.prog 176 [.sl (List.map LLI_s slices0)] (sL r) []
theorem slices_Concat_Lint_s : ∀ p r,slices_Concat_Lint p = some r → M_slices_Concat_Lint p r := by
 rintro slices0 r h
 unfold slices_Concat_Lint at h
 refine b0 Tryz.f176 B176 36 [(0,.sl (List.map LLI_s slices0))] fun c hc => ?_
 refine rs0 hc 1 [(0,.sl (List.map LLI_s slices0))] [] ?_
 refine rs0 hc 1 [(0,.sl (List.map LLI_s slices0)),(3,I 0)] [] ?_
 refine sN ?_
 refine rs hc none [oN,some (.eqv (.no) ⟨[(10,I (slices0.length : Int))],[],[]⟩),oN] [(0,.sl (List.map LLI_s slices0)),(3,I 0),(9,.sl (List.map LLI_s slices0)),(10,I (slices0.length : Int)),(11,I 0)] [] (ai (lenT (d := 10) LLI_s slices0) trivial) ?_
 refine bk 0 ?_
 obtain ⟨size_9,hl_10,h⟩ := bsome h
 have hL := slices_Concat_Lint_l0_s _ _ hl_10 c hc
 refine lp ?_
 refine WpL.into (e := (.exit 0)) (mkS [(0,.sl (List.map LLI_s slices0)),(3,I size_9)] []) hL ?_
 refine blockQ_hit ?_
 obtain ⟨_,hr_9_1,h⟩ := bsome h
 refine rs hc none [oN,some (.new 1),oN] [(0,.sl (List.map LLI_s slices0)),(6,.rs 1)] [(1,.ary (List.map LI_s []))] (ai (slices_Grow_Lint_s _ _ hr_9_1) (ai bod_219 trivial)) ?_
 refine sN ?_
 refine rs hc none [oN,some (.eqv (.no) ⟨[(26,I (slices0.length : Int))],[],[]⟩),oN] [(6,.rs 1),(25,.sl (List.map LLI_s slices0)),(26,I (slices0.length : Int)),(27,I 0)] [(1,.ary (List.map LI_s []))] (ai (lenT (d := 26) LLI_s slices0) trivial) ?_
 refine bk 2 ?_
 obtain ⟨newslice_15,hl_16,h⟩ := bsome h
 have hL := slices_Concat_Lint_l1_s _ _ hl_16 c hc
 refine lp ?_
 refine WpL.into (e := (.exit 2)) (mkS [(6,.rs 1)] [(1,.ary (List.map LI_s newslice_15))]) hL ?_
 refine blockQ_hit ?_
 refine rs0 hc 2 [(2,.rs 1)] [(1,.ary (List.map LI_s newslice_15))] ?_
 refine Wp.view (fun a w hv => SRx.frzYL 1 (xs := List.map LI_s newslice_15) hv (by kernel_rfl) (by kernel_rfl) (by kernel_rfl)) (?_ : Wp Tryz.prog c _ _ (mkS [(2,sL newslice_15)] []))
 refine rt ?_
 obtain rfl := os h
 exact rq [false]
end Go.Am
