/- Functions of the program as pure functions,and that it computes them. Printed by a program of mine (gen.py). -/
import Derived.Test.YtmcpomoofkjfcaaGreatGFIF2
set_option linter.unusedVariables false
set_option linter.unusedSimpArgs false
set_option maxRecDepth 100000
namespace Go.Am
open Go Go.Proofs
def spec_l2Adds (p : Int × Int) : Option (Int) :=
 match p with
 | (op0,kid1) =>
  ((
   if (op0 == 5) = true then
    some ((kid1 == 1))
   else
    some (false)
  ) : Option (Bool)) >>= fun v_1 =>
  if v_1 = true then
   some 2
  else
   ((
    if (op0 == 8) = true then
     if (decide (kid1 > 0)) = true then
      some (true)
     else
      if (op0 == 9) = true then
       some (true)
      else
       if (op0 == 12) = true then
        some ((kid1 == 1))
       else
        some (false)
    else
     if (op0 == 9) = true then
      some (true)
     else
      if (op0 == 12) = true then
       some ((kid1 == 1))
      else
       some (false)
   ) : Option (Bool)) >>= fun v_4 =>
   if v_4 = true then
    some 1
   else
    some 0
def M_spec_l2Adds (p : Int × Int) (r : Int) : Prop :=
 match p with
 | (op0,kid1) => FnSound Tryz.prog 157 [I op0,I kid1] (I r) []
theorem spec_l2Adds_s : ∀ p r,spec_l2Adds p = some r → M_spec_l2Adds p r := by
 rintro ⟨op0,kid1⟩ r h
 unfold spec_l2Adds at h
 refine b0 Tryz.f157 B157 31 [(0,I op0),(1,I kid1)] fun c hc => ?_
 refine rs0 hc 1 [(0,I op0),(1,I kid1)] [] ?_
 refine sN ?_
 refine bk 0 ?_
 refine sN ?_
 obtain ⟨v_1,hj_2,h⟩ := bsome h
 refine Wp.into (x := .normal) (mkS [(0,I op0),(1,I kid1),(5,.bool v_1)] []) ?_ ?_
 ·replace h := hj_2
  rcases is h with ⟨hb_1_0,h⟩ | ⟨hb_1_0,h⟩
  ·refine rg hc none [oN,oN,oN,oN,oN,oT,oN] [(0,I op0),(1,I kid1),(5,.bool (kid1 == 1))] [] (ar 3 hb_1_0 trivial) ?_
   obtain rfl := os h
   exact Into.mk
  refine rg hc none [oN,oN,oN,o_,o_,oF,oN] [(0,I op0),(1,I kid1),(5,.bool false)] [] (ar 2 (neT hb_1_0) (ai hb_1_0 trivial)) ?_
  obtain rfl := os h
  exact Into.mk
 clear hj_2
 rcases is h with ⟨hb_3,h⟩ | ⟨hb_3,h⟩
 ·refine cT v_1 hb_3 ?_
  refine rs0 hc 1 [(4,I 2)] [] ?_
  refine rt ?_
  obtain rfl := os h
  exact rq [true]
 refine cF v_1 hb_3 ?_
 refine sN ?_
 obtain ⟨v_4,hj_5,h⟩ := bsome h
 refine Wp.into (x := .normal) (mkS [(12,.bool v_4)] []) ?_ ?_
 ·replace h := hj_5
  rcases is h with ⟨hb_3_0,h⟩ | ⟨hb_3_0,h⟩
  ·rcases is h with ⟨hb_3_1,h⟩ | ⟨hb_3_1,h⟩
   ·refine rg hc none [oN,oN,oN,oN,oN,oT,oN,o_,o_,oT,oN,o_,o_,o_,o_,o_,o_,oT,oN] [(12,.bool true)] [] (ar 3 hb_3_0 (ar 2 (neF hb_3_1) (ai hb_3_1 (ar 4 nf (ai tt trivial))))) ?_
    obtain rfl := os h
    exact Into.mk
   rcases is h with ⟨hb_3_2,h⟩ | ⟨hb_3_2,h⟩
   ·refine rg hc none [oN,oN,oN,oN,oN,oT,oN,oN,oN,oF,oN,o_,o_,o_,o_,o_,o_,oT,oN] [(12,.bool true)] [] (ar 3 hb_3_0 (ar 3 hb_3_1 (ar 4 (neF hb_3_2) (ai hb_3_2 trivial)))) ?_
    obtain rfl := os h
    exact Into.mk
   rcases is h with ⟨hb_3_3,h⟩ | ⟨hb_3_3,h⟩
   ·refine rg hc none [oN,oN,oN,oN,oN,oT,oN,oN,oN,oF,oN,oN,oN,oN,oN,oN,oT,oF,oN] [(12,.bool (kid1 == 1))] [] (ar 3 hb_3_0 (ar 3 hb_3_1 (ar 3 hb_3_2 (ar 2 hb_3_3 (ai hb_3_2 (ai hb_3_3 (ai hb_3_2 trivial))))))) ?_
    obtain rfl := os h
    exact Into.mk
   refine rg hc none [oN,oN,oN,oN,oN,oT,oN,oN,oN,oF,oN,oN,oN,oN,o_,o_,oF,oF,oN] [(12,.bool false)] [] (ar 3 hb_3_0 (ar 3 hb_3_1 (ar 3 hb_3_2 (ar 2 (neT hb_3_3) (ai hb_3_2 (ai hb_3_3 (ai hb_3_2 trivial))))))) ?_
   obtain rfl := os h
   exact Into.mk
  rcases is h with ⟨hb_3_1,h⟩ | ⟨hb_3_1,h⟩
  ·refine rg hc none [oN,oN,oN,o_,o_,oF,oN,oN,oN,oF,oN,o_,o_,o_,o_,o_,o_,oT,oN] [(12,.bool true)] [] (ar 2 (neT hb_3_0) (ai hb_3_0 (ar 3 (rfl : false = false) (ar 4 (neF hb_3_1) (ai hb_3_1 trivial))))) ?_
   obtain rfl := os h
   exact Into.mk
  rcases is h with ⟨hb_3_2,h⟩ | ⟨hb_3_2,h⟩
  ·refine rg hc none [oN,oN,oN,o_,o_,oF,oN,oN,oN,oF,oN,oN,oN,oN,oN,oN,oT,oF,oN] [(12,.bool (kid1 == 1))] [] (ar 2 (neT hb_3_0) (ai hb_3_0 (ar 3 (rfl : false = false) (ar 3 hb_3_1 (ar 2 hb_3_2 (ai hb_3_1 (ai hb_3_2 (ai hb_3_1 trivial)))))))) ?_
   obtain rfl := os h
   exact Into.mk
  refine rg hc none [oN,oN,oN,o_,o_,oF,oN,oN,oN,oF,oN,oN,oN,oN,o_,o_,oF,oF,oN] [(12,.bool false)] [] (ar 2 (neT hb_3_0) (ai hb_3_0 (ar 3 (rfl : false = false) (ar 3 hb_3_1 (ar 2 (neT hb_3_2) (ai hb_3_1 (ai hb_3_2 (ai hb_3_1 trivial)))))))) ?_
  obtain rfl := os h
  exact Into.mk
 clear hj_5
 rcases is h with ⟨hb_6,h⟩ | ⟨hb_6,h⟩
 ·refine cT v_4 hb_6 ?_
  refine rs0 hc 1 [(4,I 1)] [] ?_
  refine rt ?_
  obtain rfl := os h
  exact rq [true]
 refine cF v_4 hb_6 ?_
 refine sk ?_
 refine rs0 hc 1 [(4,I 0)] [] ?_
 refine rt ?_
 obtain rfl := os h
 exact rq [true]
def spec_l2Term_F1 (c : Ctx) : (Unit) ⊕ (Bool) → Exit → AState → Prop
 | .inl _ => Into c (.exit 0) (mkS [] [])
 | .inr r => RetE TIx Tryz.f161 [] (.bool r)
mutual
def spec_l2Term (p : GTerm × Int × Int × Bool) : Option (Bool) :=
 match p with
 | (t0,n1,size2,closed3) =>
  (spec_l2Node (t0,n1,size2,closed3)) >>= fun r_1_4 =>
  if r_1_4 = true then
   (spec_l2Term_l0 (t0,n1,size2,closed3,0)) >>= fun fl => match fl with
   | .inl () =>
    some true
   | .inr r =>
    some r
  else
   some false
 partial_fixpoint
def spec_l2Term_l0 (p : GTerm × Int × Int × Bool × Int) : Option ((Unit) ⊕ (Bool)) :=
 match p with
 | (t0,n1,size2,closed3,k_4) =>
  if (decide (k_4 < (t0.fKids.length : Int))) = true then
   (idx t0.fKids k_4) >>= fun e_6_3 =>
   (spec_l2Adds (t0.fOp,k_4)) >>= fun r_6_9 =>
   (spec_l2Term (e_6_3,(wr (n1 + r_6_9)),size2,closed3)) >>= fun r_6_13 =>
   if r_6_13 = true then
    spec_l2Term_l0 (t0,n1,size2,closed3,(wr (k_4 + 1)))
   else
    some (.inr false)
  else
   some (.inl ())
 partial_fixpoint
end
def M_spec_l2Term (p : GTerm × Int × Int × Bool) (r : Bool) : Prop :=
 match p with
 | (t0,n1,size2,closed3) => FnSound Tryz.prog 161 [aTerm t0,I n1,I size2,.bool closed3] (.bool r) []
def M_spec_l2Term_l0 (p : GTerm × Int × Int × Bool × Int) (fl : (Unit) ⊕ (Bool)) : Prop :=
 match p with
 | (t0,n1,size2,closed3,k_4) => ∀ c : Ctx,c.nt = 38 → WpL Tryz.prog c (cl (cl (cr (cl (cr (cr B161)))))) (spec_l2Term_F1 c fl) (mkS [(1,I n1),(2,I size2),(3,.bool closed3),(4,.ra 1 0),(9,I k_4)] [(1,bTerm t0)])
theorem spec_l2Term_all : (∀ p r,spec_l2Term p = some r → M_spec_l2Term p r) ∧ (∀ p r,spec_l2Term_l0 p = some r → M_spec_l2Term_l0 p r) := by
 refine spec_l2Term.mutual_partial_correctness M_spec_l2Term M_spec_l2Term_l0 ?_ ?_
 ·rintro spec_l2Term_l0_f spec_l2Term_l0_ih ⟨t0,n1,size2,closed3⟩ r h
  refine b0 Tryz.f161 B161 38 [(0,aTerm t0),(1,I n1),(2,I size2),(3,.bool closed3)] fun c hc => ?_
  refine rs hc none [some (.new 1),oN] [(1,I n1),(2,I size2),(3,.bool closed3),(4,.ra 1 0)] [(1,bTerm t0)] trivial ?_
  refine sN ?_
  obtain ⟨r_1_4,hr_1_4,h⟩ := bsome h
  refine rs hc none [oN,oN,oN,oN,oc (.bool r_1_4),oN] [(1,I n1),(2,I size2),(3,.bool closed3),(4,.ra 1 0),(15,.bool (!r_1_4))] [(1,bTerm t0)] (ai (spec_l2Node_s _ _ hr_1_4) (ai bod_212 (ai (oi (.bool r_1_4)) trivial))) ?_
  rcases is h with ⟨hb_1,h⟩ | ⟨hb_1,h⟩
  ·refine cF (!r_1_4) (nF hb_1) ?_
   refine sk ?_
   refine sN ?_
   refine rs0 hc 1 [(1,I n1),(2,I size2),(3,.bool closed3),(4,.ra 1 0),(9,I 0)] [(1,bTerm t0)] ?_
   refine bk 0 ?_
   obtain ⟨fl,hl_7,h⟩ := bsome h
   have hL := spec_l2Term_l0_ih _ _ hl_7 c hc
   refine lp ?_
   rcases fl with ⟨⟩ | r
   ·refine WpL.into (e := (.exit 0)) (mkS [] []) hL ?_
    refine blockQ_hit ?_
    refine rs0 hc 1 [(8,.bool true)] [] ?_
    refine rt ?_
    obtain rfl := os h
    exact rq [true]
   refine WpL.mono hL ?_
   rintro _ _ ⟨rfl,hfin⟩
   obtain rfl := os h
   exact ⟨.inl rfl,hfin⟩
  refine cT (!r_1_4) (nT hb_1) ?_
  refine rs0 hc 1 [(8,.bool false)] [] ?_
  refine rt ?_
  obtain rfl := os h
  exact rq [true]
 ·rintro spec_l2Term_f spec_l2Term_l0_f spec_l2Term_ih spec_l2Term_l0_ih ⟨t0,n1,size2,closed3,k_4⟩ r h
  intro c hc
  refine WpL.step ?_
  refine sN ?_
  refine rs hc none [oN,oN,oN,some (.eqv (.no) ⟨[(19,I (t0.fKids.length : Int))],[],[]⟩),oN] [(1,I n1),(2,I size2),(3,.bool closed3),(4,.ra 1 0),(9,I k_4),(20,.bool (decide (k_4 < (t0.fKids.length : Int))))] [(1,bTerm t0)] (ai (lenT (d := 19) GTerm_S t0.fKids) trivial) ?_
  rcases is h with ⟨hb_5,h⟩ | ⟨hb_5,h⟩
  ·refine cT ((decide (k_4 < (t0.fKids.length : Int)))) hb_5 ?_
   refine sk ?_
   refine sN ?_
   refine bk 1 ?_
   obtain ⟨e_6_3,hi_6_3,h⟩ := bsome h
   obtain ⟨r_6_9,hr_6_9,h⟩ := bsome h
   obtain ⟨r_6_13,hr_6_13,h⟩ := bsome h
   refine rs hc (rx [[0],[1],[0],[3],[4],[0],[0],[0,6],[0],[0,6,7,8],[0,5,6,7,8,9],[0],[0],[13],[14]]) [oN,oN,oN,some (.el (aTerm e_6_3)),oN,oN,oN,oN,oN,oc (I r_6_9),oN,oN,oN,oc (.bool r_6_13),oN] [(1,I n1),(2,I size2),(3,.bool closed3),(4,.ra 1 0),(9,I k_4),(37,.bool (!r_6_13))] [(1,bTerm t0)] (ai (idx_sl (enc := GTerm_S) (x := aTerm e_6_3) hi_6_3 (eq_GTerm_S e_6_3)) (ai (spec_l2Adds_s _ _ hr_6_9) (ai bod_157 (ai (oi (I r_6_9)) (ai (spec_l2Term_ih _ _ hr_6_13) (ai bod_161 (ai (oi (.bool r_6_13)) trivial))))))) ?_
   rcases is h with ⟨hb_6,h⟩ | ⟨hb_6,h⟩
   ·refine cF (!r_6_13) (nF hb_6) ?_
    refine sk ?_
    refine rg0 hc 3 [(1,I n1),(2,I size2),(3,.bool closed3),(4,.ra 1 0),(9,I (wr (k_4 + 1)))] [(1,bTerm t0)] ?_
    refine loopQ_norm ?_
    exact (spec_l2Term_l0_ih _ _ h c hc)
   refine cT (!r_6_13) (nT hb_6) ?_
   refine rs0 hc 1 [(8,.bool false)] [] ?_
   refine rt ?_
   obtain rfl := os h
   exact re [true]
  refine cF ((decide (k_4 < (t0.fKids.length : Int)))) hb_5 ?_
  refine xt 0 ?_
  refine seqQ_exit ?_
  refine loopQ_exit ?_
  obtain rfl := os h
  exact iv []
theorem spec_l2Term_s : ∀ p r,spec_l2Term p = some r → M_spec_l2Term p r := spec_l2Term_all.1
theorem spec_l2Term_l0_s : ∀ p r,spec_l2Term_l0 p = some r → M_spec_l2Term_l0 p r := spec_l2Term_all.2
def spec_IsTerm (p : GSystem × GTerm × Int) : Option (Bool) :=
 match p with
 | (s0,t1,n2) =>
  ((
   (spec_IsSystem s0) >>= fun r_1_1 =>
   if r_1_1 = true then
    (spec_l1In (n2,0,8)) >>= fun r_1_4 =>
    if r_1_4 = true then
     (spec_l2Left (t1,400)) >>= fun r_1_8 =>
     if (decide (r_1_8 ≥ 0)) = true then
      (spec_l2Term (t1,n2,s0.fSize,true)) >>= fun r_1_16 =>
      some (r_1_16)
     else
      some (false)
    else
     some (false)
   else
    some (false)
  ) : Option (Bool)) >>= fun v_1 =>
  some v_1
def M_spec_IsTerm (p : GSystem × GTerm × Int) (r : Bool) : Prop :=
 match p with
 | (s0,t1,n2) => FnSound Tryz.prog 141 [aSystem s0,aTerm t1,I n2] (.bool r) []
theorem spec_IsTerm_s : ∀ p r,spec_IsTerm p = some r → M_spec_IsTerm p r := by
 rintro ⟨s0,t1,n2⟩ r h
 unfold spec_IsTerm at h
 refine b0 Tryz.f141 B141 25 [(0,aSystem s0),(1,aTerm t1),(2,I n2)] fun c hc => ?_
 refine rs hc none [some (.new 1),some (.new 2),oN] [(2,I n2),(3,.ra 1 0),(4,.ra 2 0)] [(1,bSystem s0),(2,bTerm t1)] trivial ?_
 refine sN ?_
 obtain ⟨v_1,hj_2,h⟩ := bsome h
 refine Wp.into (x := .normal) (mkS [(6,.bool v_1)] []) ?_ ?_
 ·replace h := hj_2
  obtain ⟨r_1_1,hr_1_1,h⟩ := bsome h
  rcases is h with ⟨hb_1_0,h⟩ | ⟨hb_1_0,h⟩
  ·obtain ⟨r_1_4,hr_1_4,h⟩ := bsome h
   rcases is h with ⟨hb_1_1,h⟩ | ⟨hb_1_1,h⟩
   ·obtain ⟨r_1_8,hr_1_8,h⟩ := bsome h
    rcases is h with ⟨hb_1_2,h⟩ | ⟨hb_1_2,h⟩
    ·obtain ⟨r_1_16,hr_1_16,h⟩ := bsome h
     refine rg hc none [oN,oc (.bool r_1_1),oN,oN,oc (.bool r_1_4),oT,oN,oN,oc (I r_1_8),oN,oT,oN,oN,oN,oN,oN,oc (.bool r_1_16),oT,oN] [(6,.bool r_1_16)] [] (ai (spec_IsSystem_s _ _ hr_1_1) (ai bod_139 (ai (oi (.bool r_1_1)) (ar 2 hb_1_0 (ai (spec_l1In_s _ _ hr_1_4) (ai bod_100 (ai (oi (.bool r_1_4)) (ai hb_1_0 (ar 2 hb_1_1 (ai (spec_l2Left_s _ _ hr_1_8) (ai bod_115 (ai (oi (I r_1_8)) (ar 2 hb_1_1 (ar 5 hb_1_2 (ai (spec_l2Term_s _ _ hr_1_16) (ai bod_161 (ai (oi (.bool r_1_16)) (ai hb_1_2 trivial)))))))))))))))))) ?_
     obtain rfl := os h
     exact Into.mk
    refine rg hc none [oN,oc (.bool r_1_1),oN,oN,oc (.bool r_1_4),oT,oN,oN,oc (I r_1_8),oN,oT,oN,o_,o_,o_,o_,o_,oF,oN] [(6,.bool false)] [] (ai (spec_IsSystem_s _ _ hr_1_1) (ai bod_139 (ai (oi (.bool r_1_1)) (ar 2 hb_1_0 (ai (spec_l1In_s _ _ hr_1_4) (ai bod_100 (ai (oi (.bool r_1_4)) (ai hb_1_0 (ar 2 hb_1_1 (ai (spec_l2Left_s _ _ hr_1_8) (ai bod_115 (ai (oi (I r_1_8)) (ar 2 hb_1_1 (ar 5 (neT hb_1_2) (ai hb_1_2 trivial))))))))))))))) ?_
    obtain rfl := os h
    exact Into.mk
   refine rg hc none [oN,oc (.bool r_1_1),oN,oN,oc (.bool r_1_4),oT,oN,o_,o_,o_,oF,oN,o_,o_,o_,o_,o_,oF,oN] [(6,.bool false)] [] (ai (spec_IsSystem_s _ _ hr_1_1) (ai bod_139 (ai (oi (.bool r_1_1)) (ar 2 hb_1_0 (ai (spec_l1In_s _ _ hr_1_4) (ai bod_100 (ai (oi (.bool r_1_4)) (ai hb_1_0 (ar 3 (neT hb_1_1) (ai hb_1_1 (ar 5 (neT (rfl : false = false)) (ai (rfl : false = false) trivial)))))))))))) ?_
   obtain rfl := os h
   exact Into.mk
  refine rg hc none [oN,oc (.bool r_1_1),oN,o_,o_,oF,oN,o_,o_,o_,oF,oN,o_,o_,o_,o_,o_,oF,oN] [(6,.bool false)] [] (ai (spec_IsSystem_s _ _ hr_1_1) (ai bod_139 (ai (oi (.bool r_1_1)) (ar 2 (neT hb_1_0) (ai hb_1_0 (ar 3 (neT (rfl : false = false)) (ai (rfl : false = false) (ar 5 (neT (rfl : false = false)) (ai (rfl : false = false) trivial))))))))) ?_
  obtain rfl := os h
  exact Into.mk
 clear hj_2
 refine rt ?_
 obtain rfl := os h
 exact rq [true]
def spec_l3Input (p : GSystem × (List (List Int)) × GTerm) : Option (Bool) :=
 match p with
 | (s0,ctx1,t2) =>
  ((
   (spec_IsSystem s0) >>= fun r_1_1 =>
   if r_1_1 = true then
    (spec_l3Context (s0,ctx1)) >>= fun r_1_5 =>
    if r_1_5 = true then
     (spec_IsTerm (s0,t2,(ctx1.length : Int))) >>= fun r_1_12 =>
     some (r_1_12)
    else
     some (false)
   else
    some (false)
  ) : Option (Bool)) >>= fun v_1 =>
  some v_1
def M_spec_l3Input (p : GSystem × (List (List Int)) × GTerm) (r : Bool) : Prop :=
 match p with
 | (s0,ctx1,t2) => FnSound Tryz.prog 72 [aSystem s0,sL ctx1,aTerm t2] (.bool r) []
theorem spec_l3Input_s : ∀ p r,spec_l3Input p = some r → M_spec_l3Input p r := by
 rintro ⟨s0,ctx1,t2⟩ r h
 unfold spec_l3Input at h
 refine b0 Tryz.f72 B72 21 [(0,aSystem s0),(1,sL ctx1),(2,aTerm t2)] fun c hc => ?_
 refine rs hc none [some (.new 1),some (.new 2),oN] [(1,sL ctx1),(3,.ra 1 0),(5,.ra 2 0)] [(1,bSystem s0),(2,bTerm t2)] trivial ?_
 refine sN ?_
 obtain ⟨v_1,hj_2,h⟩ := bsome h
 refine Wp.into (x := .normal) (mkS [(6,.bool v_1)] []) ?_ ?_
 ·replace h := hj_2
  obtain ⟨r_1_1,hr_1_1,h⟩ := bsome h
  rcases is h with ⟨hb_1_0,h⟩ | ⟨hb_1_0,h⟩
  ·obtain ⟨r_1_5,hr_1_5,h⟩ := bsome h
   rcases is h with ⟨hb_1_1,h⟩ | ⟨hb_1_1,h⟩
   ·obtain ⟨r_1_12,hr_1_12,h⟩ := bsome h
    refine rg hc none [oN,oc (.bool r_1_1),oN,oN,oN,oc (.bool r_1_5),oT,oN,oN,oN,oN,some (.eqv (.no) ⟨[(18,I (ctx1.length : Int))],[],[]⟩),oc (.bool r_1_12),oT,oN] [(6,.bool r_1_12)] [] (ai (spec_IsSystem_s _ _ hr_1_1) (ai bod_139 (ai (oi (.bool r_1_1)) (ar 3 hb_1_0 (ai (spec_l3Context_s _ _ hr_1_5) (ai bod_140 (ai (oi (.bool r_1_5)) (ai hb_1_0 (ar 4 hb_1_1 (ai (lenT (d := 18) LI_s ctx1) (ai hb_1_1 (ai (spec_IsTerm_s _ _ hr_1_12) (ai bod_141 (ai (oi (.bool r_1_12)) (ai hb_1_1 trivial))))))))))))))) ?_
    obtain rfl := os h
    exact Into.mk
   refine rg hc none [oN,oc (.bool r_1_1),oN,oN,oN,oc (.bool r_1_5),oT,oN,o_,o_,o_,o_,o_,oF,oN] [(6,.bool false)] [] (ai (spec_IsSystem_s _ _ hr_1_1) (ai bod_139 (ai (oi (.bool r_1_1)) (ar 3 hb_1_0 (ai (spec_l3Context_s _ _ hr_1_5) (ai bod_140 (ai (oi (.bool r_1_5)) (ai hb_1_0 (ar 5 (neT hb_1_1) (ai hb_1_1 trivial)))))))))) ?_
   obtain rfl := os h
   exact Into.mk
  refine rg hc none [oN,oc (.bool r_1_1),oN,o_,o_,o_,oF,oN,o_,o_,o_,o_,o_,oF,oN] [(6,.bool false)] [] (ai (spec_IsSystem_s _ _ hr_1_1) (ai bod_139 (ai (oi (.bool r_1_1)) (ar 3 (neT hb_1_0) (ai hb_1_0 (ar 5 (neT (rfl : false = false)) (ai (rfl : false = false) trivial))))))) ?_
  obtain rfl := os h
  exact Into.mk
 clear hj_2
 refine rt ?_
 obtain rfl := os h
 exact rq [true]
def spec_l3Zero (n0 : Int) : Option ((List Int)) :=
  (chk (0 ≤ n0 ∧ (Int.toNat n0) * 8 ≤ 140737488355328)) >>= fun _ =>
  some (List.replicate (Int.toNat n0) 0)
def M_spec_l3Zero (n0 : Int) (r : (List Int)) : Prop :=
 FnSound Tryz.prog 142 [I n0] (oI r) []
theorem spec_l3Zero_s : ∀ p r,spec_l3Zero p = some r → M_spec_l3Zero p r := by
 rintro n0 r h
 unfold spec_l3Zero at h
 refine b0 Tryz.f142 B142 5 [(0,I n0)] fun c hc => ?_
 refine rs0 hc 1 [(0,I n0)] [] ?_
 obtain ⟨_,hk_1_1,h⟩ := bsome h
 refine rs hc none [oN,some (.eqv (.mk 1 true) ⟨[(4,.rs 1)],[(1,some (.arr (List.map I (List.replicate (Int.toNat n0) 0))))],[1]⟩),oN] [(2,.rs 1)] [(1,.arr (List.map I (List.replicate (Int.toNat n0) 0)))] (ai (congrArg (fun z => (⟨[(4,.rs 1)],[(1,some (.arr z))],[1]⟩ : Wr)) (rep_row (enc := I) (n := Int.toNat n0) (x := I 0) (eq_I 0))) (ai (And.intro (Eq.refl n0) (chk_of hk_1_1)) trivial)) ?_
 refine rt ?_
 obtain rfl := os h
 exact rq [true]
def spec_l1Copy (l0 : (List Int)) : Option ((List Int)) :=
  (fits (([] : List Int).length + l0.length) 8) >>= fun _ =>
  some l0
def M_spec_l1Copy (l0 : (List Int)) (r : (List Int)) : Prop :=
 FnSound Tryz.prog 93 [sI l0] (oI r) []
theorem spec_l1Copy_s : ∀ p r,spec_l1Copy p = some r → M_spec_l1Copy p r := by
 rintro l0 r h
 unfold spec_l1Copy at h
 refine b0 Tryz.f93 B93 6 [(0,sI l0)] fun c hc => ?_
 refine rs0 hc 1 [(0,sI l0)] [] ?_
 obtain ⟨_,hk_1_2,h⟩ := bsome h
 refine rs hc none [some (.mk 1 true),oN,some (.eqv (.mk 2 true) ⟨[(5,.rs 2)],[(2,some (rI l0)),(1,none)],[2]⟩),oN] [(2,.rs 2)] [(2,rI l0)] (ai (congrArg (fun z => (⟨[(5,.rs 2)],[(2,some (.arr z)),(1,none)],[2]⟩ : Wr)) (List.nil_append _ : [] ++ (List.map I l0) = List.map I l0)) (ai (app_ob (enc1 := I) (enc2 := I) (e1 := []) (e2 := l0) (sz := 1) ek_I ek_I hk_1_2) trivial)) ?_
 refine rt ?_
 obtain rfl := os h
 exact rq [true]
def spec_l3With (p : (List (List Int)) × (List (List Int))) : Option ((List (List Int))) :=
 match p with
 | (ctx0,front1) =>
  (fits (([] : List (List Int)).length + front1.length) 24) >>= fun _ =>
  (fits (front1.length + ctx0.length) 24) >>= fun _ =>
  some (front1 ++ ctx0)
def M_spec_l3With (p : (List (List Int)) × (List (List Int))) (r : (List (List Int))) : Prop :=
 match p with
 | (ctx0,front1) => FnSound Tryz.prog 105 [sL ctx0,sL front1] (.osl (List.map LI_s r)) []
theorem spec_l3With_s : ∀ p r,spec_l3With p = some r → M_spec_l3With p r := by
 rintro ⟨ctx0,front1⟩ r h
 unfold spec_l3With at h
 refine b0 Tryz.f105 B105 10 [(0,sL ctx0),(1,sL front1)] fun c hc => ?_
 refine rs0 hc 1 [(0,sL ctx0),(1,sL front1)] [] ?_
 obtain ⟨_,hk_1_2,h⟩ := bsome h
 obtain ⟨_,hk_1_4,h⟩ := bsome h
 refine rs hc none [some (.mk 1 true),oN,some (.eqv (.mk 2 true) ⟨[(7,.rs 2)],[(2,some (.arr (List.map LI_s front1))),(1,none)],[2]⟩),oN,some (.eqv (.mk 3 true) ⟨[(9,.rs 3)],[(3,some (.arr (List.map LI_s (front1 ++ ctx0)))),(2,none)],[3]⟩),oN] [(4,.rs 3)] [(3,.arr (List.map LI_s (front1 ++ ctx0)))] (ai (congrArg (fun z => (⟨[(7,.rs 2)],[(2,some (.arr z)),(1,none)],[2]⟩ : Wr)) (List.nil_append _ : [] ++ (List.map LI_s front1) = List.map LI_s front1)) (ai (app_ob (enc1 := LI_o) (enc2 := LI_s) (e1 := []) (e2 := front1) (sz := 1) ek_LI_o ek_LI_s hk_1_2) (ai (congrArg (fun z => (⟨[(9,.rs 3)],[(3,some (.arr z)),(2,none)],[3]⟩ : Wr)) ((List.map_append).symm : (List.map LI_s front1) ++ (List.map LI_s ctx0) = List.map LI_s (front1 ++ ctx0))) (ai (app_ob (enc1 := LI_s) (enc2 := LI_s) (e1 := front1) (e2 := ctx0) (sz := 1) ek_LI_s ek_LI_s hk_1_4) trivial)))) ?_
 refine rt ?_
 obtain rfl := os h
 exact rq [true]
def spec_l3Bad (fault0 : Int) : Option (GL3Told) :=
  some (GL3Told.mk [] [] fault0 [])
def M_spec_l3Bad (fault0 : Int) (r : GL3Told) : Prop :=
 FnSound Tryz.prog 144 [I fault0] (qL3Told r) []
theorem spec_l3Bad_s : ∀ p r,spec_l3Bad p = some r → M_spec_l3Bad p r := by
 rintro fault0 r h
 unfold spec_l3Bad at h
 refine b0 Tryz.f144 B144 5 [(0,I fault0)] fun c hc => ?_
 refine rs hc none [some (.new 1)] [(0,I fault0),(2,.ra 1 0)] [(1,.box [.nils,.nils,I 0,.nils])] trivial ?_
 refine rs0 hc 3 [(2,.ra 1 0)] [(1,.box [.nils,.nils,I fault0,.nils])] ?_
 refine rt ?_
 obtain rfl := os h
 exact rq [true]
def spec_l3Glue_F1 (c : Ctx) : (List Int) → Exit → AState → Prop
 | out_5 => Into c (.exit 0) (mkS [(5,.rs 1)] [(1,rI out_5)])
def spec_l3Glue_l0 (p : (List (List Int)) × (List Int) × Int) : Option ((List Int)) :=
 match p with
 | (parts1,out_2,i_3) =>
  if (decide (i_3 < (parts1.length : Int))) = true then
   (idx parts1 i_3) >>= fun e_5_3 =>
   (fits (out_2.length + e_5_3.length) 8) >>= fun _ =>
   spec_l3Glue_l0 (parts1,(out_2 ++ e_5_3),(wr (i_3 + 1)))
  else
   some (out_2)
 partial_fixpoint
def M_spec_l3Glue_l0 (p : (List (List Int)) × (List Int) × Int) (fl : (List Int)) : Prop :=
 match p with
 | (parts1,out_2,i_3) => ∀ c : Ctx,c.nt = 22 → WpL Tryz.prog c (cl (cl (cr (cl (cr (cr B147)))))) (spec_l3Glue_F1 c fl) (mkS [(1,sL parts1),(5,.rs 1),(6,I i_3)] [(1,rI out_2)])
theorem spec_l3Glue_l0_s : ∀ p r,spec_l3Glue_l0 p = some r → M_spec_l3Glue_l0 p r := by
 refine spec_l3Glue_l0.partial_correctness M_spec_l3Glue_l0 ?_
 rintro spec_l3Glue_l0_f spec_l3Glue_l0_ih ⟨parts1,out_2,i_3⟩ r h
 intro c hc
 refine WpL.step ?_
 refine sN ?_
 refine rs hc none [oN,oN,some (.eqv (.no) ⟨[(11,I (parts1.length : Int))],[],[]⟩),oN] [(1,sL parts1),(5,.rs 1),(6,I i_3),(12,.bool (decide (i_3 < (parts1.length : Int))))] [(1,rI out_2)] (ai (lenT (d := 11) LI_s parts1) trivial) ?_
 rcases is h with ⟨hb_4,h⟩ | ⟨hb_4,h⟩
 ·refine cT ((decide (i_3 < (parts1.length : Int)))) hb_4 ?_
  refine sk ?_
  refine sN ?_
  refine bk 1 ?_
  obtain ⟨e_5_3,hi_5_3,h⟩ := bsome h
  obtain ⟨_,hk_5_5,h⟩ := bsome h
  refine rg hc none [oN,oN,oN,some (.el (sI e_5_3)),oN,some (.eqv (.mk 3 true) ⟨[(20,.rs 3)],[(3,some (rI (out_2 ++ e_5_3))),(1,none)],[3]⟩),oN] [(1,sL parts1),(5,.rs 3),(6,I i_3)] [(3,rI (out_2 ++ e_5_3))] (ai (idx_sl (enc := LI_s) (x := sI e_5_3) hi_5_3 (eq_LI_s e_5_3)) (ai (congrArg (fun z => (⟨[(20,.rs 3)],[(3,some (.arr z)),(1,none)],[3]⟩ : Wr)) ((List.map_append).symm : (List.map I out_2) ++ (List.map I e_5_3) = List.map I (out_2 ++ e_5_3))) (ai (app_ob (enc1 := I) (enc2 := I) (e1 := out_2) (e2 := e_5_3) (sz := 1) ek_I ek_I hk_5_5) trivial))) ?_
  refine rg0 hc 3 [(1,sL parts1),(5,.rs 3),(6,I (wr (i_3 + 1)))] [(3,rI (out_2 ++ e_5_3))] ?_
  refine loopQ_norm ?_
  exact WpL.view (fun a w hv => SRx.renL [(1,3)] hv (by kernel_rfl) (by kernel_rfl) (by kernel_rfl)) (spec_l3Glue_l0_ih _ _ h c hc)
 refine cF ((decide (i_3 < (parts1.length : Int)))) hb_4 ?_
 refine xt 0 ?_
 refine seqQ_exit ?_
 refine loopQ_exit ?_
 obtain rfl := os h
 exact iv []
def spec_l3Glue (p : Int × (List (List Int))) : Option ((List Int)) :=
 match p with
 | (c0,parts1) =>
  (spec_l3Glue_l0 (parts1,[c0],0)) >>= fun out_5 =>
  some out_5
def M_spec_l3Glue (p : Int × (List (List Int))) (r : (List Int)) : Prop :=
 match p with
 | (c0,parts1) => FnSound Tryz.prog 147 [I c0,sL parts1] (oI r) []
theorem spec_l3Glue_s : ∀ p r,spec_l3Glue p = some r → M_spec_l3Glue p r := by
 rintro ⟨c0,parts1⟩ r h
 unfold spec_l3Glue at h
 refine b0 Tryz.f147 B147 22 [(0,I c0),(1,sL parts1)] fun c hc => ?_
 refine rs0 hc 1 [(0,I c0),(1,sL parts1)] [] ?_
 refine rs hc none [oN,some (.mk 1 true),oN] [(1,sL parts1),(5,.rs 1)] [(1,.arr (List.map I [c0]))] trivial ?_
 refine sN ?_
 refine rs0 hc 1 [(1,sL parts1),(5,.rs 1),(6,I 0)] [(1,.arr (List.map I [c0]))] ?_
 refine bk 0 ?_
 obtain ⟨out_5,hl_6,h⟩ := bsome h
 have hL := spec_l3Glue_l0_s _ _ hl_6 c hc
 refine lp ?_
 refine WpL.into (e := (.exit 0)) (mkS [(5,.rs 1)] [(1,rI out_5)]) hL ?_
 refine blockQ_hit ?_
 refine rs0 hc 2 [(4,.rs 1)] [(1,rI out_5)] ?_
 refine rt ?_
 obtain rfl := os h
 exact rq [true]
def spec_l3Sum_F1 (c : Ctx) : (List Int) → Exit → AState → Prop
 | out_5 => Into c (.exit 0) (mkS [(9,.rs 2)] [(2,rI out_5)])
def spec_l3Sum_l0 (p : GSystem × (List Int) × Int × (List Int) × (List Int) × Int) : Option ((List Int)) :=
 match p with
 | (s0,a1,g2,b3,out_2,i_3) =>
  if (decide (i_3 < (a1.length : Int))) = true then
   (idx a1 i_3) >>= fun e_5_4 =>
   (idx b3 i_3) >>= fun e_5_10 =>
   (spec_l1Mul (s0,g2,e_5_10)) >>= fun r_5_12 =>
   (spec_l1Add (s0,e_5_4,r_5_12)) >>= fun r_5_13 =>
   (fits (out_2.length + [r_5_13].length) 8) >>= fun _ =>
   spec_l3Sum_l0 (s0,a1,g2,b3,(out_2 ++ [r_5_13]),(wr (i_3 + 1)))
  else
   some (out_2)
 partial_fixpoint
def M_spec_l3Sum_l0 (p : GSystem × (List Int) × Int × (List Int) × (List Int) × Int) (fl : (List Int)) : Prop :=
 match p with
 | (s0,a1,g2,b3,out_2,i_3) => ∀ c : Ctx,c.nt = 35 → WpL Tryz.prog c (cl (cl (cr (cl (cr (cr B148)))))) (spec_l3Sum_F1 c fl) (mkS [(1,sI a1),(2,I g2),(3,sI b3),(4,.ra 1 0),(9,.rs 2),(10,I i_3)] [(1,bSystem s0),(2,rI out_2)])
theorem spec_l3Sum_l0_s : ∀ p r,spec_l3Sum_l0 p = some r → M_spec_l3Sum_l0 p r := by
 refine spec_l3Sum_l0.partial_correctness M_spec_l3Sum_l0 ?_
 rintro spec_l3Sum_l0_f spec_l3Sum_l0_ih ⟨s0,a1,g2,b3,out_2,i_3⟩ r h
 intro c hc
 refine WpL.step ?_
 refine sN ?_
 refine rs hc none [oN,oN,some (.eqv (.no) ⟨[(14,I (a1.length : Int))],[],[]⟩),oN] [(1,sI a1),(2,I g2),(3,sI b3),(4,.ra 1 0),(9,.rs 2),(10,I i_3),(15,.bool (decide (i_3 < (a1.length : Int))))] [(1,bSystem s0),(2,rI out_2)] (ai (lenT (d := 14) I a1) trivial) ?_
 rcases is h with ⟨hb_4,h⟩ | ⟨hb_4,h⟩
 ·refine cT ((decide (i_3 < (a1.length : Int)))) hb_4 ?_
  refine sk ?_
  refine sN ?_
  refine bk 1 ?_
  obtain ⟨e_5_4,hi_5_4,h⟩ := bsome h
  obtain ⟨e_5_10,hi_5_10,h⟩ := bsome h
  obtain ⟨r_5_12,hr_5_12,h⟩ := bsome h
  obtain ⟨r_5_13,hr_5_13,h⟩ := bsome h
  obtain ⟨_,hk_5_15,h⟩ := bsome h
  refine rg hc (rx [[0],[0],[0],[0],[0,2,3],[0,2,3,4],[0],[0],[0],[0],[0,8,9],[0,8,9,10],[0,6,7,8,9,10,11],[0,1,2,3,4,5,6,7,8,9,10,11,12],[0,1,2,3,4,5,6,7,8,9,10,11,12,13],[15],[16]]) [oN,oN,oN,oN,some (.el (I e_5_4)),oN,oN,oN,oN,oN,some (.el (I e_5_10)),oN,oc (I r_5_12),oc (I r_5_13),some (.mk 5 true),some (.eqv (.mk 6 true) ⟨[(33,.rs 6)],[(6,some (rI (out_2 ++ [r_5_13]))),(2,none),(5,none)],[6]⟩),oN] [(1,sI a1),(2,I g2),(3,sI b3),(4,.ra 1 0),(9,.rs 6),(10,I i_3)] [(1,bSystem s0),(6,rI (out_2 ++ [r_5_13]))] (ai (ix hi_5_4) (ai (ix hi_5_10) (ai (spec_l1Mul_s _ _ hr_5_12) (ai bod_168 (ai (oi (I r_5_12)) (ai (spec_l1Add_s _ _ hr_5_13) (ai bod_206 (ai (oi (I r_5_13)) (ai (congrArg (fun z => (⟨[(33,.rs 6)],[(6,some (.arr z)),(2,none),(5,none)],[6]⟩ : Wr)) ((List.map_append).symm : (List.map I out_2) ++ (List.map I [r_5_13]) = List.map I (out_2 ++ [r_5_13]))) (ai (app_ob (enc1 := I) (enc2 := I) (e1 := out_2) (e2 := [r_5_13]) (sz := 1) ek_I ek_I hk_5_15) trivial)))))))))) ?_
  refine rg0 hc 3 [(1,sI a1),(2,I g2),(3,sI b3),(4,.ra 1 0),(9,.rs 6),(10,I (wr (i_3 + 1)))] [(1,bSystem s0),(6,rI (out_2 ++ [r_5_13]))] ?_
  refine loopQ_norm ?_
  exact WpL.view (fun a w hv => SRx.renL [(2,6)] hv (by kernel_rfl) (by kernel_rfl) (by kernel_rfl)) (spec_l3Sum_l0_ih _ _ h c hc)
 refine cF ((decide (i_3 < (a1.length : Int)))) hb_4 ?_
 refine xt 0 ?_
 refine seqQ_exit ?_
 refine loopQ_exit ?_
 obtain rfl := os h
 exact iv []
def spec_l3Sum (p : GSystem × (List Int) × Int × (List Int)) : Option ((List Int)) :=
 match p with
 | (s0,a1,g2,b3) =>
  (spec_l3Sum_l0 (s0,a1,g2,b3,[],0)) >>= fun out_5 =>
  some out_5
def M_spec_l3Sum (p : GSystem × (List Int) × Int × (List Int)) (r : (List Int)) : Prop :=
 match p with
 | (s0,a1,g2,b3) => FnSound Tryz.prog 148 [aSystem s0,sI a1,I g2,sI b3] (oI r) []
theorem spec_l3Sum_s : ∀ p r,spec_l3Sum p = some r → M_spec_l3Sum p r := by
 rintro ⟨s0,a1,g2,b3⟩ r h
 unfold spec_l3Sum at h
 refine b0 Tryz.f148 B148 35 [(0,aSystem s0),(1,sI a1),(2,I g2),(3,sI b3)] fun c hc => ?_
 refine rs hc none [some (.new 1),oN] [(1,sI a1),(2,I g2),(3,sI b3),(4,.ra 1 0)] [(1,bSystem s0)] trivial ?_
 refine rs hc none [some (.mk 2 true),oN] [(1,sI a1),(2,I g2),(3,sI b3),(4,.ra 1 0),(9,.rs 2)] [(1,bSystem s0),(2,.arr (List.map I []))] trivial ?_
 refine sN ?_
 refine rs0 hc 1 [(1,sI a1),(2,I g2),(3,sI b3),(4,.ra 1 0),(9,.rs 2),(10,I 0)] [(1,bSystem s0),(2,.arr (List.map I []))] ?_
 refine bk 0 ?_
 obtain ⟨out_5,hl_6,h⟩ := bsome h
 have hL := spec_l3Sum_l0_s _ _ hl_6 c hc
 refine lp ?_
 refine WpL.into (e := (.exit 0)) (mkS [(9,.rs 2)] [(2,rI out_5)]) hL ?_
 refine blockQ_hit ?_
 refine rs0 hc 2 [(8,.rs 2)] [(2,rI out_5)] ?_
 refine rt ?_
 obtain rfl := os h
 exact rq [true]
def spec_l3Done (p : (List Int) × (List Int)) : Option (GL3Told) :=
 match p with
 | (ty0,needs1) =>
  if (decide ((ty0.length : Int) > 40)) = true then
   (spec_l3Bad 3) >>= fun r_2_0 =>
   some r_2_0
  else
   some (GL3Told.mk ty0 needs1 0 [])
def M_spec_l3Done (p : (List Int) × (List Int)) (r : GL3Told) : Prop :=
 match p with
 | (ty0,needs1) => FnSound Tryz.prog 146 [sI ty0,sI needs1] (aL3Told r) []
theorem spec_l3Done_s : ∀ p r,spec_l3Done p = some r → M_spec_l3Done p r := by
 rintro ⟨ty0,needs1⟩ r h
 unfold spec_l3Done at h
 refine b0 Tryz.f146 B146 12 [(0,sI ty0),(1,sI needs1)] fun c hc => ?_
 refine rs hc none [some (.new 1)] [(0,sI ty0),(1,sI needs1),(4,.ra 1 0)] [(1,.box [.nils,.nils,I 0,.nils])] trivial ?_
 refine sN ?_
 refine rs hc none [oN,some (.eqv (.no) ⟨[(6,I (ty0.length : Int))],[],[]⟩),oN] [(0,sI ty0),(1,sI needs1),(4,.ra 1 0),(7,.bool (decide ((ty0.length : Int) > 40)))] [(1,.box [.nils,.nils,I 0,.nils])] (ai (lenT (d := 6) I ty0) trivial) ?_
 rcases is h with ⟨hb_1,h⟩ | ⟨hb_1,h⟩
 ·refine cT ((decide ((ty0.length : Int) > 40))) hb_1 ?_
  obtain ⟨r_2_0,hr_2_0,h⟩ := bsome h
  refine rs hc none [some (.call (qL3Told r_2_0) [] 2),oN] [(4,.ra 1 0)] [(1,.box [.rs 2,.rs 3,I r_2_0.ffault,.rs 4]),(2,rI r_2_0.fty),(3,rI r_2_0.fneeds),(4,rI r_2_0.fpath)] (ai (spec_l3Bad_s _ _ hr_2_0) (ai bod_144 (ai (oi (qL3Told r_2_0)) trivial))) ?_
  refine vz 2 (sh_I r_2_0.fty) [(4,.ra 1 0)] [(1,.box [sI r_2_0.fty,.rs 3,I r_2_0.ffault,.rs 4]),(3,rI r_2_0.fneeds),(4,rI r_2_0.fpath)] ?_
  refine vz 3 (sh_I r_2_0.fneeds) [(4,.ra 1 0)] [(1,.box [sI r_2_0.fty,sI r_2_0.fneeds,I r_2_0.ffault,.rs 4]),(4,rI r_2_0.fpath)] ?_
  refine vz 4 (sh_I r_2_0.fpath) [(4,.ra 1 0)] [(1,bL3Told r_2_0)] ?_
  refine rt ?_
  obtain rfl := os h
  exact rq [false]
 refine cF ((decide ((ty0.length : Int) > 40))) hb_1 ?_
 refine sk ?_
 refine rs0 hc 4 [(4,.ra 1 0)] [(1,.box [sI ty0,sI needs1,I 0,.nils])] ?_
 refine rt ?_
 obtain rfl := os h
 exact rq [false]
def spec_l2Part (p : (List Int) × Int) : Option ((List Int)) :=
 match p with
 | (ty0,k1) =>
  (spec_l2End (ty0,1)) >>= fun r_1_1 =>
  if (k1 == 0) = true then
   (cut ty0 (some 1) (some r_1_1) none) >>= fun c_3_2 =>
   (spec_l1Copy c_3_2) >>= fun r_3_3 =>
   some r_3_3
  else
   (cut ty0 (some r_1_1) none none) >>= fun c_4_2 =>
   (spec_l1Copy c_4_2) >>= fun r_4_3 =>
   some r_4_3
def M_spec_l2Part (p : (List Int) × Int) (r : (List Int)) : Prop :=
 match p with
 | (ty0,k1) => FnSound Tryz.prog 151 [sI ty0,I k1] (oI r) []
theorem spec_l2Part_s : ∀ p r,spec_l2Part p = some r → M_spec_l2Part p r := by
 rintro ⟨ty0,k1⟩ r h
 unfold spec_l2Part at h
 refine b0 Tryz.f151 B151 18 [(0,sI ty0),(1,I k1)] fun c hc => ?_
 refine rs0 hc 1 [(0,sI ty0),(1,I k1)] [] ?_
 obtain ⟨r_1_1,hr_1_1,h⟩ := bsome h
 refine rs hc none [oN,oc (I r_1_1),oN] [(0,sI ty0),(1,I k1),(5,I r_1_1)] [] (ai (spec_l2End_s _ _ hr_1_1) (ai bod_207 (ai (oi (I r_1_1)) trivial))) ?_
 refine sN ?_
 refine rs0 hc 2 [(0,sI ty0),(5,I r_1_1),(9,.bool (k1 == 0))] [] ?_
 rcases is h with ⟨hb_1,h⟩ | ⟨hb_1,h⟩
 ·refine cT ((k1 == 0)) hb_1 ?_
  obtain ⟨c_3_2,hs_3_2,h⟩ := bsome h
  obtain ⟨r_3_3,hr_3_3,h⟩ := bsome h
  refine rs hc none [oN,oN,some (.eqv (.no) ⟨[(12,sI c_3_2)],[],[]⟩),oc (oI r_3_3),oN] [(4,.rs 1)] [(1,rI r_3_3)] (ai (cut_wr (d := 12) I hs_3_2) (ai (cut_ob (enc := I) (sz := 1) sz_I hs_3_2) (ai (spec_l1Copy_s _ _ hr_3_3) (ai bod_93 (ai (oi (oI r_3_3)) trivial))))) ?_
  refine rt ?_
  obtain rfl := os h
  exact rq [true]
 refine cF ((k1 == 0)) hb_1 ?_
 refine sk ?_
 obtain ⟨c_4_2,hs_4_2,h⟩ := bsome h
 obtain ⟨r_4_3,hr_4_3,h⟩ := bsome h
 refine rs hc none [oN,oN,some (.eqv (.no) ⟨[(16,sI c_4_2)],[],[]⟩),some (.call (oI r_4_3) [] 2),oN] [(4,.rs 2)] [(2,rI r_4_3)] (ai (cut_wr (d := 16) I hs_4_2) (ai (cut_ob (enc := I) (sz := 1) sz_I hs_4_2) (ai (spec_l1Copy_s _ _ hr_4_3) (ai bod_93 (ai (oi (oI r_4_3)) trivial))))) ?_
 refine rt ?_
 obtain rfl := os h
 exact rq [true]
def spec_l1Same_F1 (c : Ctx) : (Unit) ⊕ (Bool) → Exit → AState → Prop
 | .inl _ => Into c (.exit 0) (mkS [] [])
 | .inr r => RetE TIx Tryz.f82 [] (.bool r)
def spec_l1Same_l0 (p : (List Int) × (List Int) × Int) : Option ((Unit) ⊕ (Bool)) :=
 match p with
 | (a0,b1,i_4) =>
  if (decide (i_4 < (a0.length : Int))) = true then
   (idx a0 i_4) >>= fun e_6_2 =>
   (idx b1 i_4) >>= fun e_6_6 =>
   if (e_6_2 != e_6_6) = true then
    some (.inr false)
   else
    spec_l1Same_l0 (a0,b1,(wr (i_4 + 1)))
  else
   some (.inl ())
 partial_fixpoint
def M_spec_l1Same_l0 (p : (List Int) × (List Int) × Int) (fl : (Unit) ⊕ (Bool)) : Prop :=
 match p with
 | (a0,b1,i_4) => ∀ c : Ctx,c.nt = 26 → WpL Tryz.prog c (cl (cl (cr (cl (cr (cr B82)))))) (spec_l1Same_F1 c fl) (mkS [(0,sI a0),(1,sI b1),(5,I i_4)] [])
theorem spec_l1Same_l0_s : ∀ p r,spec_l1Same_l0 p = some r → M_spec_l1Same_l0 p r := by
 refine spec_l1Same_l0.partial_correctness M_spec_l1Same_l0 ?_
 rintro spec_l1Same_l0_f spec_l1Same_l0_ih ⟨a0,b1,i_4⟩ r h
 intro c hc
 refine WpL.step ?_
 refine sN ?_
 refine rs hc none [oN,oN,some (.eqv (.no) ⟨[(13,I (a0.length : Int))],[],[]⟩),oN] [(0,sI a0),(1,sI b1),(5,I i_4),(14,.bool (decide (i_4 < (a0.length : Int))))] [] (ai (lenT (d := 13) I a0) trivial) ?_
 rcases is h with ⟨hb_5,h⟩ | ⟨hb_5,h⟩
 ·refine cT ((decide (i_4 < (a0.length : Int)))) hb_5 ?_
  refine sk ?_
  refine sN ?_
  refine bk 1 ?_
  obtain ⟨e_6_2,hi_6_2,h⟩ := bsome h
  obtain ⟨e_6_6,hi_6_6,h⟩ := bsome h
  refine rs hc (rx [[0],[0],[2],[3],[0],[0],[0,4,5],[0,4,5,6],[8]]) [oN,oN,some (.el (I e_6_2)),oN,oN,oN,some (.el (I e_6_6)),oN,oN] [(0,sI a0),(1,sI b1),(5,I i_4),(25,.bool (e_6_2 != e_6_6))] [] (ai (ix hi_6_2) (ai (ix hi_6_6) trivial)) ?_
  rcases is h with ⟨hb_6,h⟩ | ⟨hb_6,h⟩
  ·refine cT ((e_6_2 != e_6_6)) hb_6 ?_
   refine rs0 hc 1 [(4,.bool false)] [] ?_
   refine rt ?_
   obtain rfl := os h
   exact re [true]
  refine cF ((e_6_2 != e_6_6)) hb_6 ?_
  refine sk ?_
  refine rg0 hc 3 [(0,sI a0),(1,sI b1),(5,I (wr (i_4 + 1)))] [] ?_
  refine loopQ_norm ?_
  exact (spec_l1Same_l0_ih _ _ h c hc)
 refine cF ((decide (i_4 < (a0.length : Int)))) hb_5 ?_
 refine xt 0 ?_
 refine seqQ_exit ?_
 refine loopQ_exit ?_
 obtain rfl := os h
 exact iv []
def spec_l1Same (p : (List Int) × (List Int)) : Option (Bool) :=
 match p with
 | (a0,b1) =>
  if ((a0.length : Int) != (b1.length : Int)) = true then
   some false
  else
   (spec_l1Same_l0 (a0,b1,0)) >>= fun fl => match fl with
   | .inl () =>
    some true
   | .inr r =>
    some r
def M_spec_l1Same (p : (List Int) × (List Int)) (r : Bool) : Prop :=
 match p with
 | (a0,b1) => FnSound Tryz.prog 82 [sI a0,sI b1] (.bool r) []
theorem spec_l1Same_s : ∀ p r,spec_l1Same p = some r → M_spec_l1Same p r := by
 rintro ⟨a0,b1⟩ r h
 unfold spec_l1Same at h
 refine b0 Tryz.f82 B82 26 [(0,sI a0),(1,sI b1)] fun c hc => ?_
 refine rs0 hc 1 [(0,sI a0),(1,sI b1)] [] ?_
 refine sN ?_
 refine rs hc none [oN,some (.eqv (.no) ⟨[(7,I (a0.length : Int))],[],[]⟩),oN,some (.eqv (.no) ⟨[(9,I (b1.length : Int))],[],[]⟩),oN] [(0,sI a0),(1,sI b1),(10,.bool ((a0.length : Int) != (b1.length : Int)))] [] (ai (lenT (d := 7) I a0) (ai (lenT (d := 9) I b1) trivial)) ?_
 rcases is h with ⟨hb_1,h⟩ | ⟨hb_1,h⟩
 ·refine cT (((a0.length : Int) != (b1.length : Int))) hb_1 ?_
  refine rs0 hc 1 [(4,.bool false)] [] ?_
  refine rt ?_
  obtain rfl := os h
  exact rq [true]
 refine cF (((a0.length : Int) != (b1.length : Int))) hb_1 ?_
 refine sk ?_
 refine sN ?_
 refine rs0 hc 1 [(0,sI a0),(1,sI b1),(5,I 0)] [] ?_
 refine bk 0 ?_
 obtain ⟨fl,hl_7,h⟩ := bsome h
 have hL := spec_l1Same_l0_s _ _ hl_7 c hc
 refine lp ?_
 rcases fl with ⟨⟩ | r
 ·refine WpL.into (e := (.exit 0)) (mkS [] []) hL ?_
  refine blockQ_hit ?_
  refine rs0 hc 1 [(4,.bool true)] [] ?_
  refine rt ?_
  obtain rfl := os h
  exact rq [true]
 refine WpL.mono hL ?_
 rintro _ _ ⟨rfl,hfin⟩
 obtain rfl := os h
 exact ⟨.inl rfl,hfin⟩
def spec_l3Join_F1 (c : Ctx) : (List Int) → Exit → AState → Prop
 | out_5 => Into c (.exit 0) (mkS [(7,.rs 2)] [(2,rI out_5)])
def spec_l3Join_l0 (p : GSystem × (List Int) × (List Int) × (List Int) × Int) : Option ((List Int)) :=
 match p with
 | (s0,a1,b2,out_2,i_3) =>
  if (decide (i_3 < (a1.length : Int))) = true then
   (idx a1 i_3) >>= fun e_5_4 =>
   (idx b2 i_3) >>= fun e_5_8 =>
   (spec_l1Join (s0,e_5_4,e_5_8)) >>= fun r_5_10 =>
   (fits (out_2.length + [r_5_10].length) 8) >>= fun _ =>
   spec_l3Join_l0 (s0,a1,b2,(out_2 ++ [r_5_10]),(wr (i_3 + 1)))
  else
   some (out_2)
 partial_fixpoint
def M_spec_l3Join_l0 (p : GSystem × (List Int) × (List Int) × (List Int) × Int) (fl : (List Int)) : Prop :=
 match p with
 | (s0,a1,b2,out_2,i_3) => ∀ c : Ctx,c.nt = 30 → WpL Tryz.prog c (cl (cl (cr (cl (cr (cr B167)))))) (spec_l3Join_F1 c fl) (mkS [(1,sI a1),(2,sI b2),(3,.ra 1 0),(7,.rs 2),(8,I i_3)] [(1,bSystem s0),(2,rI out_2)])
theorem spec_l3Join_l0_s : ∀ p r,spec_l3Join_l0 p = some r → M_spec_l3Join_l0 p r := by
 refine spec_l3Join_l0.partial_correctness M_spec_l3Join_l0 ?_
 rintro spec_l3Join_l0_f spec_l3Join_l0_ih ⟨s0,a1,b2,out_2,i_3⟩ r h
 intro c hc
 refine WpL.step ?_
 refine sN ?_
 refine rs hc none [oN,oN,some (.eqv (.no) ⟨[(12,I (a1.length : Int))],[],[]⟩),oN] [(1,sI a1),(2,sI b2),(3,.ra 1 0),(7,.rs 2),(8,I i_3),(13,.bool (decide (i_3 < (a1.length : Int))))] [(1,bSystem s0),(2,rI out_2)] (ai (lenT (d := 12) I a1) trivial) ?_
 rcases is h with ⟨hb_4,h⟩ | ⟨hb_4,h⟩
 ·refine cT ((decide (i_3 < (a1.length : Int)))) hb_4 ?_
  refine sk ?_
  refine sN ?_
  refine bk 1 ?_
  obtain ⟨e_5_4,hi_5_4,h⟩ := bsome h
  obtain ⟨e_5_8,hi_5_8,h⟩ := bsome h
  obtain ⟨r_5_10,hr_5_10,h⟩ := bsome h
  obtain ⟨_,hk_5_12,h⟩ := bsome h
  refine rg hc (rx [[0],[0],[0],[0],[0,2,3],[0,2,3,4],[0],[0],[0,6,7],[0,6,7,8],[0,1,2,3,4,5,6,7,8,9],[0,1,2,3,4,5,6,7,8,9,10],[12],[13]]) [oN,oN,oN,oN,some (.el (I e_5_4)),oN,oN,oN,some (.el (I e_5_8)),oN,oc (I r_5_10),some (.mk 5 true),some (.eqv (.mk 6 true) ⟨[(28,.rs 6)],[(6,some (rI (out_2 ++ [r_5_10]))),(2,none),(5,none)],[6]⟩),oN] [(1,sI a1),(2,sI b2),(3,.ra 1 0),(7,.rs 6),(8,I i_3)] [(1,bSystem s0),(6,rI (out_2 ++ [r_5_10]))] (ai (ix hi_5_4) (ai (ix hi_5_8) (ai (spec_l1Join_s _ _ hr_5_10) (ai bod_215 (ai (oi (I r_5_10)) (ai (congrArg (fun z => (⟨[(28,.rs 6)],[(6,some (.arr z)),(2,none),(5,none)],[6]⟩ : Wr)) ((List.map_append).symm : (List.map I out_2) ++ (List.map I [r_5_10]) = List.map I (out_2 ++ [r_5_10]))) (ai (app_ob (enc1 := I) (enc2 := I) (e1 := out_2) (e2 := [r_5_10]) (sz := 1) ek_I ek_I hk_5_12) trivial))))))) ?_
  refine rg0 hc 3 [(1,sI a1),(2,sI b2),(3,.ra 1 0),(7,.rs 6),(8,I (wr (i_3 + 1)))] [(1,bSystem s0),(6,rI (out_2 ++ [r_5_10]))] ?_
  refine loopQ_norm ?_
  exact WpL.view (fun a w hv => SRx.renL [(2,6)] hv (by kernel_rfl) (by kernel_rfl) (by kernel_rfl)) (spec_l3Join_l0_ih _ _ h c hc)
 refine cF ((decide (i_3 < (a1.length : Int)))) hb_4 ?_
 refine xt 0 ?_
 refine seqQ_exit ?_
 refine loopQ_exit ?_
 obtain rfl := os h
 exact iv []
def spec_l3Join (p : GSystem × (List Int) × (List Int)) : Option ((List Int)) :=
 match p with
 | (s0,a1,b2) =>
  (spec_l3Join_l0 (s0,a1,b2,[],0)) >>= fun out_5 =>
  some out_5
def M_spec_l3Join (p : GSystem × (List Int) × (List Int)) (r : (List Int)) : Prop :=
 match p with
 | (s0,a1,b2) => FnSound Tryz.prog 167 [aSystem s0,sI a1,sI b2] (oI r) []
theorem spec_l3Join_s : ∀ p r,spec_l3Join p = some r → M_spec_l3Join p r := by
 rintro ⟨s0,a1,b2⟩ r h
 unfold spec_l3Join at h
 refine b0 Tryz.f167 B167 30 [(0,aSystem s0),(1,sI a1),(2,sI b2)] fun c hc => ?_
 refine rs hc none [some (.new 1),oN] [(1,sI a1),(2,sI b2),(3,.ra 1 0)] [(1,bSystem s0)] trivial ?_
 refine rs hc none [some (.mk 2 true),oN] [(1,sI a1),(2,sI b2),(3,.ra 1 0),(7,.rs 2)] [(1,bSystem s0),(2,.arr (List.map I []))] trivial ?_
 refine sN ?_
 refine rs0 hc 1 [(1,sI a1),(2,sI b2),(3,.ra 1 0),(7,.rs 2),(8,I 0)] [(1,bSystem s0),(2,.arr (List.map I []))] ?_
 refine bk 0 ?_
 obtain ⟨out_5,hl_6,h⟩ := bsome h
 have hL := spec_l3Join_l0_s _ _ hl_6 c hc
 refine lp ?_
 refine WpL.into (e := (.exit 0)) (mkS [(7,.rs 2)] [(2,rI out_5)]) hL ?_
 refine blockQ_hit ?_
 refine rs0 hc 2 [(6,.rs 2)] [(2,rI out_5)] ?_
 refine rt ?_
 obtain rfl := os h
 exact rq [true]
def spec_l3Taken_F1 (c : Ctx) (s0 : GSystem) (ctx1 : List (List Int)) (t2 : GTerm) (a3 : GL3Told) (r_13_5 : GL3Told) : ((List Int) × Bool) ⊕ (GL3Told) → Exit → AState → Prop
 | .inl (rest_20,ok_21) => Into c .normal (mkS [(1,sL ctx1),(4,.ra 1 0),(6,.ra 2 0),(7,.ra 3 0),(8,.ra 4 0),(11,.ra 21 0),(13,I t2.fN),(14,.rs 27),(15,.bool ok_21)] [(1,bSystem s0),(2,bTerm t2),(3,bL3Told a3),(4,.box [.nils,.nils,I 0,.nils]),(21,bL3Told r_13_5),(27,rI rest_20)])
 | .inr r => RetE TIx Tryz.f153 [] (aL3Told r)
def spec_l3Taken_F2 (c : Ctx) (s0 : GSystem) (ctx1 : List (List Int)) (t2 : GTerm) (a3 : GL3Told) (r_13_5 : GL3Told) : ((List Int) × Bool) ⊕ (GL3Told) → Exit → AState → Prop
 | .inl (rest_24,ok_23) => Into c .normal (mkS [(1,sL ctx1),(4,.ra 1 0),(6,.ra 2 0),(7,.ra 3 0),(8,.ra 4 0),(11,.ra 21 0),(13,I t2.fN),(14,.rs 22),(15,.bool ok_23)] [(1,bSystem s0),(2,bTerm t2),(3,bL3Told a3),(4,.box [.nils,.nils,I 0,.nils]),(21,bL3Told r_13_5),(22,rI rest_24)])
 | .inr r => RetE TIx Tryz.f153 [] (aL3Told r)
def spec_l3Taken_F3 (c : Ctx) (s0 : GSystem) (ctx1 : List (List Int)) (t2 : GTerm) (a3 : GL3Told) (r_13_5 : GL3Told) : (Int × (List Int) × Bool) ⊕ (GL3Told) → Exit → AState → Prop
 | .inl (most_26,rest_27,ok_28) => Into c .normal (mkS [(1,sL ctx1),(4,.ra 1 0),(6,.ra 2 0),(7,.ra 3 0),(8,.ra 4 0),(11,.ra 21 0),(13,I most_26),(14,.rs 22),(15,.bool ok_28)] [(1,bSystem s0),(2,bTerm t2),(3,bL3Told a3),(4,.box [.nils,.nils,I 0,.nils]),(21,bL3Told r_13_5),(22,rI rest_27)])
 | .inr r => RetE TIx Tryz.f153 [] (aL3Told r)
end Go.Am
