/- Functions of the program as pure functions,and that it computes them. Printed by a program of mine (gen.py). -/
import Derived.Test.YtmcpomoofkjfcaaGreatGTWF4
set_option linter.unusedVariables false
set_option linter.unusedSimpArgs false
set_option maxRecDepth 100000
namespace Go.Am
open Go Go.Proofs
def Khf (s0 : K00) : Option (Bool) :=
 ((
 (Kg0 (s0.fSize,2,16)) >>= fun a0 =>
 if a0 = true then
  if ((s0.fPlus.length : Int) != (wr (s0.fSize * s0.fSize))) = true then
   some (true)
  else
   if ((s0.fTimes.length : Int) != (wr (s0.fSize * s0.fSize))) = true then
   some (true)
   else
   some (((s0.fBelow.length : Int) != (wr (s0.fSize * s0.fSize))))
 else
  some (true)
 ) : Option (Bool)) >>= fun a1 =>
 if a1 = true then
 some false
 else
 (Kh0 (s0,0)) >>= fun fl => match fl with
 | .inl () =>
  (Khc (s0,0)) >>= fun fl => match fl with
  | .inl () =>
   some true
  | .inr r =>
   some r
 | .inr r =>
  some r
def Khg (s0 : K00) (r : Bool) : Prop :=
 Q71 Tryz.prog 109 [K1t s0] (.bool r) []
theorem Khh : ∀ p r,Khf p = some r → Khg p r := by
 rintro s0 r h
 unfold Khf at h
 refine b0 Tryz.f109 K5u 157 [(0,K1t s0)] fun c hc => ?_
 refine rs hc none [some (.new 1),oN] [(1,.ra 1 0)] [(1,K1s s0)] tv ?_
 refine K89 hc 3 [(1,.ra 1 0),(3,I s0.fSize)] ?_
 refine sN ?_
 refine sN ?_
 obtain ⟨a0,a1,h⟩ := Qct h
 refine Wp.into (x := .normal) (mkS [(1,.ra 1 0),(3,I s0.fSize),(39,.bool a0)] [(1,K1s s0)]) ?_ ?_
 ·replace h := a1
  obtain ⟨a2,a3,h⟩ := Qct h
  rcases is h with ⟨a4,h⟩ | ⟨a4,h⟩
  ·rcases is h with ⟨a5,h⟩ | ⟨a5,h⟩
   ·refine rgs hc none [oN,oc (.bool a2),oN,oN,oN,oN,some (.eqv (.no) ⟨[(16,I (s0.fPlus.length : Int))],[],[]⟩),oN,oN,oN,oN,oF,oN,o_,o_,o_,o_,o_,o_,o_,oT,oN,o_,o_,o_,o_,o_,o_,o_,oT] [(1,.ra 1 0),(3,I s0.fSize),(39,.bool true)] (cq (Kg2 _ _ a3) K5j (ar 3 (nF a4) (ai (Qcz (d := 16) I s0.fPlus) (ar 5 (nF a4) (ar 7 (neF a5) (ai a5 (ar 7 nf (ai tt tv)))))))) ?_
    obtain rfl := os h
    exact Qcf.mk
   rcases is h with ⟨a6,h⟩ | ⟨a6,h⟩
   ·refine rgs hc none [oN,oc (.bool a2),oN,oN,oN,oN,some (.eqv (.no) ⟨[(16,I (s0.fPlus.length : Int))],[],[]⟩),oN,oN,oN,oN,oF,oN,oN,oN,some (.eqv (.no) ⟨[(25,I (s0.fTimes.length : Int))],[],[]⟩),oN,oN,oN,oN,oF,oN,o_,o_,o_,o_,o_,o_,o_,oT] [(1,.ra 1 0),(3,I s0.fSize),(39,.bool true)] (cq (Kg2 _ _ a3) K5j (ar 3 (nF a4) (ai (Qcz (d := 16) I s0.fPlus) (ar 5 (nF a4) (ar 3 a5 (ai (Qcz (d := 25) I s0.fTimes) (ar 5 a5 (ar 7 (neF a6) (ai a6 tv))))))))) ?_
    obtain rfl := os h
    exact Qcf.mk
   refine rgs hc none [oN,oc (.bool a2),oN,oN,oN,oN,some (.eqv (.no) ⟨[(16,I (s0.fPlus.length : Int))],[],[]⟩),oN,oN,oN,oN,oF,oN,oN,oN,some (.eqv (.no) ⟨[(25,I (s0.fTimes.length : Int))],[],[]⟩),oN,oN,oN,oN,oF,oN,oN,oN,some (.eqv (.no) ⟨[(34,I (s0.fBelow.length : Int))],[],[]⟩),oN,oN,oN,oN,oF] [(1,.ra 1 0),(3,I s0.fSize),(39,.bool ((s0.fBelow.length : Int) != (wr (s0.fSize * s0.fSize))))] (cq (Kg2 _ _ a3) K5j (ar 3 (nF a4) (ai (Qcz (d := 16) I s0.fPlus) (ar 5 (nF a4) (ar 3 a5 (ai (Qcz (d := 25) I s0.fTimes) (ar 5 a5 (ar 3 a6 (ai (Qcz (d := 34) AV.bool s0.fBelow) (ar 5 a6 tv)))))))))) ?_
   obtain rfl := os h
   exact Qcf.mk
  refine rgs hc none [oN,oc (.bool a2),oN,oN,o_,o_,o_,o_,o_,o_,o_,oT,oN,o_,o_,o_,o_,o_,o_,o_,oT,oN,o_,o_,o_,o_,o_,o_,o_,oT] [(1,.ra 1 0),(3,I s0.fSize),(39,.bool true)] (cq (Kg2 _ _ a3) K5j (ar 7 (neF (nT a4)) (ai (nT a4) (ar 7 nf (ai tt (ar 7 nf (ai tt tv))))))) ?_
  obtain rfl := os h
  exact Qcf.mk
 clear a1
 refine ic h (fun a7 h => ?_) fun a7 h => ?_
 ·refine rs0 hc 1 [(2,.bool false)] [] ?_
  refine rt ?_
  obtain rfl := os h
  exact rq [true]
 refine sk ?_
 refine sN ?_
 refine rss hc none [oN,oN,some (.eqv (.no) ⟨[(42,I (s0.fPlus.length : Int))],[],[]⟩),oN] [(1,.ra 1 0),(3,I s0.fSize),(42,I (s0.fPlus.length : Int)),(43,I 0)] (ai (Qcz (d := 42) I s0.fPlus) tv) ?_
 refine bk 0 ?_
 obtain ⟨fl,a8,h⟩ := Qct h
 have hL := Kh2 _ _ a8 c hc
 refine lp ?_
 rcases fl with ⟨⟩ | r
 ·refine WpL.into (e := (.exit 0)) (mkS [(1,.ra 1 0),(3,I s0.fSize)] [(1,K1s s0)]) hL ?_
  refine Qc7 ?_
  refine sN ?_
  refine K89 hc 1 [(1,.ra 1 0),(3,I s0.fSize),(5,I 0)] ?_
  refine bk 2 ?_
  obtain ⟨fl,a9,h⟩ := Qct h
  have hL := Khe _ _ a9 c hc
  refine lp ?_
  rcases fl with ⟨⟩ | r
  ·refine WpL.into (e := (.exit 2)) (mkS [] []) hL ?_
   refine Qc7 ?_
   refine rs0 hc 1 [(2,.bool true)] [] ?_
   refine rt ?_
   obtain rfl := os h
   exact rq [true]
  refine WpL.mono hL ?_
  rintro _ _ ⟨rfl,hfin⟩
  obtain rfl := os h
  exact ⟨.inl rfl,hfin⟩
 refine WpL.mono hL ?_
 rintro _ _ ⟨rfl,hfin⟩
 obtain rfl := os h
 exact ⟨.inl rfl,hfin⟩
def Khi (code0 : Int) : Option (Int × Int) :=
 (Kg0 (code0,0,2)) >>= fun a0 =>
 if a0 = true then
 some (code0,(-1))
 else
 (Kg0 (code0,3,18)) >>= fun a1 =>
 if a1 = true then
 some (3,(wr (code0 - 3)))
 else
 (Kg0 (code0,19,34)) >>= fun a2 =>
 if a2 = true then
 some (4,(wr (code0 - 19)))
 else
 if (code0 == 35) = true then
 some (3,(-1))
 else
 if (code0 == 36) = true then
 some (4,(-1))
 else
 some (5,(-1))
def Khj (code0 : Int) (r : Int × Int) : Prop :=
 Q71 Tryz.prog 182 [I code0] (.tup [I r.1,I r.2]) []
theorem Khk : ∀ p r,Khi p = some r → Khj p r := by
 rintro code0 r h
 unfold Khi at h
 refine b0 Tryz.f182 K5w 24 [(0,I code0)] fun c hc => ?_
 refine rs0 hc 2 [(0,I code0)] [] ?_
 refine sN ?_
 refine bk 0 ?_
 obtain ⟨a0,a1,h⟩ := Qct h
 refine rs hc none [oN,oc (.bool a0),oN] [(0,I code0),(4,.bool a0)] [] (cq (Kg2 _ _ a1) K5j tv) ?_
 refine ic h (fun a2 h => ?_) fun a2 h => ?_
 ·refine rs0 hc 3 [(2,I code0),(3,I (-1))] [] ?_
  refine rt ?_
  obtain rfl := os h
  exact rq [true,true]
 obtain ⟨a3,a4,h⟩ := Qct h
 refine rs hc none [oN,oc (.bool a3),oN] [(0,I code0),(8,.bool a3)] [] (cq (Kg2 _ _ a4) K5j tv) ?_
 refine ic h (fun a5 h => ?_) fun a5 h => ?_
 ·refine rs0 hc 4 [(2,I 3),(3,I (wr (code0 - 3)))] [] ?_
  refine rt ?_
  obtain rfl := os h
  exact rq [true,true]
 obtain ⟨a6,a7,h⟩ := Qct h
 refine rs hc none [oN,oc (.bool a6),oN] [(0,I code0),(13,.bool a6)] [] (cq (Kg2 _ _ a7) K5j tv) ?_
 refine ic h (fun a8 h => ?_) fun a8 h => ?_
 ·refine rs0 hc 4 [(2,I 4),(3,I (wr (code0 - 19)))] [] ?_
  refine rt ?_
  obtain rfl := os h
  exact rq [true,true]
 refine rs0 hc 3 [(0,I code0),(18,.bool (code0 == 35))] [] ?_
 refine ic h (fun a9 h => ?_) fun a9 h => ?_
 ·refine rs0 hc 2 [(2,I 3),(3,I (-1))] [] ?_
  refine rt ?_
  obtain rfl := os h
  exact rq [true,true]
 refine rs0 hc 3 [(21,.bool (code0 == 36))] [] ?_
 refine ic h (fun b1 h => ?_) fun b1 h => ?_
 ·refine rs0 hc 2 [(2,I 4),(3,I (-1))] [] ?_
  refine rt ?_
  obtain rfl := os h
  exact rq [true,true]
 refine sk ?_
 refine rs0 hc 2 [(2,I 5),(3,I (-1))] [] ?_
 refine rt ?_
 obtain rfl := os h
 exact rq [true,true]
def Khl (p : (List Int) × Int) : Option (Int) :=
 match p with
 | (ty0,at1) =>
  ((
  if (decide (at1 < 0)) = true then
  some (true)
  else
  some ((decide (at1 ≥ (ty0.length : Int))))
  ) : Option (Bool)) >>= fun a0 =>
  if a0 = true then
  some (-1)
  else
  (idx ty0 at1) >>= fun a1 =>
  (Khi a1) >>= fun (a2,a3) =>
  if (a2 == 0) = true then
  some (wr (at1 + 1))
  else
  if (a2 == 4) = true then
  (Khl (ty0,(wr (at1 + 1)))) >>= fun a4 =>
  some a4
  else
  if (a2 == 5) = true then
  some (-1)
  else
  (Khl (ty0,(wr (at1 + 1)))) >>= fun a5 =>
  (Khl (ty0,a5)) >>= fun a6 =>
  some a6
 partial_fixpoint
def Khm (p : (List Int) × Int) (r : Int) : Prop :=
 match p with
 | (ty0,at1) => Q71 Tryz.prog 186 [sI ty0,I at1] (I r) []
theorem Khn : ∀ p r,Khl p = some r → Khm p r := by
 refine Khl.partial_correctness Khm ?_
 rintro impl_typeEnd_f impl_typeEnd_ih ⟨ty0,at1⟩ r h
 refine b0 Tryz.f186 K5y 42 [(0,sI ty0),(1,I at1)] fun c hc => ?_
 refine rs0 hc 1 [(0,sI ty0),(1,I at1)] [] ?_
 refine sN ?_
 refine sN ?_
 obtain ⟨a0,a1,h⟩ := Qct h
 refine Wp.into (x := .normal) (mkS [(0,sI ty0),(1,I at1),(14,.bool a0)] []) ?_ ?_
 ·replace h := a1
  rcases is h with ⟨a2,h⟩ | ⟨a2,h⟩
  ·refine rg hc none [oN,oN,oN,o_,o_,o_,o_,oT] [(0,sI ty0),(1,I at1),(14,.bool true)] [] (ar 4 (neF a2) (ai a2 tv)) ?_
   obtain rfl := os h
   exact Qcf.mk
  refine rg hc none [oN,oN,oN,oN,oN,some (.eqv (.no) ⟨[(12,I (ty0.length : Int))],[],[]⟩),oN,oF] [(0,sI ty0),(1,I at1),(14,.bool (decide (at1 ≥ (ty0.length : Int))))] [] (ar 3 a2 (ai (Qcz (d := 12) I ty0) (ar 2 a2 tv))) ?_
  obtain rfl := os h
  exact Qcf.mk
 clear a1
 refine ic h (fun a3 h => ?_) fun a3 h => ?_
 ·refine rs0 hc 1 [(4,I (-1))] [] ?_
  refine rt ?_
  obtain rfl := os h
  exact rq [true]
 refine sk ?_
 obtain ⟨a4,a5,⟨a6,a7⟩,a8,h⟩ := bq2 h
 refine rs hc none [oN,oN,some (.el (I a4)),oN,oc (.tup [I a6,I a7]),oN,oN,oN,oN,oN] [(0,sI ty0),(1,I at1),(5,I a6)] [] (ai (ix a5) (cq (Khk _ _ a8) K5x tv)) ?_
 refine sN ?_
 refine rs0 hc 1 [(0,sI ty0),(1,I at1),(23,I a6)] [] ?_
 refine bk 0 ?_
 refine rs0 hc 2 [(0,sI ty0),(1,I at1),(23,I a6),(24,.bool (a6 == 0))] [] ?_
 refine ic h (fun a9 h => ?_) fun a9 h => ?_
 ·refine rs0 hc 3 [(4,I (wr (at1 + 1)))] [] ?_
  refine rt ?_
  obtain rfl := os h
  exact rq [true]
 refine rs0 hc 2 [(0,sI ty0),(1,I at1),(23,I a6),(28,.bool (a6 == 4))] [] ?_
 refine ic h (fun b1 h => ?_) fun b1 h => ?_
 ·obtain ⟨b2,b3,h⟩ := Qct h
  refine rs hc none [oN,oN,oN,oc (I b2),oN] [(4,I b2)] [] (cq (impl_typeEnd_ih _ _ b3) K5z tv) ?_
  refine rt ?_
  obtain rfl := os h
  exact rq [true]
 refine rs0 hc 2 [(0,sI ty0),(1,I at1),(34,.bool (a6 == 5))] [] ?_
 refine ic h (fun b4 h => ?_) fun b4 h => ?_
 ·refine rs0 hc 1 [(4,I (-1))] [] ?_
  refine rt ?_
  obtain rfl := os h
  exact rq [true]
 refine sk ?_
 obtain ⟨b5,b6,b7,b8,h⟩ := bq2 h
 refine rs hc none [oN,oN,oN,oN,oc (I b5),oc (I b7),oN] [(4,I b7)] [] (cq (impl_typeEnd_ih _ _ b6) K5z (cq (impl_typeEnd_ih _ _ b8) K5z tv)) ?_
 refine rt ?_
 obtain rfl := os h
 exact rq [true]
def Kho (ty0 : (List Int)) : Option (Bool) :=
 ((
 (Kg0 ((ty0.length : Int),1,40)) >>= fun a0 =>
 if a0 = true then
 (Khl (ty0,0)) >>= fun a1 =>
 some ((a1 == (ty0.length : Int)))
 else
 some (false)
 ) : Option (Bool)) >>= fun a2 =>
 some a2
def Khp (ty0 : (List Int)) (r : Bool) : Prop :=
 Q71 Tryz.prog 118 [sI ty0] (.bool r) []
theorem Khq : ∀ p r,Kho p = some r → Khp p r := by
 rintro ty0 r h
 unfold Kho at h
 refine b0 Tryz.f118 K60 13 [(0,sI ty0)] fun c hc => ?_
 refine rs0 hc 1 [(0,sI ty0)] [] ?_
 refine sN ?_
 obtain ⟨a0,a1,h⟩ := Qct h
 refine Wp.into (x := .normal) (mkS [(2,.bool a0)] []) ?_ ?_
 ·replace h := a1
  obtain ⟨a2,a3,h⟩ := Qct h
  rcases is h with ⟨a4,h⟩ | ⟨a4,h⟩
  ·obtain ⟨a5,a6,h⟩ := Qct h
   refine rg hc none [oN,some (.eqv (.no) ⟨[(4,I (ty0.length : Int))],[],[]⟩),oc (.bool a2),oN,oN,oc (I a5),oN,some (.eqv (.no) ⟨[(10,I (ty0.length : Int))],[],[]⟩),oN,oT,oN] [(2,.bool (a5 == (ty0.length : Int)))] [] (ai (Qcz (d := 4) I ty0) (cq (Kg2 _ _ a3) K5j (ar 2 a4 (cq (Khn _ _ a6) K5z (ar 2 a4 (ai (Qcz (d := 10) I ty0) (ar 2 a4 tv))))))) ?_
   obtain rfl := os h
   exact Qcf.mk
  refine rg hc none [oN,some (.eqv (.no) ⟨[(4,I (ty0.length : Int))],[],[]⟩),oc (.bool a2),oN,o_,o_,o_,o_,o_,oF,oN] [(2,.bool false)] [] (ai (Qcz (d := 4) I ty0) (cq (Kg2 _ _ a3) K5j (ar 5 (neT a4) (ai a4 tv)))) ?_
  obtain rfl := os h
  exact Qcf.mk
 clear a1
 refine rt ?_
 obtain rfl := os h
 exact rq [true]
def Khr (c : Ctx) : (Unit) ⊕ (Bool) → Exit → Q0a → Prop
 | .inl _ => Qcf c (.exit 0) (mkS [] [])
 | .inr r => Qco TIx Tryz.f210 [] (.bool r)
def Khs (p : K00 × (List Int) × Int) : Option ((Unit) ⊕ (Bool)) :=
 match p with
 | (s0,ty1,a0) =>
  if (decide (a0 < (ty1.length : Int))) = true then
  (idx ty1 a0) >>= fun a1 =>
  (Khi a1) >>= fun (a2,a3) =>
  ((
  if (a2 == 3) = true then
  (Kg3 (s0,a3)) >>= fun a4 =>
  some ((!a4))
  else
  if (a2 == 4) = true then
  (Kg3 (s0,a3)) >>= fun a4 =>
  some ((!a4))
  else
  some (false)
  ) : Option (Bool)) >>= fun a5 =>
  if a5 = true then
  some (.inr false)
  else
  Khs (s0,ty1,(wr (a0 + 1)))
  else
  some (.inl ())
 partial_fixpoint
def Kht (p : K00 × (List Int) × Int) (fl : (Unit) ⊕ (Bool)) : Prop :=
 match p with
 | (s0,ty1,a0) => ∀ c : Ctx,c.nt = 36 → WpL Tryz.prog c (cl (cl (cr (cl (cr (cr K62)))))) (Khr c fl) (mkS [(2,.ra 1 0),(12,sI ty1),(13,I (ty1.length : Int)),(14,I a0)] [(1,K1s s0)])
theorem Khu : ∀ p r,Khs p = some r → Kht p r := by
 refine Khs.partial_correctness Kht ?_
 rintro impl_isTypeOf_l0_f impl_isTypeOf_l0_ih ⟨s0,ty1,a0⟩ r h
 intro c hc
 refine WpL.step ?_
 refine K89 hc 1 [(2,.ra 1 0),(12,sI ty1),(13,I (ty1.length : Int)),(14,I a0),(15,.bool (decide (a0 < (ty1.length : Int))))] ?_
 refine sN ?_
 refine ic h (fun a1 h => ?_) fun a1 h => ?_
 ·refine sk ?_
  refine sN ?_
  refine bk 1 ?_
  obtain ⟨a2,a3,h⟩ := Qct h
  refine rss hc none [some (.el (I a2)),oN,oN] [(2,.ra 1 0),(6,I a2),(12,sI ty1),(13,I (ty1.length : Int)),(14,I a0)] (ai (ix a3) tv) ?_
  obtain ⟨⟨a4,a5⟩,a6,h⟩ := Qct h
  refine rss hc none [oN,oc (.tup [I a4,I a5]),oN,oN,oN,oN,oN] [(2,.ra 1 0),(7,I a4),(8,I a5),(12,sI ty1),(13,I (ty1.length : Int)),(14,I a0)] (cq (Khk _ _ a6) K5x tv) ?_
  refine sN ?_
  obtain ⟨a7,a8,h⟩ := Qct h
  refine Wp.into (x := .normal) (mkS [(2,.ra 1 0),(12,sI ty1),(13,I (ty1.length : Int)),(14,I a0),(34,.bool a7)] [(1,K1s s0)]) ?_ ?_
  ·replace h := a8
   rcases is h with ⟨a9,h⟩ | ⟨a9,h⟩
   ·obtain ⟨b1,b2,h⟩ := Qct h
    refine rgs hc none [oN,oN,oN,o_,o_,oT,oN,oN,oN,oc (.bool b1),oN,oT] [(2,.ra 1 0),(12,sI ty1),(13,I (ty1.length : Int)),(14,I a0),(34,.bool (!b1))] (ar 2 (neF a9) (ai a9 (ar 3 tt (cq (Kg5 _ _ b2) K5k (ar 2 tt tv))))) ?_
    obtain rfl := os h
    exact Qcf.mk
   rcases is h with ⟨b3,h⟩ | ⟨b3,h⟩
   ·obtain ⟨b1,b2,h⟩ := Qct h
    refine rgs hc none [oN,oN,oN,oN,oN,oF,oN,oN,oN,oc (.bool b1),oN,oT] [(2,.ra 1 0),(12,sI ty1),(13,I (ty1.length : Int)),(14,I a0),(34,.bool (!b1))] (ar 3 a9 (ar 3 b3 (cq (Kg5 _ _ b2) K5k (ar 2 b3 tv)))) ?_
    obtain rfl := os h
    exact Qcf.mk
   refine rgs hc none [oN,oN,oN,oN,oN,oF,oN,o_,o_,o_,o_,oF] [(2,.ra 1 0),(12,sI ty1),(13,I (ty1.length : Int)),(14,I a0),(34,.bool false)] (ar 3 a9 (ar 4 (neT b3) (ai b3 tv))) ?_
   obtain rfl := os h
   exact Qcf.mk
  clear a8
  refine ic h (fun b4 h => ?_) fun b4 h => ?_
  ·refine rs0 hc 1 [(4,.bool false)] [] ?_
   refine rt ?_
   obtain rfl := os h
   exact re [true]
  refine sk ?_
  refine K88 hc 2 [(2,.ra 1 0),(12,sI ty1),(13,I (ty1.length : Int)),(14,I (wr (a0 + 1)))] ?_
  refine Qcb ?_
  exact (impl_isTypeOf_l0_ih _ _ h c hc)
 refine xt 0 ?_
 refine Qc5 ?_
 refine Qcc ?_
 obtain rfl := os h
 exact iv []
def Khv (p : K00 × (List Int)) : Option (Bool) :=
 match p with
 | (s0,ty1) =>
  (Kho ty1) >>= fun a0 =>
  if a0 = true then
  (Khs (s0,ty1,0)) >>= fun fl => match fl with
  | .inl () =>
   some true
  | .inr r =>
   some r
  else
  some false
def Khw (p : K00 × (List Int)) (r : Bool) : Prop :=
 match p with
 | (s0,ty1) => Q71 Tryz.prog 210 [K1t s0,sI ty1] (.bool r) []
theorem Khx : ∀ p r,Khv p = some r → Khw p r := by
 rintro ⟨s0,ty1⟩ r h
 unfold Khv at h
 refine b0 Tryz.f210 K62 36 [(0,K1t s0),(1,sI ty1)] fun c hc => ?_
 refine rs hc none [some (.new 1),oN] [(1,sI ty1),(2,.ra 1 0)] [(1,K1s s0)] tv ?_
 refine sN ?_
 obtain ⟨a0,a1,h⟩ := Qct h
 refine rss hc none [oN,oc (.bool a0),oN] [(1,sI ty1),(2,.ra 1 0),(11,.bool (!a0))] (cq (Khq _ _ a1) K61 tv) ?_
 rcases is h with ⟨a2,h⟩ | ⟨a2,h⟩
 ·refine cF (!a0) (nF a2) ?_
  refine sk ?_
  refine sN ?_
  refine rss hc none [oN,some (.eqv (.no) ⟨[(13,I (ty1.length : Int))],[],[]⟩),oN] [(2,.ra 1 0),(12,sI ty1),(13,I (ty1.length : Int)),(14,I 0)] (ai (Qcz (d := 13) I ty1) tv) ?_
  refine bk 0 ?_
  obtain ⟨fl,a3,h⟩ := Qct h
  have hL := Khu _ _ a3 c hc
  refine lp ?_
  rcases fl with ⟨⟩ | r
  ·refine WpL.into (e := (.exit 0)) (mkS [] []) hL ?_
   refine Qc7 ?_
   refine rs0 hc 1 [(4,.bool true)] [] ?_
   refine rt ?_
   obtain rfl := os h
   exact rq [true]
  refine WpL.mono hL ?_
  rintro _ _ ⟨rfl,hfin⟩
  obtain rfl := os h
  exact ⟨.inl rfl,hfin⟩
 refine cT (!a0) (nT a2) ?_
 refine rs0 hc 1 [(4,.bool false)] [] ?_
 refine rt ?_
 obtain rfl := os h
 exact rq [true]
def Khy (p : (List Int) × K00) : Option (Bool) :=
 match p with
 | (ty0,cap0) =>
  (Khv (cap0,ty0)) >>= fun a0 =>
  some (!a0)
def Khz (p : (List Int) × K00) (r : Bool) : Prop :=
 match p with
 | (ty0,cap0) => Q71 Tryz.prog 209 [sI ty0,.ptr [I cap0.fSize,sI cap0.fPlus,sI cap0.fTimes,sB cap0.fBelow] 0] (.bool r) []
theorem Ki0 : ∀ p r,Khy p = some r → Khz p r := by
 rintro ⟨ty0,cap0⟩ r h
 unfold Khy at h
 refine b0 Tryz.f209 K64 8 [(0,sI ty0),(1,.ptr [I cap0.fSize,sI cap0.fPlus,sI cap0.fTimes,sB cap0.fBelow] 0)] fun c hc => ?_
 refine rs0 hc 1 [(0,sI ty0),(1,.ptr [I cap0.fSize,sI cap0.fPlus,sI cap0.fTimes,sB cap0.fBelow] 0)] [] ?_
 obtain ⟨a0,a1,h⟩ := Qct h
 refine rs hc none [oN,oN,oc (.bool a0),oN,oN] [(3,.bool (!a0))] [] (cq (Khx _ _ a1) K63 tv) ?_
 refine rt ?_
 obtain rfl := os h
 exact rq [true]
def Ki1 (c : Ctx) : (Unit) ⊕ (Int) → Exit → Q0a → Prop
 | .inl _ => Qcf c (.exit 0) (mkS [] [])
 | .inr r => Qco TIx Tryz.f240 [] (I r)
def Ki2 (p : LL × K00 × Int) : Option ((Unit) ⊕ (Int)) :=
 match p with
 | (s0,clo1_0,a0) =>
  if (decide (a0 < (s0.length : Int))) = true then
  (idx s0 a0) >>= fun a1 =>
  (Khy (a1,clo1_0)) >>= fun a2 =>
  if a2 = true then
  some (.inr a0)
  else
  Ki2 (s0,clo1_0,(wr (a0 + 1)))
  else
  some (.inl ())
 partial_fixpoint
def Ki3 (p : LL × K00 × Int) (fl : (Unit) ⊕ (Int)) : Prop :=
 match p with
 | (s0,clo1_0,a0) => ∀ c : Ctx,c.nt = 19 → WpL Tryz.prog c (cl (cl (cr (cl (cr K66))))) (Ki1 c fl) (mkS [(0,sL s0),(1,.fn 209 [.ptr [I clo1_0.fSize,sI clo1_0.fPlus,sI clo1_0.fTimes,sB clo1_0.fBelow] 0]),(7,I (s0.length : Int)),(8,I a0)] [])
theorem Ki4 : ∀ p r,Ki2 p = some r → Ki3 p r := by
 refine Ki2.partial_correctness Ki3 ?_
 rintro slices_IndexFunc_Lint_Kimpl_isContext_c1_l0_f slices_IndexFunc_Lint_Kimpl_isContext_c1_l0_ih ⟨s0,clo1_0,a0⟩ r h
 intro c hc
 refine WpL.step ?_
 refine rs0 hc 1 [(0,sL s0),(1,.fn 209 [.ptr [I clo1_0.fSize,sI clo1_0.fPlus,sI clo1_0.fTimes,sB clo1_0.fBelow] 0]),(7,I (s0.length : Int)),(8,I a0),(9,.bool (decide (a0 < (s0.length : Int))))] [] ?_
 refine sN ?_
 refine ic h (fun a1 h => ?_) fun a1 h => ?_
 ·refine sk ?_
  refine sN ?_
  refine bk 1 ?_
  refine rs0 hc 2 [(0,sL s0),(1,.fn 209 [.ptr [I clo1_0.fSize,sI clo1_0.fPlus,sI clo1_0.fTimes,sB clo1_0.fBelow] 0]),(5,I a0),(7,I (s0.length : Int)),(8,I a0)] [] ?_
  obtain ⟨a2,a3,a4,a5,h⟩ := bq2 h
  refine rs hc none [oN,oN,oN,some (.el (sI a2)),oN,oc (.bool a4)] [(0,sL s0),(1,.fn 209 [.ptr [I clo1_0.fSize,sI clo1_0.fPlus,sI clo1_0.fTimes,sB clo1_0.fBelow] 0]),(5,I a0),(7,I (s0.length : Int)),(8,I a0),(16,.bool a4)] [] (ai (xL a3) (cq (Ki0 _ _ a5) K65 tv)) ?_
  refine ic h (fun a6 h => ?_) fun a6 h => ?_
  ·refine rs0 hc 2 [(4,I a0)] [] ?_
   refine rt ?_
   obtain rfl := os h
   exact re [true]
  refine sk ?_
  refine rg0 hc 2 [(0,sL s0),(1,.fn 209 [.ptr [I clo1_0.fSize,sI clo1_0.fPlus,sI clo1_0.fTimes,sB clo1_0.fBelow] 0]),(7,I (s0.length : Int)),(8,I (wr (a0 + 1)))] [] ?_
  refine Qcb ?_
  exact (slices_IndexFunc_Lint_Kimpl_isContext_c1_l0_ih _ _ h c hc)
 refine xt 0 ?_
 refine Qc5 ?_
 refine Qcc ?_
 obtain rfl := os h
 exact iv []
def Ki5 (p : LL × K00) : Option (Int) :=
 match p with
 | (s0,clo1_0) =>
  (Ki2 (s0,clo1_0,0)) >>= fun fl => match fl with
  | .inl () =>
   some (-1)
  | .inr r =>
   some r
def Ki6 (p : LL × K00) (r : Int) : Prop :=
 match p with
 | (s0,clo1_0) => Q71 Tryz.prog 240 [sL s0,.fn 209 [.ptr [I clo1_0.fSize,sI clo1_0.fPlus,sI clo1_0.fTimes,sB clo1_0.fBelow] 0]] (I r) []
theorem Ki7 : ∀ p r,Ki5 p = some r → Ki6 p r := by
 rintro ⟨s0,clo1_0⟩ r h
 unfold Ki5 at h
 refine b0 Tryz.f240 K66 19 [(0,sL s0),(1,.fn 209 [.ptr [I clo1_0.fSize,sI clo1_0.fPlus,sI clo1_0.fTimes,sB clo1_0.fBelow] 0])] fun c hc => ?_
 refine rs0 hc 1 [(0,sL s0),(1,.fn 209 [.ptr [I clo1_0.fSize,sI clo1_0.fPlus,sI clo1_0.fTimes,sB clo1_0.fBelow] 0])] [] ?_
 refine sN ?_
 refine rs hc none [oN,some (.eqv (.no) ⟨[(7,I (s0.length : Int))],[],[]⟩),oN] [(0,sL s0),(1,.fn 209 [.ptr [I clo1_0.fSize,sI clo1_0.fPlus,sI clo1_0.fTimes,sB clo1_0.fBelow] 0]),(7,I (s0.length : Int)),(8,I 0)] [] (ai (Qcz (d := 7) K10 s0) tv) ?_
 refine bk 0 ?_
 obtain ⟨fl,a0,h⟩ := Qct h
 have hL := Ki4 _ _ a0 c hc
 refine lp ?_
 rcases fl with ⟨⟩ | r
 ·refine WpL.into (e := (.exit 0)) (mkS [] []) hL ?_
  refine Qc7 ?_
  refine rs0 hc 1 [(4,I (-1))] [] ?_
  refine rt ?_
  obtain rfl := os h
  exact rq [true]
 refine WpL.mono hL ?_
 rintro _ _ ⟨rfl,hfin⟩
 obtain rfl := os h
 exact ⟨.inl rfl,hfin⟩
def Ki8 (p : LL × K00) : Option (Bool) :=
 match p with
 | (s0,clo1_0) =>
  (Ki5 (s0,clo1_0)) >>= fun a0 =>
  some (decide (a0 ≥ 0))
def Ki9 (p : LL × K00) (r : Bool) : Prop :=
 match p with
 | (s0,clo1_0) => Q71 Tryz.prog 208 [sL s0,.fn 209 [.ptr [I clo1_0.fSize,sI clo1_0.fPlus,sI clo1_0.fTimes,sB clo1_0.fBelow] 0]] (.bool r) []
theorem Kia : ∀ p r,Ki8 p = some r → Ki9 p r := by
 rintro ⟨s0,clo1_0⟩ r h
 unfold Ki8 at h
 refine b0 Tryz.f208 K68 9 [(0,sL s0),(1,.fn 209 [.ptr [I clo1_0.fSize,sI clo1_0.fPlus,sI clo1_0.fTimes,sB clo1_0.fBelow] 0])] fun c hc => ?_
 refine rs0 hc 1 [(0,sL s0),(1,.fn 209 [.ptr [I clo1_0.fSize,sI clo1_0.fPlus,sI clo1_0.fTimes,sB clo1_0.fBelow] 0])] [] ?_
 obtain ⟨a0,a1,h⟩ := Qct h
 refine rs hc none [oN,oN,oc (I a0),oN,oN] [(4,.bool (decide (a0 ≥ 0)))] [] (cq (Ki7 _ _ a1) K67 tv) ?_
 refine rt ?_
 obtain rfl := os h
 exact rq [true]
def Kib (p : K00 × LL) : Option (Bool) :=
 match p with
 | (s0,ctx1) =>
  ((
  if (decide ((ctx1.length : Int) ≤ 8)) = true then
  (Ki8 (ctx1,s0)) >>= fun a0 =>
  some ((!a0))
  else
  some (false)
  ) : Option (Bool)) >>= fun a1 =>
  some a1
def Kic (p : K00 × LL) (r : Bool) : Prop :=
 match p with
 | (s0,ctx1) => Q71 Tryz.prog 154 [K1t s0,sL ctx1] (.bool r) []
theorem Kid : ∀ p r,Kib p = some r → Kic p r := by
 rintro ⟨s0,ctx1⟩ r h
 unfold Kib at h
 refine b0 Tryz.f154 K6a 14 [(0,K1t s0),(1,sL ctx1)] fun c hc => ?_
 refine rs hc none [some (.new 1),oN] [(1,sL ctx1),(2,.ra 1 0)] [(1,K1s s0)] tv ?_
 refine sN ?_
 obtain ⟨a0,a1,h⟩ := Qct h
 refine Wp.into (x := .normal) (mkS [(4,.bool a0)] []) ?_ ?_
 ·replace h := a1
  rcases is h with ⟨a2,h⟩ | ⟨a2,h⟩
  ·obtain ⟨a3,a4,h⟩ := Qct h
   refine rg hc none [oN,some (.eqv (.no) ⟨[(6,I (ctx1.length : Int))],[],[]⟩),oN,oN,oN,oN,oc (.bool a3),oN,oT,oN] [(4,.bool (!a3))] [] (ai (Qcz (d := 6) K10 ctx1) (ar 3 a2 (ac (Kia _ _ a4) K69 (Or.inr rfl : ([1] : List Nat) = [] ∨ noSh (.bool a3) = true) (ar 2 a2 tv)))) ?_
   obtain rfl := os h
   exact Qcf.mk
  refine rg hc none [oN,some (.eqv (.no) ⟨[(6,I (ctx1.length : Int))],[],[]⟩),oN,oN,o_,o_,o_,o_,oF,oN] [(4,.bool false)] [] (ai (Qcz (d := 6) K10 ctx1) (ar 4 (neT a2) (ai a2 tv))) ?_
  obtain rfl := os h
  exact Qcf.mk
 clear a1
 refine rt ?_
 obtain rfl := os h
 exact rq [true]
def Kie (op0 : Int) : Option (K04 × Bool) :=
 (Kg0 (op0,0,12)) >>= fun a0 =>
 if a0 = true then
 (idx [(K04.mk (ByteArray.mk #[120]) 0 false false),(K04.mk ByteArray.empty 0 false false),(K04.mk (ByteArray.mk #[97,100,100]) 2 false false),(K04.mk (ByteArray.mk #[105,102]) 3 false false),(K04.mk (ByteArray.mk #[112,97,105,114]) 2 false false),(K04.mk (ByteArray.mk #[115,112,108,105,116]) 2 true false),(K04.mk (ByteArray.mk #[108,101,102,116]) 1 false true),(K04.mk (ByteArray.mk #[114,105,103,104,116]) 1 false true),(K04.mk (ByteArray.mk #[99,97,115,101]) 3 true false),(K04.mk (ByteArray.mk #[102,117,110]) 1 true true),(K04.mk (ByteArray.mk #[97,112,112]) 2 false false),(K04.mk (ByteArray.mk #[98,111,120]) 1 true false),(K04.mk (ByteArray.mk #[111,112,101,110]) 2 true false)] op0) >>= fun a1 =>
 some (a1,true)
 else
 some ((K04.mk ByteArray.empty 0 false false),false)
def Kif (op0 : Int) (r : K04 × Bool) : Prop :=
 Q71 Tryz.prog 184 [I op0] (.tup [.agg [.str r.1.fword,I r.1.fkids,.bool r.1.fgrade,.bool r.1.ftyped],.bool r.2]) []
theorem Kig : ∀ p r,Kie p = some r → Kif p r := by
 rintro op0 r h
 unfold Kie at h
 refine b0 Tryz.f184 K6c 25 [(0,I op0)] fun c hc => ?_
 refine rs hc none [some (.new 1),oN] [(0,I op0),(2,.ra 1 0)] [(1,.box [.str ByteArray.empty,I 0,.bool false,.bool false])] tv ?_
 refine sN ?_
 obtain ⟨a0,a1,h⟩ := Qct h
 refine rss hc none [oN,oc (.bool a0),oN] [(0,I op0),(2,.ra 1 0),(6,.bool (!a0))] (cq (Kg2 _ _ a1) K5j tv) ?_
 rcases is h with ⟨a2,h⟩ | ⟨a2,h⟩
 ·refine cF (!a0) (nF a2) ?_
  refine sk ?_
  obtain ⟨a3,a4,h⟩ := Qct h
  refine rs hc none [oN,oN,oN,oN,oN,oN,oN,oN,oN,oN,oN,oN,oN,some (.mk 2 true),oN,oN,some (.el (.agg [.str a3.fword,I a3.fkids,.bool a3.fgrade,.bool a3.ftyped])),oN,oN] [(2,.ra 1 0),(3,.bool true)] [(1,.box [.str a3.fword,I a3.fkids,.bool a3.fgrade,.bool a3.ftyped])] (ab (Qcy (enc := K0u) a4) (Qcx (enc := K0u) (x := .agg [.str a3.fword,I a3.fkids,.bool a3.fgrade,.bool a3.ftyped]) a4 (K1i a3)).2 tv) ?_
  refine rt ?_
  obtain rfl := os h
  exact rq [true,true]
 refine cT (!a0) (nT a2) ?_
 refine K89 hc 3 [(2,.ra 1 0),(3,.bool false)] ?_
 refine rt ?_
 obtain rfl := os h
 exact rq [true,true]
def Kih (p : (List Int) × K00) : Option (Bool) :=
 match p with
 | (ty0,cap0) =>
  (Khv (cap0,ty0)) >>= fun a0 =>
  some a0
def Kii (p : (List Int) × K00) (r : Bool) : Prop :=
 match p with
 | (ty0,cap0) => Q71 Tryz.prog 211 [sI ty0,.ptr [I cap0.fSize,sI cap0.fPlus,sI cap0.fTimes,sB cap0.fBelow] 0] (.bool r) []
theorem Kij : ∀ p r,Kih p = some r → Kii p r := by
 rintro ⟨ty0,cap0⟩ r h
 unfold Kih at h
 refine b0 Tryz.f211 K6e 7 [(0,sI ty0),(1,.ptr [I cap0.fSize,sI cap0.fPlus,sI cap0.fTimes,sB cap0.fBelow] 0)] fun c hc => ?_
 refine rs0 hc 1 [(0,sI ty0),(1,.ptr [I cap0.fSize,sI cap0.fPlus,sI cap0.fTimes,sB cap0.fBelow] 0)] [] ?_
 obtain ⟨a0,a1,h⟩ := Qct h
 refine rs hc none [oN,oN,oc (.bool a0),oN] [(3,.bool a0)] [] (cq (Khx _ _ a1) K63 tv) ?_
 refine rt ?_
 obtain rfl := os h
 exact rq [true]
def Kik (p : Int × Int) : Option (Int) :=
 match p with
 | (op0,kid1) =>
  ((
  if (op0 == 5) = true then
  some ((kid1 == 1))
  else
  some (false)
  ) : Option (Bool)) >>= fun a0 =>
  if a0 = true then
  some 2
  else
  ((
  if (op0 == 8) = true then
  some ((decide (kid1 > 0)))
  else
  some (false)
  ) : Option (Bool)) >>= fun a1 =>
  ((
  if a1 = true then
  some (a1)
  else
  ((
  if (op0 == 9) = true then
  some ((op0 == 9))
  else
  ((
  if (op0 == 12) = true then
  some ((kid1 == 1))
  else
  some (false)
  ) : Option (Bool)) >>= fun a2 =>
  some (a2)
  ) : Option (Bool)) >>= fun a3 =>
  some (a3)
  ) : Option (Bool)) >>= fun a4 =>
  if a4 = true then
  some 1
  else
  some 0
def Kil (p : Int × Int) (r : Int) : Prop :=
 match p with
 | (op0,kid1) => Q71 Tryz.prog 185 [I op0,I kid1] (I r) []
theorem Kim : ∀ p r,Kik p = some r → Kil p r := by
 rintro ⟨op0,kid1⟩ r h
 unfold Kik at h
 refine b0 Tryz.f185 K6g 27 [(0,I op0),(1,I kid1)] fun c hc => ?_
 refine rs0 hc 1 [(0,I op0),(1,I kid1)] [] ?_
 refine sN ?_
 refine bk 0 ?_
 refine sN ?_
 obtain ⟨a0,a1,h⟩ := Qct h
 refine Wp.into (x := .normal) (mkS [(0,I op0),(1,I kid1),(5,.bool a0)] []) ?_ ?_
 ·replace h := a1
  rcases is h with ⟨a2,h⟩ | ⟨a2,h⟩
  ·refine rg hc none [oN,oN,oN,oN,oN,oT,oN] [(0,I op0),(1,I kid1),(5,.bool (kid1 == 1))] [] (ar 3 a2 tv) ?_
   obtain rfl := os h
   exact Qcf.mk
  refine rg hc none [oN,oN,oN,o_,o_,oF,oN] [(0,I op0),(1,I kid1),(5,.bool false)] [] (ar 2 (neT a2) (ai a2 tv)) ?_
  obtain rfl := os h
  exact Qcf.mk
 clear a1
 refine ic h (fun a3 h => ?_) fun a3 h => ?_
 ·refine rs0 hc 1 [(4,I 2)] [] ?_
  refine rt ?_
  obtain rfl := os h
  exact rq [true]
 refine sN ?_
 refine sN ?_
 obtain ⟨a4,a5,h⟩ := Qct h
 refine Wp.into (x := .normal) (mkS [(0,I op0),(1,I kid1),(12,.bool a4)] []) ?_ ?_
 ·replace h := a5
  rcases is h with ⟨a6,h⟩ | ⟨a6,h⟩
  ·refine rg hc none [oN,oN,oN,oN,oN,oT,oN] [(0,I op0),(1,I kid1),(12,.bool (decide (kid1 > 0)))] [] (ar 3 a6 tv) ?_
   obtain rfl := os h
   exact Qcf.mk
  refine rg hc none [oN,oN,oN,o_,o_,oF,oN] [(0,I op0),(1,I kid1),(12,.bool false)] [] (ar 2 (neT a6) (ai a6 tv)) ?_
  obtain rfl := os h
  exact Qcf.mk
 clear a5
 obtain ⟨a7,a8,h⟩ := Qct h
 refine Wp.into (x := .normal) (mkS [(12,.bool a7)] []) ?_ ?_
 ·replace h := a8
  refine ic h (fun a9 h => ?_) fun a9 h => ?_
  ·refine sk ?_
   obtain rfl := os h
   exact iv []
  refine rs0 hc 3 [(0,I op0),(1,I kid1),(12,.bool (op0 == 9))] [] ?_
  obtain ⟨b1,b2,h⟩ := Qct h
  refine Wp.into (x := .normal) (mkS [(12,.bool b1)] []) ?_ ?_
  ·replace h := b2
   refine ic h (fun b3 h => ?_) fun b3 h => ?_
   ·refine sk ?_
    obtain rfl := os h
    exact iv []
   obtain ⟨b4,b5,h⟩ := Qct h
   refine Wp.into (x := .normal) (mkS [(12,.bool b4)] []) ?_ ?_
   ·replace h := b5
    rcases is h with ⟨b6,h⟩ | ⟨b6,h⟩
    ·refine rg hc none [oN,oN,oN,oN,oN,oT,oN] [(12,.bool (kid1 == 1))] [] (ar 3 b6 tv) ?_
     obtain rfl := os h
     exact Qcf.mk
    refine rg hc none [oN,oN,oN,o_,o_,oF,oN] [(12,.bool false)] [] (ar 2 (neT b6) (ai b6 tv)) ?_
    obtain rfl := os h
    exact Qcf.mk
   clear b5
   obtain rfl := os h
   exact Qcf.mk
  clear b2
  obtain rfl := os h
  exact Qcf.mk
 clear a8
 refine ic h (fun b7 h => ?_) fun b7 h => ?_
 ·refine rs0 hc 1 [(4,I 1)] [] ?_
  refine rt ?_
  obtain rfl := os h
  exact rq [true]
 refine sk ?_
 refine rs0 hc 1 [(4,I 0)] [] ?_
 refine rt ?_
 obtain rfl := os h
 exact rq [true]
def Kin (c : Ctx) : (Int) ⊕ (Int) → Exit → Q0a → Prop
 | .inl a0 => Qcf c (.exit 1) (mkS [(4,I a0)] [])
 | .inr r => Qco TIx Tryz.f117 [] (I r)
mutual
def Kio (p : K01 × Int × K00 × K00 × Int) : Option (Int) :=
 match p with
 | (t0,n1,clo2_0,clo3_0,nodes4) =>
  (Kie t0.fOp) >>= fun (a0,a1) =>
  ((
  if a1 = true then
  if (decide ((wr (nodes4 + 1)) > 400)) = true then
   some (true)
  else
   some (((t0.fKids.length : Int) != a0.fkids))
  else
  some (true)
  ) : Option (Bool)) >>= fun a2 =>
  if a2 = true then
  some 401
  else
  ((
  if (t0.fOp == 0) = true then
   (Kg0 (t0.fN,0,(wr (n1 - 1)))) >>= fun a3 =>
   some (a3)
  else
   ((
   if (t0.fOp == 1) = true then
   (Kg0 (t0.fN,0,2)) >>= fun a4 =>
   some (a4)
   else
   ((
   if a0.fgrade = true then
   (Kg3 (clo2_0,t0.fN)) >>= fun a5 =>
   some (a5)
   else
   some ((t0.fN == 0))
   ) : Option (Bool)) >>= fun a6 =>
   some (a6)
   ) : Option (Bool)) >>= fun a7 =>
   some (a7)
  ) : Option (Bool)) >>= fun a8 =>
  ((
  if a0.ftyped = true then
   ((
   if a8 = true then
   (Kih (t0.fType,clo3_0)) >>= fun a9 =>
   some (a9)
   else
   some (false)
   ) : Option (Bool)) >>= fun b1 =>
   some (b1)
  else
   ((
   if a8 = true then
   some (((t0.fType.length : Int) == 0))
   else
   some (false)
   ) : Option (Bool)) >>= fun b2 =>
   some (b2)
  ) : Option (Bool)) >>= fun b3 =>
  if b3 = true then
  (Kip (t0,n1,clo2_0,clo3_0,(wr (nodes4 + 1)),0)) >>= fun fl => match fl with
  | .inl b4 =>
   some b4
  | .inr r =>
   some r
  else
  some 401
 partial_fixpoint
def Kip (p : K01 × Int × K00 × K00 × Int × Int) : Option ((Int) ⊕ (Int)) :=
 match p with
 | (t0,n1,clo2_0,clo3_0,a0,a1) =>
  if (decide (a1 < (t0.fKids.length : Int))) = true then
  (idx t0.fKids a1) >>= fun a2 =>
  (Kik (t0.fOp,a1)) >>= fun a3 =>
  (Kio (a2,(wr (n1 + a3)),clo2_0,clo3_0,a0)) >>= fun a4 =>
  if (decide (a4 > 400)) = true then
  some (.inr 401)
  else
  Kip (t0,n1,clo2_0,clo3_0,a4,(wr (a1 + 1)))
  else
  some (.inl a0)
 partial_fixpoint
end
def Kiq (p : K01 × Int × K00 × K00 × Int) (r : Int) : Prop :=
 match p with
 | (t0,n1,clo2_0,clo3_0,nodes4) => Q71 Tryz.prog 117 [K1v t0,I n1,.fnb 85 [K1t clo2_0],.fn 211 [.ptr [I clo3_0.fSize,sI clo3_0.fPlus,sI clo3_0.fTimes,sB clo3_0.fBelow] 0],I nodes4] (I r) []
def Kir (p : K01 × Int × K00 × K00 × Int × Int) (fl : (Int) ⊕ (Int)) : Prop :=
 match p with
 | (t0,n1,clo2_0,clo3_0,a0,a1) => ∀ c : Ctx,c.nt = 104 → WpL Tryz.prog c (cl (cl (cr (cl (cr (cr (cr (cr (cr (cr (cr K6i))))))))))) (Kin c fl) (mkS [(1,I n1),(2,.fnb 85 [K1t clo2_0]),(3,.fn 211 [.ptr [I clo3_0.fSize,sI clo3_0.fPlus,sI clo3_0.fTimes,sB clo3_0.fBelow] 0]),(4,I a0),(5,.ra 1 0),(82,.sl (List.map K0g t0.fKids)),(83,I (t0.fKids.length : Int)),(84,I a1)] [(1,K1u t0)])
theorem Kis : (∀ p r,Kio p = some r → Kiq p r) ∧ (∀ p r,Kip p = some r → Kir p r) := by
 refine Kio.mutual_partial_correctness Kiq Kir ?_ ?_
 ·rintro impl_check_Kimpl_Systemhas_Kimpl_isTermOf_c1_l0_f impl_check_Kimpl_Systemhas_Kimpl_isTermOf_c1_l0_ih ⟨t0,n1,clo2_0,clo3_0,nodes4⟩ r h
  refine b0 Tryz.f117 K6i 104 [(0,K1v t0),(1,I n1),(2,.fnb 85 [K1t clo2_0]),(3,.fn 211 [.ptr [I clo3_0.fSize,sI clo3_0.fPlus,sI clo3_0.fTimes,sB clo3_0.fBelow] 0]),(4,I nodes4)] fun c hc => ?_
  refine rs hc none [some (.new 1),oN] [(1,I n1),(2,.fnb 85 [K1t clo2_0]),(3,.fn 211 [.ptr [I clo3_0.fSize,sI clo3_0.fPlus,sI clo3_0.fTimes,sB clo3_0.fBelow] 0]),(4,I nodes4),(5,.ra 1 0)] [(1,K1u t0)] tv ?_
  refine K89 hc 3 [(1,I n1),(2,.fnb 85 [K1t clo2_0]),(3,.fn 211 [.ptr [I clo3_0.fSize,sI clo3_0.fPlus,sI clo3_0.fTimes,sB clo3_0.fBelow] 0]),(4,I (wr (nodes4 + 1))),(5,.ra 1 0)] ?_
  obtain ⟨⟨a0,a1⟩,a2,h⟩ := Qct h
  refine rs hc none [oN,oN,oc (.tup [.agg [.str a0.fword,I a0.fkids,.bool a0.fgrade,.bool a0.ftyped],.bool a1]),oN,oN,oN,some (.new 2),oN,oN] [(1,I n1),(2,.fnb 85 [K1t clo2_0]),(3,.fn 211 [.ptr [I clo3_0.fSize,sI clo3_0.fPlus,sI clo3_0.fTimes,sB clo3_0.fBelow] 0]),(4,I (wr (nodes4 + 1))),(5,.ra 1 0),(11,.ra 2 0),(12,.bool a1)] [(1,K1u t0),(2,.box [.str a0.fword,I a0.fkids,.bool a0.fgrade,.bool a0.ftyped])] (cq (Kig _ _ a2) K6d tv) ?_
  refine sN ?_
  refine sN ?_
  obtain ⟨a3,a4,h⟩ := Qct h
  refine Wp.into (x := .normal) (mkS [(1,I n1),(2,.fnb 85 [K1t clo2_0]),(3,.fn 211 [.ptr [I clo3_0.fSize,sI clo3_0.fPlus,sI clo3_0.fTimes,sB clo3_0.fBelow] 0]),(4,I (wr (nodes4 + 1))),(5,.ra 1 0),(11,.ra 2 0),(36,.bool a3)] [(1,K1u t0),(2,.box [.str a0.fword,I a0.fkids,.bool a0.fgrade,.bool a0.ftyped])]) ?_ ?_
  ·replace h := a4
   rcases is h with ⟨a5,h⟩ | ⟨a5,h⟩
   ·rcases is h with ⟨a6,h⟩ | ⟨a6,h⟩
    ·refine rgs hc none [oN,oN,oN,oN,oN,oF,oN,o_,o_,o_,o_,o_,o_,oT] [(1,I n1),(2,.fnb 85 [K1t clo2_0]),(3,.fn 211 [.ptr [I clo3_0.fSize,sI clo3_0.fPlus,sI clo3_0.fTimes,sB clo3_0.fBelow] 0]),(4,I (wr (nodes4 + 1))),(5,.ra 1 0),(11,.ra 2 0),(36,.bool true)] (ar 3 (nF a5) (ar 6 (neF a6) (ai a6 tv))) ?_
     obtain rfl := os h
     exact Qcf.mk
    refine rgs hc none [oN,oN,oN,oN,oN,oF,oN,oN,oN,some (.eqv (.no) ⟨[(32,I (t0.fKids.length : Int))],[],[]⟩),oN,oN,oN,oF] [(1,I n1),(2,.fnb 85 [K1t clo2_0]),(3,.fn 211 [.ptr [I clo3_0.fSize,sI clo3_0.fPlus,sI clo3_0.fTimes,sB clo3_0.fBelow] 0]),(4,I (wr (nodes4 + 1))),(5,.ra 1 0),(11,.ra 2 0),(36,.bool ((t0.fKids.length : Int) != a0.fkids))] (ar 3 (nF a5) (ar 3 a6 (ai (Qcz (d := 32) K0g t0.fKids) (ar 4 a6 tv)))) ?_
    obtain rfl := os h
    exact Qcf.mk
   refine rgs hc none [oN,oN,oN,o_,o_,oT,oN,o_,o_,o_,o_,o_,o_,oT] [(1,I n1),(2,.fnb 85 [K1t clo2_0]),(3,.fn 211 [.ptr [I clo3_0.fSize,sI clo3_0.fPlus,sI clo3_0.fTimes,sB clo3_0.fBelow] 0]),(4,I (wr (nodes4 + 1))),(5,.ra 1 0),(11,.ra 2 0),(36,.bool true)] (ar 2 (neF (nT a5)) (ai (nT a5) (ar 6 nf (ai tt tv)))) ?_
   obtain rfl := os h
   exact Qcf.mk
  clear a4
  refine ic h (fun a7 h => ?_) fun a7 h => ?_
  ·refine rs0 hc 1 [(10,I 401)] [] ?_
   refine rt ?_
   obtain rfl := os h
   exact rq [true]
  refine sk ?_
  refine sN ?_
  refine bk 0 ?_
  refine K89 hc 4 [(1,I n1),(2,.fnb 85 [K1t clo2_0]),(3,.fn 211 [.ptr [I clo3_0.fSize,sI clo3_0.fPlus,sI clo3_0.fTimes,sB clo3_0.fBelow] 0]),(4,I (wr (nodes4 + 1))),(5,.ra 1 0),(11,.ra 2 0),(40,.bool (t0.fOp == 0))] ?_
  obtain ⟨a8,a9,h⟩ := Qct h
  refine Wp.into (x := .normal) (mkS [(1,I n1),(2,.fnb 85 [K1t clo2_0]),(3,.fn 211 [.ptr [I clo3_0.fSize,sI clo3_0.fPlus,sI clo3_0.fTimes,sB clo3_0.fBelow] 0]),(4,I (wr (nodes4 + 1))),(5,.ra 1 0),(11,.ra 2 0),(12,.bool a8)] [(1,K1u t0),(2,.box [.str a0.fword,I a0.fkids,.bool a0.fgrade,.bool a0.ftyped])]) ?_ ?_
  ·replace h := a9
   refine ic h (fun b1 h => ?_) fun b1 h => ?_
   ·obtain ⟨b2,b3,h⟩ := Qct h
    refine rgs hc none [oN,oN,oN,oN,oc (.bool b2),oN] [(1,I n1),(2,.fnb 85 [K1t clo2_0]),(3,.fn 211 [.ptr [I clo3_0.fSize,sI clo3_0.fPlus,sI clo3_0.fTimes,sB clo3_0.fBelow] 0]),(4,I (wr (nodes4 + 1))),(5,.ra 1 0),(11,.ra 2 0),(12,.bool b2)] (cq (Kg2 _ _ b3) K5j tv) ?_
    obtain rfl := os h
    exact Qcf.mk
   refine K89 hc 4 [(1,I n1),(2,.fnb 85 [K1t clo2_0]),(3,.fn 211 [.ptr [I clo3_0.fSize,sI clo3_0.fPlus,sI clo3_0.fTimes,sB clo3_0.fBelow] 0]),(4,I (wr (nodes4 + 1))),(5,.ra 1 0),(11,.ra 2 0),(49,.bool (t0.fOp == 1))] ?_
   obtain ⟨b4,b5,h⟩ := Qct h
   refine Wp.into (x := .normal) (mkS [(1,I n1),(2,.fnb 85 [K1t clo2_0]),(3,.fn 211 [.ptr [I clo3_0.fSize,sI clo3_0.fPlus,sI clo3_0.fTimes,sB clo3_0.fBelow] 0]),(4,I (wr (nodes4 + 1))),(5,.ra 1 0),(11,.ra 2 0),(12,.bool b4)] [(1,K1u t0),(2,.box [.str a0.fword,I a0.fkids,.bool a0.fgrade,.bool a0.ftyped])]) ?_ ?_
   ·replace h := b5
    refine ic h (fun b6 h => ?_) fun b6 h => ?_
    ·obtain ⟨b7,b8,h⟩ := Qct h
     refine rgs hc none [oN,oN,oc (.bool b7),oN] [(1,I n1),(2,.fnb 85 [K1t clo2_0]),(3,.fn 211 [.ptr [I clo3_0.fSize,sI clo3_0.fPlus,sI clo3_0.fTimes,sB clo3_0.fBelow] 0]),(4,I (wr (nodes4 + 1))),(5,.ra 1 0),(11,.ra 2 0),(12,.bool b7)] (cq (Kg2 _ _ b8) K5j tv) ?_
     obtain rfl := os h
     exact Qcf.mk
    refine K89 hc 3 [(1,I n1),(2,.fnb 85 [K1t clo2_0]),(3,.fn 211 [.ptr [I clo3_0.fSize,sI clo3_0.fPlus,sI clo3_0.fTimes,sB clo3_0.fBelow] 0]),(4,I (wr (nodes4 + 1))),(5,.ra 1 0),(11,.ra 2 0),(56,.bool a0.fgrade)] ?_
    obtain ⟨b9,c0,h⟩ := Qct h
    refine Wp.into (x := .normal) (mkS [(1,I n1),(2,.fnb 85 [K1t clo2_0]),(3,.fn 211 [.ptr [I clo3_0.fSize,sI clo3_0.fPlus,sI clo3_0.fTimes,sB clo3_0.fBelow] 0]),(4,I (wr (nodes4 + 1))),(5,.ra 1 0),(11,.ra 2 0),(12,.bool b9)] [(1,K1u t0),(2,.box [.str a0.fword,I a0.fkids,.bool a0.fgrade,.bool a0.ftyped])]) ?_ ?_
    ·replace h := c0
     refine ic h (fun c1 h => ?_) fun c1 h => ?_
     ·obtain ⟨c2,c3,h⟩ := Qct h
      refine rgs hc none [oN,oN,oN,oc (.bool c2),oN] [(1,I n1),(2,.fnb 85 [K1t clo2_0]),(3,.fn 211 [.ptr [I clo3_0.fSize,sI clo3_0.fPlus,sI clo3_0.fTimes,sB clo3_0.fBelow] 0]),(4,I (wr (nodes4 + 1))),(5,.ra 1 0),(11,.ra 2 0),(12,.bool c2)] (cq (Kg5 _ _ c3) K5k tv) ?_
      obtain rfl := os h
      exact Qcf.mk
     refine K88 hc 4 [(1,I n1),(2,.fnb 85 [K1t clo2_0]),(3,.fn 211 [.ptr [I clo3_0.fSize,sI clo3_0.fPlus,sI clo3_0.fTimes,sB clo3_0.fBelow] 0]),(4,I (wr (nodes4 + 1))),(5,.ra 1 0),(11,.ra 2 0),(12,.bool (t0.fN == 0))] ?_
     obtain rfl := os h
     exact Qcf.mk
    clear c0
    obtain rfl := os h
    exact Qcf.mk
   clear b5
   obtain rfl := os h
   exact Qcf.mk
  clear a9
  refine sN ?_
  refine rs0 hc 2 [(1,I n1),(2,.fnb 85 [K1t clo2_0]),(3,.fn 211 [.ptr [I clo3_0.fSize,sI clo3_0.fPlus,sI clo3_0.fTimes,sB clo3_0.fBelow] 0]),(4,I (wr (nodes4 + 1))),(5,.ra 1 0),(12,.bool a8),(64,.bool a0.ftyped)] [(1,K1u t0)] ?_
  obtain ⟨c4,c5,h⟩ := Qct h
  refine Wp.into (x := .normal) (mkS [(1,I n1),(2,.fnb 85 [K1t clo2_0]),(3,.fn 211 [.ptr [I clo3_0.fSize,sI clo3_0.fPlus,sI clo3_0.fTimes,sB clo3_0.fBelow] 0]),(4,I (wr (nodes4 + 1))),(5,.ra 1 0),(12,.bool c4)] [(1,K1u t0)]) ?_ ?_
  ·replace h := c5
   refine ic h (fun c6 h => ?_) fun c6 h => ?_
   ·obtain ⟨c7,c8,h⟩ := Qct h
    refine Wp.into (x := .normal) (mkS [(1,I n1),(2,.fnb 85 [K1t clo2_0]),(3,.fn 211 [.ptr [I clo3_0.fSize,sI clo3_0.fPlus,sI clo3_0.fTimes,sB clo3_0.fBelow] 0]),(4,I (wr (nodes4 + 1))),(5,.ra 1 0),(12,.bool c7)] [(1,K1u t0)]) ?_ ?_
    ·replace h := c8
     rcases is h with ⟨c9,h⟩ | ⟨c9,h⟩
     ·obtain ⟨d0,d1,h⟩ := Qct h
      refine rgs hc none [oN,oN,oN,oN,oN,oc (.bool d0),oT,oN] [(1,I n1),(2,.fnb 85 [K1t clo2_0]),(3,.fn 211 [.ptr [I clo3_0.fSize,sI clo3_0.fPlus,sI clo3_0.fTimes,sB clo3_0.fBelow] 0]),(4,I (wr (nodes4 + 1))),(5,.ra 1 0),(12,.bool d0)] (ar 4 c9 (cq (Kij _ _ d1) K6f (ai c9 tv))) ?_
      obtain rfl := os h
      exact Qcf.mk
     refine rgs hc none [oN,oN,o_,o_,o_,o_,oF,oN] [(1,I n1),(2,.fnb 85 [K1t clo2_0]),(3,.fn 211 [.ptr [I clo3_0.fSize,sI clo3_0.fPlus,sI clo3_0.fTimes,sB clo3_0.fBelow] 0]),(4,I (wr (nodes4 + 1))),(5,.ra 1 0),(12,.bool false)] (ar 4 (neT c9) (ai c9 tv)) ?_
     obtain rfl := os h
     exact Qcf.mk
    clear c8
    obtain rfl := os h
    exact Qcf.mk
   obtain ⟨d2,d3,h⟩ := Qct h
   refine Wp.into (x := .normal) (mkS [(1,I n1),(2,.fnb 85 [K1t clo2_0]),(3,.fn 211 [.ptr [I clo3_0.fSize,sI clo3_0.fPlus,sI clo3_0.fTimes,sB clo3_0.fBelow] 0]),(4,I (wr (nodes4 + 1))),(5,.ra 1 0),(12,.bool d2)] [(1,K1u t0)]) ?_ ?_
   ·replace h := d3
    rcases is h with ⟨d4,h⟩ | ⟨d4,h⟩
    ·refine rgs hc none [oN,oN,oN,oN,some (.eqv (.no) ⟨[(76,I (t0.fType.length : Int))],[],[]⟩),oN,oT,oN] [(1,I n1),(2,.fnb 85 [K1t clo2_0]),(3,.fn 211 [.ptr [I clo3_0.fSize,sI clo3_0.fPlus,sI clo3_0.fTimes,sB clo3_0.fBelow] 0]),(4,I (wr (nodes4 + 1))),(5,.ra 1 0),(12,.bool ((t0.fType.length : Int) == 0))] (ar 3 d4 (ai (Qcz (d := 76) I t0.fType) (ar 2 d4 tv))) ?_
     obtain rfl := os h
     exact Qcf.mk
    refine rgs hc none [oN,oN,o_,o_,o_,o_,oF,oN] [(1,I n1),(2,.fnb 85 [K1t clo2_0]),(3,.fn 211 [.ptr [I clo3_0.fSize,sI clo3_0.fPlus,sI clo3_0.fTimes,sB clo3_0.fBelow] 0]),(4,I (wr (nodes4 + 1))),(5,.ra 1 0),(12,.bool false)] (ar 4 (neT d4) (ai d4 tv)) ?_
    obtain rfl := os h
    exact Qcf.mk
   clear d3
   obtain rfl := os h
   exact Qcf.mk
  clear c5
  refine sN ?_
  refine K89 hc 2 [(1,I n1),(2,.fnb 85 [K1t clo2_0]),(3,.fn 211 [.ptr [I clo3_0.fSize,sI clo3_0.fPlus,sI clo3_0.fTimes,sB clo3_0.fBelow] 0]),(4,I (wr (nodes4 + 1))),(5,.ra 1 0),(80,.bool (!c4))] ?_
  rcases is h with ⟨d5,h⟩ | ⟨d5,h⟩
  ·refine cF (!c4) (nF d5) ?_
   refine sk ?_
   refine sN ?_
   refine rss hc none [oN,oN,some (.eqv (.no) ⟨[(83,I (t0.fKids.length : Int))],[],[]⟩),oN] [(1,I n1),(2,.fnb 85 [K1t clo2_0]),(3,.fn 211 [.ptr [I clo3_0.fSize,sI clo3_0.fPlus,sI clo3_0.fTimes,sB clo3_0.fBelow] 0]),(4,I (wr (nodes4 + 1))),(5,.ra 1 0),(82,.sl (List.map K0g t0.fKids)),(83,I (t0.fKids.length : Int)),(84,I 0)] (ai (Qcz (d := 83) K0g t0.fKids) tv) ?_
   refine bk 1 ?_
   obtain ⟨fl,d6,h⟩ := Qct h
   have hL := impl_check_Kimpl_Systemhas_Kimpl_isTermOf_c1_l0_ih _ _ d6 c hc
   refine lp ?_
   rcases fl with d7 | r
   ·refine WpL.into (e := (.exit 1)) (mkS [(4,I d7)] []) hL ?_
    refine Qc7 ?_
    refine rs0 hc 2 [(10,I d7)] [] ?_
    refine rt ?_
    obtain rfl := os h
    exact rq [true]
   refine WpL.mono hL ?_
   rintro _ _ ⟨rfl,hfin⟩
   obtain rfl := os h
   exact ⟨.inl rfl,hfin⟩
  refine cT (!c4) (nT d5) ?_
  refine rs0 hc 1 [(10,I 401)] [] ?_
  refine rt ?_
  obtain rfl := os h
  exact rq [true]
 ·rintro impl_check_Kimpl_Systemhas_Kimpl_isTermOf_c1_f impl_check_Kimpl_Systemhas_Kimpl_isTermOf_c1_l0_f impl_check_Kimpl_Systemhas_Kimpl_isTermOf_c1_ih impl_check_Kimpl_Systemhas_Kimpl_isTermOf_c1_l0_ih ⟨t0,n1,clo2_0,clo3_0,d8,d9⟩ r h
  intro c hc
  refine WpL.step ?_
  refine K89 hc 1 [(1,I n1),(2,.fnb 85 [K1t clo2_0]),(3,.fn 211 [.ptr [I clo3_0.fSize,sI clo3_0.fPlus,sI clo3_0.fTimes,sB clo3_0.fBelow] 0]),(4,I d8),(5,.ra 1 0),(82,.sl (List.map K0g t0.fKids)),(83,I (t0.fKids.length : Int)),(84,I d9),(85,.bool (decide (d9 < (t0.fKids.length : Int))))] ?_
  refine sN ?_
  refine ic h (fun e0 h => ?_) fun e0 h => ?_
  ·refine sk ?_
   refine sN ?_
   refine bk 2 ?_
   obtain ⟨e1,e2,h⟩ := Qct h
   refine rs hc none [oN,some (.el (K1v e1)),oN,some (.new 4),oN,oN] [(1,I n1),(2,.fnb 85 [K1t clo2_0]),(3,.fn 211 [.ptr [I clo3_0.fSize,sI clo3_0.fPlus,sI clo3_0.fTimes,sB clo3_0.fBelow] 0]),(4,I d8),(5,.ra 1 0),(13,I d9),(14,.ra 4 0),(82,.sl (List.map K0g t0.fKids)),(83,I (t0.fKids.length : Int)),(84,I d9)] [(1,K1u t0),(4,K1u e1)] (ai (Qcx e2 (K0n e1)) tv) ?_
   obtain ⟨e3,e4,e5,e6,h⟩ := bq2 h
   refine rs hc (rx [[0],[0],[0],[0,2],[0],[0,2,3,4],[0,1,2,3,4,5],[0],[0],[0],[10],[11]]) [oN,oN,oN,oN,oN,oc (I e3),oN,oN,oN,oN,oc (I e5),oN] [(1,I n1),(2,.fnb 85 [K1t clo2_0]),(3,.fn 211 [.ptr [I clo3_0.fSize,sI clo3_0.fPlus,sI clo3_0.fTimes,sB clo3_0.fBelow] 0]),(4,I e5),(5,.ra 1 0),(82,.sl (List.map K0g t0.fKids)),(83,I (t0.fKids.length : Int)),(84,I d9)] [(1,K1u t0)] (cq (Kim _ _ e4) K6h (cq (impl_check_Kimpl_Systemhas_Kimpl_isTermOf_c1_ih _ _ e6) K6j tv)) ?_
   refine K89 hc 2 [(1,I n1),(2,.fnb 85 [K1t clo2_0]),(3,.fn 211 [.ptr [I clo3_0.fSize,sI clo3_0.fPlus,sI clo3_0.fTimes,sB clo3_0.fBelow] 0]),(4,I e5),(5,.ra 1 0),(82,.sl (List.map K0g t0.fKids)),(83,I (t0.fKids.length : Int)),(84,I d9),(101,.bool (decide (e5 > 400)))] ?_
   refine ic h (fun e7 h => ?_) fun e7 h => ?_
   ·refine rs0 hc 1 [(10,I 401)] [] ?_
    refine rt ?_
    obtain rfl := os h
    exact re [true]
   refine sk ?_
   refine K88 hc 2 [(1,I n1),(2,.fnb 85 [K1t clo2_0]),(3,.fn 211 [.ptr [I clo3_0.fSize,sI clo3_0.fPlus,sI clo3_0.fTimes,sB clo3_0.fBelow] 0]),(4,I e5),(5,.ra 1 0),(82,.sl (List.map K0g t0.fKids)),(83,I (t0.fKids.length : Int)),(84,I (wr (d9 + 1)))] ?_
   refine Qcb ?_
   exact (impl_check_Kimpl_Systemhas_Kimpl_isTermOf_c1_l0_ih _ _ h c hc)
  refine xt 1 ?_
  refine Qc5 ?_
  refine Qcc ?_
  obtain rfl := os h
  exact iv []
theorem Kit : ∀ p r,Kio p = some r → Kiq p r := Kis.1
theorem Kiu : ∀ p r,Kip p = some r → Kir p r := Kis.2
def Kiv (p : K00 × K01 × Int) : Option (Bool) :=
 match p with
 | (s0,t1,n2) =>
  ((
  (Kg0 (n2,0,8)) >>= fun a0 =>
  if a0 = true then
  (Kio (t1,n2,s0,s0,0)) >>= fun a1 =>
  some ((decide (a1 ≤ 400)))
  else
  some (false)
  ) : Option (Bool)) >>= fun a2 =>
  some a2
def Kiw (p : K00 × K01 × Int) (r : Bool) : Prop :=
 match p with
 | (s0,t1,n2) => Q71 Tryz.prog 155 [K1t s0,K1v t1,I n2] (.bool r) []
theorem Kix : ∀ p r,Kiv p = some r → Kiw p r := by
 rintro ⟨s0,t1,n2⟩ r h
 unfold Kiv at h
 refine b0 Tryz.f155 K6k 18 [(0,K1t s0),(1,K1v t1),(2,I n2)] fun c hc => ?_
 refine rs hc none [some (.new 1),some (.new 2),oN] [(2,I n2),(3,.ra 1 0),(4,.ra 2 0)] [(1,K1s s0),(2,K1u t1)] tv ?_
 refine sN ?_
 obtain ⟨a0,a1,h⟩ := Qct h
 refine Wp.into (x := .normal) (mkS [(6,.bool a0)] []) ?_ ?_
 ·replace h := a1
  obtain ⟨a2,a3,h⟩ := Qct h
  rcases is h with ⟨a4,h⟩ | ⟨a4,h⟩
  ·obtain ⟨a5,a6,h⟩ := Qct h
   refine rg hc none [oN,oc (.bool a2),oN,oN,oN,oN,oN,oN,oc (I a5),oN,oT,oN] [(6,.bool (decide (a5 ≤ 400)))] [] (cq (Kg2 _ _ a3) K5j (ar 6 a4 (ac (Kit _ _ a6) K6j (Or.inr rfl : ([1] : List Nat) = [] ∨ noSh (I a5) = true) (ar 2 a4 tv)))) ?_
   obtain rfl := os h
   exact Qcf.mk
  refine rg hc none [oN,oc (.bool a2),oN,o_,o_,o_,o_,o_,o_,o_,oF,oN] [(6,.bool false)] [] (cq (Kg2 _ _ a3) K5j (ar 7 (neT a4) (ai a4 tv))) ?_
  obtain rfl := os h
  exact Qcf.mk
 clear a1
 refine rt ?_
 obtain rfl := os h
 exact rq [true]
def Kiy (c : Ctx) : LL → Exit → Q0a → Prop
 | a0 => Qcf c (.exit 0) (mkS [(3,.rs 3)] [(3,.arr (List.map K10 a0))])
def Kiz (p : (List Int) × LL × Int) : Option (LL) :=
 match p with
 | (ty0,a0,a1) =>
  if (decide (a1 < (ty0.length : Int))) = true then
  (Khl (ty0,a1)) >>= fun a2 =>
  (cut ty0 (some a1) (some a2) (some a2)) >>= fun a3 =>
  (Qd6 (a0.length + [a3].length) 24) >>= fun _ =>
  Kiz (ty0,(a0 ++ [a3]),a2)
  else
  some (a0)
 partial_fixpoint
def Kj0 (p : (List Int) × LL × Int) (fl : LL) : Prop :=
 match p with
 | (ty0,a0,a1) => ∀ c : Ctx,c.nt = 23 → WpL Tryz.prog c (cl (cl (cr (cl (cr (cr K6m)))))) (Kiy c fl) (mkS [(0,sI ty0),(3,.rs 3),(4,I a1)] [(3,.arr (List.map K10 a0))])
theorem Kj1 : ∀ p r,Kiz p = some r → Kj0 p r := by
 refine Kiz.partial_correctness Kj0 ?_
 rintro impl_parts_l0_f impl_parts_l0_ih ⟨ty0,a0,a1⟩ r h
 intro c hc
 refine WpL.step ?_
 refine sN ?_
 refine rss hc none [oN,oN,some (.eqv (.no) ⟨[(8,I (ty0.length : Int))],[],[]⟩),oN] [(0,sI ty0),(3,.rs 3),(4,I a1),(9,.bool (decide (a1 < (ty0.length : Int))))] (ai (Qcz (d := 8) I ty0) tv) ?_
 refine ic h (fun a2 h => ?_) fun a2 h => ?_
 ·refine sk ?_
  refine bk 1 ?_
  obtain ⟨a3,a4,h⟩ := Qct h
  refine rss hc none [oN,oN,oc (I a3),oN] [(0,sI ty0),(3,.rs 3),(4,I a1),(5,I a3)] (cq (Khn _ _ a4) K5z tv) ?_
  obtain ⟨a5,a6,_,a7,h⟩ := bq2 h
  refine rs hc none [oN,oN,oN,oN,oN,some (.eqv (.no) ⟨[(18,sI a5)],[],[]⟩),some (.mk 6 false),some (.eqv (.mk 7 true) ⟨[(20,.rs 7)],[(7,some (.arr (List.map K10 (a0 ++ [a5])))),(3,none),(6,none)],[7]⟩),oN] [(0,sI ty0),(3,.rs 7),(5,I a3)] [(7,.arr (List.map K10 (a0 ++ [a5])))] (ad (Qd2 (d := 18) I a6) (Qd1 (enc := I) (sz := 1) Qdc a6) (congrArg (fun z => (⟨[(20,.rs 7)],[(7,some (.arr z)),(3,none),(6,none)],[7]⟩ : Wr)) ((List.map_append).symm : (List.map K10 a0) ++ (List.map K10 [a5]) = List.map K10 (a0 ++ [a5]))) (Qd7 (enc1 := K10) (enc2 := K10) (e1 := a0) (e2 := [a5]) (sz := 1) K13 K13 a7) tv) ?_
  refine K88 hc 2 [(0,sI ty0),(3,.rs 7),(4,I a3)] ?_
  refine Qcb ?_
  exact WpL.view (fun a w hv => SRx.renL [(3,7)] hv (by kernel_rfl) (by kernel_rfl) (by kernel_rfl)) (impl_parts_l0_ih _ _ h c hc)
 refine xt 0 ?_
 refine Qc5 ?_
 refine Qcc ?_
 obtain rfl := os h
 exact iv []
def Kj2 (ty0 : (List Int)) : Option (LL) :=
 (Kiz (ty0,[],1)) >>= fun a0 =>
 some a0
def Kj3 (ty0 : (List Int)) (r : LL) : Prop :=
 Q71 Tryz.prog 178 [sI ty0] (.osl (List.map K10 r)) []
theorem Kj4 : ∀ p r,Kj2 p = some r → Kj3 p r := by
 rintro ty0 r h
 unfold Kj2 at h
 refine b0 Tryz.f178 K6m 23 [(0,sI ty0)] fun c hc => ?_
 refine rs0 hc 1 [(0,sI ty0)] [] ?_
 refine rs0 hc 1 [(0,sI ty0),(3,.nils)] [] ?_
 refine sN ?_
 refine rs0 hc 1 [(0,sI ty0),(3,.nils),(4,I 1)] [] ?_
 refine bk 0 ?_
 obtain ⟨a0,a1,h⟩ := Qct h
 have hL := Kj1 _ _ a1 c hc
 refine Wp.loopN (by kernel_rfl) (WpL.view (fun a w hv => SRx.renL [(3,8)] (SRx.nilTL 3 8 hv (by kernel_rfl) (by kernel_rfl)) (by kernel_rfl) (by kernel_rfl) (by kernel_rfl)) (?_ : WpL _ c _ _ (mkS [(0,sI ty0),(3,.rs 3),(4,I 1)] [(3,.arr (List.map K10 []))])))
 refine WpL.into (e := (.exit 0)) (mkS [(3,.rs 3)] [(3,.arr (List.map K10 a0))]) hL ?_
 refine Qc7 ?_
 refine K89 hc 2 [(2,.rs 3)] ?_
 refine rt ?_
 obtain rfl := os h
 exact rq [true]
def Kj5 (p : K01 × Int × (List Int)) : Option (LL) :=
 match p with
 | (t0,kid1,first2) =>
  if (t0.fOp == 9) = true then
  some [t0.fType]
  else
  (Kik (t0.fOp,kid1)) >>= fun a0 =>
  if (a0 == 0) = true then
  some []
  else
  (Kj2 first2) >>= fun a1 =>
  if (t0.fOp == 5) = true then
  (idx a1 1) >>= fun a2 =>
  (idx a1 0) >>= fun a3 =>
  some [a2,a3]
  else
  if (t0.fOp == 8) = true then
  (idx a1 (wr (kid1 - 1))) >>= fun a4 =>
  some [a4]
  else
  some a1
def Kj6 (p : K01 × Int × (List Int)) (r : LL) : Prop :=
 match p with
 | (t0,kid1,first2) => Q71 Tryz.prog 174 [K1v t0,I kid1,sI first2] (.osl (List.map K10 r)) []
theorem Kj7 : ∀ p r,Kj5 p = some r → Kj6 p r := by
 rintro ⟨t0,kid1,first2⟩ r h
 unfold Kj5 at h
 refine b0 Tryz.f174 K6o 43 [(0,K1v t0),(1,I kid1),(2,sI first2)] fun c hc => ?_
 refine rs hc none [some (.new 1),oN] [(1,I kid1),(2,sI first2),(3,.ra 1 0)] [(1,K1u t0)] tv ?_
 refine sN ?_
 refine bk 0 ?_
 refine K89 hc 4 [(1,I kid1),(2,sI first2),(3,.ra 1 0),(8,.bool (t0.fOp == 9))] ?_
 refine ic h (fun a0 h => ?_) fun a0 h => ?_
 ·refine rs hc none [oN,oN,some (.mk 2 false),oN] [(6,.rs 2)] [(2,.arr (List.map K10 [t0.fType]))] tv ?_
  refine rt ?_
  obtain rfl := os h
  exact rq [true]
 obtain ⟨a1,a2,h⟩ := Qct h
 refine rss hc none [oN,oN,oN,oc (I a1),oN,oN] [(1,I kid1),(2,sI first2),(3,.ra 1 0),(15,.bool (a1 == 0))] (cq (Kim _ _ a2) K6h tv) ?_
 refine ic h (fun a3 h => ?_) fun a3 h => ?_
 ·refine rs0 hc 1 [(6,.nils)] [] ?_
  refine rt ?_
  obtain rfl := os h
  exact rq [true]
 refine sk ?_
 obtain ⟨a4,a5,h⟩ := Qct h
 refine rs hc none [oN,some (.call (.osl (List.map K10 a4)) [] 3),oN] [(1,I kid1),(3,.ra 1 0),(7,.rs 3)] [(1,K1u t0),(3,.arr (List.map K10 a4))] (cq (Kj4 _ _ a5) K6n tv) ?_
 refine sN ?_
 refine rs0 hc 2 [(1,I kid1),(7,.rs 3),(24,I t0.fOp)] [(3,.arr (List.map K10 a4))] ?_
 refine bk 1 ?_
 refine K89 hc 2 [(1,I kid1),(7,.rs 3),(24,I t0.fOp),(25,.bool (t0.fOp == 5))] ?_
 refine ic h (fun a6 h => ?_) fun a6 h => ?_
 ·obtain ⟨a7,a8,a9,b1,h⟩ := bq2 h
  refine rs hc (rx [[0],[1],[2],[0],[0,3],[0,3,4],[6],[7]]) [oN,oN,some (.el (sI a7)),oN,oN,some (.el (sI a9)),some (.mk 4 false),oN] [(6,.rs 4)] [(4,.arr (List.map K10 [a7,a9]))] (ad (Qcy (enc := K10) a8) (xL a8).2 (Qcy (enc := K10) b1) (xL b1).2 tv) ?_
  refine rt ?_
  obtain rfl := os h
  exact rq [true]
 refine K89 hc 2 [(1,I kid1),(7,.rs 3),(34,.bool (t0.fOp == 8))] ?_
 refine ic h (fun b2 h => ?_) fun b2 h => ?_
 ·obtain ⟨b3,b4,h⟩ := Qct h
  refine rs hc none [oN,oN,oN,oN,some (.el (sI b3)),some (.mk 5 false),oN] [(6,.rs 5)] [(5,.arr (List.map K10 [b3]))] (ab (Qcy (enc := K10) b4) (xL b4).2 tv) ?_
  refine rt ?_
  obtain rfl := os h
  exact rq [true]
 refine sk ?_
 refine K89 hc 2 [(6,.rs 3)] ?_
 refine rt ?_
 obtain rfl := os h
 exact rq [true]
def Kj8 (n1 : Int) : Option (Unit) :=
 if (decide (n1 < 0)) = true then
 none
 else
 if (decide ((wr (n1 - (wr (0 - 0)))) > 0)) = true then
 (chk (0 ≤ (wr (n1 - (wr (0 - 0)))) ∧ (Int.toNat (wr (n1 - (wr (0 - 0))))) * 24 ≤ 140737488355328)) >>= fun _ =>
 some ()
 else
 some ()
def Kj9 (n1 : Int) (r : Unit) : Prop :=
 Q9k Tryz.prog 219 n1
theorem Kja : ∀ p r,Kj8 p = some r → Kj9 p r := by
 rintro n1 r h
 unfold Kj8 at h
 show Q9k Tryz.prog 219 n1
 refine Q9k.of_body K2w (fn := Tryz.f219) (code := K6q) (by kernel_rfl) (by kernel_rfl) (nt := 27) (by kernel_rfl) (by kernel_rfl) (fun c hc => ?_)
 refine rs0 hc 1 [(0,.nils),(1,I n1)] [] ?_
 refine sN ?_
 refine rs0 hc 2 [(0,.nils),(1,I n1),(6,.bool (decide (n1 < 0)))] [] ?_
 refine ic h (fun a0 h => ?_) fun a0 h => ?_
 ·cases h
 refine sk ?_
 refine sN ?_
 refine rs0 hc 8 [(0,.nils),(1,I (wr (n1 - (wr (0 - 0)))))] [] ?_
 refine rs0 hc 2 [(0,.nils),(1,I (wr (n1 - (wr (0 - 0))))),(16,.bool (decide ((wr (n1 - (wr (0 - 0)))) > 0)))] [] ?_
 refine ic h (fun a1 h => ?_) fun a1 h => ?_
 ·obtain ⟨_,a2,h⟩ := Qct h
  refine rg hc none [oN,oN,oN,oN,oN,some (.new 1),oN,oN,some (.new 2),oN] [(0,.rs 2)] [(2,.ary (List.map K10 []))] (ai (Qcv a2) tv) ?_
  refine K89 hc 2 [(4,.rs 2)] ?_
  refine rt ?_
  exact Qeh.ret (by kernel_rfl)
 refine sk ?_
 refine rs0 hc 2 [(4,.nils)] [] ?_
 refine rt ?_
 exact Qeh.ret (by kernel_rfl)
def Kjb (c : Ctx) (slices0 : List LL) : Int → Exit → Q0a → Prop
 | a0 => Qcf c (.exit 0) (mkS [(0,.sl (List.map K1n slices0)),(3,I a0)] [])
def Kjc (p : (List LL) × Int × Int) : Option (Int) :=
 match p with
 | (slices0,a0,a1) =>
  if (decide (a1 < (slices0.length : Int))) = true then
  (idx slices0 a1) >>= fun a2 =>
  ((
  if (decide ((wr (a0 + (a2.length : Int))) < 0)) = true then
  none
  else
  some (())
  ) : Option (Unit)) >>= fun () =>
  Kjc (slices0,(wr (a0 + (a2.length : Int))),(wr (a1 + 1)))
  else
  some (a0)
 partial_fixpoint
def Kjd (p : (List LL) × Int × Int) (fl : Int) : Prop :=
 match p with
 | (slices0,a0,a1) => ∀ c : Ctx,c.nt = 36 → WpL Tryz.prog c (cl (cl (cr (cl (cr (cr K6s)))))) (Kjb c slices0 fl) (mkS [(0,.sl (List.map K1n slices0)),(3,I a0),(9,.sl (List.map K1n slices0)),(10,I (slices0.length : Int)),(11,I a1)] [])
theorem Kje : ∀ p r,Kjc p = some r → Kjd p r := by
 refine Kjc.partial_correctness Kjd ?_
 rintro slices_Concat_Lint_l0_f slices_Concat_Lint_l0_ih ⟨slices0,a0,a1⟩ r h
 intro c hc
 refine WpL.step ?_
 refine rs0 hc 1 [(0,.sl (List.map K1n slices0)),(3,I a0),(9,.sl (List.map K1n slices0)),(10,I (slices0.length : Int)),(11,I a1),(12,.bool (decide (a1 < (slices0.length : Int))))] [] ?_
 refine sN ?_
 refine ic h (fun a2 h => ?_) fun a2 h => ?_
 ·refine sk ?_
  refine sN ?_
  refine bk 1 ?_
  obtain ⟨a3,a4,h⟩ := Qct h
  refine rs hc none [some (.el (sL a3)),oN,oN] [(0,.sl (List.map K1n slices0)),(3,I a0),(5,sL a3),(9,.sl (List.map K1n slices0)),(10,I (slices0.length : Int)),(11,I a1)] [] (ai (Qcx a4 (K1o a3)) tv) ?_
  refine rs hc none [oN,oN,some (.eqv (.no) ⟨[(17,I (a3.length : Int))],[],[]⟩),oN,oN] [(0,.sl (List.map K1n slices0)),(3,I (wr (a0 + (a3.length : Int)))),(9,.sl (List.map K1n slices0)),(10,I (slices0.length : Int)),(11,I a1)] [] (ai (Qcz (d := 17) K10 a3) tv) ?_
  refine rs0 hc 2 [(0,.sl (List.map K1n slices0)),(3,I (wr (a0 + (a3.length : Int)))),(9,.sl (List.map K1n slices0)),(10,I (slices0.length : Int)),(11,I a1),(20,.bool (decide ((wr (a0 + (a3.length : Int))) < 0)))] [] ?_
  obtain ⟨⟨⟩,a5,h⟩ := Qct h
  refine Wp.into (x := .normal) (mkS [(0,.sl (List.map K1n slices0)),(3,I (wr (a0 + (a3.length : Int)))),(9,.sl (List.map K1n slices0)),(10,I (slices0.length : Int)),(11,I a1)] []) ?_ ?_
  ·replace h := a5
   refine ic h (fun a6 h => ?_) fun a6 h => ?_
   ·cases h
   refine sk ?_
   exact iv []
  clear a5
  refine rg0 hc 2 [(0,.sl (List.map K1n slices0)),(3,I (wr (a0 + (a3.length : Int)))),(9,.sl (List.map K1n slices0)),(10,I (slices0.length : Int)),(11,I (wr (a1 + 1)))] [] ?_
  refine Qcb ?_
  exact (slices_Concat_Lint_l0_ih _ _ h c hc)
 refine xt 0 ?_
 refine Qc5 ?_
 refine Qcc ?_
 obtain rfl := os h
 exact iv []
def Kjf (c : Ctx) : LL → Exit → Q0a → Prop
 | a0 => Qcf c (.exit 2) (mkS [(6,.rs 1)] [(1,.ary (List.map K10 a0))])
def Kjg (p : (List LL) × LL × Int) : Option (LL) :=
 match p with
 | (slices0,a0,a1) =>
  if (decide (a1 < (slices0.length : Int))) = true then
  (idx slices0 a1) >>= fun a2 =>
  (Qd6 (a0.length + a2.length) 24) >>= fun _ =>
  Kjg (slices0,(a0 ++ a2),(wr (a1 + 1)))
  else
  some (a0)
 partial_fixpoint
def Kjh (p : (List LL) × LL × Int) (fl : LL) : Prop :=
 match p with
 | (slices0,a0,a1) => ∀ c : Ctx,c.nt = 36 → WpL Tryz.prog c (cl (cl (cr (cl (cr (cr (cr (cr K6s)))))))) (Kjf c fl) (mkS [(6,.rs 1),(25,.sl (List.map K1n slices0)),(26,I (slices0.length : Int)),(27,I a1)] [(1,.ary (List.map K10 a0))])
theorem Kji : ∀ p r,Kjg p = some r → Kjh p r := by
 refine Kjg.partial_correctness Kjh ?_
 rintro slices_Concat_Lint_l1_f slices_Concat_Lint_l1_ih ⟨slices0,a0,a1⟩ r h
 intro c hc
 refine WpL.step ?_
 refine K89 hc 1 [(6,.rs 1),(25,.sl (List.map K1n slices0)),(26,I (slices0.length : Int)),(27,I a1),(28,.bool (decide (a1 < (slices0.length : Int))))] ?_
 refine sN ?_
 refine ic h (fun a2 h => ?_) fun a2 h => ?_
 ·refine sk ?_
  refine sN ?_
  refine bk 3 ?_
  obtain ⟨a3,a4,h⟩ := Qct h
  refine rss hc none [some (.el (sL a3)),oN,oN] [(6,.rs 1),(8,sL a3),(25,.sl (List.map K1n slices0)),(26,I (slices0.length : Int)),(27,I a1)] (ai (Qcx a4 (K1o a3)) tv) ?_
  obtain ⟨_,a5,h⟩ := Qct h
  refine rg hc none [oN,oN,some (.eqv (.new 3) ⟨[(33,.rs 3)],[(3,some (.ary (List.map K10 (a0 ++ a3)))),(1,none)],[3]⟩),oN] [(6,.rs 3),(25,.sl (List.map K1n slices0)),(26,I (slices0.length : Int)),(27,I a1)] [(3,.ary (List.map K10 (a0 ++ a3)))] (ab (congrArg (fun z => (⟨[(33,.rs 3)],[(3,some (.ary z)),(1,none)],[3]⟩ : Wr)) ((List.map_append).symm : (List.map K10 a0) ++ (List.map K10 a3) = List.map K10 (a0 ++ a3))) (Qek (enc := K10) (e1 := a0) (e2 := a3) (fun _ => rfl) a5) tv) ?_
  refine K88 hc 2 [(6,.rs 3),(25,.sl (List.map K1n slices0)),(26,I (slices0.length : Int)),(27,I (wr (a1 + 1)))] ?_
  refine Qcb ?_
  exact WpL.view (fun a w hv => SRx.renL [(1,3)] hv (by kernel_rfl) (by kernel_rfl) (by kernel_rfl)) (slices_Concat_Lint_l1_ih _ _ h c hc)
 refine xt 2 ?_
 refine Qc5 ?_
 refine Qcc ?_
 obtain rfl := os h
 exact iv []
def Kjj (slices0 : (List LL)) : Option (LL) :=
 (Kjc (slices0,0,0)) >>= fun a0 =>
 (Kj8 a0) >>= fun _ =>
 (Kjg (slices0,[],0)) >>= fun a1 =>
 some a1
def Kjk (slices0 : (List LL)) (r : LL) : Prop :=
 Q71 Tryz.prog 176 [.sl (List.map K1n slices0)] (sL r) []
theorem Kjl : ∀ p r,Kjj p = some r → Kjk p r := by
 rintro slices0 r h
 unfold Kjj at h
 refine b0 Tryz.f176 K6s 36 [(0,.sl (List.map K1n slices0))] fun c hc => ?_
 refine rs0 hc 1 [(0,.sl (List.map K1n slices0))] [] ?_
 refine rs0 hc 1 [(0,.sl (List.map K1n slices0)),(3,I 0)] [] ?_
 refine sN ?_
 refine rs hc none [oN,some (.eqv (.no) ⟨[(10,I (slices0.length : Int))],[],[]⟩),oN] [(0,.sl (List.map K1n slices0)),(3,I 0),(9,.sl (List.map K1n slices0)),(10,I (slices0.length : Int)),(11,I 0)] [] (ai (Qcz (d := 10) K1n slices0) tv) ?_
 refine bk 0 ?_
 obtain ⟨a0,a1,h⟩ := Qct h
 have hL := Kje _ _ a1 c hc
 refine lp ?_
 refine WpL.into (e := (.exit 0)) (mkS [(0,.sl (List.map K1n slices0)),(3,I a0)] []) hL ?_
 refine Qc7 ?_
 obtain ⟨_,a2,h⟩ := Qct h
 refine rs hc none [oN,some (.new 1),oN] [(0,.sl (List.map K1n slices0)),(6,.rs 1)] [(1,.ary (List.map K10 []))] (ab (Kja _ _ a2) K6r tv) ?_
 refine sN ?_
 refine rss hc none [oN,some (.eqv (.no) ⟨[(26,I (slices0.length : Int))],[],[]⟩),oN] [(6,.rs 1),(25,.sl (List.map K1n slices0)),(26,I (slices0.length : Int)),(27,I 0)] (ai (Qcz (d := 26) K1n slices0) tv) ?_
 refine bk 2 ?_
 obtain ⟨a3,a4,h⟩ := Qct h
 have hL := Kji _ _ a4 c hc
 refine lp ?_
 refine WpL.into (e := (.exit 2)) (mkS [(6,.rs 1)] [(1,.ary (List.map K10 a3))]) hL ?_
 refine Qc7 ?_
 refine K89 hc 2 [(2,.rs 1)] ?_
 refine Wp.view (fun a w hv => SRx.frzYL 1 (xs := List.map K10 a3) hv (by kernel_rfl) (by kernel_rfl) (by kernel_rfl)) (?_ : Wp Tryz.prog c _ _ (mkS [(2,sL a3)] []))
 refine rt ?_
 obtain rfl := os h
 exact rq [false]
def Kjm : Option (List (List Nat)) := rx [[0],[0],[0],[0],[0],[0,3,4],[0,3,4,5],[0],[0],[0,7,8],[0,7,8,9],[0,2,3,4,5,6,7,8,9,10],[12],[13]]
def Kjn (p : K05 × K01 × Int × (List Int)) : Option (Int) :=
 match p with
 | (p0,t1,kid2,ty3) =>
  (idx ty3 0) >>= fun a0 =>
  (Khi a0) >>= fun (a1,a2) =>
  ((
  if (t1.fOp == 2) = true then
  some ((t1.fOp == 2))
  else
  ((
  if (t1.fOp == 3) = true then
  some ((kid2 == 0))
  else
  some (false)
  ) : Option (Bool)) >>= fun a3 =>
  some (a3)
  ) : Option (Bool)) >>= fun a4 =>
  ((
  if a4 = true then
  some ((0,2))
  else
  ((
  if (t1.fOp == 5) = true then
  some ((kid2 == 0))
  else
  some (false)
  ) : Option (Bool)) >>= fun a5 =>
  ((
  if a5 = true then
  some ((1,4))
  else
  ((
  if (t1.fOp == 8) = true then
  some ((kid2 == 0))
  else
  some (false)
  ) : Option (Bool)) >>= fun a6 =>
  ((
  if a6 = true then
  some ((2,5))
  else
  ((
  if (t1.fOp == 10) = true then
  some ((kid2 == 0))
  else
  some (false)
  ) : Option (Bool)) >>= fun a7 =>
  ((
  if a7 = true then
  some ((3,6))
  else
  ((
  if (t1.fOp == 12) = true then
  some ((kid2 == 0))
  else
  some (false)
  ) : Option (Bool)) >>= fun a8 =>
  ((
  if a8 = true then
  some ((4,7))
  else
  some (((-1),0))
  ) : Option (Int × Int)) >>= fun (a9,b1) =>
  some ((a9,b1))
  ) : Option (Int × Int)) >>= fun (b2,b3) =>
  some ((b2,b3))
  ) : Option (Int × Int)) >>= fun (b4,b5) =>
  some ((b4,b5))
  ) : Option (Int × Int)) >>= fun (b6,b7) =>
  some ((b6,b7))
  ) : Option (Int × Int)) >>= fun (b8,b9) =>
  ((
  if (decide (b8 ≥ 0)) = true then
  some ((a1 != b8))
  else
  some (false)
  ) : Option (Bool)) >>= fun c0 =>
  if c0 = true then
  some b9
  else
  ((
  if (kid2 == 0) = true then
  if (t1.fOp == 5) = true then
  (Kgc (p0.fs,1,t1.fN)) >>= fun c1 =>
  some ((!c1))
  else
  if (t1.fOp == 8) = true then
  (Kgc (p0.fs,1,t1.fN)) >>= fun c1 =>
  some ((!c1))
  else
  if (t1.fOp == 12) = true then
  (Kgc (p0.fs,1,t1.fN)) >>= fun c1 =>
  some ((!c1))
  else
  some (false)
  else
  some (false)
  ) : Option (Bool)) >>= fun c2 =>
  if c2 = true then
  some 8
  else
  some 0
def Kjo (p : K05 × K01 × Int × (List Int)) (r : Int) : Prop :=
 match p with
 | (p0,t1,kid2,ty3) => Q71 Tryz.prog 177 [K21 p0,K1v t1,I kid2,sI ty3] (I r) []
theorem Kjp : ∀ p r,Kjn p = some r → Kjo p r := by
 rintro ⟨p0,t1,kid2,ty3⟩ r h
 unfold Kjn at h
 refine b0 Tryz.f177 K6w 96 [(0,K21 p0),(1,K1v t1),(2,I kid2),(3,sI ty3)] fun c hc => ?_
 refine rs hc none [some (.new 1),some (.new 2),oN] [(2,I kid2),(3,sI ty3),(4,.ra 1 0),(5,.ra 2 0)] [(1,K20 p0),(2,K1u t1)] tv ?_
 obtain ⟨a0,a1,⟨a2,a3⟩,a4,h⟩ := bq2 h
 refine rss hc none [oN,some (.el (I a0)),oN,oc (.tup [I a2,I a3]),oN,oN,oN,oN,oN] [(2,I kid2),(4,.ra 1 0),(5,.ra 2 0),(9,I a2)] (ai (ix a1) (cq (Khk _ _ a4) K5x tv)) ?_
 refine K89 hc 2 [(2,I kid2),(4,.ra 1 0),(5,.ra 2 0),(9,I a2),(11,I (-1)),(12,I 0)] ?_
 refine sN ?_
 refine bk 0 ?_
 refine sN ?_
 refine K89 hc 4 [(2,I kid2),(4,.ra 1 0),(5,.ra 2 0),(9,I a2),(11,I (-1)),(12,I 0),(20,.bool (t1.fOp == 2))] ?_
 obtain ⟨a5,a6,h⟩ := Qct h
 refine Wp.into (x := .normal) (mkS [(2,I kid2),(4,.ra 1 0),(5,.ra 2 0),(9,I a2),(11,I (-1)),(12,I 0),(20,.bool a5)] [(1,K20 p0),(2,K1u t1)]) ?_ ?_
 ·replace h := a6
  refine ic h (fun a7 h => ?_) fun a7 h => ?_
  ·refine sk ?_
   obtain rfl := os h
   exact Qcf.mk
  obtain ⟨a8,a9,h⟩ := Qct h
  refine Wp.into (x := .normal) (mkS [(2,I kid2),(4,.ra 1 0),(5,.ra 2 0),(9,I a2),(11,I (-1)),(12,I 0),(20,.bool a8)] [(1,K20 p0),(2,K1u t1)]) ?_ ?_
  ·replace h := a9
   rcases is h with ⟨b1,h⟩ | ⟨b1,h⟩
   ·refine rgs hc none [oN,oN,oN,oN,oN,oN,oT,oN] [(2,I kid2),(4,.ra 1 0),(5,.ra 2 0),(9,I a2),(11,I (-1)),(12,I 0),(20,.bool (kid2 == 0))] (ar 3 b1 tv) ?_
    obtain rfl := os h
    exact Qcf.mk
   refine rgs hc none [oN,oN,oN,oN,o_,o_,oF,oN] [(2,I kid2),(4,.ra 1 0),(5,.ra 2 0),(9,I a2),(11,I (-1)),(12,I 0),(20,.bool false)] (ar 2 (neT b1) (ai b1 tv)) ?_
   obtain rfl := os h
   exact Qcf.mk
  clear a9
  obtain rfl := os h
  exact Qcf.mk
 clear a6
 obtain ⟨⟨b2,b3⟩,b4,h⟩ := Qct h
 refine Wp.into (x := .normal) (mkS [(2,I kid2),(4,.ra 1 0),(5,.ra 2 0),(9,I a2),(11,I b2),(12,I b3)] [(1,K20 p0),(2,K1u t1)]) ?_ ?_
 ·replace h := b4
  refine ic h (fun b5 h => ?_) fun b5 h => ?_
  ·refine K88 hc 2 [(2,I kid2),(4,.ra 1 0),(5,.ra 2 0),(9,I a2),(11,I 0),(12,I 2)] ?_
   obtain ⟨rfl,rfl⟩ := Prod.mk.inj (Option.some.inj h)
   exact Qcf.mk
  refine sN ?_
  obtain ⟨b6,b7,h⟩ := Qct h
  refine Wp.into (x := .normal) (mkS [(2,I kid2),(4,.ra 1 0),(5,.ra 2 0),(9,I a2),(11,I (-1)),(12,I 0),(31,.bool b6)] [(1,K20 p0),(2,K1u t1)]) ?_ ?_
  ·replace h := b7
   rcases is h with ⟨b8,h⟩ | ⟨b8,h⟩
   ·refine rgs hc none [oN,oN,oN,oN,oN,oN,oT,oN] [(2,I kid2),(4,.ra 1 0),(5,.ra 2 0),(9,I a2),(11,I (-1)),(12,I 0),(31,.bool (kid2 == 0))] (ar 3 b8 tv) ?_
    obtain rfl := os h
    exact Qcf.mk
   refine rgs hc none [oN,oN,oN,oN,o_,o_,oF,oN] [(2,I kid2),(4,.ra 1 0),(5,.ra 2 0),(9,I a2),(11,I (-1)),(12,I 0),(31,.bool false)] (ar 2 (neT b8) (ai b8 tv)) ?_
   obtain rfl := os h
   exact Qcf.mk
  clear b7
  obtain ⟨⟨b9,c0⟩,c1,h⟩ := Qct h
  refine Wp.into (x := .normal) (mkS [(2,I kid2),(4,.ra 1 0),(5,.ra 2 0),(9,I a2),(11,I b9),(12,I c0)] [(1,K20 p0),(2,K1u t1)]) ?_ ?_
  ·replace h := c1
   refine ic h (fun c2 h => ?_) fun c2 h => ?_
   ·refine K88 hc 2 [(2,I kid2),(4,.ra 1 0),(5,.ra 2 0),(9,I a2),(11,I 1),(12,I 4)] ?_
    obtain ⟨rfl,rfl⟩ := Prod.mk.inj (Option.some.inj h)
    exact Qcf.mk
   refine sN ?_
   obtain ⟨c3,c4,h⟩ := Qct h
   refine Wp.into (x := .normal) (mkS [(2,I kid2),(4,.ra 1 0),(5,.ra 2 0),(9,I a2),(11,I (-1)),(12,I 0),(39,.bool c3)] [(1,K20 p0),(2,K1u t1)]) ?_ ?_
   ·replace h := c4
    rcases is h with ⟨c5,h⟩ | ⟨c5,h⟩
    ·refine rgs hc none [oN,oN,oN,oN,oN,oN,oT,oN] [(2,I kid2),(4,.ra 1 0),(5,.ra 2 0),(9,I a2),(11,I (-1)),(12,I 0),(39,.bool (kid2 == 0))] (ar 3 c5 tv) ?_
     obtain rfl := os h
     exact Qcf.mk
    refine rgs hc none [oN,oN,oN,oN,o_,o_,oF,oN] [(2,I kid2),(4,.ra 1 0),(5,.ra 2 0),(9,I a2),(11,I (-1)),(12,I 0),(39,.bool false)] (ar 2 (neT c5) (ai c5 tv)) ?_
    obtain rfl := os h
    exact Qcf.mk
   clear c4
   obtain ⟨⟨c6,c7⟩,c8,h⟩ := Qct h
   refine Wp.into (x := .normal) (mkS [(2,I kid2),(4,.ra 1 0),(5,.ra 2 0),(9,I a2),(11,I c6),(12,I c7)] [(1,K20 p0),(2,K1u t1)]) ?_ ?_
   ·replace h := c8
    refine ic h (fun c9 h => ?_) fun c9 h => ?_
    ·refine K88 hc 2 [(2,I kid2),(4,.ra 1 0),(5,.ra 2 0),(9,I a2),(11,I 2),(12,I 5)] ?_
     obtain ⟨rfl,rfl⟩ := Prod.mk.inj (Option.some.inj h)
     exact Qcf.mk
    refine sN ?_
    obtain ⟨d0,d1,h⟩ := Qct h
    refine Wp.into (x := .normal) (mkS [(2,I kid2),(4,.ra 1 0),(5,.ra 2 0),(9,I a2),(11,I (-1)),(12,I 0),(47,.bool d0)] [(1,K20 p0),(2,K1u t1)]) ?_ ?_
    ·replace h := d1
     rcases is h with ⟨d2,h⟩ | ⟨d2,h⟩
     ·refine rgs hc none [oN,oN,oN,oN,oN,oN,oT,oN] [(2,I kid2),(4,.ra 1 0),(5,.ra 2 0),(9,I a2),(11,I (-1)),(12,I 0),(47,.bool (kid2 == 0))] (ar 3 d2 tv) ?_
      obtain rfl := os h
      exact Qcf.mk
     refine rgs hc none [oN,oN,oN,oN,o_,o_,oF,oN] [(2,I kid2),(4,.ra 1 0),(5,.ra 2 0),(9,I a2),(11,I (-1)),(12,I 0),(47,.bool false)] (ar 2 (neT d2) (ai d2 tv)) ?_
     obtain rfl := os h
     exact Qcf.mk
    clear d1
    obtain ⟨⟨d3,d4⟩,d5,h⟩ := Qct h
    refine Wp.into (x := .normal) (mkS [(2,I kid2),(4,.ra 1 0),(5,.ra 2 0),(9,I a2),(11,I d3),(12,I d4)] [(1,K20 p0),(2,K1u t1)]) ?_ ?_
    ·replace h := d5
     refine ic h (fun d6 h => ?_) fun d6 h => ?_
     ·refine K88 hc 2 [(2,I kid2),(4,.ra 1 0),(5,.ra 2 0),(9,I a2),(11,I 3),(12,I 6)] ?_
      obtain ⟨rfl,rfl⟩ := Prod.mk.inj (Option.some.inj h)
      exact Qcf.mk
     refine sN ?_
     obtain ⟨d7,d8,h⟩ := Qct h
     refine Wp.into (x := .normal) (mkS [(2,I kid2),(4,.ra 1 0),(5,.ra 2 0),(9,I a2),(11,I (-1)),(12,I 0),(55,.bool d7)] [(1,K20 p0),(2,K1u t1)]) ?_ ?_
     ·replace h := d8
      rcases is h with ⟨d9,h⟩ | ⟨d9,h⟩
      ·refine rgs hc none [oN,oN,oN,oN,oN,oN,oT,oN] [(2,I kid2),(4,.ra 1 0),(5,.ra 2 0),(9,I a2),(11,I (-1)),(12,I 0),(55,.bool (kid2 == 0))] (ar 3 d9 tv) ?_
       obtain rfl := os h
       exact Qcf.mk
      refine rgs hc none [oN,oN,oN,oN,o_,o_,oF,oN] [(2,I kid2),(4,.ra 1 0),(5,.ra 2 0),(9,I a2),(11,I (-1)),(12,I 0),(55,.bool false)] (ar 2 (neT d9) (ai d9 tv)) ?_
      obtain rfl := os h
      exact Qcf.mk
     clear d8
     obtain ⟨⟨e0,e1⟩,e2,h⟩ := Qct h
     refine Wp.into (x := .normal) (mkS [(2,I kid2),(4,.ra 1 0),(5,.ra 2 0),(9,I a2),(11,I e0),(12,I e1)] [(1,K20 p0),(2,K1u t1)]) ?_ ?_
     ·replace h := e2
      refine ic h (fun e3 h => ?_) fun e3 h => ?_
      ·refine K88 hc 2 [(2,I kid2),(4,.ra 1 0),(5,.ra 2 0),(9,I a2),(11,I 4),(12,I 7)] ?_
       obtain ⟨rfl,rfl⟩ := Prod.mk.inj (Option.some.inj h)
       exact Qcf.mk
      refine sk ?_
      obtain ⟨rfl,rfl⟩ := Prod.mk.inj (Option.some.inj h)
      exact iv []
     clear e2
     obtain ⟨rfl,rfl⟩ := Prod.mk.inj (Option.some.inj h)
     exact Qcf.mk
    clear d5
    obtain ⟨rfl,rfl⟩ := Prod.mk.inj (Option.some.inj h)
    exact Qcf.mk
   clear c8
   obtain ⟨rfl,rfl⟩ := Prod.mk.inj (Option.some.inj h)
   exact Qcf.mk
  clear c1
  obtain ⟨rfl,rfl⟩ := Prod.mk.inj (Option.some.inj h)
  exact Qcf.mk
 clear b4
 refine sN ?_
 refine sN ?_
 obtain ⟨e4,e5,h⟩ := Qct h
 refine Wp.into (x := .normal) (mkS [(2,I kid2),(4,.ra 1 0),(5,.ra 2 0),(12,I b3),(69,.bool e4)] [(1,K20 p0),(2,K1u t1)]) ?_ ?_
 ·replace h := e5
  rcases is h with ⟨e6,h⟩ | ⟨e6,h⟩
  ·refine rgs hc none [oN,oN,oN,oN,oN,oN,oT] [(2,I kid2),(4,.ra 1 0),(5,.ra 2 0),(12,I b3),(69,.bool (a2 != b2))] (ar 4 e6 tv) ?_
   obtain rfl := os h
   exact Qcf.mk
  refine rgs hc none [oN,oN,oN,o_,o_,o_,oF] [(2,I kid2),(4,.ra 1 0),(5,.ra 2 0),(12,I b3),(69,.bool false)] (ar 3 (neT e6) (ai e6 tv)) ?_
  obtain rfl := os h
  exact Qcf.mk
 clear e5
 refine ic h (fun e7 h => ?_) fun e7 h => ?_
 ·refine rs0 hc 2 [(8,I b3)] [] ?_
  refine rt ?_
  obtain rfl := os h
  exact rq [true]
 refine sk ?_
 refine sN ?_
 refine sN ?_
 obtain ⟨e8,e9,h⟩ := Qct h
 refine Wp.into (x := .normal) (mkS [(95,.bool e8)] []) ?_ ?_
 ·replace h := e9
  rcases is h with ⟨f0,h⟩ | ⟨f0,h⟩
  ·rcases is h with ⟨f1,h⟩ | ⟨f1,h⟩
   ·obtain ⟨f2,f3,h⟩ := Qct h
    refine rg hc none [oN,oN,oN,oN,oN,oN,oN,o_,o_,o_,oT,oN,o_,o_,o_,oT,oT,oN,oN,oN,oN,oN,oc (.bool f2),oN,oT] [(95,.bool (!f2))] [] (ar 4 f0 (ar 3 (neF f1) (ac f0 f1 f0 (ar 3 nf (ac f0 tt f0 (ar 5 tt (cq (Kge _ _ f3) K5p (ar 2 tt tv)))))))) ?_
    obtain rfl := os h
    exact Qcf.mk
   rcases is h with ⟨f4,h⟩ | ⟨f4,h⟩
   ·obtain ⟨f2,f3,h⟩ := Qct h
    refine rg hc none [oN,oN,oN,oN,oN,oN,oN,oN,oN,oN,oF,oN,o_,o_,o_,oT,oT,oN,oN,oN,oN,oN,oc (.bool f2),oN,oT] [(95,.bool (!f2))] [] (ar 4 f0 (ar 3 f1 (ac f0 f1 f0 (ar 3 (neF f4) (ac f0 f4 f0 (ar 5 tt (cq (Kge _ _ f3) K5p (ar 2 tt tv)))))))) ?_
    obtain rfl := os h
    exact Qcf.mk
   rcases is h with ⟨f5,h⟩ | ⟨f5,h⟩
   ·obtain ⟨f2,f3,h⟩ := Qct h
    refine rg hc none [oN,oN,oN,oN,oN,oN,oN,oN,oN,oN,oF,oN,oN,oN,oN,oF,oT,oN,oN,oN,oN,oN,oc (.bool f2),oN,oT] [(95,.bool (!f2))] [] (ar 4 f0 (ar 3 f1 (ac f0 f1 f0 (ar 3 f4 (ac f0 f4 f0 (ar 5 f5 (cq (Kge _ _ f3) K5p (ar 2 f5 tv)))))))) ?_
    obtain rfl := os h
    exact Qcf.mk
   refine rg hc none [oN,oN,oN,oN,oN,oN,oN,oN,oN,oN,oF,oN,oN,oN,oN,oF,oT,oN,o_,o_,o_,o_,o_,o_,oF] [(95,.bool false)] [] (ar 4 f0 (ar 3 f1 (ac f0 f1 f0 (ar 3 f4 (ac f0 f4 f0 (ar 6 (neT f5) (ai f5 tv))))))) ?_
   obtain rfl := os h
   exact Qcf.mk
  refine rg hc none [oN,oN,oN,o_,o_,o_,o_,o_,o_,o_,o_,o_,o_,o_,o_,o_,oF,oN,o_,o_,o_,o_,o_,o_,oF] [(95,.bool false)] [] (ar 7 (neT f0) (ai f0 (ar 6 (neT (rfl : false = false)) (ai (rfl : false = false) tv)))) ?_
  obtain rfl := os h
  exact Qcf.mk
 clear e9
 refine ic h (fun f6 h => ?_) fun f6 h => ?_
 ·refine rs0 hc 1 [(8,I 8)] [] ?_
  refine rt ?_
  obtain rfl := os h
  exact rq [true]
 refine sk ?_
 refine rs0 hc 1 [(8,I 0)] [] ?_
 refine rt ?_
 obtain rfl := os h
 exact rq [true]
def Kjq (c : Ctx) : (Unit) ⊕ (Bool) → Exit → Q0a → Prop
 | .inl _ => Qcf c (.exit 0) (mkS [] [])
 | .inr r => Qco TIx Tryz.f84 [] (.bool r)
def Kjr (p : (List Int) × (List Int) × Int) : Option ((Unit) ⊕ (Bool)) :=
 match p with
 | (s10,s21,a0) =>
  if (decide (a0 < (s10.length : Int))) = true then
  (idx s10 a0) >>= fun a1 =>
  (idx s21 a0) >>= fun a2 =>
  if (a1 != a2) = true then
  some (.inr false)
  else
  Kjr (s10,s21,(wr (a0 + 1)))
  else
  some (.inl ())
 partial_fixpoint
def Kjs (p : (List Int) × (List Int) × Int) (fl : (Unit) ⊕ (Bool)) : Prop :=
 match p with
 | (s10,s21,a0) => ∀ c : Ctx,c.nt = 26 → WpL Tryz.prog c (cl (cl (cr (cl (cr (cr B84)))))) (Kjq c fl) (mkS [(0,sI s10),(1,sI s21),(12,I (s10.length : Int)),(13,I a0)] [])
theorem Kjt : ∀ p r,Kjr p = some r → Kjs p r := by
 refine Kjr.partial_correctness Kjs ?_
 rintro slices_Equal_int_l0_f slices_Equal_int_l0_ih ⟨s10,s21,a0⟩ r h
 intro c hc
 refine WpL.step ?_
 refine rs0 hc 1 [(0,sI s10),(1,sI s21),(12,I (s10.length : Int)),(13,I a0),(14,.bool (decide (a0 < (s10.length : Int))))] [] ?_
 refine sN ?_
 refine ic h (fun a1 h => ?_) fun a1 h => ?_
 ·refine sk ?_
  refine sN ?_
  refine bk 1 ?_
  refine rs0 hc 2 [(0,sI s10),(1,sI s21),(5,I a0),(12,I (s10.length : Int)),(13,I a0)] [] ?_
  obtain ⟨a2,a3,a4,a5,h⟩ := bq2 h
  refine rs hc (rx [[0],[0],[2],[3],[0],[0],[0,4,5],[0,4,5,6],[8]]) [oN,oN,some (.el (I a2)),oN,oN,oN,some (.el (I a4)),oN,oN] [(0,sI s10),(1,sI s21),(12,I (s10.length : Int)),(13,I a0),(24,.bool (a2 != a4))] [] (ab (ix a3) (ix a5) tv) ?_
  refine ic h (fun a6 h => ?_) fun a6 h => ?_
  ·refine rs0 hc 1 [(4,.bool false)] [] ?_
   refine rt ?_
   obtain rfl := os h
   exact re [true]
  refine sk ?_
  refine rg0 hc 2 [(0,sI s10),(1,sI s21),(12,I (s10.length : Int)),(13,I (wr (a0 + 1)))] [] ?_
  refine Qcb ?_
  exact (slices_Equal_int_l0_ih _ _ h c hc)
 refine xt 0 ?_
 refine Qc5 ?_
 refine Qcc ?_
 obtain rfl := os h
 exact iv []
def Kju (p : (List Int) × (List Int)) : Option (Bool) :=
 match p with
 | (s10,s21) =>
  if ((s10.length : Int) != (s21.length : Int)) = true then
  some false
  else
  (Kjr (s10,s21,0)) >>= fun fl => match fl with
  | .inl () =>
   some true
  | .inr r =>
   some r
def Kjv (p : (List Int) × (List Int)) (r : Bool) : Prop :=
 match p with
 | (s10,s21) => Q71 Tryz.prog 84 [sI s10,sI s21] (.bool r) []
theorem Kjw : ∀ p r,Kju p = some r → Kjv p r := by
 rintro ⟨s10,s21⟩ r h
 unfold Kju at h
 refine b0 Tryz.f84 B84 26 [(0,sI s10),(1,sI s21)] fun c hc => ?_
 refine rs0 hc 1 [(0,sI s10),(1,sI s21)] [] ?_
 refine sN ?_
 refine rs hc none [oN,some (.eqv (.no) ⟨[(7,I (s10.length : Int))],[],[]⟩),oN,some (.eqv (.no) ⟨[(9,I (s21.length : Int))],[],[]⟩),oN] [(0,sI s10),(1,sI s21),(10,.bool ((s10.length : Int) != (s21.length : Int)))] [] (ab (Qcz (d := 7) I s10) (Qcz (d := 9) I s21) tv) ?_
 refine ic h (fun a0 h => ?_) fun a0 h => ?_
 ·refine rs0 hc 1 [(4,.bool false)] [] ?_
  refine rt ?_
  obtain rfl := os h
  exact rq [true]
 refine sk ?_
 refine sN ?_
 refine rs hc none [oN,some (.eqv (.no) ⟨[(12,I (s10.length : Int))],[],[]⟩),oN] [(0,sI s10),(1,sI s21),(12,I (s10.length : Int)),(13,I 0)] [] (ai (Qcz (d := 12) I s10) tv) ?_
 refine bk 0 ?_
 obtain ⟨fl,a1,h⟩ := Qct h
 have hL := Kjt _ _ a1 c hc
 refine lp ?_
 rcases fl with ⟨⟩ | r
 ·refine WpL.into (e := (.exit 0)) (mkS [] []) hL ?_
  refine Qc7 ?_
  refine rs0 hc 1 [(4,.bool true)] [] ?_
  refine rt ?_
  obtain rfl := os h
  exact rq [true]
 refine WpL.mono hL ?_
 rintro _ _ ⟨rfl,hfin⟩
 obtain rfl := os h
 exact ⟨.inl rfl,hfin⟩
def Kjx (s0 : (List Int)) : Option ((List Int)) :=
 (Qd6 (([] : List Int).length + s0.length) 8) >>= fun _ =>
 some s0
def Kjy (s0 : (List Int)) (r : (List Int)) : Prop :=
 Q71 Tryz.prog 77 [sI s0] (oI r) []
theorem Kjz : ∀ p r,Kjx p = some r → Kjy p r := by
 rintro s0 r h
 unfold Kjx at h
 refine b0 Tryz.f77 B77 8 [(0,sI s0)] fun c hc => ?_
 refine rs0 hc 1 [(0,sI s0)] [] ?_
 refine sN ?_
 refine rs0 hc 2 [(0,sI s0),(4,.nilq (List.map I s0))] [] ?_
 refine Wp.condNil (xs := List.map I s0) (by kernel_rfl) (by kernel_rfl) (fun hn => ?_) ?_
 ·replace hn := List.map_eq_nil_iff.1 hn
  replace h : (some []) = some r := by rw [hn] at h; simpa [Qd6,chk] using h
  refine rs0 hc 1 [(2,.nils)] [] ?_
  refine rt ?_
  obtain rfl := os h
  exact rq [true]
 refine sk ?_
 obtain ⟨_,a0,h⟩ := Qct h
 refine rs hc none [some (.mk 1 true),oN,some (.eqv (.mk 2 true) ⟨[(7,.rs 2)],[(2,some (rI s0)),(1,none)],[2]⟩),oN] [(2,.rs 2)] [(2,rI s0)] (ab (congrArg (fun z => (⟨[(7,.rs 2)],[(2,some (.arr z)),(1,none)],[2]⟩ : Wr)) (List.nil_append _ : [] ++ (List.map I s0) = List.map I s0)) (Qd7 (enc1 := I) (enc2 := I) (e1 := []) (e2 := s0) (sz := 1) Qdg Qdg a0) tv) ?_
 refine rt ?_
 obtain rfl := os h
 exact rq [true]
def Kk0 (c : Ctx) : (List Int) → Exit → Q0a → Prop
 | a0 => Qcf c (.exit 0) (mkS [(9,.rs 2)] [(2,rI a0)])
def Kk1 (p : K00 × (List Int) × (List Int) × (List Int) × Int) : Option ((List Int)) :=
 match p with
 | (clo1_0,a2,b3,a0,a1) =>
  if (decide (a1 < (a2.length : Int))) = true then
  (idx a2 a1) >>= fun a3 =>
  (idx b3 a1) >>= fun a4 =>
  (Kg6 (clo1_0,a3,a4)) >>= fun a5 =>
  (idx a0 a1) >>= fun a6 =>
  Kk1 (clo1_0,a2,b3,(List.set a0 (Int.toNat a1) a5),(wr (a1 + 1)))
  else
  some (a0)
 partial_fixpoint
def Kk2 (p : K00 × (List Int) × (List Int) × (List Int) × Int) (fl : (List Int)) : Prop :=
 match p with
 | (clo1_0,a2,b3,a0,a1) => ∀ c : Ctx,c.nt = 34 → WpL Tryz.prog c (cl (cl (cr (cl (cr (cr K70)))))) (Kk0 c fl) (mkS [(1,.fnb 169 [K1t clo1_0]),(2,sI a2),(3,sI b3),(9,.rs 2),(15,I (a2.length : Int)),(16,I a1)] [(2,rI a0)])
theorem Kk3 : ∀ p r,Kk1 p = some r → Kk2 p r := by
 refine Kk1.partial_correctness Kk2 ?_
 rintro impl_typerboth_Kimpl_Systemplus_l0_f impl_typerboth_Kimpl_Systemplus_l0_ih ⟨clo1_0,a2,b3,a0,a1⟩ r h
 intro c hc
 refine WpL.step ?_
 refine K89 hc 1 [(1,.fnb 169 [K1t clo1_0]),(2,sI a2),(3,sI b3),(9,.rs 2),(15,I (a2.length : Int)),(16,I a1),(17,.bool (decide (a1 < (a2.length : Int))))] ?_
 refine sN ?_
 refine ic h (fun a3 h => ?_) fun a3 h => ?_
 ·refine sk ?_
  refine sN ?_
  refine bk 1 ?_
  refine K89 hc 2 [(1,.fnb 169 [K1t clo1_0]),(2,sI a2),(3,sI b3),(9,.rs 2),(10,I a1),(15,I (a2.length : Int)),(16,I a1)] ?_
  obtain ⟨a4,a5,a6,a7,a8,a9,b1,b2,h⟩ := bq4 h
  refine rg hc Kjm [oN,oN,oN,oN,oN,some (.el (I a4)),oN,oN,oN,some (.el (I a6)),oN,oc (I a8),oN,some (.eqv (.mk 0 true) ⟨[],[(2,some (.arr (List.map I (List.set a0 (Int.toNat a1) a8))))],[]⟩)] [(1,.fnb 169 [K1t clo1_0]),(2,sI a2),(3,sI b3),(9,.rs 2),(15,I (a2.length : Int)),(16,I a1)] [(2,.arr (List.map I (List.set a0 (Int.toNat a1) a8)))] (ab (ix a5) (ix a7) (cq (Kg8 _ _ a9) K5m (ac (Qcy (enc := I) b2) (congrArg (fun z => (⟨[],[(2,some (.arr z))],[]⟩ : Wr)) (Qdw (enc := I) (i := Int.toNat a1) (l := a0) (v := a8) (x := I a8) (Qd8 a8))) (Qdx (enc := I) (sz := 1) Qdc b2) tv))) ?_
  refine K88 hc 2 [(1,.fnb 169 [K1t clo1_0]),(2,sI a2),(3,sI b3),(9,.rs 2),(15,I (a2.length : Int)),(16,I (wr (a1 + 1)))] ?_
  refine Qcb ?_
  exact (impl_typerboth_Kimpl_Systemplus_l0_ih _ _ h c hc)
 refine xt 0 ?_
 refine Qc5 ?_
 refine Qcc ?_
 obtain rfl := os h
 exact iv []
def Kk4 (p : K05 × K00 × (List Int) × (List Int)) : Option ((List Int)) :=
 match p with
 | (p0,clo1_0,a2,b3) =>
  (chk (0 ≤ (a2.length : Int) ∧ (Int.toNat (a2.length : Int)) * 8 ≤ 140737488355328)) >>= fun _ =>
  (Kk1 (clo1_0,a2,b3,(List.replicate (Int.toNat (a2.length : Int)) 0),0)) >>= fun a0 =>
  some a0
def Kk5 (p : K05 × K00 × (List Int) × (List Int)) (r : (List Int)) : Prop :=
 match p with
 | (p0,clo1_0,a2,b3) => Q71 Tryz.prog 244 [K21 p0,.fnb 169 [K1t clo1_0],sI a2,sI b3] (oI r) []
theorem Kk6 : ∀ p r,Kk4 p = some r → Kk5 p r := by
 rintro ⟨p0,clo1_0,a2,b3⟩ r h
 unfold Kk4 at h
 refine b0 Tryz.f244 K70 34 [(0,K21 p0),(1,.fnb 169 [K1t clo1_0]),(2,sI a2),(3,sI b3)] fun c hc => ?_
 refine rs hc none [some (.new 1),oN] [(1,.fnb 169 [K1t clo1_0]),(2,sI a2),(3,sI b3)] [] tv ?_
 obtain ⟨_,a0,h⟩ := Qct h
 refine rs hc none [oN,some (.eqv (.no) ⟨[(12,I (a2.length : Int))],[],[]⟩),some (.eqv (.mk 2 true) ⟨[(13,.rs 2)],[(2,some (.arr (List.map I (List.replicate (Int.toNat (a2.length : Int)) 0))))],[2]⟩),oN] [(1,.fnb 169 [K1t clo1_0]),(2,sI a2),(3,sI b3),(9,.rs 2)] [(2,.arr (List.map I (List.replicate (Int.toNat (a2.length : Int)) 0)))] (ac (Qcz (d := 12) I a2) (congrArg (fun z => (⟨[(13,.rs 2)],[(2,some (.arr z))],[2]⟩ : Wr)) (Qdy (enc := I) (n := Int.toNat (a2.length : Int)) (x := I 0) (Qd8 0))) (And.intro (Eq.refl (a2.length : Int)) (Qcv a0)) tv) ?_
 refine sN ?_
 refine rss hc none [oN,some (.eqv (.no) ⟨[(15,I (a2.length : Int))],[],[]⟩),oN] [(1,.fnb 169 [K1t clo1_0]),(2,sI a2),(3,sI b3),(9,.rs 2),(15,I (a2.length : Int)),(16,I 0)] (ai (Qcz (d := 15) I a2) tv) ?_
 refine bk 0 ?_
 obtain ⟨a1,a3,h⟩ := Qct h
 have hL := Kk3 _ _ a3 c hc
 refine lp ?_
 refine WpL.into (e := (.exit 0)) (mkS [(9,.rs 2)] [(2,rI a1)]) hL ?_
 refine Qc7 ?_
 refine K89 hc 2 [(8,.rs 2)] ?_
 refine rt ?_
 obtain rfl := os h
 exact rq [true]
def Kk7 (p : K05 × (List Int) × (List Int)) : Option ((List Int)) :=
 match p with
 | (p0,a1,b2) =>
  (Kk4 (p0,p0.fs,a1,b2)) >>= fun a0 =>
  some a0
def Kk8 (p : K05 × (List Int) × (List Int)) (r : (List Int)) : Prop :=
 match p with
 | (p0,a1,b2) => Q71 Tryz.prog 221 [K21 p0,sI a1,sI b2] (oI r) []
theorem Kk9 : ∀ p r,Kk7 p = some r → Kk8 p r := by
 rintro ⟨p0,a1,b2⟩ r h
 unfold Kk7 at h
 refine b0 Tryz.f221 K72 14 [(0,K21 p0),(1,sI a1),(2,sI b2)] fun c hc => ?_
 refine rs hc none [some (.new 1),oN] [(1,sI a1),(2,sI b2),(3,.ra 1 0)] [(1,K20 p0)] tv ?_
 obtain ⟨a0,a2,h⟩ := Qct h
 refine rs hc none [oN,oN,oN,oN,oN,oN,some (.call (oI a0) [] 2),oN] [(6,.rs 2)] [(2,rI a0)] (cq (Kk6 _ _ a2) K71 tv) ?_
 refine rt ?_
 obtain rfl := os h
 exact rq [true]
def Kka (p : Int × K03) : Option ((List Int)) :=
 match p with
 | (i0,cap0) =>
  (idx cap0.fkids i0) >>= fun a0 =>
  some a0.fty
def Kkb (p : Int × K03) (r : (List Int)) : Prop :=
 match p with
 | (i0,cap0) => Q9o Tryz.prog 220 i0 [sI cap0.fty,sI cap0.fneeds,.sl (List.map K06 cap0.fkids),I cap0.ffault,sI cap0.fpath] (sI r)
theorem Kkc : ∀ p r,Kka p = some r → Kkb p r := by
 rintro ⟨i0,cap0⟩ r h
 unfold Kka at h
 show Q9o Tryz.prog 220 i0 [sI cap0.fty,sI cap0.fneeds,.sl (List.map K06 cap0.fkids),I cap0.ffault,sI cap0.fpath] (sI r)
 refine Q9o.of_body K2w (fn := Tryz.f220) (code := K74) (by kernel_rfl) (by kernel_rfl) rfl rfl (nt := 14) (by kernel_rfl) (by kernel_rfl) (fun c hc => ?_)
 refine K89 hc 1 [(0,I i0),(1,.ra 1000 0)] ?_
 obtain ⟨a0,a1,h⟩ := Qct h
 refine rss hc none [oN,oN,oN,oN,oN,some (.el (.ptr [sI a0.fty,sI a0.fneeds,.sl (List.map K06 a0.fkids),I a0.ffault,sI a0.fpath] 0)),oN,oN,oN,oN,oN] [(3,sI a0.fty)] (ai (Qcx (enc := K06) (x := .ptr [sI a0.fty,sI a0.fneeds,.sl (List.map K06 a0.fkids),I a0.ffault,sI a0.fpath] 0) a1 (K09 a0)) tv) ?_
 refine rt ?_
 obtain rfl := os h
 exact Qel.ret (by kernel_rfl)
def Kkd (c : Ctx) : (List Int) → Exit → Q0a → Prop
 | a0 => Qcf c (.exit 0) (mkS [(9,.rs 2)] [(2,rI a0)])
def Kke (p : K00 × (List Int) × (List Int) × (List Int) × Int) : Option ((List Int)) :=
 match p with
 | (clo1_0,a2,b3,a0,a1) =>
  if (decide (a1 < (a2.length : Int))) = true then
  (idx a2 a1) >>= fun a3 =>
  (idx b3 a1) >>= fun a4 =>
  (Kgo (clo1_0,a3,a4)) >>= fun a5 =>
  (idx a0 a1) >>= fun a6 =>
  Kke (clo1_0,a2,b3,(List.set a0 (Int.toNat a1) a5),(wr (a1 + 1)))
  else
  some (a0)
 partial_fixpoint
def Kkf (p : K00 × (List Int) × (List Int) × (List Int) × Int) (fl : (List Int)) : Prop :=
 match p with
 | (clo1_0,a2,b3,a0,a1) => ∀ c : Ctx,c.nt = 34 → WpL Tryz.prog c (cl (cl (cr (cl (cr (cr K70)))))) (Kkd c fl) (mkS [(1,.fnb 171 [K1t clo1_0]),(2,sI a2),(3,sI b3),(9,.rs 2),(15,I (a2.length : Int)),(16,I a1)] [(2,rI a0)])
theorem Kkg : ∀ p r,Kke p = some r → Kkf p r := by
 refine Kke.partial_correctness Kkf ?_
 rintro impl_typerboth_Kimpl_Systemjoin_l0_f impl_typerboth_Kimpl_Systemjoin_l0_ih ⟨clo1_0,a2,b3,a0,a1⟩ r h
 intro c hc
 refine WpL.step ?_
 refine K89 hc 1 [(1,.fnb 171 [K1t clo1_0]),(2,sI a2),(3,sI b3),(9,.rs 2),(15,I (a2.length : Int)),(16,I a1),(17,.bool (decide (a1 < (a2.length : Int))))] ?_
 refine sN ?_
 refine ic h (fun a3 h => ?_) fun a3 h => ?_
 ·refine sk ?_
  refine sN ?_
  refine bk 1 ?_
  refine K89 hc 2 [(1,.fnb 171 [K1t clo1_0]),(2,sI a2),(3,sI b3),(9,.rs 2),(10,I a1),(15,I (a2.length : Int)),(16,I a1)] ?_
  obtain ⟨a4,a5,a6,a7,a8,a9,b1,b2,h⟩ := bq4 h
  refine rg hc Kjm [oN,oN,oN,oN,oN,some (.el (I a4)),oN,oN,oN,some (.el (I a6)),oN,oc (I a8),oN,some (.eqv (.mk 0 true) ⟨[],[(2,some (.arr (List.map I (List.set a0 (Int.toNat a1) a8))))],[]⟩)] [(1,.fnb 171 [K1t clo1_0]),(2,sI a2),(3,sI b3),(9,.rs 2),(15,I (a2.length : Int)),(16,I a1)] [(2,.arr (List.map I (List.set a0 (Int.toNat a1) a8)))] (ab (ix a5) (ix a7) (cq (Kgq _ _ a9) K5r (ac (Qcy (enc := I) b2) (congrArg (fun z => (⟨[],[(2,some (.arr z))],[]⟩ : Wr)) (Qdw (enc := I) (i := Int.toNat a1) (l := a0) (v := a8) (x := I a8) (Qd8 a8))) (Qdx (enc := I) (sz := 1) Qdc b2) tv))) ?_
  refine K88 hc 2 [(1,.fnb 171 [K1t clo1_0]),(2,sI a2),(3,sI b3),(9,.rs 2),(15,I (a2.length : Int)),(16,I (wr (a1 + 1)))] ?_
  refine Qcb ?_
  exact (impl_typerboth_Kimpl_Systemjoin_l0_ih _ _ h c hc)
 refine xt 0 ?_
 refine Qc5 ?_
 refine Qcc ?_
 obtain rfl := os h
 exact iv []
def Kkh (p : K05 × K00 × (List Int) × (List Int)) : Option ((List Int)) :=
 match p with
 | (p0,clo1_0,a2,b3) =>
  (chk (0 ≤ (a2.length : Int) ∧ (Int.toNat (a2.length : Int)) * 8 ≤ 140737488355328)) >>= fun _ =>
  (Kke (clo1_0,a2,b3,(List.replicate (Int.toNat (a2.length : Int)) 0),0)) >>= fun a0 =>
  some a0
def Kki (p : K05 × K00 × (List Int) × (List Int)) (r : (List Int)) : Prop :=
 match p with
 | (p0,clo1_0,a2,b3) => Q71 Tryz.prog 244 [K21 p0,.fnb 171 [K1t clo1_0],sI a2,sI b3] (oI r) []
theorem Kkj : ∀ p r,Kkh p = some r → Kki p r := by
 rintro ⟨p0,clo1_0,a2,b3⟩ r h
 unfold Kkh at h
 refine b0 Tryz.f244 K70 34 [(0,K21 p0),(1,.fnb 171 [K1t clo1_0]),(2,sI a2),(3,sI b3)] fun c hc => ?_
 refine rs hc none [some (.new 1),oN] [(1,.fnb 171 [K1t clo1_0]),(2,sI a2),(3,sI b3)] [] tv ?_
 obtain ⟨_,a0,h⟩ := Qct h
 refine rs hc none [oN,some (.eqv (.no) ⟨[(12,I (a2.length : Int))],[],[]⟩),some (.eqv (.mk 2 true) ⟨[(13,.rs 2)],[(2,some (.arr (List.map I (List.replicate (Int.toNat (a2.length : Int)) 0))))],[2]⟩),oN] [(1,.fnb 171 [K1t clo1_0]),(2,sI a2),(3,sI b3),(9,.rs 2)] [(2,.arr (List.map I (List.replicate (Int.toNat (a2.length : Int)) 0)))] (ac (Qcz (d := 12) I a2) (congrArg (fun z => (⟨[(13,.rs 2)],[(2,some (.arr z))],[2]⟩ : Wr)) (Qdy (enc := I) (n := Int.toNat (a2.length : Int)) (x := I 0) (Qd8 0))) (And.intro (Eq.refl (a2.length : Int)) (Qcv a0)) tv) ?_
 refine sN ?_
 refine rss hc none [oN,some (.eqv (.no) ⟨[(15,I (a2.length : Int))],[],[]⟩),oN] [(1,.fnb 171 [K1t clo1_0]),(2,sI a2),(3,sI b3),(9,.rs 2),(15,I (a2.length : Int)),(16,I 0)] (ai (Qcz (d := 15) I a2) tv) ?_
 refine bk 0 ?_
 obtain ⟨a1,a3,h⟩ := Qct h
 have hL := Kkg _ _ a3 c hc
 refine lp ?_
 refine WpL.into (e := (.exit 0)) (mkS [(9,.rs 2)] [(2,rI a1)]) hL ?_
 refine Qc7 ?_
 refine K89 hc 2 [(8,.rs 2)] ?_
 refine rt ?_
 obtain rfl := os h
 exact rq [true]
def Kkk (p : K05 × (List Int) × (List Int)) : Option ((List Int)) :=
 match p with
 | (p0,a1,b2) =>
  (Kkh (p0,p0.fs,a1,b2)) >>= fun a0 =>
  some a0
def Kkl (p : K05 × (List Int) × (List Int)) (r : (List Int)) : Prop :=
 match p with
 | (p0,a1,b2) => Q71 Tryz.prog 222 [K21 p0,sI a1,sI b2] (oI r) []
theorem Kkm : ∀ p r,Kkk p = some r → Kkl p r := by
 rintro ⟨p0,a1,b2⟩ r h
 unfold Kkk at h
 refine b0 Tryz.f222 K76 14 [(0,K21 p0),(1,sI a1),(2,sI b2)] fun c hc => ?_
 refine rs hc none [some (.new 1),oN] [(1,sI a1),(2,sI b2),(3,.ra 1 0)] [(1,K20 p0)] tv ?_
 obtain ⟨a0,a2,h⟩ := Qct h
 refine rs hc none [oN,oN,oN,oN,oN,oN,some (.call (oI a0) [] 2),oN] [(6,.rs 2)] [(2,rI a0)] (cq (Kkj _ _ a2) K71 tv) ?_
 refine rt ?_
 obtain rfl := os h
 exact rq [true]
def Kkn (n1 : Int) : Option (Unit) :=
 if (decide (n1 < 0)) = true then
 none
 else
 if (decide ((wr (n1 - (wr (0 - 0)))) > 0)) = true then
 (chk (0 ≤ (wr (n1 - (wr (0 - 0)))) ∧ (Int.toNat (wr (n1 - (wr (0 - 0))))) * 8 ≤ 140737488355328)) >>= fun _ =>
 some ()
 else
 some ()
def Kko (n1 : Int) (r : Unit) : Prop :=
 Q9k Tryz.prog 245 n1
theorem Kkp : ∀ p r,Kkn p = some r → Kko p r := by
 rintro n1 r h
 unfold Kkn at h
 show Q9k Tryz.prog 245 n1
 refine Q9k.of_body K2w (fn := Tryz.f245) (code := K78) (by kernel_rfl) (by kernel_rfl) (nt := 27) (by kernel_rfl) (by kernel_rfl) (fun c hc => ?_)
 refine rs0 hc 1 [(0,.nils),(1,I n1)] [] ?_
 refine sN ?_
 refine rs0 hc 2 [(0,.nils),(1,I n1),(6,.bool (decide (n1 < 0)))] [] ?_
 refine ic h (fun a0 h => ?_) fun a0 h => ?_
 ·cases h
 refine sk ?_
 refine sN ?_
 refine rs0 hc 8 [(0,.nils),(1,I (wr (n1 - (wr (0 - 0)))))] [] ?_
 refine rs0 hc 2 [(0,.nils),(1,I (wr (n1 - (wr (0 - 0))))),(16,.bool (decide ((wr (n1 - (wr (0 - 0)))) > 0)))] [] ?_
 refine ic h (fun a1 h => ?_) fun a1 h => ?_
 ·obtain ⟨_,a2,h⟩ := Qct h
  refine rg hc none [oN,oN,oN,oN,oN,some (.new 1),oN,oN,some (.new 2),oN] [(0,.rs 2)] [(2,.ary (List.map I []))] (ai (Qcv a2) tv) ?_
  refine K89 hc 2 [(4,.rs 2)] ?_
  refine rt ?_
  exact Qeh.ret (by kernel_rfl)
 refine sk ?_
 refine rs0 hc 2 [(4,.nils)] [] ?_
 refine rt ?_
 exact Qeh.ret (by kernel_rfl)
def Kkq (c : Ctx) (slices0 : LL) : Int → Exit → Q0a → Prop
 | a0 => Qcf c (.exit 0) (mkS [(0,sL slices0),(3,I a0)] [])
def Kkr (p : LL × Int × Int) : Option (Int) :=
 match p with
 | (slices0,a0,a1) =>
  if (decide (a1 < (slices0.length : Int))) = true then
  (idx slices0 a1) >>= fun a2 =>
  ((
  if (decide ((wr (a0 + (a2.length : Int))) < 0)) = true then
  none
  else
  some (())
  ) : Option (Unit)) >>= fun () =>
  Kkr (slices0,(wr (a0 + (a2.length : Int))),(wr (a1 + 1)))
  else
  some (a0)
 partial_fixpoint
def Kks (p : LL × Int × Int) (fl : Int) : Prop :=
 match p with
 | (slices0,a0,a1) => ∀ c : Ctx,c.nt = 36 → WpL Tryz.prog c (cl (cl (cr (cl (cr (cr K7a)))))) (Kkq c slices0 fl) (mkS [(0,sL slices0),(3,I a0),(9,sL slices0),(10,I (slices0.length : Int)),(11,I a1)] [])
theorem Kkt : ∀ p r,Kkr p = some r → Kks p r := by
 refine Kkr.partial_correctness Kks ?_
 rintro slices_Concat_int_l0_f slices_Concat_int_l0_ih ⟨slices0,a0,a1⟩ r h
 intro c hc
 refine WpL.step ?_
 refine rs0 hc 1 [(0,sL slices0),(3,I a0),(9,sL slices0),(10,I (slices0.length : Int)),(11,I a1),(12,.bool (decide (a1 < (slices0.length : Int))))] [] ?_
 refine sN ?_
 refine ic h (fun a2 h => ?_) fun a2 h => ?_
 ·refine sk ?_
  refine sN ?_
  refine bk 1 ?_
  obtain ⟨a3,a4,h⟩ := Qct h
  refine rs hc none [some (.el (sI a3)),oN,oN] [(0,sL slices0),(3,I a0),(5,sI a3),(9,sL slices0),(10,I (slices0.length : Int)),(11,I a1)] [] (ai (xL a4) tv) ?_
  refine rs hc none [oN,oN,some (.eqv (.no) ⟨[(17,I (a3.length : Int))],[],[]⟩),oN,oN] [(0,sL slices0),(3,I (wr (a0 + (a3.length : Int)))),(9,sL slices0),(10,I (slices0.length : Int)),(11,I a1)] [] (ai (Qcz (d := 17) I a3) tv) ?_
  refine rs0 hc 2 [(0,sL slices0),(3,I (wr (a0 + (a3.length : Int)))),(9,sL slices0),(10,I (slices0.length : Int)),(11,I a1),(20,.bool (decide ((wr (a0 + (a3.length : Int))) < 0)))] [] ?_
  obtain ⟨⟨⟩,a5,h⟩ := Qct h
  refine Wp.into (x := .normal) (mkS [(0,sL slices0),(3,I (wr (a0 + (a3.length : Int)))),(9,sL slices0),(10,I (slices0.length : Int)),(11,I a1)] []) ?_ ?_
  ·replace h := a5
   refine ic h (fun a6 h => ?_) fun a6 h => ?_
   ·cases h
   refine sk ?_
   exact iv []
  clear a5
  refine rg0 hc 2 [(0,sL slices0),(3,I (wr (a0 + (a3.length : Int)))),(9,sL slices0),(10,I (slices0.length : Int)),(11,I (wr (a1 + 1)))] [] ?_
  refine Qcb ?_
  exact (slices_Concat_int_l0_ih _ _ h c hc)
 refine xt 0 ?_
 refine Qc5 ?_
 refine Qcc ?_
 obtain rfl := os h
 exact iv []
def Kku (c : Ctx) : (List Int) → Exit → Q0a → Prop
 | a0 => Qcf c (.exit 2) (mkS [(6,.rs 1)] [(1,.ary (List.map I a0))])
def Kkv (p : LL × (List Int) × Int) : Option ((List Int)) :=
 match p with
 | (slices0,a0,a1) =>
  if (decide (a1 < (slices0.length : Int))) = true then
  (idx slices0 a1) >>= fun a2 =>
  (Qd6 (a0.length + a2.length) 8) >>= fun _ =>
  Kkv (slices0,(a0 ++ a2),(wr (a1 + 1)))
  else
  some (a0)
 partial_fixpoint
def Kkw (p : LL × (List Int) × Int) (fl : (List Int)) : Prop :=
 match p with
 | (slices0,a0,a1) => ∀ c : Ctx,c.nt = 36 → WpL Tryz.prog c (cl (cl (cr (cl (cr (cr (cr (cr K7a)))))))) (Kku c fl) (mkS [(6,.rs 1),(25,sL slices0),(26,I (slices0.length : Int)),(27,I a1)] [(1,.ary (List.map I a0))])
theorem Kkx : ∀ p r,Kkv p = some r → Kkw p r := by
 refine Kkv.partial_correctness Kkw ?_
 rintro slices_Concat_int_l1_f slices_Concat_int_l1_ih ⟨slices0,a0,a1⟩ r h
 intro c hc
 refine WpL.step ?_
 refine K89 hc 1 [(6,.rs 1),(25,sL slices0),(26,I (slices0.length : Int)),(27,I a1),(28,.bool (decide (a1 < (slices0.length : Int))))] ?_
 refine sN ?_
 refine ic h (fun a2 h => ?_) fun a2 h => ?_
 ·refine sk ?_
  refine sN ?_
  refine bk 3 ?_
  obtain ⟨a3,a4,h⟩ := Qct h
  refine rss hc none [some (.el (sI a3)),oN,oN] [(6,.rs 1),(8,sI a3),(25,sL slices0),(26,I (slices0.length : Int)),(27,I a1)] (ai (xL a4) tv) ?_
  obtain ⟨_,a5,h⟩ := Qct h
  refine rg hc none [oN,oN,some (.eqv (.new 3) ⟨[(33,.rs 3)],[(3,some (.ary (List.map I (a0 ++ a3)))),(1,none)],[3]⟩),oN] [(6,.rs 3),(25,sL slices0),(26,I (slices0.length : Int)),(27,I a1)] [(3,.ary (List.map I (a0 ++ a3)))] (ab (congrArg (fun z => (⟨[(33,.rs 3)],[(3,some (.ary z)),(1,none)],[3]⟩ : Wr)) ((List.map_append).symm : (List.map I a0) ++ (List.map I a3) = List.map I (a0 ++ a3))) (Qek (enc := I) (e1 := a0) (e2 := a3) (fun _ => rfl) a5) tv) ?_
  refine K88 hc 2 [(6,.rs 3),(25,sL slices0),(26,I (slices0.length : Int)),(27,I (wr (a1 + 1)))] ?_
  refine Qcb ?_
  exact WpL.view (fun a w hv => SRx.renL [(1,3)] hv (by kernel_rfl) (by kernel_rfl) (by kernel_rfl)) (slices_Concat_int_l1_ih _ _ h c hc)
 refine xt 2 ?_
 refine Qc5 ?_
 refine Qcc ?_
 obtain rfl := os h
 exact iv []
def Kky (slices0 : LL) : Option ((List Int)) :=
 (Kkr (slices0,0,0)) >>= fun a0 =>
 (Kkn a0) >>= fun _ =>
 (Kkv (slices0,[],0)) >>= fun a1 =>
 some a1
def Kkz (slices0 : LL) (r : (List Int)) : Prop :=
 Q71 Tryz.prog 223 [sL slices0] (sI r) []
theorem Kl0 : ∀ p r,Kky p = some r → Kkz p r := by
 rintro slices0 r h
 unfold Kky at h
 refine b0 Tryz.f223 K7a 36 [(0,sL slices0)] fun c hc => ?_
 refine rs0 hc 1 [(0,sL slices0)] [] ?_
 refine rs0 hc 1 [(0,sL slices0),(3,I 0)] [] ?_
 refine sN ?_
 refine rs hc none [oN,some (.eqv (.no) ⟨[(10,I (slices0.length : Int))],[],[]⟩),oN] [(0,sL slices0),(3,I 0),(9,sL slices0),(10,I (slices0.length : Int)),(11,I 0)] [] (ai (Qcz (d := 10) K10 slices0) tv) ?_
 refine bk 0 ?_
 obtain ⟨a0,a1,h⟩ := Qct h
 have hL := Kkt _ _ a1 c hc
 refine lp ?_
 refine WpL.into (e := (.exit 0)) (mkS [(0,sL slices0),(3,I a0)] []) hL ?_
 refine Qc7 ?_
 obtain ⟨_,a2,h⟩ := Qct h
 refine rs hc none [oN,some (.new 1),oN] [(0,sL slices0),(6,.rs 1)] [(1,.ary (List.map I []))] (ab (Kkp _ _ a2) K79 tv) ?_
 refine sN ?_
 refine rss hc none [oN,some (.eqv (.no) ⟨[(26,I (slices0.length : Int))],[],[]⟩),oN] [(6,.rs 1),(25,sL slices0),(26,I (slices0.length : Int)),(27,I 0)] (ai (Qcz (d := 26) K10 slices0) tv) ?_
 refine bk 2 ?_
 obtain ⟨a3,a4,h⟩ := Qct h
 have hL := Kkx _ _ a4 c hc
 refine lp ?_
 refine WpL.into (e := (.exit 2)) (mkS [(6,.rs 1)] [(1,.ary (List.map I a3))]) hL ?_
 refine Qc7 ?_
 refine K89 hc 2 [(2,.rs 1)] ?_
 refine Wp.view (fun a w hv => SRx.frzYL 1 (xs := List.map I a3) hv (by kernel_rfl) (by kernel_rfl) (by kernel_rfl)) (?_ : Wp Tryz.prog c _ _ (mkS [(2,sI a3)] []))
 refine rt ?_
 obtain rfl := os h
 exact rq [false]
def Kl1 (p : Int × K05 × Int) : Option (Bool) :=
 match p with
 | (u0,cap0,cap1) =>
  (Kgc (cap0.fs,u0,cap1)) >>= fun a0 =>
  some (!a0)
def Kl2 (p : Int × K05 × Int) (r : Bool) : Prop :=
 match p with
 | (u0,cap0,cap1) => Q71 Tryz.prog 246 [I u0,.ptr [I cap0.fs.fSize,.sl (List.map I cap0.fs.fPlus),.sl (List.map I cap0.fs.fTimes),.sl (List.map AV.bool cap0.fs.fBelow)] 0,.ptr [I cap1] 0] (.bool r) []
theorem Kl3 : ∀ p r,Kl1 p = some r → Kl2 p r := by
 rintro ⟨u0,cap0,cap1⟩ r h
 unfold Kl1 at h
 refine b0 Tryz.f246 K7c 11 [(0,I u0),(1,.ptr [I cap0.fs.fSize,.sl (List.map I cap0.fs.fPlus),.sl (List.map I cap0.fs.fTimes),.sl (List.map AV.bool cap0.fs.fBelow)] 0),(2,.ptr [I cap1] 0)] fun c hc => ?_
 refine rs0 hc 1 [(0,I u0),(1,.ptr [I cap0.fs.fSize,.sl (List.map I cap0.fs.fPlus),.sl (List.map I cap0.fs.fTimes),.sl (List.map AV.bool cap0.fs.fBelow)] 0),(2,.ptr [I cap1] 0)] [] ?_
 obtain ⟨a0,a1,h⟩ := Qct h
 refine rs hc none [oN,oN,oN,oN,oc (.bool a0),oN,oN] [(4,.bool (!a0))] [] (cq (Kge _ _ a1) K5p tv) ?_
 refine rt ?_
 obtain rfl := os h
 exact rq [true]
def Kl4 (c : Ctx) : (Unit) ⊕ (Int) → Exit → Q0a → Prop
 | .inl _ => Qcf c (.exit 0) (mkS [] [])
 | .inr r => Qco TIx Tryz.f248 [] (I r)
def Kl5 (p : (List Int) × K05 × Int × Int) : Option ((Unit) ⊕ (Int)) :=
 match p with
 | (s0,clo1_0,clo1_1,a0) =>
  if (decide (a0 < (s0.length : Int))) = true then
  (idx s0 a0) >>= fun a1 =>
  (Kl1 (a1,clo1_0,clo1_1)) >>= fun a2 =>
  if a2 = true then
  some (.inr a0)
  else
  Kl5 (s0,clo1_0,clo1_1,(wr (a0 + 1)))
  else
  some (.inl ())
 partial_fixpoint
def Kl6 (p : (List Int) × K05 × Int × Int) (fl : (Unit) ⊕ (Int)) : Prop :=
 match p with
 | (s0,clo1_0,clo1_1,a0) => ∀ c : Ctx,c.nt = 19 → WpL Tryz.prog c (cl (cl (cr (cl (cr K7e))))) (Kl4 c fl) (mkS [(0,sI s0),(1,.fn 246 [.ptr [I clo1_0.fs.fSize,.sl (List.map I clo1_0.fs.fPlus),.sl (List.map I clo1_0.fs.fTimes),.sl (List.map AV.bool clo1_0.fs.fBelow)] 0,.ptr [I clo1_1] 0]),(7,I (s0.length : Int)),(8,I a0)] [])
theorem Kl7 : ∀ p r,Kl5 p = some r → Kl6 p r := by
 refine Kl5.partial_correctness Kl6 ?_
 rintro slices_IndexFunc_int_Kimpl_typerusedOk_c1_l0_f slices_IndexFunc_int_Kimpl_typerusedOk_c1_l0_ih ⟨s0,clo1_0,clo1_1,a0⟩ r h
 intro c hc
 refine WpL.step ?_
 refine rs0 hc 1 [(0,sI s0),(1,.fn 246 [.ptr [I clo1_0.fs.fSize,.sl (List.map I clo1_0.fs.fPlus),.sl (List.map I clo1_0.fs.fTimes),.sl (List.map AV.bool clo1_0.fs.fBelow)] 0,.ptr [I clo1_1] 0]),(7,I (s0.length : Int)),(8,I a0),(9,.bool (decide (a0 < (s0.length : Int))))] [] ?_
 refine sN ?_
 refine ic h (fun a1 h => ?_) fun a1 h => ?_
 ·refine sk ?_
  refine sN ?_
  refine bk 1 ?_
  refine rs0 hc 2 [(0,sI s0),(1,.fn 246 [.ptr [I clo1_0.fs.fSize,.sl (List.map I clo1_0.fs.fPlus),.sl (List.map I clo1_0.fs.fTimes),.sl (List.map AV.bool clo1_0.fs.fBelow)] 0,.ptr [I clo1_1] 0]),(5,I a0),(7,I (s0.length : Int)),(8,I a0)] [] ?_
  obtain ⟨a2,a3,a4,a5,h⟩ := bq2 h
  refine rs hc none [oN,oN,oN,some (.el (I a2)),oN,oc (.bool a4)] [(0,sI s0),(1,.fn 246 [.ptr [I clo1_0.fs.fSize,.sl (List.map I clo1_0.fs.fPlus),.sl (List.map I clo1_0.fs.fTimes),.sl (List.map AV.bool clo1_0.fs.fBelow)] 0,.ptr [I clo1_1] 0]),(5,I a0),(7,I (s0.length : Int)),(8,I a0),(16,.bool a4)] [] (ai (ix a3) (cq (Kl3 _ _ a5) K7d tv)) ?_
  refine ic h (fun a6 h => ?_) fun a6 h => ?_
  ·refine rs0 hc 2 [(4,I a0)] [] ?_
   refine rt ?_
   obtain rfl := os h
   exact re [true]
  refine sk ?_
  refine rg0 hc 2 [(0,sI s0),(1,.fn 246 [.ptr [I clo1_0.fs.fSize,.sl (List.map I clo1_0.fs.fPlus),.sl (List.map I clo1_0.fs.fTimes),.sl (List.map AV.bool clo1_0.fs.fBelow)] 0,.ptr [I clo1_1] 0]),(7,I (s0.length : Int)),(8,I (wr (a0 + 1)))] [] ?_
  refine Qcb ?_
  exact (slices_IndexFunc_int_Kimpl_typerusedOk_c1_l0_ih _ _ h c hc)
 refine xt 0 ?_
 refine Qc5 ?_
 refine Qcc ?_
 obtain rfl := os h
 exact iv []
def Kl8 (p : (List Int) × K05 × Int) : Option (Int) :=
 match p with
 | (s0,clo1_0,clo1_1) =>
  (Kl5 (s0,clo1_0,clo1_1,0)) >>= fun fl => match fl with
  | .inl () =>
   some (-1)
  | .inr r =>
   some r
def Kl9 (p : (List Int) × K05 × Int) (r : Int) : Prop :=
 match p with
 | (s0,clo1_0,clo1_1) => Q71 Tryz.prog 248 [sI s0,.fn 246 [.ptr [I clo1_0.fs.fSize,.sl (List.map I clo1_0.fs.fPlus),.sl (List.map I clo1_0.fs.fTimes),.sl (List.map AV.bool clo1_0.fs.fBelow)] 0,.ptr [I clo1_1] 0]] (I r) []
theorem Kla : ∀ p r,Kl8 p = some r → Kl9 p r := by
 rintro ⟨s0,clo1_0,clo1_1⟩ r h
 unfold Kl8 at h
 refine b0 Tryz.f248 K7e 19 [(0,sI s0),(1,.fn 246 [.ptr [I clo1_0.fs.fSize,.sl (List.map I clo1_0.fs.fPlus),.sl (List.map I clo1_0.fs.fTimes),.sl (List.map AV.bool clo1_0.fs.fBelow)] 0,.ptr [I clo1_1] 0])] fun c hc => ?_
 refine rs0 hc 1 [(0,sI s0),(1,.fn 246 [.ptr [I clo1_0.fs.fSize,.sl (List.map I clo1_0.fs.fPlus),.sl (List.map I clo1_0.fs.fTimes),.sl (List.map AV.bool clo1_0.fs.fBelow)] 0,.ptr [I clo1_1] 0])] [] ?_
 refine sN ?_
 refine rs hc none [oN,some (.eqv (.no) ⟨[(7,I (s0.length : Int))],[],[]⟩),oN] [(0,sI s0),(1,.fn 246 [.ptr [I clo1_0.fs.fSize,.sl (List.map I clo1_0.fs.fPlus),.sl (List.map I clo1_0.fs.fTimes),.sl (List.map AV.bool clo1_0.fs.fBelow)] 0,.ptr [I clo1_1] 0]),(7,I (s0.length : Int)),(8,I 0)] [] (ai (Qcz (d := 7) I s0) tv) ?_
 refine bk 0 ?_
 obtain ⟨fl,a0,h⟩ := Qct h
 have hL := Kl7 _ _ a0 c hc
 refine lp ?_
 rcases fl with ⟨⟩ | r
 ·refine WpL.into (e := (.exit 0)) (mkS [] []) hL ?_
  refine Qc7 ?_
  refine rs0 hc 1 [(4,I (-1))] [] ?_
  refine rt ?_
  obtain rfl := os h
  exact rq [true]
 refine WpL.mono hL ?_
 rintro _ _ ⟨rfl,hfin⟩
 obtain rfl := os h
 exact ⟨.inl rfl,hfin⟩
def Klb (p : (List Int) × K05 × Int) : Option (Bool) :=
 match p with
 | (s0,clo1_0,clo1_1) =>
  (Kl8 (s0,clo1_0,clo1_1)) >>= fun a0 =>
  some (decide (a0 ≥ 0))
def Klc (p : (List Int) × K05 × Int) (r : Bool) : Prop :=
 match p with
 | (s0,clo1_0,clo1_1) => Q71 Tryz.prog 238 [sI s0,.fn 246 [.ptr [I clo1_0.fs.fSize,.sl (List.map I clo1_0.fs.fPlus),.sl (List.map I clo1_0.fs.fTimes),.sl (List.map AV.bool clo1_0.fs.fBelow)] 0,.ptr [I clo1_1] 0]] (.bool r) []
theorem Kld : ∀ p r,Klb p = some r → Klc p r := by
 rintro ⟨s0,clo1_0,clo1_1⟩ r h
 unfold Klb at h
 refine b0 Tryz.f238 K7g 9 [(0,sI s0),(1,.fn 246 [.ptr [I clo1_0.fs.fSize,.sl (List.map I clo1_0.fs.fPlus),.sl (List.map I clo1_0.fs.fTimes),.sl (List.map AV.bool clo1_0.fs.fBelow)] 0,.ptr [I clo1_1] 0])] fun c hc => ?_
 refine rs0 hc 1 [(0,sI s0),(1,.fn 246 [.ptr [I clo1_0.fs.fSize,.sl (List.map I clo1_0.fs.fPlus),.sl (List.map I clo1_0.fs.fTimes),.sl (List.map AV.bool clo1_0.fs.fBelow)] 0,.ptr [I clo1_1] 0])] [] ?_
 obtain ⟨a0,a1,h⟩ := Qct h
 refine rs hc none [oN,oN,oc (I a0),oN,oN] [(4,.bool (decide (a0 ≥ 0)))] [] (cq (Kla _ _ a1) K7f tv) ?_
 refine rt ?_
 obtain rfl := os h
 exact rq [true]
def Kle (p : K05 × (List Int) × Int) : Option (Bool) :=
 match p with
 | (p0,l1,g2) =>
  (Klb (l1,p0,g2)) >>= fun a0 =>
  some (!a0)
def Klf (p : K05 × (List Int) × Int) (r : Bool) : Prop :=
 match p with
 | (p0,l1,g2) => Q71 Tryz.prog 224 [K21 p0,sI l1,I g2] (.bool r) []
theorem Klg : ∀ p r,Kle p = some r → Klf p r := by
 rintro ⟨p0,l1,g2⟩ r h
 unfold Kle at h
 refine b0 Tryz.f224 K7i 11 [(0,K21 p0),(1,sI l1),(2,I g2)] fun c hc => ?_
 refine rs hc none [some (.new 1),some (.new 2),oN] [(1,sI l1),(3,.ra 1 0),(5,.ra 2 0)] [(1,K20 p0),(2,.box [I g2])] tv ?_
 obtain ⟨a0,a1,h⟩ := Qct h
 refine rs hc none [oN,oN,oc (.bool a0),oN,oN] [(6,.bool (!a0))] [] (ac (Kld _ _ a1) K7h (Or.inr rfl : ([1,2] : List Nat) = [] ∨ noSh (.bool a0) = true) tv) ?_
 refine rt ?_
 obtain rfl := os h
 exact rq [true]
def Klh (c : Ctx) : (List Int) → Exit → Q0a → Prop
 | a0 => Qcf c (.exit 0) (mkS [(7,.rs 2)] [(2,rI a0)])
end Go.Am
