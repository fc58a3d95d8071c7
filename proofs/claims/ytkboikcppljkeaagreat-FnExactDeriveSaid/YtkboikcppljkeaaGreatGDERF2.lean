/- Functions of the program as pure functions,and that it computes them. Printed by a program of mine (gen.py). -/
import Derived.Test.YtkboikcppljkeaaGreatGDERF0
set_option linter.unusedVariables false
set_option linter.unusedSimpArgs false
set_option maxRecDepth 100000
namespace Go.Am
open Go Go.Proofs
def Kbg : Option (List (List Nat)) := rx [[0],[0],[2],[3],[4],[5],[6],[7],[7],[9],[10],[7],[7,11],[13],[14],[15]]
def Kbh (p : K00 × Int) : Option ((Unit) ⊕ (Bool)) :=
 match p with
 | (s0,a0) =>
  if (decide (a0 < s0.fSize)) = true then
  (Kan (s0,a0)) >>= fun a1 =>
  if a1 = true then
  (Kbc (s0,a0,0)) >>= fun fl => match fl with
  | .inl () =>
   Kbh (s0,(wr (a0 + 1)))
  | .inr r =>
   some (.inr r)
  else
  some (.inr false)
  else
  some (.inl ())
 partial_fixpoint
def Kbi (p : K00 × Int) (fl : (Unit) ⊕ (Bool)) : Prop :=
 match p with
 | (s0,a0) => ∀ c : Ctx,c.nt = 42 → WpL Tryz.prog c (cl (cl (cr (cl (cr (cr B89)))))) (Kbf c fl) (mkS [(1,.ra 1 0),(3,I a0)] [(1,K24 s0)])
theorem Kbj : ∀ p r,Kbh p = some r → Kbi p r := by
 refine Kbh.partial_correctness Kbi ?_
 rintro spec_IsSystem_l2_f spec_IsSystem_l2_ih ⟨s0,a0⟩ r h
 intro c hc
 refine WpL.step ?_
 refine sN ?_
 refine K88 hc 4 [(1,.ra 1 0),(3,I a0),(12,.bool (decide (a0 < s0.fSize)))] ?_
 refine ic h (fun a1 h => ?_) fun a1 h => ?_
 ·refine sk ?_
  refine sN ?_
  refine bk 1 ?_
  refine sN ?_
  obtain ⟨a2,a3,h⟩ := Qdd h
  refine rss hc none [oN,oN,oc (.bool a2),oN] [(1,.ra 1 0),(3,I a0),(18,.bool (!a2))] (cq (Kap _ _ a3) K40 tv) ?_
  rcases is h with ⟨a4,h⟩ | ⟨a4,h⟩
  ·refine cF (!a2) (nF a4) ?_
   refine sk ?_
   refine K88 hc 1 [(1,.ra 1 0),(3,I a0),(4,I 0)] ?_
   refine bk 2 ?_
   obtain ⟨fl,a5,h⟩ := Qdd h
   have hL := Kbe _ _ a5 c hc
   refine lp ?_
   rcases fl with ⟨⟩ | r
   ·refine WpL.into (e := (.exit 2)) (mkS [(1,.ra 1 0),(3,I a0)] [(1,K24 s0)]) hL ?_
    refine Qcr ?_
    refine K87 hc 3 [(1,.ra 1 0),(3,I (wr (a0 + 1)))] ?_
    refine Qcv ?_
    exact (spec_IsSystem_l2_ih _ _ h c hc)
   refine WpL.mono hL ?_
   rintro _ _ ⟨rfl,hfin⟩
   obtain rfl := os h
   exact ⟨rfl,hfin⟩
  refine cT (!a2) (nT a4) ?_
  refine rs0 hc 1 [(2,.bool false)] [] ?_
  refine rt ?_
  obtain rfl := os h
  exact re [true]
 refine xt 0 ?_
 refine Qcp ?_
 refine Qcw ?_
 obtain rfl := os h
 exact iv []
def Kbk (s0 : K00) : Option (Bool) :=
 (Ka7 s0) >>= fun a0 =>
 if a0 = true then
 (Kbh (s0,0)) >>= fun fl => match fl with
 | .inl () =>
  some true
 | .inr r =>
  some r
 else
 some false
def Kbl (s0 : K00) (r : Bool) : Prop :=
 Q71 Tryz.prog 89 [K25 s0] (.bool r) []
theorem Kbm : ∀ p r,Kbk p = some r → Kbl p r := by
 rintro s0 r h
 unfold Kbk at h
 refine b0 Tryz.f89 B89 42 [(0,K25 s0)] fun c hc => ?_
 refine rs hc none [some (.new 1),oN] [(1,.ra 1 0)] [(1,K24 s0)] tv ?_
 refine sN ?_
 obtain ⟨a0,a1,h⟩ := Qdd h
 refine rss hc none [oN,oc (.bool a0),oN] [(1,.ra 1 0),(8,.bool (!a0))] (cq (Ka9 _ _ a1) K3t tv) ?_
 rcases is h with ⟨a2,h⟩ | ⟨a2,h⟩
 ·refine cF (!a0) (nF a2) ?_
  refine sk ?_
  refine sN ?_
  refine K88 hc 1 [(1,.ra 1 0),(3,I 0)] ?_
  refine bk 0 ?_
  obtain ⟨fl,a3,h⟩ := Qdd h
  have hL := Kbj _ _ a3 c hc
  refine lp ?_
  rcases fl with ⟨⟩ | r
  ·refine WpL.into (e := (.exit 0)) (mkS [] []) hL ?_
   refine Qcr ?_
   refine rs0 hc 1 [(2,.bool true)] [] ?_
   refine rt ?_
   obtain rfl := os h
   exact rq [true]
  refine WpL.mono hL ?_
  rintro _ _ ⟨rfl,hfin⟩
  obtain rfl := os h
  exact ⟨.inl rfl,hfin⟩
 refine cT (!a0) (nT a2) ?_
 refine rs0 hc 1 [(2,.bool false)] [] ?_
 refine rt ?_
 obtain rfl := os h
 exact rq [true]
def Kbn (c0 : Int) : Option (Bool) :=
 ((
 (Ka0 (c0,3,18)) >>= fun a0 =>
 if a0 = true then
 some (true)
 else
 some ((c0 == 35))
 ) : Option (Bool)) >>= fun a1 =>
 some a1
def Kbo (c0 : Int) (r : Bool) : Prop :=
 Q71 Tryz.prog 100 [I c0] (.bool r) []
theorem Kbp : ∀ p r,Kbn p = some r → Kbo p r := by
 rintro c0 r h
 unfold Kbn at h
 refine b0 Tryz.f100 K48 9 [(0,I c0)] fun c hc => ?_
 refine rs0 hc 1 [(0,I c0)] [] ?_
 refine sN ?_
 obtain ⟨a0,a1,h⟩ := Qdd h
 refine Wp.into (x := .normal) (mkS [(2,.bool a0)] []) ?_ ?_
 ·replace h := a1
  obtain ⟨a2,a3,h⟩ := Qdd h
  rcases is h with ⟨a4,h⟩ | ⟨a4,h⟩
  ·refine rg hc none [oN,oc (.bool a2),oN,o_,o_,oT,oN] [(2,.bool true)] [] (cq (Ka2 _ _ a3) K3r (ar 2 (neF a4) (ai a4 tv))) ?_
   obtain rfl := os h
   exact Qcz.mk
  refine rg hc none [oN,oc (.bool a2),oN,oN,oN,oF,oN] [(2,.bool (c0 == 35))] [] (cq (Ka2 _ _ a3) K3r (ar 3 a4 tv)) ?_
  obtain rfl := os h
  exact Qcz.mk
 clear a1
 refine rt ?_
 obtain rfl := os h
 exact rq [true]
def Kbq (c0 : Int) : Option (Bool) :=
 ((
 (Ka0 (c0,19,34)) >>= fun a0 =>
 if a0 = true then
 some (true)
 else
 some ((c0 == 36))
 ) : Option (Bool)) >>= fun a1 =>
 some a1
def Kbr (c0 : Int) (r : Bool) : Prop :=
 Q71 Tryz.prog 110 [I c0] (.bool r) []
theorem Kbs : ∀ p r,Kbq p = some r → Kbr p r := by
 rintro c0 r h
 unfold Kbq at h
 refine b0 Tryz.f110 K4a 9 [(0,I c0)] fun c hc => ?_
 refine rs0 hc 1 [(0,I c0)] [] ?_
 refine sN ?_
 obtain ⟨a0,a1,h⟩ := Qdd h
 refine Wp.into (x := .normal) (mkS [(2,.bool a0)] []) ?_ ?_
 ·replace h := a1
  obtain ⟨a2,a3,h⟩ := Qdd h
  rcases is h with ⟨a4,h⟩ | ⟨a4,h⟩
  ·refine rg hc none [oN,oc (.bool a2),oN,o_,o_,oT,oN] [(2,.bool true)] [] (cq (Ka2 _ _ a3) K3r (ar 2 (neF a4) (ai a4 tv))) ?_
   obtain rfl := os h
   exact Qcz.mk
  refine rg hc none [oN,oc (.bool a2),oN,oN,oN,oF,oN] [(2,.bool (c0 == 36))] [] (cq (Ka2 _ _ a3) K3r (ar 3 a4 tv)) ?_
  obtain rfl := os h
  exact Qcz.mk
 clear a1
 refine rt ?_
 obtain rfl := os h
 exact rq [true]
def Kbt (c0 : Int) : Option (Int) :=
 if (c0 == 0) = true then
 some 0
 else
 ((
 if (c0 == 1) = true then
 some (true)
 else
 if (c0 == 2) = true then
 some (true)
 else
 (Kbn c0) >>= fun a0 =>
 some (a0)
 ) : Option (Bool)) >>= fun a1 =>
 if a1 = true then
 some 2
 else
 (Kbq c0) >>= fun a2 =>
 if a2 = true then
 some 1
 else
 some (-1)
def Kbu (c0 : Int) (r : Int) : Prop :=
 Q71 Tryz.prog 140 [I c0] (I r) []
theorem Kbv : ∀ p r,Kbt p = some r → Kbu p r := by
 rintro c0 r h
 unfold Kbt at h
 refine b0 Tryz.f140 K4c 20 [(0,I c0)] fun c hc => ?_
 refine rs0 hc 1 [(0,I c0)] [] ?_
 refine sN ?_
 refine bk 0 ?_
 refine rs0 hc 3 [(0,I c0),(3,.bool (c0 == 0))] [] ?_
 refine ic h (fun a0 h => ?_) fun a0 h => ?_
 ·refine rs0 hc 1 [(2,I 0)] [] ?_
  refine rt ?_
  obtain rfl := os h
  exact rq [true]
 refine sN ?_
 obtain ⟨a1,a2,h⟩ := Qdd h
 refine Wp.into (x := .normal) (mkS [(0,I c0),(6,.bool a1)] []) ?_ ?_
 ·replace h := a2
  rcases is h with ⟨a3,h⟩ | ⟨a3,h⟩
  ·refine rg hc none [oN,oN,oN,o_,o_,oT,oN,o_,o_,oT,oN] [(0,I c0),(6,.bool true)] [] (ar 2 (neF a3) (ai a3 (ar 2 nf (ai tt tv)))) ?_
   obtain rfl := os h
   exact Qcz.mk
  rcases is h with ⟨a4,h⟩ | ⟨a4,h⟩
  ·refine rg hc none [oN,oN,oN,oN,oN,oF,oN,o_,o_,oT,oN] [(0,I c0),(6,.bool true)] [] (ar 3 a3 (ar 2 (neF a4) (ai a4 tv))) ?_
   obtain rfl := os h
   exact Qcz.mk
  obtain ⟨a5,a6,h⟩ := Qdd h
  refine rg hc none [oN,oN,oN,oN,oN,oF,oN,oN,oc (.bool a5),oF,oN] [(0,I c0),(6,.bool a5)] [] (ar 3 a3 (ar 2 a4 (cq (Kbp _ _ a6) K49 (ai a4 tv)))) ?_
  obtain rfl := os h
  exact Qcz.mk
 clear a2
 refine ic h (fun a7 h => ?_) fun a7 h => ?_
 ·refine rs0 hc 1 [(2,I 2)] [] ?_
  refine rt ?_
  obtain rfl := os h
  exact rq [true]
 obtain ⟨a8,a9,h⟩ := Qdd h
 refine rs hc none [oN,oc (.bool a8),oN] [(17,.bool a8)] [] (cq (Kbs _ _ a9) K4b tv) ?_
 refine ic h (fun b1 h => ?_) fun b1 h => ?_
 ·refine rs0 hc 1 [(2,I 1)] [] ?_
  refine rt ?_
  obtain rfl := os h
  exact rq [true]
 refine sk ?_
 refine rs0 hc 1 [(2,I (-1))] [] ?_
 refine rt ?_
 obtain rfl := os h
 exact rq [true]
def Kbw (c : Ctx) : (Unit) ⊕ (Int) → Exit → Q0a → Prop
 | .inl _ => Qcz c (.exit 0) (mkS [] [])
 | .inr r => Qd8 TIx Tryz.f138 [] (I r)
def Kbx (p : (List Int) × Int × Int) : Option ((Unit) ⊕ (Int)) :=
 match p with
 | (ty0,a0,a1) =>
  if (decide (a1 < (ty0.length : Int))) = true then
  (idx ty0 a1) >>= fun a2 =>
  (Kbt a2) >>= fun a3 =>
  if (decide (a3 < 0)) = true then
  some (.inr (-1))
  else
  if ((wr ((wr (a0 - 1)) + a3)) == 0) = true then
  some (.inr (wr (a1 + 1)))
  else
  Kbx (ty0,(wr ((wr (a0 - 1)) + a3)),(wr (a1 + 1)))
  else
  some (.inl ())
 partial_fixpoint
def Kby (p : (List Int) × Int × Int) (fl : (Unit) ⊕ (Int)) : Prop :=
 match p with
 | (ty0,a0,a1) => ∀ c : Ctx,c.nt = 30 → WpL Tryz.prog c (cl (cl (cr (cl (cr (cr K4e)))))) (Kbw c fl) (mkS [(0,sI ty0),(5,I a0),(6,I a1)] [])
theorem Kbz : ∀ p r,Kbx p = some r → Kby p r := by
 refine Kbx.partial_correctness Kby ?_
 rintro spec_l2End_l0_f spec_l2End_l0_ih ⟨ty0,a0,a1⟩ r h
 intro c hc
 refine WpL.step ?_
 refine sN ?_
 refine rs hc none [oN,oN,some (.eqv (.no) ⟨[(11,I (ty0.length : Int))],[],[]⟩),oN] [(0,sI ty0),(5,I a0),(6,I a1),(12,.bool (decide (a1 < (ty0.length : Int))))] [] (ai (Qdj (d := 11) I ty0) tv) ?_
 refine ic h (fun a2 h => ?_) fun a2 h => ?_
 ·refine sk ?_
  refine sN ?_
  refine bk 1 ?_
  obtain ⟨a3,a4,a5,a6,h⟩ := bq2 h
  refine rs hc none [oN,oN,some (.el (I a3)),oN,oc (I a5),oN] [(0,sI ty0),(5,I a0),(6,I a1),(7,I a5)] [] (ai (ix a4) (cq (Kbv _ _ a6) K4d tv)) ?_
  refine sN ?_
  refine rs0 hc 2 [(0,sI ty0),(5,I a0),(6,I a1),(7,I a5),(21,.bool (decide (a5 < 0)))] [] ?_
  refine ic h (fun a7 h => ?_) fun a7 h => ?_
  ·refine rs0 hc 1 [(4,I (-1))] [] ?_
   refine rt ?_
   obtain rfl := os h
   exact re [true]
  refine sk ?_
  refine rs0 hc 5 [(0,sI ty0),(5,I (wr ((wr (a0 - 1)) + a5))),(6,I a1)] [] ?_
  refine rs0 hc 2 [(0,sI ty0),(5,I (wr ((wr (a0 - 1)) + a5))),(6,I a1),(27,.bool ((wr ((wr (a0 - 1)) + a5)) == 0))] [] ?_
  refine ic h (fun a8 h => ?_) fun a8 h => ?_
  ·refine rs0 hc 3 [(4,I (wr (a1 + 1)))] [] ?_
   refine rt ?_
   obtain rfl := os h
   exact re [true]
  refine sk ?_
  refine rg0 hc 3 [(0,sI ty0),(5,I (wr ((wr (a0 - 1)) + a5))),(6,I (wr (a1 + 1)))] [] ?_
  refine Qcv ?_
  exact (spec_l2End_l0_ih _ _ h c hc)
 refine xt 0 ?_
 refine Qcp ?_
 refine Qcw ?_
 obtain rfl := os h
 exact iv []
def Kc0 (p : (List Int) × Int) : Option (Int) :=
 match p with
 | (ty0,at1) =>
  (Kbx (ty0,1,at1)) >>= fun fl => match fl with
  | .inl () =>
   some (-1)
  | .inr r =>
   some r
def Kc1 (p : (List Int) × Int) (r : Int) : Prop :=
 match p with
 | (ty0,at1) => Q71 Tryz.prog 138 [sI ty0,I at1] (I r) []
theorem Kc2 : ∀ p r,Kc0 p = some r → Kc1 p r := by
 rintro ⟨ty0,at1⟩ r h
 unfold Kc0 at h
 refine b0 Tryz.f138 K4e 30 [(0,sI ty0),(1,I at1)] fun c hc => ?_
 refine rs0 hc 1 [(0,sI ty0),(1,I at1)] [] ?_
 refine rs0 hc 1 [(0,sI ty0),(1,I at1),(5,I 1)] [] ?_
 refine sN ?_
 refine rs0 hc 2 [(0,sI ty0),(5,I 1),(6,I at1)] [] ?_
 refine bk 0 ?_
 obtain ⟨fl,a0,h⟩ := Qdd h
 have hL := Kbz _ _ a0 c hc
 refine lp ?_
 rcases fl with ⟨⟩ | r
 ·refine WpL.into (e := (.exit 0)) (mkS [] []) hL ?_
  refine Qcr ?_
  refine rs0 hc 1 [(4,I (-1))] [] ?_
  refine rt ?_
  obtain rfl := os h
  exact rq [true]
 refine WpL.mono hL ?_
 rintro _ _ ⟨rfl,hfin⟩
 obtain rfl := os h
 exact ⟨.inl rfl,hfin⟩
def Kc3 (ty0 : (List Int)) : Option (Bool) :=
 ((
 if (decide ((ty0.length : Int) ≤ 40)) = true then
 (Kc0 (ty0,0)) >>= fun a0 =>
 if (a0 == (ty0.length : Int)) = true then
 some ((decide ((ty0.length : Int) > 0)))
 else
 some (false)
 else
 some (false)
 ) : Option (Bool)) >>= fun a1 =>
 some a1
def Kc4 (ty0 : (List Int)) (r : Bool) : Prop :=
 Q71 Tryz.prog 107 [sI ty0] (.bool r) []
theorem Kc5 : ∀ p r,Kc3 p = some r → Kc4 p r := by
 rintro ty0 r h
 unfold Kc3 at h
 refine b0 Tryz.f107 K4g 18 [(0,sI ty0)] fun c hc => ?_
 refine rs0 hc 1 [(0,sI ty0)] [] ?_
 refine sN ?_
 obtain ⟨a0,a1,h⟩ := Qdd h
 refine Wp.into (x := .normal) (mkS [(2,.bool a0)] []) ?_ ?_
 ·replace h := a1
  rcases is h with ⟨a2,h⟩ | ⟨a2,h⟩
  ·obtain ⟨a3,a4,h⟩ := Qdd h
   rcases is h with ⟨a5,h⟩ | ⟨a5,h⟩
   ·refine rg hc none [oN,some (.eqv (.no) ⟨[(4,I (ty0.length : Int))],[],[]⟩),oN,oN,oN,oc (I a3),oN,some (.eqv (.no) ⟨[(10,I (ty0.length : Int))],[],[]⟩),oN,oT,oN,oN,some (.eqv (.no) ⟨[(15,I (ty0.length : Int))],[],[]⟩),oN,oT,oN] [(2,.bool (decide ((ty0.length : Int) > 0)))] [] (ai (Qdj (d := 4) I ty0) (ar 2 a2 (cq (Kc2 _ _ a4) K4f (ar 2 a2 (ai (Qdj (d := 10) I ty0) (ar 2 a2 (ar 2 a5 (ai (Qdj (d := 15) I ty0) (ar 2 a5 tv))))))))) ?_
    obtain rfl := os h
    exact Qcz.mk
   refine rg hc none [oN,some (.eqv (.no) ⟨[(4,I (ty0.length : Int))],[],[]⟩),oN,oN,oN,oc (I a3),oN,some (.eqv (.no) ⟨[(10,I (ty0.length : Int))],[],[]⟩),oN,oT,oN,o_,o_,o_,oF,oN] [(2,.bool false)] [] (ai (Qdj (d := 4) I ty0) (ar 2 a2 (cq (Kc2 _ _ a4) K4f (ar 2 a2 (ai (Qdj (d := 10) I ty0) (ar 2 a2 (ar 3 (neT a5) (ai a5 tv)))))))) ?_
   obtain rfl := os h
   exact Qcz.mk
  refine rg hc none [oN,some (.eqv (.no) ⟨[(4,I (ty0.length : Int))],[],[]⟩),oN,oN,o_,o_,o_,o_,o_,oF,oN,o_,o_,o_,oF,oN] [(2,.bool false)] [] (ai (Qdj (d := 4) I ty0) (ar 5 (neT a2) (ai a2 (ar 3 (neT (rfl : false = false)) (ai (rfl : false = false) tv))))) ?_
  obtain rfl := os h
  exact Qcz.mk
 clear a1
 refine rt ?_
 obtain rfl := os h
 exact rq [true]
def Kc6 (c0 : Int) : Option (Int) :=
 if (decide (c0 ≥ 35)) = true then
 some (-1)
 else
 if (decide (c0 ≥ 19)) = true then
 some (wr (c0 - 19))
 else
 some (wr (c0 - 3))
def Kc7 (c0 : Int) (r : Int) : Prop :=
 Q71 Tryz.prog 102 [I c0] (I r) []
theorem Kc8 : ∀ p r,Kc6 p = some r → Kc7 p r := by
 rintro c0 r h
 unfold Kc6 at h
 refine b0 Tryz.f102 K4i 13 [(0,I c0)] fun c hc => ?_
 refine rs0 hc 1 [(0,I c0)] [] ?_
 refine sN ?_
 refine bk 0 ?_
 refine rs0 hc 3 [(0,I c0),(3,.bool (decide (c0 ≥ 35)))] [] ?_
 refine ic h (fun a0 h => ?_) fun a0 h => ?_
 ·refine rs0 hc 1 [(2,I (-1))] [] ?_
  refine rt ?_
  obtain rfl := os h
  exact rq [true]
 refine rs0 hc 3 [(0,I c0),(6,.bool (decide (c0 ≥ 19)))] [] ?_
 refine ic h (fun a1 h => ?_) fun a1 h => ?_
 ·refine rs0 hc 3 [(2,I (wr (c0 - 19)))] [] ?_
  refine rt ?_
  obtain rfl := os h
  exact rq [true]
 refine sk ?_
 refine rs0 hc 3 [(2,I (wr (c0 - 3)))] [] ?_
 refine rt ?_
 obtain rfl := os h
 exact rq [true]
def Kc9 (c : Ctx) (ty0 : List Int) (size1 : Int) (closed2 : Bool) (a0 : Int) : (Unit) ⊕ (Bool) → Exit → Q0a → Prop
 | .inl _ => Qcz c .normal (mkS [(0,sI ty0),(1,I size1),(2,.bool closed2),(7,I a0)] [])
 | .inr r => Qd8 TIx Tryz.f108 [] (.bool r)
def Kca (c : Ctx) : (Unit) ⊕ (Bool) → Exit → Q0a → Prop
 | .inl _ => Qcz c (.exit 0) (mkS [] [])
 | .inr r => Qd8 TIx Tryz.f108 [] (.bool r)
def Kcb (p : (List Int) × Int × Bool × Int) : Option ((Unit) ⊕ (Bool)) :=
 match p with
 | (ty0,size1,closed2,a0) =>
  if (decide (a0 < (ty0.length : Int))) = true then
  ((
   (idx ty0 a0) >>= fun a1 =>
   (Kbt a1) >>= fun a2 =>
   if (decide (a2 > 0)) = true then
   (idx ty0 a0) >>= fun a3 =>
   some ((decide (a3 > 2)))
   else
   some (false)
  ) : Option (Bool)) >>= fun a4 =>
  ((
   if a4 = true then
   (idx ty0 a0) >>= fun a5 =>
   (Kc6 a5) >>= fun a6 =>
   ((
   if (decide (a6 ≥ size1)) = true then
   some (true)
   else
   if closed2 = true then
   some ((decide (a6 < 0)))
   else
   some (false)
   ) : Option (Bool)) >>= fun a7 =>
   if a7 = true then
   some (.inr false)
   else
   some (.inl ())
   else
   some (.inl ())) : Option ((Unit) ⊕ (Bool))) >>= fun fl => match fl with
  | .inl () =>
   Kcb (ty0,size1,closed2,(wr (a0 + 1)))
  | .inr r =>
   some (.inr r)
  else
  some (.inl ())
 partial_fixpoint
def Kcc (p : (List Int) × Int × Bool × Int) (fl : (Unit) ⊕ (Bool)) : Prop :=
 match p with
 | (ty0,size1,closed2,a0) => ∀ c : Ctx,c.nt = 43 → WpL Tryz.prog c (cl (cl (cr (cl (cr K4k))))) (Kca c fl) (mkS [(0,sI ty0),(1,I size1),(2,.bool closed2),(7,I a0)] [])
theorem Kcd : ∀ p r,Kcb p = some r → Kcc p r := by
 refine Kcb.partial_correctness Kcc ?_
 rintro spec_l2Graded_l0_f spec_l2Graded_l0_ih ⟨ty0,size1,closed2,a0⟩ r h
 intro c hc
 refine WpL.step ?_
 refine sN ?_
 refine rs hc none [oN,oN,some (.eqv (.no) ⟨[(11,I (ty0.length : Int))],[],[]⟩),oN] [(0,sI ty0),(1,I size1),(2,.bool closed2),(7,I a0),(12,.bool (decide (a0 < (ty0.length : Int))))] [] (ai (Qdj (d := 11) I ty0) tv) ?_
 refine ic h (fun a1 h => ?_) fun a1 h => ?_
 ·refine sk ?_
  refine sN ?_
  refine bk 1 ?_
  refine sN ?_
  obtain ⟨a2,a3,h⟩ := Qdd h
  refine Wp.into (x := .normal) (mkS [(0,sI ty0),(1,I size1),(2,.bool closed2),(7,I a0),(27,.bool a2)] []) ?_ ?_
  ·replace h := a3
   obtain ⟨a4,a5,a6,a7,h⟩ := bq2 h
   rcases is h with ⟨a8,h⟩ | ⟨a8,h⟩
   ·obtain ⟨a9,b1,h⟩ := Qdd h
    refine rg hc none [oN,oN,some (.el (I a4)),oN,oc (I a6),oN,oN,oN,oN,some (.el (I a9)),oN,oN,oT] [(0,sI ty0),(1,I size1),(2,.bool closed2),(7,I a0),(27,.bool (decide (a9 > 2)))] [] (ai (ix a5) (cq (Kbv _ _ a7) K4d (ar 3 a8 (ai (ix b1) (ar 3 a8 tv))))) ?_
    obtain rfl := os h
    exact Qcz.mk
   refine rg hc none [oN,oN,some (.el (I a4)),oN,oc (I a6),oN,oN,o_,o_,o_,o_,o_,oF] [(0,sI ty0),(1,I size1),(2,.bool closed2),(7,I a0),(27,.bool false)] [] (ai (ix a5) (cq (Kbv _ _ a7) K4d (ar 5 (neT a8) (ai a8 tv)))) ?_
   obtain rfl := os h
   exact Qcz.mk
  clear a3
  obtain ⟨fl,b2,h⟩ := Qdd h
  refine flw (Kc9 c ty0 size1 closed2 a0 fl) ?_ (fun hF => ?_)
  ·replace h := b2
   refine ic h (fun b3 h => ?_) fun b3 h => ?_
   ·obtain ⟨b4,b5,b6,b7,h⟩ := bq2 h
    refine rs hc none [oN,oN,some (.el (I b4)),oN,oc (I b6),oN] [(0,sI ty0),(1,I size1),(2,.bool closed2),(7,I a0),(8,I b6)] [] (ai (ix b5) (cq (Kc8 _ _ b7) K4j tv)) ?_
    refine sN ?_
    obtain ⟨b8,b9,h⟩ := Qdd h
    refine Wp.into (x := .normal) (mkS [(0,sI ty0),(1,I size1),(2,.bool closed2),(7,I a0),(42,.bool b8)] []) ?_ ?_
    ·replace h := b9
     rcases is h with ⟨c0,h⟩ | ⟨c0,h⟩
     ·refine rg hc none [oN,oN,oN,oN,o_,o_,o_,o_,o_,oT] [(0,sI ty0),(1,I size1),(2,.bool closed2),(7,I a0),(42,.bool true)] [] (ar 3 (neF c0) (ai c0 tv)) ?_
      obtain rfl := os h
      exact Qcz.mk
     rcases is h with ⟨c1,h⟩ | ⟨c1,h⟩
     ·refine rg hc none [oN,oN,oN,oN,oN,oN,oN,oN,oT,oF] [(0,sI ty0),(1,I size1),(2,.bool closed2),(7,I a0),(42,.bool (decide (b6 < 0)))] [] (ar 2 c0 (ar 2 c1 (ac c0 c1 c0 tv))) ?_
      obtain rfl := os h
      exact Qcz.mk
     refine rg hc none [oN,oN,oN,oN,oN,oN,o_,o_,oF,oF] [(0,sI ty0),(1,I size1),(2,.bool closed2),(7,I a0),(42,.bool false)] [] (ar 2 c0 (ar 2 (neT c1) (ac c0 c1 c0 tv))) ?_
     obtain rfl := os h
     exact Qcz.mk
    clear b9
    refine ic h (fun c2 h => ?_) fun c2 h => ?_
    ·refine rs0 hc 1 [(6,.bool false)] [] ?_
     refine rt ?_
     obtain rfl := os h
     exact re [true]
    refine sk ?_
    obtain rfl := os h
    exact iv []
   refine sk ?_
   obtain rfl := os h
   exact iv []
  rcases fl with ⟨⟩ | r
  ·refine Wp.into (x := .normal) (mkS [(0,sI ty0),(1,I size1),(2,.bool closed2),(7,I a0)] []) hF ?_
   refine rg0 hc 3 [(0,sI ty0),(1,I size1),(2,.bool closed2),(7,I (wr (a0 + 1)))] [] ?_
   refine Qcv ?_
   exact (spec_l2Graded_l0_ih _ _ h c hc)
  refine Wp.mono hF ?_
  rintro _ _ ⟨rfl,hfin⟩
  obtain rfl := os h
  exact ⟨rfl,hfin⟩
 refine xt 0 ?_
 refine Qcp ?_
 refine Qcw ?_
 obtain rfl := os h
 exact iv []
def Kce (p : (List Int) × Int × Bool) : Option (Bool) :=
 match p with
 | (ty0,size1,closed2) =>
  (Kcb (ty0,size1,closed2,0)) >>= fun fl => match fl with
  | .inl () =>
   some true
  | .inr r =>
   some r
def Kcf (p : (List Int) × Int × Bool) (r : Bool) : Prop :=
 match p with
 | (ty0,size1,closed2) => Q71 Tryz.prog 108 [sI ty0,I size1,.bool closed2] (.bool r) []
theorem Kcg : ∀ p r,Kce p = some r → Kcf p r := by
 rintro ⟨ty0,size1,closed2⟩ r h
 unfold Kce at h
 refine b0 Tryz.f108 K4k 43 [(0,sI ty0),(1,I size1),(2,.bool closed2)] fun c hc => ?_
 refine rs0 hc 1 [(0,sI ty0),(1,I size1),(2,.bool closed2)] [] ?_
 refine sN ?_
 refine rs0 hc 1 [(0,sI ty0),(1,I size1),(2,.bool closed2),(7,I 0)] [] ?_
 refine bk 0 ?_
 obtain ⟨fl,a0,h⟩ := Qdd h
 have hL := Kcd _ _ a0 c hc
 refine lp ?_
 rcases fl with ⟨⟩ | r
 ·refine WpL.into (e := (.exit 0)) (mkS [] []) hL ?_
  refine Qcr ?_
  refine rs0 hc 1 [(6,.bool true)] [] ?_
  refine rt ?_
  obtain rfl := os h
  exact rq [true]
 refine WpL.mono hL ?_
 rintro _ _ ⟨rfl,hfin⟩
 obtain rfl := os h
 exact ⟨.inl rfl,hfin⟩
def Kch (c : Ctx) : (Unit) ⊕ (Bool) → Exit → Q0a → Prop
 | .inl _ => Qcz c (.exit 0) (mkS [] [])
 | .inr r => Qd8 TIx Tryz.f90 [] (.bool r)
def Kci (p : K00 × LL × Int) : Option ((Unit) ⊕ (Bool)) :=
 match p with
 | (s0,ctx1,a0) =>
  if (decide (a0 < (ctx1.length : Int))) = true then
  ((
  (idx ctx1 a0) >>= fun a1 =>
  (Kc3 a1) >>= fun a2 =>
  if a2 = true then
  (idx ctx1 a0) >>= fun a3 =>
  (Kce (a3,s0.fSize,true)) >>= fun a4 =>
  some ((!a4))
  else
  some (true)
  ) : Option (Bool)) >>= fun a5 =>
  if a5 = true then
  some (.inr false)
  else
  Kci (s0,ctx1,(wr (a0 + 1)))
  else
  some (.inl ())
 partial_fixpoint
def Kcj (p : K00 × LL × Int) (fl : (Unit) ⊕ (Bool)) : Prop :=
 match p with
 | (s0,ctx1,a0) => ∀ c : Ctx,c.nt = 31 → WpL Tryz.prog c (cl (cl (cr (cl (cr (cr B90)))))) (Kch c fl) (mkS [(1,sL ctx1),(2,.ra 1 0),(5,I a0)] [(1,K24 s0)])
theorem Kck : ∀ p r,Kci p = some r → Kcj p r := by
 refine Kci.partial_correctness Kcj ?_
 rintro spec_l3Context_l0_f spec_l3Context_l0_ih ⟨s0,ctx1,a0⟩ r h
 intro c hc
 refine WpL.step ?_
 refine sN ?_
 refine rss hc none [oN,oN,some (.eqv (.no) ⟨[(11,I (ctx1.length : Int))],[],[]⟩),oN] [(1,sL ctx1),(2,.ra 1 0),(5,I a0),(12,.bool (decide (a0 < (ctx1.length : Int))))] (ai (Qdj (d := 11) K07 ctx1) tv) ?_
 refine ic h (fun a1 h => ?_) fun a1 h => ?_
 ·refine sk ?_
  refine sN ?_
  refine bk 1 ?_
  refine sN ?_
  obtain ⟨a2,a3,h⟩ := Qdd h
  refine Wp.into (x := .normal) (mkS [(1,sL ctx1),(2,.ra 1 0),(5,I a0),(30,.bool a2)] [(1,K24 s0)]) ?_ ?_
  ·replace h := a3
   obtain ⟨a4,a5,a6,a7,h⟩ := bq2 h
   rcases is h with ⟨a8,h⟩ | ⟨a8,h⟩
   ·obtain ⟨a9,b1,b2,b3,h⟩ := bq2 h
    refine rgs hc Kbg [oN,oN,some (.el (sI a4)),oN,oc (.bool a6),oN,oN,oN,oN,some (.el (sI a9)),oN,oN,oN,oc (.bool b2),oN,oF] [(1,sL ctx1),(2,.ra 1 0),(5,I a0),(30,.bool (!b2))] (ai (xL a5) (cq (Kc5 _ _ a7) K4h (ar 3 (nF a8) (ai (xL b1) (ar 4 (nF a8) (cq (Kcg _ _ b3) K4l (ar 2 (nF a8) tv))))))) ?_
    obtain rfl := os h
    exact Qcz.mk
   refine rgs hc Kbg [oN,oN,some (.el (sI a4)),oN,oc (.bool a6),oN,oN,o_,o_,o_,o_,o_,o_,o_,o_,oT] [(1,sL ctx1),(2,.ra 1 0),(5,I a0),(30,.bool true)] (ai (xL a5) (cq (Kc5 _ _ a7) K4h (ar 8 (neF (nT a8)) (ai (nT a8) tv)))) ?_
   obtain rfl := os h
   exact Qcz.mk
  clear a3
  refine ic h (fun b4 h => ?_) fun b4 h => ?_
  ·refine rs0 hc 1 [(4,.bool false)] [] ?_
   refine rt ?_
   obtain rfl := os h
   exact re [true]
  refine sk ?_
  refine K87 hc 3 [(1,sL ctx1),(2,.ra 1 0),(5,I (wr (a0 + 1)))] ?_
  refine Qcv ?_
  exact (spec_l3Context_l0_ih _ _ h c hc)
 refine xt 0 ?_
 refine Qcp ?_
 refine Qcw ?_
 obtain rfl := os h
 exact iv []
def Kcl (p : K00 × LL) : Option (Bool) :=
 match p with
 | (s0,ctx1) =>
  if (decide ((ctx1.length : Int) > 8)) = true then
  some false
  else
  (Kci (s0,ctx1,0)) >>= fun fl => match fl with
  | .inl () =>
   some true
  | .inr r =>
   some r
def Kcm (p : K00 × LL) (r : Bool) : Prop :=
 match p with
 | (s0,ctx1) => Q71 Tryz.prog 90 [K25 s0,sL ctx1] (.bool r) []
theorem Kcn : ∀ p r,Kcl p = some r → Kcm p r := by
 rintro ⟨s0,ctx1⟩ r h
 unfold Kcl at h
 refine b0 Tryz.f90 B90 31 [(0,K25 s0),(1,sL ctx1)] fun c hc => ?_
 refine rs hc none [some (.new 1),oN] [(1,sL ctx1),(2,.ra 1 0)] [(1,K24 s0)] tv ?_
 refine sN ?_
 refine rss hc none [oN,some (.eqv (.no) ⟨[(7,I (ctx1.length : Int))],[],[]⟩),oN] [(1,sL ctx1),(2,.ra 1 0),(8,.bool (decide ((ctx1.length : Int) > 8)))] (ai (Qdj (d := 7) K07 ctx1) tv) ?_
 refine ic h (fun a0 h => ?_) fun a0 h => ?_
 ·refine rs0 hc 1 [(4,.bool false)] [] ?_
  refine rt ?_
  obtain rfl := os h
  exact rq [true]
 refine sk ?_
 refine sN ?_
 refine K88 hc 1 [(1,sL ctx1),(2,.ra 1 0),(5,I 0)] ?_
 refine bk 0 ?_
 obtain ⟨fl,a1,h⟩ := Qdd h
 have hL := Kck _ _ a1 c hc
 refine lp ?_
 rcases fl with ⟨⟩ | r
 ·refine WpL.into (e := (.exit 0)) (mkS [] []) hL ?_
  refine Qcr ?_
  refine rs0 hc 1 [(4,.bool true)] [] ?_
  refine rt ?_
  obtain rfl := os h
  exact rq [true]
 refine WpL.mono hL ?_
 rintro _ _ ⟨rfl,hfin⟩
 obtain rfl := os h
 exact ⟨.inl rfl,hfin⟩
def Kco (c : Ctx) : Int → Exit → Q0a → Prop
 | a0 => Qcz c (.exit 0) (mkS [(1,I a0)] [])
mutual
def Kcp (p : K01 × Int) : Option (Int) :=
 match p with
 | (t0,left1) =>
  (Kcq (t0,(wr (left1 - 1)),0)) >>= fun a0 =>
  some a0
 partial_fixpoint
def Kcq (p : K01 × Int × Int) : Option (Int) :=
 match p with
 | (t0,a0,a1) =>
  ((
  if (decide (a1 < (t0.fKids.length : Int))) = true then
  some ((decide (a0 ≥ 0)))
  else
  some (false)
  ) : Option (Bool)) >>= fun a2 =>
  if a2 = true then
  (idx t0.fKids a1) >>= fun a3 =>
  (Kcp (a3,a0)) >>= fun a4 =>
  Kcq (t0,a4,(wr (a1 + 1)))
  else
  some (a0)
 partial_fixpoint
end
def Kcr (p : K01 × Int) (r : Int) : Prop :=
 match p with
 | (t0,left1) => Q71 Tryz.prog 105 [K27 t0,I left1] (I r) []
def Kcs (p : K01 × Int × Int) (fl : Int) : Prop :=
 match p with
 | (t0,a0,a1) => ∀ c : Ctx,c.nt = 27 → WpL Tryz.prog c (cl (cl (cr (cl (cr (cr K4n)))))) (Kco c fl) (mkS [(1,I a0),(2,.ra 1 0),(5,I a1)] [(1,K26 t0)])
theorem Kct : (∀ p r,Kcp p = some r → Kcr p r) ∧ (∀ p r,Kcq p = some r → Kcs p r) := by
 refine Kcp.mutual_partial_correctness Kcr Kcs ?_ ?_
 ·rintro spec_l2Left_l0_f spec_l2Left_l0_ih ⟨t0,left1⟩ r h
  refine b0 Tryz.f105 K4n 27 [(0,K27 t0),(1,I left1)] fun c hc => ?_
  refine rs hc none [some (.new 1),oN] [(1,I left1),(2,.ra 1 0)] [(1,K26 t0)] tv ?_
  refine K88 hc 3 [(1,I (wr (left1 - 1))),(2,.ra 1 0)] ?_
  refine sN ?_
  refine K88 hc 1 [(1,I (wr (left1 - 1))),(2,.ra 1 0),(5,I 0)] ?_
  refine bk 0 ?_
  obtain ⟨a0,a1,h⟩ := Qdd h
  have hL := spec_l2Left_l0_ih _ _ a1 c hc
  refine lp ?_
  refine WpL.into (e := (.exit 0)) (mkS [(1,I a0)] []) hL ?_
  refine Qcr ?_
  refine rs0 hc 2 [(4,I a0)] [] ?_
  refine rt ?_
  obtain rfl := os h
  exact rq [true]
 ·rintro spec_l2Left_f spec_l2Left_l0_f spec_l2Left_ih spec_l2Left_l0_ih ⟨t0,a2,a3⟩ r h
  intro c hc
  refine WpL.step ?_
  refine sN ?_
  refine sN ?_
  obtain ⟨a4,a5,h⟩ := Qdd h
  refine Wp.into (x := .normal) (mkS [(1,I a2),(2,.ra 1 0),(5,I a3),(16,.bool a4)] [(1,K26 t0)]) ?_ ?_
  ·replace h := a5
   rcases is h with ⟨a6,h⟩ | ⟨a6,h⟩
   ·refine rgs hc none [oN,oN,oN,some (.eqv (.no) ⟨[(11,I (t0.fKids.length : Int))],[],[]⟩),oN,oN,oN,oN,oT] [(1,I a2),(2,.ra 1 0),(5,I a3),(16,.bool (decide (a2 ≥ 0)))] (ai (Qdj (d := 11) K0s t0.fKids) (ar 3 a6 tv)) ?_
    obtain rfl := os h
    exact Qcz.mk
   refine rgs hc none [oN,oN,oN,some (.eqv (.no) ⟨[(11,I (t0.fKids.length : Int))],[],[]⟩),oN,oN,o_,o_,oF] [(1,I a2),(2,.ra 1 0),(5,I a3),(16,.bool false)] (ai (Qdj (d := 11) K0s t0.fKids) (ar 2 (neT a6) (ai a6 tv))) ?_
   obtain rfl := os h
   exact Qcz.mk
  clear a5
  refine ic h (fun a7 h => ?_) fun a7 h => ?_
  ·refine sk ?_
   refine sN ?_
   refine bk 1 ?_
   obtain ⟨a8,a9,b1,b2,h⟩ := bq2 h
   refine rgs hc none [oN,oN,oN,some (.el (K27 a8)),oN,oN,oc (I b1),oN] [(1,I b1),(2,.ra 1 0),(5,I a3)] (ai (Qdh a9 (K0z a8)) (cq (spec_l2Left_ih _ _ b2) K4o tv)) ?_
   refine K87 hc 3 [(1,I b1),(2,.ra 1 0),(5,I (wr (a3 + 1)))] ?_
   refine Qcv ?_
   exact (spec_l2Left_l0_ih _ _ h c hc)
  refine xt 0 ?_
  refine Qcp ?_
  refine Qcw ?_
  obtain rfl := os h
  exact iv []
theorem Kcu : ∀ p r,Kcp p = some r → Kcr p r := Kct.1
theorem Kcv : ∀ p r,Kcq p = some r → Kcs p r := Kct.2
def Kcw (op0 : Int) : Option (Int) :=
 (Ka0 (op0,0,12)) >>= fun a0 =>
 if a0 = true then
 (idx [0,0,2,3,2,2,1,1,3,1,2,1,2] op0) >>= fun a1 =>
 some a1
 else
 some (-1)
def Kcx (op0 : Int) (r : Int) : Prop :=
 Q71 Tryz.prog 149 [I op0] (I r) []
theorem Kcy : ∀ p r,Kcw p = some r → Kcx p r := by
 rintro op0 r h
 unfold Kcw at h
 refine b0 Tryz.f149 K4p 10 [(0,I op0)] fun c hc => ?_
 refine rs0 hc 1 [(0,I op0)] [] ?_
 refine sN ?_
 obtain ⟨a0,a1,h⟩ := Qdd h
 refine rs hc none [oN,oc (.bool a0),oN] [(0,I op0),(5,.bool (!a0))] [] (cq (Ka2 _ _ a1) K3r tv) ?_
 rcases is h with ⟨a2,h⟩ | ⟨a2,h⟩
 ·refine cF (!a0) (nF a2) ?_
  refine sk ?_
  obtain ⟨a3,a4,h⟩ := Qdd h
  refine rs hc none [some (.mk 1 true),oN,oN,some (.el (I a3)),oN] [(2,I a3)] [] (ab (Qdi (enc := I) a4) (ix a4).2 tv) ?_
  refine rt ?_
  obtain rfl := os h
  exact rq [true]
 refine cT (!a0) (nT a2) ?_
 refine rs0 hc 1 [(2,I (-1))] [] ?_
 refine rt ?_
 obtain rfl := os h
 exact rq [true]
def Kcz (op0 : Int) : Option (Bool) :=
 ((
 if (op0 == 5) = true then
 some (true)
 else
 if (op0 == 8) = true then
 some (true)
 else
 if (op0 == 9) = true then
 some (true)
 else
 if (op0 == 11) = true then
 some (true)
 else
 some ((op0 == 12))
 ) : Option (Bool)) >>= fun a0 =>
 some a0
def Kd0 (op0 : Int) (r : Bool) : Prop :=
 Q71 Tryz.prog 150 [I op0] (.bool r) []
theorem Kd1 : ∀ p r,Kcz p = some r → Kd0 p r := by
 rintro op0 r h
 unfold Kcz at h
 refine b0 Tryz.f150 K4r 21 [(0,I op0)] fun c hc => ?_
 refine rs0 hc 1 [(0,I op0)] [] ?_
 refine sN ?_
 obtain ⟨a0,a1,h⟩ := Qdd h
 refine Wp.into (x := .normal) (mkS [(2,.bool a0)] []) ?_ ?_
 ·replace h := a1
  rcases is h with ⟨a2,h⟩ | ⟨a2,h⟩
  ·refine rg hc none [oN,oN,oN,o_,o_,oT,oN,o_,o_,oT,oN,o_,o_,oT,oN,o_,o_,oT,oN] [(2,.bool true)] [] (ar 2 (neF a2) (ai a2 (ar 2 nf (ai tt (ar 2 nf (ai tt (ar 2 nf (ai tt tv)))))))) ?_
   obtain rfl := os h
   exact Qcz.mk
  rcases is h with ⟨a3,h⟩ | ⟨a3,h⟩
  ·refine rg hc none [oN,oN,oN,oN,oN,oF,oN,o_,o_,oT,oN,o_,o_,oT,oN,o_,o_,oT,oN] [(2,.bool true)] [] (ar 3 a2 (ar 2 (neF a3) (ai a3 (ar 2 nf (ai tt (ar 2 nf (ai tt tv))))))) ?_
   obtain rfl := os h
   exact Qcz.mk
  rcases is h with ⟨a4,h⟩ | ⟨a4,h⟩
  ·refine rg hc none [oN,oN,oN,oN,oN,oF,oN,oN,oN,oF,oN,o_,o_,oT,oN,o_,o_,oT,oN] [(2,.bool true)] [] (ar 3 a2 (ar 3 a3 (ar 2 (neF a4) (ai a4 (ar 2 nf (ai tt tv)))))) ?_
   obtain rfl := os h
   exact Qcz.mk
  rcases is h with ⟨a5,h⟩ | ⟨a5,h⟩
  ·refine rg hc none [oN,oN,oN,oN,oN,oF,oN,oN,oN,oF,oN,oN,oN,oF,oN,o_,o_,oT,oN] [(2,.bool true)] [] (ar 3 a2 (ar 3 a3 (ar 3 a4 (ar 2 (neF a5) (ai a5 tv))))) ?_
   obtain rfl := os h
   exact Qcz.mk
  refine rg hc none [oN,oN,oN,oN,oN,oF,oN,oN,oN,oF,oN,oN,oN,oF,oN,oN,oN,oF,oN] [(2,.bool (op0 == 12))] [] (ar 3 a2 (ar 3 a3 (ar 3 a4 (ar 3 a5 tv)))) ?_
  obtain rfl := os h
  exact Qcz.mk
 clear a1
 refine rt ?_
 obtain rfl := os h
 exact rq [true]
def Kd2 (op0 : Int) : Option (Bool) :=
 ((
 if (op0 == 6) = true then
 some (true)
 else
 if (op0 == 7) = true then
 some (true)
 else
 some ((op0 == 9))
 ) : Option (Bool)) >>= fun a0 =>
 some a0
def Kd3 (op0 : Int) (r : Bool) : Prop :=
 Q71 Tryz.prog 151 [I op0] (.bool r) []
theorem Kd4 : ∀ p r,Kd2 p = some r → Kd3 p r := by
 rintro op0 r h
 unfold Kd2 at h
 refine b0 Tryz.f151 K4t 13 [(0,I op0)] fun c hc => ?_
 refine rs0 hc 1 [(0,I op0)] [] ?_
 refine sN ?_
 obtain ⟨a0,a1,h⟩ := Qdd h
 refine Wp.into (x := .normal) (mkS [(2,.bool a0)] []) ?_ ?_
 ·replace h := a1
  rcases is h with ⟨a2,h⟩ | ⟨a2,h⟩
  ·refine rg hc none [oN,oN,oN,o_,o_,oT,oN,o_,o_,oT,oN] [(2,.bool true)] [] (ar 2 (neF a2) (ai a2 (ar 2 nf (ai tt tv)))) ?_
   obtain rfl := os h
   exact Qcz.mk
  rcases is h with ⟨a3,h⟩ | ⟨a3,h⟩
  ·refine rg hc none [oN,oN,oN,oN,oN,oF,oN,o_,o_,oT,oN] [(2,.bool true)] [] (ar 3 a2 (ar 2 (neF a3) (ai a3 tv))) ?_
   obtain rfl := os h
   exact Qcz.mk
  refine rg hc none [oN,oN,oN,oN,oN,oF,oN,oN,oN,oF,oN] [(2,.bool (op0 == 9))] [] (ar 3 a2 (ar 3 a3 tv)) ?_
  obtain rfl := os h
  exact Qcz.mk
 clear a1
 refine rt ?_
 obtain rfl := os h
 exact rq [true]
def Kd5 (c : Ctx) (t0 : K01) (size2 : Int) (closed3 : Bool) : (Unit) ⊕ (Bool) → Exit → Q0a → Prop
 | .inl _ => Qcz c .normal (mkS [(2,I size2),(3,.bool closed3),(4,.ra 1 0)] [(1,K26 t0)])
 | .inr r => Qd8 TIx Tryz.f139 [] (.bool r)
def Kd6 (c : Ctx) (t0 : K01) (size2 : Int) (closed3 : Bool) : (Unit) ⊕ (Bool) → Exit → Q0a → Prop
 | .inl _ => Qcz c .normal (mkS [(2,I size2),(3,.bool closed3),(4,.ra 1 0)] [(1,K26 t0)])
 | .inr r => Qd8 TIx Tryz.f139 [] (.bool r)
def Kd7 (c : Ctx) (t0 : K01) (size2 : Int) (closed3 : Bool) : (Unit) ⊕ (Bool) → Exit → Q0a → Prop
 | .inl _ => Qcz c .normal (mkS [(2,I size2),(3,.bool closed3),(4,.ra 1 0)] [(1,K26 t0)])
 | .inr r => Qd8 TIx Tryz.f139 [] (.bool r)
def Kd8 (p : K01 × Int × Int × Bool) : Option (Bool) :=
 match p with
 | (t0,n1,size2,closed3) =>
  (Kcw t0.fOp) >>= fun a0 =>
  if ((t0.fKids.length : Int) != a0) = true then
  some false
  else
  ((
   if (t0.fOp == 0) = true then
   (Ka0 (t0.fN,0,(wr (n1 - 1)))) >>= fun a1 =>
   if a1 = true then
    some (.inl ())
   else
    some (.inr false)
   else
   ((
    if (t0.fOp == 1) = true then
    (Ka0 (t0.fN,0,2)) >>= fun a2 =>
    if a2 = true then
     some (.inl ())
    else
     some (.inr false)
    else
    (Kcz t0.fOp) >>= fun a3 =>
    ((
     if a3 = true then
     ((
     if (decide (t0.fN ≥ size2)) = true then
     some (true)
     else
     if (decide (t0.fN < (-1))) = true then
     some (true)
     else
     if closed3 = true then
     some ((decide (t0.fN < 0)))
     else
     some (false)
     ) : Option (Bool)) >>= fun a4 =>
     if a4 = true then
     some (.inr false)
     else
     some (.inl ())
     else
     if (t0.fN != 0) = true then
     some (.inr false)
     else
     some (.inl ())) : Option ((Unit) ⊕ (Bool))) >>= fun fl => match fl with
    | .inl () =>
     some (.inl ())
    | .inr r =>
     some (.inr r)) : Option ((Unit) ⊕ (Bool))) >>= fun fl => match fl with
   | .inl () =>
    some (.inl ())
   | .inr r =>
    some (.inr r)) : Option ((Unit) ⊕ (Bool))) >>= fun fl => match fl with
  | .inl () =>
   (Kd2 t0.fOp) >>= fun a5 =>
   if a5 = true then
   ((
    (Kc3 t0.fType) >>= fun a6 =>
    if a6 = true then
    (Kce (t0.fType,size2,closed3)) >>= fun a7 =>
    some (a7)
    else
    some (false)
   ) : Option (Bool)) >>= fun a8 =>
   some a8
   else
   some ((t0.fType.length : Int) == 0)
  | .inr r =>
   some r
def Kd9 (p : K01 × Int × Int × Bool) (r : Bool) : Prop :=
 match p with
 | (t0,n1,size2,closed3) => Q71 Tryz.prog 139 [K27 t0,I n1,I size2,.bool closed3] (.bool r) []
theorem Kda : ∀ p r,Kd8 p = some r → Kd9 p r := by
 rintro ⟨t0,n1,size2,closed3⟩ r h
 unfold Kd8 at h
 refine b0 Tryz.f139 K4v 76 [(0,K27 t0),(1,I n1),(2,I size2),(3,.bool closed3)] fun c hc => ?_
 refine rs hc none [some (.new 1),oN] [(1,I n1),(2,I size2),(3,.bool closed3),(4,.ra 1 0)] [(1,K26 t0)] tv ?_
 refine sN ?_
 obtain ⟨a0,a1,h⟩ := Qdd h
 refine rss hc (rx [[0],[1],[2],[0],[0,3],[0,3,4],[6]]) [oN,oN,some (.eqv (.no) ⟨[(11,I (t0.fKids.length : Int))],[],[]⟩),oN,oN,oc (I a0),oN] [(1,I n1),(2,I size2),(3,.bool closed3),(4,.ra 1 0),(15,.bool ((t0.fKids.length : Int) != a0))] (ai (Qdj (d := 11) K0s t0.fKids) (cq (Kcy _ _ a1) K4q tv)) ?_
 refine ic h (fun a2 h => ?_) fun a2 h => ?_
 ·refine rs0 hc 1 [(8,.bool false)] [] ?_
  refine rt ?_
  obtain rfl := os h
  exact rq [true]
 refine sk ?_
 refine sN ?_
 refine bk 0 ?_
 refine K88 hc 4 [(1,I n1),(2,I size2),(3,.bool closed3),(4,.ra 1 0),(19,.bool (t0.fOp == 0))] ?_
 obtain ⟨fl,a3,h⟩ := Qdd h
 refine flw (Kd7 c t0 size2 closed3 fl) ?_ (fun hF => ?_)
 ·replace h := a3
  refine ic h (fun a4 h => ?_) fun a4 h => ?_
  ·obtain ⟨a5,a6,h⟩ := Qdd h
   refine rss hc none [oN,oN,oN,oN,oc (.bool a5),oN] [(2,I size2),(3,.bool closed3),(4,.ra 1 0),(28,.bool (!a5))] (cq (Ka2 _ _ a6) K3r tv) ?_
   rcases is h with ⟨a7,h⟩ | ⟨a7,h⟩
   ·refine cF (!a5) (nF a7) ?_
    refine sk ?_
    obtain rfl := os h
    exact iv []
   refine cT (!a5) (nT a7) ?_
   refine rs0 hc 1 [(8,.bool false)] [] ?_
   refine rt ?_
   obtain rfl := os h
   exact re [true]
  refine K88 hc 4 [(2,I size2),(3,.bool closed3),(4,.ra 1 0),(29,.bool (t0.fOp == 1))] ?_
  obtain ⟨fl,a8,h⟩ := Qdd h
  refine flw (Kd6 c t0 size2 closed3 fl) ?_ (fun hF => ?_)
  ·replace h := a8
   refine ic h (fun a9 h => ?_) fun a9 h => ?_
   ·obtain ⟨b1,b2,h⟩ := Qdd h
    refine rss hc none [oN,oN,oc (.bool b1),oN] [(2,I size2),(3,.bool closed3),(4,.ra 1 0),(36,.bool (!b1))] (cq (Ka2 _ _ b2) K3r tv) ?_
    rcases is h with ⟨b3,h⟩ | ⟨b3,h⟩
    ·refine cF (!b1) (nF b3) ?_
     refine sk ?_
     obtain rfl := os h
     exact iv []
    refine cT (!b1) (nT b3) ?_
    refine rs0 hc 1 [(8,.bool false)] [] ?_
    refine rt ?_
    obtain rfl := os h
    exact re [true]
   obtain ⟨b4,b5,h⟩ := Qdd h
   refine rss hc none [oN,oN,oc (.bool b4),oN] [(2,I size2),(3,.bool closed3),(4,.ra 1 0),(37,.bool b4)] (cq (Kd1 _ _ b5) K4s tv) ?_
   obtain ⟨fl,b6,h⟩ := Qdd h
   refine flw (Kd5 c t0 size2 closed3 fl) ?_ (fun hF => ?_)
   ·replace h := b6
    refine ic h (fun b7 h => ?_) fun b7 h => ?_
    ·refine sN ?_
     obtain ⟨b8,b9,h⟩ := Qdd h
     refine Wp.into (x := .normal) (mkS [(2,I size2),(3,.bool closed3),(4,.ra 1 0),(57,.bool b8)] [(1,K26 t0)]) ?_ ?_
     ·replace h := b9
      rcases is h with ⟨c0,h⟩ | ⟨c0,h⟩
      ·refine rgs hc none [oN,oN,oN,oN,oN,o_,o_,o_,oT,oN,o_,o_,o_,o_,o_,o_,oT] [(2,I size2),(3,.bool closed3),(4,.ra 1 0),(57,.bool true)] (ar 3 (neF c0) (ai c0 (ar 3 nf (ai tt tv)))) ?_
       obtain rfl := os h
       exact Qcz.mk
      rcases is h with ⟨c1,h⟩ | ⟨c1,h⟩
      ·refine rgs hc none [oN,oN,oN,oN,oN,oN,oN,oN,oF,oN,o_,o_,o_,o_,o_,o_,oT] [(2,I size2),(3,.bool closed3),(4,.ra 1 0),(57,.bool true)] (ar 4 c0 (ar 3 (neF c1) (ai c1 tv))) ?_
       obtain rfl := os h
       exact Qcz.mk
      rcases is h with ⟨c2,h⟩ | ⟨c2,h⟩
      ·refine rgs hc none [oN,oN,oN,oN,oN,oN,oN,oN,oF,oN,oN,oN,oN,oN,oN,oT,oF] [(2,I size2),(3,.bool closed3),(4,.ra 1 0),(57,.bool (decide (t0.fN < 0)))] (ar 4 c0 (ar 2 c1 (ar 3 c2 (ac c1 c2 c1 tv)))) ?_
       obtain rfl := os h
       exact Qcz.mk
      refine rgs hc none [oN,oN,oN,oN,oN,oN,oN,oN,oF,oN,oN,oN,o_,o_,o_,oF,oF] [(2,I size2),(3,.bool closed3),(4,.ra 1 0),(57,.bool false)] (ar 4 c0 (ar 2 c1 (ar 3 (neT c2) (ac c1 c2 c1 tv)))) ?_
      obtain rfl := os h
      exact Qcz.mk
     clear b9
     refine ic h (fun c3 h => ?_) fun c3 h => ?_
     ·refine rs0 hc 1 [(8,.bool false)] [] ?_
      refine rt ?_
      obtain rfl := os h
      exact re [true]
     refine sk ?_
     obtain rfl := os h
     exact iv []
    refine K88 hc 3 [(2,I size2),(3,.bool closed3),(4,.ra 1 0),(18,.bool (t0.fN != 0))] ?_
    refine ic h (fun c4 h => ?_) fun c4 h => ?_
    ·refine rs0 hc 1 [(8,.bool false)] [] ?_
     refine rt ?_
     obtain rfl := os h
     exact re [true]
    refine sk ?_
    obtain rfl := os h
    exact iv []
   rcases fl with ⟨⟩ | r
   ·refine Wp.into (x := .normal) (mkS [(2,I size2),(3,.bool closed3),(4,.ra 1 0)] [(1,K26 t0)]) hF ?_
    obtain rfl := os h
    exact Qcz.mk
   refine Wp.mono hF ?_
   rintro _ _ ⟨rfl,hfin⟩
   obtain rfl := os h
   exact ⟨rfl,hfin⟩
  rcases fl with ⟨⟩ | r
  ·refine Wp.into (x := .normal) (mkS [(2,I size2),(3,.bool closed3),(4,.ra 1 0)] [(1,K26 t0)]) hF ?_
   obtain rfl := os h
   exact Qcz.mk
  refine Wp.mono hF ?_
  rintro _ _ ⟨rfl,hfin⟩
  obtain rfl := os h
  exact ⟨rfl,hfin⟩
 rcases fl with ⟨⟩ | r
 ·refine Wp.into (x := .normal) (mkS [(2,I size2),(3,.bool closed3),(4,.ra 1 0)] [(1,K26 t0)]) hF ?_
  refine sN ?_
  obtain ⟨c5,c6,h⟩ := Qdd h
  refine rss hc none [oN,oN,oc (.bool c5),oN] [(2,I size2),(3,.bool closed3),(4,.ra 1 0),(61,.bool (!c5))] (cq (Kd4 _ _ c6) K4u tv) ?_
  rcases is h with ⟨c7,h⟩ | ⟨c7,h⟩
  ·refine cF (!c5) (nF c7) ?_
   refine sk ?_
   refine sN ?_
   obtain ⟨c8,c9,h⟩ := Qdd h
   refine Wp.into (x := .normal) (mkS [(8,.bool c8)] []) ?_ ?_
   ·replace h := c9
    obtain ⟨d0,d1,h⟩ := Qdd h
    rcases is h with ⟨d2,h⟩ | ⟨d2,h⟩
    ·obtain ⟨d3,d4,h⟩ := Qdd h
     refine rg hc none [oN,oN,oc (.bool d0),oN,oN,oN,oN,oN,oc (.bool d3),oT,oN] [(8,.bool d3)] [] (cq (Kc5 _ _ d1) K4h (ar 5 d2 (cq (Kcg _ _ d4) K4l (ai d2 tv)))) ?_
     obtain rfl := os h
     exact Qcz.mk
    refine rg hc none [oN,oN,oc (.bool d0),oN,o_,o_,o_,o_,o_,oF,oN] [(8,.bool false)] [] (cq (Kc5 _ _ d1) K4h (ar 5 (neT d2) (ai d2 tv))) ?_
    obtain rfl := os h
    exact Qcz.mk
   clear c9
   refine rt ?_
   obtain rfl := os h
   exact rq [true]
  refine cT (!c5) (nT c7) ?_
  refine rs hc none [oN,oN,some (.eqv (.no) ⟨[(64,I (t0.fType.length : Int))],[],[]⟩),oN,oN] [(8,.bool ((t0.fType.length : Int) == 0))] [] (ai (Qdj (d := 64) I t0.fType) tv) ?_
  refine rt ?_
  obtain rfl := os h
  exact rq [true]
 refine Wp.mono hF ?_
 rintro _ _ ⟨rfl,hfin⟩
 obtain rfl := os h
 exact ⟨.inl rfl,hfin⟩
def Kdb (p : Int × Int) : Option (Int) :=
 match p with
 | (op0,kid1) =>
  ((
  if (op0 == 5) = true then
  some ((kid1 == 1))
  else
  some (false)
  ) : Option (Bool)) >>= fun a0 =>
  if a0 = true then
  some 2
  else
  ((
  if (op0 == 8) = true then
  if (decide (kid1 > 0)) = true then
  some (true)
  else
  if (op0 == 9) = true then
  some (true)
  else
  if (op0 == 12) = true then
  some ((kid1 == 1))
  else
  some (false)
  else
  if (op0 == 9) = true then
  some (true)
  else
  if (op0 == 12) = true then
  some ((kid1 == 1))
  else
  some (false)
  ) : Option (Bool)) >>= fun a1 =>
  if a1 = true then
  some 1
  else
  some 0
def Kdc (p : Int × Int) (r : Int) : Prop :=
 match p with
 | (op0,kid1) => Q71 Tryz.prog 109 [I op0,I kid1] (I r) []
theorem Kdd : ∀ p r,Kdb p = some r → Kdc p r := by
 rintro ⟨op0,kid1⟩ r h
 unfold Kdb at h
 refine b0 Tryz.f109 K4x 31 [(0,I op0),(1,I kid1)] fun c hc => ?_
 refine rs0 hc 1 [(0,I op0),(1,I kid1)] [] ?_
 refine sN ?_
 refine bk 0 ?_
 refine sN ?_
 obtain ⟨a0,a1,h⟩ := Qdd h
 refine Wp.into (x := .normal) (mkS [(0,I op0),(1,I kid1),(5,.bool a0)] []) ?_ ?_
 ·replace h := a1
  rcases is h with ⟨a2,h⟩ | ⟨a2,h⟩
  ·refine rg hc none [oN,oN,oN,oN,oN,oT,oN] [(0,I op0),(1,I kid1),(5,.bool (kid1 == 1))] [] (ar 3 a2 tv) ?_
   obtain rfl := os h
   exact Qcz.mk
  refine rg hc none [oN,oN,oN,o_,o_,oF,oN] [(0,I op0),(1,I kid1),(5,.bool false)] [] (ar 2 (neT a2) (ai a2 tv)) ?_
  obtain rfl := os h
  exact Qcz.mk
 clear a1
 refine ic h (fun a3 h => ?_) fun a3 h => ?_
 ·refine rs0 hc 1 [(4,I 2)] [] ?_
  refine rt ?_
  obtain rfl := os h
  exact rq [true]
 refine sN ?_
 obtain ⟨a4,a5,h⟩ := Qdd h
 refine Wp.into (x := .normal) (mkS [(12,.bool a4)] []) ?_ ?_
 ·replace h := a5
  rcases is h with ⟨a6,h⟩ | ⟨a6,h⟩
  ·rcases is h with ⟨a7,h⟩ | ⟨a7,h⟩
   ·refine rg hc none [oN,oN,oN,oN,oN,oT,oN,o_,o_,oT,oN,o_,o_,o_,o_,o_,o_,oT,oN] [(12,.bool true)] [] (ar 3 a6 (ar 2 (neF a7) (ai a7 (ar 4 nf (ai tt tv))))) ?_
    obtain rfl := os h
    exact Qcz.mk
   rcases is h with ⟨a8,h⟩ | ⟨a8,h⟩
   ·refine rg hc none [oN,oN,oN,oN,oN,oT,oN,oN,oN,oF,oN,o_,o_,o_,o_,o_,o_,oT,oN] [(12,.bool true)] [] (ar 3 a6 (ar 3 a7 (ar 4 (neF a8) (ai a8 tv)))) ?_
    obtain rfl := os h
    exact Qcz.mk
   rcases is h with ⟨a9,h⟩ | ⟨a9,h⟩
   ·refine rg hc none [oN,oN,oN,oN,oN,oT,oN,oN,oN,oF,oN,oN,oN,oN,oN,oN,oT,oF,oN] [(12,.bool (kid1 == 1))] [] (ar 3 a6 (ar 3 a7 (ar 3 a8 (ar 2 a9 (ac a8 a9 a8 tv))))) ?_
    obtain rfl := os h
    exact Qcz.mk
   refine rg hc none [oN,oN,oN,oN,oN,oT,oN,oN,oN,oF,oN,oN,oN,oN,o_,o_,oF,oF,oN] [(12,.bool false)] [] (ar 3 a6 (ar 3 a7 (ar 3 a8 (ar 2 (neT a9) (ac a8 a9 a8 tv))))) ?_
   obtain rfl := os h
   exact Qcz.mk
  rcases is h with ⟨a7,h⟩ | ⟨a7,h⟩
  ·refine rg hc none [oN,oN,oN,o_,o_,oF,oN,oN,oN,oF,oN,o_,o_,o_,o_,o_,o_,oT,oN] [(12,.bool true)] [] (ar 2 (neT a6) (ai a6 (ar 3 (rfl : false = false) (ar 4 (neF a7) (ai a7 tv))))) ?_
   obtain rfl := os h
   exact Qcz.mk
  rcases is h with ⟨a8,h⟩ | ⟨a8,h⟩
  ·refine rg hc none [oN,oN,oN,o_,o_,oF,oN,oN,oN,oF,oN,oN,oN,oN,oN,oN,oT,oF,oN] [(12,.bool (kid1 == 1))] [] (ar 2 (neT a6) (ai a6 (ar 3 (rfl : false = false) (ar 3 a7 (ar 2 a8 (ac a7 a8 a7 tv)))))) ?_
   obtain rfl := os h
   exact Qcz.mk
  refine rg hc none [oN,oN,oN,o_,o_,oF,oN,oN,oN,oF,oN,oN,oN,oN,o_,o_,oF,oF,oN] [(12,.bool false)] [] (ar 2 (neT a6) (ai a6 (ar 3 (rfl : false = false) (ar 3 a7 (ar 2 (neT a8) (ac a7 a8 a7 tv)))))) ?_
  obtain rfl := os h
  exact Qcz.mk
 clear a5
 refine ic h (fun b1 h => ?_) fun b1 h => ?_
 ·refine rs0 hc 1 [(4,I 1)] [] ?_
  refine rt ?_
  obtain rfl := os h
  exact rq [true]
 refine sk ?_
 refine rs0 hc 1 [(4,I 0)] [] ?_
 refine rt ?_
 obtain rfl := os h
 exact rq [true]
def Kde (c : Ctx) : (Unit) ⊕ (Bool) → Exit → Q0a → Prop
 | .inl _ => Qcz c (.exit 0) (mkS [] [])
 | .inr r => Qd8 TIx Tryz.f106 [] (.bool r)
mutual
def Kdf (p : K01 × Int × Int × Bool) : Option (Bool) :=
 match p with
 | (t0,n1,size2,closed3) =>
  (Kd8 (t0,n1,size2,closed3)) >>= fun a0 =>
  if a0 = true then
  (Kdg (t0,n1,size2,closed3,0)) >>= fun fl => match fl with
  | .inl () =>
   some true
  | .inr r =>
   some r
  else
  some false
 partial_fixpoint
def Kdg (p : K01 × Int × Int × Bool × Int) : Option ((Unit) ⊕ (Bool)) :=
 match p with
 | (t0,n1,size2,closed3,a0) =>
  if (decide (a0 < (t0.fKids.length : Int))) = true then
  (idx t0.fKids a0) >>= fun a1 =>
  (Kdb (t0.fOp,a0)) >>= fun a2 =>
  (Kdf (a1,(wr (n1 + a2)),size2,closed3)) >>= fun a3 =>
  if a3 = true then
  Kdg (t0,n1,size2,closed3,(wr (a0 + 1)))
  else
  some (.inr false)
  else
  some (.inl ())
 partial_fixpoint
end
def Kdh (p : K01 × Int × Int × Bool) (r : Bool) : Prop :=
 match p with
 | (t0,n1,size2,closed3) => Q71 Tryz.prog 106 [K27 t0,I n1,I size2,.bool closed3] (.bool r) []
def Kdi (p : K01 × Int × Int × Bool × Int) (fl : (Unit) ⊕ (Bool)) : Prop :=
 match p with
 | (t0,n1,size2,closed3,a0) => ∀ c : Ctx,c.nt = 38 → WpL Tryz.prog c (cl (cl (cr (cl (cr (cr K4z)))))) (Kde c fl) (mkS [(1,I n1),(2,I size2),(3,.bool closed3),(4,.ra 1 0),(9,I a0)] [(1,K26 t0)])
theorem Kdj : (∀ p r,Kdf p = some r → Kdh p r) ∧ (∀ p r,Kdg p = some r → Kdi p r) := by
 refine Kdf.mutual_partial_correctness Kdh Kdi ?_ ?_
 ·rintro spec_l2Term_l0_f spec_l2Term_l0_ih ⟨t0,n1,size2,closed3⟩ r h
  refine b0 Tryz.f106 K4z 38 [(0,K27 t0),(1,I n1),(2,I size2),(3,.bool closed3)] fun c hc => ?_
  refine rs hc none [some (.new 1),oN] [(1,I n1),(2,I size2),(3,.bool closed3),(4,.ra 1 0)] [(1,K26 t0)] tv ?_
  refine sN ?_
  obtain ⟨a0,a1,h⟩ := Qdd h
  refine rss hc none [oN,oN,oN,oN,oc (.bool a0),oN] [(1,I n1),(2,I size2),(3,.bool closed3),(4,.ra 1 0),(15,.bool (!a0))] (cq (Kda _ _ a1) K4w tv) ?_
  rcases is h with ⟨a2,h⟩ | ⟨a2,h⟩
  ·refine cF (!a0) (nF a2) ?_
   refine sk ?_
   refine sN ?_
   refine K88 hc 1 [(1,I n1),(2,I size2),(3,.bool closed3),(4,.ra 1 0),(9,I 0)] ?_
   refine bk 0 ?_
   obtain ⟨fl,a3,h⟩ := Qdd h
   have hL := spec_l2Term_l0_ih _ _ a3 c hc
   refine lp ?_
   rcases fl with ⟨⟩ | r
   ·refine WpL.into (e := (.exit 0)) (mkS [] []) hL ?_
    refine Qcr ?_
    refine rs0 hc 1 [(8,.bool true)] [] ?_
    refine rt ?_
    obtain rfl := os h
    exact rq [true]
   refine WpL.mono hL ?_
   rintro _ _ ⟨rfl,hfin⟩
   obtain rfl := os h
   exact ⟨.inl rfl,hfin⟩
  refine cT (!a0) (nT a2) ?_
  refine rs0 hc 1 [(8,.bool false)] [] ?_
  refine rt ?_
  obtain rfl := os h
  exact rq [true]
 ·rintro spec_l2Term_f spec_l2Term_l0_f spec_l2Term_ih spec_l2Term_l0_ih ⟨t0,n1,size2,closed3,a4⟩ r h
  intro c hc
  refine WpL.step ?_
  refine sN ?_
  refine rss hc none [oN,oN,oN,some (.eqv (.no) ⟨[(19,I (t0.fKids.length : Int))],[],[]⟩),oN] [(1,I n1),(2,I size2),(3,.bool closed3),(4,.ra 1 0),(9,I a4),(20,.bool (decide (a4 < (t0.fKids.length : Int))))] (ai (Qdj (d := 19) K0s t0.fKids) tv) ?_
  refine ic h (fun a5 h => ?_) fun a5 h => ?_
  ·refine sk ?_
   refine sN ?_
   refine bk 1 ?_
   obtain ⟨a6,a7,a8,a9,b1,b2,h⟩ := bq3 h
   refine rss hc (rx [[0],[1],[0],[3],[4],[0],[0],[0,6],[0],[0,6,7,8],[0,5,6,7,8,9],[0],[0],[13],[14]]) [oN,oN,oN,some (.el (K27 a6)),oN,oN,oN,oN,oN,oc (I a8),oN,oN,oN,oc (.bool b1),oN] [(1,I n1),(2,I size2),(3,.bool closed3),(4,.ra 1 0),(9,I a4),(37,.bool (!b1))] (ai (Qdh a7 (K0z a6)) (cq (Kdd _ _ a9) K4y (cq (spec_l2Term_ih _ _ b2) K50 tv))) ?_
   rcases is h with ⟨b3,h⟩ | ⟨b3,h⟩
   ·refine cF (!b1) (nF b3) ?_
    refine sk ?_
    refine K87 hc 3 [(1,I n1),(2,I size2),(3,.bool closed3),(4,.ra 1 0),(9,I (wr (a4 + 1)))] ?_
    refine Qcv ?_
    exact (spec_l2Term_l0_ih _ _ h c hc)
   refine cT (!b1) (nT b3) ?_
   refine rs0 hc 1 [(8,.bool false)] [] ?_
   refine rt ?_
   obtain rfl := os h
   exact re [true]
  refine xt 0 ?_
  refine Qcp ?_
  refine Qcw ?_
  obtain rfl := os h
  exact iv []
theorem Kdk : ∀ p r,Kdf p = some r → Kdh p r := Kdj.1
theorem Kdl : ∀ p r,Kdg p = some r → Kdi p r := Kdj.2
def Kdm (p : K00 × K01 × Int) : Option (Bool) :=
 match p with
 | (s0,t1,n2) =>
  ((
  (Kbk s0) >>= fun a0 =>
  if a0 = true then
  (Ka0 (n2,0,8)) >>= fun a1 =>
  if a1 = true then
  (Kcp (t1,400)) >>= fun a2 =>
  if (decide (a2 ≥ 0)) = true then
  (Kdf (t1,n2,s0.fSize,true)) >>= fun a3 =>
  some (a3)
  else
  some (false)
  else
  some (false)
  else
  some (false)
  ) : Option (Bool)) >>= fun a4 =>
  some a4
def Kdn (p : K00 × K01 × Int) (r : Bool) : Prop :=
 match p with
 | (s0,t1,n2) => Q71 Tryz.prog 91 [K25 s0,K27 t1,I n2] (.bool r) []
theorem Kdo : ∀ p r,Kdm p = some r → Kdn p r := by
 rintro ⟨s0,t1,n2⟩ r h
 unfold Kdm at h
 refine b0 Tryz.f91 B91 25 [(0,K25 s0),(1,K27 t1),(2,I n2)] fun c hc => ?_
 refine rs hc none [some (.new 1),some (.new 2),oN] [(2,I n2),(3,.ra 1 0),(4,.ra 2 0)] [(1,K24 s0),(2,K26 t1)] tv ?_
 refine sN ?_
 obtain ⟨a0,a1,h⟩ := Qdd h
 refine Wp.into (x := .normal) (mkS [(6,.bool a0)] []) ?_ ?_
 ·replace h := a1
  obtain ⟨a2,a3,h⟩ := Qdd h
  rcases is h with ⟨a4,h⟩ | ⟨a4,h⟩
  ·obtain ⟨a5,a6,h⟩ := Qdd h
   rcases is h with ⟨a7,h⟩ | ⟨a7,h⟩
   ·obtain ⟨a8,a9,h⟩ := Qdd h
    rcases is h with ⟨b1,h⟩ | ⟨b1,h⟩
    ·obtain ⟨b2,b3,h⟩ := Qdd h
     refine rg hc none [oN,oc (.bool a2),oN,oN,oc (.bool a5),oT,oN,oN,oc (I a8),oN,oT,oN,oN,oN,oN,oN,oc (.bool b2),oT,oN] [(6,.bool b2)] [] (cq (Kbm _ _ a3) K47 (ar 2 a4 (cq (Ka2 _ _ a6) K3r (ai a4 (ar 2 a7 (cq (Kcu _ _ a9) K4o (ar 2 a7 (ar 5 b1 (cq (Kdk _ _ b3) K50 (ai b1 tv)))))))))) ?_
     obtain rfl := os h
     exact Qcz.mk
    refine rg hc none [oN,oc (.bool a2),oN,oN,oc (.bool a5),oT,oN,oN,oc (I a8),oN,oT,oN,o_,o_,o_,o_,o_,oF,oN] [(6,.bool false)] [] (cq (Kbm _ _ a3) K47 (ar 2 a4 (cq (Ka2 _ _ a6) K3r (ai a4 (ar 2 a7 (cq (Kcu _ _ a9) K4o (ar 2 a7 (ar 5 (neT b1) (ai b1 tv))))))))) ?_
    obtain rfl := os h
    exact Qcz.mk
   refine rg hc none [oN,oc (.bool a2),oN,oN,oc (.bool a5),oT,oN,o_,o_,o_,oF,oN,o_,o_,o_,o_,o_,oF,oN] [(6,.bool false)] [] (cq (Kbm _ _ a3) K47 (ar 2 a4 (cq (Ka2 _ _ a6) K3r (ai a4 (ar 3 (neT a7) (ai a7 (ar 5 (neT (rfl : false = false)) (ai (rfl : false = false) tv)))))))) ?_
   obtain rfl := os h
   exact Qcz.mk
  refine rg hc none [oN,oc (.bool a2),oN,o_,o_,oF,oN,o_,o_,o_,oF,oN,o_,o_,o_,o_,o_,oF,oN] [(6,.bool false)] [] (cq (Kbm _ _ a3) K47 (ar 2 (neT a4) (ai a4 (ar 3 (neT (rfl : false = false)) (ai (rfl : false = false) (ar 5 (neT (rfl : false = false)) (ai (rfl : false = false) tv))))))) ?_
  obtain rfl := os h
  exact Qcz.mk
 clear a1
 refine rt ?_
 obtain rfl := os h
 exact rq [true]
def Kdp (p : K00 × LL × K01) : Option (Bool) :=
 match p with
 | (s0,ctx1,t2) =>
  ((
  (Kbk s0) >>= fun a0 =>
  if a0 = true then
  (Kcl (s0,ctx1)) >>= fun a1 =>
  if a1 = true then
  (Kdm (s0,t2,(ctx1.length : Int))) >>= fun a2 =>
  some (a2)
  else
  some (false)
  else
  some (false)
  ) : Option (Bool)) >>= fun a3 =>
  some a3
def Kdq (p : K00 × LL × K01) (r : Bool) : Prop :=
 match p with
 | (s0,ctx1,t2) => Q71 Tryz.prog 54 [K25 s0,sL ctx1,K27 t2] (.bool r) []
theorem Kdr : ∀ p r,Kdp p = some r → Kdq p r := by
 rintro ⟨s0,ctx1,t2⟩ r h
 unfold Kdp at h
 refine b0 Tryz.f54 B54 21 [(0,K25 s0),(1,sL ctx1),(2,K27 t2)] fun c hc => ?_
 refine rs hc none [some (.new 1),some (.new 2),oN] [(1,sL ctx1),(3,.ra 1 0),(5,.ra 2 0)] [(1,K24 s0),(2,K26 t2)] tv ?_
 refine sN ?_
 obtain ⟨a0,a1,h⟩ := Qdd h
 refine Wp.into (x := .normal) (mkS [(6,.bool a0)] []) ?_ ?_
 ·replace h := a1
  obtain ⟨a2,a3,h⟩ := Qdd h
  rcases is h with ⟨a4,h⟩ | ⟨a4,h⟩
  ·obtain ⟨a5,a6,h⟩ := Qdd h
   rcases is h with ⟨a7,h⟩ | ⟨a7,h⟩
   ·obtain ⟨a8,a9,h⟩ := Qdd h
    refine rg hc none [oN,oc (.bool a2),oN,oN,oN,oc (.bool a5),oT,oN,oN,oN,oN,some (.eqv (.no) ⟨[(18,I (ctx1.length : Int))],[],[]⟩),oc (.bool a8),oT,oN] [(6,.bool a8)] [] (cq (Kbm _ _ a3) K47 (ar 3 a4 (cq (Kcn _ _ a6) K4m (ai a4 (ar 4 a7 (ab (Qdj (d := 18) K07 ctx1) a7 (cq (Kdo _ _ a9) K51 (ai a7 tv)))))))) ?_
    obtain rfl := os h
    exact Qcz.mk
   refine rg hc none [oN,oc (.bool a2),oN,oN,oN,oc (.bool a5),oT,oN,o_,o_,o_,o_,o_,oF,oN] [(6,.bool false)] [] (cq (Kbm _ _ a3) K47 (ar 3 a4 (cq (Kcn _ _ a6) K4m (ai a4 (ar 5 (neT a7) (ai a7 tv)))))) ?_
   obtain rfl := os h
   exact Qcz.mk
  refine rg hc none [oN,oc (.bool a2),oN,o_,o_,o_,oF,oN,o_,o_,o_,o_,o_,oF,oN] [(6,.bool false)] [] (cq (Kbm _ _ a3) K47 (ar 3 (neT a4) (ai a4 (ar 5 (neT (rfl : false = false)) (ai (rfl : false = false) tv))))) ?_
  obtain rfl := os h
  exact Qcz.mk
 clear a1
 refine rt ?_
 obtain rfl := os h
 exact rq [true]
def Kds (n0 : Int) : Option ((List Int)) :=
 (chk (0 ≤ n0 ∧ (Int.toNat n0) * 8 ≤ 140737488355328)) >>= fun _ =>
 some (List.replicate (Int.toNat n0) 0)
def Kdt (n0 : Int) (r : (List Int)) : Prop :=
 Q71 Tryz.prog 92 [I n0] (oI r) []
theorem Kdu : ∀ p r,Kds p = some r → Kdt p r := by
 rintro n0 r h
 unfold Kds at h
 refine b0 Tryz.f92 B92 5 [(0,I n0)] fun c hc => ?_
 refine rs0 hc 1 [(0,I n0)] [] ?_
 obtain ⟨_,a0,h⟩ := Qdd h
 refine rs hc none [oN,some (.eqv (.mk 1 true) ⟨[(4,.rs 1)],[(1,some (.arr (List.map I (List.replicate (Int.toNat n0) 0))))],[1]⟩),oN] [(2,.rs 1)] [(1,.arr (List.map I (List.replicate (Int.toNat n0) 0)))] (ab (congrArg (fun z => (⟨[(4,.rs 1)],[(1,some (.arr z))],[1]⟩ : Wr)) (Qei (enc := I) (n := Int.toNat n0) (x := I 0) (Qds 0))) (And.intro (Eq.refl n0) (Qdf a0)) tv) ?_
 refine rt ?_
 obtain rfl := os h
 exact rq [true]
def Kdv (l0 : (List Int)) : Option ((List Int)) :=
 (Qdq (([] : List Int).length + l0.length) 8) >>= fun _ =>
 some l0
def Kdw (l0 : (List Int)) (r : (List Int)) : Prop :=
 Q71 Tryz.prog 82 [sI l0] (oI r) []
theorem Kdx : ∀ p r,Kdv p = some r → Kdw p r := by
 rintro l0 r h
 unfold Kdv at h
 refine b0 Tryz.f82 B82 6 [(0,sI l0)] fun c hc => ?_
 refine rs0 hc 1 [(0,sI l0)] [] ?_
 obtain ⟨_,a0,h⟩ := Qdd h
 refine rs hc none [some (.mk 1 true),oN,some (.eqv (.mk 2 true) ⟨[(5,.rs 2)],[(2,some (rI l0)),(1,none)],[2]⟩),oN] [(2,.rs 2)] [(2,rI l0)] (ab (congrArg (fun z => (⟨[(5,.rs 2)],[(2,some (.arr z)),(1,none)],[2]⟩ : Wr)) (List.nil_append _ : [] ++ (List.map I l0) = List.map I l0)) (Qdr (enc1 := I) (enc2 := I) (e1 := []) (e2 := l0) (sz := 1) Qe0 Qe0 a0) tv) ?_
 refine rt ?_
 obtain rfl := os h
 exact rq [true]
def Kdy (p : LL × LL) : Option (LL) :=
 match p with
 | (ctx0,front1) =>
  (Qdq (([] : LL).length + front1.length) 24) >>= fun _ =>
  (Qdq (front1.length + ctx0.length) 24) >>= fun _ =>
  some (front1 ++ ctx0)
def Kdz (p : LL × LL) (r : LL) : Prop :=
 match p with
 | (ctx0,front1) => Q71 Tryz.prog 61 [sL ctx0,sL front1] (.osl (List.map K07 r)) []
theorem Ke0 : ∀ p r,Kdy p = some r → Kdz p r := by
 rintro ⟨ctx0,front1⟩ r h
 unfold Kdy at h
 refine b0 Tryz.f61 B61 10 [(0,sL ctx0),(1,sL front1)] fun c hc => ?_
 refine rs0 hc 1 [(0,sL ctx0),(1,sL front1)] [] ?_
 obtain ⟨_,a0,_,a1,h⟩ := bq2 h
 refine rs hc none [some (.mk 1 true),oN,some (.eqv (.mk 2 true) ⟨[(7,.rs 2)],[(2,some (.arr (List.map K07 front1))),(1,none)],[2]⟩),oN,some (.eqv (.mk 3 true) ⟨[(9,.rs 3)],[(3,some (.arr (List.map K07 (front1 ++ ctx0)))),(2,none)],[3]⟩),oN] [(4,.rs 3)] [(3,.arr (List.map K07 (front1 ++ ctx0)))] (ad (congrArg (fun z => (⟨[(7,.rs 2)],[(2,some (.arr z)),(1,none)],[2]⟩ : Wr)) (List.nil_append _ : [] ++ (List.map K07 front1) = List.map K07 front1)) (Qdr (enc1 := K0c) (enc2 := K07) (e1 := []) (e2 := front1) (sz := 1) K0f K0a a0) (congrArg (fun z => (⟨[(9,.rs 3)],[(3,some (.arr z)),(2,none)],[3]⟩ : Wr)) ((List.map_append).symm : (List.map K07 front1) ++ (List.map K07 ctx0) = List.map K07 (front1 ++ ctx0))) (Qdr (enc1 := K07) (enc2 := K07) (e1 := front1) (e2 := ctx0) (sz := 1) K0a K0a a1) tv) ?_
 refine rt ?_
 obtain rfl := os h
 exact rq [true]
def Ke1 (fault0 : Int) : Option (K03) :=
 some (K03.mk [] [] fault0 [])
def Ke2 (fault0 : Int) (r : K03) : Prop :=
 Q71 Tryz.prog 94 [I fault0] (K2m r) []
theorem Ke3 : ∀ p r,Ke1 p = some r → Ke2 p r := by
 rintro fault0 r h
 unfold Ke1 at h
 refine b0 Tryz.f94 B94 5 [(0,I fault0)] fun c hc => ?_
 refine rs hc none [some (.new 1)] [(0,I fault0),(2,.ra 1 0)] [(1,.box [.nils,.nils,I 0,.nils])] tv ?_
 refine rs0 hc 3 [(2,.ra 1 0)] [(1,.box [.nils,.nils,I fault0,.nils])] ?_
 refine rt ?_
 obtain rfl := os h
 exact rq [true]
def Ke4 (c : Ctx) : (List Int) → Exit → Q0a → Prop
 | a0 => Qcz c (.exit 0) (mkS [(5,.rs 1)] [(1,rI a0)])
def Ke5 (p : LL × (List Int) × Int) : Option ((List Int)) :=
 match p with
 | (parts1,a0,a1) =>
  if (decide (a1 < (parts1.length : Int))) = true then
  (idx parts1 a1) >>= fun a2 =>
  (Qdq (a0.length + a2.length) 8) >>= fun _ =>
  Ke5 (parts1,(a0 ++ a2),(wr (a1 + 1)))
  else
  some (a0)
 partial_fixpoint
def Ke6 (p : LL × (List Int) × Int) (fl : (List Int)) : Prop :=
 match p with
 | (parts1,a0,a1) => ∀ c : Ctx,c.nt = 22 → WpL Tryz.prog c (cl (cl (cr (cl (cr (cr B97)))))) (Ke4 c fl) (mkS [(1,sL parts1),(5,.rs 1),(6,I a1)] [(1,rI a0)])
theorem Ke7 : ∀ p r,Ke5 p = some r → Ke6 p r := by
 refine Ke5.partial_correctness Ke6 ?_
 rintro spec_l3Glue_l0_f spec_l3Glue_l0_ih ⟨parts1,a0,a1⟩ r h
 intro c hc
 refine WpL.step ?_
 refine sN ?_
 refine rss hc none [oN,oN,some (.eqv (.no) ⟨[(11,I (parts1.length : Int))],[],[]⟩),oN] [(1,sL parts1),(5,.rs 1),(6,I a1),(12,.bool (decide (a1 < (parts1.length : Int))))] (ai (Qdj (d := 11) K07 parts1) tv) ?_
 refine ic h (fun a2 h => ?_) fun a2 h => ?_
 ·refine sk ?_
  refine sN ?_
  refine bk 1 ?_
  obtain ⟨a3,a4,_,a5,h⟩ := bq2 h
  refine rg hc none [oN,oN,oN,some (.el (sI a3)),oN,some (.eqv (.mk 3 true) ⟨[(20,.rs 3)],[(3,some (rI (a0 ++ a3))),(1,none)],[3]⟩),oN] [(1,sL parts1),(5,.rs 3),(6,I a1)] [(3,rI (a0 ++ a3))] (ac (xL a4) (congrArg (fun z => (⟨[(20,.rs 3)],[(3,some (.arr z)),(1,none)],[3]⟩ : Wr)) ((List.map_append).symm : (List.map I a0) ++ (List.map I a3) = List.map I (a0 ++ a3))) (Qdr (enc1 := I) (enc2 := I) (e1 := a0) (e2 := a3) (sz := 1) Qe0 Qe0 a5) tv) ?_
  refine K87 hc 3 [(1,sL parts1),(5,.rs 3),(6,I (wr (a1 + 1)))] ?_
  refine Qcv ?_
  exact WpL.view (fun a w hv => SRx.renL [(1,3)] hv (by kernel_rfl) (by kernel_rfl) (by kernel_rfl)) (spec_l3Glue_l0_ih _ _ h c hc)
 refine xt 0 ?_
 refine Qcp ?_
 refine Qcw ?_
 obtain rfl := os h
 exact iv []
def Ke8 (p : Int × LL) : Option ((List Int)) :=
 match p with
 | (c0,parts1) =>
  (Ke5 (parts1,[c0],0)) >>= fun a0 =>
  some a0
def Ke9 (p : Int × LL) (r : (List Int)) : Prop :=
 match p with
 | (c0,parts1) => Q71 Tryz.prog 97 [I c0,sL parts1] (oI r) []
theorem Kea : ∀ p r,Ke8 p = some r → Ke9 p r := by
 rintro ⟨c0,parts1⟩ r h
 unfold Ke8 at h
 refine b0 Tryz.f97 B97 22 [(0,I c0),(1,sL parts1)] fun c hc => ?_
 refine rs0 hc 1 [(0,I c0),(1,sL parts1)] [] ?_
 refine rs hc none [oN,some (.mk 1 true),oN] [(1,sL parts1),(5,.rs 1)] [(1,.arr (List.map I [c0]))] tv ?_
 refine sN ?_
 refine K88 hc 1 [(1,sL parts1),(5,.rs 1),(6,I 0)] ?_
 refine bk 0 ?_
 obtain ⟨a0,a1,h⟩ := Qdd h
 have hL := Ke7 _ _ a1 c hc
 refine lp ?_
 refine WpL.into (e := (.exit 0)) (mkS [(5,.rs 1)] [(1,rI a0)]) hL ?_
 refine Qcr ?_
 refine K88 hc 2 [(4,.rs 1)] ?_
 refine rt ?_
 obtain rfl := os h
 exact rq [true]
def Keb (c : Ctx) : (List Int) → Exit → Q0a → Prop
 | a0 => Qcz c (.exit 0) (mkS [(9,.rs 2)] [(2,rI a0)])
def Kec (p : K00 × (List Int) × Int × (List Int) × (List Int) × Int) : Option ((List Int)) :=
 match p with
 | (s0,a1,g2,b3,a0,a2) =>
  if (decide (a2 < (a1.length : Int))) = true then
  (idx a1 a2) >>= fun a3 =>
  (idx b3 a2) >>= fun a4 =>
  (Kad (s0,g2,a4)) >>= fun a5 =>
  (Kaa (s0,a3,a5)) >>= fun a6 =>
  (Qdq (a0.length + [a6].length) 8) >>= fun _ =>
  Kec (s0,a1,g2,b3,(a0 ++ [a6]),(wr (a2 + 1)))
  else
  some (a0)
 partial_fixpoint
def Ked (p : K00 × (List Int) × Int × (List Int) × (List Int) × Int) (fl : (List Int)) : Prop :=
 match p with
 | (s0,a1,g2,b3,a0,a2) => ∀ c : Ctx,c.nt = 35 → WpL Tryz.prog c (cl (cl (cr (cl (cr (cr B98)))))) (Keb c fl) (mkS [(1,sI a1),(2,I g2),(3,sI b3),(4,.ra 1 0),(9,.rs 2),(10,I a2)] [(1,K24 s0),(2,rI a0)])
theorem Kee : ∀ p r,Kec p = some r → Ked p r := by
 refine Kec.partial_correctness Ked ?_
 rintro spec_l3Sum_l0_f spec_l3Sum_l0_ih ⟨s0,a1,g2,b3,a0,a2⟩ r h
 intro c hc
 refine WpL.step ?_
 refine sN ?_
 refine rss hc none [oN,oN,some (.eqv (.no) ⟨[(14,I (a1.length : Int))],[],[]⟩),oN] [(1,sI a1),(2,I g2),(3,sI b3),(4,.ra 1 0),(9,.rs 2),(10,I a2),(15,.bool (decide (a2 < (a1.length : Int))))] (ai (Qdj (d := 14) I a1) tv) ?_
 refine ic h (fun a3 h => ?_) fun a3 h => ?_
 ·refine sk ?_
  refine sN ?_
  refine bk 1 ?_
  obtain ⟨a4,a5,a6,a7,a8,a9,b1,b2,h⟩ := bq4 h
  obtain ⟨_,b4,h⟩ := Qdd h
  refine rg hc (rx [[0],[0],[0],[0],[0,2,3],[0,2,3,4],[0],[0],[0],[0],[0,8,9],[0,8,9,10],[0,6,7,8,9,10,11],[0,1,2,3,4,5,6,7,8,9,10,11,12],[0,1,2,3,4,5,6,7,8,9,10,11,12,13],[15],[16]]) [oN,oN,oN,oN,some (.el (I a4)),oN,oN,oN,oN,oN,some (.el (I a6)),oN,oc (I a8),oc (I b1),some (.mk 5 true),some (.eqv (.mk 6 true) ⟨[(33,.rs 6)],[(6,some (rI (a0 ++ [b1]))),(2,none),(5,none)],[6]⟩),oN] [(1,sI a1),(2,I g2),(3,sI b3),(4,.ra 1 0),(9,.rs 6),(10,I a2)] [(1,K24 s0),(6,rI (a0 ++ [b1]))] (ab (ix a5) (ix a7) (cq (Kaf _ _ a9) K3x (cq (Kac _ _ b2) K3v (ab (congrArg (fun z => (⟨[(33,.rs 6)],[(6,some (.arr z)),(2,none),(5,none)],[6]⟩ : Wr)) ((List.map_append).symm : (List.map I a0) ++ (List.map I [b1]) = List.map I (a0 ++ [b1]))) (Qdr (enc1 := I) (enc2 := I) (e1 := a0) (e2 := [b1]) (sz := 1) Qe0 Qe0 b4) tv)))) ?_
  refine K87 hc 3 [(1,sI a1),(2,I g2),(3,sI b3),(4,.ra 1 0),(9,.rs 6),(10,I (wr (a2 + 1)))] ?_
  refine Qcv ?_
  exact WpL.view (fun a w hv => SRx.renL [(2,6)] hv (by kernel_rfl) (by kernel_rfl) (by kernel_rfl)) (spec_l3Sum_l0_ih _ _ h c hc)
 refine xt 0 ?_
 refine Qcp ?_
 refine Qcw ?_
 obtain rfl := os h
 exact iv []
def Kef (p : K00 × (List Int) × Int × (List Int)) : Option ((List Int)) :=
 match p with
 | (s0,a1,g2,b3) =>
  (Kec (s0,a1,g2,b3,[],0)) >>= fun a0 =>
  some a0
def Keg (p : K00 × (List Int) × Int × (List Int)) (r : (List Int)) : Prop :=
 match p with
 | (s0,a1,g2,b3) => Q71 Tryz.prog 98 [K25 s0,sI a1,I g2,sI b3] (oI r) []
theorem Keh : ∀ p r,Kef p = some r → Keg p r := by
 rintro ⟨s0,a1,g2,b3⟩ r h
 unfold Kef at h
 refine b0 Tryz.f98 B98 35 [(0,K25 s0),(1,sI a1),(2,I g2),(3,sI b3)] fun c hc => ?_
 refine rs hc none [some (.new 1),oN] [(1,sI a1),(2,I g2),(3,sI b3),(4,.ra 1 0)] [(1,K24 s0)] tv ?_
 refine rs hc none [some (.mk 2 true),oN] [(1,sI a1),(2,I g2),(3,sI b3),(4,.ra 1 0),(9,.rs 2)] [(1,K24 s0),(2,.arr (List.map I []))] tv ?_
 refine sN ?_
 refine K88 hc 1 [(1,sI a1),(2,I g2),(3,sI b3),(4,.ra 1 0),(9,.rs 2),(10,I 0)] ?_
 refine bk 0 ?_
 obtain ⟨a0,a2,h⟩ := Qdd h
 have hL := Kee _ _ a2 c hc
 refine lp ?_
 refine WpL.into (e := (.exit 0)) (mkS [(9,.rs 2)] [(2,rI a0)]) hL ?_
 refine Qcr ?_
 refine K88 hc 2 [(8,.rs 2)] ?_
 refine rt ?_
 obtain rfl := os h
 exact rq [true]
def Kei (p : (List Int) × (List Int)) : Option (K03) :=
 match p with
 | (ty0,needs1) =>
  if (decide ((ty0.length : Int) > 40)) = true then
  (Ke1 3) >>= fun a0 =>
  some a0
  else
  some (K03.mk ty0 needs1 0 [])
def Kej (p : (List Int) × (List Int)) (r : K03) : Prop :=
 match p with
 | (ty0,needs1) => Q71 Tryz.prog 96 [sI ty0,sI needs1] (K2b r) []
theorem Kek : ∀ p r,Kei p = some r → Kej p r := by
 rintro ⟨ty0,needs1⟩ r h
 unfold Kei at h
 refine b0 Tryz.f96 B96 12 [(0,sI ty0),(1,sI needs1)] fun c hc => ?_
 refine rs hc none [some (.new 1)] [(0,sI ty0),(1,sI needs1),(4,.ra 1 0)] [(1,.box [.nils,.nils,I 0,.nils])] tv ?_
 refine sN ?_
 refine rss hc none [oN,some (.eqv (.no) ⟨[(6,I (ty0.length : Int))],[],[]⟩),oN] [(0,sI ty0),(1,sI needs1),(4,.ra 1 0),(7,.bool (decide ((ty0.length : Int) > 40)))] (ai (Qdj (d := 6) I ty0) tv) ?_
 refine ic h (fun a0 h => ?_) fun a0 h => ?_
 ·obtain ⟨a1,a2,h⟩ := Qdd h
  refine rs hc none [some (.call (K2m a1) [] 2),oN] [(4,.ra 1 0)] [(1,.box [.rs 2,.rs 3,I a1.ffault,.rs 4]),(2,rI a1.fty),(3,rI a1.fneeds),(4,rI a1.fpath)] (cq (Ke3 _ _ a2) K57 tv) ?_
  refine vz 2 (Qe5 a1.fty) [(4,.ra 1 0)] [(1,.box [sI a1.fty,.rs 3,I a1.ffault,.rs 4]),(3,rI a1.fneeds),(4,rI a1.fpath)] ?_
  refine vz 3 (Qe5 a1.fneeds) [(4,.ra 1 0)] [(1,.box [sI a1.fty,sI a1.fneeds,I a1.ffault,.rs 4]),(4,rI a1.fpath)] ?_
  refine vz 4 (Qe5 a1.fpath) [(4,.ra 1 0)] [(1,K2a a1)] ?_
  refine rt ?_
  obtain rfl := os h
  exact rq [false]
 refine sk ?_
 refine rs0 hc 4 [(4,.ra 1 0)] [(1,.box [sI ty0,sI needs1,I 0,.nils])] ?_
 refine rt ?_
 obtain rfl := os h
 exact rq [false]
def Kel (p : (List Int) × Int) : Option ((List Int)) :=
 match p with
 | (ty0,k1) =>
  (Kc0 (ty0,1)) >>= fun a0 =>
  if (k1 == 0) = true then
  (cut ty0 (some 1) (some a0) none) >>= fun a1 =>
  (Kdv a1) >>= fun a2 =>
  some a2
  else
  (cut ty0 (some a0) none none) >>= fun a3 =>
  (Kdv a3) >>= fun a4 =>
  some a4
def Kem (p : (List Int) × Int) (r : (List Int)) : Prop :=
 match p with
 | (ty0,k1) => Q71 Tryz.prog 101 [sI ty0,I k1] (oI r) []
theorem Ken : ∀ p r,Kel p = some r → Kem p r := by
 rintro ⟨ty0,k1⟩ r h
 unfold Kel at h
 refine b0 Tryz.f101 K5c 18 [(0,sI ty0),(1,I k1)] fun c hc => ?_
 refine rs0 hc 1 [(0,sI ty0),(1,I k1)] [] ?_
 obtain ⟨a0,a1,h⟩ := Qdd h
 refine rs hc none [oN,oc (I a0),oN] [(0,sI ty0),(1,I k1),(5,I a0)] [] (cq (Kc2 _ _ a1) K4f tv) ?_
 refine sN ?_
 refine rs0 hc 2 [(0,sI ty0),(5,I a0),(9,.bool (k1 == 0))] [] ?_
 refine ic h (fun a2 h => ?_) fun a2 h => ?_
 ·obtain ⟨a3,a4,a5,a6,h⟩ := bq2 h
  refine rs hc none [oN,oN,some (.eqv (.no) ⟨[(12,sI a3)],[],[]⟩),oc (oI a5),oN] [(4,.rs 1)] [(1,rI a5)] (ab (Qdm (d := 12) I a4) (Qdl (enc := I) (sz := 1) Qdw a4) (cq (Kdx _ _ a6) K54 tv)) ?_
  refine rt ?_
  obtain rfl := os h
  exact rq [true]
 refine sk ?_
 obtain ⟨a7,a8,a9,b1,h⟩ := bq2 h
 refine rs hc none [oN,oN,some (.eqv (.no) ⟨[(16,sI a7)],[],[]⟩),some (.call (oI a9) [] 2),oN] [(4,.rs 2)] [(2,rI a9)] (ab (Qdm (d := 16) I a8) (Qdl (enc := I) (sz := 1) Qdw a8) (cq (Kdx _ _ b1) K54 tv)) ?_
 refine rt ?_
 obtain rfl := os h
 exact rq [true]
def Keo (c : Ctx) : (Unit) ⊕ (Bool) → Exit → Q0a → Prop
 | .inl _ => Qcz c (.exit 0) (mkS [] [])
 | .inr r => Qd8 TIx Tryz.f63 [] (.bool r)
def Kep (p : (List Int) × (List Int) × Int) : Option ((Unit) ⊕ (Bool)) :=
 match p with
 | (a0,b1,a1) =>
  if (decide (a1 < (a0.length : Int))) = true then
  (idx a0 a1) >>= fun a2 =>
  (idx b1 a1) >>= fun a3 =>
  if (a2 != a3) = true then
  some (.inr false)
  else
  Kep (a0,b1,(wr (a1 + 1)))
  else
  some (.inl ())
 partial_fixpoint
def Keq (p : (List Int) × (List Int) × Int) (fl : (Unit) ⊕ (Bool)) : Prop :=
 match p with
 | (a0,b1,a1) => ∀ c : Ctx,c.nt = 26 → WpL Tryz.prog c (cl (cl (cr (cl (cr (cr B63)))))) (Keo c fl) (mkS [(0,sI a0),(1,sI b1),(5,I a1)] [])
theorem Ker : ∀ p r,Kep p = some r → Keq p r := by
 refine Kep.partial_correctness Keq ?_
 rintro spec_l1Same_l0_f spec_l1Same_l0_ih ⟨a0,b1,a1⟩ r h
 intro c hc
 refine WpL.step ?_
 refine sN ?_
 refine rs hc none [oN,oN,some (.eqv (.no) ⟨[(13,I (a0.length : Int))],[],[]⟩),oN] [(0,sI a0),(1,sI b1),(5,I a1),(14,.bool (decide (a1 < (a0.length : Int))))] [] (ai (Qdj (d := 13) I a0) tv) ?_
 refine ic h (fun a2 h => ?_) fun a2 h => ?_
 ·refine sk ?_
  refine sN ?_
  refine bk 1 ?_
  obtain ⟨a3,a4,a5,a6,h⟩ := bq2 h
  refine rs hc (rx [[0],[0],[2],[3],[0],[0],[0,4,5],[0,4,5,6],[8]]) [oN,oN,some (.el (I a3)),oN,oN,oN,some (.el (I a5)),oN,oN] [(0,sI a0),(1,sI b1),(5,I a1),(25,.bool (a3 != a5))] [] (ab (ix a4) (ix a6) tv) ?_
  refine ic h (fun a7 h => ?_) fun a7 h => ?_
  ·refine rs0 hc 1 [(4,.bool false)] [] ?_
   refine rt ?_
   obtain rfl := os h
   exact re [true]
  refine sk ?_
  refine rg0 hc 3 [(0,sI a0),(1,sI b1),(5,I (wr (a1 + 1)))] [] ?_
  refine Qcv ?_
  exact (spec_l1Same_l0_ih _ _ h c hc)
 refine xt 0 ?_
 refine Qcp ?_
 refine Qcw ?_
 obtain rfl := os h
 exact iv []
def Kes (p : (List Int) × (List Int)) : Option (Bool) :=
 match p with
 | (a0,b1) =>
  if ((a0.length : Int) != (b1.length : Int)) = true then
  some false
  else
  (Kep (a0,b1,0)) >>= fun fl => match fl with
  | .inl () =>
   some true
  | .inr r =>
   some r
def Ket (p : (List Int) × (List Int)) (r : Bool) : Prop :=
 match p with
 | (a0,b1) => Q71 Tryz.prog 63 [sI a0,sI b1] (.bool r) []
theorem Keu : ∀ p r,Kes p = some r → Ket p r := by
 rintro ⟨a0,b1⟩ r h
 unfold Kes at h
 refine b0 Tryz.f63 B63 26 [(0,sI a0),(1,sI b1)] fun c hc => ?_
 refine rs0 hc 1 [(0,sI a0),(1,sI b1)] [] ?_
 refine sN ?_
 refine rs hc none [oN,some (.eqv (.no) ⟨[(7,I (a0.length : Int))],[],[]⟩),oN,some (.eqv (.no) ⟨[(9,I (b1.length : Int))],[],[]⟩),oN] [(0,sI a0),(1,sI b1),(10,.bool ((a0.length : Int) != (b1.length : Int)))] [] (ab (Qdj (d := 7) I a0) (Qdj (d := 9) I b1) tv) ?_
 refine ic h (fun a1 h => ?_) fun a1 h => ?_
 ·refine rs0 hc 1 [(4,.bool false)] [] ?_
  refine rt ?_
  obtain rfl := os h
  exact rq [true]
 refine sk ?_
 refine sN ?_
 refine rs0 hc 1 [(0,sI a0),(1,sI b1),(5,I 0)] [] ?_
 refine bk 0 ?_
 obtain ⟨fl,a2,h⟩ := Qdd h
 have hL := Ker _ _ a2 c hc
 refine lp ?_
 rcases fl with ⟨⟩ | r
 ·refine WpL.into (e := (.exit 0)) (mkS [] []) hL ?_
  refine Qcr ?_
  refine rs0 hc 1 [(4,.bool true)] [] ?_
  refine rt ?_
  obtain rfl := os h
  exact rq [true]
 refine WpL.mono hL ?_
 rintro _ _ ⟨rfl,hfin⟩
 obtain rfl := os h
 exact ⟨.inl rfl,hfin⟩
def Kev (c : Ctx) : (List Int) → Exit → Q0a → Prop
 | a0 => Qcz c (.exit 0) (mkS [(7,.rs 2)] [(2,rI a0)])
def Kew (p : K00 × (List Int) × (List Int) × (List Int) × Int) : Option ((List Int)) :=
 match p with
 | (s0,a1,b2,a0,a2) =>
  if (decide (a2 < (a1.length : Int))) = true then
  (idx a1 a2) >>= fun a3 =>
  (idx b2 a2) >>= fun a4 =>
  (Kay (s0,a3,a4)) >>= fun a5 =>
  (Qdq (a0.length + [a5].length) 8) >>= fun _ =>
  Kew (s0,a1,b2,(a0 ++ [a5]),(wr (a2 + 1)))
  else
  some (a0)
 partial_fixpoint
def Kex (p : K00 × (List Int) × (List Int) × (List Int) × Int) (fl : (List Int)) : Prop :=
 match p with
 | (s0,a1,b2,a0,a2) => ∀ c : Ctx,c.nt = 30 → WpL Tryz.prog c (cl (cl (cr (cl (cr (cr K5i)))))) (Kev c fl) (mkS [(1,sI a1),(2,sI b2),(3,.ra 1 0),(7,.rs 2),(8,I a2)] [(1,K24 s0),(2,rI a0)])
theorem Key : ∀ p r,Kew p = some r → Kex p r := by
 refine Kew.partial_correctness Kex ?_
 rintro spec_l3Join_l0_f spec_l3Join_l0_ih ⟨s0,a1,b2,a0,a2⟩ r h
 intro c hc
 refine WpL.step ?_
 refine sN ?_
 refine rss hc none [oN,oN,some (.eqv (.no) ⟨[(12,I (a1.length : Int))],[],[]⟩),oN] [(1,sI a1),(2,sI b2),(3,.ra 1 0),(7,.rs 2),(8,I a2),(13,.bool (decide (a2 < (a1.length : Int))))] (ai (Qdj (d := 12) I a1) tv) ?_
 refine ic h (fun a3 h => ?_) fun a3 h => ?_
 ·refine sk ?_
  refine sN ?_
  refine bk 1 ?_
  obtain ⟨a4,a5,a6,a7,a8,a9,_,b1,h⟩ := bq4 h
  refine rg hc (rx [[0],[0],[0],[0],[0,2,3],[0,2,3,4],[0],[0],[0,6,7],[0,6,7,8],[0,1,2,3,4,5,6,7,8,9],[0,1,2,3,4,5,6,7,8,9,10],[12],[13]]) [oN,oN,oN,oN,some (.el (I a4)),oN,oN,oN,some (.el (I a6)),oN,oc (I a8),some (.mk 5 true),some (.eqv (.mk 6 true) ⟨[(28,.rs 6)],[(6,some (rI (a0 ++ [a8]))),(2,none),(5,none)],[6]⟩),oN] [(1,sI a1),(2,sI b2),(3,.ra 1 0),(7,.rs 6),(8,I a2)] [(1,K24 s0),(6,rI (a0 ++ [a8]))] (ab (ix a5) (ix a7) (cq (Kb0 _ _ a9) K42 (ab (congrArg (fun z => (⟨[(28,.rs 6)],[(6,some (.arr z)),(2,none),(5,none)],[6]⟩ : Wr)) ((List.map_append).symm : (List.map I a0) ++ (List.map I [a8]) = List.map I (a0 ++ [a8]))) (Qdr (enc1 := I) (enc2 := I) (e1 := a0) (e2 := [a8]) (sz := 1) Qe0 Qe0 b1) tv))) ?_
  refine K87 hc 3 [(1,sI a1),(2,sI b2),(3,.ra 1 0),(7,.rs 6),(8,I (wr (a2 + 1)))] ?_
  refine Qcv ?_
  exact WpL.view (fun a w hv => SRx.renL [(2,6)] hv (by kernel_rfl) (by kernel_rfl) (by kernel_rfl)) (spec_l3Join_l0_ih _ _ h c hc)
 refine xt 0 ?_
 refine Qcp ?_
 refine Qcw ?_
 obtain rfl := os h
 exact iv []
def Kez (p : K00 × (List Int) × (List Int)) : Option ((List Int)) :=
 match p with
 | (s0,a1,b2) =>
  (Kew (s0,a1,b2,[],0)) >>= fun a0 =>
  some a0
def Kf0 (p : K00 × (List Int) × (List Int)) (r : (List Int)) : Prop :=
 match p with
 | (s0,a1,b2) => Q71 Tryz.prog 111 [K25 s0,sI a1,sI b2] (oI r) []
theorem Kf1 : ∀ p r,Kez p = some r → Kf0 p r := by
 rintro ⟨s0,a1,b2⟩ r h
 unfold Kez at h
 refine b0 Tryz.f111 K5i 30 [(0,K25 s0),(1,sI a1),(2,sI b2)] fun c hc => ?_
 refine rs hc none [some (.new 1),oN] [(1,sI a1),(2,sI b2),(3,.ra 1 0)] [(1,K24 s0)] tv ?_
 refine rs hc none [some (.mk 2 true),oN] [(1,sI a1),(2,sI b2),(3,.ra 1 0),(7,.rs 2)] [(1,K24 s0),(2,.arr (List.map I []))] tv ?_
 refine sN ?_
 refine K88 hc 1 [(1,sI a1),(2,sI b2),(3,.ra 1 0),(7,.rs 2),(8,I 0)] ?_
 refine bk 0 ?_
 obtain ⟨a0,a2,h⟩ := Qdd h
 have hL := Key _ _ a2 c hc
 refine lp ?_
 refine WpL.into (e := (.exit 0)) (mkS [(7,.rs 2)] [(2,rI a0)]) hL ?_
 refine Qcr ?_
 refine K88 hc 2 [(6,.rs 2)] ?_
 refine rt ?_
 obtain rfl := os h
 exact rq [true]
def Kf2 (c : Ctx) (s0 : K00) (ctx1 : LL) (t2 : K01) (a3 : K03) (a0 : K03) : ((List Int) × Bool) ⊕ (K03) → Exit → Q0a → Prop
 | .inl (a1,a2) => Qcz c .normal (mkS [(1,sL ctx1),(4,.ra 1 0),(6,.ra 2 0),(7,.ra 3 0),(8,.ra 4 0),(11,.ra 21 0),(13,I t2.fN),(14,.rs 27),(15,.bool a2)] [(1,K24 s0),(2,K26 t2),(3,K2a a3),(4,.box [.nils,.nils,I 0,.nils]),(21,K2a a0),(27,rI a1)])
 | .inr r => Qd8 TIx Tryz.f103 [] (K2b r)
def Kf3 (c : Ctx) (s0 : K00) (ctx1 : LL) (t2 : K01) (a3 : K03) (a0 : K03) : ((List Int) × Bool) ⊕ (K03) → Exit → Q0a → Prop
 | .inl (a1,a2) => Qcz c .normal (mkS [(1,sL ctx1),(4,.ra 1 0),(6,.ra 2 0),(7,.ra 3 0),(8,.ra 4 0),(11,.ra 21 0),(13,I t2.fN),(14,.rs 22),(15,.bool a2)] [(1,K24 s0),(2,K26 t2),(3,K2a a3),(4,.box [.nils,.nils,I 0,.nils]),(21,K2a a0),(22,rI a1)])
 | .inr r => Qd8 TIx Tryz.f103 [] (K2b r)
def Kf4 (c : Ctx) (s0 : K00) (ctx1 : LL) (t2 : K01) (a3 : K03) (a0 : K03) : (Int × (List Int) × Bool) ⊕ (K03) → Exit → Q0a → Prop
 | .inl (a1,a2,a4) => Qcz c .normal (mkS [(1,sL ctx1),(4,.ra 1 0),(6,.ra 2 0),(7,.ra 3 0),(8,.ra 4 0),(11,.ra 21 0),(13,I a1),(14,.rs 22),(15,.bool a4)] [(1,K24 s0),(2,K26 t2),(3,K2a a3),(4,.box [.nils,.nils,I 0,.nils]),(21,K2a a0),(22,rI a2)])
 | .inr r => Qd8 TIx Tryz.f103 [] (K2b r)
end Go.Am
