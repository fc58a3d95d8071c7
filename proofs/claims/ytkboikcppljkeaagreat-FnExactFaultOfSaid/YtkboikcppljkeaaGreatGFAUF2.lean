/- Functions of the program as pure functions,and that it computes them. Printed by a program of mine (gen.py). -/
import Derived.Test.YtkboikcppljkeaaGreatGFAUF0
set_option linter.unusedVariables false
set_option linter.unusedSimpArgs false
set_option maxRecDepth 100000
namespace Go.Am
open Go Go.Proofs
def Kan : Option (List (List Nat)) := rx [[0],[0],[2],[3],[4],[5],[6],[7],[7],[9],[10],[7],[7,11],[13],[14],[15]]
def Kao (p : K00 × Int) : Option ((Unit) ⊕ (Bool)) :=
 match p with
 | (s0,a0) =>
  if (decide (a0 < s0.fSize)) = true then
  (K9u (s0,a0)) >>= fun a1 =>
  if a1 = true then
  (Kaj (s0,a0,0)) >>= fun fl => match fl with
  | .inl () =>
   Kao (s0,(wr (a0 + 1)))
  | .inr r =>
   some (.inr r)
  else
  some (.inr false)
  else
  some (.inl ())
 partial_fixpoint
def Kap (p : K00 × Int) (fl : (Unit) ⊕ (Bool)) : Prop :=
 match p with
 | (s0,a0) => ∀ c : Ctx,c.nt = 42 → WpL Tryz.prog c (cl (cl (cr (cl (cr (cr B89)))))) (Kam c fl) (mkS [(1,.ra 1 0),(3,I a0)] [(1,K1t s0)])
theorem Kaq : ∀ p r,Kao p = some r → Kap p r := by
 refine Kao.partial_correctness Kap ?_
 rintro spec_IsSystem_l2_f spec_IsSystem_l2_ih ⟨s0,a0⟩ r h
 intro c hc
 refine WpL.step ?_
 refine sN ?_
 refine K7f hc 4 [(1,.ra 1 0),(3,I a0),(12,.bool (decide (a0 < s0.fSize)))] ?_
 refine ic h (fun a1 h => ?_) fun a1 h => ?_
 ·refine sk ?_
  refine sN ?_
  refine bk 1 ?_
  refine sN ?_
  obtain ⟨a2,a3,h⟩ := Qdd h
  refine rss hc none [oN,oN,oc (.bool a2),oN] [(1,.ra 1 0),(3,I a0),(18,.bool (!a2))] (cq (K9w _ _ a3) K3j tv) ?_
  rcases is h with ⟨a4,h⟩ | ⟨a4,h⟩
  ·refine cF (!a2) (nF a4) ?_
   refine sk ?_
   refine K7f hc 1 [(1,.ra 1 0),(3,I a0),(4,I 0)] ?_
   refine bk 2 ?_
   obtain ⟨fl,a5,h⟩ := Qdd h
   have hL := Kal _ _ a5 c hc
   refine lp ?_
   rcases fl with ⟨⟩ | r
   ·refine WpL.into (e := (.exit 2)) (mkS [(1,.ra 1 0),(3,I a0)] [(1,K1t s0)]) hL ?_
    refine Qcr ?_
    refine K7e hc 3 [(1,.ra 1 0),(3,I (wr (a0 + 1)))] ?_
    refine Qcv ?_
    exact (spec_IsSystem_l2_ih _ _ h c hc)
   refine WpL.mono hL ?_
   rintro _ _ ⟨rfl,hfin⟩
   obtain rfl := os h
   exact ⟨rfl,hfin⟩
  refine cT (!a2) (nT a4) ?_
  refine rs0 hc 1 [(2,.bool false)] [] ?_
  refine rt ?_
  obtain rfl := os h
  exact re [true]
 refine xt 0 ?_
 refine Qcp ?_
 refine Qcw ?_
 obtain rfl := os h
 exact iv []
def Kar (s0 : K00) : Option (Bool) :=
 (K9e s0) >>= fun a0 =>
 if a0 = true then
 (Kao (s0,0)) >>= fun fl => match fl with
 | .inl () =>
  some true
 | .inr r =>
  some r
 else
 some false
def Kas (s0 : K00) (r : Bool) : Prop :=
 Q71 Tryz.prog 89 [K1u s0] (.bool r) []
theorem Kat : ∀ p r,Kar p = some r → Kas p r := by
 rintro s0 r h
 unfold Kar at h
 refine b0 Tryz.f89 B89 42 [(0,K1u s0)] fun c hc => ?_
 refine rs hc none [some (.new 1),oN] [(1,.ra 1 0)] [(1,K1t s0)] tv ?_
 refine sN ?_
 obtain ⟨a0,a1,h⟩ := Qdd h
 refine rss hc none [oN,oc (.bool a0),oN] [(1,.ra 1 0),(8,.bool (!a0))] (cq (K9g _ _ a1) K3c tv) ?_
 rcases is h with ⟨a2,h⟩ | ⟨a2,h⟩
 ·refine cF (!a0) (nF a2) ?_
  refine sk ?_
  refine sN ?_
  refine K7f hc 1 [(1,.ra 1 0),(3,I 0)] ?_
  refine bk 0 ?_
  obtain ⟨fl,a3,h⟩ := Qdd h
  have hL := Kaq _ _ a3 c hc
  refine lp ?_
  rcases fl with ⟨⟩ | r
  ·refine WpL.into (e := (.exit 0)) (mkS [] []) hL ?_
   refine Qcr ?_
   refine rs0 hc 1 [(2,.bool true)] [] ?_
   refine rt ?_
   obtain rfl := os h
   exact rq [true]
  refine WpL.mono hL ?_
  rintro _ _ ⟨rfl,hfin⟩
  obtain rfl := os h
  exact ⟨.inl rfl,hfin⟩
 refine cT (!a0) (nT a2) ?_
 refine rs0 hc 1 [(2,.bool false)] [] ?_
 refine rt ?_
 obtain rfl := os h
 exact rq [true]
def Kau (c0 : Int) : Option (Bool) :=
 ((
 (K97 (c0,3,18)) >>= fun a0 =>
 if a0 = true then
 some (true)
 else
 some ((c0 == 35))
 ) : Option (Bool)) >>= fun a1 =>
 some a1
def Kav (c0 : Int) (r : Bool) : Prop :=
 Q71 Tryz.prog 100 [I c0] (.bool r) []
theorem Kaw : ∀ p r,Kau p = some r → Kav p r := by
 rintro c0 r h
 unfold Kau at h
 refine b0 Tryz.f100 K3r 9 [(0,I c0)] fun c hc => ?_
 refine rs0 hc 1 [(0,I c0)] [] ?_
 refine sN ?_
 obtain ⟨a0,a1,h⟩ := Qdd h
 refine Wp.into (x := .normal) (mkS [(2,.bool a0)] []) ?_ ?_
 ·replace h := a1
  obtain ⟨a2,a3,h⟩ := Qdd h
  rcases is h with ⟨a4,h⟩ | ⟨a4,h⟩
  ·refine rg hc none [oN,oc (.bool a2),oN,o_,o_,oT,oN] [(2,.bool true)] [] (cq (K99 _ _ a3) K3a (ar 2 (neF a4) (ai a4 tv))) ?_
   obtain rfl := os h
   exact Qcz.mk
  refine rg hc none [oN,oc (.bool a2),oN,oN,oN,oF,oN] [(2,.bool (c0 == 35))] [] (cq (K99 _ _ a3) K3a (ar 3 a4 tv)) ?_
  obtain rfl := os h
  exact Qcz.mk
 clear a1
 refine rt ?_
 obtain rfl := os h
 exact rq [true]
def Kax (c0 : Int) : Option (Bool) :=
 ((
 (K97 (c0,19,34)) >>= fun a0 =>
 if a0 = true then
 some (true)
 else
 some ((c0 == 36))
 ) : Option (Bool)) >>= fun a1 =>
 some a1
def Kay (c0 : Int) (r : Bool) : Prop :=
 Q71 Tryz.prog 110 [I c0] (.bool r) []
theorem Kaz : ∀ p r,Kax p = some r → Kay p r := by
 rintro c0 r h
 unfold Kax at h
 refine b0 Tryz.f110 K3t 9 [(0,I c0)] fun c hc => ?_
 refine rs0 hc 1 [(0,I c0)] [] ?_
 refine sN ?_
 obtain ⟨a0,a1,h⟩ := Qdd h
 refine Wp.into (x := .normal) (mkS [(2,.bool a0)] []) ?_ ?_
 ·replace h := a1
  obtain ⟨a2,a3,h⟩ := Qdd h
  rcases is h with ⟨a4,h⟩ | ⟨a4,h⟩
  ·refine rg hc none [oN,oc (.bool a2),oN,o_,o_,oT,oN] [(2,.bool true)] [] (cq (K99 _ _ a3) K3a (ar 2 (neF a4) (ai a4 tv))) ?_
   obtain rfl := os h
   exact Qcz.mk
  refine rg hc none [oN,oc (.bool a2),oN,oN,oN,oF,oN] [(2,.bool (c0 == 36))] [] (cq (K99 _ _ a3) K3a (ar 3 a4 tv)) ?_
  obtain rfl := os h
  exact Qcz.mk
 clear a1
 refine rt ?_
 obtain rfl := os h
 exact rq [true]
def Kb0 (c0 : Int) : Option (Int) :=
 if (c0 == 0) = true then
 some 0
 else
 ((
 if (c0 == 1) = true then
 some (true)
 else
 if (c0 == 2) = true then
 some (true)
 else
 (Kau c0) >>= fun a0 =>
 some (a0)
 ) : Option (Bool)) >>= fun a1 =>
 if a1 = true then
 some 2
 else
 (Kax c0) >>= fun a2 =>
 if a2 = true then
 some 1
 else
 some (-1)
def Kb1 (c0 : Int) (r : Int) : Prop :=
 Q71 Tryz.prog 140 [I c0] (I r) []
theorem Kb2 : ∀ p r,Kb0 p = some r → Kb1 p r := by
 rintro c0 r h
 unfold Kb0 at h
 refine b0 Tryz.f140 K3v 20 [(0,I c0)] fun c hc => ?_
 refine rs0 hc 1 [(0,I c0)] [] ?_
 refine sN ?_
 refine bk 0 ?_
 refine rs0 hc 3 [(0,I c0),(3,.bool (c0 == 0))] [] ?_
 refine ic h (fun a0 h => ?_) fun a0 h => ?_
 ·refine rs0 hc 1 [(2,I 0)] [] ?_
  refine rt ?_
  obtain rfl := os h
  exact rq [true]
 refine sN ?_
 obtain ⟨a1,a2,h⟩ := Qdd h
 refine Wp.into (x := .normal) (mkS [(0,I c0),(6,.bool a1)] []) ?_ ?_
 ·replace h := a2
  rcases is h with ⟨a3,h⟩ | ⟨a3,h⟩
  ·refine rg hc none [oN,oN,oN,o_,o_,oT,oN,o_,o_,oT,oN] [(0,I c0),(6,.bool true)] [] (ar 2 (neF a3) (ai a3 (ar 2 nf (ai tt tv)))) ?_
   obtain rfl := os h
   exact Qcz.mk
  rcases is h with ⟨a4,h⟩ | ⟨a4,h⟩
  ·refine rg hc none [oN,oN,oN,oN,oN,oF,oN,o_,o_,oT,oN] [(0,I c0),(6,.bool true)] [] (ar 3 a3 (ar 2 (neF a4) (ai a4 tv))) ?_
   obtain rfl := os h
   exact Qcz.mk
  obtain ⟨a5,a6,h⟩ := Qdd h
  refine rg hc none [oN,oN,oN,oN,oN,oF,oN,oN,oc (.bool a5),oF,oN] [(0,I c0),(6,.bool a5)] [] (ar 3 a3 (ar 2 a4 (cq (Kaw _ _ a6) K3s (ai a4 tv)))) ?_
  obtain rfl := os h
  exact Qcz.mk
 clear a2
 refine ic h (fun a7 h => ?_) fun a7 h => ?_
 ·refine rs0 hc 1 [(2,I 2)] [] ?_
  refine rt ?_
  obtain rfl := os h
  exact rq [true]
 obtain ⟨a8,a9,h⟩ := Qdd h
 refine rs hc none [oN,oc (.bool a8),oN] [(17,.bool a8)] [] (cq (Kaz _ _ a9) K3u tv) ?_
 refine ic h (fun b1 h => ?_) fun b1 h => ?_
 ·refine rs0 hc 1 [(2,I 1)] [] ?_
  refine rt ?_
  obtain rfl := os h
  exact rq [true]
 refine sk ?_
 refine rs0 hc 1 [(2,I (-1))] [] ?_
 refine rt ?_
 obtain rfl := os h
 exact rq [true]
def Kb3 (c : Ctx) : (Unit) ⊕ (Int) → Exit → Q0a → Prop
 | .inl _ => Qcz c (.exit 0) (mkS [] [])
 | .inr r => Qd8 TIx Tryz.f138 [] (I r)
def Kb4 (p : (List Int) × Int × Int) : Option ((Unit) ⊕ (Int)) :=
 match p with
 | (ty0,a0,a1) =>
  if (decide (a1 < (ty0.length : Int))) = true then
  (idx ty0 a1) >>= fun a2 =>
  (Kb0 a2) >>= fun a3 =>
  if (decide (a3 < 0)) = true then
  some (.inr (-1))
  else
  if ((wr ((wr (a0 - 1)) + a3)) == 0) = true then
  some (.inr (wr (a1 + 1)))
  else
  Kb4 (ty0,(wr ((wr (a0 - 1)) + a3)),(wr (a1 + 1)))
  else
  some (.inl ())
 partial_fixpoint
def Kb5 (p : (List Int) × Int × Int) (fl : (Unit) ⊕ (Int)) : Prop :=
 match p with
 | (ty0,a0,a1) => ∀ c : Ctx,c.nt = 30 → WpL Tryz.prog c (cl (cl (cr (cl (cr (cr K3x)))))) (Kb3 c fl) (mkS [(0,sI ty0),(5,I a0),(6,I a1)] [])
theorem Kb6 : ∀ p r,Kb4 p = some r → Kb5 p r := by
 refine Kb4.partial_correctness Kb5 ?_
 rintro spec_l2End_l0_f spec_l2End_l0_ih ⟨ty0,a0,a1⟩ r h
 intro c hc
 refine WpL.step ?_
 refine sN ?_
 refine rs hc none [oN,oN,some (.eqv (.no) ⟨[(11,I (ty0.length : Int))],[],[]⟩),oN] [(0,sI ty0),(5,I a0),(6,I a1),(12,.bool (decide (a1 < (ty0.length : Int))))] [] (ai (Qdj (d := 11) I ty0) tv) ?_
 refine ic h (fun a2 h => ?_) fun a2 h => ?_
 ·refine sk ?_
  refine sN ?_
  refine bk 1 ?_
  obtain ⟨a3,a4,a5,a6,h⟩ := bq2 h
  refine rs hc none [oN,oN,some (.el (I a3)),oN,oc (I a5),oN] [(0,sI ty0),(5,I a0),(6,I a1),(7,I a5)] [] (ai (ix a4) (cq (Kb2 _ _ a6) K3w tv)) ?_
  refine sN ?_
  refine rs0 hc 2 [(0,sI ty0),(5,I a0),(6,I a1),(7,I a5),(21,.bool (decide (a5 < 0)))] [] ?_
  refine ic h (fun a7 h => ?_) fun a7 h => ?_
  ·refine rs0 hc 1 [(4,I (-1))] [] ?_
   refine rt ?_
   obtain rfl := os h
   exact re [true]
  refine sk ?_
  refine rs0 hc 5 [(0,sI ty0),(5,I (wr ((wr (a0 - 1)) + a5))),(6,I a1)] [] ?_
  refine rs0 hc 2 [(0,sI ty0),(5,I (wr ((wr (a0 - 1)) + a5))),(6,I a1),(27,.bool ((wr ((wr (a0 - 1)) + a5)) == 0))] [] ?_
  refine ic h (fun a8 h => ?_) fun a8 h => ?_
  ·refine rs0 hc 3 [(4,I (wr (a1 + 1)))] [] ?_
   refine rt ?_
   obtain rfl := os h
   exact re [true]
  refine sk ?_
  refine rg0 hc 3 [(0,sI ty0),(5,I (wr ((wr (a0 - 1)) + a5))),(6,I (wr (a1 + 1)))] [] ?_
  refine Qcv ?_
  exact (spec_l2End_l0_ih _ _ h c hc)
 refine xt 0 ?_
 refine Qcp ?_
 refine Qcw ?_
 obtain rfl := os h
 exact iv []
def Kb7 (p : (List Int) × Int) : Option (Int) :=
 match p with
 | (ty0,at1) =>
  (Kb4 (ty0,1,at1)) >>= fun fl => match fl with
  | .inl () =>
   some (-1)
  | .inr r =>
   some r
def Kb8 (p : (List Int) × Int) (r : Int) : Prop :=
 match p with
 | (ty0,at1) => Q71 Tryz.prog 138 [sI ty0,I at1] (I r) []
theorem Kb9 : ∀ p r,Kb7 p = some r → Kb8 p r := by
 rintro ⟨ty0,at1⟩ r h
 unfold Kb7 at h
 refine b0 Tryz.f138 K3x 30 [(0,sI ty0),(1,I at1)] fun c hc => ?_
 refine rs0 hc 1 [(0,sI ty0),(1,I at1)] [] ?_
 refine rs0 hc 1 [(0,sI ty0),(1,I at1),(5,I 1)] [] ?_
 refine sN ?_
 refine rs0 hc 2 [(0,sI ty0),(5,I 1),(6,I at1)] [] ?_
 refine bk 0 ?_
 obtain ⟨fl,a0,h⟩ := Qdd h
 have hL := Kb6 _ _ a0 c hc
 refine lp ?_
 rcases fl with ⟨⟩ | r
 ·refine WpL.into (e := (.exit 0)) (mkS [] []) hL ?_
  refine Qcr ?_
  refine rs0 hc 1 [(4,I (-1))] [] ?_
  refine rt ?_
  obtain rfl := os h
  exact rq [true]
 refine WpL.mono hL ?_
 rintro _ _ ⟨rfl,hfin⟩
 obtain rfl := os h
 exact ⟨.inl rfl,hfin⟩
def Kba (ty0 : (List Int)) : Option (Bool) :=
 ((
 if (decide ((ty0.length : Int) ≤ 40)) = true then
 (Kb7 (ty0,0)) >>= fun a0 =>
 if (a0 == (ty0.length : Int)) = true then
 some ((decide ((ty0.length : Int) > 0)))
 else
 some (false)
 else
 some (false)
 ) : Option (Bool)) >>= fun a1 =>
 some a1
def Kbb (ty0 : (List Int)) (r : Bool) : Prop :=
 Q71 Tryz.prog 107 [sI ty0] (.bool r) []
theorem Kbc : ∀ p r,Kba p = some r → Kbb p r := by
 rintro ty0 r h
 unfold Kba at h
 refine b0 Tryz.f107 K3z 18 [(0,sI ty0)] fun c hc => ?_
 refine rs0 hc 1 [(0,sI ty0)] [] ?_
 refine sN ?_
 obtain ⟨a0,a1,h⟩ := Qdd h
 refine Wp.into (x := .normal) (mkS [(2,.bool a0)] []) ?_ ?_
 ·replace h := a1
  rcases is h with ⟨a2,h⟩ | ⟨a2,h⟩
  ·obtain ⟨a3,a4,h⟩ := Qdd h
   rcases is h with ⟨a5,h⟩ | ⟨a5,h⟩
   ·refine rg hc none [oN,some (.eqv (.no) ⟨[(4,I (ty0.length : Int))],[],[]⟩),oN,oN,oN,oc (I a3),oN,some (.eqv (.no) ⟨[(10,I (ty0.length : Int))],[],[]⟩),oN,oT,oN,oN,some (.eqv (.no) ⟨[(15,I (ty0.length : Int))],[],[]⟩),oN,oT,oN] [(2,.bool (decide ((ty0.length : Int) > 0)))] [] (ai (Qdj (d := 4) I ty0) (ar 2 a2 (cq (Kb9 _ _ a4) K3y (ar 2 a2 (ai (Qdj (d := 10) I ty0) (ar 2 a2 (ar 2 a5 (ai (Qdj (d := 15) I ty0) (ar 2 a5 tv))))))))) ?_
    obtain rfl := os h
    exact Qcz.mk
   refine rg hc none [oN,some (.eqv (.no) ⟨[(4,I (ty0.length : Int))],[],[]⟩),oN,oN,oN,oc (I a3),oN,some (.eqv (.no) ⟨[(10,I (ty0.length : Int))],[],[]⟩),oN,oT,oN,o_,o_,o_,oF,oN] [(2,.bool false)] [] (ai (Qdj (d := 4) I ty0) (ar 2 a2 (cq (Kb9 _ _ a4) K3y (ar 2 a2 (ai (Qdj (d := 10) I ty0) (ar 2 a2 (ar 3 (neT a5) (ai a5 tv)))))))) ?_
   obtain rfl := os h
   exact Qcz.mk
  refine rg hc none [oN,some (.eqv (.no) ⟨[(4,I (ty0.length : Int))],[],[]⟩),oN,oN,o_,o_,o_,o_,o_,oF,oN,o_,o_,o_,oF,oN] [(2,.bool false)] [] (ai (Qdj (d := 4) I ty0) (ar 5 (neT a2) (ai a2 (ar 3 (neT (rfl : false = false)) (ai (rfl : false = false) tv))))) ?_
  obtain rfl := os h
  exact Qcz.mk
 clear a1
 refine rt ?_
 obtain rfl := os h
 exact rq [true]
def Kbd (c0 : Int) : Option (Int) :=
 if (decide (c0 ≥ 35)) = true then
 some (-1)
 else
 if (decide (c0 ≥ 19)) = true then
 some (wr (c0 - 19))
 else
 some (wr (c0 - 3))
def Kbe (c0 : Int) (r : Int) : Prop :=
 Q71 Tryz.prog 102 [I c0] (I r) []
theorem Kbf : ∀ p r,Kbd p = some r → Kbe p r := by
 rintro c0 r h
 unfold Kbd at h
 refine b0 Tryz.f102 K41 13 [(0,I c0)] fun c hc => ?_
 refine rs0 hc 1 [(0,I c0)] [] ?_
 refine sN ?_
 refine bk 0 ?_
 refine rs0 hc 3 [(0,I c0),(3,.bool (decide (c0 ≥ 35)))] [] ?_
 refine ic h (fun a0 h => ?_) fun a0 h => ?_
 ·refine rs0 hc 1 [(2,I (-1))] [] ?_
  refine rt ?_
  obtain rfl := os h
  exact rq [true]
 refine rs0 hc 3 [(0,I c0),(6,.bool (decide (c0 ≥ 19)))] [] ?_
 refine ic h (fun a1 h => ?_) fun a1 h => ?_
 ·refine rs0 hc 3 [(2,I (wr (c0 - 19)))] [] ?_
  refine rt ?_
  obtain rfl := os h
  exact rq [true]
 refine sk ?_
 refine rs0 hc 3 [(2,I (wr (c0 - 3)))] [] ?_
 refine rt ?_
 obtain rfl := os h
 exact rq [true]
def Kbg (c : Ctx) (ty0 : List Int) (size1 : Int) (closed2 : Bool) (a0 : Int) : (Unit) ⊕ (Bool) → Exit → Q0a → Prop
 | .inl _ => Qcz c .normal (mkS [(0,sI ty0),(1,I size1),(2,.bool closed2),(7,I a0)] [])
 | .inr r => Qd8 TIx Tryz.f108 [] (.bool r)
def Kbh (c : Ctx) : (Unit) ⊕ (Bool) → Exit → Q0a → Prop
 | .inl _ => Qcz c (.exit 0) (mkS [] [])
 | .inr r => Qd8 TIx Tryz.f108 [] (.bool r)
def Kbi (p : (List Int) × Int × Bool × Int) : Option ((Unit) ⊕ (Bool)) :=
 match p with
 | (ty0,size1,closed2,a0) =>
  if (decide (a0 < (ty0.length : Int))) = true then
  ((
   (idx ty0 a0) >>= fun a1 =>
   (Kb0 a1) >>= fun a2 =>
   if (decide (a2 > 0)) = true then
   (idx ty0 a0) >>= fun a3 =>
   some ((decide (a3 > 2)))
   else
   some (false)
  ) : Option (Bool)) >>= fun a4 =>
  ((
   if a4 = true then
   (idx ty0 a0) >>= fun a5 =>
   (Kbd a5) >>= fun a6 =>
   ((
   if (decide (a6 ≥ size1)) = true then
   some (true)
   else
   if closed2 = true then
   some ((decide (a6 < 0)))
   else
   some (false)
   ) : Option (Bool)) >>= fun a7 =>
   if a7 = true then
   some (.inr false)
   else
   some (.inl ())
   else
   some (.inl ())) : Option ((Unit) ⊕ (Bool))) >>= fun fl => match fl with
  | .inl () =>
   Kbi (ty0,size1,closed2,(wr (a0 + 1)))
  | .inr r =>
   some (.inr r)
  else
  some (.inl ())
 partial_fixpoint
def Kbj (p : (List Int) × Int × Bool × Int) (fl : (Unit) ⊕ (Bool)) : Prop :=
 match p with
 | (ty0,size1,closed2,a0) => ∀ c : Ctx,c.nt = 43 → WpL Tryz.prog c (cl (cl (cr (cl (cr K43))))) (Kbh c fl) (mkS [(0,sI ty0),(1,I size1),(2,.bool closed2),(7,I a0)] [])
theorem Kbk : ∀ p r,Kbi p = some r → Kbj p r := by
 refine Kbi.partial_correctness Kbj ?_
 rintro spec_l2Graded_l0_f spec_l2Graded_l0_ih ⟨ty0,size1,closed2,a0⟩ r h
 intro c hc
 refine WpL.step ?_
 refine sN ?_
 refine rs hc none [oN,oN,some (.eqv (.no) ⟨[(11,I (ty0.length : Int))],[],[]⟩),oN] [(0,sI ty0),(1,I size1),(2,.bool closed2),(7,I a0),(12,.bool (decide (a0 < (ty0.length : Int))))] [] (ai (Qdj (d := 11) I ty0) tv) ?_
 refine ic h (fun a1 h => ?_) fun a1 h => ?_
 ·refine sk ?_
  refine sN ?_
  refine bk 1 ?_
  refine sN ?_
  obtain ⟨a2,a3,h⟩ := Qdd h
  refine Wp.into (x := .normal) (mkS [(0,sI ty0),(1,I size1),(2,.bool closed2),(7,I a0),(27,.bool a2)] []) ?_ ?_
  ·replace h := a3
   obtain ⟨a4,a5,a6,a7,h⟩ := bq2 h
   rcases is h with ⟨a8,h⟩ | ⟨a8,h⟩
   ·obtain ⟨a9,b1,h⟩ := Qdd h
    refine rg hc none [oN,oN,some (.el (I a4)),oN,oc (I a6),oN,oN,oN,oN,some (.el (I a9)),oN,oN,oT] [(0,sI ty0),(1,I size1),(2,.bool closed2),(7,I a0),(27,.bool (decide (a9 > 2)))] [] (ai (ix a5) (cq (Kb2 _ _ a7) K3w (ar 3 a8 (ai (ix b1) (ar 3 a8 tv))))) ?_
    obtain rfl := os h
    exact Qcz.mk
   refine rg hc none [oN,oN,some (.el (I a4)),oN,oc (I a6),oN,oN,o_,o_,o_,o_,o_,oF] [(0,sI ty0),(1,I size1),(2,.bool closed2),(7,I a0),(27,.bool false)] [] (ai (ix a5) (cq (Kb2 _ _ a7) K3w (ar 5 (neT a8) (ai a8 tv)))) ?_
   obtain rfl := os h
   exact Qcz.mk
  clear a3
  obtain ⟨fl,b2,h⟩ := Qdd h
  refine flw (Kbg c ty0 size1 closed2 a0 fl) ?_ (fun hF => ?_)
  ·replace h := b2
   refine ic h (fun b3 h => ?_) fun b3 h => ?_
   ·obtain ⟨b4,b5,b6,b7,h⟩ := bq2 h
    refine rs hc none [oN,oN,some (.el (I b4)),oN,oc (I b6),oN] [(0,sI ty0),(1,I size1),(2,.bool closed2),(7,I a0),(8,I b6)] [] (ai (ix b5) (cq (Kbf _ _ b7) K42 tv)) ?_
    refine sN ?_
    obtain ⟨b8,b9,h⟩ := Qdd h
    refine Wp.into (x := .normal) (mkS [(0,sI ty0),(1,I size1),(2,.bool closed2),(7,I a0),(42,.bool b8)] []) ?_ ?_
    ·replace h := b9
     rcases is h with ⟨c0,h⟩ | ⟨c0,h⟩
     ·refine rg hc none [oN,oN,oN,oN,o_,o_,o_,o_,o_,oT] [(0,sI ty0),(1,I size1),(2,.bool closed2),(7,I a0),(42,.bool true)] [] (ar 3 (neF c0) (ai c0 tv)) ?_
      obtain rfl := os h
      exact Qcz.mk
     rcases is h with ⟨c1,h⟩ | ⟨c1,h⟩
     ·refine rg hc none [oN,oN,oN,oN,oN,oN,oN,oN,oT,oF] [(0,sI ty0),(1,I size1),(2,.bool closed2),(7,I a0),(42,.bool (decide (b6 < 0)))] [] (ar 2 c0 (ar 2 c1 (ac c0 c1 c0 tv))) ?_
      obtain rfl := os h
      exact Qcz.mk
     refine rg hc none [oN,oN,oN,oN,oN,oN,o_,o_,oF,oF] [(0,sI ty0),(1,I size1),(2,.bool closed2),(7,I a0),(42,.bool false)] [] (ar 2 c0 (ar 2 (neT c1) (ac c0 c1 c0 tv))) ?_
     obtain rfl := os h
     exact Qcz.mk
    clear b9
    refine ic h (fun c2 h => ?_) fun c2 h => ?_
    ·refine rs0 hc 1 [(6,.bool false)] [] ?_
     refine rt ?_
     obtain rfl := os h
     exact re [true]
    refine sk ?_
    obtain rfl := os h
    exact iv []
   refine sk ?_
   obtain rfl := os h
   exact iv []
  rcases fl with ⟨⟩ | r
  ·refine Wp.into (x := .normal) (mkS [(0,sI ty0),(1,I size1),(2,.bool closed2),(7,I a0)] []) hF ?_
   refine rg0 hc 3 [(0,sI ty0),(1,I size1),(2,.bool closed2),(7,I (wr (a0 + 1)))] [] ?_
   refine Qcv ?_
   exact (spec_l2Graded_l0_ih _ _ h c hc)
  refine Wp.mono hF ?_
  rintro _ _ ⟨rfl,hfin⟩
  obtain rfl := os h
  exact ⟨rfl,hfin⟩
 refine xt 0 ?_
 refine Qcp ?_
 refine Qcw ?_
 obtain rfl := os h
 exact iv []
def Kbl (p : (List Int) × Int × Bool) : Option (Bool) :=
 match p with
 | (ty0,size1,closed2) =>
  (Kbi (ty0,size1,closed2,0)) >>= fun fl => match fl with
  | .inl () =>
   some true
  | .inr r =>
   some r
def Kbm (p : (List Int) × Int × Bool) (r : Bool) : Prop :=
 match p with
 | (ty0,size1,closed2) => Q71 Tryz.prog 108 [sI ty0,I size1,.bool closed2] (.bool r) []
theorem Kbn : ∀ p r,Kbl p = some r → Kbm p r := by
 rintro ⟨ty0,size1,closed2⟩ r h
 unfold Kbl at h
 refine b0 Tryz.f108 K43 43 [(0,sI ty0),(1,I size1),(2,.bool closed2)] fun c hc => ?_
 refine rs0 hc 1 [(0,sI ty0),(1,I size1),(2,.bool closed2)] [] ?_
 refine sN ?_
 refine rs0 hc 1 [(0,sI ty0),(1,I size1),(2,.bool closed2),(7,I 0)] [] ?_
 refine bk 0 ?_
 obtain ⟨fl,a0,h⟩ := Qdd h
 have hL := Kbk _ _ a0 c hc
 refine lp ?_
 rcases fl with ⟨⟩ | r
 ·refine WpL.into (e := (.exit 0)) (mkS [] []) hL ?_
  refine Qcr ?_
  refine rs0 hc 1 [(6,.bool true)] [] ?_
  refine rt ?_
  obtain rfl := os h
  exact rq [true]
 refine WpL.mono hL ?_
 rintro _ _ ⟨rfl,hfin⟩
 obtain rfl := os h
 exact ⟨.inl rfl,hfin⟩
def Kbo (c : Ctx) : (Unit) ⊕ (Bool) → Exit → Q0a → Prop
 | .inl _ => Qcz c (.exit 0) (mkS [] [])
 | .inr r => Qd8 TIx Tryz.f90 [] (.bool r)
def Kbp (p : K00 × LL × Int) : Option ((Unit) ⊕ (Bool)) :=
 match p with
 | (s0,ctx1,a0) =>
  if (decide (a0 < (ctx1.length : Int))) = true then
  ((
  (idx ctx1 a0) >>= fun a1 =>
  (Kba a1) >>= fun a2 =>
  if a2 = true then
  (idx ctx1 a0) >>= fun a3 =>
  (Kbl (a3,s0.fSize,true)) >>= fun a4 =>
  some ((!a4))
  else
  some (true)
  ) : Option (Bool)) >>= fun a5 =>
  if a5 = true then
  some (.inr false)
  else
  Kbp (s0,ctx1,(wr (a0 + 1)))
  else
  some (.inl ())
 partial_fixpoint
def Kbq (p : K00 × LL × Int) (fl : (Unit) ⊕ (Bool)) : Prop :=
 match p with
 | (s0,ctx1,a0) => ∀ c : Ctx,c.nt = 31 → WpL Tryz.prog c (cl (cl (cr (cl (cr (cr B90)))))) (Kbo c fl) (mkS [(1,sL ctx1),(2,.ra 1 0),(5,I a0)] [(1,K1t s0)])
theorem Kbr : ∀ p r,Kbp p = some r → Kbq p r := by
 refine Kbp.partial_correctness Kbq ?_
 rintro spec_l3Context_l0_f spec_l3Context_l0_ih ⟨s0,ctx1,a0⟩ r h
 intro c hc
 refine WpL.step ?_
 refine sN ?_
 refine rss hc none [oN,oN,some (.eqv (.no) ⟨[(11,I (ctx1.length : Int))],[],[]⟩),oN] [(1,sL ctx1),(2,.ra 1 0),(5,I a0),(12,.bool (decide (a0 < (ctx1.length : Int))))] (ai (Qdj (d := 11) K11 ctx1) tv) ?_
 refine ic h (fun a1 h => ?_) fun a1 h => ?_
 ·refine sk ?_
  refine sN ?_
  refine bk 1 ?_
  refine sN ?_
  obtain ⟨a2,a3,h⟩ := Qdd h
  refine Wp.into (x := .normal) (mkS [(1,sL ctx1),(2,.ra 1 0),(5,I a0),(30,.bool a2)] [(1,K1t s0)]) ?_ ?_
  ·replace h := a3
   obtain ⟨a4,a5,a6,a7,h⟩ := bq2 h
   rcases is h with ⟨a8,h⟩ | ⟨a8,h⟩
   ·obtain ⟨a9,b1,b2,b3,h⟩ := bq2 h
    refine rgs hc Kan [oN,oN,some (.el (sI a4)),oN,oc (.bool a6),oN,oN,oN,oN,some (.el (sI a9)),oN,oN,oN,oc (.bool b2),oN,oF] [(1,sL ctx1),(2,.ra 1 0),(5,I a0),(30,.bool (!b2))] (ai (xL a5) (cq (Kbc _ _ a7) K40 (ar 3 (nF a8) (ai (xL b1) (ar 4 (nF a8) (cq (Kbn _ _ b3) K44 (ar 2 (nF a8) tv))))))) ?_
    obtain rfl := os h
    exact Qcz.mk
   refine rgs hc Kan [oN,oN,some (.el (sI a4)),oN,oc (.bool a6),oN,oN,o_,o_,o_,o_,o_,o_,o_,o_,oT] [(1,sL ctx1),(2,.ra 1 0),(5,I a0),(30,.bool true)] (ai (xL a5) (cq (Kbc _ _ a7) K40 (ar 8 (neF (nT a8)) (ai (nT a8) tv)))) ?_
   obtain rfl := os h
   exact Qcz.mk
  clear a3
  refine ic h (fun b4 h => ?_) fun b4 h => ?_
  ·refine rs0 hc 1 [(4,.bool false)] [] ?_
   refine rt ?_
   obtain rfl := os h
   exact re [true]
  refine sk ?_
  refine K7e hc 3 [(1,sL ctx1),(2,.ra 1 0),(5,I (wr (a0 + 1)))] ?_
  refine Qcv ?_
  exact (spec_l3Context_l0_ih _ _ h c hc)
 refine xt 0 ?_
 refine Qcp ?_
 refine Qcw ?_
 obtain rfl := os h
 exact iv []
def Kbs (p : K00 × LL) : Option (Bool) :=
 match p with
 | (s0,ctx1) =>
  if (decide ((ctx1.length : Int) > 8)) = true then
  some false
  else
  (Kbp (s0,ctx1,0)) >>= fun fl => match fl with
  | .inl () =>
   some true
  | .inr r =>
   some r
def Kbt (p : K00 × LL) (r : Bool) : Prop :=
 match p with
 | (s0,ctx1) => Q71 Tryz.prog 90 [K1u s0,sL ctx1] (.bool r) []
theorem Kbu : ∀ p r,Kbs p = some r → Kbt p r := by
 rintro ⟨s0,ctx1⟩ r h
 unfold Kbs at h
 refine b0 Tryz.f90 B90 31 [(0,K1u s0),(1,sL ctx1)] fun c hc => ?_
 refine rs hc none [some (.new 1),oN] [(1,sL ctx1),(2,.ra 1 0)] [(1,K1t s0)] tv ?_
 refine sN ?_
 refine rss hc none [oN,some (.eqv (.no) ⟨[(7,I (ctx1.length : Int))],[],[]⟩),oN] [(1,sL ctx1),(2,.ra 1 0),(8,.bool (decide ((ctx1.length : Int) > 8)))] (ai (Qdj (d := 7) K11 ctx1) tv) ?_
 refine ic h (fun a0 h => ?_) fun a0 h => ?_
 ·refine rs0 hc 1 [(4,.bool false)] [] ?_
  refine rt ?_
  obtain rfl := os h
  exact rq [true]
 refine sk ?_
 refine sN ?_
 refine K7f hc 1 [(1,sL ctx1),(2,.ra 1 0),(5,I 0)] ?_
 refine bk 0 ?_
 obtain ⟨fl,a1,h⟩ := Qdd h
 have hL := Kbr _ _ a1 c hc
 refine lp ?_
 rcases fl with ⟨⟩ | r
 ·refine WpL.into (e := (.exit 0)) (mkS [] []) hL ?_
  refine Qcr ?_
  refine rs0 hc 1 [(4,.bool true)] [] ?_
  refine rt ?_
  obtain rfl := os h
  exact rq [true]
 refine WpL.mono hL ?_
 rintro _ _ ⟨rfl,hfin⟩
 obtain rfl := os h
 exact ⟨.inl rfl,hfin⟩
def Kbv (c : Ctx) : Int → Exit → Q0a → Prop
 | a0 => Qcz c (.exit 0) (mkS [(1,I a0)] [])
mutual
def Kbw (p : K01 × Int) : Option (Int) :=
 match p with
 | (t0,left1) =>
  (Kbx (t0,(wr (left1 - 1)),0)) >>= fun a0 =>
  some a0
 partial_fixpoint
def Kbx (p : K01 × Int × Int) : Option (Int) :=
 match p with
 | (t0,a0,a1) =>
  ((
  if (decide (a1 < (t0.fKids.length : Int))) = true then
  some ((decide (a0 ≥ 0)))
  else
  some (false)
  ) : Option (Bool)) >>= fun a2 =>
  if a2 = true then
  (idx t0.fKids a1) >>= fun a3 =>
  (Kbw (a3,a0)) >>= fun a4 =>
  Kbx (t0,a4,(wr (a1 + 1)))
  else
  some (a0)
 partial_fixpoint
end
def Kby (p : K01 × Int) (r : Int) : Prop :=
 match p with
 | (t0,left1) => Q71 Tryz.prog 105 [K1w t0,I left1] (I r) []
def Kbz (p : K01 × Int × Int) (fl : Int) : Prop :=
 match p with
 | (t0,a0,a1) => ∀ c : Ctx,c.nt = 27 → WpL Tryz.prog c (cl (cl (cr (cl (cr (cr K46)))))) (Kbv c fl) (mkS [(1,I a0),(2,.ra 1 0),(5,I a1)] [(1,K1v t0)])
theorem Kc0 : (∀ p r,Kbw p = some r → Kby p r) ∧ (∀ p r,Kbx p = some r → Kbz p r) := by
 refine Kbw.mutual_partial_correctness Kby Kbz ?_ ?_
 ·rintro spec_l2Left_l0_f spec_l2Left_l0_ih ⟨t0,left1⟩ r h
  refine b0 Tryz.f105 K46 27 [(0,K1w t0),(1,I left1)] fun c hc => ?_
  refine rs hc none [some (.new 1),oN] [(1,I left1),(2,.ra 1 0)] [(1,K1v t0)] tv ?_
  refine K7f hc 3 [(1,I (wr (left1 - 1))),(2,.ra 1 0)] ?_
  refine sN ?_
  refine K7f hc 1 [(1,I (wr (left1 - 1))),(2,.ra 1 0),(5,I 0)] ?_
  refine bk 0 ?_
  obtain ⟨a0,a1,h⟩ := Qdd h
  have hL := spec_l2Left_l0_ih _ _ a1 c hc
  refine lp ?_
  refine WpL.into (e := (.exit 0)) (mkS [(1,I a0)] []) hL ?_
  refine Qcr ?_
  refine rs0 hc 2 [(4,I a0)] [] ?_
  refine rt ?_
  obtain rfl := os h
  exact rq [true]
 ·rintro spec_l2Left_f spec_l2Left_l0_f spec_l2Left_ih spec_l2Left_l0_ih ⟨t0,a2,a3⟩ r h
  intro c hc
  refine WpL.step ?_
  refine sN ?_
  refine sN ?_
  obtain ⟨a4,a5,h⟩ := Qdd h
  refine Wp.into (x := .normal) (mkS [(1,I a2),(2,.ra 1 0),(5,I a3),(16,.bool a4)] [(1,K1v t0)]) ?_ ?_
  ·replace h := a5
   rcases is h with ⟨a6,h⟩ | ⟨a6,h⟩
   ·refine rgs hc none [oN,oN,oN,some (.eqv (.no) ⟨[(11,I (t0.fKids.length : Int))],[],[]⟩),oN,oN,oN,oN,oT] [(1,I a2),(2,.ra 1 0),(5,I a3),(16,.bool (decide (a2 ≥ 0)))] (ai (Qdj (d := 11) K0h t0.fKids) (ar 3 a6 tv)) ?_
    obtain rfl := os h
    exact Qcz.mk
   refine rgs hc none [oN,oN,oN,some (.eqv (.no) ⟨[(11,I (t0.fKids.length : Int))],[],[]⟩),oN,oN,o_,o_,oF] [(1,I a2),(2,.ra 1 0),(5,I a3),(16,.bool false)] (ai (Qdj (d := 11) K0h t0.fKids) (ar 2 (neT a6) (ai a6 tv))) ?_
   obtain rfl := os h
   exact Qcz.mk
  clear a5
  refine ic h (fun a7 h => ?_) fun a7 h => ?_
  ·refine sk ?_
   refine sN ?_
   refine bk 1 ?_
   obtain ⟨a8,a9,b1,b2,h⟩ := bq2 h
   refine rgs hc none [oN,oN,oN,some (.el (K1w a8)),oN,oN,oc (I b1),oN] [(1,I b1),(2,.ra 1 0),(5,I a3)] (ai (Qdh a9 (K0o a8)) (cq (spec_l2Left_ih _ _ b2) K47 tv)) ?_
   refine K7e hc 3 [(1,I b1),(2,.ra 1 0),(5,I (wr (a3 + 1)))] ?_
   refine Qcv ?_
   exact (spec_l2Left_l0_ih _ _ h c hc)
  refine xt 0 ?_
  refine Qcp ?_
  refine Qcw ?_
  obtain rfl := os h
  exact iv []
theorem Kc1 : ∀ p r,Kbw p = some r → Kby p r := Kc0.1
theorem Kc2 : ∀ p r,Kbx p = some r → Kbz p r := Kc0.2
def Kc3 (op0 : Int) : Option (Int) :=
 (K97 (op0,0,12)) >>= fun a0 =>
 if a0 = true then
 (idx [0,0,2,3,2,2,1,1,3,1,2,1,2] op0) >>= fun a1 =>
 some a1
 else
 some (-1)
def Kc4 (op0 : Int) (r : Int) : Prop :=
 Q71 Tryz.prog 149 [I op0] (I r) []
theorem Kc5 : ∀ p r,Kc3 p = some r → Kc4 p r := by
 rintro op0 r h
 unfold Kc3 at h
 refine b0 Tryz.f149 K48 10 [(0,I op0)] fun c hc => ?_
 refine rs0 hc 1 [(0,I op0)] [] ?_
 refine sN ?_
 obtain ⟨a0,a1,h⟩ := Qdd h
 refine rs hc none [oN,oc (.bool a0),oN] [(0,I op0),(5,.bool (!a0))] [] (cq (K99 _ _ a1) K3a tv) ?_
 rcases is h with ⟨a2,h⟩ | ⟨a2,h⟩
 ·refine cF (!a0) (nF a2) ?_
  refine sk ?_
  obtain ⟨a3,a4,h⟩ := Qdd h
  refine rs hc none [some (.mk 1 true),oN,oN,some (.el (I a3)),oN] [(2,I a3)] [] (ab (Qdi (enc := I) a4) (ix a4).2 tv) ?_
  refine rt ?_
  obtain rfl := os h
  exact rq [true]
 refine cT (!a0) (nT a2) ?_
 refine rs0 hc 1 [(2,I (-1))] [] ?_
 refine rt ?_
 obtain rfl := os h
 exact rq [true]
def Kc6 (op0 : Int) : Option (Bool) :=
 ((
 if (op0 == 5) = true then
 some (true)
 else
 if (op0 == 8) = true then
 some (true)
 else
 if (op0 == 9) = true then
 some (true)
 else
 if (op0 == 11) = true then
 some (true)
 else
 some ((op0 == 12))
 ) : Option (Bool)) >>= fun a0 =>
 some a0
def Kc7 (op0 : Int) (r : Bool) : Prop :=
 Q71 Tryz.prog 150 [I op0] (.bool r) []
theorem Kc8 : ∀ p r,Kc6 p = some r → Kc7 p r := by
 rintro op0 r h
 unfold Kc6 at h
 refine b0 Tryz.f150 K4a 21 [(0,I op0)] fun c hc => ?_
 refine rs0 hc 1 [(0,I op0)] [] ?_
 refine sN ?_
 obtain ⟨a0,a1,h⟩ := Qdd h
 refine Wp.into (x := .normal) (mkS [(2,.bool a0)] []) ?_ ?_
 ·replace h := a1
  rcases is h with ⟨a2,h⟩ | ⟨a2,h⟩
  ·refine rg hc none [oN,oN,oN,o_,o_,oT,oN,o_,o_,oT,oN,o_,o_,oT,oN,o_,o_,oT,oN] [(2,.bool true)] [] (ar 2 (neF a2) (ai a2 (ar 2 nf (ai tt (ar 2 nf (ai tt (ar 2 nf (ai tt tv)))))))) ?_
   obtain rfl := os h
   exact Qcz.mk
  rcases is h with ⟨a3,h⟩ | ⟨a3,h⟩
  ·refine rg hc none [oN,oN,oN,oN,oN,oF,oN,o_,o_,oT,oN,o_,o_,oT,oN,o_,o_,oT,oN] [(2,.bool true)] [] (ar 3 a2 (ar 2 (neF a3) (ai a3 (ar 2 nf (ai tt (ar 2 nf (ai tt tv))))))) ?_
   obtain rfl := os h
   exact Qcz.mk
  rcases is h with ⟨a4,h⟩ | ⟨a4,h⟩
  ·refine rg hc none [oN,oN,oN,oN,oN,oF,oN,oN,oN,oF,oN,o_,o_,oT,oN,o_,o_,oT,oN] [(2,.bool true)] [] (ar 3 a2 (ar 3 a3 (ar 2 (neF a4) (ai a4 (ar 2 nf (ai tt tv)))))) ?_
   obtain rfl := os h
   exact Qcz.mk
  rcases is h with ⟨a5,h⟩ | ⟨a5,h⟩
  ·refine rg hc none [oN,oN,oN,oN,oN,oF,oN,oN,oN,oF,oN,oN,oN,oF,oN,o_,o_,oT,oN] [(2,.bool true)] [] (ar 3 a2 (ar 3 a3 (ar 3 a4 (ar 2 (neF a5) (ai a5 tv))))) ?_
   obtain rfl := os h
   exact Qcz.mk
  refine rg hc none [oN,oN,oN,oN,oN,oF,oN,oN,oN,oF,oN,oN,oN,oF,oN,oN,oN,oF,oN] [(2,.bool (op0 == 12))] [] (ar 3 a2 (ar 3 a3 (ar 3 a4 (ar 3 a5 tv)))) ?_
  obtain rfl := os h
  exact Qcz.mk
 clear a1
 refine rt ?_
 obtain rfl := os h
 exact rq [true]
def Kc9 (op0 : Int) : Option (Bool) :=
 ((
 if (op0 == 6) = true then
 some (true)
 else
 if (op0 == 7) = true then
 some (true)
 else
 some ((op0 == 9))
 ) : Option (Bool)) >>= fun a0 =>
 some a0
def Kca (op0 : Int) (r : Bool) : Prop :=
 Q71 Tryz.prog 151 [I op0] (.bool r) []
theorem Kcb : ∀ p r,Kc9 p = some r → Kca p r := by
 rintro op0 r h
 unfold Kc9 at h
 refine b0 Tryz.f151 K4c 13 [(0,I op0)] fun c hc => ?_
 refine rs0 hc 1 [(0,I op0)] [] ?_
 refine sN ?_
 obtain ⟨a0,a1,h⟩ := Qdd h
 refine Wp.into (x := .normal) (mkS [(2,.bool a0)] []) ?_ ?_
 ·replace h := a1
  rcases is h with ⟨a2,h⟩ | ⟨a2,h⟩
  ·refine rg hc none [oN,oN,oN,o_,o_,oT,oN,o_,o_,oT,oN] [(2,.bool true)] [] (ar 2 (neF a2) (ai a2 (ar 2 nf (ai tt tv)))) ?_
   obtain rfl := os h
   exact Qcz.mk
  rcases is h with ⟨a3,h⟩ | ⟨a3,h⟩
  ·refine rg hc none [oN,oN,oN,oN,oN,oF,oN,o_,o_,oT,oN] [(2,.bool true)] [] (ar 3 a2 (ar 2 (neF a3) (ai a3 tv))) ?_
   obtain rfl := os h
   exact Qcz.mk
  refine rg hc none [oN,oN,oN,oN,oN,oF,oN,oN,oN,oF,oN] [(2,.bool (op0 == 9))] [] (ar 3 a2 (ar 3 a3 tv)) ?_
  obtain rfl := os h
  exact Qcz.mk
 clear a1
 refine rt ?_
 obtain rfl := os h
 exact rq [true]
def Kcc (c : Ctx) (t0 : K01) (size2 : Int) (closed3 : Bool) : (Unit) ⊕ (Bool) → Exit → Q0a → Prop
 | .inl _ => Qcz c .normal (mkS [(2,I size2),(3,.bool closed3),(4,.ra 1 0)] [(1,K1v t0)])
 | .inr r => Qd8 TIx Tryz.f139 [] (.bool r)
def Kcd (c : Ctx) (t0 : K01) (size2 : Int) (closed3 : Bool) : (Unit) ⊕ (Bool) → Exit → Q0a → Prop
 | .inl _ => Qcz c .normal (mkS [(2,I size2),(3,.bool closed3),(4,.ra 1 0)] [(1,K1v t0)])
 | .inr r => Qd8 TIx Tryz.f139 [] (.bool r)
def Kce (c : Ctx) (t0 : K01) (size2 : Int) (closed3 : Bool) : (Unit) ⊕ (Bool) → Exit → Q0a → Prop
 | .inl _ => Qcz c .normal (mkS [(2,I size2),(3,.bool closed3),(4,.ra 1 0)] [(1,K1v t0)])
 | .inr r => Qd8 TIx Tryz.f139 [] (.bool r)
def Kcf (p : K01 × Int × Int × Bool) : Option (Bool) :=
 match p with
 | (t0,n1,size2,closed3) =>
  (Kc3 t0.fOp) >>= fun a0 =>
  if ((t0.fKids.length : Int) != a0) = true then
  some false
  else
  ((
   if (t0.fOp == 0) = true then
   (K97 (t0.fN,0,(wr (n1 - 1)))) >>= fun a1 =>
   if a1 = true then
    some (.inl ())
   else
    some (.inr false)
   else
   ((
    if (t0.fOp == 1) = true then
    (K97 (t0.fN,0,2)) >>= fun a2 =>
    if a2 = true then
     some (.inl ())
    else
     some (.inr false)
    else
    (Kc6 t0.fOp) >>= fun a3 =>
    ((
     if a3 = true then
     ((
     if (decide (t0.fN ≥ size2)) = true then
     some (true)
     else
     if (decide (t0.fN < (-1))) = true then
     some (true)
     else
     if closed3 = true then
     some ((decide (t0.fN < 0)))
     else
     some (false)
     ) : Option (Bool)) >>= fun a4 =>
     if a4 = true then
     some (.inr false)
     else
     some (.inl ())
     else
     if (t0.fN != 0) = true then
     some (.inr false)
     else
     some (.inl ())) : Option ((Unit) ⊕ (Bool))) >>= fun fl => match fl with
    | .inl () =>
     some (.inl ())
    | .inr r =>
     some (.inr r)) : Option ((Unit) ⊕ (Bool))) >>= fun fl => match fl with
   | .inl () =>
    some (.inl ())
   | .inr r =>
    some (.inr r)) : Option ((Unit) ⊕ (Bool))) >>= fun fl => match fl with
  | .inl () =>
   (Kc9 t0.fOp) >>= fun a5 =>
   if a5 = true then
   ((
    (Kba t0.fType) >>= fun a6 =>
    if a6 = true then
    (Kbl (t0.fType,size2,closed3)) >>= fun a7 =>
    some (a7)
    else
    some (false)
   ) : Option (Bool)) >>= fun a8 =>
   some a8
   else
   some ((t0.fType.length : Int) == 0)
  | .inr r =>
   some r
def Kcg (p : K01 × Int × Int × Bool) (r : Bool) : Prop :=
 match p with
 | (t0,n1,size2,closed3) => Q71 Tryz.prog 139 [K1w t0,I n1,I size2,.bool closed3] (.bool r) []
theorem Kch : ∀ p r,Kcf p = some r → Kcg p r := by
 rintro ⟨t0,n1,size2,closed3⟩ r h
 unfold Kcf at h
 refine b0 Tryz.f139 K4e 76 [(0,K1w t0),(1,I n1),(2,I size2),(3,.bool closed3)] fun c hc => ?_
 refine rs hc none [some (.new 1),oN] [(1,I n1),(2,I size2),(3,.bool closed3),(4,.ra 1 0)] [(1,K1v t0)] tv ?_
 refine sN ?_
 obtain ⟨a0,a1,h⟩ := Qdd h
 refine rss hc (rx [[0],[1],[2],[0],[0,3],[0,3,4],[6]]) [oN,oN,some (.eqv (.no) ⟨[(11,I (t0.fKids.length : Int))],[],[]⟩),oN,oN,oc (I a0),oN] [(1,I n1),(2,I size2),(3,.bool closed3),(4,.ra 1 0),(15,.bool ((t0.fKids.length : Int) != a0))] (ai (Qdj (d := 11) K0h t0.fKids) (cq (Kc5 _ _ a1) K49 tv)) ?_
 refine ic h (fun a2 h => ?_) fun a2 h => ?_
 ·refine rs0 hc 1 [(8,.bool false)] [] ?_
  refine rt ?_
  obtain rfl := os h
  exact rq [true]
 refine sk ?_
 refine sN ?_
 refine bk 0 ?_
 refine K7f hc 4 [(1,I n1),(2,I size2),(3,.bool closed3),(4,.ra 1 0),(19,.bool (t0.fOp == 0))] ?_
 obtain ⟨fl,a3,h⟩ := Qdd h
 refine flw (Kce c t0 size2 closed3 fl) ?_ (fun hF => ?_)
 ·replace h := a3
  refine ic h (fun a4 h => ?_) fun a4 h => ?_
  ·obtain ⟨a5,a6,h⟩ := Qdd h
   refine rss hc none [oN,oN,oN,oN,oc (.bool a5),oN] [(2,I size2),(3,.bool closed3),(4,.ra 1 0),(28,.bool (!a5))] (cq (K99 _ _ a6) K3a tv) ?_
   rcases is h with ⟨a7,h⟩ | ⟨a7,h⟩
   ·refine cF (!a5) (nF a7) ?_
    refine sk ?_
    obtain rfl := os h
    exact iv []
   refine cT (!a5) (nT a7) ?_
   refine rs0 hc 1 [(8,.bool false)] [] ?_
   refine rt ?_
   obtain rfl := os h
   exact re [true]
  refine K7f hc 4 [(2,I size2),(3,.bool closed3),(4,.ra 1 0),(29,.bool (t0.fOp == 1))] ?_
  obtain ⟨fl,a8,h⟩ := Qdd h
  refine flw (Kcd c t0 size2 closed3 fl) ?_ (fun hF => ?_)
  ·replace h := a8
   refine ic h (fun a9 h => ?_) fun a9 h => ?_
   ·obtain ⟨b1,b2,h⟩ := Qdd h
    refine rss hc none [oN,oN,oc (.bool b1),oN] [(2,I size2),(3,.bool closed3),(4,.ra 1 0),(36,.bool (!b1))] (cq (K99 _ _ b2) K3a tv) ?_
    rcases is h with ⟨b3,h⟩ | ⟨b3,h⟩
    ·refine cF (!b1) (nF b3) ?_
     refine sk ?_
     obtain rfl := os h
     exact iv []
    refine cT (!b1) (nT b3) ?_
    refine rs0 hc 1 [(8,.bool false)] [] ?_
    refine rt ?_
    obtain rfl := os h
    exact re [true]
   obtain ⟨b4,b5,h⟩ := Qdd h
   refine rss hc none [oN,oN,oc (.bool b4),oN] [(2,I size2),(3,.bool closed3),(4,.ra 1 0),(37,.bool b4)] (cq (Kc8 _ _ b5) K4b tv) ?_
   obtain ⟨fl,b6,h⟩ := Qdd h
   refine flw (Kcc c t0 size2 closed3 fl) ?_ (fun hF => ?_)
   ·replace h := b6
    refine ic h (fun b7 h => ?_) fun b7 h => ?_
    ·refine sN ?_
     obtain ⟨b8,b9,h⟩ := Qdd h
     refine Wp.into (x := .normal) (mkS [(2,I size2),(3,.bool closed3),(4,.ra 1 0),(57,.bool b8)] [(1,K1v t0)]) ?_ ?_
     ·replace h := b9
      rcases is h with ⟨c0,h⟩ | ⟨c0,h⟩
      ·refine rgs hc none [oN,oN,oN,oN,oN,o_,o_,o_,oT,oN,o_,o_,o_,o_,o_,o_,oT] [(2,I size2),(3,.bool closed3),(4,.ra 1 0),(57,.bool true)] (ar 3 (neF c0) (ai c0 (ar 3 nf (ai tt tv)))) ?_
       obtain rfl := os h
       exact Qcz.mk
      rcases is h with ⟨c1,h⟩ | ⟨c1,h⟩
      ·refine rgs hc none [oN,oN,oN,oN,oN,oN,oN,oN,oF,oN,o_,o_,o_,o_,o_,o_,oT] [(2,I size2),(3,.bool closed3),(4,.ra 1 0),(57,.bool true)] (ar 4 c0 (ar 3 (neF c1) (ai c1 tv))) ?_
       obtain rfl := os h
       exact Qcz.mk
      rcases is h with ⟨c2,h⟩ | ⟨c2,h⟩
      ·refine rgs hc none [oN,oN,oN,oN,oN,oN,oN,oN,oF,oN,oN,oN,oN,oN,oN,oT,oF] [(2,I size2),(3,.bool closed3),(4,.ra 1 0),(57,.bool (decide (t0.fN < 0)))] (ar 4 c0 (ar 2 c1 (ar 3 c2 (ac c1 c2 c1 tv)))) ?_
       obtain rfl := os h
       exact Qcz.mk
      refine rgs hc none [oN,oN,oN,oN,oN,oN,oN,oN,oF,oN,oN,oN,o_,o_,o_,oF,oF] [(2,I size2),(3,.bool closed3),(4,.ra 1 0),(57,.bool false)] (ar 4 c0 (ar 2 c1 (ar 3 (neT c2) (ac c1 c2 c1 tv)))) ?_
      obtain rfl := os h
      exact Qcz.mk
     clear b9
     refine ic h (fun c3 h => ?_) fun c3 h => ?_
     ·refine rs0 hc 1 [(8,.bool false)] [] ?_
      refine rt ?_
      obtain rfl := os h
      exact re [true]
     refine sk ?_
     obtain rfl := os h
     exact iv []
    refine K7f hc 3 [(2,I size2),(3,.bool closed3),(4,.ra 1 0),(18,.bool (t0.fN != 0))] ?_
    refine ic h (fun c4 h => ?_) fun c4 h => ?_
    ·refine rs0 hc 1 [(8,.bool false)] [] ?_
     refine rt ?_
     obtain rfl := os h
     exact re [true]
    refine sk ?_
    obtain rfl := os h
    exact iv []
   rcases fl with ⟨⟩ | r
   ·refine Wp.into (x := .normal) (mkS [(2,I size2),(3,.bool closed3),(4,.ra 1 0)] [(1,K1v t0)]) hF ?_
    obtain rfl := os h
    exact Qcz.mk
   refine Wp.mono hF ?_
   rintro _ _ ⟨rfl,hfin⟩
   obtain rfl := os h
   exact ⟨rfl,hfin⟩
  rcases fl with ⟨⟩ | r
  ·refine Wp.into (x := .normal) (mkS [(2,I size2),(3,.bool closed3),(4,.ra 1 0)] [(1,K1v t0)]) hF ?_
   obtain rfl := os h
   exact Qcz.mk
  refine Wp.mono hF ?_
  rintro _ _ ⟨rfl,hfin⟩
  obtain rfl := os h
  exact ⟨rfl,hfin⟩
 rcases fl with ⟨⟩ | r
 ·refine Wp.into (x := .normal) (mkS [(2,I size2),(3,.bool closed3),(4,.ra 1 0)] [(1,K1v t0)]) hF ?_
  refine sN ?_
  obtain ⟨c5,c6,h⟩ := Qdd h
  refine rss hc none [oN,oN,oc (.bool c5),oN] [(2,I size2),(3,.bool closed3),(4,.ra 1 0),(61,.bool (!c5))] (cq (Kcb _ _ c6) K4d tv) ?_
  rcases is h with ⟨c7,h⟩ | ⟨c7,h⟩
  ·refine cF (!c5) (nF c7) ?_
   refine sk ?_
   refine sN ?_
   obtain ⟨c8,c9,h⟩ := Qdd h
   refine Wp.into (x := .normal) (mkS [(8,.bool c8)] []) ?_ ?_
   ·replace h := c9
    obtain ⟨d0,d1,h⟩ := Qdd h
    rcases is h with ⟨d2,h⟩ | ⟨d2,h⟩
    ·obtain ⟨d3,d4,h⟩ := Qdd h
     refine rg hc none [oN,oN,oc (.bool d0),oN,oN,oN,oN,oN,oc (.bool d3),oT,oN] [(8,.bool d3)] [] (cq (Kbc _ _ d1) K40 (ar 5 d2 (cq (Kbn _ _ d4) K44 (ai d2 tv)))) ?_
     obtain rfl := os h
     exact Qcz.mk
    refine rg hc none [oN,oN,oc (.bool d0),oN,o_,o_,o_,o_,o_,oF,oN] [(8,.bool false)] [] (cq (Kbc _ _ d1) K40 (ar 5 (neT d2) (ai d2 tv))) ?_
    obtain rfl := os h
    exact Qcz.mk
   clear c9
   refine rt ?_
   obtain rfl := os h
   exact rq [true]
  refine cT (!c5) (nT c7) ?_
  refine rs hc none [oN,oN,some (.eqv (.no) ⟨[(64,I (t0.fType.length : Int))],[],[]⟩),oN,oN] [(8,.bool ((t0.fType.length : Int) == 0))] [] (ai (Qdj (d := 64) I t0.fType) tv) ?_
  refine rt ?_
  obtain rfl := os h
  exact rq [true]
 refine Wp.mono hF ?_
 rintro _ _ ⟨rfl,hfin⟩
 obtain rfl := os h
 exact ⟨.inl rfl,hfin⟩
def Kci (p : Int × Int) : Option (Int) :=
 match p with
 | (op0,kid1) =>
  ((
  if (op0 == 5) = true then
  some ((kid1 == 1))
  else
  some (false)
  ) : Option (Bool)) >>= fun a0 =>
  if a0 = true then
  some 2
  else
  ((
  if (op0 == 8) = true then
  if (decide (kid1 > 0)) = true then
  some (true)
  else
  if (op0 == 9) = true then
  some (true)
  else
  if (op0 == 12) = true then
  some ((kid1 == 1))
  else
  some (false)
  else
  if (op0 == 9) = true then
  some (true)
  else
  if (op0 == 12) = true then
  some ((kid1 == 1))
  else
  some (false)
  ) : Option (Bool)) >>= fun a1 =>
  if a1 = true then
  some 1
  else
  some 0
def Kcj (p : Int × Int) (r : Int) : Prop :=
 match p with
 | (op0,kid1) => Q71 Tryz.prog 109 [I op0,I kid1] (I r) []
theorem Kck : ∀ p r,Kci p = some r → Kcj p r := by
 rintro ⟨op0,kid1⟩ r h
 unfold Kci at h
 refine b0 Tryz.f109 K4g 31 [(0,I op0),(1,I kid1)] fun c hc => ?_
 refine rs0 hc 1 [(0,I op0),(1,I kid1)] [] ?_
 refine sN ?_
 refine bk 0 ?_
 refine sN ?_
 obtain ⟨a0,a1,h⟩ := Qdd h
 refine Wp.into (x := .normal) (mkS [(0,I op0),(1,I kid1),(5,.bool a0)] []) ?_ ?_
 ·replace h := a1
  rcases is h with ⟨a2,h⟩ | ⟨a2,h⟩
  ·refine rg hc none [oN,oN,oN,oN,oN,oT,oN] [(0,I op0),(1,I kid1),(5,.bool (kid1 == 1))] [] (ar 3 a2 tv) ?_
   obtain rfl := os h
   exact Qcz.mk
  refine rg hc none [oN,oN,oN,o_,o_,oF,oN] [(0,I op0),(1,I kid1),(5,.bool false)] [] (ar 2 (neT a2) (ai a2 tv)) ?_
  obtain rfl := os h
  exact Qcz.mk
 clear a1
 refine ic h (fun a3 h => ?_) fun a3 h => ?_
 ·refine rs0 hc 1 [(4,I 2)] [] ?_
  refine rt ?_
  obtain rfl := os h
  exact rq [true]
 refine sN ?_
 obtain ⟨a4,a5,h⟩ := Qdd h
 refine Wp.into (x := .normal) (mkS [(12,.bool a4)] []) ?_ ?_
 ·replace h := a5
  rcases is h with ⟨a6,h⟩ | ⟨a6,h⟩
  ·rcases is h with ⟨a7,h⟩ | ⟨a7,h⟩
   ·refine rg hc none [oN,oN,oN,oN,oN,oT,oN,o_,o_,oT,oN,o_,o_,o_,o_,o_,o_,oT,oN] [(12,.bool true)] [] (ar 3 a6 (ar 2 (neF a7) (ai a7 (ar 4 nf (ai tt tv))))) ?_
    obtain rfl := os h
    exact Qcz.mk
   rcases is h with ⟨a8,h⟩ | ⟨a8,h⟩
   ·refine rg hc none [oN,oN,oN,oN,oN,oT,oN,oN,oN,oF,oN,o_,o_,o_,o_,o_,o_,oT,oN] [(12,.bool true)] [] (ar 3 a6 (ar 3 a7 (ar 4 (neF a8) (ai a8 tv)))) ?_
    obtain rfl := os h
    exact Qcz.mk
   rcases is h with ⟨a9,h⟩ | ⟨a9,h⟩
   ·refine rg hc none [oN,oN,oN,oN,oN,oT,oN,oN,oN,oF,oN,oN,oN,oN,oN,oN,oT,oF,oN] [(12,.bool (kid1 == 1))] [] (ar 3 a6 (ar 3 a7 (ar 3 a8 (ar 2 a9 (ac a8 a9 a8 tv))))) ?_
    obtain rfl := os h
    exact Qcz.mk
   refine rg hc none [oN,oN,oN,oN,oN,oT,oN,oN,oN,oF,oN,oN,oN,oN,o_,o_,oF,oF,oN] [(12,.bool false)] [] (ar 3 a6 (ar 3 a7 (ar 3 a8 (ar 2 (neT a9) (ac a8 a9 a8 tv))))) ?_
   obtain rfl := os h
   exact Qcz.mk
  rcases is h with ⟨a7,h⟩ | ⟨a7,h⟩
  ·refine rg hc none [oN,oN,oN,o_,o_,oF,oN,oN,oN,oF,oN,o_,o_,o_,o_,o_,o_,oT,oN] [(12,.bool true)] [] (ar 2 (neT a6) (ai a6 (ar 3 (rfl : false = false) (ar 4 (neF a7) (ai a7 tv))))) ?_
   obtain rfl := os h
   exact Qcz.mk
  rcases is h with ⟨a8,h⟩ | ⟨a8,h⟩
  ·refine rg hc none [oN,oN,oN,o_,o_,oF,oN,oN,oN,oF,oN,oN,oN,oN,oN,oN,oT,oF,oN] [(12,.bool (kid1 == 1))] [] (ar 2 (neT a6) (ai a6 (ar 3 (rfl : false = false) (ar 3 a7 (ar 2 a8 (ac a7 a8 a7 tv)))))) ?_
   obtain rfl := os h
   exact Qcz.mk
  refine rg hc none [oN,oN,oN,o_,o_,oF,oN,oN,oN,oF,oN,oN,oN,oN,o_,o_,oF,oF,oN] [(12,.bool false)] [] (ar 2 (neT a6) (ai a6 (ar 3 (rfl : false = false) (ar 3 a7 (ar 2 (neT a8) (ac a7 a8 a7 tv)))))) ?_
  obtain rfl := os h
  exact Qcz.mk
 clear a5
 refine ic h (fun b1 h => ?_) fun b1 h => ?_
 ·refine rs0 hc 1 [(4,I 1)] [] ?_
  refine rt ?_
  obtain rfl := os h
  exact rq [true]
 refine sk ?_
 refine rs0 hc 1 [(4,I 0)] [] ?_
 refine rt ?_
 obtain rfl := os h
 exact rq [true]
def Kcl (c : Ctx) : (Unit) ⊕ (Bool) → Exit → Q0a → Prop
 | .inl _ => Qcz c (.exit 0) (mkS [] [])
 | .inr r => Qd8 TIx Tryz.f106 [] (.bool r)
mutual
def Kcm (p : K01 × Int × Int × Bool) : Option (Bool) :=
 match p with
 | (t0,n1,size2,closed3) =>
  (Kcf (t0,n1,size2,closed3)) >>= fun a0 =>
  if a0 = true then
  (Kcn (t0,n1,size2,closed3,0)) >>= fun fl => match fl with
  | .inl () =>
   some true
  | .inr r =>
   some r
  else
  some false
 partial_fixpoint
def Kcn (p : K01 × Int × Int × Bool × Int) : Option ((Unit) ⊕ (Bool)) :=
 match p with
 | (t0,n1,size2,closed3,a0) =>
  if (decide (a0 < (t0.fKids.length : Int))) = true then
  (idx t0.fKids a0) >>= fun a1 =>
  (Kci (t0.fOp,a0)) >>= fun a2 =>
  (Kcm (a1,(wr (n1 + a2)),size2,closed3)) >>= fun a3 =>
  if a3 = true then
  Kcn (t0,n1,size2,closed3,(wr (a0 + 1)))
  else
  some (.inr false)
  else
  some (.inl ())
 partial_fixpoint
end
def Kco (p : K01 × Int × Int × Bool) (r : Bool) : Prop :=
 match p with
 | (t0,n1,size2,closed3) => Q71 Tryz.prog 106 [K1w t0,I n1,I size2,.bool closed3] (.bool r) []
def Kcp (p : K01 × Int × Int × Bool × Int) (fl : (Unit) ⊕ (Bool)) : Prop :=
 match p with
 | (t0,n1,size2,closed3,a0) => ∀ c : Ctx,c.nt = 38 → WpL Tryz.prog c (cl (cl (cr (cl (cr (cr K4i)))))) (Kcl c fl) (mkS [(1,I n1),(2,I size2),(3,.bool closed3),(4,.ra 1 0),(9,I a0)] [(1,K1v t0)])
theorem Kcq : (∀ p r,Kcm p = some r → Kco p r) ∧ (∀ p r,Kcn p = some r → Kcp p r) := by
 refine Kcm.mutual_partial_correctness Kco Kcp ?_ ?_
 ·rintro spec_l2Term_l0_f spec_l2Term_l0_ih ⟨t0,n1,size2,closed3⟩ r h
  refine b0 Tryz.f106 K4i 38 [(0,K1w t0),(1,I n1),(2,I size2),(3,.bool closed3)] fun c hc => ?_
  refine rs hc none [some (.new 1),oN] [(1,I n1),(2,I size2),(3,.bool closed3),(4,.ra 1 0)] [(1,K1v t0)] tv ?_
  refine sN ?_
  obtain ⟨a0,a1,h⟩ := Qdd h
  refine rss hc none [oN,oN,oN,oN,oc (.bool a0),oN] [(1,I n1),(2,I size2),(3,.bool closed3),(4,.ra 1 0),(15,.bool (!a0))] (cq (Kch _ _ a1) K4f tv) ?_
  rcases is h with ⟨a2,h⟩ | ⟨a2,h⟩
  ·refine cF (!a0) (nF a2) ?_
   refine sk ?_
   refine sN ?_
   refine K7f hc 1 [(1,I n1),(2,I size2),(3,.bool closed3),(4,.ra 1 0),(9,I 0)] ?_
   refine bk 0 ?_
   obtain ⟨fl,a3,h⟩ := Qdd h
   have hL := spec_l2Term_l0_ih _ _ a3 c hc
   refine lp ?_
   rcases fl with ⟨⟩ | r
   ·refine WpL.into (e := (.exit 0)) (mkS [] []) hL ?_
    refine Qcr ?_
    refine rs0 hc 1 [(8,.bool true)] [] ?_
    refine rt ?_
    obtain rfl := os h
    exact rq [true]
   refine WpL.mono hL ?_
   rintro _ _ ⟨rfl,hfin⟩
   obtain rfl := os h
   exact ⟨.inl rfl,hfin⟩
  refine cT (!a0) (nT a2) ?_
  refine rs0 hc 1 [(8,.bool false)] [] ?_
  refine rt ?_
  obtain rfl := os h
  exact rq [true]
 ·rintro spec_l2Term_f spec_l2Term_l0_f spec_l2Term_ih spec_l2Term_l0_ih ⟨t0,n1,size2,closed3,a4⟩ r h
  intro c hc
  refine WpL.step ?_
  refine sN ?_
  refine rss hc none [oN,oN,oN,some (.eqv (.no) ⟨[(19,I (t0.fKids.length : Int))],[],[]⟩),oN] [(1,I n1),(2,I size2),(3,.bool closed3),(4,.ra 1 0),(9,I a4),(20,.bool (decide (a4 < (t0.fKids.length : Int))))] (ai (Qdj (d := 19) K0h t0.fKids) tv) ?_
  refine ic h (fun a5 h => ?_) fun a5 h => ?_
  ·refine sk ?_
   refine sN ?_
   refine bk 1 ?_
   obtain ⟨a6,a7,a8,a9,b1,b2,h⟩ := bq3 h
   refine rss hc (rx [[0],[1],[0],[3],[4],[0],[0],[0,6],[0],[0,6,7,8],[0,5,6,7,8,9],[0],[0],[13],[14]]) [oN,oN,oN,some (.el (K1w a6)),oN,oN,oN,oN,oN,oc (I a8),oN,oN,oN,oc (.bool b1),oN] [(1,I n1),(2,I size2),(3,.bool closed3),(4,.ra 1 0),(9,I a4),(37,.bool (!b1))] (ai (Qdh a7 (K0o a6)) (cq (Kck _ _ a9) K4h (cq (spec_l2Term_ih _ _ b2) K4j tv))) ?_
   rcases is h with ⟨b3,h⟩ | ⟨b3,h⟩
   ·refine cF (!b1) (nF b3) ?_
    refine sk ?_
    refine K7e hc 3 [(1,I n1),(2,I size2),(3,.bool closed3),(4,.ra 1 0),(9,I (wr (a4 + 1)))] ?_
    refine Qcv ?_
    exact (spec_l2Term_l0_ih _ _ h c hc)
   refine cT (!b1) (nT b3) ?_
   refine rs0 hc 1 [(8,.bool false)] [] ?_
   refine rt ?_
   obtain rfl := os h
   exact re [true]
  refine xt 0 ?_
  refine Qcp ?_
  refine Qcw ?_
  obtain rfl := os h
  exact iv []
theorem Kcr : ∀ p r,Kcm p = some r → Kco p r := Kcq.1
theorem Kcs : ∀ p r,Kcn p = some r → Kcp p r := Kcq.2
def Kct (p : K00 × K01 × Int) : Option (Bool) :=
 match p with
 | (s0,t1,n2) =>
  ((
  (Kar s0) >>= fun a0 =>
  if a0 = true then
  (K97 (n2,0,8)) >>= fun a1 =>
  if a1 = true then
  (Kbw (t1,400)) >>= fun a2 =>
  if (decide (a2 ≥ 0)) = true then
  (Kcm (t1,n2,s0.fSize,true)) >>= fun a3 =>
  some (a3)
  else
  some (false)
  else
  some (false)
  else
  some (false)
  ) : Option (Bool)) >>= fun a4 =>
  some a4
def Kcu (p : K00 × K01 × Int) (r : Bool) : Prop :=
 match p with
 | (s0,t1,n2) => Q71 Tryz.prog 91 [K1u s0,K1w t1,I n2] (.bool r) []
theorem Kcv : ∀ p r,Kct p = some r → Kcu p r := by
 rintro ⟨s0,t1,n2⟩ r h
 unfold Kct at h
 refine b0 Tryz.f91 B91 25 [(0,K1u s0),(1,K1w t1),(2,I n2)] fun c hc => ?_
 refine rs hc none [some (.new 1),some (.new 2),oN] [(2,I n2),(3,.ra 1 0),(4,.ra 2 0)] [(1,K1t s0),(2,K1v t1)] tv ?_
 refine sN ?_
 obtain ⟨a0,a1,h⟩ := Qdd h
 refine Wp.into (x := .normal) (mkS [(6,.bool a0)] []) ?_ ?_
 ·replace h := a1
  obtain ⟨a2,a3,h⟩ := Qdd h
  rcases is h with ⟨a4,h⟩ | ⟨a4,h⟩
  ·obtain ⟨a5,a6,h⟩ := Qdd h
   rcases is h with ⟨a7,h⟩ | ⟨a7,h⟩
   ·obtain ⟨a8,a9,h⟩ := Qdd h
    rcases is h with ⟨b1,h⟩ | ⟨b1,h⟩
    ·obtain ⟨b2,b3,h⟩ := Qdd h
     refine rg hc none [oN,oc (.bool a2),oN,oN,oc (.bool a5),oT,oN,oN,oc (I a8),oN,oT,oN,oN,oN,oN,oN,oc (.bool b2),oT,oN] [(6,.bool b2)] [] (cq (Kat _ _ a3) K3q (ar 2 a4 (cq (K99 _ _ a6) K3a (ai a4 (ar 2 a7 (cq (Kc1 _ _ a9) K47 (ar 2 a7 (ar 5 b1 (cq (Kcr _ _ b3) K4j (ai b1 tv)))))))))) ?_
     obtain rfl := os h
     exact Qcz.mk
    refine rg hc none [oN,oc (.bool a2),oN,oN,oc (.bool a5),oT,oN,oN,oc (I a8),oN,oT,oN,o_,o_,o_,o_,o_,oF,oN] [(6,.bool false)] [] (cq (Kat _ _ a3) K3q (ar 2 a4 (cq (K99 _ _ a6) K3a (ai a4 (ar 2 a7 (cq (Kc1 _ _ a9) K47 (ar 2 a7 (ar 5 (neT b1) (ai b1 tv))))))))) ?_
    obtain rfl := os h
    exact Qcz.mk
   refine rg hc none [oN,oc (.bool a2),oN,oN,oc (.bool a5),oT,oN,o_,o_,o_,oF,oN,o_,o_,o_,o_,o_,oF,oN] [(6,.bool false)] [] (cq (Kat _ _ a3) K3q (ar 2 a4 (cq (K99 _ _ a6) K3a (ai a4 (ar 3 (neT a7) (ai a7 (ar 5 (neT (rfl : false = false)) (ai (rfl : false = false) tv)))))))) ?_
   obtain rfl := os h
   exact Qcz.mk
  refine rg hc none [oN,oc (.bool a2),oN,o_,o_,oF,oN,o_,o_,o_,oF,oN,o_,o_,o_,o_,o_,oF,oN] [(6,.bool false)] [] (cq (Kat _ _ a3) K3q (ar 2 (neT a4) (ai a4 (ar 3 (neT (rfl : false = false)) (ai (rfl : false = false) (ar 5 (neT (rfl : false = false)) (ai (rfl : false = false) tv))))))) ?_
  obtain rfl := os h
  exact Qcz.mk
 clear a1
 refine rt ?_
 obtain rfl := os h
 exact rq [true]
def Kcw (p : K00 × LL × K01) : Option (Bool) :=
 match p with
 | (s0,ctx1,t2) =>
  ((
  (Kar s0) >>= fun a0 =>
  if a0 = true then
  (Kbs (s0,ctx1)) >>= fun a1 =>
  if a1 = true then
  (Kct (s0,t2,(ctx1.length : Int))) >>= fun a2 =>
  some (a2)
  else
  some (false)
  else
  some (false)
  ) : Option (Bool)) >>= fun a3 =>
  some a3
def Kcx (p : K00 × LL × K01) (r : Bool) : Prop :=
 match p with
 | (s0,ctx1,t2) => Q71 Tryz.prog 54 [K1u s0,sL ctx1,K1w t2] (.bool r) []
theorem Kcy : ∀ p r,Kcw p = some r → Kcx p r := by
 rintro ⟨s0,ctx1,t2⟩ r h
 unfold Kcw at h
 refine b0 Tryz.f54 B54 21 [(0,K1u s0),(1,sL ctx1),(2,K1w t2)] fun c hc => ?_
 refine rs hc none [some (.new 1),some (.new 2),oN] [(1,sL ctx1),(3,.ra 1 0),(5,.ra 2 0)] [(1,K1t s0),(2,K1v t2)] tv ?_
 refine sN ?_
 obtain ⟨a0,a1,h⟩ := Qdd h
 refine Wp.into (x := .normal) (mkS [(6,.bool a0)] []) ?_ ?_
 ·replace h := a1
  obtain ⟨a2,a3,h⟩ := Qdd h
  rcases is h with ⟨a4,h⟩ | ⟨a4,h⟩
  ·obtain ⟨a5,a6,h⟩ := Qdd h
   rcases is h with ⟨a7,h⟩ | ⟨a7,h⟩
   ·obtain ⟨a8,a9,h⟩ := Qdd h
    refine rg hc none [oN,oc (.bool a2),oN,oN,oN,oc (.bool a5),oT,oN,oN,oN,oN,some (.eqv (.no) ⟨[(18,I (ctx1.length : Int))],[],[]⟩),oc (.bool a8),oT,oN] [(6,.bool a8)] [] (cq (Kat _ _ a3) K3q (ar 3 a4 (cq (Kbu _ _ a6) K45 (ai a4 (ar 4 a7 (ab (Qdj (d := 18) K11 ctx1) a7 (cq (Kcv _ _ a9) K4k (ai a7 tv)))))))) ?_
    obtain rfl := os h
    exact Qcz.mk
   refine rg hc none [oN,oc (.bool a2),oN,oN,oN,oc (.bool a5),oT,oN,o_,o_,o_,o_,o_,oF,oN] [(6,.bool false)] [] (cq (Kat _ _ a3) K3q (ar 3 a4 (cq (Kbu _ _ a6) K45 (ai a4 (ar 5 (neT a7) (ai a7 tv)))))) ?_
   obtain rfl := os h
   exact Qcz.mk
  refine rg hc none [oN,oc (.bool a2),oN,o_,o_,o_,oF,oN,o_,o_,o_,o_,o_,oF,oN] [(6,.bool false)] [] (cq (Kat _ _ a3) K3q (ar 3 (neT a4) (ai a4 (ar 5 (neT (rfl : false = false)) (ai (rfl : false = false) tv))))) ?_
  obtain rfl := os h
  exact Qcz.mk
 clear a1
 refine rt ?_
 obtain rfl := os h
 exact rq [true]
def Kcz (n0 : Int) : Option ((List Int)) :=
 (chk (0 ≤ n0 ∧ (Int.toNat n0) * 8 ≤ 140737488355328)) >>= fun _ =>
 some (List.replicate (Int.toNat n0) 0)
def Kd0 (n0 : Int) (r : (List Int)) : Prop :=
 Q71 Tryz.prog 92 [I n0] (oI r) []
theorem Kd1 : ∀ p r,Kcz p = some r → Kd0 p r := by
 rintro n0 r h
 unfold Kcz at h
 refine b0 Tryz.f92 B92 5 [(0,I n0)] fun c hc => ?_
 refine rs0 hc 1 [(0,I n0)] [] ?_
 obtain ⟨_,a0,h⟩ := Qdd h
 refine rs hc none [oN,some (.eqv (.mk 1 true) ⟨[(4,.rs 1)],[(1,some (.arr (List.map I (List.replicate (Int.toNat n0) 0))))],[1]⟩),oN] [(2,.rs 1)] [(1,.arr (List.map I (List.replicate (Int.toNat n0) 0)))] (ab (congrArg (fun z => (⟨[(4,.rs 1)],[(1,some (.arr z))],[1]⟩ : Wr)) (Qei (enc := I) (n := Int.toNat n0) (x := I 0) (Qds 0))) (And.intro (Eq.refl n0) (Qdf a0)) tv) ?_
 refine rt ?_
 obtain rfl := os h
 exact rq [true]
def Kd2 (l0 : (List Int)) : Option ((List Int)) :=
 (Qdq (([] : List Int).length + l0.length) 8) >>= fun _ =>
 some l0
def Kd3 (l0 : (List Int)) (r : (List Int)) : Prop :=
 Q71 Tryz.prog 82 [sI l0] (oI r) []
theorem Kd4 : ∀ p r,Kd2 p = some r → Kd3 p r := by
 rintro l0 r h
 unfold Kd2 at h
 refine b0 Tryz.f82 B82 6 [(0,sI l0)] fun c hc => ?_
 refine rs0 hc 1 [(0,sI l0)] [] ?_
 obtain ⟨_,a0,h⟩ := Qdd h
 refine rs hc none [some (.mk 1 true),oN,some (.eqv (.mk 2 true) ⟨[(5,.rs 2)],[(2,some (rI l0)),(1,none)],[2]⟩),oN] [(2,.rs 2)] [(2,rI l0)] (ab (congrArg (fun z => (⟨[(5,.rs 2)],[(2,some (.arr z)),(1,none)],[2]⟩ : Wr)) (List.nil_append _ : [] ++ (List.map I l0) = List.map I l0)) (Qdr (enc1 := I) (enc2 := I) (e1 := []) (e2 := l0) (sz := 1) Qe0 Qe0 a0) tv) ?_
 refine rt ?_
 obtain rfl := os h
 exact rq [true]
def Kd5 (p : LL × LL) : Option (LL) :=
 match p with
 | (ctx0,front1) =>
  (Qdq (([] : LL).length + front1.length) 24) >>= fun _ =>
  (Qdq (front1.length + ctx0.length) 24) >>= fun _ =>
  some (front1 ++ ctx0)
def Kd6 (p : LL × LL) (r : LL) : Prop :=
 match p with
 | (ctx0,front1) => Q71 Tryz.prog 61 [sL ctx0,sL front1] (.osl (List.map K11 r)) []
theorem Kd7 : ∀ p r,Kd5 p = some r → Kd6 p r := by
 rintro ⟨ctx0,front1⟩ r h
 unfold Kd5 at h
 refine b0 Tryz.f61 B61 10 [(0,sL ctx0),(1,sL front1)] fun c hc => ?_
 refine rs0 hc 1 [(0,sL ctx0),(1,sL front1)] [] ?_
 obtain ⟨_,a0,_,a1,h⟩ := bq2 h
 refine rs hc none [some (.mk 1 true),oN,some (.eqv (.mk 2 true) ⟨[(7,.rs 2)],[(2,some (.arr (List.map K11 front1))),(1,none)],[2]⟩),oN,some (.eqv (.mk 3 true) ⟨[(9,.rs 3)],[(3,some (.arr (List.map K11 (front1 ++ ctx0)))),(2,none)],[3]⟩),oN] [(4,.rs 3)] [(3,.arr (List.map K11 (front1 ++ ctx0)))] (ad (congrArg (fun z => (⟨[(7,.rs 2)],[(2,some (.arr z)),(1,none)],[2]⟩ : Wr)) (List.nil_append _ : [] ++ (List.map K11 front1) = List.map K11 front1)) (Qdr (enc1 := K16) (enc2 := K11) (e1 := []) (e2 := front1) (sz := 1) K19 K14 a0) (congrArg (fun z => (⟨[(9,.rs 3)],[(3,some (.arr z)),(2,none)],[3]⟩ : Wr)) ((List.map_append).symm : (List.map K11 front1) ++ (List.map K11 ctx0) = List.map K11 (front1 ++ ctx0))) (Qdr (enc1 := K11) (enc2 := K11) (e1 := front1) (e2 := ctx0) (sz := 1) K14 K14 a1) tv) ?_
 refine rt ?_
 obtain rfl := os h
 exact rq [true]
def Kd8 (fault0 : Int) : Option (K02) :=
 some (K02.mk [] [] fault0 [])
def Kd9 (fault0 : Int) (r : K02) : Prop :=
 Q71 Tryz.prog 94 [I fault0] (K27 r) []
theorem Kda : ∀ p r,Kd8 p = some r → Kd9 p r := by
 rintro fault0 r h
 unfold Kd8 at h
 refine b0 Tryz.f94 B94 5 [(0,I fault0)] fun c hc => ?_
 refine rs hc none [some (.new 1)] [(0,I fault0),(2,.ra 1 0)] [(1,.box [.nils,.nils,I 0,.nils])] tv ?_
 refine rs0 hc 3 [(2,.ra 1 0)] [(1,.box [.nils,.nils,I fault0,.nils])] ?_
 refine rt ?_
 obtain rfl := os h
 exact rq [true]
def Kdb (c : Ctx) : (List Int) → Exit → Q0a → Prop
 | a0 => Qcz c (.exit 0) (mkS [(5,.rs 1)] [(1,rI a0)])
def Kdc (p : LL × (List Int) × Int) : Option ((List Int)) :=
 match p with
 | (parts1,a0,a1) =>
  if (decide (a1 < (parts1.length : Int))) = true then
  (idx parts1 a1) >>= fun a2 =>
  (Qdq (a0.length + a2.length) 8) >>= fun _ =>
  Kdc (parts1,(a0 ++ a2),(wr (a1 + 1)))
  else
  some (a0)
 partial_fixpoint
def Kdd (p : LL × (List Int) × Int) (fl : (List Int)) : Prop :=
 match p with
 | (parts1,a0,a1) => ∀ c : Ctx,c.nt = 22 → WpL Tryz.prog c (cl (cl (cr (cl (cr (cr B97)))))) (Kdb c fl) (mkS [(1,sL parts1),(5,.rs 1),(6,I a1)] [(1,rI a0)])
theorem Kde : ∀ p r,Kdc p = some r → Kdd p r := by
 refine Kdc.partial_correctness Kdd ?_
 rintro spec_l3Glue_l0_f spec_l3Glue_l0_ih ⟨parts1,a0,a1⟩ r h
 intro c hc
 refine WpL.step ?_
 refine sN ?_
 refine rss hc none [oN,oN,some (.eqv (.no) ⟨[(11,I (parts1.length : Int))],[],[]⟩),oN] [(1,sL parts1),(5,.rs 1),(6,I a1),(12,.bool (decide (a1 < (parts1.length : Int))))] (ai (Qdj (d := 11) K11 parts1) tv) ?_
 refine ic h (fun a2 h => ?_) fun a2 h => ?_
 ·refine sk ?_
  refine sN ?_
  refine bk 1 ?_
  obtain ⟨a3,a4,_,a5,h⟩ := bq2 h
  refine rg hc none [oN,oN,oN,some (.el (sI a3)),oN,some (.eqv (.mk 3 true) ⟨[(20,.rs 3)],[(3,some (rI (a0 ++ a3))),(1,none)],[3]⟩),oN] [(1,sL parts1),(5,.rs 3),(6,I a1)] [(3,rI (a0 ++ a3))] (ac (xL a4) (congrArg (fun z => (⟨[(20,.rs 3)],[(3,some (.arr z)),(1,none)],[3]⟩ : Wr)) ((List.map_append).symm : (List.map I a0) ++ (List.map I a3) = List.map I (a0 ++ a3))) (Qdr (enc1 := I) (enc2 := I) (e1 := a0) (e2 := a3) (sz := 1) Qe0 Qe0 a5) tv) ?_
  refine K7e hc 3 [(1,sL parts1),(5,.rs 3),(6,I (wr (a1 + 1)))] ?_
  refine Qcv ?_
  exact WpL.view (fun a w hv => SRx.renL [(1,3)] hv (by kernel_rfl) (by kernel_rfl) (by kernel_rfl)) (spec_l3Glue_l0_ih _ _ h c hc)
 refine xt 0 ?_
 refine Qcp ?_
 refine Qcw ?_
 obtain rfl := os h
 exact iv []
def Kdf (p : Int × LL) : Option ((List Int)) :=
 match p with
 | (c0,parts1) =>
  (Kdc (parts1,[c0],0)) >>= fun a0 =>
  some a0
def Kdg (p : Int × LL) (r : (List Int)) : Prop :=
 match p with
 | (c0,parts1) => Q71 Tryz.prog 97 [I c0,sL parts1] (oI r) []
theorem Kdh : ∀ p r,Kdf p = some r → Kdg p r := by
 rintro ⟨c0,parts1⟩ r h
 unfold Kdf at h
 refine b0 Tryz.f97 B97 22 [(0,I c0),(1,sL parts1)] fun c hc => ?_
 refine rs0 hc 1 [(0,I c0),(1,sL parts1)] [] ?_
 refine rs hc none [oN,some (.mk 1 true),oN] [(1,sL parts1),(5,.rs 1)] [(1,.arr (List.map I [c0]))] tv ?_
 refine sN ?_
 refine K7f hc 1 [(1,sL parts1),(5,.rs 1),(6,I 0)] ?_
 refine bk 0 ?_
 obtain ⟨a0,a1,h⟩ := Qdd h
 have hL := Kde _ _ a1 c hc
 refine lp ?_
 refine WpL.into (e := (.exit 0)) (mkS [(5,.rs 1)] [(1,rI a0)]) hL ?_
 refine Qcr ?_
 refine K7f hc 2 [(4,.rs 1)] ?_
 refine rt ?_
 obtain rfl := os h
 exact rq [true]
def Kdi (c : Ctx) : (List Int) → Exit → Q0a → Prop
 | a0 => Qcz c (.exit 0) (mkS [(9,.rs 2)] [(2,rI a0)])
def Kdj (p : K00 × (List Int) × Int × (List Int) × (List Int) × Int) : Option ((List Int)) :=
 match p with
 | (s0,a1,g2,b3,a0,a2) =>
  if (decide (a2 < (a1.length : Int))) = true then
  (idx a1 a2) >>= fun a3 =>
  (idx b3 a2) >>= fun a4 =>
  (K9k (s0,g2,a4)) >>= fun a5 =>
  (K9h (s0,a3,a5)) >>= fun a6 =>
  (Qdq (a0.length + [a6].length) 8) >>= fun _ =>
  Kdj (s0,a1,g2,b3,(a0 ++ [a6]),(wr (a2 + 1)))
  else
  some (a0)
 partial_fixpoint
def Kdk (p : K00 × (List Int) × Int × (List Int) × (List Int) × Int) (fl : (List Int)) : Prop :=
 match p with
 | (s0,a1,g2,b3,a0,a2) => ∀ c : Ctx,c.nt = 35 → WpL Tryz.prog c (cl (cl (cr (cl (cr (cr B98)))))) (Kdi c fl) (mkS [(1,sI a1),(2,I g2),(3,sI b3),(4,.ra 1 0),(9,.rs 2),(10,I a2)] [(1,K1t s0),(2,rI a0)])
theorem Kdl : ∀ p r,Kdj p = some r → Kdk p r := by
 refine Kdj.partial_correctness Kdk ?_
 rintro spec_l3Sum_l0_f spec_l3Sum_l0_ih ⟨s0,a1,g2,b3,a0,a2⟩ r h
 intro c hc
 refine WpL.step ?_
 refine sN ?_
 refine rss hc none [oN,oN,some (.eqv (.no) ⟨[(14,I (a1.length : Int))],[],[]⟩),oN] [(1,sI a1),(2,I g2),(3,sI b3),(4,.ra 1 0),(9,.rs 2),(10,I a2),(15,.bool (decide (a2 < (a1.length : Int))))] (ai (Qdj (d := 14) I a1) tv) ?_
 refine ic h (fun a3 h => ?_) fun a3 h => ?_
 ·refine sk ?_
  refine sN ?_
  refine bk 1 ?_
  obtain ⟨a4,a5,a6,a7,a8,a9,b1,b2,h⟩ := bq4 h
  obtain ⟨_,b4,h⟩ := Qdd h
  refine rg hc (rx [[0],[0],[0],[0],[0,2,3],[0,2,3,4],[0],[0],[0],[0],[0,8,9],[0,8,9,10],[0,6,7,8,9,10,11],[0,1,2,3,4,5,6,7,8,9,10,11,12],[0,1,2,3,4,5,6,7,8,9,10,11,12,13],[15],[16]]) [oN,oN,oN,oN,some (.el (I a4)),oN,oN,oN,oN,oN,some (.el (I a6)),oN,oc (I a8),oc (I b1),some (.mk 5 true),some (.eqv (.mk 6 true) ⟨[(33,.rs 6)],[(6,some (rI (a0 ++ [b1]))),(2,none),(5,none)],[6]⟩),oN] [(1,sI a1),(2,I g2),(3,sI b3),(4,.ra 1 0),(9,.rs 6),(10,I a2)] [(1,K1t s0),(6,rI (a0 ++ [b1]))] (ab (ix a5) (ix a7) (cq (K9m _ _ a9) K3g (cq (K9j _ _ b2) K3e (ab (congrArg (fun z => (⟨[(33,.rs 6)],[(6,some (.arr z)),(2,none),(5,none)],[6]⟩ : Wr)) ((List.map_append).symm : (List.map I a0) ++ (List.map I [b1]) = List.map I (a0 ++ [b1]))) (Qdr (enc1 := I) (enc2 := I) (e1 := a0) (e2 := [b1]) (sz := 1) Qe0 Qe0 b4) tv)))) ?_
  refine K7e hc 3 [(1,sI a1),(2,I g2),(3,sI b3),(4,.ra 1 0),(9,.rs 6),(10,I (wr (a2 + 1)))] ?_
  refine Qcv ?_
  exact WpL.view (fun a w hv => SRx.renL [(2,6)] hv (by kernel_rfl) (by kernel_rfl) (by kernel_rfl)) (spec_l3Sum_l0_ih _ _ h c hc)
 refine xt 0 ?_
 refine Qcp ?_
 refine Qcw ?_
 obtain rfl := os h
 exact iv []
def Kdm (p : K00 × (List Int) × Int × (List Int)) : Option ((List Int)) :=
 match p with
 | (s0,a1,g2,b3) =>
  (Kdj (s0,a1,g2,b3,[],0)) >>= fun a0 =>
  some a0
def Kdn (p : K00 × (List Int) × Int × (List Int)) (r : (List Int)) : Prop :=
 match p with
 | (s0,a1,g2,b3) => Q71 Tryz.prog 98 [K1u s0,sI a1,I g2,sI b3] (oI r) []
theorem Kdo : ∀ p r,Kdm p = some r → Kdn p r := by
 rintro ⟨s0,a1,g2,b3⟩ r h
 unfold Kdm at h
 refine b0 Tryz.f98 B98 35 [(0,K1u s0),(1,sI a1),(2,I g2),(3,sI b3)] fun c hc => ?_
 refine rs hc none [some (.new 1),oN] [(1,sI a1),(2,I g2),(3,sI b3),(4,.ra 1 0)] [(1,K1t s0)] tv ?_
 refine rs hc none [some (.mk 2 true),oN] [(1,sI a1),(2,I g2),(3,sI b3),(4,.ra 1 0),(9,.rs 2)] [(1,K1t s0),(2,.arr (List.map I []))] tv ?_
 refine sN ?_
 refine K7f hc 1 [(1,sI a1),(2,I g2),(3,sI b3),(4,.ra 1 0),(9,.rs 2),(10,I 0)] ?_
 refine bk 0 ?_
 obtain ⟨a0,a2,h⟩ := Qdd h
 have hL := Kdl _ _ a2 c hc
 refine lp ?_
 refine WpL.into (e := (.exit 0)) (mkS [(9,.rs 2)] [(2,rI a0)]) hL ?_
 refine Qcr ?_
 refine K7f hc 2 [(8,.rs 2)] ?_
 refine rt ?_
 obtain rfl := os h
 exact rq [true]
def Kdp (p : (List Int) × (List Int)) : Option (K02) :=
 match p with
 | (ty0,needs1) =>
  if (decide ((ty0.length : Int) > 40)) = true then
  (Kd8 3) >>= fun a0 =>
  some a0
  else
  some (K02.mk ty0 needs1 0 [])
def Kdq (p : (List Int) × (List Int)) (r : K02) : Prop :=
 match p with
 | (ty0,needs1) => Q71 Tryz.prog 96 [sI ty0,sI needs1] (K1y r) []
theorem Kdr : ∀ p r,Kdp p = some r → Kdq p r := by
 rintro ⟨ty0,needs1⟩ r h
 unfold Kdp at h
 refine b0 Tryz.f96 B96 12 [(0,sI ty0),(1,sI needs1)] fun c hc => ?_
 refine rs hc none [some (.new 1)] [(0,sI ty0),(1,sI needs1),(4,.ra 1 0)] [(1,.box [.nils,.nils,I 0,.nils])] tv ?_
 refine sN ?_
 refine rss hc none [oN,some (.eqv (.no) ⟨[(6,I (ty0.length : Int))],[],[]⟩),oN] [(0,sI ty0),(1,sI needs1),(4,.ra 1 0),(7,.bool (decide ((ty0.length : Int) > 40)))] (ai (Qdj (d := 6) I ty0) tv) ?_
 refine ic h (fun a0 h => ?_) fun a0 h => ?_
 ·obtain ⟨a1,a2,h⟩ := Qdd h
  refine rs hc none [some (.call (K27 a1) [] 2),oN] [(4,.ra 1 0)] [(1,.box [.rs 2,.rs 3,I a1.ffault,.rs 4]),(2,rI a1.fty),(3,rI a1.fneeds),(4,rI a1.fpath)] (cq (Kda _ _ a2) K4q tv) ?_
  refine vz 2 (Qe5 a1.fty) [(4,.ra 1 0)] [(1,.box [sI a1.fty,.rs 3,I a1.ffault,.rs 4]),(3,rI a1.fneeds),(4,rI a1.fpath)] ?_
  refine vz 3 (Qe5 a1.fneeds) [(4,.ra 1 0)] [(1,.box [sI a1.fty,sI a1.fneeds,I a1.ffault,.rs 4]),(4,rI a1.fpath)] ?_
  refine vz 4 (Qe5 a1.fpath) [(4,.ra 1 0)] [(1,K1x a1)] ?_
  refine rt ?_
  obtain rfl := os h
  exact rq [false]
 refine sk ?_
 refine rs0 hc 4 [(4,.ra 1 0)] [(1,.box [sI ty0,sI needs1,I 0,.nils])] ?_
 refine rt ?_
 obtain rfl := os h
 exact rq [false]
def Kds (p : (List Int) × Int) : Option ((List Int)) :=
 match p with
 | (ty0,k1) =>
  (Kb7 (ty0,1)) >>= fun a0 =>
  if (k1 == 0) = true then
  (cut ty0 (some 1) (some a0) none) >>= fun a1 =>
  (Kd2 a1) >>= fun a2 =>
  some a2
  else
  (cut ty0 (some a0) none none) >>= fun a3 =>
  (Kd2 a3) >>= fun a4 =>
  some a4
def Kdt (p : (List Int) × Int) (r : (List Int)) : Prop :=
 match p with
 | (ty0,k1) => Q71 Tryz.prog 101 [sI ty0,I k1] (oI r) []
theorem Kdu : ∀ p r,Kds p = some r → Kdt p r := by
 rintro ⟨ty0,k1⟩ r h
 unfold Kds at h
 refine b0 Tryz.f101 K4v 18 [(0,sI ty0),(1,I k1)] fun c hc => ?_
 refine rs0 hc 1 [(0,sI ty0),(1,I k1)] [] ?_
 obtain ⟨a0,a1,h⟩ := Qdd h
 refine rs hc none [oN,oc (I a0),oN] [(0,sI ty0),(1,I k1),(5,I a0)] [] (cq (Kb9 _ _ a1) K3y tv) ?_
 refine sN ?_
 refine rs0 hc 2 [(0,sI ty0),(5,I a0),(9,.bool (k1 == 0))] [] ?_
 refine ic h (fun a2 h => ?_) fun a2 h => ?_
 ·obtain ⟨a3,a4,a5,a6,h⟩ := bq2 h
  refine rs hc none [oN,oN,some (.eqv (.no) ⟨[(12,sI a3)],[],[]⟩),oc (oI a5),oN] [(4,.rs 1)] [(1,rI a5)] (ab (Qdm (d := 12) I a4) (Qdl (enc := I) (sz := 1) Qdw a4) (cq (Kd4 _ _ a6) K4n tv)) ?_
  refine rt ?_
  obtain rfl := os h
  exact rq [true]
 refine sk ?_
 obtain ⟨a7,a8,a9,b1,h⟩ := bq2 h
 refine rs hc none [oN,oN,some (.eqv (.no) ⟨[(16,sI a7)],[],[]⟩),some (.call (oI a9) [] 2),oN] [(4,.rs 2)] [(2,rI a9)] (ab (Qdm (d := 16) I a8) (Qdl (enc := I) (sz := 1) Qdw a8) (cq (Kd4 _ _ b1) K4n tv)) ?_
 refine rt ?_
 obtain rfl := os h
 exact rq [true]
def Kdv (c : Ctx) : (Unit) ⊕ (Bool) → Exit → Q0a → Prop
 | .inl _ => Qcz c (.exit 0) (mkS [] [])
 | .inr r => Qd8 TIx Tryz.f63 [] (.bool r)
def Kdw (p : (List Int) × (List Int) × Int) : Option ((Unit) ⊕ (Bool)) :=
 match p with
 | (a0,b1,a1) =>
  if (decide (a1 < (a0.length : Int))) = true then
  (idx a0 a1) >>= fun a2 =>
  (idx b1 a1) >>= fun a3 =>
  if (a2 != a3) = true then
  some (.inr false)
  else
  Kdw (a0,b1,(wr (a1 + 1)))
  else
  some (.inl ())
 partial_fixpoint
def Kdx (p : (List Int) × (List Int) × Int) (fl : (Unit) ⊕ (Bool)) : Prop :=
 match p with
 | (a0,b1,a1) => ∀ c : Ctx,c.nt = 26 → WpL Tryz.prog c (cl (cl (cr (cl (cr (cr B63)))))) (Kdv c fl) (mkS [(0,sI a0),(1,sI b1),(5,I a1)] [])
theorem Kdy : ∀ p r,Kdw p = some r → Kdx p r := by
 refine Kdw.partial_correctness Kdx ?_
 rintro spec_l1Same_l0_f spec_l1Same_l0_ih ⟨a0,b1,a1⟩ r h
 intro c hc
 refine WpL.step ?_
 refine sN ?_
 refine rs hc none [oN,oN,some (.eqv (.no) ⟨[(13,I (a0.length : Int))],[],[]⟩),oN] [(0,sI a0),(1,sI b1),(5,I a1),(14,.bool (decide (a1 < (a0.length : Int))))] [] (ai (Qdj (d := 13) I a0) tv) ?_
 refine ic h (fun a2 h => ?_) fun a2 h => ?_
 ·refine sk ?_
  refine sN ?_
  refine bk 1 ?_
  obtain ⟨a3,a4,a5,a6,h⟩ := bq2 h
  refine rs hc (rx [[0],[0],[2],[3],[0],[0],[0,4,5],[0,4,5,6],[8]]) [oN,oN,some (.el (I a3)),oN,oN,oN,some (.el (I a5)),oN,oN] [(0,sI a0),(1,sI b1),(5,I a1),(25,.bool (a3 != a5))] [] (ab (ix a4) (ix a6) tv) ?_
  refine ic h (fun a7 h => ?_) fun a7 h => ?_
  ·refine rs0 hc 1 [(4,.bool false)] [] ?_
   refine rt ?_
   obtain rfl := os h
   exact re [true]
  refine sk ?_
  refine rg0 hc 3 [(0,sI a0),(1,sI b1),(5,I (wr (a1 + 1)))] [] ?_
  refine Qcv ?_
  exact (spec_l1Same_l0_ih _ _ h c hc)
 refine xt 0 ?_
 refine Qcp ?_
 refine Qcw ?_
 obtain rfl := os h
 exact iv []
def Kdz (p : (List Int) × (List Int)) : Option (Bool) :=
 match p with
 | (a0,b1) =>
  if ((a0.length : Int) != (b1.length : Int)) = true then
  some false
  else
  (Kdw (a0,b1,0)) >>= fun fl => match fl with
  | .inl () =>
   some true
  | .inr r =>
   some r
def Ke0 (p : (List Int) × (List Int)) (r : Bool) : Prop :=
 match p with
 | (a0,b1) => Q71 Tryz.prog 63 [sI a0,sI b1] (.bool r) []
theorem Ke1 : ∀ p r,Kdz p = some r → Ke0 p r := by
 rintro ⟨a0,b1⟩ r h
 unfold Kdz at h
 refine b0 Tryz.f63 B63 26 [(0,sI a0),(1,sI b1)] fun c hc => ?_
 refine rs0 hc 1 [(0,sI a0),(1,sI b1)] [] ?_
 refine sN ?_
 refine rs hc none [oN,some (.eqv (.no) ⟨[(7,I (a0.length : Int))],[],[]⟩),oN,some (.eqv (.no) ⟨[(9,I (b1.length : Int))],[],[]⟩),oN] [(0,sI a0),(1,sI b1),(10,.bool ((a0.length : Int) != (b1.length : Int)))] [] (ab (Qdj (d := 7) I a0) (Qdj (d := 9) I b1) tv) ?_
 refine ic h (fun a1 h => ?_) fun a1 h => ?_
 ·refine rs0 hc 1 [(4,.bool false)] [] ?_
  refine rt ?_
  obtain rfl := os h
  exact rq [true]
 refine sk ?_
 refine sN ?_
 refine rs0 hc 1 [(0,sI a0),(1,sI b1),(5,I 0)] [] ?_
 refine bk 0 ?_
 obtain ⟨fl,a2,h⟩ := Qdd h
 have hL := Kdy _ _ a2 c hc
 refine lp ?_
 rcases fl with ⟨⟩ | r
 ·refine WpL.into (e := (.exit 0)) (mkS [] []) hL ?_
  refine Qcr ?_
  refine rs0 hc 1 [(4,.bool true)] [] ?_
  refine rt ?_
  obtain rfl := os h
  exact rq [true]
 refine WpL.mono hL ?_
 rintro _ _ ⟨rfl,hfin⟩
 obtain rfl := os h
 exact ⟨.inl rfl,hfin⟩
def Ke2 (c : Ctx) : (List Int) → Exit → Q0a → Prop
 | a0 => Qcz c (.exit 0) (mkS [(7,.rs 2)] [(2,rI a0)])
def Ke3 (p : K00 × (List Int) × (List Int) × (List Int) × Int) : Option ((List Int)) :=
 match p with
 | (s0,a1,b2,a0,a2) =>
  if (decide (a2 < (a1.length : Int))) = true then
  (idx a1 a2) >>= fun a3 =>
  (idx b2 a2) >>= fun a4 =>
  (Ka5 (s0,a3,a4)) >>= fun a5 =>
  (Qdq (a0.length + [a5].length) 8) >>= fun _ =>
  Ke3 (s0,a1,b2,(a0 ++ [a5]),(wr (a2 + 1)))
  else
  some (a0)
 partial_fixpoint
def Ke4 (p : K00 × (List Int) × (List Int) × (List Int) × Int) (fl : (List Int)) : Prop :=
 match p with
 | (s0,a1,b2,a0,a2) => ∀ c : Ctx,c.nt = 30 → WpL Tryz.prog c (cl (cl (cr (cl (cr (cr K51)))))) (Ke2 c fl) (mkS [(1,sI a1),(2,sI b2),(3,.ra 1 0),(7,.rs 2),(8,I a2)] [(1,K1t s0),(2,rI a0)])
theorem Ke5 : ∀ p r,Ke3 p = some r → Ke4 p r := by
 refine Ke3.partial_correctness Ke4 ?_
 rintro spec_l3Join_l0_f spec_l3Join_l0_ih ⟨s0,a1,b2,a0,a2⟩ r h
 intro c hc
 refine WpL.step ?_
 refine sN ?_
 refine rss hc none [oN,oN,some (.eqv (.no) ⟨[(12,I (a1.length : Int))],[],[]⟩),oN] [(1,sI a1),(2,sI b2),(3,.ra 1 0),(7,.rs 2),(8,I a2),(13,.bool (decide (a2 < (a1.length : Int))))] (ai (Qdj (d := 12) I a1) tv) ?_
 refine ic h (fun a3 h => ?_) fun a3 h => ?_
 ·refine sk ?_
  refine sN ?_
  refine bk 1 ?_
  obtain ⟨a4,a5,a6,a7,a8,a9,_,b1,h⟩ := bq4 h
  refine rg hc (rx [[0],[0],[0],[0],[0,2,3],[0,2,3,4],[0],[0],[0,6,7],[0,6,7,8],[0,1,2,3,4,5,6,7,8,9],[0,1,2,3,4,5,6,7,8,9,10],[12],[13]]) [oN,oN,oN,oN,some (.el (I a4)),oN,oN,oN,some (.el (I a6)),oN,oc (I a8),some (.mk 5 true),some (.eqv (.mk 6 true) ⟨[(28,.rs 6)],[(6,some (rI (a0 ++ [a8]))),(2,none),(5,none)],[6]⟩),oN] [(1,sI a1),(2,sI b2),(3,.ra 1 0),(7,.rs 6),(8,I a2)] [(1,K1t s0),(6,rI (a0 ++ [a8]))] (ab (ix a5) (ix a7) (cq (Ka7 _ _ a9) K3l (ab (congrArg (fun z => (⟨[(28,.rs 6)],[(6,some (.arr z)),(2,none),(5,none)],[6]⟩ : Wr)) ((List.map_append).symm : (List.map I a0) ++ (List.map I [a8]) = List.map I (a0 ++ [a8]))) (Qdr (enc1 := I) (enc2 := I) (e1 := a0) (e2 := [a8]) (sz := 1) Qe0 Qe0 b1) tv))) ?_
  refine K7e hc 3 [(1,sI a1),(2,sI b2),(3,.ra 1 0),(7,.rs 6),(8,I (wr (a2 + 1)))] ?_
  refine Qcv ?_
  exact WpL.view (fun a w hv => SRx.renL [(2,6)] hv (by kernel_rfl) (by kernel_rfl) (by kernel_rfl)) (spec_l3Join_l0_ih _ _ h c hc)
 refine xt 0 ?_
 refine Qcp ?_
 refine Qcw ?_
 obtain rfl := os h
 exact iv []
def Ke6 (p : K00 × (List Int) × (List Int)) : Option ((List Int)) :=
 match p with
 | (s0,a1,b2) =>
  (Ke3 (s0,a1,b2,[],0)) >>= fun a0 =>
  some a0
def Ke7 (p : K00 × (List Int) × (List Int)) (r : (List Int)) : Prop :=
 match p with
 | (s0,a1,b2) => Q71 Tryz.prog 111 [K1u s0,sI a1,sI b2] (oI r) []
theorem Ke8 : ∀ p r,Ke6 p = some r → Ke7 p r := by
 rintro ⟨s0,a1,b2⟩ r h
 unfold Ke6 at h
 refine b0 Tryz.f111 K51 30 [(0,K1u s0),(1,sI a1),(2,sI b2)] fun c hc => ?_
 refine rs hc none [some (.new 1),oN] [(1,sI a1),(2,sI b2),(3,.ra 1 0)] [(1,K1t s0)] tv ?_
 refine rs hc none [some (.mk 2 true),oN] [(1,sI a1),(2,sI b2),(3,.ra 1 0),(7,.rs 2)] [(1,K1t s0),(2,.arr (List.map I []))] tv ?_
 refine sN ?_
 refine K7f hc 1 [(1,sI a1),(2,sI b2),(3,.ra 1 0),(7,.rs 2),(8,I 0)] ?_
 refine bk 0 ?_
 obtain ⟨a0,a2,h⟩ := Qdd h
 have hL := Ke5 _ _ a2 c hc
 refine lp ?_
 refine WpL.into (e := (.exit 0)) (mkS [(7,.rs 2)] [(2,rI a0)]) hL ?_
 refine Qcr ?_
 refine K7f hc 2 [(6,.rs 2)] ?_
 refine rt ?_
 obtain rfl := os h
 exact rq [true]
def Ke9 (c : Ctx) (s0 : K00) (ctx1 : LL) (t2 : K01) (a3 : K02) (a0 : K02) : ((List Int) × Bool) ⊕ (K02) → Exit → Q0a → Prop
 | .inl (a1,a2) => Qcz c .normal (mkS [(1,sL ctx1),(4,.ra 1 0),(6,.ra 2 0),(7,.ra 3 0),(8,.ra 4 0),(11,.ra 21 0),(13,I t2.fN),(14,.rs 27),(15,.bool a2)] [(1,K1t s0),(2,K1v t2),(3,K1x a3),(4,.box [.nils,.nils,I 0,.nils]),(21,K1x a0),(27,rI a1)])
 | .inr r => Qd8 TIx Tryz.f103 [] (K1y r)
def Kea (c : Ctx) (s0 : K00) (ctx1 : LL) (t2 : K01) (a3 : K02) (a0 : K02) : ((List Int) × Bool) ⊕ (K02) → Exit → Q0a → Prop
 | .inl (a1,a2) => Qcz c .normal (mkS [(1,sL ctx1),(4,.ra 1 0),(6,.ra 2 0),(7,.ra 3 0),(8,.ra 4 0),(11,.ra 21 0),(13,I t2.fN),(14,.rs 22),(15,.bool a2)] [(1,K1t s0),(2,K1v t2),(3,K1x a3),(4,.box [.nils,.nils,I 0,.nils]),(21,K1x a0),(22,rI a1)])
 | .inr r => Qd8 TIx Tryz.f103 [] (K1y r)
def Keb (c : Ctx) (s0 : K00) (ctx1 : LL) (t2 : K01) (a3 : K02) (a0 : K02) : (Int × (List Int) × Bool) ⊕ (K02) → Exit → Q0a → Prop
 | .inl (a1,a2,a4) => Qcz c .normal (mkS [(1,sL ctx1),(4,.ra 1 0),(6,.ra 2 0),(7,.ra 3 0),(8,.ra 4 0),(11,.ra 21 0),(13,I a1),(14,.rs 22),(15,.bool a4)] [(1,K1t s0),(2,K1v t2),(3,K1x a3),(4,.box [.nils,.nils,I 0,.nils]),(21,K1x a0),(22,rI a2)])
 | .inr r => Qd8 TIx Tryz.f103 [] (K1y r)
end Go.Am
