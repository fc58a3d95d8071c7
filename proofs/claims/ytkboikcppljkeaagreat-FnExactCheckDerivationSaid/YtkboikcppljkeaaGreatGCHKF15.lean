/- Functions of the program as pure functions,and that it computes them. Printed by a program of mine (gen.py). -/
import Derived.Test.YtkboikcppljkeaaGreatGCHKF13
set_option linter.unusedVariables false
set_option linter.unusedSimpArgs false
set_option maxRecDepth 100000
namespace Go.Am
open Go Go.Proofs
def Kou : Option (List (List Nat)) := rx [[0],[0],[2],[3],[0],[0],[0,4,5],[0,4,5,6],[8]]
def Kov : Option (List (List Nat)) := rx [[0],[0],[2],[3],[0],[0],[0,4,5],[0,4,5,6],[8],[9]]
def Kow (p : K00 × (List K02)) : Option (Int) :=
 match p with
 | (s0,l1) =>
  ((
  if ((l1.length : Int) == 0) = true then
   some (true)
  else
   (Kj2 s0) >>= fun a0 =>
   some ((!a0))
  ) : Option (Bool)) >>= fun a1 =>
  if a1 = true then
  some 0
  else
  (Kor (s0,l1,0)) >>= fun fl => match fl with
  | .inl () =>
   some (-1)
  | .inr r =>
   some r
def Kox (p : K00 × (List K02)) (r : Int) : Prop :=
 match p with
 | (s0,l1) => Q71 Tryz.prog 11 [K2e s0,.sl (List.map K12 l1)] (I r) []
theorem Koy : ∀ p r,Kow p = some r → Kox p r := by
 rintro ⟨s0,l1⟩ r h
 unfold Kow at h
 refine b0 Tryz.f11 B11 26 [(0,K2e s0),(1,.sl (List.map K12 l1))] fun c hc => ?_
 refine rs hc none [some (.new 1),oN] [(1,.sl (List.map K12 l1)),(2,.ra 1 0)] [(1,K2d s0)] tv ?_
 refine sN ?_
 refine sN ?_
 obtain ⟨a0,a1,h⟩ := Qdd h
 refine Wp.into (x := .normal) (mkS [(1,.sl (List.map K12 l1)),(2,.ra 1 0),(13,.bool a0)] [(1,K2d s0)]) ?_ ?_
 ·replace h := a1
  rcases is h with ⟨a2,h⟩ | ⟨a2,h⟩
  ·refine rgs hc none [oN,some (.eqv (.no) ⟨[(7,I (l1.length : Int))],[],[]⟩),oN,oN,o_,o_,o_,oT] [(1,.sl (List.map K12 l1)),(2,.ra 1 0),(13,.bool true)] (ai (Qdj (d := 7) K12 l1) (ar 3 (neF a2) (ai a2 tv))) ?_
   obtain rfl := os h
   exact Qcz.mk
  obtain ⟨a3,a4,h⟩ := Qdd h
  refine rgs hc none [oN,some (.eqv (.no) ⟨[(7,I (l1.length : Int))],[],[]⟩),oN,oN,oN,oc (.bool a3),oN,oF] [(1,.sl (List.map K12 l1)),(2,.ra 1 0),(13,.bool (!a3))] (ai (Qdj (d := 7) K12 l1) (ar 2 a2 (cq (Kj4 _ _ a4) K6e (ar 2 a2 tv)))) ?_
  obtain rfl := os h
  exact Qcz.mk
 clear a1
 refine ic h (fun a5 h => ?_) fun a5 h => ?_
 ·refine rs0 hc 1 [(4,I 0)] [] ?_
  refine rt ?_
  obtain rfl := os h
  exact rq [true]
 refine sk ?_
 refine sN ?_
 refine rss hc none [oN,some (.eqv (.no) ⟨[(15,I (l1.length : Int))],[],[]⟩),oN] [(1,.sl (List.map K12 l1)),(2,.ra 1 0),(15,I (l1.length : Int)),(16,I 0)] (ai (Qdj (d := 15) K12 l1) tv) ?_
 refine bk 0 ?_
 obtain ⟨fl,a6,h⟩ := Qdd h
 have hL := Kot _ _ a6 c hc
 refine lp ?_
 rcases fl with ⟨⟩ | r
 ·refine WpL.into (e := (.exit 0)) (mkS [] []) hL ?_
  refine Qcr ?_
  refine rs0 hc 1 [(4,I (-1))] [] ?_
  refine rt ?_
  obtain rfl := os h
  exact rq [true]
 refine WpL.mono hL ?_
 rintro _ _ ⟨rfl,hfin⟩
 obtain rfl := os h
 exact ⟨.inl rfl,hfin⟩
def Koz (c : Ctx) : (Unit) ⊕ (Bool) → Exit → Q0a → Prop
 | .inl _ => Qcz c (.exit 0) (mkS [] [])
 | .inr r => Qd8 TIx Tryz.f29 [] (.bool r)
def Kp0 (p : (List Int) × (List Int) × Int) : Option ((Unit) ⊕ (Bool)) :=
 match p with
 | (a0,b1,a1) =>
  if (decide (a1 < (a0.length : Int))) = true then
  (idx a0 a1) >>= fun a2 =>
  (idx b1 a1) >>= fun a3 =>
  if (a2 != a3) = true then
  some (.inr false)
  else
  Kp0 (a0,b1,(wr (a1 + 1)))
  else
  some (.inl ())
 partial_fixpoint
def Kp1 (p : (List Int) × (List Int) × Int) (fl : (Unit) ⊕ (Bool)) : Prop :=
 match p with
 | (a0,b1,a1) => ∀ c : Ctx,c.nt = 26 → WpL Tryz.prog c (cl (cl (cr (cl (cr (cr B29)))))) (Koz c fl) (mkS [(0,sI a0),(1,sI b1),(5,I a1)] [])
theorem Kp2 : ∀ p r,Kp0 p = some r → Kp1 p r := by
 refine Kp0.partial_correctness Kp1 ?_
 rintro laws_eqIntS_l0_f laws_eqIntS_l0_ih ⟨a0,b1,a1⟩ r h
 intro c hc
 refine WpL.step ?_
 refine sN ?_
 refine rs hc none [oN,oN,some (.eqv (.no) ⟨[(13,I (a0.length : Int))],[],[]⟩),oN] [(0,sI a0),(1,sI b1),(5,I a1),(14,.bool (decide (a1 < (a0.length : Int))))] [] (ai (Qdj (d := 13) I a0) tv) ?_
 refine ic h (fun a2 h => ?_) fun a2 h => ?_
 ·refine sk ?_
  refine sN ?_
  refine bk 1 ?_
  obtain ⟨a3,a4,a5,a6,h⟩ := bq2 h
  refine rs hc Kou [oN,oN,some (.el (I a3)),oN,oN,oN,some (.el (I a5)),oN,oN] [(0,sI a0),(1,sI b1),(5,I a1),(25,.bool (a3 != a5))] [] (ab (ix a4) (ix a6) tv) ?_
  refine ic h (fun a7 h => ?_) fun a7 h => ?_
  ·refine rs0 hc 1 [(4,.bool false)] [] ?_
   refine rt ?_
   obtain rfl := os h
   exact re [true]
  refine sk ?_
  refine rg0 hc 3 [(0,sI a0),(1,sI b1),(5,I (wr (a1 + 1)))] [] ?_
  refine Qcv ?_
  exact (laws_eqIntS_l0_ih _ _ h c hc)
 refine xt 0 ?_
 refine Qcp ?_
 refine Qcw ?_
 obtain rfl := os h
 exact iv []
def Kp3 (p : (List Int) × (List Int)) : Option (Bool) :=
 match p with
 | (a0,b1) =>
  if ((a0.length : Int) != (b1.length : Int)) = true then
  some false
  else
  (Kp0 (a0,b1,0)) >>= fun fl => match fl with
  | .inl () =>
   some true
  | .inr r =>
   some r
def Kp4 (p : (List Int) × (List Int)) (r : Bool) : Prop :=
 match p with
 | (a0,b1) => Q71 Tryz.prog 29 [sI a0,sI b1] (.bool r) []
theorem Kp5 : ∀ p r,Kp3 p = some r → Kp4 p r := by
 rintro ⟨a0,b1⟩ r h
 unfold Kp3 at h
 refine b0 Tryz.f29 B29 26 [(0,sI a0),(1,sI b1)] fun c hc => ?_
 refine rs0 hc 1 [(0,sI a0),(1,sI b1)] [] ?_
 refine sN ?_
 refine rs hc none [oN,some (.eqv (.no) ⟨[(7,I (a0.length : Int))],[],[]⟩),oN,some (.eqv (.no) ⟨[(9,I (b1.length : Int))],[],[]⟩),oN] [(0,sI a0),(1,sI b1),(10,.bool ((a0.length : Int) != (b1.length : Int)))] [] (ab (Qdj (d := 7) I a0) (Qdj (d := 9) I b1) tv) ?_
 refine ic h (fun a1 h => ?_) fun a1 h => ?_
 ·refine rs0 hc 1 [(4,.bool false)] [] ?_
  refine rt ?_
  obtain rfl := os h
  exact rq [true]
 refine sk ?_
 refine sN ?_
 refine rs0 hc 1 [(0,sI a0),(1,sI b1),(5,I 0)] [] ?_
 refine bk 0 ?_
 obtain ⟨fl,a2,h⟩ := Qdd h
 have hL := Kp2 _ _ a2 c hc
 refine lp ?_
 rcases fl with ⟨⟩ | r
 ·refine WpL.into (e := (.exit 0)) (mkS [] []) hL ?_
  refine Qcr ?_
  refine rs0 hc 1 [(4,.bool true)] [] ?_
  refine rt ?_
  obtain rfl := os h
  exact rq [true]
 refine WpL.mono hL ?_
 rintro _ _ ⟨rfl,hfin⟩
 obtain rfl := os h
 exact ⟨.inl rfl,hfin⟩
def Kp6 (c : Ctx) : (Unit) ⊕ (Bool) → Exit → Q0a → Prop
 | .inl _ => Qcz c (.exit 0) (mkS [] [])
 | .inr r => Qd8 TIx Tryz.f41 [] (.bool r)
def Kp7 (p : (List Bool) × (List Bool) × Int) : Option ((Unit) ⊕ (Bool)) :=
 match p with
 | (a0,b1,a1) =>
  if (decide (a1 < (a0.length : Int))) = true then
  (idx a0 a1) >>= fun a2 =>
  (idx b1 a1) >>= fun a3 =>
  if (a2 == a3) = true then
  Kp7 (a0,b1,(wr (a1 + 1)))
  else
  some (.inr false)
  else
  some (.inl ())
 partial_fixpoint
def Kp8 (p : (List Bool) × (List Bool) × Int) (fl : (Unit) ⊕ (Bool)) : Prop :=
 match p with
 | (a0,b1,a1) => ∀ c : Ctx,c.nt = 26 → WpL Tryz.prog c (cl (cl (cr (cl (cr (cr B41)))))) (Kp6 c fl) (mkS [(0,sB a0),(1,sB b1),(5,I a1)] [])
theorem Kp9 : ∀ p r,Kp7 p = some r → Kp8 p r := by
 refine Kp7.partial_correctness Kp8 ?_
 rintro laws_eqBoolS_l0_f laws_eqBoolS_l0_ih ⟨a0,b1,a1⟩ r h
 intro c hc
 refine WpL.step ?_
 refine sN ?_
 refine rs hc none [oN,oN,some (.eqv (.no) ⟨[(13,I (a0.length : Int))],[],[]⟩),oN] [(0,sB a0),(1,sB b1),(5,I a1),(14,.bool (decide (a1 < (a0.length : Int))))] [] (ai (Qdj (d := 13) AV.bool a0) tv) ?_
 refine ic h (fun a2 h => ?_) fun a2 h => ?_
 ·refine sk ?_
  refine sN ?_
  refine bk 1 ?_
  obtain ⟨a3,a4,a5,a6,h⟩ := bq2 h
  refine rs hc Kou [oN,oN,some (.el (.bool a3)),oN,oN,oN,some (.el (.bool a5)),oN,oN] [(0,sB a0),(1,sB b1),(5,I a1),(25,.bool (!(a3 == a5)))] [] (ab (Qdh (enc := AV.bool) (x := .bool a3) a4 (Qdu a3)) (Qdh (enc := AV.bool) (x := .bool a5) a6 (Qdu a5)) tv) ?_
  rcases is h with ⟨a7,h⟩ | ⟨a7,h⟩
  ·refine cF ((!(a3 == a5))) (nF a7) ?_
   refine sk ?_
   refine rg0 hc 3 [(0,sB a0),(1,sB b1),(5,I (wr (a1 + 1)))] [] ?_
   refine Qcv ?_
   exact (laws_eqBoolS_l0_ih _ _ h c hc)
  refine cT ((!(a3 == a5))) (nT a7) ?_
  refine rs0 hc 1 [(4,.bool false)] [] ?_
  refine rt ?_
  obtain rfl := os h
  exact re [true]
 refine xt 0 ?_
 refine Qcp ?_
 refine Qcw ?_
 obtain rfl := os h
 exact iv []
def Kpa (p : (List Bool) × (List Bool)) : Option (Bool) :=
 match p with
 | (a0,b1) =>
  if ((a0.length : Int) != (b1.length : Int)) = true then
  some false
  else
  (Kp7 (a0,b1,0)) >>= fun fl => match fl with
  | .inl () =>
   some true
  | .inr r =>
   some r
def Kpb (p : (List Bool) × (List Bool)) (r : Bool) : Prop :=
 match p with
 | (a0,b1) => Q71 Tryz.prog 41 [sB a0,sB b1] (.bool r) []
theorem Kpc : ∀ p r,Kpa p = some r → Kpb p r := by
 rintro ⟨a0,b1⟩ r h
 unfold Kpa at h
 refine b0 Tryz.f41 B41 26 [(0,sB a0),(1,sB b1)] fun c hc => ?_
 refine rs0 hc 1 [(0,sB a0),(1,sB b1)] [] ?_
 refine sN ?_
 refine rs hc none [oN,some (.eqv (.no) ⟨[(7,I (a0.length : Int))],[],[]⟩),oN,some (.eqv (.no) ⟨[(9,I (b1.length : Int))],[],[]⟩),oN] [(0,sB a0),(1,sB b1),(10,.bool ((a0.length : Int) != (b1.length : Int)))] [] (ab (Qdj (d := 7) AV.bool a0) (Qdj (d := 9) AV.bool b1) tv) ?_
 refine ic h (fun a1 h => ?_) fun a1 h => ?_
 ·refine rs0 hc 1 [(4,.bool false)] [] ?_
  refine rt ?_
  obtain rfl := os h
  exact rq [true]
 refine sk ?_
 refine sN ?_
 refine rs0 hc 1 [(0,sB a0),(1,sB b1),(5,I 0)] [] ?_
 refine bk 0 ?_
 obtain ⟨fl,a2,h⟩ := Qdd h
 have hL := Kp9 _ _ a2 c hc
 refine lp ?_
 rcases fl with ⟨⟩ | r
 ·refine WpL.into (e := (.exit 0)) (mkS [] []) hL ?_
  refine Qcr ?_
  refine rs0 hc 1 [(4,.bool true)] [] ?_
  refine rt ?_
  obtain rfl := os h
  exact rq [true]
 refine WpL.mono hL ?_
 rintro _ _ ⟨rfl,hfin⟩
 obtain rfl := os h
 exact ⟨.inl rfl,hfin⟩
def Kpd (p : K00 × K00) : Option (Bool) :=
 match p with
 | (a0,b1) =>
  if (a0.fSize != b1.fSize) = true then
  some false
  else
  (Kp3 (a0.fPlus,b1.fPlus)) >>= fun a1 =>
  if a1 = true then
  (Kp3 (a0.fTimes,b1.fTimes)) >>= fun a2 =>
  if a2 = true then
  (Kpa (a0.fBelow,b1.fBelow)) >>= fun a3 =>
  if a3 = true then
  some true
  else
  some false
  else
  some false
  else
  some false
def Kpe (p : K00 × K00) (r : Bool) : Prop :=
 match p with
 | (a0,b1) => Q71 Tryz.prog 12 [K2e a0,K2e b1] (.bool r) []
theorem Kpf : ∀ p r,Kpd p = some r → Kpe p r := by
 rintro ⟨a0,b1⟩ r h
 unfold Kpd at h
 refine b0 Tryz.f12 B12 28 [(0,K2e a0),(1,K2e b1)] fun c hc => ?_
 refine rs hc none [some (.new 1),some (.new 2),oN] [(2,.ra 1 0),(3,.ra 2 0)] [(1,K2d a0),(2,K2d b1)] tv ?_
 refine sN ?_
 refine K8d hc 5 [(2,.ra 1 0),(3,.ra 2 0),(9,.bool (a0.fSize != b1.fSize))] ?_
 refine ic h (fun a1 h => ?_) fun a1 h => ?_
 ·refine rs0 hc 1 [(4,.bool false)] [] ?_
  refine rt ?_
  obtain rfl := os h
  exact rq [true]
 refine sk ?_
 refine sN ?_
 obtain ⟨a2,a3,h⟩ := Qdd h
 refine rss hc none [oN,oN,oN,oN,oc (.bool a2),oN] [(2,.ra 1 0),(3,.ra 2 0),(15,.bool (!a2))] (cq (Kp5 _ _ a3) K83 tv) ?_
 rcases is h with ⟨a4,h⟩ | ⟨a4,h⟩
 ·refine cF (!a2) (nF a4) ?_
  refine sk ?_
  refine sN ?_
  obtain ⟨a5,a6,h⟩ := Qdd h
  refine rss hc none [oN,oN,oN,oN,oc (.bool a5),oN] [(2,.ra 1 0),(3,.ra 2 0),(21,.bool (!a5))] (cq (Kp5 _ _ a6) K83 tv) ?_
  rcases is h with ⟨a7,h⟩ | ⟨a7,h⟩
  ·refine cF (!a5) (nF a7) ?_
   refine sk ?_
   refine sN ?_
   obtain ⟨a8,a9,h⟩ := Qdd h
   refine rs hc none [oN,oN,oN,oN,oc (.bool a8),oN] [(27,.bool (!a8))] [] (cq (Kpc _ _ a9) K84 tv) ?_
   rcases is h with ⟨b2,h⟩ | ⟨b2,h⟩
   ·refine cF (!a8) (nF b2) ?_
    refine sk ?_
    refine rs0 hc 1 [(4,.bool true)] [] ?_
    refine rt ?_
    obtain rfl := os h
    exact rq [true]
   refine cT (!a8) (nT b2) ?_
   refine rs0 hc 1 [(4,.bool false)] [] ?_
   refine rt ?_
   obtain rfl := os h
   exact rq [true]
  refine cT (!a5) (nT a7) ?_
  refine rs0 hc 1 [(4,.bool false)] [] ?_
  refine rt ?_
  obtain rfl := os h
  exact rq [true]
 refine cT (!a2) (nT a4) ?_
 refine rs0 hc 1 [(4,.bool false)] [] ?_
 refine rt ?_
 obtain rfl := os h
 exact rq [true]
def Kpg (c : Ctx) : (Unit) ⊕ (Bool) → Exit → Q0a → Prop
 | .inl _ => Qcz c (.exit 0) (mkS [] [])
 | .inr r => Qd8 TIx Tryz.f20 [] (.bool r)
def Kph (p : LL × LL × Int) : Option ((Unit) ⊕ (Bool)) :=
 match p with
 | (a0,b1,a1) =>
  if (decide (a1 < (a0.length : Int))) = true then
  (idx a0 a1) >>= fun a2 =>
  (idx b1 a1) >>= fun a3 =>
  (Kp3 (a2,a3)) >>= fun a4 =>
  if a4 = true then
  Kph (a0,b1,(wr (a1 + 1)))
  else
  some (.inr false)
  else
  some (.inl ())
 partial_fixpoint
def Kpi (p : LL × LL × Int) (fl : (Unit) ⊕ (Bool)) : Prop :=
 match p with
 | (a0,b1,a1) => ∀ c : Ctx,c.nt = 27 → WpL Tryz.prog c (cl (cl (cr (cl (cr (cr B20)))))) (Kpg c fl) (mkS [(0,sL a0),(1,sL b1),(5,I a1)] [])
theorem Kpj : ∀ p r,Kph p = some r → Kpi p r := by
 refine Kph.partial_correctness Kpi ?_
 rintro laws_eqIntSS_l0_f laws_eqIntSS_l0_ih ⟨a0,b1,a1⟩ r h
 intro c hc
 refine WpL.step ?_
 refine sN ?_
 refine rs hc none [oN,oN,some (.eqv (.no) ⟨[(13,I (a0.length : Int))],[],[]⟩),oN] [(0,sL a0),(1,sL b1),(5,I a1),(14,.bool (decide (a1 < (a0.length : Int))))] [] (ai (Qdj (d := 13) K07 a0) tv) ?_
 refine ic h (fun a2 h => ?_) fun a2 h => ?_
 ·refine sk ?_
  refine sN ?_
  refine bk 1 ?_
  obtain ⟨a3,a4,a5,a6,a7,a8,h⟩ := bq3 h
  refine rs hc Kov [oN,oN,some (.el (sI a3)),oN,oN,oN,some (.el (sI a5)),oN,oc (.bool a7),oN] [(0,sL a0),(1,sL b1),(5,I a1),(26,.bool (!a7))] [] (ab (xL a4) (xL a6) (cq (Kp5 _ _ a8) K83 tv)) ?_
  rcases is h with ⟨a9,h⟩ | ⟨a9,h⟩
  ·refine cF (!a7) (nF a9) ?_
   refine sk ?_
   refine rg0 hc 3 [(0,sL a0),(1,sL b1),(5,I (wr (a1 + 1)))] [] ?_
   refine Qcv ?_
   exact (laws_eqIntSS_l0_ih _ _ h c hc)
  refine cT (!a7) (nT a9) ?_
  refine rs0 hc 1 [(4,.bool false)] [] ?_
  refine rt ?_
  obtain rfl := os h
  exact re [true]
 refine xt 0 ?_
 refine Qcp ?_
 refine Qcw ?_
 obtain rfl := os h
 exact iv []
def Kpk (p : LL × LL) : Option (Bool) :=
 match p with
 | (a0,b1) =>
  if ((a0.length : Int) != (b1.length : Int)) = true then
  some false
  else
  (Kph (a0,b1,0)) >>= fun fl => match fl with
  | .inl () =>
   some true
  | .inr r =>
   some r
def Kpl (p : LL × LL) (r : Bool) : Prop :=
 match p with
 | (a0,b1) => Q71 Tryz.prog 20 [sL a0,sL b1] (.bool r) []
theorem Kpm : ∀ p r,Kpk p = some r → Kpl p r := by
 rintro ⟨a0,b1⟩ r h
 unfold Kpk at h
 refine b0 Tryz.f20 B20 27 [(0,sL a0),(1,sL b1)] fun c hc => ?_
 refine rs0 hc 1 [(0,sL a0),(1,sL b1)] [] ?_
 refine sN ?_
 refine rs hc none [oN,some (.eqv (.no) ⟨[(7,I (a0.length : Int))],[],[]⟩),oN,some (.eqv (.no) ⟨[(9,I (b1.length : Int))],[],[]⟩),oN] [(0,sL a0),(1,sL b1),(10,.bool ((a0.length : Int) != (b1.length : Int)))] [] (ab (Qdj (d := 7) K07 a0) (Qdj (d := 9) K07 b1) tv) ?_
 refine ic h (fun a1 h => ?_) fun a1 h => ?_
 ·refine rs0 hc 1 [(4,.bool false)] [] ?_
  refine rt ?_
  obtain rfl := os h
  exact rq [true]
 refine sk ?_
 refine sN ?_
 refine rs0 hc 1 [(0,sL a0),(1,sL b1),(5,I 0)] [] ?_
 refine bk 0 ?_
 obtain ⟨fl,a2,h⟩ := Qdd h
 have hL := Kpj _ _ a2 c hc
 refine lp ?_
 rcases fl with ⟨⟩ | r
 ·refine WpL.into (e := (.exit 0)) (mkS [] []) hL ?_
  refine Qcr ?_
  refine rs0 hc 1 [(4,.bool true)] [] ?_
  refine rt ?_
  obtain rfl := os h
  exact rq [true]
 refine WpL.mono hL ?_
 rintro _ _ ⟨rfl,hfin⟩
 obtain rfl := os h
 exact ⟨.inl rfl,hfin⟩
def Kpn (c : Ctx) : (Unit) ⊕ (Bool) → Exit → Q0a → Prop
 | .inl _ => Qcz c (.exit 0) (mkS [] [])
 | .inr r => Qd8 TIx Tryz.f49 [] (.bool r)
mutual
def Kpo (p : K01 × K01) : Option (Bool) :=
 match p with
 | (a0,b1) =>
  if (a0.fOp != b1.fOp) = true then
  some false
  else
  if (a0.fN != b1.fN) = true then
  some false
  else
  (Kp3 (a0.fType,b1.fType)) >>= fun a1 =>
  if a1 = true then
  (Kpp (a0.fKids,b1.fKids)) >>= fun a2 =>
  if a2 = true then
  some true
  else
  some false
  else
  some false
 partial_fixpoint
def Kpp (p : (List K01) × (List K01)) : Option (Bool) :=
 match p with
 | (a0,b1) =>
  if ((a0.length : Int) != (b1.length : Int)) = true then
  some false
  else
  (Kpq (a0,b1,0)) >>= fun fl => match fl with
  | .inl () =>
   some true
  | .inr r =>
   some r
 partial_fixpoint
def Kpq (p : (List K01) × (List K01) × Int) : Option ((Unit) ⊕ (Bool)) :=
 match p with
 | (a0,b1,a1) =>
  if (decide (a1 < (a0.length : Int))) = true then
  (idx a0 a1) >>= fun a2 =>
  (idx b1 a1) >>= fun a3 =>
  (Kpo (a2,a3)) >>= fun a4 =>
  if a4 = true then
  Kpq (a0,b1,(wr (a1 + 1)))
  else
  some (.inr false)
  else
  some (.inl ())
 partial_fixpoint
end
def Kpr (p : K01 × K01) (r : Bool) : Prop :=
 match p with
 | (a0,b1) => Q71 Tryz.prog 21 [K2g a0,K2g b1] (.bool r) []
def Kps (p : (List K01) × (List K01)) (r : Bool) : Prop :=
 match p with
 | (a0,b1) => Q71 Tryz.prog 49 [.sl (List.map K0s a0),.sl (List.map K0s b1)] (.bool r) []
def Kpt (p : (List K01) × (List K01) × Int) (fl : (Unit) ⊕ (Bool)) : Prop :=
 match p with
 | (a0,b1,a1) => ∀ c : Ctx,c.nt = 27 → WpL Tryz.prog c (cl (cl (cr (cl (cr (cr B49)))))) (Kpn c fl) (mkS [(0,.sl (List.map K0s a0)),(1,.sl (List.map K0s b1)),(5,I a1)] [])
theorem Kpu : (∀ p r,Kpo p = some r → Kpr p r) ∧ (∀ p r,Kpp p = some r → Kps p r) ∧ (∀ p r,Kpq p = some r → Kpt p r) := by
 refine Kpo.mutual_partial_correctness Kpr Kps Kpt ?_ ?_ ?_
 ·rintro laws_eqTermS_f laws_eqTermS_ih ⟨a0,b1⟩ r h
  refine b0 Tryz.f21 B21 27 [(0,K2g a0),(1,K2g b1)] fun c hc => ?_
  refine rs hc none [some (.new 1),some (.new 2),oN] [(2,.ra 1 0),(3,.ra 2 0)] [(1,K2f a0),(2,K2f b1)] tv ?_
  refine sN ?_
  refine K8d hc 5 [(2,.ra 1 0),(3,.ra 2 0),(9,.bool (a0.fOp != b1.fOp))] ?_
  refine ic h (fun a1 h => ?_) fun a1 h => ?_
  ·refine rs0 hc 1 [(4,.bool false)] [] ?_
   refine rt ?_
   obtain rfl := os h
   exact rq [true]
  refine sk ?_
  refine sN ?_
  refine K8d hc 5 [(2,.ra 1 0),(3,.ra 2 0),(14,.bool (a0.fN != b1.fN))] ?_
  refine ic h (fun a2 h => ?_) fun a2 h => ?_
  ·refine rs0 hc 1 [(4,.bool false)] [] ?_
   refine rt ?_
   obtain rfl := os h
   exact rq [true]
  refine sk ?_
  refine sN ?_
  obtain ⟨a3,a4,h⟩ := Qdd h
  refine rss hc none [oN,oN,oN,oN,oc (.bool a3),oN] [(2,.ra 1 0),(3,.ra 2 0),(20,.bool (!a3))] (cq (Kp5 _ _ a4) K83 tv) ?_
  rcases is h with ⟨a5,h⟩ | ⟨a5,h⟩
  ·refine cF (!a3) (nF a5) ?_
   refine sk ?_
   refine sN ?_
   obtain ⟨a6,a7,h⟩ := Qdd h
   refine rs hc none [oN,oN,oN,oN,oc (.bool a6),oN] [(26,.bool (!a6))] [] (cq (laws_eqTermS_ih _ _ a7) K87 tv) ?_
   rcases is h with ⟨a8,h⟩ | ⟨a8,h⟩
   ·refine cF (!a6) (nF a8) ?_
    refine sk ?_
    refine rs0 hc 1 [(4,.bool true)] [] ?_
    refine rt ?_
    obtain rfl := os h
    exact rq [true]
   refine cT (!a6) (nT a8) ?_
   refine rs0 hc 1 [(4,.bool false)] [] ?_
   refine rt ?_
   obtain rfl := os h
   exact rq [true]
  refine cT (!a3) (nT a5) ?_
  refine rs0 hc 1 [(4,.bool false)] [] ?_
  refine rt ?_
  obtain rfl := os h
  exact rq [true]
 ·rintro laws_eqTermS_l0_f laws_eqTermS_l0_ih ⟨a0,b1⟩ r h
  refine b0 Tryz.f49 B49 27 [(0,.sl (List.map K0s a0)),(1,.sl (List.map K0s b1))] fun c hc => ?_
  refine rs0 hc 1 [(0,.sl (List.map K0s a0)),(1,.sl (List.map K0s b1))] [] ?_
  refine sN ?_
  refine rs hc none [oN,some (.eqv (.no) ⟨[(7,I (a0.length : Int))],[],[]⟩),oN,some (.eqv (.no) ⟨[(9,I (b1.length : Int))],[],[]⟩),oN] [(0,.sl (List.map K0s a0)),(1,.sl (List.map K0s b1)),(10,.bool ((a0.length : Int) != (b1.length : Int)))] [] (ab (Qdj (d := 7) K0s a0) (Qdj (d := 9) K0s b1) tv) ?_
  refine ic h (fun a1 h => ?_) fun a1 h => ?_
  ·refine rs0 hc 1 [(4,.bool false)] [] ?_
   refine rt ?_
   obtain rfl := os h
   exact rq [true]
  refine sk ?_
  refine sN ?_
  refine rs0 hc 1 [(0,.sl (List.map K0s a0)),(1,.sl (List.map K0s b1)),(5,I 0)] [] ?_
  refine bk 0 ?_
  obtain ⟨fl,a9,h⟩ := Qdd h
  have hL := laws_eqTermS_l0_ih _ _ a9 c hc
  refine lp ?_
  rcases fl with ⟨⟩ | r
  ·refine WpL.into (e := (.exit 0)) (mkS [] []) hL ?_
   refine Qcr ?_
   refine rs0 hc 1 [(4,.bool true)] [] ?_
   refine rt ?_
   obtain rfl := os h
   exact rq [true]
  refine WpL.mono hL ?_
  rintro _ _ ⟨rfl,hfin⟩
  obtain rfl := os h
  exact ⟨.inl rfl,hfin⟩
 ·rintro laws_eqTerm_f laws_eqTermS_l0_f laws_eqTerm_ih laws_eqTermS_l0_ih ⟨a0,b1,b2⟩ r h
  intro c hc
  refine WpL.step ?_
  refine sN ?_
  refine rs hc none [oN,oN,some (.eqv (.no) ⟨[(13,I (a0.length : Int))],[],[]⟩),oN] [(0,.sl (List.map K0s a0)),(1,.sl (List.map K0s b1)),(5,I b2),(14,.bool (decide (b2 < (a0.length : Int))))] [] (ai (Qdj (d := 13) K0s a0) tv) ?_
  refine ic h (fun b3 h => ?_) fun b3 h => ?_
  ·refine sk ?_
   refine sN ?_
   refine bk 1 ?_
   obtain ⟨b4,b5,b6,b7,b8,b9,h⟩ := bq3 h
   refine rs hc Kov [oN,oN,some (.el (K2g b4)),oN,oN,oN,some (.el (K2g b6)),oN,oc (.bool b8),oN] [(0,.sl (List.map K0s a0)),(1,.sl (List.map K0s b1)),(5,I b2),(26,.bool (!b8))] [] (ab (Qdh b5 (K0z b4)) (Qdh b7 (K0z b6)) (cq (laws_eqTerm_ih _ _ b9) K88 tv)) ?_
   rcases is h with ⟨c0,h⟩ | ⟨c0,h⟩
   ·refine cF (!b8) (nF c0) ?_
    refine sk ?_
    refine rg0 hc 3 [(0,.sl (List.map K0s a0)),(1,.sl (List.map K0s b1)),(5,I (wr (b2 + 1)))] [] ?_
    refine Qcv ?_
    exact (laws_eqTermS_l0_ih _ _ h c hc)
   refine cT (!b8) (nT c0) ?_
   refine rs0 hc 1 [(4,.bool false)] [] ?_
   refine rt ?_
   obtain rfl := os h
   exact re [true]
  refine xt 0 ?_
  refine Qcp ?_
  refine Qcw ?_
  obtain rfl := os h
  exact iv []
theorem Kpv : ∀ p r,Kpo p = some r → Kpr p r := Kpu.1
theorem Kpw : ∀ p r,Kpp p = some r → Kps p r := Kpu.2.1
theorem Kpx : ∀ p r,Kpq p = some r → Kpt p r := Kpu.2.2
def Kpy (p : K02 × K02) : Option (Bool) :=
 match p with
 | (a0,b1) =>
  (Kpk (a0.fCtx,b1.fCtx)) >>= fun a1 =>
  if a1 = true then
  (Kp3 (a0.fBudgets,b1.fBudgets)) >>= fun a2 =>
  if a2 = true then
  (Kpo (a0.fTerm,b1.fTerm)) >>= fun a3 =>
  if a3 = true then
  (Kp3 (a0.fType,b1.fType)) >>= fun a4 =>
  if a4 = true then
  (Kp3 (a0.fFrom,b1.fFrom)) >>= fun a5 =>
  if a5 = true then
  some true
  else
  some false
  else
  some false
  else
  some false
  else
  some false
  else
  some false
def Kpz (p : K02 × K02) (r : Bool) : Prop :=
 match p with
 | (a0,b1) => Q71 Tryz.prog 42 [K2i a0,K2i b1] (.bool r) []
theorem Kq0 : ∀ p r,Kpy p = some r → Kpz p r := by
 rintro ⟨a0,b1⟩ r h
 unfold Kpy at h
 refine b0 Tryz.f42 B42 35 [(0,K2i a0),(1,K2i b1)] fun c hc => ?_
 refine rs hc none [some (.new 1),some (.new 2),oN] [(2,.ra 1 0),(3,.ra 2 0)] [(1,K2h a0),(2,K2h b1)] tv ?_
 refine sN ?_
 obtain ⟨a1,a2,h⟩ := Qdd h
 refine rss hc none [oN,oN,oN,oN,oc (.bool a1),oN] [(2,.ra 1 0),(3,.ra 2 0),(10,.bool (!a1))] (cq (Kpm _ _ a2) K86 tv) ?_
 rcases is h with ⟨a3,h⟩ | ⟨a3,h⟩
 ·refine cF (!a1) (nF a3) ?_
  refine sk ?_
  refine sN ?_
  obtain ⟨a4,a5,h⟩ := Qdd h
  refine rss hc none [oN,oN,oN,oN,oc (.bool a4),oN] [(2,.ra 1 0),(3,.ra 2 0),(16,.bool (!a4))] (cq (Kp5 _ _ a5) K83 tv) ?_
  rcases is h with ⟨a6,h⟩ | ⟨a6,h⟩
  ·refine cF (!a4) (nF a6) ?_
   refine sk ?_
   refine sN ?_
   obtain ⟨a7,a8,h⟩ := Qdd h
   refine rss hc none [oN,oN,oN,oN,oc (.bool a7),oN] [(2,.ra 1 0),(3,.ra 2 0),(22,.bool (!a7))] (cq (Kpv _ _ a8) K88 tv) ?_
   rcases is h with ⟨a9,h⟩ | ⟨a9,h⟩
   ·refine cF (!a7) (nF a9) ?_
    refine sk ?_
    refine sN ?_
    obtain ⟨b2,b3,h⟩ := Qdd h
    refine rss hc none [oN,oN,oN,oN,oc (.bool b2),oN] [(2,.ra 1 0),(3,.ra 2 0),(28,.bool (!b2))] (cq (Kp5 _ _ b3) K83 tv) ?_
    rcases is h with ⟨b4,h⟩ | ⟨b4,h⟩
    ·refine cF (!b2) (nF b4) ?_
     refine sk ?_
     refine sN ?_
     obtain ⟨b5,b6,h⟩ := Qdd h
     refine rs hc none [oN,oN,oN,oN,oc (.bool b5),oN] [(34,.bool (!b5))] [] (cq (Kp5 _ _ b6) K83 tv) ?_
     rcases is h with ⟨b7,h⟩ | ⟨b7,h⟩
     ·refine cF (!b5) (nF b7) ?_
      refine sk ?_
      refine rs0 hc 1 [(4,.bool true)] [] ?_
      refine rt ?_
      obtain rfl := os h
      exact rq [true]
     refine cT (!b5) (nT b7) ?_
     refine rs0 hc 1 [(4,.bool false)] [] ?_
     refine rt ?_
     obtain rfl := os h
     exact rq [true]
    refine cT (!b2) (nT b4) ?_
    refine rs0 hc 1 [(4,.bool false)] [] ?_
    refine rt ?_
    obtain rfl := os h
    exact rq [true]
   refine cT (!a7) (nT a9) ?_
   refine rs0 hc 1 [(4,.bool false)] [] ?_
   refine rt ?_
   obtain rfl := os h
   exact rq [true]
  refine cT (!a4) (nT a6) ?_
  refine rs0 hc 1 [(4,.bool false)] [] ?_
  refine rt ?_
  obtain rfl := os h
  exact rq [true]
 refine cT (!a1) (nT a3) ?_
 refine rs0 hc 1 [(4,.bool false)] [] ?_
 refine rt ?_
 obtain rfl := os h
 exact rq [true]
def Kq1 (c : Ctx) : (Unit) ⊕ (Bool) → Exit → Q0a → Prop
 | .inl _ => Qcz c (.exit 0) (mkS [] [])
 | .inr r => Qd8 TIx Tryz.f13 [] (.bool r)
def Kq2 (p : (List K02) × (List K02) × Int) : Option ((Unit) ⊕ (Bool)) :=
 match p with
 | (a0,b1,a1) =>
  if (decide (a1 < (a0.length : Int))) = true then
  (idx a0 a1) >>= fun a2 =>
  (idx b1 a1) >>= fun a3 =>
  (Kpy (a2,a3)) >>= fun a4 =>
  if a4 = true then
  Kq2 (a0,b1,(wr (a1 + 1)))
  else
  some (.inr false)
  else
  some (.inl ())
 partial_fixpoint
def Kq3 (p : (List K02) × (List K02) × Int) (fl : (Unit) ⊕ (Bool)) : Prop :=
 match p with
 | (a0,b1,a1) => ∀ c : Ctx,c.nt = 27 → WpL Tryz.prog c (cl (cl (cr (cl (cr (cr B13)))))) (Kq1 c fl) (mkS [(0,.sl (List.map K12 a0)),(1,.sl (List.map K12 b1)),(5,I a1)] [])
theorem Kq4 : ∀ p r,Kq2 p = some r → Kq3 p r := by
 refine Kq2.partial_correctness Kq3 ?_
 rintro laws_eqJudgmentS_l0_f laws_eqJudgmentS_l0_ih ⟨a0,b1,a1⟩ r h
 intro c hc
 refine WpL.step ?_
 refine sN ?_
 refine rs hc none [oN,oN,some (.eqv (.no) ⟨[(13,I (a0.length : Int))],[],[]⟩),oN] [(0,.sl (List.map K12 a0)),(1,.sl (List.map K12 b1)),(5,I a1),(14,.bool (decide (a1 < (a0.length : Int))))] [] (ai (Qdj (d := 13) K12 a0) tv) ?_
 refine ic h (fun a2 h => ?_) fun a2 h => ?_
 ·refine sk ?_
  refine sN ?_
  refine bk 1 ?_
  obtain ⟨a3,a4,a5,a6,a7,a8,h⟩ := bq3 h
  refine rs hc Kov [oN,oN,some (.el (K2i a3)),oN,oN,oN,some (.el (K2i a5)),oN,oc (.bool a7),oN] [(0,.sl (List.map K12 a0)),(1,.sl (List.map K12 b1)),(5,I a1),(26,.bool (!a7))] [] (ab (Qdh a4 (K1e a3)) (Qdh a6 (K1e a5)) (cq (Kq0 _ _ a8) K89 tv)) ?_
  rcases is h with ⟨a9,h⟩ | ⟨a9,h⟩
  ·refine cF (!a7) (nF a9) ?_
   refine sk ?_
   refine rg0 hc 3 [(0,.sl (List.map K12 a0)),(1,.sl (List.map K12 b1)),(5,I (wr (a1 + 1)))] [] ?_
   refine Qcv ?_
   exact (laws_eqJudgmentS_l0_ih _ _ h c hc)
  refine cT (!a7) (nT a9) ?_
  refine rs0 hc 1 [(4,.bool false)] [] ?_
  refine rt ?_
  obtain rfl := os h
  exact re [true]
 refine xt 0 ?_
 refine Qcp ?_
 refine Qcw ?_
 obtain rfl := os h
 exact iv []
def Kq5 (p : (List K02) × (List K02)) : Option (Bool) :=
 match p with
 | (a0,b1) =>
  if ((a0.length : Int) != (b1.length : Int)) = true then
  some false
  else
  (Kq2 (a0,b1,0)) >>= fun fl => match fl with
  | .inl () =>
   some true
  | .inr r =>
   some r
def Kq6 (p : (List K02) × (List K02)) (r : Bool) : Prop :=
 match p with
 | (a0,b1) => Q71 Tryz.prog 13 [.sl (List.map K12 a0),.sl (List.map K12 b1)] (.bool r) []
theorem Kq7 : ∀ p r,Kq5 p = some r → Kq6 p r := by
 rintro ⟨a0,b1⟩ r h
 unfold Kq5 at h
 refine b0 Tryz.f13 B13 27 [(0,.sl (List.map K12 a0)),(1,.sl (List.map K12 b1))] fun c hc => ?_
 refine rs0 hc 1 [(0,.sl (List.map K12 a0)),(1,.sl (List.map K12 b1))] [] ?_
 refine sN ?_
 refine rs hc none [oN,some (.eqv (.no) ⟨[(7,I (a0.length : Int))],[],[]⟩),oN,some (.eqv (.no) ⟨[(9,I (b1.length : Int))],[],[]⟩),oN] [(0,.sl (List.map K12 a0)),(1,.sl (List.map K12 b1)),(10,.bool ((a0.length : Int) != (b1.length : Int)))] [] (ab (Qdj (d := 7) K12 a0) (Qdj (d := 9) K12 b1) tv) ?_
 refine ic h (fun a1 h => ?_) fun a1 h => ?_
 ·refine rs0 hc 1 [(4,.bool false)] [] ?_
  refine rt ?_
  obtain rfl := os h
  exact rq [true]
 refine sk ?_
 refine sN ?_
 refine rs0 hc 1 [(0,.sl (List.map K12 a0)),(1,.sl (List.map K12 b1)),(5,I 0)] [] ?_
 refine bk 0 ?_
 obtain ⟨fl,a2,h⟩ := Qdd h
 have hL := Kq4 _ _ a2 c hc
 refine lp ?_
 rcases fl with ⟨⟩ | r
 ·refine WpL.into (e := (.exit 0)) (mkS [] []) hL ?_
  refine Qcr ?_
  refine rs0 hc 1 [(4,.bool true)] [] ?_
  refine rt ?_
  obtain rfl := os h
  exact rq [true]
 refine WpL.mono hL ?_
 rintro _ _ ⟨rfl,hfin⟩
 obtain rfl := os h
 exact ⟨.inl rfl,hfin⟩
def Kq8 (p : K00 × (List K02)) : Option (Bool) :=
 match p with
 | (aS0,aL1) =>
  (K8k (aS0,1048576)) >>= fun a0 =>
  if (decide (a0 < 0)) = true then
  some true
  else
  (K9c (aL1,a0)) >>= fun a1 =>
  if (decide (a1 < 0)) = true then
  some true
  else
  (K9t aS0) >>= fun a2 =>
  (Kan aL1) >>= fun a3 =>
  (Khk (a2,a3)) >>= fun a4 =>
  (K9t aS0) >>= fun a5 =>
  (Kan aL1) >>= fun a6 =>
  (Kow (a5,a6)) >>= fun a7 =>
  if (a7 != a4) = true then
  some false
  else
  (K9t aS0) >>= fun a8 =>
  (Kpd (a5,a8)) >>= fun a9 =>
  if a9 = true then
  (Kan aL1) >>= fun b1 =>
  (Kq5 (a6,b1)) >>= fun b2 =>
  if b2 = true then
  some true
  else
  some false
  else
  some false
def Kq9 (p : K00 × (List K02)) (r : Bool) : Prop :=
 match p with
 | (aS0,aL1) => Q71 Tryz.prog 3 [K2e aS0,.sl (List.map K12 aL1)] (.bool r) []
theorem Kqa : ∀ p r,Kq8 p = some r → Kq9 p r := by
 rintro ⟨aS0,aL1⟩ r h
 unfold Kq8 at h
 refine b0 Tryz.f3 B3 45 [(0,K2e aS0),(1,.sl (List.map K12 aL1))] fun c hc => ?_
 refine rs hc none [some (.new 1),oN] [(1,.sl (List.map K12 aL1)),(2,.ra 1 0)] [(1,K2d aS0)] tv ?_
 refine K8d hc 1 [(1,.sl (List.map K12 aL1)),(2,.ra 1 0),(5,I 1048576)] ?_
 obtain ⟨a0,a1,h⟩ := Qdd h
 refine rss hc none [oN,oN,oc (I a0),oN] [(1,.sl (List.map K12 aL1)),(2,.ra 1 0),(5,I a0)] (cq (K8m _ _ a1) K3t tv) ?_
 refine sN ?_
 refine K8d hc 2 [(1,.sl (List.map K12 aL1)),(2,.ra 1 0),(5,I a0),(14,.bool (decide (a0 < 0)))] ?_
 refine ic h (fun a2 h => ?_) fun a2 h => ?_
 ·refine rs0 hc 1 [(4,.bool true)] [] ?_
  refine rt ?_
  obtain rfl := os h
  exact rq [true]
 refine sk ?_
 obtain ⟨a3,a4,h⟩ := Qdd h
 refine rss hc none [oN,oN,oc (I a3),oN] [(1,.sl (List.map K12 aL1)),(2,.ra 1 0),(5,I a3)] (cq (K9e _ _ a4) K3y tv) ?_
 refine sN ?_
 refine K8d hc 2 [(1,.sl (List.map K12 aL1)),(2,.ra 1 0),(19,.bool (decide (a3 < 0)))] ?_
 refine ic h (fun a5 h => ?_) fun a5 h => ?_
 ·refine rs0 hc 1 [(4,.bool true)] [] ?_
  refine rt ?_
  obtain rfl := os h
  exact rq [true]
 refine sk ?_
 obtain ⟨a6,a7,a8,a9,b1,b2,h⟩ := bq3 h
 refine rss hc none [oN,some (.call (K2p a6) [] 2),oN,some (.call (.osl (List.map K13 a8)) [] 5),oc (I b1),oN] [(1,.sl (List.map K12 aL1)),(2,.ra 1 0),(6,I b1)] (cq (K9v _ _ a7) K41 (cq (Kap _ _ a9) K46 (ac (Q71.args (A1 := [K2q a6,.sl (Q02 (List.map K13 a8))]) (A2 := [K2e a6,.sl (List.map K12 a8)]) (by simp only [K2q,List.map_nil,Qe7,K1s,Qe5]) (Khm _ _ b2)) K66 (Or.inr rfl : ([2,3,4,5] : List Nat) = [] ∨ noSh (I b1) = true) tv))) ?_
 obtain ⟨b3,b4,h⟩ := Qdd h
 refine rs hc none [oN,some (.call (K2p b3) [] 6),some (.new 9),oN] [(1,.sl (List.map K12 aL1)),(2,.ra 1 0),(6,I b1),(7,.ra 9 0)] [(1,K2d aS0),(6,rI b3.fPlus),(7,rI b3.fTimes),(8,.arr (List.map AV.bool b3.fBelow)),(9,.box [I b3.fSize,.rs 6,.rs 7,.rs 8])] (cq (K9v _ _ b4) K41 tv) ?_
 obtain ⟨b5,b6,h⟩ := Qdd h
 refine rs hc none [oN,some (.call (.osl (List.map K13 b5)) [] 10),oN] [(1,.sl (List.map K12 aL1)),(2,.ra 1 0),(6,I b1),(7,.ra 9 0),(8,.rs 10)] [(1,K2d aS0),(6,rI b3.fPlus),(7,rI b3.fTimes),(8,.arr (List.map AV.bool b3.fBelow)),(9,.box [I b3.fSize,.rs 6,.rs 7,.rs 8]),(10,.arr (List.map K13 b5))] (cq (Kap _ _ b6) K46 tv) ?_
 obtain ⟨b7,b8,h⟩ := Qdd h
 refine rss hc none [oN,oN,oc (I b7),oN] [(1,.sl (List.map K12 aL1)),(2,.ra 1 0),(6,I b1),(7,.ra 9 0),(8,.rs 10),(9,I b7)] (ac (Q71.args (A1 := [K2q b3,.sl (Q02 (List.map K13 b5))]) (A2 := [K2e b3,.sl (List.map K12 b5)]) (by simp only [K2q,List.map_nil,Qe7,K1s,Qe5]) (Koy _ _ b8)) K82 (Or.inr rfl : ([6,7,8,10] : List Nat) = [] ∨ noSh (I b7) = true) tv) ?_
 refine sN ?_
 refine K8d hc 3 [(1,.sl (List.map K12 aL1)),(2,.ra 1 0),(7,.ra 9 0),(8,.rs 10),(34,.bool (b7 != b1))] ?_
 refine ic h (fun b9 h => ?_) fun b9 h => ?_
 ·refine rs0 hc 1 [(4,.bool false)] [] ?_
  refine rt ?_
  obtain rfl := os h
  exact rq [true]
 refine sk ?_
 refine sN ?_
 obtain ⟨c0,c1,c2,c3,h⟩ := bq2 h
 refine rs hc (rx [[0],[0],[0,1],[3],[4]]) [oN,oN,some (.call (K2p c0) [] 11),oc (.bool c2),oN] [(1,.sl (List.map K12 aL1)),(8,.rs 10),(39,.bool (!c2))] [(10,.arr (List.map K13 b5))] (cq (K9v _ _ c1) K41 (ac (Q71.args (A1 := [K2q b3,K2q c0]) (A2 := [K2e b3,K2e c0]) (by simp only [K2q,List.map_nil,Qe7,Qe5]) (Kpf _ _ c3)) K85 (Or.inr rfl : ([6,7,8,11,12,13] : List Nat) = [] ∨ noSh (.bool c2) = true) tv)) ?_
 rcases is h with ⟨c4,h⟩ | ⟨c4,h⟩
 ·refine cF (!c2) (nF c4) ?_
  refine sk ?_
  refine sN ?_
  obtain ⟨c5,c6,c7,c8,h⟩ := bq2 h
  refine rs hc none [oN,oN,some (.call (.osl (List.map K13 c5)) [] 14),oc (.bool c7),oN] [(44,.bool (!c7))] [] (cq (Kap _ _ c6) K46 (ac (Q71.args (A1 := [.sl (Q02 (List.map K13 b5)),.sl (Q02 (List.map K13 c5))]) (A2 := [.sl (List.map K12 b5),.sl (List.map K12 c5)]) (by simp only [List.map_nil,K1s]) (Kq7 _ _ c8)) K8a (Or.inr rfl : ([10,14] : List Nat) = [] ∨ noSh (.bool c7) = true) tv)) ?_
  rcases is h with ⟨c9,h⟩ | ⟨c9,h⟩
  ·refine cF (!c7) (nF c9) ?_
   refine sk ?_
   refine rs0 hc 1 [(4,.bool true)] [] ?_
   refine rt ?_
   obtain rfl := os h
   exact rq [true]
  refine cT (!c7) (nT c9) ?_
  refine rs0 hc 1 [(4,.bool false)] [] ?_
  refine rt ?_
  obtain rfl := os h
  exact rq [true]
 refine cT (!c2) (nT c4) ?_
 refine rs0 hc 1 [(4,.bool false)] [] ?_
 refine rt ?_
 obtain rfl := os h
 exact rq [true]
end Go.Am
