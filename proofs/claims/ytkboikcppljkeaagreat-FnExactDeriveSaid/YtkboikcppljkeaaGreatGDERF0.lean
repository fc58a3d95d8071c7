/- Functions of the program as pure functions,and that it computes them. Printed by a program of mine (gen.py). -/
import Derived.Test.YtkboikcppljkeaaGreatGDERTi
set_option linter.unusedVariables false
set_option linter.unusedSimpArgs false
set_option maxRecDepth 100000
namespace Go.Am
open Go Go.Proofs
def K89 : Option (List (List Nat)) := rx [[0],[1],[0],[3],[4],[0],[0,5],[0,5,6],[8],[9],[10],[11],[12],[11],[14],[15],[11],[11,16],[11,16,17],[19],[20],[21]]
def K8a (p : (List Int) × Int) : Option (Int) :=
 match p with
 | (a0,left1) =>
  if (decide ((wr (left1 - (a0.length : Int))) < 0)) = true then
  some (-1)
  else
  some (wr (left1 - (a0.length : Int)))
def K8b (p : (List Int) × Int) (r : Int) : Prop :=
 match p with
 | (a0,left1) => Q71 Tryz.prog 32 [sI a0,I left1] (I r) []
theorem K8c : ∀ p r,K8a p = some r → K8b p r := by
 rintro ⟨a0,left1⟩ r h
 unfold K8a at h
 refine b0 Tryz.f32 B32 12 [(0,sI a0),(1,I left1)] fun c hc => ?_
 refine rs0 hc 1 [(0,sI a0),(1,I left1)] [] ?_
 refine rs hc none [oN,oN,some (.eqv (.no) ⟨[(7,I (a0.length : Int))],[],[]⟩),oN,oN] [(1,I (wr (left1 - (a0.length : Int))))] [] (ai (Qdj (d := 7) I a0) tv) ?_
 refine sN ?_
 refine rs0 hc 2 [(1,I (wr (left1 - (a0.length : Int)))),(10,.bool (decide ((wr (left1 - (a0.length : Int))) < 0)))] [] ?_
 refine ic h (fun a1 h => ?_) fun a1 h => ?_
 ·refine rs0 hc 1 [(4,I (-1))] [] ?_
  refine rt ?_
  obtain rfl := os h
  exact rq [true]
 refine sk ?_
 refine rs0 hc 2 [(4,I (wr (left1 - (a0.length : Int))))] [] ?_
 refine rt ?_
 obtain rfl := os h
 exact rq [true]
def K8d (p : (List Bool) × Int) : Option (Int) :=
 match p with
 | (a0,left1) =>
  if (decide ((wr (left1 - (a0.length : Int))) < 0)) = true then
  some (-1)
  else
  some (wr (left1 - (a0.length : Int)))
def K8e (p : (List Bool) × Int) (r : Int) : Prop :=
 match p with
 | (a0,left1) => Q71 Tryz.prog 33 [sB a0,I left1] (I r) []
theorem K8f : ∀ p r,K8d p = some r → K8e p r := by
 rintro ⟨a0,left1⟩ r h
 unfold K8d at h
 refine b0 Tryz.f33 B33 12 [(0,sB a0),(1,I left1)] fun c hc => ?_
 refine rs0 hc 1 [(0,sB a0),(1,I left1)] [] ?_
 refine rs hc none [oN,oN,some (.eqv (.no) ⟨[(7,I (a0.length : Int))],[],[]⟩),oN,oN] [(1,I (wr (left1 - (a0.length : Int))))] [] (ai (Qdj (d := 7) AV.bool a0) tv) ?_
 refine sN ?_
 refine rs0 hc 2 [(1,I (wr (left1 - (a0.length : Int)))),(10,.bool (decide ((wr (left1 - (a0.length : Int))) < 0)))] [] ?_
 refine ic h (fun a1 h => ?_) fun a1 h => ?_
 ·refine rs0 hc 1 [(4,I (-1))] [] ?_
  refine rt ?_
  obtain rfl := os h
  exact rq [true]
 refine sk ?_
 refine rs0 hc 2 [(4,I (wr (left1 - (a0.length : Int))))] [] ?_
 refine rt ?_
 obtain rfl := os h
 exact rq [true]
def K8g (p : K00 × Int) : Option (Int) :=
 match p with
 | (a0,left1) =>
  (K8a (a0.fPlus,left1)) >>= fun a1 =>
  if (decide (a1 < 0)) = true then
  some (-1)
  else
  (K8a (a0.fTimes,a1)) >>= fun a2 =>
  if (decide (a2 < 0)) = true then
  some (-1)
  else
  (K8d (a0.fBelow,a2)) >>= fun a3 =>
  if (decide (a3 < 0)) = true then
  some (-1)
  else
  some a3
def K8h (p : K00 × Int) (r : Int) : Prop :=
 match p with
 | (a0,left1) => Q71 Tryz.prog 6 [K25 a0,I left1] (I r) []
theorem K8i : ∀ p r,K8g p = some r → K8h p r := by
 rintro ⟨a0,left1⟩ r h
 unfold K8g at h
 refine b0 Tryz.f6 B6 24 [(0,K25 a0),(1,I left1)] fun c hc => ?_
 refine rs hc none [some (.new 1),oN] [(1,I left1),(2,.ra 1 0)] [(1,K24 a0)] tv ?_
 obtain ⟨a1,a2,h⟩ := Qdd h
 refine rss hc none [oN,oN,oN,oc (I a1),oN] [(1,I a1),(2,.ra 1 0)] (cq (K8c _ _ a2) K3f tv) ?_
 refine sN ?_
 refine K88 hc 2 [(1,I a1),(2,.ra 1 0),(10,.bool (decide (a1 < 0)))] ?_
 refine ic h (fun a3 h => ?_) fun a3 h => ?_
 ·refine rs0 hc 1 [(4,I (-1))] [] ?_
  refine rt ?_
  obtain rfl := os h
  exact rq [true]
 refine sk ?_
 obtain ⟨a4,a5,h⟩ := Qdd h
 refine rss hc none [oN,oN,oN,oc (I a4),oN] [(1,I a4),(2,.ra 1 0)] (cq (K8c _ _ a5) K3f tv) ?_
 refine sN ?_
 refine K88 hc 2 [(1,I a4),(2,.ra 1 0),(16,.bool (decide (a4 < 0)))] ?_
 refine ic h (fun a6 h => ?_) fun a6 h => ?_
 ·refine rs0 hc 1 [(4,I (-1))] [] ?_
  refine rt ?_
  obtain rfl := os h
  exact rq [true]
 refine sk ?_
 obtain ⟨a7,a8,h⟩ := Qdd h
 refine rs hc none [oN,oN,oN,oc (I a7),oN] [(1,I a7)] [] (cq (K8f _ _ a8) K3g tv) ?_
 refine sN ?_
 refine rs0 hc 2 [(1,I a7),(22,.bool (decide (a7 < 0)))] [] ?_
 refine ic h (fun a9 h => ?_) fun a9 h => ?_
 ·refine rs0 hc 1 [(4,I (-1))] [] ?_
  refine rt ?_
  obtain rfl := os h
  exact rq [true]
 refine sk ?_
 refine rs0 hc 2 [(4,I a7)] [] ?_
 refine rt ?_
 obtain rfl := os h
 exact rq [true]
def K8j (c : Ctx) : (Int) ⊕ (Int) → Exit → Q0a → Prop
 | .inl a0 => Qcz c (.exit 0) (mkS [(1,I a0)] [])
 | .inr r => Qd8 TIx Tryz.f14 [] (I r)
def K8k (p : LL × Int × Int) : Option ((Int) ⊕ (Int)) :=
 match p with
 | (a0,a1,a2) =>
  if (decide (a2 < (a0.length : Int))) = true then
  (idx a0 a2) >>= fun a3 =>
  (K8a (a3,a1)) >>= fun a4 =>
  if (decide (a4 < 0)) = true then
  some (.inr (-1))
  else
  K8k (a0,a4,(wr (a2 + 1)))
  else
  some (.inl a1)
 partial_fixpoint
def K8l (p : LL × Int × Int) (fl : (Int) ⊕ (Int)) : Prop :=
 match p with
 | (a0,a1,a2) => ∀ c : Ctx,c.nt = 27 → WpL Tryz.prog c (cl (cl (cr (cl (cr (cr (cr B14))))))) (K8j c fl) (mkS [(0,sL a0),(1,I a1),(5,I a2)] [])
theorem K8m : ∀ p r,K8k p = some r → K8l p r := by
 refine K8k.partial_correctness K8l ?_
 rintro laws_szIntSS_l0_f laws_szIntSS_l0_ih ⟨a0,a1,a2⟩ r h
 intro c hc
 refine WpL.step ?_
 refine sN ?_
 refine rs hc none [oN,oN,some (.eqv (.no) ⟨[(14,I (a0.length : Int))],[],[]⟩),oN] [(0,sL a0),(1,I a1),(5,I a2),(15,.bool (decide (a2 < (a0.length : Int))))] [] (ai (Qdj (d := 14) K07 a0) tv) ?_
 refine ic h (fun a3 h => ?_) fun a3 h => ?_
 ·refine sk ?_
  refine sN ?_
  refine bk 1 ?_
  obtain ⟨a4,a5,a6,a7,h⟩ := bq2 h
  refine rs hc none [oN,oN,some (.el (sI a4)),oN,oN,oc (I a6),oN] [(0,sL a0),(1,I a6),(5,I a2)] [] (ai (xL a5) (cq (K8c _ _ a7) K3f tv)) ?_
  refine rs0 hc 2 [(0,sL a0),(1,I a6),(5,I a2),(25,.bool (decide (a6 < 0)))] [] ?_
  refine ic h (fun a8 h => ?_) fun a8 h => ?_
  ·refine rs0 hc 1 [(4,I (-1))] [] ?_
   refine rt ?_
   obtain rfl := os h
   exact re [true]
  refine sk ?_
  refine rg0 hc 3 [(0,sL a0),(1,I a6),(5,I (wr (a2 + 1)))] [] ?_
  refine Qcv ?_
  exact (laws_szIntSS_l0_ih _ _ h c hc)
 refine xt 0 ?_
 refine Qcp ?_
 refine Qcw ?_
 obtain rfl := os h
 exact iv []
def K8n (p : LL × Int) : Option (Int) :=
 match p with
 | (a0,left1) =>
  if (decide ((wr (left1 - (a0.length : Int))) < 0)) = true then
  some (-1)
  else
  (K8k (a0,(wr (left1 - (a0.length : Int))),0)) >>= fun fl => match fl with
  | .inl a1 =>
   some a1
  | .inr r =>
   some r
def K8o (p : LL × Int) (r : Int) : Prop :=
 match p with
 | (a0,left1) => Q71 Tryz.prog 14 [sL a0,I left1] (I r) []
theorem K8p : ∀ p r,K8n p = some r → K8o p r := by
 rintro ⟨a0,left1⟩ r h
 unfold K8n at h
 refine b0 Tryz.f14 B14 27 [(0,sL a0),(1,I left1)] fun c hc => ?_
 refine rs0 hc 1 [(0,sL a0),(1,I left1)] [] ?_
 refine rs hc none [oN,oN,some (.eqv (.no) ⟨[(8,I (a0.length : Int))],[],[]⟩),oN,oN] [(0,sL a0),(1,I (wr (left1 - (a0.length : Int))))] [] (ai (Qdj (d := 8) K07 a0) tv) ?_
 refine sN ?_
 refine rs0 hc 2 [(0,sL a0),(1,I (wr (left1 - (a0.length : Int)))),(11,.bool (decide ((wr (left1 - (a0.length : Int))) < 0)))] [] ?_
 refine ic h (fun a1 h => ?_) fun a1 h => ?_
 ·refine rs0 hc 1 [(4,I (-1))] [] ?_
  refine rt ?_
  obtain rfl := os h
  exact rq [true]
 refine sk ?_
 refine sN ?_
 refine rs0 hc 1 [(0,sL a0),(1,I (wr (left1 - (a0.length : Int)))),(5,I 0)] [] ?_
 refine bk 0 ?_
 obtain ⟨fl,a2,h⟩ := Qdd h
 have hL := K8m _ _ a2 c hc
 refine lp ?_
 rcases fl with a3 | r
 ·refine WpL.into (e := (.exit 0)) (mkS [(1,I a3)] []) hL ?_
  refine Qcr ?_
  refine rs0 hc 2 [(4,I a3)] [] ?_
  refine rt ?_
  obtain rfl := os h
  exact rq [true]
 refine WpL.mono hL ?_
 rintro _ _ ⟨rfl,hfin⟩
 obtain rfl := os h
 exact ⟨.inl rfl,hfin⟩
def K8q (c : Ctx) : (Int) ⊕ (Int) → Exit → Q0a → Prop
 | .inl a0 => Qcz c (.exit 0) (mkS [(1,I a0)] [])
 | .inr r => Qd8 TIx Tryz.f43 [] (I r)
mutual
def K8r (p : K01 × Int) : Option (Int) :=
 match p with
 | (a0,left1) =>
  (K8a (a0.fType,left1)) >>= fun a1 =>
  if (decide (a1 < 0)) = true then
  some (-1)
  else
  (K8s (a0.fKids,a1)) >>= fun a2 =>
  if (decide (a2 < 0)) = true then
  some (-1)
  else
  some a2
 partial_fixpoint
def K8s (p : (List K01) × Int) : Option (Int) :=
 match p with
 | (a0,left1) =>
  if (decide ((wr (left1 - (a0.length : Int))) < 0)) = true then
  some (-1)
  else
  (K8t (a0,(wr (left1 - (a0.length : Int))),0)) >>= fun fl => match fl with
  | .inl a1 =>
   some a1
  | .inr r =>
   some r
 partial_fixpoint
def K8t (p : (List K01) × Int × Int) : Option ((Int) ⊕ (Int)) :=
 match p with
 | (a0,a1,a2) =>
  if (decide (a2 < (a0.length : Int))) = true then
  (idx a0 a2) >>= fun a3 =>
  (K8r (a3,a1)) >>= fun a4 =>
  if (decide (a4 < 0)) = true then
  some (.inr (-1))
  else
  K8t (a0,a4,(wr (a2 + 1)))
  else
  some (.inl a1)
 partial_fixpoint
end
def K8u (p : K01 × Int) (r : Int) : Prop :=
 match p with
 | (a0,left1) => Q71 Tryz.prog 15 [K27 a0,I left1] (I r) []
def K8v (p : (List K01) × Int) (r : Int) : Prop :=
 match p with
 | (a0,left1) => Q71 Tryz.prog 43 [.sl (List.map K0s a0),I left1] (I r) []
def K8w (p : (List K01) × Int × Int) (fl : (Int) ⊕ (Int)) : Prop :=
 match p with
 | (a0,a1,a2) => ∀ c : Ctx,c.nt = 27 → WpL Tryz.prog c (cl (cl (cr (cl (cr (cr (cr B43))))))) (K8q c fl) (mkS [(0,.sl (List.map K0s a0)),(1,I a1),(5,I a2)] [])
theorem K8x : (∀ p r,K8r p = some r → K8u p r) ∧ (∀ p r,K8s p = some r → K8v p r) ∧ (∀ p r,K8t p = some r → K8w p r) := by
 refine K8r.mutual_partial_correctness K8u K8v K8w ?_ ?_ ?_
 ·rintro laws_szTermS_f laws_szTermS_ih ⟨a0,left1⟩ r h
  refine b0 Tryz.f15 B15 18 [(0,K27 a0),(1,I left1)] fun c hc => ?_
  refine rs hc none [some (.new 1),oN] [(1,I left1),(2,.ra 1 0)] [(1,K26 a0)] tv ?_
  obtain ⟨a1,a2,h⟩ := Qdd h
  refine rss hc none [oN,oN,oN,oc (I a1),oN] [(1,I a1),(2,.ra 1 0)] (cq (K8c _ _ a2) K3f tv) ?_
  refine sN ?_
  refine K88 hc 2 [(1,I a1),(2,.ra 1 0),(10,.bool (decide (a1 < 0)))] ?_
  refine ic h (fun a3 h => ?_) fun a3 h => ?_
  ·refine rs0 hc 1 [(4,I (-1))] [] ?_
   refine rt ?_
   obtain rfl := os h
   exact rq [true]
  refine sk ?_
  obtain ⟨a4,a5,h⟩ := Qdd h
  refine rs hc none [oN,oN,oN,oc (I a4),oN] [(1,I a4)] [] (cq (laws_szTermS_ih _ _ a5) K3j tv) ?_
  refine sN ?_
  refine rs0 hc 2 [(1,I a4),(16,.bool (decide (a4 < 0)))] [] ?_
  refine ic h (fun a6 h => ?_) fun a6 h => ?_
  ·refine rs0 hc 1 [(4,I (-1))] [] ?_
   refine rt ?_
   obtain rfl := os h
   exact rq [true]
  refine sk ?_
  refine rs0 hc 2 [(4,I a4)] [] ?_
  refine rt ?_
  obtain rfl := os h
  exact rq [true]
 ·rintro laws_szTermS_l0_f laws_szTermS_l0_ih ⟨a0,left1⟩ r h
  refine b0 Tryz.f43 B43 27 [(0,.sl (List.map K0s a0)),(1,I left1)] fun c hc => ?_
  refine rs0 hc 1 [(0,.sl (List.map K0s a0)),(1,I left1)] [] ?_
  refine rs hc none [oN,oN,some (.eqv (.no) ⟨[(8,I (a0.length : Int))],[],[]⟩),oN,oN] [(0,.sl (List.map K0s a0)),(1,I (wr (left1 - (a0.length : Int))))] [] (ai (Qdj (d := 8) K0s a0) tv) ?_
  refine sN ?_
  refine rs0 hc 2 [(0,.sl (List.map K0s a0)),(1,I (wr (left1 - (a0.length : Int)))),(11,.bool (decide ((wr (left1 - (a0.length : Int))) < 0)))] [] ?_
  refine ic h (fun a3 h => ?_) fun a3 h => ?_
  ·refine rs0 hc 1 [(4,I (-1))] [] ?_
   refine rt ?_
   obtain rfl := os h
   exact rq [true]
  refine sk ?_
  refine sN ?_
  refine rs0 hc 1 [(0,.sl (List.map K0s a0)),(1,I (wr (left1 - (a0.length : Int)))),(5,I 0)] [] ?_
  refine bk 0 ?_
  obtain ⟨fl,a7,h⟩ := Qdd h
  have hL := laws_szTermS_l0_ih _ _ a7 c hc
  refine lp ?_
  rcases fl with a8 | r
  ·refine WpL.into (e := (.exit 0)) (mkS [(1,I a8)] []) hL ?_
   refine Qcr ?_
   refine rs0 hc 2 [(4,I a8)] [] ?_
   refine rt ?_
   obtain rfl := os h
   exact rq [true]
  refine WpL.mono hL ?_
  rintro _ _ ⟨rfl,hfin⟩
  obtain rfl := os h
  exact ⟨.inl rfl,hfin⟩
 ·rintro laws_szTerm_f laws_szTermS_l0_f laws_szTerm_ih laws_szTermS_l0_ih ⟨a0,a9,b1⟩ r h
  intro c hc
  refine WpL.step ?_
  refine sN ?_
  refine rs hc none [oN,oN,some (.eqv (.no) ⟨[(14,I (a0.length : Int))],[],[]⟩),oN] [(0,.sl (List.map K0s a0)),(1,I a9),(5,I b1),(15,.bool (decide (b1 < (a0.length : Int))))] [] (ai (Qdj (d := 14) K0s a0) tv) ?_
  refine ic h (fun b2 h => ?_) fun b2 h => ?_
  ·refine sk ?_
   refine sN ?_
   refine bk 1 ?_
   obtain ⟨b3,b4,b5,b6,h⟩ := bq2 h
   refine rs hc none [oN,oN,some (.el (K27 b3)),oN,oN,oc (I b5),oN] [(0,.sl (List.map K0s a0)),(1,I b5),(5,I b1)] [] (ai (Qdh b4 (K0z b3)) (cq (laws_szTerm_ih _ _ b6) K3k tv)) ?_
   refine rs0 hc 2 [(0,.sl (List.map K0s a0)),(1,I b5),(5,I b1),(25,.bool (decide (b5 < 0)))] [] ?_
   refine ic h (fun b7 h => ?_) fun b7 h => ?_
   ·refine rs0 hc 1 [(4,I (-1))] [] ?_
    refine rt ?_
    obtain rfl := os h
    exact re [true]
   refine sk ?_
   refine rg0 hc 3 [(0,.sl (List.map K0s a0)),(1,I b5),(5,I (wr (b1 + 1)))] [] ?_
   refine Qcv ?_
   exact (laws_szTermS_l0_ih _ _ h c hc)
  refine xt 0 ?_
  refine Qcp ?_
  refine Qcw ?_
  obtain rfl := os h
  exact iv []
theorem K8y : ∀ p r,K8r p = some r → K8u p r := K8x.1
theorem K8z : ∀ p r,K8s p = some r → K8v p r := K8x.2.1
theorem K90 : ∀ p r,K8t p = some r → K8w p r := K8x.2.2
def K91 (c : Ctx) : (List Int) → Exit → Q0a → Prop
 | a0 => Qcz c (.exit 0) (mkS [(3,.rs 1)] [(1,rI a0)])
def K92 (p : (List Int) × (List Int) × Int) : Option ((List Int)) :=
 match p with
 | (a0,a1,a2) =>
  if (decide (a2 < (a0.length : Int))) = true then
  (idx a0 a2) >>= fun a3 =>
  (idx a1 a2) >>= fun a4 =>
  K92 (a0,(List.set a1 (Int.toNat a2) a3),(wr (a2 + 1)))
  else
  some (a1)
 partial_fixpoint
def K93 (p : (List Int) × (List Int) × Int) (fl : (List Int)) : Prop :=
 match p with
 | (a0,a1,a2) => ∀ c : Ctx,c.nt = 22 → WpL Tryz.prog c (cl (cl (cr (cl (cr (cr B36)))))) (K91 c fl) (mkS [(0,sI a0),(3,.rs 1),(4,I a2)] [(1,rI a1)])
theorem K94 : ∀ p r,K92 p = some r → K93 p r := by
 refine K92.partial_correctness K93 ?_
 rintro laws_toIntS_l0_f laws_toIntS_l0_ih ⟨a0,a1,a2⟩ r h
 intro c hc
 refine WpL.step ?_
 refine sN ?_
 refine rss hc none [oN,oN,some (.eqv (.no) ⟨[(10,I (a0.length : Int))],[],[]⟩),oN] [(0,sI a0),(3,.rs 1),(4,I a2),(11,.bool (decide (a2 < (a0.length : Int))))] (ai (Qdj (d := 10) I a0) tv) ?_
 refine ic h (fun a3 h => ?_) fun a3 h => ?_
 ·refine sk ?_
  refine sN ?_
  refine bk 1 ?_
  obtain ⟨a4,a5,a6,a7,h⟩ := bq2 h
  refine rg hc none [oN,oN,oN,oN,some (.el (I a4)),oN,oN,some (.eqv (.mk 0 true) ⟨[],[(1,some (.arr (List.map I (List.set a1 (Int.toNat a2) a4))))],[]⟩)] [(0,sI a0),(3,.rs 1),(4,I a2)] [(1,.arr (List.map I (List.set a1 (Int.toNat a2) a4)))] (ad (ix a5) (Qdi (enc := I) a7) (congrArg (fun z => (⟨[],[(1,some (.arr z))],[]⟩ : Wr)) (Qeg (enc := I) (i := Int.toNat a2) (l := a1) (v := a4) (x := I a4) (Qds a4))) (Qeh (enc := I) (sz := 1) Qdw a7) tv) ?_
  refine K87 hc 3 [(0,sI a0),(3,.rs 1),(4,I (wr (a2 + 1)))] ?_
  refine Qcv ?_
  exact (laws_toIntS_l0_ih _ _ h c hc)
 refine xt 0 ?_
 refine Qcp ?_
 refine Qcw ?_
 obtain rfl := os h
 exact iv []
def K95 (a0 : (List Int)) : Option ((List Int)) :=
 (chk (0 ≤ (a0.length : Int) ∧ (Int.toNat (a0.length : Int)) * 8 ≤ 140737488355328)) >>= fun _ =>
 (K92 (a0,(List.replicate (Int.toNat (a0.length : Int)) 0),0)) >>= fun a1 =>
 some a1
def K96 (a0 : (List Int)) (r : (List Int)) : Prop :=
 Q71 Tryz.prog 36 [sI a0] (oI r) []
theorem K97 : ∀ p r,K95 p = some r → K96 p r := by
 rintro a0 r h
 unfold K95 at h
 refine b0 Tryz.f36 B36 22 [(0,sI a0)] fun c hc => ?_
 refine rs0 hc 1 [(0,sI a0)] [] ?_
 obtain ⟨_,a1,h⟩ := Qdd h
 refine rs hc none [oN,some (.eqv (.no) ⟨[(6,I (a0.length : Int))],[],[]⟩),some (.eqv (.mk 1 true) ⟨[(7,.rs 1)],[(1,some (.arr (List.map I (List.replicate (Int.toNat (a0.length : Int)) 0))))],[1]⟩),oN] [(0,sI a0),(3,.rs 1)] [(1,.arr (List.map I (List.replicate (Int.toNat (a0.length : Int)) 0)))] (ac (Qdj (d := 6) I a0) (congrArg (fun z => (⟨[(7,.rs 1)],[(1,some (.arr z))],[1]⟩ : Wr)) (Qei (enc := I) (n := Int.toNat (a0.length : Int)) (x := I 0) (Qds 0))) (And.intro (Eq.refl (a0.length : Int)) (Qdf a1)) tv) ?_
 refine sN ?_
 refine K88 hc 1 [(0,sI a0),(3,.rs 1),(4,I 0)] ?_
 refine bk 0 ?_
 obtain ⟨a2,a3,h⟩ := Qdd h
 have hL := K94 _ _ a3 c hc
 refine lp ?_
 refine WpL.into (e := (.exit 0)) (mkS [(3,.rs 1)] [(1,rI a2)]) hL ?_
 refine Qcr ?_
 refine K88 hc 2 [(2,.rs 1)] ?_
 refine rt ?_
 obtain rfl := os h
 exact rq [true]
def K98 (c : Ctx) : (List Bool) → Exit → Q0a → Prop
 | a0 => Qcz c (.exit 0) (mkS [(3,.rs 1)] [(1,.arr (List.map AV.bool a0))])
def K99 (p : (List Bool) × (List Bool) × Int) : Option ((List Bool)) :=
 match p with
 | (a0,a1,a2) =>
  if (decide (a2 < (a0.length : Int))) = true then
  (idx a0 a2) >>= fun a3 =>
  (idx a1 a2) >>= fun a4 =>
  K99 (a0,(List.set a1 (Int.toNat a2) a3),(wr (a2 + 1)))
  else
  some (a1)
 partial_fixpoint
def K9a (p : (List Bool) × (List Bool) × Int) (fl : (List Bool)) : Prop :=
 match p with
 | (a0,a1,a2) => ∀ c : Ctx,c.nt = 22 → WpL Tryz.prog c (cl (cl (cr (cl (cr (cr B37)))))) (K98 c fl) (mkS [(0,sB a0),(3,.rs 1),(4,I a2)] [(1,.arr (List.map AV.bool a1))])
theorem K9b : ∀ p r,K99 p = some r → K9a p r := by
 refine K99.partial_correctness K9a ?_
 rintro laws_toBoolS_l0_f laws_toBoolS_l0_ih ⟨a0,a1,a2⟩ r h
 intro c hc
 refine WpL.step ?_
 refine sN ?_
 refine rss hc none [oN,oN,some (.eqv (.no) ⟨[(10,I (a0.length : Int))],[],[]⟩),oN] [(0,sB a0),(3,.rs 1),(4,I a2),(11,.bool (decide (a2 < (a0.length : Int))))] (ai (Qdj (d := 10) AV.bool a0) tv) ?_
 refine ic h (fun a3 h => ?_) fun a3 h => ?_
 ·refine sk ?_
  refine sN ?_
  refine bk 1 ?_
  obtain ⟨a4,a5,a6,a7,h⟩ := bq2 h
  refine rg hc none [oN,oN,oN,oN,some (.el (.bool a4)),oN,oN,some (.eqv (.mk 0 true) ⟨[],[(1,some (.arr (List.map AV.bool (List.set a1 (Int.toNat a2) a4))))],[]⟩)] [(0,sB a0),(3,.rs 1),(4,I a2)] [(1,.arr (List.map AV.bool (List.set a1 (Int.toNat a2) a4)))] (ad (Qdh (enc := AV.bool) (x := .bool a4) a5 (Qdu a4)) (Qdi (enc := AV.bool) a7) (congrArg (fun z => (⟨[],[(1,some (.arr z))],[]⟩ : Wr)) (Qeg (enc := AV.bool) (i := Int.toNat a2) (l := a1) (v := a4) (x := AV.bool a4) (Qdu a4))) (Qeh (enc := AV.bool) (sz := 1) Qdy a7) tv) ?_
  refine K87 hc 3 [(0,sB a0),(3,.rs 1),(4,I (wr (a2 + 1)))] ?_
  refine Qcv ?_
  exact (laws_toBoolS_l0_ih _ _ h c hc)
 refine xt 0 ?_
 refine Qcp ?_
 refine Qcw ?_
 obtain rfl := os h
 exact iv []
def K9c (a0 : (List Bool)) : Option ((List Bool)) :=
 (chk (0 ≤ (a0.length : Int) ∧ (Int.toNat (a0.length : Int)) * 1 ≤ 140737488355328)) >>= fun _ =>
 (K99 (a0,(List.replicate (Int.toNat (a0.length : Int)) false),0)) >>= fun a1 =>
 some a1
def K9d (a0 : (List Bool)) (r : (List Bool)) : Prop :=
 Q71 Tryz.prog 37 [sB a0] (.osl (List.map AV.bool r)) []
theorem K9e : ∀ p r,K9c p = some r → K9d p r := by
 rintro a0 r h
 unfold K9c at h
 refine b0 Tryz.f37 B37 22 [(0,sB a0)] fun c hc => ?_
 refine rs0 hc 1 [(0,sB a0)] [] ?_
 obtain ⟨_,a1,h⟩ := Qdd h
 refine rs hc none [oN,some (.eqv (.no) ⟨[(6,I (a0.length : Int))],[],[]⟩),some (.eqv (.mk 1 true) ⟨[(7,.rs 1)],[(1,some (.arr (List.map AV.bool (List.replicate (Int.toNat (a0.length : Int)) false))))],[1]⟩),oN] [(0,sB a0),(3,.rs 1)] [(1,.arr (List.map AV.bool (List.replicate (Int.toNat (a0.length : Int)) false)))] (ac (Qdj (d := 6) AV.bool a0) (congrArg (fun z => (⟨[(7,.rs 1)],[(1,some (.arr z))],[1]⟩ : Wr)) (Qei (enc := AV.bool) (n := Int.toNat (a0.length : Int)) (x := AV.bool false) (Qdu false))) (And.intro (Eq.refl (a0.length : Int)) (Qdf a1)) tv) ?_
 refine sN ?_
 refine K88 hc 1 [(0,sB a0),(3,.rs 1),(4,I 0)] ?_
 refine bk 0 ?_
 obtain ⟨a2,a3,h⟩ := Qdd h
 have hL := K9b _ _ a3 c hc
 refine lp ?_
 refine WpL.into (e := (.exit 0)) (mkS [(3,.rs 1)] [(1,.arr (List.map AV.bool a2))]) hL ?_
 refine Qcr ?_
 refine K88 hc 2 [(2,.rs 1)] ?_
 refine rt ?_
 obtain rfl := os h
 exact rq [true]
def K9f (a0 : K00) : Option (K00) :=
 (K95 a0.fPlus) >>= fun a1 =>
 (K95 a0.fTimes) >>= fun a2 =>
 (K9c a0.fBelow) >>= fun a3 =>
 some (K00.mk a0.fSize a1 a2 a3)
def K9g (a0 : K00) (r : K00) : Prop :=
 Q71 Tryz.prog 9 [K25 a0] (K2g r) []
theorem K9h : ∀ p r,K9f p = some r → K9g p r := by
 rintro a0 r h
 unfold K9f at h
 refine b0 Tryz.f9 B9 20 [(0,K25 a0)] fun c hc => ?_
 refine rs hc none [some (.new 1),some (.new 2)] [(1,.ra 1 0),(2,.ra 2 0)] [(1,K24 a0),(2,.box [I 0,.nils,.nils,.nils])] tv ?_
 refine rs hc none [some (.new 3)] [(1,.ra 1 0),(2,.ra 2 0),(3,.ra 3 0)] [(1,K24 a0),(2,.box [I 0,.nils,.nils,.nils]),(3,.box [I 0,.nils,.nils,.nils])] tv ?_
 refine rs0 hc 4 [(1,.ra 1 0),(2,.ra 2 0),(3,.ra 3 0)] [(1,K24 a0),(2,.box [I 0,.nils,.nils,.nils]),(3,.box [I a0.fSize,.nils,.nils,.nils])] ?_
 obtain ⟨a1,a2,h⟩ := Qdd h
 refine rs hc none [oN,oN,some (.call (oI a1) [] 4),oN,oN] [(1,.ra 1 0),(2,.ra 2 0),(3,.ra 3 0)] [(1,K24 a0),(2,.box [I 0,.nils,.nils,.nils]),(3,.box [I a0.fSize,.rs 4,.nils,.nils]),(4,rI a1)] (cq (K97 _ _ a2) K3l tv) ?_
 obtain ⟨a3,a4,h⟩ := Qdd h
 refine rs hc none [oN,oN,some (.call (oI a3) [] 5),oN,oN] [(1,.ra 1 0),(2,.ra 2 0),(3,.ra 3 0)] [(1,K24 a0),(2,.box [I 0,.nils,.nils,.nils]),(3,.box [I a0.fSize,.rs 4,.rs 5,.nils]),(4,rI a1),(5,rI a3)] (cq (K97 _ _ a4) K3l tv) ?_
 obtain ⟨a5,a6,h⟩ := Qdd h
 refine rs hc none [oN,oN,some (.call (.osl (List.map AV.bool a5)) [] 6),oN,oN] [(2,.ra 2 0),(3,.ra 3 0)] [(2,.box [I 0,.nils,.nils,.nils]),(3,.box [I a0.fSize,.rs 4,.rs 5,.rs 6]),(4,rI a1),(5,rI a3),(6,.arr (List.map AV.bool a5))] (cq (K9e _ _ a6) K3m tv) ?_
 refine rs0 hc 2 [(2,.ra 2 0)] [(2,.box [I a0.fSize,.rs 4,.rs 5,.rs 6]),(4,rI a1),(5,rI a3),(6,.arr (List.map AV.bool a5))] ?_
 refine rt ?_
 obtain rfl := os h
 exact rq [true]
def K9i (c : Ctx) : LL → Exit → Q0a → Prop
 | a0 => Qcz c (.exit 0) (mkS [(3,.rs 1)] [(1,.arr (List.map K0c a0))])
def K9j (p : LL × LL × Int) : Option (LL) :=
 match p with
 | (a0,a1,a2) =>
  if (decide (a2 < (a0.length : Int))) = true then
  (idx a0 a2) >>= fun a3 =>
  (K95 a3) >>= fun a4 =>
  (idx a1 a2) >>= fun a5 =>
  K9j (a0,(List.set a1 (Int.toNat a2) a4),(wr (a2 + 1)))
  else
  some (a1)
 partial_fixpoint
def K9k (p : LL × LL × Int) (fl : LL) : Prop :=
 match p with
 | (a0,a1,a2) => ∀ c : Ctx,c.nt = 23 → WpL Tryz.prog c (cl (cl (cr (cl (cr (cr B17)))))) (K9i c fl) (mkS [(0,sL a0),(3,.rs 1),(4,I a2)] [(1,.arr (List.map K0c a1))])
theorem K9l : ∀ p r,K9j p = some r → K9k p r := by
 refine K9j.partial_correctness K9k ?_
 rintro laws_toIntSS_l0_f laws_toIntSS_l0_ih ⟨a0,a1,a2⟩ r h
 intro c hc
 refine WpL.step ?_
 refine sN ?_
 refine rss hc none [oN,oN,some (.eqv (.no) ⟨[(10,I (a0.length : Int))],[],[]⟩),oN] [(0,sL a0),(3,.rs 1),(4,I a2),(11,.bool (decide (a2 < (a0.length : Int))))] (ai (Qdj (d := 10) K07 a0) tv) ?_
 refine ic h (fun a3 h => ?_) fun a3 h => ?_
 ·refine sk ?_
  refine sN ?_
  refine bk 1 ?_
  obtain ⟨a4,a5,a6,a7,a8,a9,h⟩ := bq3 h
  refine rg hc none [oN,oN,oN,oN,some (.el (sI a4)),oN,some (.call (oI a6) [] 3),oN,some (.eqv (.mk 0 true) ⟨[],[(1,some (.arr (List.map K0c (List.set a1 (Int.toNat a2) a6)))),(3,none)],[]⟩)] [(0,sL a0),(3,.rs 1),(4,I a2)] [(1,.arr (List.map K0c (List.set a1 (Int.toNat a2) a6)))] (ai (xL a5) (cq (K97 _ _ a7) K3l (ac (Qdi (enc := K0c) a9) (congrArg (fun z => (⟨[],[(1,some (.arr z)),(3,none)],[]⟩ : Wr)) (Qeg (enc := K0c) (i := Int.toNat a2) (l := a1) (v := a6) (x := oI a6) (K0d a6))) (Qeh (enc := K0c) (sz := 1) K0e a9) tv))) ?_
  refine K87 hc 3 [(0,sL a0),(3,.rs 1),(4,I (wr (a2 + 1)))] ?_
  refine Qcv ?_
  exact (laws_toIntSS_l0_ih _ _ h c hc)
 refine xt 0 ?_
 refine Qcp ?_
 refine Qcw ?_
 obtain rfl := os h
 exact iv []
def K9m (a0 : LL) : Option (LL) :=
 (chk (0 ≤ (a0.length : Int) ∧ (Int.toNat (a0.length : Int)) * 24 ≤ 140737488355328)) >>= fun _ =>
 (K9j (a0,(List.replicate (Int.toNat (a0.length : Int)) []),0)) >>= fun a1 =>
 some a1
def K9n (a0 : LL) (r : LL) : Prop :=
 Q71 Tryz.prog 17 [sL a0] (.osl (List.map K0c r)) []
theorem K9o : ∀ p r,K9m p = some r → K9n p r := by
 rintro a0 r h
 unfold K9m at h
 refine b0 Tryz.f17 B17 23 [(0,sL a0)] fun c hc => ?_
 refine rs0 hc 1 [(0,sL a0)] [] ?_
 obtain ⟨_,a1,h⟩ := Qdd h
 refine rs hc none [oN,some (.eqv (.no) ⟨[(6,I (a0.length : Int))],[],[]⟩),some (.eqv (.mk 1 true) ⟨[(7,.rs 1)],[(1,some (.arr (List.map K0c (List.replicate (Int.toNat (a0.length : Int)) []))))],[1]⟩),oN] [(0,sL a0),(3,.rs 1)] [(1,.arr (List.map K0c (List.replicate (Int.toNat (a0.length : Int)) [])))] (ac (Qdj (d := 6) K07 a0) (congrArg (fun z => (⟨[(7,.rs 1)],[(1,some (.arr z))],[1]⟩ : Wr)) (Qei (enc := K0c) (n := Int.toNat (a0.length : Int)) (x := AV.osl (List.map I [])) (K0d []))) (And.intro (Eq.refl (a0.length : Int)) (Qdf a1)) tv) ?_
 refine sN ?_
 refine K88 hc 1 [(0,sL a0),(3,.rs 1),(4,I 0)] ?_
 refine bk 0 ?_
 obtain ⟨a2,a3,h⟩ := Qdd h
 have hL := K9l _ _ a3 c hc
 refine lp ?_
 refine WpL.into (e := (.exit 0)) (mkS [(3,.rs 1)] [(1,.arr (List.map K0c a2))]) hL ?_
 refine Qcr ?_
 refine K88 hc 2 [(2,.rs 1)] ?_
 refine rt ?_
 obtain rfl := os h
 exact rq [true]
def K9p (c : Ctx) : (List K01) → Exit → Q0a → Prop
 | a0 => Qcz c (.exit 0) (mkS [(3,.rs 1)] [(1,.arr (List.map K0v a0))])
mutual
def K9q (a0 : K01) : Option (K01) :=
 (K95 a0.fType) >>= fun a1 =>
 (K9r a0.fKids) >>= fun a2 =>
 some (K01.mk a0.fOp a0.fN a1 a2)
 partial_fixpoint
def K9r (a0 : (List K01)) : Option ((List K01)) :=
 (chk (0 ≤ (a0.length : Int) ∧ (Int.toNat (a0.length : Int)) * 64 ≤ 140737488355328)) >>= fun _ =>
 (K9s (a0,(List.replicate (Int.toNat (a0.length : Int)) (K01.mk 0 0 [] [])),0)) >>= fun a1 =>
 some a1
 partial_fixpoint
def K9s (p : (List K01) × (List K01) × Int) : Option ((List K01)) :=
 match p with
 | (a0,a1,a2) =>
  if (decide (a2 < (a0.length : Int))) = true then
  (idx a0 a2) >>= fun a3 =>
  (K9q a3) >>= fun a4 =>
  (idx a1 a2) >>= fun a5 =>
  K9s (a0,(List.set a1 (Int.toNat a2) a4),(wr (a2 + 1)))
  else
  some (a1)
 partial_fixpoint
end
def K9t (a0 : K01) (r : K01) : Prop :=
 Q71 Tryz.prog 18 [K27 a0] (K2i r) []
def K9u (a0 : (List K01)) (r : (List K01)) : Prop :=
 Q71 Tryz.prog 46 [.sl (List.map K0s a0)] (.osl (List.map K0v r)) []
def K9v (p : (List K01) × (List K01) × Int) (fl : (List K01)) : Prop :=
 match p with
 | (a0,a1,a2) => ∀ c : Ctx,c.nt = 23 → WpL Tryz.prog c (cl (cl (cr (cl (cr (cr B46)))))) (K9p c fl) (mkS [(0,.sl (List.map K0s a0)),(3,.rs 1),(4,I a2)] [(1,.arr (List.map K0v a1))])
theorem K9w : (∀ p r,K9q p = some r → K9t p r) ∧ (∀ p r,K9r p = some r → K9u p r) ∧ (∀ p r,K9s p = some r → K9v p r) := by
 refine K9q.mutual_partial_correctness K9t K9u K9v ?_ ?_ ?_
 ·rintro laws_toTermS_f laws_toTermS_ih a0 r h
  refine b0 Tryz.f18 B18 19 [(0,K27 a0)] fun c hc => ?_
  refine rs hc none [some (.new 1),some (.new 2)] [(1,.ra 1 0),(2,.ra 2 0)] [(1,K26 a0),(2,.box [I 0,I 0,.nils,.nils])] tv ?_
  refine rs hc none [some (.new 3)] [(1,.ra 1 0),(2,.ra 2 0),(3,.ra 3 0)] [(1,K26 a0),(2,.box [I 0,I 0,.nils,.nils]),(3,.box [I 0,I 0,.nils,.nils])] tv ?_
  refine rs0 hc 4 [(1,.ra 1 0),(2,.ra 2 0),(3,.ra 3 0)] [(1,K26 a0),(2,.box [I 0,I 0,.nils,.nils]),(3,.box [I a0.fOp,I 0,.nils,.nils])] ?_
  refine rs0 hc 4 [(1,.ra 1 0),(2,.ra 2 0),(3,.ra 3 0)] [(1,K26 a0),(2,.box [I 0,I 0,.nils,.nils]),(3,.box [I a0.fOp,I a0.fN,.nils,.nils])] ?_
  obtain ⟨a1,a2,h⟩ := Qdd h
  refine rs hc none [oN,oN,some (.call (oI a1) [] 4),oN,oN] [(1,.ra 1 0),(2,.ra 2 0),(3,.ra 3 0)] [(1,K26 a0),(2,.box [I 0,I 0,.nils,.nils]),(3,.box [I a0.fOp,I a0.fN,.rs 4,.nils]),(4,rI a1)] (cq (K97 _ _ a2) K3l tv) ?_
  obtain ⟨a3,a4,h⟩ := Qdd h
  refine rs hc none [oN,oN,some (.call (.osl (List.map K0v a3)) [] 5),oN,oN] [(2,.ra 2 0),(3,.ra 3 0)] [(2,.box [I 0,I 0,.nils,.nils]),(3,.box [I a0.fOp,I a0.fN,.rs 4,.rs 5]),(4,rI a1),(5,.arr (List.map K0v a3))] (cq (laws_toTermS_ih _ _ a4) K3p tv) ?_
  refine rs0 hc 2 [(2,.ra 2 0)] [(2,.box [I a0.fOp,I a0.fN,.rs 4,.rs 5]),(4,rI a1),(5,.arr (List.map K0v a3))] ?_
  refine rt ?_
  obtain rfl := os h
  exact rq [true]
 ·rintro laws_toTermS_l0_f laws_toTermS_l0_ih a0 r h
  refine b0 Tryz.f46 B46 23 [(0,.sl (List.map K0s a0))] fun c hc => ?_
  refine rs0 hc 1 [(0,.sl (List.map K0s a0))] [] ?_
  obtain ⟨_,a5,h⟩ := Qdd h
  refine rs hc none [oN,some (.eqv (.no) ⟨[(6,I (a0.length : Int))],[],[]⟩),some (.eqv (.mk 1 true) ⟨[(7,.rs 1)],[(1,some (.arr (List.map K0v (List.replicate (Int.toNat (a0.length : Int)) (K01.mk 0 0 [] [])))))],[1]⟩),oN] [(0,.sl (List.map K0s a0)),(3,.rs 1)] [(1,.arr (List.map K0v (List.replicate (Int.toNat (a0.length : Int)) (K01.mk 0 0 [] []))))] (ac (Qdj (d := 6) K0s a0) (congrArg (fun z => (⟨[(7,.rs 1)],[(1,some (.arr z))],[1]⟩ : Wr)) (Qei (enc := K0v) (n := Int.toNat (a0.length : Int)) (x := AV.agg [I ((K01.mk 0 0 [] []).fOp),I ((K01.mk 0 0 [] []).fN),.osl (List.map I ((K01.mk 0 0 [] []).fType)),.osl (List.map K0v ((K01.mk 0 0 [] []).fKids))]) (K11 (K01.mk 0 0 [] [])))) (And.intro (Eq.refl (a0.length : Int)) (Qdf a5)) tv) ?_
  refine sN ?_
  refine K88 hc 1 [(0,.sl (List.map K0s a0)),(3,.rs 1),(4,I 0)] ?_
  refine bk 0 ?_
  obtain ⟨a6,a7,h⟩ := Qdd h
  have hL := laws_toTermS_l0_ih _ _ a7 c hc
  refine lp ?_
  refine WpL.into (e := (.exit 0)) (mkS [(3,.rs 1)] [(1,.arr (List.map K0v a6))]) hL ?_
  refine Qcr ?_
  refine K88 hc 2 [(2,.rs 1)] ?_
  refine rt ?_
  obtain rfl := os h
  exact rq [true]
 ·rintro laws_toTerm_f laws_toTermS_l0_f laws_toTerm_ih laws_toTermS_l0_ih ⟨a0,a8,a9⟩ r h
  intro c hc
  refine WpL.step ?_
  refine sN ?_
  refine rss hc none [oN,oN,some (.eqv (.no) ⟨[(10,I (a0.length : Int))],[],[]⟩),oN] [(0,.sl (List.map K0s a0)),(3,.rs 1),(4,I a9),(11,.bool (decide (a9 < (a0.length : Int))))] (ai (Qdj (d := 10) K0s a0) tv) ?_
  refine ic h (fun b1 h => ?_) fun b1 h => ?_
  ·refine sk ?_
   refine sN ?_
   refine bk 1 ?_
   obtain ⟨b2,b3,b4,b5,b6,b7,h⟩ := bq3 h
   refine rg hc none [oN,oN,oN,oN,some (.el (K27 b2)),oN,some (.call (K2i b4) [] 4),oN,some (.eqv (.mk 0 true) ⟨[],[(1,some (.arr (List.map K0v (List.set a8 (Int.toNat a9) b4)))),(4,none),(5,none)],[]⟩)] [(0,.sl (List.map K0s a0)),(3,.rs 1),(4,I a9)] [(1,.arr (List.map K0v (List.set a8 (Int.toNat a9) b4)))] (ai (Qdh b3 (K0z b2)) (cq (laws_toTerm_ih _ _ b5) K3q (ac (Qdi (enc := K0v) b7) (congrArg (fun z => (⟨[],[(1,some (.arr z)),(4,none),(5,none)],[]⟩ : Wr)) (Qeg (enc := K0v) (i := Int.toNat a9) (l := a8) (v := b4) (x := AV.agg [I b4.fOp,I b4.fN,oI b4.fType,AV.osl (List.map K0v b4.fKids)]) (K11 b4))) (Qeh (enc := K0v) (sz := 4) K1e b7) tv))) ?_
   refine K87 hc 3 [(0,.sl (List.map K0s a0)),(3,.rs 1),(4,I (wr (a9 + 1)))] ?_
   refine Qcv ?_
   exact (laws_toTermS_l0_ih _ _ h c hc)
  refine xt 0 ?_
  refine Qcp ?_
  refine Qcw ?_
  obtain rfl := os h
  exact iv []
theorem K9x : ∀ p r,K9q p = some r → K9t p r := K9w.1
theorem K9y : ∀ p r,K9r p = some r → K9u p r := K9w.2.1
theorem K9z : ∀ p r,K9s p = some r → K9v p r := K9w.2.2
def Ka0 (p : Int × Int × Int) : Option (Bool) :=
 match p with
 | (n0,low1,high2) =>
  ((
  if (decide (n0 ≥ low1)) = true then
  some ((decide (n0 ≤ high2)))
  else
  some (false)
  ) : Option (Bool)) >>= fun a0 =>
  some a0
def Ka1 (p : Int × Int × Int) (r : Bool) : Prop :=
 match p with
 | (n0,low1,high2) => Q71 Tryz.prog 56 [I n0,I low1,I high2] (.bool r) []
theorem Ka2 : ∀ p r,Ka0 p = some r → Ka1 p r := by
 rintro ⟨n0,low1,high2⟩ r h
 unfold Ka0 at h
 refine b0 Tryz.f56 B56 15 [(0,I n0),(1,I low1),(2,I high2)] fun c hc => ?_
 refine rs0 hc 1 [(0,I n0),(1,I low1),(2,I high2)] [] ?_
 refine sN ?_
 obtain ⟨a0,a1,h⟩ := Qdd h
 refine Wp.into (x := .normal) (mkS [(6,.bool a0)] []) ?_ ?_
 ·replace h := a1
  rcases is h with ⟨a2,h⟩ | ⟨a2,h⟩
  ·refine rg hc none [oN,oN,oN,oN,oN,oN,oN,oT,oN] [(6,.bool (decide (n0 ≤ high2)))] [] (ar 4 a2 tv) ?_
   obtain rfl := os h
   exact Qcz.mk
  refine rg hc none [oN,oN,oN,oN,o_,o_,o_,oF,oN] [(6,.bool false)] [] (ar 3 (neT a2) (ai a2 tv)) ?_
  obtain rfl := os h
  exact Qcz.mk
 clear a1
 refine rt ?_
 obtain rfl := os h
 exact rq [true]
def Ka3 (c : Ctx) : (Unit) ⊕ (Bool) → Exit → Q0a → Prop
 | .inl _ => Qcz c (.exit 0) (mkS [] [])
 | .inr r => Qd8 TIx Tryz.f133 [] (.bool r)
def Ka4 (p : K00 × Int) : Option ((Unit) ⊕ (Bool)) :=
 match p with
 | (s0,a0) =>
  if (decide (a0 < (s0.fPlus.length : Int))) = true then
  ((
  (idx s0.fPlus a0) >>= fun a1 =>
  (Ka0 (a1,0,(wr (s0.fSize - 1)))) >>= fun a2 =>
  if a2 = true then
  (idx s0.fTimes a0) >>= fun a3 =>
  (Ka0 (a3,0,(wr (s0.fSize - 1)))) >>= fun a4 =>
  some ((!a4))
  else
  some (true)
  ) : Option (Bool)) >>= fun a5 =>
  if a5 = true then
  some (.inr false)
  else
  Ka4 (s0,(wr (a0 + 1)))
  else
  some (.inl ())
 partial_fixpoint
def Ka5 (p : K00 × Int) (fl : (Unit) ⊕ (Bool)) : Prop :=
 match p with
 | (s0,a0) => ∀ c : Ctx,c.nt = 70 → WpL Tryz.prog c (cl (cl (cr (cl (cr (cr K3s)))))) (Ka3 c fl) (mkS [(1,.ra 1 0),(3,I a0)] [(1,K24 s0)])
theorem Ka6 : ∀ p r,Ka4 p = some r → Ka5 p r := by
 refine Ka4.partial_correctness Ka5 ?_
 rintro spec_l1Tables_l0_f spec_l1Tables_l0_ih ⟨s0,a0⟩ r h
 intro c hc
 refine WpL.step ?_
 refine sN ?_
 refine rss hc none [oN,oN,oN,some (.eqv (.no) ⟨[(44,I (s0.fPlus.length : Int))],[],[]⟩),oN] [(1,.ra 1 0),(3,I a0),(45,.bool (decide (a0 < (s0.fPlus.length : Int))))] (ai (Qdj (d := 44) I s0.fPlus) tv) ?_
 refine ic h (fun a1 h => ?_) fun a1 h => ?_
 ·refine sk ?_
  refine sN ?_
  refine bk 1 ?_
  refine sN ?_
  obtain ⟨a2,a3,h⟩ := Qdd h
  refine Wp.into (x := .normal) (mkS [(1,.ra 1 0),(3,I a0),(69,.bool a2)] [(1,K24 s0)]) ?_ ?_
  ·replace h := a3
   obtain ⟨a4,a5,a6,a7,h⟩ := bq2 h
   rcases is h with ⟨a8,h⟩ | ⟨a8,h⟩
   ·obtain ⟨a9,b1,b2,b3,h⟩ := bq2 h
    refine rgs hc K89 [oN,oN,oN,some (.el (I a4)),oN,oN,oN,oN,oc (.bool a6),oN,oN,oN,oN,oN,some (.el (I a9)),oN,oN,oN,oN,oc (.bool b2),oN,oF] [(1,.ra 1 0),(3,I a0),(69,.bool (!b2))] (ai (ix a5) (cq (Ka2 _ _ a7) K3r (ar 4 (nF a8) (ai (ix b1) (ar 5 (nF a8) (cq (Ka2 _ _ b3) K3r (ar 2 (nF a8) tv))))))) ?_
    obtain rfl := os h
    exact Qcz.mk
   refine rgs hc K89 [oN,oN,oN,some (.el (I a4)),oN,oN,oN,oN,oc (.bool a6),oN,oN,o_,o_,o_,o_,o_,o_,o_,o_,o_,o_,oT] [(1,.ra 1 0),(3,I a0),(69,.bool true)] (ai (ix a5) (cq (Ka2 _ _ a7) K3r (ar 10 (neF (nT a8)) (ai (nT a8) tv)))) ?_
   obtain rfl := os h
   exact Qcz.mk
  clear a3
  refine ic h (fun b4 h => ?_) fun b4 h => ?_
  ·refine rs0 hc 1 [(2,.bool false)] [] ?_
   refine rt ?_
   obtain rfl := os h
   exact re [true]
  refine sk ?_
  refine K87 hc 3 [(1,.ra 1 0),(3,I (wr (a0 + 1)))] ?_
  refine Qcv ?_
  exact (spec_l1Tables_l0_ih _ _ h c hc)
 refine xt 0 ?_
 refine Qcp ?_
 refine Qcw ?_
 obtain rfl := os h
 exact iv []
def Ka7 (s0 : K00) : Option (Bool) :=
 ((
 (Ka0 (s0.fSize,2,16)) >>= fun a0 =>
 if a0 = true then
  if ((s0.fPlus.length : Int) != (wr (s0.fSize * s0.fSize))) = true then
  some (true)
  else
  if ((s0.fTimes.length : Int) != (wr (s0.fSize * s0.fSize))) = true then
  some (true)
  else
  some (((s0.fBelow.length : Int) != (wr (s0.fSize * s0.fSize))))
 else
  some (true)
 ) : Option (Bool)) >>= fun a1 =>
 if a1 = true then
 some false
 else
 (Ka4 (s0,0)) >>= fun fl => match fl with
 | .inl () =>
  some true
 | .inr r =>
  some r
def Ka8 (s0 : K00) (r : Bool) : Prop :=
 Q71 Tryz.prog 133 [K25 s0] (.bool r) []
theorem Ka9 : ∀ p r,Ka7 p = some r → Ka8 p r := by
 rintro s0 r h
 unfold Ka7 at h
 refine b0 Tryz.f133 K3s 70 [(0,K25 s0)] fun c hc => ?_
 refine rs hc none [some (.new 1),oN] [(1,.ra 1 0)] [(1,K24 s0)] tv ?_
 refine sN ?_
 refine sN ?_
 obtain ⟨a0,a1,h⟩ := Qdd h
 refine Wp.into (x := .normal) (mkS [(1,.ra 1 0),(40,.bool a0)] [(1,K24 s0)]) ?_ ?_
 ·replace h := a1
  obtain ⟨a2,a3,h⟩ := Qdd h
  rcases is h with ⟨a4,h⟩ | ⟨a4,h⟩
  ·rcases is h with ⟨a5,h⟩ | ⟨a5,h⟩
   ·refine rgs hc none [oN,oN,oc (.bool a2),oN,oN,oN,oN,some (.eqv (.no) ⟨[(11,I (s0.fPlus.length : Int))],[],[]⟩),oN,oN,oN,oN,oN,oN,oF,oN,o_,o_,o_,o_,o_,o_,o_,o_,o_,oT,oN,o_,o_,o_,o_,o_,o_,o_,o_,o_,oT] [(1,.ra 1 0),(40,.bool true)] (cq (Ka2 _ _ a3) K3r (ar 3 (nF a4) (ai (Qdj (d := 11) I s0.fPlus) (ar 7 (nF a4) (ar 9 (neF a5) (ai a5 (ar 9 nf (ai tt tv)))))))) ?_
    obtain rfl := os h
    exact Qcz.mk
   rcases is h with ⟨a6,h⟩ | ⟨a6,h⟩
   ·refine rgs hc none [oN,oN,oc (.bool a2),oN,oN,oN,oN,some (.eqv (.no) ⟨[(11,I (s0.fPlus.length : Int))],[],[]⟩),oN,oN,oN,oN,oN,oN,oF,oN,oN,oN,some (.eqv (.no) ⟨[(22,I (s0.fTimes.length : Int))],[],[]⟩),oN,oN,oN,oN,oN,oN,oF,oN,o_,o_,o_,o_,o_,o_,o_,o_,o_,oT] [(1,.ra 1 0),(40,.bool true)] (cq (Ka2 _ _ a3) K3r (ar 3 (nF a4) (ai (Qdj (d := 11) I s0.fPlus) (ar 7 (nF a4) (ar 3 a5 (ai (Qdj (d := 22) I s0.fTimes) (ar 7 a5 (ar 9 (neF a6) (ai a6 tv))))))))) ?_
    obtain rfl := os h
    exact Qcz.mk
   refine rgs hc none [oN,oN,oc (.bool a2),oN,oN,oN,oN,some (.eqv (.no) ⟨[(11,I (s0.fPlus.length : Int))],[],[]⟩),oN,oN,oN,oN,oN,oN,oF,oN,oN,oN,some (.eqv (.no) ⟨[(22,I (s0.fTimes.length : Int))],[],[]⟩),oN,oN,oN,oN,oN,oN,oF,oN,oN,oN,some (.eqv (.no) ⟨[(33,I (s0.fBelow.length : Int))],[],[]⟩),oN,oN,oN,oN,oN,oN,oF] [(1,.ra 1 0),(40,.bool ((s0.fBelow.length : Int) != (wr (s0.fSize * s0.fSize))))] (cq (Ka2 _ _ a3) K3r (ar 3 (nF a4) (ai (Qdj (d := 11) I s0.fPlus) (ar 7 (nF a4) (ar 3 a5 (ai (Qdj (d := 22) I s0.fTimes) (ar 7 a5 (ar 3 a6 (ai (Qdj (d := 33) AV.bool s0.fBelow) (ar 7 a6 tv)))))))))) ?_
   obtain rfl := os h
   exact Qcz.mk
  refine rgs hc none [oN,oN,oc (.bool a2),oN,oN,o_,o_,o_,o_,o_,o_,o_,o_,o_,oT,oN,o_,o_,o_,o_,o_,o_,o_,o_,o_,oT,oN,o_,o_,o_,o_,o_,o_,o_,o_,o_,oT] [(1,.ra 1 0),(40,.bool true)] (cq (Ka2 _ _ a3) K3r (ar 9 (neF (nT a4)) (ai (nT a4) (ar 9 nf (ai tt (ar 9 nf (ai tt tv))))))) ?_
  obtain rfl := os h
  exact Qcz.mk
 clear a1
 refine ic h (fun a7 h => ?_) fun a7 h => ?_
 ·refine rs0 hc 1 [(2,.bool false)] [] ?_
  refine rt ?_
  obtain rfl := os h
  exact rq [true]
 refine sk ?_
 refine sN ?_
 refine K88 hc 1 [(1,.ra 1 0),(3,I 0)] ?_
 refine bk 0 ?_
 obtain ⟨fl,a8,h⟩ := Qdd h
 have hL := Ka6 _ _ a8 c hc
 refine lp ?_
 rcases fl with ⟨⟩ | r
 ·refine WpL.into (e := (.exit 0)) (mkS [] []) hL ?_
  refine Qcr ?_
  refine rs0 hc 1 [(2,.bool true)] [] ?_
  refine rt ?_
  obtain rfl := os h
  exact rq [true]
 refine WpL.mono hL ?_
 rintro _ _ ⟨rfl,hfin⟩
 obtain rfl := os h
 exact ⟨.inl rfl,hfin⟩
def Kaa (p : K00 × Int × Int) : Option (Int) :=
 match p with
 | (s0,a1,b2) =>
  (idx s0.fPlus (wr ((wr (a1 * s0.fSize)) + b2))) >>= fun a0 =>
  some a0
def Kab (p : K00 × Int × Int) (r : Int) : Prop :=
 match p with
 | (s0,a1,b2) => Q71 Tryz.prog 137 [K25 s0,I a1,I b2] (I r) []
theorem Kac : ∀ p r,Kaa p = some r → Kab p r := by
 rintro ⟨s0,a1,b2⟩ r h
 unfold Kaa at h
 refine b0 Tryz.f137 K3u 17 [(0,K25 s0),(1,I a1),(2,I b2)] fun c hc => ?_
 refine rs hc none [some (.new 1),oN] [(1,I a1),(2,I b2),(3,.ra 1 0)] [(1,K24 s0)] tv ?_
 obtain ⟨a0,a2,h⟩ := Qdd h
 refine rs hc none [oN,oN,oN,oN,oN,oN,oN,oN,some (.el (I a0)),oN,oN] [(6,I a0)] [] (ai (ix a2) tv) ?_
 refine rt ?_
 obtain rfl := os h
 exact rq [true]
def Kad (p : K00 × Int × Int) : Option (Int) :=
 match p with
 | (s0,a1,b2) =>
  (idx s0.fTimes (wr ((wr (a1 * s0.fSize)) + b2))) >>= fun a0 =>
  some a0
def Kae (p : K00 × Int × Int) (r : Int) : Prop :=
 match p with
 | (s0,a1,b2) => Q71 Tryz.prog 112 [K25 s0,I a1,I b2] (I r) []
theorem Kaf : ∀ p r,Kad p = some r → Kae p r := by
 rintro ⟨s0,a1,b2⟩ r h
 unfold Kad at h
 refine b0 Tryz.f112 K3w 17 [(0,K25 s0),(1,I a1),(2,I b2)] fun c hc => ?_
 refine rs hc none [some (.new 1),oN] [(1,I a1),(2,I b2),(3,.ra 1 0)] [(1,K24 s0)] tv ?_
 obtain ⟨a0,a2,h⟩ := Qdd h
 refine rs hc none [oN,oN,oN,oN,oN,oN,oN,oN,some (.el (I a0)),oN,oN] [(6,I a0)] [] (ai (ix a2) tv) ?_
 refine rt ?_
 obtain rfl := os h
 exact rq [true]
def Kag (p : K00 × Int × Int) : Option (Bool) :=
 match p with
 | (s0,a1,b2) =>
  (idx s0.fBelow (wr ((wr (a1 * s0.fSize)) + b2))) >>= fun a0 =>
  some a0
def Kah (p : K00 × Int × Int) (r : Bool) : Prop :=
 match p with
 | (s0,a1,b2) => Q71 Tryz.prog 99 [K25 s0,I a1,I b2] (.bool r) []
theorem Kai : ∀ p r,Kag p = some r → Kah p r := by
 rintro ⟨s0,a1,b2⟩ r h
 unfold Kag at h
 refine b0 Tryz.f99 B99 17 [(0,K25 s0),(1,I a1),(2,I b2)] fun c hc => ?_
 refine rs hc none [some (.new 1),oN] [(1,I a1),(2,I b2),(3,.ra 1 0)] [(1,K24 s0)] tv ?_
 obtain ⟨a0,a2,h⟩ := Qdd h
 refine rs hc none [oN,oN,oN,oN,oN,oN,oN,oN,some (.el (.bool a0)),oN,oN] [(6,.bool a0)] [] (ai (Qdh (enc := AV.bool) (x := .bool a0) a2 (Qdu a0)) tv) ?_
 refine rt ?_
 obtain rfl := os h
 exact rq [true]
def Kaj : Option (List (List Nat)) := rh [0,0,0,3,0,0,0,7,8,9,10,10,12,13,14,14,14,17,18,19,20,21,21,21,24,25,26,27,28,29,29,29,32,33,34,35]
def Kak : Option (List (List Nat)) := rx [[0],[0],[0],[0],[0,1,2,3],[0],[6],[0],[0],[0],[0],[0],[7,9,10,11],[13],[14],[15],[16],[16],[16],[16],[16,17,18,19],[16],[22],[16],[16],[16],[16],[16],[23,25,26,27],[29],[30],[31]]
def Kal : Option (List (List Nat)) := rx [[0],[0],[0],[0],[0],[0,2,3,4],[6],[0],[0],[0],[0],[7,8,9,10],[0],[0],[0],[7,8,9,10,11,12,13,14],[16],[17],[18],[19],[19],[19],[19],[19,20,21,22],[19],[25],[19],[19],[19],[19],[26,27,28,29],[19],[19],[19],[26,27,28,29,30,31,32,33],[35],[36],[37]]
def Kam : Option (List (List Nat)) := rx [[0],[0],[0],[0],[0,1,2,3],[0],[0],[0],[0,1,2,3,4,5,6,7],[9],[10],[11],[11],[11],[11],[11,12,13,14],[11],[11],[11],[11,12,13,14,15,16,17,18],[20],[21],[22],[23],[23],[23],[23],[23,24,25,26],[23],[23],[23],[23,24,25,26,27,28,29,30],[32],[33],[34]]
def Kan (p : K00 × Int) : Option (Bool) :=
 match p with
 | (s0,a1) =>
  ((
  (Kaa (s0,0,a1)) >>= fun a0 =>
  if (a0 == a1) = true then
  (Kad (s0,1,a1)) >>= fun a2 =>
  if (a2 == a1) = true then
  (Kad (s0,a1,1)) >>= fun a3 =>
  if (a3 == a1) = true then
  (Kad (s0,0,a1)) >>= fun a4 =>
  if (a4 == 0) = true then
  (Kad (s0,a1,0)) >>= fun a5 =>
  if (a5 == 0) = true then
  (Kag (s0,a1,a1)) >>= fun a6 =>
  some (a6)
  else
  some (false)
  else
  some (false)
  else
  some (false)
  else
  some (false)
  else
  some (false)
  ) : Option (Bool)) >>= fun a7 =>
  some a7
def Kao (p : K00 × Int) (r : Bool) : Prop :=
 match p with
 | (s0,a1) => Q71 Tryz.prog 134 [K25 s0,I a1] (.bool r) []
theorem Kap : ∀ p r,Kan p = some r → Kao p r := by
 rintro ⟨s0,a1⟩ r h
 unfold Kan at h
 refine b0 Tryz.f134 K3z 42 [(0,K25 s0),(1,I a1)] fun c hc => ?_
 refine rs hc none [some (.new 1),oN] [(1,I a1),(2,.ra 1 0)] [(1,K24 s0)] tv ?_
 refine sN ?_
 obtain ⟨a0,a2,h⟩ := Qdd h
 refine Wp.into (x := .normal) (mkS [(4,.bool a0)] []) ?_ ?_
 ·replace h := a2
  obtain ⟨a3,a4,h⟩ := Qdd h
  rcases is h with ⟨a5,h⟩ | ⟨a5,h⟩
  ·obtain ⟨a6,a7,h⟩ := Qdd h
   rcases is h with ⟨a8,h⟩ | ⟨a8,h⟩
   ·obtain ⟨a9,b1,h⟩ := Qdd h
    rcases is h with ⟨b2,h⟩ | ⟨b2,h⟩
    ·obtain ⟨b3,b4,h⟩ := Qdd h
     rcases is h with ⟨b5,h⟩ | ⟨b5,h⟩
     ·obtain ⟨b6,b7,h⟩ := Qdd h
      rcases is h with ⟨b8,h⟩ | ⟨b8,h⟩
      ·obtain ⟨b9,c0,h⟩ := Qdd h
       refine rg hc none [oN,oN,oc (I a3),oN,oN,oN,oN,oN,oc (I a6),oN,oN,oT,oN,oN,oN,oc (I a9),oN,oN,oT,oN,oN,oN,oc (I b3),oN,oT,oN,oN,oN,oc (I b6),oN,oT,oN,oN,oN,oN,oc (.bool b9),oT,oN] [(4,.bool b9)] [] (cq (Kac _ _ a4) K3v (ar 3 a5 (cq (Kaf _ _ a7) K3x (ar 3 a5 (ar 3 a8 (cq (Kaf _ _ b1) K3x (ar 3 a8 (ar 3 b2 (cq (Kaf _ _ b4) K3x (ar 2 b2 (ar 3 b5 (cq (Kaf _ _ b7) K3x (ar 2 b5 (ar 4 b8 (cq (Kai _ _ c0) K3y (ai b8 tv)))))))))))))))) ?_
       obtain rfl := os h
       exact Qcz.mk
      refine rg hc none [oN,oN,oc (I a3),oN,oN,oN,oN,oN,oc (I a6),oN,oN,oT,oN,oN,oN,oc (I a9),oN,oN,oT,oN,oN,oN,oc (I b3),oN,oT,oN,oN,oN,oc (I b6),oN,oT,oN,o_,o_,o_,o_,oF,oN] [(4,.bool false)] [] (cq (Kac _ _ a4) K3v (ar 3 a5 (cq (Kaf _ _ a7) K3x (ar 3 a5 (ar 3 a8 (cq (Kaf _ _ b1) K3x (ar 3 a8 (ar 3 b2 (cq (Kaf _ _ b4) K3x (ar 2 b2 (ar 3 b5 (cq (Kaf _ _ b7) K3x (ar 2 b5 (ar 4 (neT b8) (ai b8 tv))))))))))))))) ?_
      obtain rfl := os h
      exact Qcz.mk
     refine rg hc none [oN,oN,oc (I a3),oN,oN,oN,oN,oN,oc (I a6),oN,oN,oT,oN,oN,oN,oc (I a9),oN,oN,oT,oN,oN,oN,oc (I b3),oN,oT,oN,o_,o_,o_,o_,oF,oN,o_,o_,o_,o_,oF,oN] [(4,.bool false)] [] (cq (Kac _ _ a4) K3v (ar 3 a5 (cq (Kaf _ _ a7) K3x (ar 3 a5 (ar 3 a8 (cq (Kaf _ _ b1) K3x (ar 3 a8 (ar 3 b2 (cq (Kaf _ _ b4) K3x (ar 2 b2 (ar 4 (neT b5) (ai b5 (ar 4 (neT (rfl : false = false)) (ai (rfl : false = false) tv)))))))))))))) ?_
     obtain rfl := os h
     exact Qcz.mk
    refine rg hc none [oN,oN,oc (I a3),oN,oN,oN,oN,oN,oc (I a6),oN,oN,oT,oN,oN,oN,oc (I a9),oN,oN,oT,oN,o_,o_,o_,o_,oF,oN,o_,o_,o_,o_,oF,oN,o_,o_,o_,o_,oF,oN] [(4,.bool false)] [] (cq (Kac _ _ a4) K3v (ar 3 a5 (cq (Kaf _ _ a7) K3x (ar 3 a5 (ar 3 a8 (cq (Kaf _ _ b1) K3x (ar 3 a8 (ar 4 (neT b2) (ai b2 (ar 4 (neT (rfl : false = false)) (ai (rfl : false = false) (ar 4 (neT (rfl : false = false)) (ai (rfl : false = false) tv))))))))))))) ?_
    obtain rfl := os h
    exact Qcz.mk
   refine rg hc none [oN,oN,oc (I a3),oN,oN,oN,oN,oN,oc (I a6),oN,oN,oT,oN,o_,o_,o_,o_,o_,oF,oN,o_,o_,o_,o_,oF,oN,o_,o_,o_,o_,oF,oN,o_,o_,o_,o_,oF,oN] [(4,.bool false)] [] (cq (Kac _ _ a4) K3v (ar 3 a5 (cq (Kaf _ _ a7) K3x (ar 3 a5 (ar 5 (neT a8) (ai a8 (ar 4 (neT (rfl : false = false)) (ai (rfl : false = false) (ar 4 (neT (rfl : false = false)) (ai (rfl : false = false) (ar 4 (neT (rfl : false = false)) (ai (rfl : false = false) tv)))))))))))) ?_
   obtain rfl := os h
   exact Qcz.mk
  refine rg hc none [oN,oN,oc (I a3),oN,oN,oN,o_,o_,o_,o_,o_,oF,oN,o_,o_,o_,o_,o_,oF,oN,o_,o_,o_,o_,oF,oN,o_,o_,o_,o_,oF,oN,o_,o_,o_,o_,oF,oN] [(4,.bool false)] [] (cq (Kac _ _ a4) K3v (ar 5 (neT a5) (ai a5 (ar 5 (neT (rfl : false = false)) (ai (rfl : false = false) (ar 4 (neT (rfl : false = false)) (ai (rfl : false = false) (ar 4 (neT (rfl : false = false)) (ai (rfl : false = false) (ar 4 (neT (rfl : false = false)) (ai (rfl : false = false) tv))))))))))) ?_
  obtain rfl := os h
  exact Qcz.mk
 clear a2
 refine rt ?_
 obtain rfl := os h
 exact rq [true]
def Kaq (c : Ctx) (s0 : K00) (a1 : Int) (b2 : Int) (a0 : Int) : Bool → Exit → Q0a → Prop
 | a2 => Qcz c (.exit 2) (mkS [(1,I a1),(2,I b2),(3,.ra 1 0),(7,I a0),(8,.bool a2)] [(1,K24 s0)])
def Kar (p : K00 × Int × Int × Int × Bool × Int) : Option (Bool) :=
 match p with
 | (s0,a1,b2,a0,a2,a3) =>
  ((
  if (decide (a3 < s0.fSize)) = true then
  some (a2)
  else
  some (false)
  ) : Option (Bool)) >>= fun a4 =>
  if a4 = true then
  ((
  (Kag (s0,a1,a3)) >>= fun a5 =>
  if a5 = true then
  (Kag (s0,b2,a3)) >>= fun a6 =>
  if a6 = true then
  (Kag (s0,a0,a3)) >>= fun a7 =>
  some (a7)
  else
  some (true)
  else
  some (true)
  ) : Option (Bool)) >>= fun a8 =>
  Kar (s0,a1,b2,a0,a8,(wr (a3 + 1)))
  else
  some (a2)
 partial_fixpoint
def Kas (p : K00 × Int × Int × Int × Bool × Int) (fl : Bool) : Prop :=
 match p with
 | (s0,a1,b2,a0,a2,a3) => ∀ c : Ctx,c.nt = 55 → WpL Tryz.prog c (cl (cl (cr (cl (cr (cl (cl (cr (cl (cl (cr (cl (cr K41))))))))))))) (Kaq c s0 a1 b2 a0 fl) (mkS [(1,I a1),(2,I b2),(3,.ra 1 0),(7,I a0),(8,.bool a2),(9,I a3)] [(1,K24 s0)])
theorem Kat : ∀ p r,Kar p = some r → Kas p r := by
 refine Kar.partial_correctness Kas ?_
 rintro spec_l1Join_l0_f spec_l1Join_l0_ih ⟨s0,a1,b2,a0,a2,a3⟩ r h
 intro c hc
 refine WpL.step ?_
 refine sN ?_
 refine sN ?_
 obtain ⟨a4,a5,h⟩ := Qdd h
 refine Wp.into (x := .normal) (mkS [(1,I a1),(2,I b2),(3,.ra 1 0),(7,I a0),(8,.bool a2),(9,I a3),(32,.bool a4)] [(1,K24 s0)]) ?_ ?_
 ·replace h := a5
  rcases is h with ⟨a6,h⟩ | ⟨a6,h⟩
  ·refine rgs hc none [oN,oN,oN,oN,oN,oN,oT] [(1,I a1),(2,I b2),(3,.ra 1 0),(7,I a0),(8,.bool a2),(9,I a3),(32,.bool a2)] (ar 2 a6 tv) ?_
   obtain rfl := os h
   exact Qcz.mk
  refine rgs hc none [oN,oN,oN,oN,oN,o_,oF] [(1,I a1),(2,I b2),(3,.ra 1 0),(7,I a0),(8,.bool a2),(9,I a3),(32,.bool false)] (ab (neT a6) a6 tv) ?_
  obtain rfl := os h
  exact Qcz.mk
 clear a5
 refine ic h (fun a7 h => ?_) fun a7 h => ?_
 ·refine sk ?_
  refine sN ?_
  refine bk 3 ?_
  obtain ⟨a8,a9,h⟩ := Qdd h
  refine Wp.into (x := .normal) (mkS [(1,I a1),(2,I b2),(3,.ra 1 0),(7,I a0),(8,.bool a8),(9,I a3)] [(1,K24 s0)]) ?_ ?_
  ·replace h := a9
   obtain ⟨b1,b3,h⟩ := Qdd h
   rcases is h with ⟨b4,h⟩ | ⟨b4,h⟩
   ·obtain ⟨b5,b6,h⟩ := Qdd h
    rcases is h with ⟨b7,h⟩ | ⟨b7,h⟩
    ·obtain ⟨b8,b9,h⟩ := Qdd h
     refine rgs hc none [oN,oN,oN,oc (.bool b1),oN,oN,oN,oN,oN,oc (.bool b5),oN,oF,oN,oN,oN,oN,oc (.bool b8),oF,oN] [(1,I a1),(2,I b2),(3,.ra 1 0),(7,I a0),(8,.bool b8),(9,I a3)] (cq (Kai _ _ b3) K3y (ar 4 (nF b4) (cq (Kai _ _ b6) K3y (ar 2 (nF b4) (ar 4 (nF b7) (cq (Kai _ _ b9) K3y (ai (nF b7) tv))))))) ?_
     obtain rfl := os h
     exact Qcz.mk
    refine rgs hc none [oN,oN,oN,oc (.bool b1),oN,oN,oN,oN,oN,oc (.bool b5),oN,oF,oN,o_,o_,o_,o_,oT,oN] [(1,I a1),(2,I b2),(3,.ra 1 0),(7,I a0),(8,.bool true),(9,I a3)] (cq (Kai _ _ b3) K3y (ar 4 (nF b4) (cq (Kai _ _ b6) K3y (ar 2 (nF b4) (ar 4 (neF (nT b7)) (ai (nT b7) tv)))))) ?_
    obtain rfl := os h
    exact Qcz.mk
   refine rgs hc none [oN,oN,oN,oc (.bool b1),oN,oN,o_,o_,o_,o_,o_,oT,oN,o_,o_,o_,o_,oT,oN] [(1,I a1),(2,I b2),(3,.ra 1 0),(7,I a0),(8,.bool true),(9,I a3)] (cq (Kai _ _ b3) K3y (ar 5 (neF (nT b4)) (ai (nT b4) (ar 4 nf (ai tt tv))))) ?_
   obtain rfl := os h
   exact Qcz.mk
  clear a9
  refine K87 hc 3 [(1,I a1),(2,I b2),(3,.ra 1 0),(7,I a0),(8,.bool a8),(9,I (wr (a3 + 1)))] ?_
  refine Qcv ?_
  exact (spec_l1Join_l0_ih _ _ h c hc)
 refine xt 2 ?_
 refine Qcp ?_
 refine Qcw ?_
 obtain rfl := os h
 exact iv []
def Kau (c : Ctx) : (Unit) ⊕ (Int) → Exit → Q0a → Prop
 | .inl _ => Qcz c (.exit 0) (mkS [] [])
 | .inr r => Qd8 TIx Tryz.f141 [] (I r)
def Kav (p : K00 × Int × Int × Int) : Option ((Unit) ⊕ (Int)) :=
 match p with
 | (s0,a1,b2,a0) =>
  if (decide (a0 < s0.fSize)) = true then
  ((
  (Kag (s0,a1,a0)) >>= fun a2 =>
  if a2 = true then
  (Kag (s0,b2,a0)) >>= fun a3 =>
  some (a3)
  else
  some (false)
  ) : Option (Bool)) >>= fun a4 =>
  (Kar (s0,a1,b2,a0,a4,0)) >>= fun a5 =>
  if a5 = true then
  some (.inr a0)
  else
  Kav (s0,a1,b2,(wr (a0 + 1)))
  else
  some (.inl ())
 partial_fixpoint
def Kaw (p : K00 × Int × Int × Int) (fl : (Unit) ⊕ (Int)) : Prop :=
 match p with
 | (s0,a1,b2,a0) => ∀ c : Ctx,c.nt = 55 → WpL Tryz.prog c (cl (cl (cr (cl (cr K41))))) (Kau c fl) (mkS [(1,I a1),(2,I b2),(3,.ra 1 0),(7,I a0)] [(1,K24 s0)])
theorem Kax : ∀ p r,Kav p = some r → Kaw p r := by
 refine Kav.partial_correctness Kaw ?_
 rintro spec_l1Join_l1_f spec_l1Join_l1_ih ⟨s0,a1,b2,a0⟩ r h
 intro c hc
 refine WpL.step ?_
 refine sN ?_
 refine K88 hc 4 [(1,I a1),(2,I b2),(3,.ra 1 0),(7,I a0),(13,.bool (decide (a0 < s0.fSize)))] ?_
 refine ic h (fun a2 h => ?_) fun a2 h => ?_
 ·refine sk ?_
  refine sN ?_
  refine bk 1 ?_
  refine sN ?_
  obtain ⟨a3,a4,h⟩ := Qdd h
  refine Wp.into (x := .normal) (mkS [(1,I a1),(2,I b2),(3,.ra 1 0),(7,I a0),(8,.bool a3)] [(1,K24 s0)]) ?_ ?_
  ·replace h := a4
   obtain ⟨a5,a6,h⟩ := Qdd h
   rcases is h with ⟨a7,h⟩ | ⟨a7,h⟩
   ·obtain ⟨a8,a9,h⟩ := Qdd h
    refine rgs hc none [oN,oN,oN,oc (.bool a5),oN,oN,oN,oN,oc (.bool a8),oT,oN] [(1,I a1),(2,I b2),(3,.ra 1 0),(7,I a0),(8,.bool a8)] (cq (Kai _ _ a6) K3y (ar 4 a7 (cq (Kai _ _ a9) K3y (ai a7 tv)))) ?_
    obtain rfl := os h
    exact Qcz.mk
   refine rgs hc none [oN,oN,oN,oc (.bool a5),oN,o_,o_,o_,o_,oF,oN] [(1,I a1),(2,I b2),(3,.ra 1 0),(7,I a0),(8,.bool false)] (cq (Kai _ _ a6) K3y (ar 4 (neT a7) (ai a7 tv))) ?_
   obtain rfl := os h
   exact Qcz.mk
  clear a4
  refine sN ?_
  refine K88 hc 1 [(1,I a1),(2,I b2),(3,.ra 1 0),(7,I a0),(8,.bool a3),(9,I 0)] ?_
  refine bk 2 ?_
  obtain ⟨b1,b3,h⟩ := Qdd h
  have hL := Kat _ _ b3 c hc
  refine lp ?_
  refine WpL.into (e := (.exit 2)) (mkS [(1,I a1),(2,I b2),(3,.ra 1 0),(7,I a0),(8,.bool b1)] [(1,K24 s0)]) hL ?_
  refine Qcr ?_
  refine K88 hc 1 [(1,I a1),(2,I b2),(3,.ra 1 0),(7,I a0),(53,.bool b1)] ?_
  refine ic h (fun b4 h => ?_) fun b4 h => ?_
  ·refine rs0 hc 2 [(6,I a0)] [] ?_
   refine rt ?_
   obtain rfl := os h
   exact re [true]
  refine sk ?_
  refine K87 hc 3 [(1,I a1),(2,I b2),(3,.ra 1 0),(7,I (wr (a0 + 1)))] ?_
  refine Qcv ?_
  exact (spec_l1Join_l1_ih _ _ h c hc)
 refine xt 0 ?_
 refine Qcp ?_
 refine Qcw ?_
 obtain rfl := os h
 exact iv []
def Kay (p : K00 × Int × Int) : Option (Int) :=
 match p with
 | (s0,a1,b2) =>
  (Kav (s0,a1,b2,0)) >>= fun fl => match fl with
  | .inl () =>
   some (-1)
  | .inr r =>
   some r
def Kaz (p : K00 × Int × Int) (r : Int) : Prop :=
 match p with
 | (s0,a1,b2) => Q71 Tryz.prog 141 [K25 s0,I a1,I b2] (I r) []
theorem Kb0 : ∀ p r,Kay p = some r → Kaz p r := by
 rintro ⟨s0,a1,b2⟩ r h
 unfold Kay at h
 refine b0 Tryz.f141 K41 55 [(0,K25 s0),(1,I a1),(2,I b2)] fun c hc => ?_
 refine rs hc none [some (.new 1),oN] [(1,I a1),(2,I b2),(3,.ra 1 0)] [(1,K24 s0)] tv ?_
 refine sN ?_
 refine K88 hc 1 [(1,I a1),(2,I b2),(3,.ra 1 0),(7,I 0)] ?_
 refine bk 0 ?_
 obtain ⟨fl,a0,h⟩ := Qdd h
 have hL := Kax _ _ a0 c hc
 refine lp ?_
 rcases fl with ⟨⟩ | r
 ·refine WpL.into (e := (.exit 0)) (mkS [] []) hL ?_
  refine Qcr ?_
  refine rs0 hc 1 [(6,I (-1))] [] ?_
  refine rt ?_
  obtain rfl := os h
  exact rq [true]
 refine WpL.mono hL ?_
 rintro _ _ ⟨rfl,hfin⟩
 obtain rfl := os h
 exact ⟨.inl rfl,hfin⟩
def Kb1 (p : K00 × Int × Int) : Option (Bool) :=
 match p with
 | (s0,a1,b2) =>
  ((
  (Kaa (s0,a1,b2)) >>= fun a0 =>
  (Kaa (s0,b2,a1)) >>= fun a2 =>
  if (a0 == a2) = true then
  if (a1 == b2) = true then
  (Kay (s0,a1,b2)) >>= fun a3 =>
  some ((decide (a3 ≥ 0)))
  else
  (Kag (s0,a1,b2)) >>= fun a4 =>
  if a4 = true then
  (Kag (s0,b2,a1)) >>= fun a5 =>
  if a5 = true then
  some (false)
  else
  (Kay (s0,a1,b2)) >>= fun a3 =>
  some ((decide (a3 ≥ 0)))
  else
  (Kay (s0,a1,b2)) >>= fun a3 =>
  some ((decide (a3 ≥ 0)))
  else
  some (false)
  ) : Option (Bool)) >>= fun a6 =>
  some a6
def Kb2 (p : K00 × Int × Int) (r : Bool) : Prop :=
 match p with
 | (s0,a1,b2) => Q71 Tryz.prog 135 [K25 s0,I a1,I b2] (.bool r) []
theorem Kb3 : ∀ p r,Kb1 p = some r → Kb2 p r := by
 rintro ⟨s0,a1,b2⟩ r h
 unfold Kb1 at h
 refine b0 Tryz.f135 K43 42 [(0,K25 s0),(1,I a1),(2,I b2)] fun c hc => ?_
 refine rs hc none [some (.new 1),oN] [(1,I a1),(2,I b2),(3,.ra 1 0)] [(1,K24 s0)] tv ?_
 refine sN ?_
 obtain ⟨a0,a2,h⟩ := Qdd h
 refine Wp.into (x := .normal) (mkS [(6,.bool a0)] []) ?_ ?_
 ·replace h := a2
  obtain ⟨a3,a4,a5,a6,h⟩ := bq2 h
  rcases is h with ⟨a7,h⟩ | ⟨a7,h⟩
  ·rcases is h with ⟨a8,h⟩ | ⟨a8,h⟩
   ·obtain ⟨a9,b1,h⟩ := Qdd h
    refine rg hc Kaj [oN,oN,oN,oc (I a3),oN,oN,oN,oc (I a5),oN,oN,oN,oN,oN,oN,o_,o_,o_,o_,o_,oT,oN,o_,o_,o_,o_,o_,oT,oT,oN,oN,oN,oN,oc (I a9),oN,oT,oN] [(6,.bool (decide (a9 ≥ 0)))] [] (cq (Kac _ _ a4) K3v (cq (Kac _ _ a6) K3v (ar 4 a7 (ar 5 (neF a8) (ac a7 a8 a7 (ar 5 nf (ac a7 tt a7 (ar 4 tt (cq (Kb0 _ _ b1) K42 (ar 2 tt tv)))))))))) ?_
    obtain rfl := os h
    exact Qcz.mk
   obtain ⟨b3,b4,h⟩ := Qdd h
   rcases is h with ⟨b5,h⟩ | ⟨b5,h⟩
   ·obtain ⟨b6,b7,h⟩ := Qdd h
    rcases is h with ⟨b8,h⟩ | ⟨b8,h⟩
    ·refine rg hc Kaj [oN,oN,oN,oc (I a3),oN,oN,oN,oc (I a5),oN,oN,oN,oN,oN,oN,oN,oN,oN,oc (.bool b3),oN,oF,oN,oN,oN,oN,oc (.bool b6),oN,oF,oT,oN,o_,o_,o_,o_,o_,oF,oN] [(6,.bool false)] [] (cq (Kac _ _ a4) K3v (cq (Kac _ _ a6) K3v (ar 4 a7 (ar 4 a8 (cq (Kai _ _ b4) K3y (ad a8 a7 a8 a7 (ar 4 (nF b5) (cq (Kai _ _ b7) K3y (ad (nF b5) a7 (nF b5) a7 (ar 5 (neT (nF b8)) (ai (nF b8) tv))))))))))) ?_
     obtain rfl := os h
     exact Qcz.mk
    obtain ⟨a9,b1,h⟩ := Qdd h
    refine rg hc Kaj [oN,oN,oN,oc (I a3),oN,oN,oN,oc (I a5),oN,oN,oN,oN,oN,oN,oN,oN,oN,oc (.bool b3),oN,oF,oN,oN,oN,oN,oc (.bool b6),oN,oF,oT,oN,oN,oN,oN,oc (I a9),oN,oT,oN] [(6,.bool (decide (a9 ≥ 0)))] [] (cq (Kac _ _ a4) K3v (cq (Kac _ _ a6) K3v (ar 4 a7 (ar 4 a8 (cq (Kai _ _ b4) K3y (ad a8 a7 a8 a7 (ar 4 (nF b5) (cq (Kai _ _ b7) K3y (ad (nF b5) a7 (nF b5) a7 (ar 4 (nT b8) (cq (Kb0 _ _ b1) K42 (ar 2 (nT b8) tv)))))))))))) ?_
    obtain rfl := os h
    exact Qcz.mk
   obtain ⟨a9,b1,h⟩ := Qdd h
   refine rg hc Kaj [oN,oN,oN,oc (I a3),oN,oN,oN,oc (I a5),oN,oN,oN,oN,oN,oN,oN,oN,oN,oc (.bool b3),oN,oF,oN,o_,o_,o_,o_,o_,oT,oT,oN,oN,oN,oN,oc (I a9),oN,oT,oN] [(6,.bool (decide (a9 ≥ 0)))] [] (cq (Kac _ _ a4) K3v (cq (Kac _ _ a6) K3v (ar 4 a7 (ar 4 a8 (cq (Kai _ _ b4) K3y (ad a8 a7 a8 a7 (ar 5 (neF (nT b5)) (ac a7 (nT b5) a7 (ar 4 tt (cq (Kb0 _ _ b1) K42 (ar 2 tt tv))))))))))) ?_
   obtain rfl := os h
   exact Qcz.mk
  refine rg hc Kaj [oN,oN,oN,oc (I a3),oN,oN,oN,oc (I a5),oN,oN,o_,o_,o_,o_,o_,o_,o_,o_,o_,o_,o_,o_,o_,o_,o_,o_,o_,oF,oN,o_,o_,o_,o_,o_,oF,oN] [(6,.bool false)] [] (cq (Kac _ _ a4) K3v (cq (Kac _ _ a6) K3v (ar 7 (neT a7) (ai a7 (ar 5 (neT (rfl : false = false)) (ai (rfl : false = false) tv)))))) ?_
  obtain rfl := os h
  exact Qcz.mk
 clear a2
 refine rt ?_
 obtain rfl := os h
 exact rq [true]
def Kb4 (p : K00 × Int × Int × Int) : Option (Bool) :=
 match p with
 | (s0,a1,b2,c3) =>
  ((
  (Kaa (s0,a1,b2)) >>= fun a0 =>
  (Kaa (s0,a0,c3)) >>= fun a2 =>
  (Kaa (s0,b2,c3)) >>= fun a3 =>
  (Kaa (s0,a1,a3)) >>= fun a4 =>
  if (a2 != a4) = true then
  some (true)
  else
  (Kad (s0,a1,b2)) >>= fun a5 =>
  (Kad (s0,a5,c3)) >>= fun a6 =>
  (Kad (s0,b2,c3)) >>= fun a7 =>
  (Kad (s0,a1,a7)) >>= fun a8 =>
  some ((a6 != a8))
  ) : Option (Bool)) >>= fun a9 =>
  if a9 = true then
  some false
  else
  ((
  (Kaa (s0,b2,c3)) >>= fun b1 =>
  (Kad (s0,a1,b1)) >>= fun b3 =>
  (Kad (s0,a1,b2)) >>= fun b4 =>
  (Kad (s0,a1,c3)) >>= fun b5 =>
  (Kaa (s0,b4,b5)) >>= fun b6 =>
  if (b3 != b6) = true then
  some (true)
  else
  (Kaa (s0,a1,b2)) >>= fun b7 =>
  (Kad (s0,b7,c3)) >>= fun b8 =>
  (Kad (s0,a1,c3)) >>= fun b9 =>
  (Kad (s0,b2,c3)) >>= fun c0 =>
  (Kaa (s0,b9,c0)) >>= fun c1 =>
  some ((b8 != c1))
  ) : Option (Bool)) >>= fun c2 =>
  if c2 = true then
  some false
  else
  (Kag (s0,a1,b2)) >>= fun c4 =>
  if c4 = true then
  ((
  (Kag (s0,b2,c3)) >>= fun c5 =>
  if c5 = true then
  (Kag (s0,a1,c3)) >>= fun c6 =>
  some ((!c6))
  else
  some (false)
  ) : Option (Bool)) >>= fun c7 =>
  if c7 = true then
  some false
  else
  ((
  (Kaa (s0,a1,c3)) >>= fun c8 =>
  (Kaa (s0,b2,c3)) >>= fun c9 =>
  (Kag (s0,c8,c9)) >>= fun d0 =>
  if d0 = true then
  (Kad (s0,a1,c3)) >>= fun d1 =>
  (Kad (s0,b2,c3)) >>= fun d2 =>
  (Kag (s0,d1,d2)) >>= fun d3 =>
  if d3 = true then
  (Kad (s0,c3,a1)) >>= fun d4 =>
  (Kad (s0,c3,b2)) >>= fun d5 =>
  (Kag (s0,d4,d5)) >>= fun d6 =>
  some (d6)
  else
  some (false)
  else
  some (false)
  ) : Option (Bool)) >>= fun d7 =>
  some d7
  else
  some true
def Kb5 (p : K00 × Int × Int × Int) (r : Bool) : Prop :=
 match p with
 | (s0,a1,b2,c3) => Q71 Tryz.prog 136 [K25 s0,I a1,I b2,I c3] (.bool r) []
theorem Kb6 : ∀ p r,Kb4 p = some r → Kb5 p r := by
 rintro ⟨s0,a1,b2,c3⟩ r h
 unfold Kb4 at h
 refine b0 Tryz.f136 K45 129 [(0,K25 s0),(1,I a1),(2,I b2),(3,I c3)] fun c hc => ?_
 refine rs hc none [some (.new 1),oN] [(1,I a1),(2,I b2),(3,I c3),(4,.ra 1 0)] [(1,K24 s0)] tv ?_
 refine sN ?_
 refine sN ?_
 obtain ⟨a0,a2,h⟩ := Qdd h
 refine Wp.into (x := .normal) (mkS [(1,I a1),(2,I b2),(3,I c3),(4,.ra 1 0),(40,.bool a0)] [(1,K24 s0)]) ?_ ?_
 ·replace h := a2
  obtain ⟨a3,a4,a5,a6,a7,a8,a9,b1,h⟩ := bq4 h
  rcases is h with ⟨b3,h⟩ | ⟨b3,h⟩
  ·refine rgs hc Kak [oN,oN,oN,oN,oc (I a3),oN,oc (I a5),oN,oN,oN,oN,oN,oc (I a7),oc (I a9),oN,oN,o_,o_,o_,o_,o_,o_,o_,o_,o_,o_,o_,o_,o_,o_,o_,oT] [(1,I a1),(2,I b2),(3,I c3),(4,.ra 1 0),(40,.bool true)] (cq (Kac _ _ a4) K3v (cq (Kac _ _ a6) K3v (cq (Kac _ _ a8) K3v (cq (Kac _ _ b1) K3v (ar 15 (neF b3) (ai b3 tv)))))) ?_
   obtain rfl := os h
   exact Qcz.mk
  obtain ⟨b4,b5,b6,b7,b8,b9,c0,c1,h⟩ := bq4 h
  refine rgs hc Kak [oN,oN,oN,oN,oc (I a3),oN,oc (I a5),oN,oN,oN,oN,oN,oc (I a7),oc (I a9),oN,oN,oN,oN,oN,oN,oc (I b4),oN,oc (I b6),oN,oN,oN,oN,oN,oc (I b8),oc (I c0),oN,oF] [(1,I a1),(2,I b2),(3,I c3),(4,.ra 1 0),(40,.bool (b6 != c0))] (cq (Kac _ _ a4) K3v (cq (Kac _ _ a6) K3v (cq (Kac _ _ a8) K3v (cq (Kac _ _ b1) K3v (ar 5 b3 (cq (Kaf _ _ b5) K3x (ar 2 b3 (cq (Kaf _ _ b7) K3x (ar 6 b3 (cq (Kaf _ _ b9) K3x (ai b3 (cq (Kaf _ _ c1) K3x (ar 2 b3 tv))))))))))))) ?_
  obtain rfl := os h
  exact Qcz.mk
 clear a2
 refine ic h (fun c2 h => ?_) fun c2 h => ?_
 ·refine rs0 hc 1 [(8,.bool false)] [] ?_
  refine rt ?_
  obtain rfl := os h
  exact rq [true]
 refine sk ?_
 refine sN ?_
 refine sN ?_
 obtain ⟨c4,c5,h⟩ := Qdd h
 refine Wp.into (x := .normal) (mkS [(1,I a1),(2,I b2),(3,I c3),(4,.ra 1 0),(78,.bool c4)] [(1,K24 s0)]) ?_ ?_
 ·replace h := c5
  obtain ⟨c6,c7,c8,c9,d0,d1,d2,d3,h⟩ := bq4 h
  obtain ⟨d4,d5,h⟩ := Qdd h
  rcases is h with ⟨d6,h⟩ | ⟨d6,h⟩
  ·refine rgs hc Kal [oN,oN,oN,oN,oN,oc (I c6),oc (I c8),oN,oN,oN,oN,oc (I d0),oN,oN,oN,oc (I d2),oc (I d4),oN,oN,o_,o_,o_,o_,o_,o_,o_,o_,o_,o_,o_,o_,o_,o_,o_,o_,o_,o_,oT] [(1,I a1),(2,I b2),(3,I c3),(4,.ra 1 0),(78,.bool true)] (cq (Kac _ _ c7) K3v (cq (Kaf _ _ c9) K3x (cq (Kaf _ _ d1) K3x (cq (Kaf _ _ d3) K3x (cq (Kac _ _ d5) K3v (ar 18 (neF d6) (ai d6 tv))))))) ?_
   obtain rfl := os h
   exact Qcz.mk
  obtain ⟨d7,d8,d9,e0,e1,e2,e3,e4,h⟩ := bq4 h
  obtain ⟨e5,e6,h⟩ := Qdd h
  refine rgs hc Kal [oN,oN,oN,oN,oN,oc (I c6),oc (I c8),oN,oN,oN,oN,oc (I d0),oN,oN,oN,oc (I d2),oc (I d4),oN,oN,oN,oN,oN,oN,oc (I d7),oN,oc (I d9),oN,oN,oN,oN,oc (I e1),oN,oN,oN,oc (I e3),oc (I e5),oN,oF] [(1,I a1),(2,I b2),(3,I c3),(4,.ra 1 0),(78,.bool (d9 != e5))] (cq (Kac _ _ c7) K3v (cq (Kaf _ _ c9) K3x (cq (Kaf _ _ d1) K3x (cq (Kaf _ _ d3) K3x (cq (Kac _ _ d5) K3v (ar 5 d6 (cq (Kac _ _ d8) K3v (ar 2 d6 (cq (Kaf _ _ e0) K3x (ar 5 d6 (cq (Kaf _ _ e2) K3x (ar 4 d6 (cq (Kaf _ _ e4) K3x (ai d6 (cq (Kac _ _ e6) K3v (ar 2 d6 tv)))))))))))))))) ?_
  obtain rfl := os h
  exact Qcz.mk
 clear c5
 refine ic h (fun e7 h => ?_) fun e7 h => ?_
 ·refine rs0 hc 1 [(8,.bool false)] [] ?_
  refine rt ?_
  obtain rfl := os h
  exact rq [true]
 refine sk ?_
 refine sN ?_
 obtain ⟨e8,e9,h⟩ := Qdd h
 refine rss hc none [oN,oN,oN,oc (.bool e8),oN] [(1,I a1),(2,I b2),(3,I c3),(4,.ra 1 0),(83,.bool (!e8))] (cq (Kai _ _ e9) K3y tv) ?_
 rcases is h with ⟨f0,h⟩ | ⟨f0,h⟩
 ·refine cF (!e8) (nF f0) ?_
  refine sk ?_
  refine sN ?_
  refine sN ?_
  obtain ⟨f1,f2,h⟩ := Qdd h
  refine Wp.into (x := .normal) (mkS [(1,I a1),(2,I b2),(3,I c3),(4,.ra 1 0),(94,.bool f1)] [(1,K24 s0)]) ?_ ?_
  ·replace h := f2
   obtain ⟨f3,f4,h⟩ := Qdd h
   rcases is h with ⟨f5,h⟩ | ⟨f5,h⟩
   ·obtain ⟨f6,f7,h⟩ := Qdd h
    refine rgs hc none [oN,oN,oN,oc (.bool f3),oN,oN,oN,oN,oc (.bool f6),oN,oT] [(1,I a1),(2,I b2),(3,I c3),(4,.ra 1 0),(94,.bool (!f6))] (cq (Kai _ _ f4) K3y (ar 4 f5 (cq (Kai _ _ f7) K3y (ar 2 f5 tv)))) ?_
    obtain rfl := os h
    exact Qcz.mk
   refine rgs hc none [oN,oN,oN,oc (.bool f3),oN,o_,o_,o_,o_,o_,oF] [(1,I a1),(2,I b2),(3,I c3),(4,.ra 1 0),(94,.bool false)] (cq (Kai _ _ f4) K3y (ar 5 (neT f5) (ai f5 tv))) ?_
   obtain rfl := os h
   exact Qcz.mk
  clear f2
  refine ic h (fun f8 h => ?_) fun f8 h => ?_
  ·refine rs0 hc 1 [(8,.bool false)] [] ?_
   refine rt ?_
   obtain rfl := os h
   exact rq [true]
  refine sk ?_
  refine sN ?_
  obtain ⟨f9,g0,h⟩ := Qdd h
  refine Wp.into (x := .normal) (mkS [(8,.bool f9)] []) ?_ ?_
  ·replace h := g0
   obtain ⟨g1,g2,g3,g4,g5,g6,h⟩ := bq3 h
   rcases is h with ⟨g7,h⟩ | ⟨g7,h⟩
   ·obtain ⟨g8,g9,i0,i1,i2,i3,h⟩ := bq3 h
    rcases is h with ⟨i4,h⟩ | ⟨i4,h⟩
    ·obtain ⟨i5,i6,i7,i8,i9,j0,h⟩ := bq3 h
     refine rg hc Kam [oN,oN,oN,oN,oc (I g1),oN,oN,oN,oc (I g3),oc (.bool g5),oN,oN,oN,oN,oN,oc (I g8),oN,oN,oN,oc (I i0),oc (.bool i2),oT,oN,oN,oN,oN,oN,oc (I i5),oN,oN,oN,oc (I i7),oc (.bool i9),oT,oN] [(8,.bool i9)] [] (cq (Kac _ _ g2) K3v (cq (Kac _ _ g4) K3v (cq (Kai _ _ g6) K3y (ar 5 g7 (cq (Kaf _ _ g9) K3x (ar 4 g7 (cq (Kaf _ _ i1) K3x (ai g7 (cq (Kai _ _ i3) K3y (ai g7 (ar 5 i4 (cq (Kaf _ _ i6) K3x (ar 4 i4 (cq (Kaf _ _ i8) K3x (ai i4 (cq (Kai _ _ j0) K3y (ai i4 tv))))))))))))))))) ?_
     obtain rfl := os h
     exact Qcz.mk
    refine rg hc Kam [oN,oN,oN,oN,oc (I g1),oN,oN,oN,oc (I g3),oc (.bool g5),oN,oN,oN,oN,oN,oc (I g8),oN,oN,oN,oc (I i0),oc (.bool i2),oT,oN,o_,o_,o_,o_,o_,o_,o_,o_,o_,o_,oF,oN] [(8,.bool false)] [] (cq (Kac _ _ g2) K3v (cq (Kac _ _ g4) K3v (cq (Kai _ _ g6) K3y (ar 5 g7 (cq (Kaf _ _ g9) K3x (ar 4 g7 (cq (Kaf _ _ i1) K3x (ai g7 (cq (Kai _ _ i3) K3y (ai g7 (ar 10 (neT i4) (ai i4 tv)))))))))))) ?_
    obtain rfl := os h
    exact Qcz.mk
   refine rg hc Kam [oN,oN,oN,oN,oc (I g1),oN,oN,oN,oc (I g3),oc (.bool g5),oN,o_,o_,o_,o_,o_,o_,o_,o_,o_,o_,oF,oN,o_,o_,o_,o_,o_,o_,o_,o_,o_,o_,oF,oN] [(8,.bool false)] [] (cq (Kac _ _ g2) K3v (cq (Kac _ _ g4) K3v (cq (Kai _ _ g6) K3y (ar 10 (neT g7) (ai g7 (ar 10 (neT (rfl : false = false)) (ai (rfl : false = false) tv))))))) ?_
   obtain rfl := os h
   exact Qcz.mk
  clear g0
  refine rt ?_
  obtain rfl := os h
  exact rq [true]
 refine cT (!e8) (nT f0) ?_
 refine rs0 hc 1 [(8,.bool true)] [] ?_
 refine rt ?_
 obtain rfl := os h
 exact rq [true]
def Kb7 (c : Ctx) (s0 : K00) (a0 : Int) (a1 : Int) : (Unit) ⊕ (Bool) → Exit → Q0a → Prop
 | .inl _ => Qcz c (.exit 4) (mkS [(1,.ra 1 0),(3,I a0),(4,I a1)] [(1,K24 s0)])
 | .inr r => Qd8 TIx Tryz.f89 [] (.bool r)
def Kb8 (p : K00 × Int × Int × Int) : Option ((Unit) ⊕ (Bool)) :=
 match p with
 | (s0,a0,a1,a2) =>
  if (decide (a2 < s0.fSize)) = true then
  (Kb4 (s0,a0,a1,a2)) >>= fun a3 =>
  if a3 = true then
  Kb8 (s0,a0,a1,(wr (a2 + 1)))
  else
  some (.inr false)
  else
  some (.inl ())
 partial_fixpoint
def Kb9 (p : K00 × Int × Int × Int) (fl : (Unit) ⊕ (Bool)) : Prop :=
 match p with
 | (s0,a0,a1,a2) => ∀ c : Ctx,c.nt = 42 → WpL Tryz.prog c (cl (cl (cr (cr (cl (cl (cr (cl (cl (cr (cr (cl (cl (cr (cl (cl (cr (cl (cr (cr B89)))))))))))))))))))) (Kb7 c s0 a0 a1 fl) (mkS [(1,.ra 1 0),(3,I a0),(4,I a1),(5,I a2)] [(1,K24 s0)])
theorem Kba : ∀ p r,Kb8 p = some r → Kb9 p r := by
 refine Kb8.partial_correctness Kb9 ?_
 rintro spec_IsSystem_l0_f spec_IsSystem_l0_ih ⟨s0,a0,a1,a2⟩ r h
 intro c hc
 refine WpL.step ?_
 refine sN ?_
 refine K88 hc 4 [(1,.ra 1 0),(3,I a0),(4,I a1),(5,I a2),(33,.bool (decide (a2 < s0.fSize)))] ?_
 refine ic h (fun a3 h => ?_) fun a3 h => ?_
 ·refine sk ?_
  refine sN ?_
  refine bk 5 ?_
  obtain ⟨a4,a5,h⟩ := Qdd h
  refine rss hc none [oN,oN,oN,oN,oc (.bool a4),oN] [(1,.ra 1 0),(3,I a0),(4,I a1),(5,I a2),(41,.bool (!a4))] (cq (Kb6 _ _ a5) K46 tv) ?_
  rcases is h with ⟨a6,h⟩ | ⟨a6,h⟩
  ·refine cF (!a4) (nF a6) ?_
   refine sk ?_
   refine K87 hc 3 [(1,.ra 1 0),(3,I a0),(4,I a1),(5,I (wr (a2 + 1)))] ?_
   refine Qcv ?_
   exact (spec_IsSystem_l0_ih _ _ h c hc)
  refine cT (!a4) (nT a6) ?_
  refine rs0 hc 1 [(2,.bool false)] [] ?_
  refine rt ?_
  obtain rfl := os h
  exact re [true]
 refine xt 4 ?_
 refine Qcp ?_
 refine Qcw ?_
 obtain rfl := os h
 exact iv []
def Kbb (c : Ctx) (s0 : K00) (a0 : Int) : (Unit) ⊕ (Bool) → Exit → Q0a → Prop
 | .inl _ => Qcz c (.exit 2) (mkS [(1,.ra 1 0),(3,I a0)] [(1,K24 s0)])
 | .inr r => Qd8 TIx Tryz.f89 [] (.bool r)
def Kbc (p : K00 × Int × Int) : Option ((Unit) ⊕ (Bool)) :=
 match p with
 | (s0,a0,a1) =>
  if (decide (a1 < s0.fSize)) = true then
  (Kb1 (s0,a0,a1)) >>= fun a2 =>
  if a2 = true then
  (Kb8 (s0,a0,a1,0)) >>= fun fl => match fl with
  | .inl () =>
   Kbc (s0,a0,(wr (a1 + 1)))
  | .inr r =>
   some (.inr r)
  else
  some (.inr false)
  else
  some (.inl ())
 partial_fixpoint
def Kbd (p : K00 × Int × Int) (fl : (Unit) ⊕ (Bool)) : Prop :=
 match p with
 | (s0,a0,a1) => ∀ c : Ctx,c.nt = 42 → WpL Tryz.prog c (cl (cl (cr (cr (cl (cl (cr (cl (cl (cr (cl (cr (cr B89))))))))))))) (Kbb c s0 a0 fl) (mkS [(1,.ra 1 0),(3,I a0),(4,I a1)] [(1,K24 s0)])
theorem Kbe : ∀ p r,Kbc p = some r → Kbd p r := by
 refine Kbc.partial_correctness Kbd ?_
 rintro spec_IsSystem_l1_f spec_IsSystem_l1_ih ⟨s0,a0,a1⟩ r h
 intro c hc
 refine WpL.step ?_
 refine sN ?_
 refine K88 hc 4 [(1,.ra 1 0),(3,I a0),(4,I a1),(22,.bool (decide (a1 < s0.fSize)))] ?_
 refine ic h (fun a2 h => ?_) fun a2 h => ?_
 ·refine sk ?_
  refine sN ?_
  refine bk 3 ?_
  refine sN ?_
  obtain ⟨a3,a4,h⟩ := Qdd h
  refine rss hc none [oN,oN,oN,oc (.bool a3),oN] [(1,.ra 1 0),(3,I a0),(4,I a1),(29,.bool (!a3))] (cq (Kb3 _ _ a4) K44 tv) ?_
  rcases is h with ⟨a5,h⟩ | ⟨a5,h⟩
  ·refine cF (!a3) (nF a5) ?_
   refine sk ?_
   refine K88 hc 1 [(1,.ra 1 0),(3,I a0),(4,I a1),(5,I 0)] ?_
   refine bk 4 ?_
   obtain ⟨fl,a6,h⟩ := Qdd h
   have hL := Kba _ _ a6 c hc
   refine lp ?_
   rcases fl with ⟨⟩ | r
   ·refine WpL.into (e := (.exit 4)) (mkS [(1,.ra 1 0),(3,I a0),(4,I a1)] [(1,K24 s0)]) hL ?_
    refine Qcr ?_
    refine K87 hc 3 [(1,.ra 1 0),(3,I a0),(4,I (wr (a1 + 1)))] ?_
    refine Qcv ?_
    exact (spec_IsSystem_l1_ih _ _ h c hc)
   refine WpL.mono hL ?_
   rintro _ _ ⟨rfl,hfin⟩
   obtain rfl := os h
   exact ⟨rfl,hfin⟩
  refine cT (!a3) (nT a5) ?_
  refine rs0 hc 1 [(2,.bool false)] [] ?_
  refine rt ?_
  obtain rfl := os h
  exact re [true]
 refine xt 2 ?_
 refine Qcp ?_
 refine Qcw ?_
 obtain rfl := os h
 exact iv []
def Kbf (c : Ctx) : (Unit) ⊕ (Bool) → Exit → Q0a → Prop
 | .inl _ => Qcz c (.exit 0) (mkS [] [])
 | .inr r => Qd8 TIx Tryz.f89 [] (.bool r)
end Go.Am
