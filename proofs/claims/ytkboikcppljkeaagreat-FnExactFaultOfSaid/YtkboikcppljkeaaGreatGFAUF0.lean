/- Functions of the program as pure functions,and that it computes them. Printed by a program of mine (gen.py). -/
import Derived.Test.YtkboikcppljkeaaGreatGFAUTi
set_option linter.unusedVariables false
set_option linter.unusedSimpArgs false
set_option maxRecDepth 100000
namespace Go.Am
open Go Go.Proofs
def K7g : Option (List (List Nat)) := rx [[0],[1],[0],[3],[4],[0],[0,5],[0,5,6],[8],[9],[10],[11],[12],[11],[14],[15],[11],[11,16],[11,16,17],[19],[20],[21]]
def K7h (p : (List Int) × Int) : Option (Int) :=
 match p with
 | (a0,left1) =>
  if (decide ((wr (left1 - (a0.length : Int))) < 0)) = true then
  some (-1)
  else
  some (wr (left1 - (a0.length : Int)))
def K7i (p : (List Int) × Int) (r : Int) : Prop :=
 match p with
 | (a0,left1) => Q71 Tryz.prog 32 [sI a0,I left1] (I r) []
theorem K7j : ∀ p r,K7h p = some r → K7i p r := by
 rintro ⟨a0,left1⟩ r h
 unfold K7h at h
 refine b0 Tryz.f32 B32 12 [(0,sI a0),(1,I left1)] fun c hc => ?_
 refine rs0 hc 1 [(0,sI a0),(1,I left1)] [] ?_
 refine rs hc none [oN,oN,some (.eqv (.no) ⟨[(7,I (a0.length : Int))],[],[]⟩),oN,oN] [(1,I (wr (left1 - (a0.length : Int))))] [] (ai (Qdj (d := 7) I a0) tv) ?_
 refine sN ?_
 refine rs0 hc 2 [(1,I (wr (left1 - (a0.length : Int)))),(10,.bool (decide ((wr (left1 - (a0.length : Int))) < 0)))] [] ?_
 refine ic h (fun a1 h => ?_) fun a1 h => ?_
 ·refine rs0 hc 1 [(4,I (-1))] [] ?_
  refine rt ?_
  obtain rfl := os h
  exact rq [true]
 refine sk ?_
 refine rs0 hc 2 [(4,I (wr (left1 - (a0.length : Int))))] [] ?_
 refine rt ?_
 obtain rfl := os h
 exact rq [true]
def K7k (p : (List Bool) × Int) : Option (Int) :=
 match p with
 | (a0,left1) =>
  if (decide ((wr (left1 - (a0.length : Int))) < 0)) = true then
  some (-1)
  else
  some (wr (left1 - (a0.length : Int)))
def K7l (p : (List Bool) × Int) (r : Int) : Prop :=
 match p with
 | (a0,left1) => Q71 Tryz.prog 33 [sB a0,I left1] (I r) []
theorem K7m : ∀ p r,K7k p = some r → K7l p r := by
 rintro ⟨a0,left1⟩ r h
 unfold K7k at h
 refine b0 Tryz.f33 B33 12 [(0,sB a0),(1,I left1)] fun c hc => ?_
 refine rs0 hc 1 [(0,sB a0),(1,I left1)] [] ?_
 refine rs hc none [oN,oN,some (.eqv (.no) ⟨[(7,I (a0.length : Int))],[],[]⟩),oN,oN] [(1,I (wr (left1 - (a0.length : Int))))] [] (ai (Qdj (d := 7) AV.bool a0) tv) ?_
 refine sN ?_
 refine rs0 hc 2 [(1,I (wr (left1 - (a0.length : Int)))),(10,.bool (decide ((wr (left1 - (a0.length : Int))) < 0)))] [] ?_
 refine ic h (fun a1 h => ?_) fun a1 h => ?_
 ·refine rs0 hc 1 [(4,I (-1))] [] ?_
  refine rt ?_
  obtain rfl := os h
  exact rq [true]
 refine sk ?_
 refine rs0 hc 2 [(4,I (wr (left1 - (a0.length : Int))))] [] ?_
 refine rt ?_
 obtain rfl := os h
 exact rq [true]
def K7n (p : K00 × Int) : Option (Int) :=
 match p with
 | (a0,left1) =>
  (K7h (a0.fPlus,left1)) >>= fun a1 =>
  if (decide (a1 < 0)) = true then
  some (-1)
  else
  (K7h (a0.fTimes,a1)) >>= fun a2 =>
  if (decide (a2 < 0)) = true then
  some (-1)
  else
  (K7k (a0.fBelow,a2)) >>= fun a3 =>
  if (decide (a3 < 0)) = true then
  some (-1)
  else
  some a3
def K7o (p : K00 × Int) (r : Int) : Prop :=
 match p with
 | (a0,left1) => Q71 Tryz.prog 6 [K1u a0,I left1] (I r) []
theorem K7p : ∀ p r,K7n p = some r → K7o p r := by
 rintro ⟨a0,left1⟩ r h
 unfold K7n at h
 refine b0 Tryz.f6 B6 24 [(0,K1u a0),(1,I left1)] fun c hc => ?_
 refine rs hc none [some (.new 1),oN] [(1,I left1),(2,.ra 1 0)] [(1,K1t a0)] tv ?_
 obtain ⟨a1,a2,h⟩ := Qdd h
 refine rss hc none [oN,oN,oN,oc (I a1),oN] [(1,I a1),(2,.ra 1 0)] (cq (K7j _ _ a2) K2y tv) ?_
 refine sN ?_
 refine K7f hc 2 [(1,I a1),(2,.ra 1 0),(10,.bool (decide (a1 < 0)))] ?_
 refine ic h (fun a3 h => ?_) fun a3 h => ?_
 ·refine rs0 hc 1 [(4,I (-1))] [] ?_
  refine rt ?_
  obtain rfl := os h
  exact rq [true]
 refine sk ?_
 obtain ⟨a4,a5,h⟩ := Qdd h
 refine rss hc none [oN,oN,oN,oc (I a4),oN] [(1,I a4),(2,.ra 1 0)] (cq (K7j _ _ a5) K2y tv) ?_
 refine sN ?_
 refine K7f hc 2 [(1,I a4),(2,.ra 1 0),(16,.bool (decide (a4 < 0)))] ?_
 refine ic h (fun a6 h => ?_) fun a6 h => ?_
 ·refine rs0 hc 1 [(4,I (-1))] [] ?_
  refine rt ?_
  obtain rfl := os h
  exact rq [true]
 refine sk ?_
 obtain ⟨a7,a8,h⟩ := Qdd h
 refine rs hc none [oN,oN,oN,oc (I a7),oN] [(1,I a7)] [] (cq (K7m _ _ a8) K2z tv) ?_
 refine sN ?_
 refine rs0 hc 2 [(1,I a7),(22,.bool (decide (a7 < 0)))] [] ?_
 refine ic h (fun a9 h => ?_) fun a9 h => ?_
 ·refine rs0 hc 1 [(4,I (-1))] [] ?_
  refine rt ?_
  obtain rfl := os h
  exact rq [true]
 refine sk ?_
 refine rs0 hc 2 [(4,I a7)] [] ?_
 refine rt ?_
 obtain rfl := os h
 exact rq [true]
def K7q (c : Ctx) : (Int) ⊕ (Int) → Exit → Q0a → Prop
 | .inl a0 => Qcz c (.exit 0) (mkS [(1,I a0)] [])
 | .inr r => Qd8 TIx Tryz.f14 [] (I r)
def K7r (p : LL × Int × Int) : Option ((Int) ⊕ (Int)) :=
 match p with
 | (a0,a1,a2) =>
  if (decide (a2 < (a0.length : Int))) = true then
  (idx a0 a2) >>= fun a3 =>
  (K7h (a3,a1)) >>= fun a4 =>
  if (decide (a4 < 0)) = true then
  some (.inr (-1))
  else
  K7r (a0,a4,(wr (a2 + 1)))
  else
  some (.inl a1)
 partial_fixpoint
def K7s (p : LL × Int × Int) (fl : (Int) ⊕ (Int)) : Prop :=
 match p with
 | (a0,a1,a2) => ∀ c : Ctx,c.nt = 27 → WpL Tryz.prog c (cl (cl (cr (cl (cr (cr (cr B14))))))) (K7q c fl) (mkS [(0,sL a0),(1,I a1),(5,I a2)] [])
theorem K7t : ∀ p r,K7r p = some r → K7s p r := by
 refine K7r.partial_correctness K7s ?_
 rintro laws_szIntSS_l0_f laws_szIntSS_l0_ih ⟨a0,a1,a2⟩ r h
 intro c hc
 refine WpL.step ?_
 refine sN ?_
 refine rs hc none [oN,oN,some (.eqv (.no) ⟨[(14,I (a0.length : Int))],[],[]⟩),oN] [(0,sL a0),(1,I a1),(5,I a2),(15,.bool (decide (a2 < (a0.length : Int))))] [] (ai (Qdj (d := 14) K11 a0) tv) ?_
 refine ic h (fun a3 h => ?_) fun a3 h => ?_
 ·refine sk ?_
  refine sN ?_
  refine bk 1 ?_
  obtain ⟨a4,a5,a6,a7,h⟩ := bq2 h
  refine rs hc none [oN,oN,some (.el (sI a4)),oN,oN,oc (I a6),oN] [(0,sL a0),(1,I a6),(5,I a2)] [] (ai (xL a5) (cq (K7j _ _ a7) K2y tv)) ?_
  refine rs0 hc 2 [(0,sL a0),(1,I a6),(5,I a2),(25,.bool (decide (a6 < 0)))] [] ?_
  refine ic h (fun a8 h => ?_) fun a8 h => ?_
  ·refine rs0 hc 1 [(4,I (-1))] [] ?_
   refine rt ?_
   obtain rfl := os h
   exact re [true]
  refine sk ?_
  refine rg0 hc 3 [(0,sL a0),(1,I a6),(5,I (wr (a2 + 1)))] [] ?_
  refine Qcv ?_
  exact (laws_szIntSS_l0_ih _ _ h c hc)
 refine xt 0 ?_
 refine Qcp ?_
 refine Qcw ?_
 obtain rfl := os h
 exact iv []
def K7u (p : LL × Int) : Option (Int) :=
 match p with
 | (a0,left1) =>
  if (decide ((wr (left1 - (a0.length : Int))) < 0)) = true then
  some (-1)
  else
  (K7r (a0,(wr (left1 - (a0.length : Int))),0)) >>= fun fl => match fl with
  | .inl a1 =>
   some a1
  | .inr r =>
   some r
def K7v (p : LL × Int) (r : Int) : Prop :=
 match p with
 | (a0,left1) => Q71 Tryz.prog 14 [sL a0,I left1] (I r) []
theorem K7w : ∀ p r,K7u p = some r → K7v p r := by
 rintro ⟨a0,left1⟩ r h
 unfold K7u at h
 refine b0 Tryz.f14 B14 27 [(0,sL a0),(1,I left1)] fun c hc => ?_
 refine rs0 hc 1 [(0,sL a0),(1,I left1)] [] ?_
 refine rs hc none [oN,oN,some (.eqv (.no) ⟨[(8,I (a0.length : Int))],[],[]⟩),oN,oN] [(0,sL a0),(1,I (wr (left1 - (a0.length : Int))))] [] (ai (Qdj (d := 8) K11 a0) tv) ?_
 refine sN ?_
 refine rs0 hc 2 [(0,sL a0),(1,I (wr (left1 - (a0.length : Int)))),(11,.bool (decide ((wr (left1 - (a0.length : Int))) < 0)))] [] ?_
 refine ic h (fun a1 h => ?_) fun a1 h => ?_
 ·refine rs0 hc 1 [(4,I (-1))] [] ?_
  refine rt ?_
  obtain rfl := os h
  exact rq [true]
 refine sk ?_
 refine sN ?_
 refine rs0 hc 1 [(0,sL a0),(1,I (wr (left1 - (a0.length : Int)))),(5,I 0)] [] ?_
 refine bk 0 ?_
 obtain ⟨fl,a2,h⟩ := Qdd h
 have hL := K7t _ _ a2 c hc
 refine lp ?_
 rcases fl with a3 | r
 ·refine WpL.into (e := (.exit 0)) (mkS [(1,I a3)] []) hL ?_
  refine Qcr ?_
  refine rs0 hc 2 [(4,I a3)] [] ?_
  refine rt ?_
  obtain rfl := os h
  exact rq [true]
 refine WpL.mono hL ?_
 rintro _ _ ⟨rfl,hfin⟩
 obtain rfl := os h
 exact ⟨.inl rfl,hfin⟩
def K7x (c : Ctx) : (Int) ⊕ (Int) → Exit → Q0a → Prop
 | .inl a0 => Qcz c (.exit 0) (mkS [(1,I a0)] [])
 | .inr r => Qd8 TIx Tryz.f43 [] (I r)
mutual
def K7y (p : K01 × Int) : Option (Int) :=
 match p with
 | (a0,left1) =>
  (K7h (a0.fType,left1)) >>= fun a1 =>
  if (decide (a1 < 0)) = true then
  some (-1)
  else
  (K7z (a0.fKids,a1)) >>= fun a2 =>
  if (decide (a2 < 0)) = true then
  some (-1)
  else
  some a2
 partial_fixpoint
def K7z (p : (List K01) × Int) : Option (Int) :=
 match p with
 | (a0,left1) =>
  if (decide ((wr (left1 - (a0.length : Int))) < 0)) = true then
  some (-1)
  else
  (K80 (a0,(wr (left1 - (a0.length : Int))),0)) >>= fun fl => match fl with
  | .inl a1 =>
   some a1
  | .inr r =>
   some r
 partial_fixpoint
def K80 (p : (List K01) × Int × Int) : Option ((Int) ⊕ (Int)) :=
 match p with
 | (a0,a1,a2) =>
  if (decide (a2 < (a0.length : Int))) = true then
  (idx a0 a2) >>= fun a3 =>
  (K7y (a3,a1)) >>= fun a4 =>
  if (decide (a4 < 0)) = true then
  some (.inr (-1))
  else
  K80 (a0,a4,(wr (a2 + 1)))
  else
  some (.inl a1)
 partial_fixpoint
end
def K81 (p : K01 × Int) (r : Int) : Prop :=
 match p with
 | (a0,left1) => Q71 Tryz.prog 15 [K1w a0,I left1] (I r) []
def K82 (p : (List K01) × Int) (r : Int) : Prop :=
 match p with
 | (a0,left1) => Q71 Tryz.prog 43 [.sl (List.map K0h a0),I left1] (I r) []
def K83 (p : (List K01) × Int × Int) (fl : (Int) ⊕ (Int)) : Prop :=
 match p with
 | (a0,a1,a2) => ∀ c : Ctx,c.nt = 27 → WpL Tryz.prog c (cl (cl (cr (cl (cr (cr (cr B43))))))) (K7x c fl) (mkS [(0,.sl (List.map K0h a0)),(1,I a1),(5,I a2)] [])
theorem K84 : (∀ p r,K7y p = some r → K81 p r) ∧ (∀ p r,K7z p = some r → K82 p r) ∧ (∀ p r,K80 p = some r → K83 p r) := by
 refine K7y.mutual_partial_correctness K81 K82 K83 ?_ ?_ ?_
 ·rintro laws_szTermS_f laws_szTermS_ih ⟨a0,left1⟩ r h
  refine b0 Tryz.f15 B15 18 [(0,K1w a0),(1,I left1)] fun c hc => ?_
  refine rs hc none [some (.new 1),oN] [(1,I left1),(2,.ra 1 0)] [(1,K1v a0)] tv ?_
  obtain ⟨a1,a2,h⟩ := Qdd h
  refine rss hc none [oN,oN,oN,oc (I a1),oN] [(1,I a1),(2,.ra 1 0)] (cq (K7j _ _ a2) K2y tv) ?_
  refine sN ?_
  refine K7f hc 2 [(1,I a1),(2,.ra 1 0),(10,.bool (decide (a1 < 0)))] ?_
  refine ic h (fun a3 h => ?_) fun a3 h => ?_
  ·refine rs0 hc 1 [(4,I (-1))] [] ?_
   refine rt ?_
   obtain rfl := os h
   exact rq [true]
  refine sk ?_
  obtain ⟨a4,a5,h⟩ := Qdd h
  refine rs hc none [oN,oN,oN,oc (I a4),oN] [(1,I a4)] [] (cq (laws_szTermS_ih _ _ a5) K32 tv) ?_
  refine sN ?_
  refine rs0 hc 2 [(1,I a4),(16,.bool (decide (a4 < 0)))] [] ?_
  refine ic h (fun a6 h => ?_) fun a6 h => ?_
  ·refine rs0 hc 1 [(4,I (-1))] [] ?_
   refine rt ?_
   obtain rfl := os h
   exact rq [true]
  refine sk ?_
  refine rs0 hc 2 [(4,I a4)] [] ?_
  refine rt ?_
  obtain rfl := os h
  exact rq [true]
 ·rintro laws_szTermS_l0_f laws_szTermS_l0_ih ⟨a0,left1⟩ r h
  refine b0 Tryz.f43 B43 27 [(0,.sl (List.map K0h a0)),(1,I left1)] fun c hc => ?_
  refine rs0 hc 1 [(0,.sl (List.map K0h a0)),(1,I left1)] [] ?_
  refine rs hc none [oN,oN,some (.eqv (.no) ⟨[(8,I (a0.length : Int))],[],[]⟩),oN,oN] [(0,.sl (List.map K0h a0)),(1,I (wr (left1 - (a0.length : Int))))] [] (ai (Qdj (d := 8) K0h a0) tv) ?_
  refine sN ?_
  refine rs0 hc 2 [(0,.sl (List.map K0h a0)),(1,I (wr (left1 - (a0.length : Int)))),(11,.bool (decide ((wr (left1 - (a0.length : Int))) < 0)))] [] ?_
  refine ic h (fun a3 h => ?_) fun a3 h => ?_
  ·refine rs0 hc 1 [(4,I (-1))] [] ?_
   refine rt ?_
   obtain rfl := os h
   exact rq [true]
  refine sk ?_
  refine sN ?_
  refine rs0 hc 1 [(0,.sl (List.map K0h a0)),(1,I (wr (left1 - (a0.length : Int)))),(5,I 0)] [] ?_
  refine bk 0 ?_
  obtain ⟨fl,a7,h⟩ := Qdd h
  have hL := laws_szTermS_l0_ih _ _ a7 c hc
  refine lp ?_
  rcases fl with a8 | r
  ·refine WpL.into (e := (.exit 0)) (mkS [(1,I a8)] []) hL ?_
   refine Qcr ?_
   refine rs0 hc 2 [(4,I a8)] [] ?_
   refine rt ?_
   obtain rfl := os h
   exact rq [true]
  refine WpL.mono hL ?_
  rintro _ _ ⟨rfl,hfin⟩
  obtain rfl := os h
  exact ⟨.inl rfl,hfin⟩
 ·rintro laws_szTerm_f laws_szTermS_l0_f laws_szTerm_ih laws_szTermS_l0_ih ⟨a0,a9,b1⟩ r h
  intro c hc
  refine WpL.step ?_
  refine sN ?_
  refine rs hc none [oN,oN,some (.eqv (.no) ⟨[(14,I (a0.length : Int))],[],[]⟩),oN] [(0,.sl (List.map K0h a0)),(1,I a9),(5,I b1),(15,.bool (decide (b1 < (a0.length : Int))))] [] (ai (Qdj (d := 14) K0h a0) tv) ?_
  refine ic h (fun b2 h => ?_) fun b2 h => ?_
  ·refine sk ?_
   refine sN ?_
   refine bk 1 ?_
   obtain ⟨b3,b4,b5,b6,h⟩ := bq2 h
   refine rs hc none [oN,oN,some (.el (K1w b3)),oN,oN,oc (I b5),oN] [(0,.sl (List.map K0h a0)),(1,I b5),(5,I b1)] [] (ai (Qdh b4 (K0o b3)) (cq (laws_szTerm_ih _ _ b6) K33 tv)) ?_
   refine rs0 hc 2 [(0,.sl (List.map K0h a0)),(1,I b5),(5,I b1),(25,.bool (decide (b5 < 0)))] [] ?_
   refine ic h (fun b7 h => ?_) fun b7 h => ?_
   ·refine rs0 hc 1 [(4,I (-1))] [] ?_
    refine rt ?_
    obtain rfl := os h
    exact re [true]
   refine sk ?_
   refine rg0 hc 3 [(0,.sl (List.map K0h a0)),(1,I b5),(5,I (wr (b1 + 1)))] [] ?_
   refine Qcv ?_
   exact (laws_szTermS_l0_ih _ _ h c hc)
  refine xt 0 ?_
  refine Qcp ?_
  refine Qcw ?_
  obtain rfl := os h
  exact iv []
theorem K85 : ∀ p r,K7y p = some r → K81 p r := K84.1
theorem K86 : ∀ p r,K7z p = some r → K82 p r := K84.2.1
theorem K87 : ∀ p r,K80 p = some r → K83 p r := K84.2.2
def K88 (c : Ctx) : (List Int) → Exit → Q0a → Prop
 | a0 => Qcz c (.exit 0) (mkS [(3,.rs 1)] [(1,rI a0)])
def K89 (p : (List Int) × (List Int) × Int) : Option ((List Int)) :=
 match p with
 | (a0,a1,a2) =>
  if (decide (a2 < (a0.length : Int))) = true then
  (idx a0 a2) >>= fun a3 =>
  (idx a1 a2) >>= fun a4 =>
  K89 (a0,(List.set a1 (Int.toNat a2) a3),(wr (a2 + 1)))
  else
  some (a1)
 partial_fixpoint
def K8a (p : (List Int) × (List Int) × Int) (fl : (List Int)) : Prop :=
 match p with
 | (a0,a1,a2) => ∀ c : Ctx,c.nt = 22 → WpL Tryz.prog c (cl (cl (cr (cl (cr (cr B36)))))) (K88 c fl) (mkS [(0,sI a0),(3,.rs 1),(4,I a2)] [(1,rI a1)])
theorem K8b : ∀ p r,K89 p = some r → K8a p r := by
 refine K89.partial_correctness K8a ?_
 rintro laws_toIntS_l0_f laws_toIntS_l0_ih ⟨a0,a1,a2⟩ r h
 intro c hc
 refine WpL.step ?_
 refine sN ?_
 refine rss hc none [oN,oN,some (.eqv (.no) ⟨[(10,I (a0.length : Int))],[],[]⟩),oN] [(0,sI a0),(3,.rs 1),(4,I a2),(11,.bool (decide (a2 < (a0.length : Int))))] (ai (Qdj (d := 10) I a0) tv) ?_
 refine ic h (fun a3 h => ?_) fun a3 h => ?_
 ·refine sk ?_
  refine sN ?_
  refine bk 1 ?_
  obtain ⟨a4,a5,a6,a7,h⟩ := bq2 h
  refine rg hc none [oN,oN,oN,oN,some (.el (I a4)),oN,oN,some (.eqv (.mk 0 true) ⟨[],[(1,some (.arr (List.map I (List.set a1 (Int.toNat a2) a4))))],[]⟩)] [(0,sI a0),(3,.rs 1),(4,I a2)] [(1,.arr (List.map I (List.set a1 (Int.toNat a2) a4)))] (ad (ix a5) (Qdi (enc := I) a7) (congrArg (fun z => (⟨[],[(1,some (.arr z))],[]⟩ : Wr)) (Qeg (enc := I) (i := Int.toNat a2) (l := a1) (v := a4) (x := I a4) (Qds a4))) (Qeh (enc := I) (sz := 1) Qdw a7) tv) ?_
  refine K7e hc 3 [(0,sI a0),(3,.rs 1),(4,I (wr (a2 + 1)))] ?_
  refine Qcv ?_
  exact (laws_toIntS_l0_ih _ _ h c hc)
 refine xt 0 ?_
 refine Qcp ?_
 refine Qcw ?_
 obtain rfl := os h
 exact iv []
def K8c (a0 : (List Int)) : Option ((List Int)) :=
 (chk (0 ≤ (a0.length : Int) ∧ (Int.toNat (a0.length : Int)) * 8 ≤ 140737488355328)) >>= fun _ =>
 (K89 (a0,(List.replicate (Int.toNat (a0.length : Int)) 0),0)) >>= fun a1 =>
 some a1
def K8d (a0 : (List Int)) (r : (List Int)) : Prop :=
 Q71 Tryz.prog 36 [sI a0] (oI r) []
theorem K8e : ∀ p r,K8c p = some r → K8d p r := by
 rintro a0 r h
 unfold K8c at h
 refine b0 Tryz.f36 B36 22 [(0,sI a0)] fun c hc => ?_
 refine rs0 hc 1 [(0,sI a0)] [] ?_
 obtain ⟨_,a1,h⟩ := Qdd h
 refine rs hc none [oN,some (.eqv (.no) ⟨[(6,I (a0.length : Int))],[],[]⟩),some (.eqv (.mk 1 true) ⟨[(7,.rs 1)],[(1,some (.arr (List.map I (List.replicate (Int.toNat (a0.length : Int)) 0))))],[1]⟩),oN] [(0,sI a0),(3,.rs 1)] [(1,.arr (List.map I (List.replicate (Int.toNat (a0.length : Int)) 0)))] (ac (Qdj (d := 6) I a0) (congrArg (fun z => (⟨[(7,.rs 1)],[(1,some (.arr z))],[1]⟩ : Wr)) (Qei (enc := I) (n := Int.toNat (a0.length : Int)) (x := I 0) (Qds 0))) (And.intro (Eq.refl (a0.length : Int)) (Qdf a1)) tv) ?_
 refine sN ?_
 refine K7f hc 1 [(0,sI a0),(3,.rs 1),(4,I 0)] ?_
 refine bk 0 ?_
 obtain ⟨a2,a3,h⟩ := Qdd h
 have hL := K8b _ _ a3 c hc
 refine lp ?_
 refine WpL.into (e := (.exit 0)) (mkS [(3,.rs 1)] [(1,rI a2)]) hL ?_
 refine Qcr ?_
 refine K7f hc 2 [(2,.rs 1)] ?_
 refine rt ?_
 obtain rfl := os h
 exact rq [true]
def K8f (c : Ctx) : (List Bool) → Exit → Q0a → Prop
 | a0 => Qcz c (.exit 0) (mkS [(3,.rs 1)] [(1,.arr (List.map AV.bool a0))])
def K8g (p : (List Bool) × (List Bool) × Int) : Option ((List Bool)) :=
 match p with
 | (a0,a1,a2) =>
  if (decide (a2 < (a0.length : Int))) = true then
  (idx a0 a2) >>= fun a3 =>
  (idx a1 a2) >>= fun a4 =>
  K8g (a0,(List.set a1 (Int.toNat a2) a3),(wr (a2 + 1)))
  else
  some (a1)
 partial_fixpoint
def K8h (p : (List Bool) × (List Bool) × Int) (fl : (List Bool)) : Prop :=
 match p with
 | (a0,a1,a2) => ∀ c : Ctx,c.nt = 22 → WpL Tryz.prog c (cl (cl (cr (cl (cr (cr B37)))))) (K8f c fl) (mkS [(0,sB a0),(3,.rs 1),(4,I a2)] [(1,.arr (List.map AV.bool a1))])
theorem K8i : ∀ p r,K8g p = some r → K8h p r := by
 refine K8g.partial_correctness K8h ?_
 rintro laws_toBoolS_l0_f laws_toBoolS_l0_ih ⟨a0,a1,a2⟩ r h
 intro c hc
 refine WpL.step ?_
 refine sN ?_
 refine rss hc none [oN,oN,some (.eqv (.no) ⟨[(10,I (a0.length : Int))],[],[]⟩),oN] [(0,sB a0),(3,.rs 1),(4,I a2),(11,.bool (decide (a2 < (a0.length : Int))))] (ai (Qdj (d := 10) AV.bool a0) tv) ?_
 refine ic h (fun a3 h => ?_) fun a3 h => ?_
 ·refine sk ?_
  refine sN ?_
  refine bk 1 ?_
  obtain ⟨a4,a5,a6,a7,h⟩ := bq2 h
  refine rg hc none [oN,oN,oN,oN,some (.el (.bool a4)),oN,oN,some (.eqv (.mk 0 true) ⟨[],[(1,some (.arr (List.map AV.bool (List.set a1 (Int.toNat a2) a4))))],[]⟩)] [(0,sB a0),(3,.rs 1),(4,I a2)] [(1,.arr (List.map AV.bool (List.set a1 (Int.toNat a2) a4)))] (ad (Qdh (enc := AV.bool) (x := .bool a4) a5 (Qdu a4)) (Qdi (enc := AV.bool) a7) (congrArg (fun z => (⟨[],[(1,some (.arr z))],[]⟩ : Wr)) (Qeg (enc := AV.bool) (i := Int.toNat a2) (l := a1) (v := a4) (x := AV.bool a4) (Qdu a4))) (Qeh (enc := AV.bool) (sz := 1) Qdy a7) tv) ?_
  refine K7e hc 3 [(0,sB a0),(3,.rs 1),(4,I (wr (a2 + 1)))] ?_
  refine Qcv ?_
  exact (laws_toBoolS_l0_ih _ _ h c hc)
 refine xt 0 ?_
 refine Qcp ?_
 refine Qcw ?_
 obtain rfl := os h
 exact iv []
def K8j (a0 : (List Bool)) : Option ((List Bool)) :=
 (chk (0 ≤ (a0.length : Int) ∧ (Int.toNat (a0.length : Int)) * 1 ≤ 140737488355328)) >>= fun _ =>
 (K8g (a0,(List.replicate (Int.toNat (a0.length : Int)) false),0)) >>= fun a1 =>
 some a1
def K8k (a0 : (List Bool)) (r : (List Bool)) : Prop :=
 Q71 Tryz.prog 37 [sB a0] (.osl (List.map AV.bool r)) []
theorem K8l : ∀ p r,K8j p = some r → K8k p r := by
 rintro a0 r h
 unfold K8j at h
 refine b0 Tryz.f37 B37 22 [(0,sB a0)] fun c hc => ?_
 refine rs0 hc 1 [(0,sB a0)] [] ?_
 obtain ⟨_,a1,h⟩ := Qdd h
 refine rs hc none [oN,some (.eqv (.no) ⟨[(6,I (a0.length : Int))],[],[]⟩),some (.eqv (.mk 1 true) ⟨[(7,.rs 1)],[(1,some (.arr (List.map AV.bool (List.replicate (Int.toNat (a0.length : Int)) false))))],[1]⟩),oN] [(0,sB a0),(3,.rs 1)] [(1,.arr (List.map AV.bool (List.replicate (Int.toNat (a0.length : Int)) false)))] (ac (Qdj (d := 6) AV.bool a0) (congrArg (fun z => (⟨[(7,.rs 1)],[(1,some (.arr z))],[1]⟩ : Wr)) (Qei (enc := AV.bool) (n := Int.toNat (a0.length : Int)) (x := AV.bool false) (Qdu false))) (And.intro (Eq.refl (a0.length : Int)) (Qdf a1)) tv) ?_
 refine sN ?_
 refine K7f hc 1 [(0,sB a0),(3,.rs 1),(4,I 0)] ?_
 refine bk 0 ?_
 obtain ⟨a2,a3,h⟩ := Qdd h
 have hL := K8i _ _ a3 c hc
 refine lp ?_
 refine WpL.into (e := (.exit 0)) (mkS [(3,.rs 1)] [(1,.arr (List.map AV.bool a2))]) hL ?_
 refine Qcr ?_
 refine K7f hc 2 [(2,.rs 1)] ?_
 refine rt ?_
 obtain rfl := os h
 exact rq [true]
def K8m (a0 : K00) : Option (K00) :=
 (K8c a0.fPlus) >>= fun a1 =>
 (K8c a0.fTimes) >>= fun a2 =>
 (K8j a0.fBelow) >>= fun a3 =>
 some (K00.mk a0.fSize a1 a2 a3)
def K8n (a0 : K00) (r : K00) : Prop :=
 Q71 Tryz.prog 9 [K1u a0] (K23 r) []
theorem K8o : ∀ p r,K8m p = some r → K8n p r := by
 rintro a0 r h
 unfold K8m at h
 refine b0 Tryz.f9 B9 20 [(0,K1u a0)] fun c hc => ?_
 refine rs hc none [some (.new 1),some (.new 2)] [(1,.ra 1 0),(2,.ra 2 0)] [(1,K1t a0),(2,.box [I 0,.nils,.nils,.nils])] tv ?_
 refine rs hc none [some (.new 3)] [(1,.ra 1 0),(2,.ra 2 0),(3,.ra 3 0)] [(1,K1t a0),(2,.box [I 0,.nils,.nils,.nils]),(3,.box [I 0,.nils,.nils,.nils])] tv ?_
 refine rs0 hc 4 [(1,.ra 1 0),(2,.ra 2 0),(3,.ra 3 0)] [(1,K1t a0),(2,.box [I 0,.nils,.nils,.nils]),(3,.box [I a0.fSize,.nils,.nils,.nils])] ?_
 obtain ⟨a1,a2,h⟩ := Qdd h
 refine rs hc none [oN,oN,some (.call (oI a1) [] 4),oN,oN] [(1,.ra 1 0),(2,.ra 2 0),(3,.ra 3 0)] [(1,K1t a0),(2,.box [I 0,.nils,.nils,.nils]),(3,.box [I a0.fSize,.rs 4,.nils,.nils]),(4,rI a1)] (cq (K8e _ _ a2) K34 tv) ?_
 obtain ⟨a3,a4,h⟩ := Qdd h
 refine rs hc none [oN,oN,some (.call (oI a3) [] 5),oN,oN] [(1,.ra 1 0),(2,.ra 2 0),(3,.ra 3 0)] [(1,K1t a0),(2,.box [I 0,.nils,.nils,.nils]),(3,.box [I a0.fSize,.rs 4,.rs 5,.nils]),(4,rI a1),(5,rI a3)] (cq (K8e _ _ a4) K34 tv) ?_
 obtain ⟨a5,a6,h⟩ := Qdd h
 refine rs hc none [oN,oN,some (.call (.osl (List.map AV.bool a5)) [] 6),oN,oN] [(2,.ra 2 0),(3,.ra 3 0)] [(2,.box [I 0,.nils,.nils,.nils]),(3,.box [I a0.fSize,.rs 4,.rs 5,.rs 6]),(4,rI a1),(5,rI a3),(6,.arr (List.map AV.bool a5))] (cq (K8l _ _ a6) K35 tv) ?_
 refine rs0 hc 2 [(2,.ra 2 0)] [(2,.box [I a0.fSize,.rs 4,.rs 5,.rs 6]),(4,rI a1),(5,rI a3),(6,.arr (List.map AV.bool a5))] ?_
 refine rt ?_
 obtain rfl := os h
 exact rq [true]
def K8p (c : Ctx) : LL → Exit → Q0a → Prop
 | a0 => Qcz c (.exit 0) (mkS [(3,.rs 1)] [(1,.arr (List.map K16 a0))])
def K8q (p : LL × LL × Int) : Option (LL) :=
 match p with
 | (a0,a1,a2) =>
  if (decide (a2 < (a0.length : Int))) = true then
  (idx a0 a2) >>= fun a3 =>
  (K8c a3) >>= fun a4 =>
  (idx a1 a2) >>= fun a5 =>
  K8q (a0,(List.set a1 (Int.toNat a2) a4),(wr (a2 + 1)))
  else
  some (a1)
 partial_fixpoint
def K8r (p : LL × LL × Int) (fl : LL) : Prop :=
 match p with
 | (a0,a1,a2) => ∀ c : Ctx,c.nt = 23 → WpL Tryz.prog c (cl (cl (cr (cl (cr (cr B17)))))) (K8p c fl) (mkS [(0,sL a0),(3,.rs 1),(4,I a2)] [(1,.arr (List.map K16 a1))])
theorem K8s : ∀ p r,K8q p = some r → K8r p r := by
 refine K8q.partial_correctness K8r ?_
 rintro laws_toIntSS_l0_f laws_toIntSS_l0_ih ⟨a0,a1,a2⟩ r h
 intro c hc
 refine WpL.step ?_
 refine sN ?_
 refine rss hc none [oN,oN,some (.eqv (.no) ⟨[(10,I (a0.length : Int))],[],[]⟩),oN] [(0,sL a0),(3,.rs 1),(4,I a2),(11,.bool (decide (a2 < (a0.length : Int))))] (ai (Qdj (d := 10) K11 a0) tv) ?_
 refine ic h (fun a3 h => ?_) fun a3 h => ?_
 ·refine sk ?_
  refine sN ?_
  refine bk 1 ?_
  obtain ⟨a4,a5,a6,a7,a8,a9,h⟩ := bq3 h
  refine rg hc none [oN,oN,oN,oN,some (.el (sI a4)),oN,some (.call (oI a6) [] 3),oN,some (.eqv (.mk 0 true) ⟨[],[(1,some (.arr (List.map K16 (List.set a1 (Int.toNat a2) a6)))),(3,none)],[]⟩)] [(0,sL a0),(3,.rs 1),(4,I a2)] [(1,.arr (List.map K16 (List.set a1 (Int.toNat a2) a6)))] (ai (xL a5) (cq (K8e _ _ a7) K34 (ac (Qdi (enc := K16) a9) (congrArg (fun z => (⟨[],[(1,some (.arr z)),(3,none)],[]⟩ : Wr)) (Qeg (enc := K16) (i := Int.toNat a2) (l := a1) (v := a6) (x := oI a6) (K17 a6))) (Qeh (enc := K16) (sz := 1) K18 a9) tv))) ?_
  refine K7e hc 3 [(0,sL a0),(3,.rs 1),(4,I (wr (a2 + 1)))] ?_
  refine Qcv ?_
  exact (laws_toIntSS_l0_ih _ _ h c hc)
 refine xt 0 ?_
 refine Qcp ?_
 refine Qcw ?_
 obtain rfl := os h
 exact iv []
def K8t (a0 : LL) : Option (LL) :=
 (chk (0 ≤ (a0.length : Int) ∧ (Int.toNat (a0.length : Int)) * 24 ≤ 140737488355328)) >>= fun _ =>
 (K8q (a0,(List.replicate (Int.toNat (a0.length : Int)) []),0)) >>= fun a1 =>
 some a1
def K8u (a0 : LL) (r : LL) : Prop :=
 Q71 Tryz.prog 17 [sL a0] (.osl (List.map K16 r)) []
theorem K8v : ∀ p r,K8t p = some r → K8u p r := by
 rintro a0 r h
 unfold K8t at h
 refine b0 Tryz.f17 B17 23 [(0,sL a0)] fun c hc => ?_
 refine rs0 hc 1 [(0,sL a0)] [] ?_
 obtain ⟨_,a1,h⟩ := Qdd h
 refine rs hc none [oN,some (.eqv (.no) ⟨[(6,I (a0.length : Int))],[],[]⟩),some (.eqv (.mk 1 true) ⟨[(7,.rs 1)],[(1,some (.arr (List.map K16 (List.replicate (Int.toNat (a0.length : Int)) []))))],[1]⟩),oN] [(0,sL a0),(3,.rs 1)] [(1,.arr (List.map K16 (List.replicate (Int.toNat (a0.length : Int)) [])))] (ac (Qdj (d := 6) K11 a0) (congrArg (fun z => (⟨[(7,.rs 1)],[(1,some (.arr z))],[1]⟩ : Wr)) (Qei (enc := K16) (n := Int.toNat (a0.length : Int)) (x := AV.osl (List.map I [])) (K17 []))) (And.intro (Eq.refl (a0.length : Int)) (Qdf a1)) tv) ?_
 refine sN ?_
 refine K7f hc 1 [(0,sL a0),(3,.rs 1),(4,I 0)] ?_
 refine bk 0 ?_
 obtain ⟨a2,a3,h⟩ := Qdd h
 have hL := K8s _ _ a3 c hc
 refine lp ?_
 refine WpL.into (e := (.exit 0)) (mkS [(3,.rs 1)] [(1,.arr (List.map K16 a2))]) hL ?_
 refine Qcr ?_
 refine K7f hc 2 [(2,.rs 1)] ?_
 refine rt ?_
 obtain rfl := os h
 exact rq [true]
def K8w (c : Ctx) : (List K01) → Exit → Q0a → Prop
 | a0 => Qcz c (.exit 0) (mkS [(3,.rs 1)] [(1,.arr (List.map K0k a0))])
mutual
def K8x (a0 : K01) : Option (K01) :=
 (K8c a0.fType) >>= fun a1 =>
 (K8y a0.fKids) >>= fun a2 =>
 some (K01.mk a0.fOp a0.fN a1 a2)
 partial_fixpoint
def K8y (a0 : (List K01)) : Option ((List K01)) :=
 (chk (0 ≤ (a0.length : Int) ∧ (Int.toNat (a0.length : Int)) * 64 ≤ 140737488355328)) >>= fun _ =>
 (K8z (a0,(List.replicate (Int.toNat (a0.length : Int)) (K01.mk 0 0 [] [])),0)) >>= fun a1 =>
 some a1
 partial_fixpoint
def K8z (p : (List K01) × (List K01) × Int) : Option ((List K01)) :=
 match p with
 | (a0,a1,a2) =>
  if (decide (a2 < (a0.length : Int))) = true then
  (idx a0 a2) >>= fun a3 =>
  (K8x a3) >>= fun a4 =>
  (idx a1 a2) >>= fun a5 =>
  K8z (a0,(List.set a1 (Int.toNat a2) a4),(wr (a2 + 1)))
  else
  some (a1)
 partial_fixpoint
end
def K90 (a0 : K01) (r : K01) : Prop :=
 Q71 Tryz.prog 18 [K1w a0] (K25 r) []
def K91 (a0 : (List K01)) (r : (List K01)) : Prop :=
 Q71 Tryz.prog 46 [.sl (List.map K0h a0)] (.osl (List.map K0k r)) []
def K92 (p : (List K01) × (List K01) × Int) (fl : (List K01)) : Prop :=
 match p with
 | (a0,a1,a2) => ∀ c : Ctx,c.nt = 23 → WpL Tryz.prog c (cl (cl (cr (cl (cr (cr B46)))))) (K8w c fl) (mkS [(0,.sl (List.map K0h a0)),(3,.rs 1),(4,I a2)] [(1,.arr (List.map K0k a1))])
theorem K93 : (∀ p r,K8x p = some r → K90 p r) ∧ (∀ p r,K8y p = some r → K91 p r) ∧ (∀ p r,K8z p = some r → K92 p r) := by
 refine K8x.mutual_partial_correctness K90 K91 K92 ?_ ?_ ?_
 ·rintro laws_toTermS_f laws_toTermS_ih a0 r h
  refine b0 Tryz.f18 B18 19 [(0,K1w a0)] fun c hc => ?_
  refine rs hc none [some (.new 1),some (.new 2)] [(1,.ra 1 0),(2,.ra 2 0)] [(1,K1v a0),(2,.box [I 0,I 0,.nils,.nils])] tv ?_
  refine rs hc none [some (.new 3)] [(1,.ra 1 0),(2,.ra 2 0),(3,.ra 3 0)] [(1,K1v a0),(2,.box [I 0,I 0,.nils,.nils]),(3,.box [I 0,I 0,.nils,.nils])] tv ?_
  refine rs0 hc 4 [(1,.ra 1 0),(2,.ra 2 0),(3,.ra 3 0)] [(1,K1v a0),(2,.box [I 0,I 0,.nils,.nils]),(3,.box [I a0.fOp,I 0,.nils,.nils])] ?_
  refine rs0 hc 4 [(1,.ra 1 0),(2,.ra 2 0),(3,.ra 3 0)] [(1,K1v a0),(2,.box [I 0,I 0,.nils,.nils]),(3,.box [I a0.fOp,I a0.fN,.nils,.nils])] ?_
  obtain ⟨a1,a2,h⟩ := Qdd h
  refine rs hc none [oN,oN,some (.call (oI a1) [] 4),oN,oN] [(1,.ra 1 0),(2,.ra 2 0),(3,.ra 3 0)] [(1,K1v a0),(2,.box [I 0,I 0,.nils,.nils]),(3,.box [I a0.fOp,I a0.fN,.rs 4,.nils]),(4,rI a1)] (cq (K8e _ _ a2) K34 tv) ?_
  obtain ⟨a3,a4,h⟩ := Qdd h
  refine rs hc none [oN,oN,some (.call (.osl (List.map K0k a3)) [] 5),oN,oN] [(2,.ra 2 0),(3,.ra 3 0)] [(2,.box [I 0,I 0,.nils,.nils]),(3,.box [I a0.fOp,I a0.fN,.rs 4,.rs 5]),(4,rI a1),(5,.arr (List.map K0k a3))] (cq (laws_toTermS_ih _ _ a4) K38 tv) ?_
  refine rs0 hc 2 [(2,.ra 2 0)] [(2,.box [I a0.fOp,I a0.fN,.rs 4,.rs 5]),(4,rI a1),(5,.arr (List.map K0k a3))] ?_
  refine rt ?_
  obtain rfl := os h
  exact rq [true]
 ·rintro laws_toTermS_l0_f laws_toTermS_l0_ih a0 r h
  refine b0 Tryz.f46 B46 23 [(0,.sl (List.map K0h a0))] fun c hc => ?_
  refine rs0 hc 1 [(0,.sl (List.map K0h a0))] [] ?_
  obtain ⟨_,a5,h⟩ := Qdd h
  refine rs hc none [oN,some (.eqv (.no) ⟨[(6,I (a0.length : Int))],[],[]⟩),some (.eqv (.mk 1 true) ⟨[(7,.rs 1)],[(1,some (.arr (List.map K0k (List.replicate (Int.toNat (a0.length : Int)) (K01.mk 0 0 [] [])))))],[1]⟩),oN] [(0,.sl (List.map K0h a0)),(3,.rs 1)] [(1,.arr (List.map K0k (List.replicate (Int.toNat (a0.length : Int)) (K01.mk 0 0 [] []))))] (ac (Qdj (d := 6) K0h a0) (congrArg (fun z => (⟨[(7,.rs 1)],[(1,some (.arr z))],[1]⟩ : Wr)) (Qei (enc := K0k) (n := Int.toNat (a0.length : Int)) (x := AV.agg [I ((K01.mk 0 0 [] []).fOp),I ((K01.mk 0 0 [] []).fN),.osl (List.map I ((K01.mk 0 0 [] []).fType)),.osl (List.map K0k ((K01.mk 0 0 [] []).fKids))]) (K0q (K01.mk 0 0 [] [])))) (And.intro (Eq.refl (a0.length : Int)) (Qdf a5)) tv) ?_
  refine sN ?_
  refine K7f hc 1 [(0,.sl (List.map K0h a0)),(3,.rs 1),(4,I 0)] ?_
  refine bk 0 ?_
  obtain ⟨a6,a7,h⟩ := Qdd h
  have hL := laws_toTermS_l0_ih _ _ a7 c hc
  refine lp ?_
  refine WpL.into (e := (.exit 0)) (mkS [(3,.rs 1)] [(1,.arr (List.map K0k a6))]) hL ?_
  refine Qcr ?_
  refine K7f hc 2 [(2,.rs 1)] ?_
  refine rt ?_
  obtain rfl := os h
  exact rq [true]
 ·rintro laws_toTerm_f laws_toTermS_l0_f laws_toTerm_ih laws_toTermS_l0_ih ⟨a0,a8,a9⟩ r h
  intro c hc
  refine WpL.step ?_
  refine sN ?_
  refine rss hc none [oN,oN,some (.eqv (.no) ⟨[(10,I (a0.length : Int))],[],[]⟩),oN] [(0,.sl (List.map K0h a0)),(3,.rs 1),(4,I a9),(11,.bool (decide (a9 < (a0.length : Int))))] (ai (Qdj (d := 10) K0h a0) tv) ?_
  refine ic h (fun b1 h => ?_) fun b1 h => ?_
  ·refine sk ?_
   refine sN ?_
   refine bk 1 ?_
   obtain ⟨b2,b3,b4,b5,b6,b7,h⟩ := bq3 h
   refine rg hc none [oN,oN,oN,oN,some (.el (K1w b2)),oN,some (.call (K25 b4) [] 4),oN,some (.eqv (.mk 0 true) ⟨[],[(1,some (.arr (List.map K0k (List.set a8 (Int.toNat a9) b4)))),(4,none),(5,none)],[]⟩)] [(0,.sl (List.map K0h a0)),(3,.rs 1),(4,I a9)] [(1,.arr (List.map K0k (List.set a8 (Int.toNat a9) b4)))] (ai (Qdh b3 (K0o b2)) (cq (laws_toTerm_ih _ _ b5) K39 (ac (Qdi (enc := K0k) b7) (congrArg (fun z => (⟨[],[(1,some (.arr z)),(4,none),(5,none)],[]⟩ : Wr)) (Qeg (enc := K0k) (i := Int.toNat a9) (l := a8) (v := b4) (x := AV.agg [I b4.fOp,I b4.fN,oI b4.fType,AV.osl (List.map K0k b4.fKids)]) (K0q b4))) (Qeh (enc := K0k) (sz := 4) K1c b7) tv))) ?_
   refine K7e hc 3 [(0,.sl (List.map K0h a0)),(3,.rs 1),(4,I (wr (a9 + 1)))] ?_
   refine Qcv ?_
   exact (laws_toTermS_l0_ih _ _ h c hc)
  refine xt 0 ?_
  refine Qcp ?_
  refine Qcw ?_
  obtain rfl := os h
  exact iv []
theorem K94 : ∀ p r,K8x p = some r → K90 p r := K93.1
theorem K95 : ∀ p r,K8y p = some r → K91 p r := K93.2.1
theorem K96 : ∀ p r,K8z p = some r → K92 p r := K93.2.2
def K97 (p : Int × Int × Int) : Option (Bool) :=
 match p with
 | (n0,low1,high2) =>
  ((
  if (decide (n0 ≥ low1)) = true then
  some ((decide (n0 ≤ high2)))
  else
  some (false)
  ) : Option (Bool)) >>= fun a0 =>
  some a0
def K98 (p : Int × Int × Int) (r : Bool) : Prop :=
 match p with
 | (n0,low1,high2) => Q71 Tryz.prog 56 [I n0,I low1,I high2] (.bool r) []
theorem K99 : ∀ p r,K97 p = some r → K98 p r := by
 rintro ⟨n0,low1,high2⟩ r h
 unfold K97 at h
 refine b0 Tryz.f56 B56 15 [(0,I n0),(1,I low1),(2,I high2)] fun c hc => ?_
 refine rs0 hc 1 [(0,I n0),(1,I low1),(2,I high2)] [] ?_
 refine sN ?_
 obtain ⟨a0,a1,h⟩ := Qdd h
 refine Wp.into (x := .normal) (mkS [(6,.bool a0)] []) ?_ ?_
 ·replace h := a1
  rcases is h with ⟨a2,h⟩ | ⟨a2,h⟩
  ·refine rg hc none [oN,oN,oN,oN,oN,oN,oN,oT,oN] [(6,.bool (decide (n0 ≤ high2)))] [] (ar 4 a2 tv) ?_
   obtain rfl := os h
   exact Qcz.mk
  refine rg hc none [oN,oN,oN,oN,o_,o_,o_,oF,oN] [(6,.bool false)] [] (ar 3 (neT a2) (ai a2 tv)) ?_
  obtain rfl := os h
  exact Qcz.mk
 clear a1
 refine rt ?_
 obtain rfl := os h
 exact rq [true]
def K9a (c : Ctx) : (Unit) ⊕ (Bool) → Exit → Q0a → Prop
 | .inl _ => Qcz c (.exit 0) (mkS [] [])
 | .inr r => Qd8 TIx Tryz.f133 [] (.bool r)
def K9b (p : K00 × Int) : Option ((Unit) ⊕ (Bool)) :=
 match p with
 | (s0,a0) =>
  if (decide (a0 < (s0.fPlus.length : Int))) = true then
  ((
  (idx s0.fPlus a0) >>= fun a1 =>
  (K97 (a1,0,(wr (s0.fSize - 1)))) >>= fun a2 =>
  if a2 = true then
  (idx s0.fTimes a0) >>= fun a3 =>
  (K97 (a3,0,(wr (s0.fSize - 1)))) >>= fun a4 =>
  some ((!a4))
  else
  some (true)
  ) : Option (Bool)) >>= fun a5 =>
  if a5 = true then
  some (.inr false)
  else
  K9b (s0,(wr (a0 + 1)))
  else
  some (.inl ())
 partial_fixpoint
def K9c (p : K00 × Int) (fl : (Unit) ⊕ (Bool)) : Prop :=
 match p with
 | (s0,a0) => ∀ c : Ctx,c.nt = 70 → WpL Tryz.prog c (cl (cl (cr (cl (cr (cr K3b)))))) (K9a c fl) (mkS [(1,.ra 1 0),(3,I a0)] [(1,K1t s0)])
theorem K9d : ∀ p r,K9b p = some r → K9c p r := by
 refine K9b.partial_correctness K9c ?_
 rintro spec_l1Tables_l0_f spec_l1Tables_l0_ih ⟨s0,a0⟩ r h
 intro c hc
 refine WpL.step ?_
 refine sN ?_
 refine rss hc none [oN,oN,oN,some (.eqv (.no) ⟨[(44,I (s0.fPlus.length : Int))],[],[]⟩),oN] [(1,.ra 1 0),(3,I a0),(45,.bool (decide (a0 < (s0.fPlus.length : Int))))] (ai (Qdj (d := 44) I s0.fPlus) tv) ?_
 refine ic h (fun a1 h => ?_) fun a1 h => ?_
 ·refine sk ?_
  refine sN ?_
  refine bk 1 ?_
  refine sN ?_
  obtain ⟨a2,a3,h⟩ := Qdd h
  refine Wp.into (x := .normal) (mkS [(1,.ra 1 0),(3,I a0),(69,.bool a2)] [(1,K1t s0)]) ?_ ?_
  ·replace h := a3
   obtain ⟨a4,a5,a6,a7,h⟩ := bq2 h
   rcases is h with ⟨a8,h⟩ | ⟨a8,h⟩
   ·obtain ⟨a9,b1,b2,b3,h⟩ := bq2 h
    refine rgs hc K7g [oN,oN,oN,some (.el (I a4)),oN,oN,oN,oN,oc (.bool a6),oN,oN,oN,oN,oN,some (.el (I a9)),oN,oN,oN,oN,oc (.bool b2),oN,oF] [(1,.ra 1 0),(3,I a0),(69,.bool (!b2))] (ai (ix a5) (cq (K99 _ _ a7) K3a (ar 4 (nF a8) (ai (ix b1) (ar 5 (nF a8) (cq (K99 _ _ b3) K3a (ar 2 (nF a8) tv))))))) ?_
    obtain rfl := os h
    exact Qcz.mk
   refine rgs hc K7g [oN,oN,oN,some (.el (I a4)),oN,oN,oN,oN,oc (.bool a6),oN,oN,o_,o_,o_,o_,o_,o_,o_,o_,o_,o_,oT] [(1,.ra 1 0),(3,I a0),(69,.bool true)] (ai (ix a5) (cq (K99 _ _ a7) K3a (ar 10 (neF (nT a8)) (ai (nT a8) tv)))) ?_
   obtain rfl := os h
   exact Qcz.mk
  clear a3
  refine ic h (fun b4 h => ?_) fun b4 h => ?_
  ·refine rs0 hc 1 [(2,.bool false)] [] ?_
   refine rt ?_
   obtain rfl := os h
   exact re [true]
  refine sk ?_
  refine K7e hc 3 [(1,.ra 1 0),(3,I (wr (a0 + 1)))] ?_
  refine Qcv ?_
  exact (spec_l1Tables_l0_ih _ _ h c hc)
 refine xt 0 ?_
 refine Qcp ?_
 refine Qcw ?_
 obtain rfl := os h
 exact iv []
def K9e (s0 : K00) : Option (Bool) :=
 ((
 (K97 (s0.fSize,2,16)) >>= fun a0 =>
 if a0 = true then
  if ((s0.fPlus.length : Int) != (wr (s0.fSize * s0.fSize))) = true then
  some (true)
  else
  if ((s0.fTimes.length : Int) != (wr (s0.fSize * s0.fSize))) = true then
  some (true)
  else
  some (((s0.fBelow.length : Int) != (wr (s0.fSize * s0.fSize))))
 else
  some (true)
 ) : Option (Bool)) >>= fun a1 =>
 if a1 = true then
 some false
 else
 (K9b (s0,0)) >>= fun fl => match fl with
 | .inl () =>
  some true
 | .inr r =>
  some r
def K9f (s0 : K00) (r : Bool) : Prop :=
 Q71 Tryz.prog 133 [K1u s0] (.bool r) []
theorem K9g : ∀ p r,K9e p = some r → K9f p r := by
 rintro s0 r h
 unfold K9e at h
 refine b0 Tryz.f133 K3b 70 [(0,K1u s0)] fun c hc => ?_
 refine rs hc none [some (.new 1),oN] [(1,.ra 1 0)] [(1,K1t s0)] tv ?_
 refine sN ?_
 refine sN ?_
 obtain ⟨a0,a1,h⟩ := Qdd h
 refine Wp.into (x := .normal) (mkS [(1,.ra 1 0),(40,.bool a0)] [(1,K1t s0)]) ?_ ?_
 ·replace h := a1
  obtain ⟨a2,a3,h⟩ := Qdd h
  rcases is h with ⟨a4,h⟩ | ⟨a4,h⟩
  ·rcases is h with ⟨a5,h⟩ | ⟨a5,h⟩
   ·refine rgs hc none [oN,oN,oc (.bool a2),oN,oN,oN,oN,some (.eqv (.no) ⟨[(11,I (s0.fPlus.length : Int))],[],[]⟩),oN,oN,oN,oN,oN,oN,oF,oN,o_,o_,o_,o_,o_,o_,o_,o_,o_,oT,oN,o_,o_,o_,o_,o_,o_,o_,o_,o_,oT] [(1,.ra 1 0),(40,.bool true)] (cq (K99 _ _ a3) K3a (ar 3 (nF a4) (ai (Qdj (d := 11) I s0.fPlus) (ar 7 (nF a4) (ar 9 (neF a5) (ai a5 (ar 9 nf (ai tt tv)))))))) ?_
    obtain rfl := os h
    exact Qcz.mk
   rcases is h with ⟨a6,h⟩ | ⟨a6,h⟩
   ·refine rgs hc none [oN,oN,oc (.bool a2),oN,oN,oN,oN,some (.eqv (.no) ⟨[(11,I (s0.fPlus.length : Int))],[],[]⟩),oN,oN,oN,oN,oN,oN,oF,oN,oN,oN,some (.eqv (.no) ⟨[(22,I (s0.fTimes.length : Int))],[],[]⟩),oN,oN,oN,oN,oN,oN,oF,oN,o_,o_,o_,o_,o_,o_,o_,o_,o_,oT] [(1,.ra 1 0),(40,.bool true)] (cq (K99 _ _ a3) K3a (ar 3 (nF a4) (ai (Qdj (d := 11) I s0.fPlus) (ar 7 (nF a4) (ar 3 a5 (ai (Qdj (d := 22) I s0.fTimes) (ar 7 a5 (ar 9 (neF a6) (ai a6 tv))))))))) ?_
    obtain rfl := os h
    exact Qcz.mk
   refine rgs hc none [oN,oN,oc (.bool a2),oN,oN,oN,oN,some (.eqv (.no) ⟨[(11,I (s0.fPlus.length : Int))],[],[]⟩),oN,oN,oN,oN,oN,oN,oF,oN,oN,oN,some (.eqv (.no) ⟨[(22,I (s0.fTimes.length : Int))],[],[]⟩),oN,oN,oN,oN,oN,oN,oF,oN,oN,oN,some (.eqv (.no) ⟨[(33,I (s0.fBelow.length : Int))],[],[]⟩),oN,oN,oN,oN,oN,oN,oF] [(1,.ra 1 0),(40,.bool ((s0.fBelow.length : Int) != (wr (s0.fSize * s0.fSize))))] (cq (K99 _ _ a3) K3a (ar 3 (nF a4) (ai (Qdj (d := 11) I s0.fPlus) (ar 7 (nF a4) (ar 3 a5 (ai (Qdj (d := 22) I s0.fTimes) (ar 7 a5 (ar 3 a6 (ai (Qdj (d := 33) AV.bool s0.fBelow) (ar 7 a6 tv)))))))))) ?_
   obtain rfl := os h
   exact Qcz.mk
  refine rgs hc none [oN,oN,oc (.bool a2),oN,oN,o_,o_,o_,o_,o_,o_,o_,o_,o_,oT,oN,o_,o_,o_,o_,o_,o_,o_,o_,o_,oT,oN,o_,o_,o_,o_,o_,o_,o_,o_,o_,oT] [(1,.ra 1 0),(40,.bool true)] (cq (K99 _ _ a3) K3a (ar 9 (neF (nT a4)) (ai (nT a4) (ar 9 nf (ai tt (ar 9 nf (ai tt tv))))))) ?_
  obtain rfl := os h
  exact Qcz.mk
 clear a1
 refine ic h (fun a7 h => ?_) fun a7 h => ?_
 ·refine rs0 hc 1 [(2,.bool false)] [] ?_
  refine rt ?_
  obtain rfl := os h
  exact rq [true]
 refine sk ?_
 refine sN ?_
 refine K7f hc 1 [(1,.ra 1 0),(3,I 0)] ?_
 refine bk 0 ?_
 obtain ⟨fl,a8,h⟩ := Qdd h
 have hL := K9d _ _ a8 c hc
 refine lp ?_
 rcases fl with ⟨⟩ | r
 ·refine WpL.into (e := (.exit 0)) (mkS [] []) hL ?_
  refine Qcr ?_
  refine rs0 hc 1 [(2,.bool true)] [] ?_
  refine rt ?_
  obtain rfl := os h
  exact rq [true]
 refine WpL.mono hL ?_
 rintro _ _ ⟨rfl,hfin⟩
 obtain rfl := os h
 exact ⟨.inl rfl,hfin⟩
def K9h (p : K00 × Int × Int) : Option (Int) :=
 match p with
 | (s0,a1,b2) =>
  (idx s0.fPlus (wr ((wr (a1 * s0.fSize)) + b2))) >>= fun a0 =>
  some a0
def K9i (p : K00 × Int × Int) (r : Int) : Prop :=
 match p with
 | (s0,a1,b2) => Q71 Tryz.prog 137 [K1u s0,I a1,I b2] (I r) []
theorem K9j : ∀ p r,K9h p = some r → K9i p r := by
 rintro ⟨s0,a1,b2⟩ r h
 unfold K9h at h
 refine b0 Tryz.f137 K3d 17 [(0,K1u s0),(1,I a1),(2,I b2)] fun c hc => ?_
 refine rs hc none [some (.new 1),oN] [(1,I a1),(2,I b2),(3,.ra 1 0)] [(1,K1t s0)] tv ?_
 obtain ⟨a0,a2,h⟩ := Qdd h
 refine rs hc none [oN,oN,oN,oN,oN,oN,oN,oN,some (.el (I a0)),oN,oN] [(6,I a0)] [] (ai (ix a2) tv) ?_
 refine rt ?_
 obtain rfl := os h
 exact rq [true]
def K9k (p : K00 × Int × Int) : Option (Int) :=
 match p with
 | (s0,a1,b2) =>
  (idx s0.fTimes (wr ((wr (a1 * s0.fSize)) + b2))) >>= fun a0 =>
  some a0
def K9l (p : K00 × Int × Int) (r : Int) : Prop :=
 match p with
 | (s0,a1,b2) => Q71 Tryz.prog 112 [K1u s0,I a1,I b2] (I r) []
theorem K9m : ∀ p r,K9k p = some r → K9l p r := by
 rintro ⟨s0,a1,b2⟩ r h
 unfold K9k at h
 refine b0 Tryz.f112 K3f 17 [(0,K1u s0),(1,I a1),(2,I b2)] fun c hc => ?_
 refine rs hc none [some (.new 1),oN] [(1,I a1),(2,I b2),(3,.ra 1 0)] [(1,K1t s0)] tv ?_
 obtain ⟨a0,a2,h⟩ := Qdd h
 refine rs hc none [oN,oN,oN,oN,oN,oN,oN,oN,some (.el (I a0)),oN,oN] [(6,I a0)] [] (ai (ix a2) tv) ?_
 refine rt ?_
 obtain rfl := os h
 exact rq [true]
def K9n (p : K00 × Int × Int) : Option (Bool) :=
 match p with
 | (s0,a1,b2) =>
  (idx s0.fBelow (wr ((wr (a1 * s0.fSize)) + b2))) >>= fun a0 =>
  some a0
def K9o (p : K00 × Int × Int) (r : Bool) : Prop :=
 match p with
 | (s0,a1,b2) => Q71 Tryz.prog 99 [K1u s0,I a1,I b2] (.bool r) []
theorem K9p : ∀ p r,K9n p = some r → K9o p r := by
 rintro ⟨s0,a1,b2⟩ r h
 unfold K9n at h
 refine b0 Tryz.f99 B99 17 [(0,K1u s0),(1,I a1),(2,I b2)] fun c hc => ?_
 refine rs hc none [some (.new 1),oN] [(1,I a1),(2,I b2),(3,.ra 1 0)] [(1,K1t s0)] tv ?_
 obtain ⟨a0,a2,h⟩ := Qdd h
 refine rs hc none [oN,oN,oN,oN,oN,oN,oN,oN,some (.el (.bool a0)),oN,oN] [(6,.bool a0)] [] (ai (Qdh (enc := AV.bool) (x := .bool a0) a2 (Qdu a0)) tv) ?_
 refine rt ?_
 obtain rfl := os h
 exact rq [true]
def K9q : Option (List (List Nat)) := rh [0,0,0,3,0,0,0,7,8,9,10,10,12,13,14,14,14,17,18,19,20,21,21,21,24,25,26,27,28,29,29,29,32,33,34,35]
def K9r : Option (List (List Nat)) := rx [[0],[0],[0],[0],[0,1,2,3],[0],[6],[0],[0],[0],[0],[0],[7,9,10,11],[13],[14],[15],[16],[16],[16],[16],[16,17,18,19],[16],[22],[16],[16],[16],[16],[16],[23,25,26,27],[29],[30],[31]]
def K9s : Option (List (List Nat)) := rx [[0],[0],[0],[0],[0],[0,2,3,4],[6],[0],[0],[0],[0],[7,8,9,10],[0],[0],[0],[7,8,9,10,11,12,13,14],[16],[17],[18],[19],[19],[19],[19],[19,20,21,22],[19],[25],[19],[19],[19],[19],[26,27,28,29],[19],[19],[19],[26,27,28,29,30,31,32,33],[35],[36],[37]]
def K9t : Option (List (List Nat)) := rx [[0],[0],[0],[0],[0,1,2,3],[0],[0],[0],[0,1,2,3,4,5,6,7],[9],[10],[11],[11],[11],[11],[11,12,13,14],[11],[11],[11],[11,12,13,14,15,16,17,18],[20],[21],[22],[23],[23],[23],[23],[23,24,25,26],[23],[23],[23],[23,24,25,26,27,28,29,30],[32],[33],[34]]
def K9u (p : K00 × Int) : Option (Bool) :=
 match p with
 | (s0,a1) =>
  ((
  (K9h (s0,0,a1)) >>= fun a0 =>
  if (a0 == a1) = true then
  (K9k (s0,1,a1)) >>= fun a2 =>
  if (a2 == a1) = true then
  (K9k (s0,a1,1)) >>= fun a3 =>
  if (a3 == a1) = true then
  (K9k (s0,0,a1)) >>= fun a4 =>
  if (a4 == 0) = true then
  (K9k (s0,a1,0)) >>= fun a5 =>
  if (a5 == 0) = true then
  (K9n (s0,a1,a1)) >>= fun a6 =>
  some (a6)
  else
  some (false)
  else
  some (false)
  else
  some (false)
  else
  some (false)
  else
  some (false)
  ) : Option (Bool)) >>= fun a7 =>
  some a7
def K9v (p : K00 × Int) (r : Bool) : Prop :=
 match p with
 | (s0,a1) => Q71 Tryz.prog 134 [K1u s0,I a1] (.bool r) []
theorem K9w : ∀ p r,K9u p = some r → K9v p r := by
 rintro ⟨s0,a1⟩ r h
 unfold K9u at h
 refine b0 Tryz.f134 K3i 42 [(0,K1u s0),(1,I a1)] fun c hc => ?_
 refine rs hc none [some (.new 1),oN] [(1,I a1),(2,.ra 1 0)] [(1,K1t s0)] tv ?_
 refine sN ?_
 obtain ⟨a0,a2,h⟩ := Qdd h
 refine Wp.into (x := .normal) (mkS [(4,.bool a0)] []) ?_ ?_
 ·replace h := a2
  obtain ⟨a3,a4,h⟩ := Qdd h
  rcases is h with ⟨a5,h⟩ | ⟨a5,h⟩
  ·obtain ⟨a6,a7,h⟩ := Qdd h
   rcases is h with ⟨a8,h⟩ | ⟨a8,h⟩
   ·obtain ⟨a9,b1,h⟩ := Qdd h
    rcases is h with ⟨b2,h⟩ | ⟨b2,h⟩
    ·obtain ⟨b3,b4,h⟩ := Qdd h
     rcases is h with ⟨b5,h⟩ | ⟨b5,h⟩
     ·obtain ⟨b6,b7,h⟩ := Qdd h
      rcases is h with ⟨b8,h⟩ | ⟨b8,h⟩
      ·obtain ⟨b9,c0,h⟩ := Qdd h
       refine rg hc none [oN,oN,oc (I a3),oN,oN,oN,oN,oN,oc (I a6),oN,oN,oT,oN,oN,oN,oc (I a9),oN,oN,oT,oN,oN,oN,oc (I b3),oN,oT,oN,oN,oN,oc (I b6),oN,oT,oN,oN,oN,oN,oc (.bool b9),oT,oN] [(4,.bool b9)] [] (cq (K9j _ _ a4) K3e (ar 3 a5 (cq (K9m _ _ a7) K3g (ar 3 a5 (ar 3 a8 (cq (K9m _ _ b1) K3g (ar 3 a8 (ar 3 b2 (cq (K9m _ _ b4) K3g (ar 2 b2 (ar 3 b5 (cq (K9m _ _ b7) K3g (ar 2 b5 (ar 4 b8 (cq (K9p _ _ c0) K3h (ai b8 tv)))))))))))))))) ?_
       obtain rfl := os h
       exact Qcz.mk
      refine rg hc none [oN,oN,oc (I a3),oN,oN,oN,oN,oN,oc (I a6),oN,oN,oT,oN,oN,oN,oc (I a9),oN,oN,oT,oN,oN,oN,oc (I b3),oN,oT,oN,oN,oN,oc (I b6),oN,oT,oN,o_,o_,o_,o_,oF,oN] [(4,.bool false)] [] (cq (K9j _ _ a4) K3e (ar 3 a5 (cq (K9m _ _ a7) K3g (ar 3 a5 (ar 3 a8 (cq (K9m _ _ b1) K3g (ar 3 a8 (ar 3 b2 (cq (K9m _ _ b4) K3g (ar 2 b2 (ar 3 b5 (cq (K9m _ _ b7) K3g (ar 2 b5 (ar 4 (neT b8) (ai b8 tv))))))))))))))) ?_
      obtain rfl := os h
      exact Qcz.mk
     refine rg hc none [oN,oN,oc (I a3),oN,oN,oN,oN,oN,oc (I a6),oN,oN,oT,oN,oN,oN,oc (I a9),oN,oN,oT,oN,oN,oN,oc (I b3),oN,oT,oN,o_,o_,o_,o_,oF,oN,o_,o_,o_,o_,oF,oN] [(4,.bool false)] [] (cq (K9j _ _ a4) K3e (ar 3 a5 (cq (K9m _ _ a7) K3g (ar 3 a5 (ar 3 a8 (cq (K9m _ _ b1) K3g (ar 3 a8 (ar 3 b2 (cq (K9m _ _ b4) K3g (ar 2 b2 (ar 4 (neT b5) (ai b5 (ar 4 (neT (rfl : false = false)) (ai (rfl : false = false) tv)))))))))))))) ?_
     obtain rfl := os h
     exact Qcz.mk
    refine rg hc none [oN,oN,oc (I a3),oN,oN,oN,oN,oN,oc (I a6),oN,oN,oT,oN,oN,oN,oc (I a9),oN,oN,oT,oN,o_,o_,o_,o_,oF,oN,o_,o_,o_,o_,oF,oN,o_,o_,o_,o_,oF,oN] [(4,.bool false)] [] (cq (K9j _ _ a4) K3e (ar 3 a5 (cq (K9m _ _ a7) K3g (ar 3 a5 (ar 3 a8 (cq (K9m _ _ b1) K3g (ar 3 a8 (ar 4 (neT b2) (ai b2 (ar 4 (neT (rfl : false = false)) (ai (rfl : false = false) (ar 4 (neT (rfl : false = false)) (ai (rfl : false = false) tv))))))))))))) ?_
    obtain rfl := os h
    exact Qcz.mk
   refine rg hc none [oN,oN,oc (I a3),oN,oN,oN,oN,oN,oc (I a6),oN,oN,oT,oN,o_,o_,o_,o_,o_,oF,oN,o_,o_,o_,o_,oF,oN,o_,o_,o_,o_,oF,oN,o_,o_,o_,o_,oF,oN] [(4,.bool false)] [] (cq (K9j _ _ a4) K3e (ar 3 a5 (cq (K9m _ _ a7) K3g (ar 3 a5 (ar 5 (neT a8) (ai a8 (ar 4 (neT (rfl : false = false)) (ai (rfl : false = false) (ar 4 (neT (rfl : false = false)) (ai (rfl : false = false) (ar 4 (neT (rfl : false = false)) (ai (rfl : false = false) tv)))))))))))) ?_
   obtain rfl := os h
   exact Qcz.mk
  refine rg hc none [oN,oN,oc (I a3),oN,oN,oN,o_,o_,o_,o_,o_,oF,oN,o_,o_,o_,o_,o_,oF,oN,o_,o_,o_,o_,oF,oN,o_,o_,o_,o_,oF,oN,o_,o_,o_,o_,oF,oN] [(4,.bool false)] [] (cq (K9j _ _ a4) K3e (ar 5 (neT a5) (ai a5 (ar 5 (neT (rfl : false = false)) (ai (rfl : false = false) (ar 4 (neT (rfl : false = false)) (ai (rfl : false = false) (ar 4 (neT (rfl : false = false)) (ai (rfl : false = false) (ar 4 (neT (rfl : false = false)) (ai (rfl : false = false) tv))))))))))) ?_
  obtain rfl := os h
  exact Qcz.mk
 clear a2
 refine rt ?_
 obtain rfl := os h
 exact rq [true]
def K9x (c : Ctx) (s0 : K00) (a1 : Int) (b2 : Int) (a0 : Int) : Bool → Exit → Q0a → Prop
 | a2 => Qcz c (.exit 2) (mkS [(1,I a1),(2,I b2),(3,.ra 1 0),(7,I a0),(8,.bool a2)] [(1,K1t s0)])
def K9y (p : K00 × Int × Int × Int × Bool × Int) : Option (Bool) :=
 match p with
 | (s0,a1,b2,a0,a2,a3) =>
  ((
  if (decide (a3 < s0.fSize)) = true then
  some (a2)
  else
  some (false)
  ) : Option (Bool)) >>= fun a4 =>
  if a4 = true then
  ((
  (K9n (s0,a1,a3)) >>= fun a5 =>
  if a5 = true then
  (K9n (s0,b2,a3)) >>= fun a6 =>
  if a6 = true then
  (K9n (s0,a0,a3)) >>= fun a7 =>
  some (a7)
  else
  some (true)
  else
  some (true)
  ) : Option (Bool)) >>= fun a8 =>
  K9y (s0,a1,b2,a0,a8,(wr (a3 + 1)))
  else
  some (a2)
 partial_fixpoint
def K9z (p : K00 × Int × Int × Int × Bool × Int) (fl : Bool) : Prop :=
 match p with
 | (s0,a1,b2,a0,a2,a3) => ∀ c : Ctx,c.nt = 55 → WpL Tryz.prog c (cl (cl (cr (cl (cr (cl (cl (cr (cl (cl (cr (cl (cr K3k))))))))))))) (K9x c s0 a1 b2 a0 fl) (mkS [(1,I a1),(2,I b2),(3,.ra 1 0),(7,I a0),(8,.bool a2),(9,I a3)] [(1,K1t s0)])
theorem Ka0 : ∀ p r,K9y p = some r → K9z p r := by
 refine K9y.partial_correctness K9z ?_
 rintro spec_l1Join_l0_f spec_l1Join_l0_ih ⟨s0,a1,b2,a0,a2,a3⟩ r h
 intro c hc
 refine WpL.step ?_
 refine sN ?_
 refine sN ?_
 obtain ⟨a4,a5,h⟩ := Qdd h
 refine Wp.into (x := .normal) (mkS [(1,I a1),(2,I b2),(3,.ra 1 0),(7,I a0),(8,.bool a2),(9,I a3),(32,.bool a4)] [(1,K1t s0)]) ?_ ?_
 ·replace h := a5
  rcases is h with ⟨a6,h⟩ | ⟨a6,h⟩
  ·refine rgs hc none [oN,oN,oN,oN,oN,oN,oT] [(1,I a1),(2,I b2),(3,.ra 1 0),(7,I a0),(8,.bool a2),(9,I a3),(32,.bool a2)] (ar 2 a6 tv) ?_
   obtain rfl := os h
   exact Qcz.mk
  refine rgs hc none [oN,oN,oN,oN,oN,o_,oF] [(1,I a1),(2,I b2),(3,.ra 1 0),(7,I a0),(8,.bool a2),(9,I a3),(32,.bool false)] (ab (neT a6) a6 tv) ?_
  obtain rfl := os h
  exact Qcz.mk
 clear a5
 refine ic h (fun a7 h => ?_) fun a7 h => ?_
 ·refine sk ?_
  refine sN ?_
  refine bk 3 ?_
  obtain ⟨a8,a9,h⟩ := Qdd h
  refine Wp.into (x := .normal) (mkS [(1,I a1),(2,I b2),(3,.ra 1 0),(7,I a0),(8,.bool a8),(9,I a3)] [(1,K1t s0)]) ?_ ?_
  ·replace h := a9
   obtain ⟨b1,b3,h⟩ := Qdd h
   rcases is h with ⟨b4,h⟩ | ⟨b4,h⟩
   ·obtain ⟨b5,b6,h⟩ := Qdd h
    rcases is h with ⟨b7,h⟩ | ⟨b7,h⟩
    ·obtain ⟨b8,b9,h⟩ := Qdd h
     refine rgs hc none [oN,oN,oN,oc (.bool b1),oN,oN,oN,oN,oN,oc (.bool b5),oN,oF,oN,oN,oN,oN,oc (.bool b8),oF,oN] [(1,I a1),(2,I b2),(3,.ra 1 0),(7,I a0),(8,.bool b8),(9,I a3)] (cq (K9p _ _ b3) K3h (ar 4 (nF b4) (cq (K9p _ _ b6) K3h (ar 2 (nF b4) (ar 4 (nF b7) (cq (K9p _ _ b9) K3h (ai (nF b7) tv))))))) ?_
     obtain rfl := os h
     exact Qcz.mk
    refine rgs hc none [oN,oN,oN,oc (.bool b1),oN,oN,oN,oN,oN,oc (.bool b5),oN,oF,oN,o_,o_,o_,o_,oT,oN] [(1,I a1),(2,I b2),(3,.ra 1 0),(7,I a0),(8,.bool true),(9,I a3)] (cq (K9p _ _ b3) K3h (ar 4 (nF b4) (cq (K9p _ _ b6) K3h (ar 2 (nF b4) (ar 4 (neF (nT b7)) (ai (nT b7) tv)))))) ?_
    obtain rfl := os h
    exact Qcz.mk
   refine rgs hc none [oN,oN,oN,oc (.bool b1),oN,oN,o_,o_,o_,o_,o_,oT,oN,o_,o_,o_,o_,oT,oN] [(1,I a1),(2,I b2),(3,.ra 1 0),(7,I a0),(8,.bool true),(9,I a3)] (cq (K9p _ _ b3) K3h (ar 5 (neF (nT b4)) (ai (nT b4) (ar 4 nf (ai tt tv))))) ?_
   obtain rfl := os h
   exact Qcz.mk
  clear a9
  refine K7e hc 3 [(1,I a1),(2,I b2),(3,.ra 1 0),(7,I a0),(8,.bool a8),(9,I (wr (a3 + 1)))] ?_
  refine Qcv ?_
  exact (spec_l1Join_l0_ih _ _ h c hc)
 refine xt 2 ?_
 refine Qcp ?_
 refine Qcw ?_
 obtain rfl := os h
 exact iv []
def Ka1 (c : Ctx) : (Unit) ⊕ (Int) → Exit → Q0a → Prop
 | .inl _ => Qcz c (.exit 0) (mkS [] [])
 | .inr r => Qd8 TIx Tryz.f141 [] (I r)
def Ka2 (p : K00 × Int × Int × Int) : Option ((Unit) ⊕ (Int)) :=
 match p with
 | (s0,a1,b2,a0) =>
  if (decide (a0 < s0.fSize)) = true then
  ((
  (K9n (s0,a1,a0)) >>= fun a2 =>
  if a2 = true then
  (K9n (s0,b2,a0)) >>= fun a3 =>
  some (a3)
  else
  some (false)
  ) : Option (Bool)) >>= fun a4 =>
  (K9y (s0,a1,b2,a0,a4,0)) >>= fun a5 =>
  if a5 = true then
  some (.inr a0)
  else
  Ka2 (s0,a1,b2,(wr (a0 + 1)))
  else
  some (.inl ())
 partial_fixpoint
def Ka3 (p : K00 × Int × Int × Int) (fl : (Unit) ⊕ (Int)) : Prop :=
 match p with
 | (s0,a1,b2,a0) => ∀ c : Ctx,c.nt = 55 → WpL Tryz.prog c (cl (cl (cr (cl (cr K3k))))) (Ka1 c fl) (mkS [(1,I a1),(2,I b2),(3,.ra 1 0),(7,I a0)] [(1,K1t s0)])
theorem Ka4 : ∀ p r,Ka2 p = some r → Ka3 p r := by
 refine Ka2.partial_correctness Ka3 ?_
 rintro spec_l1Join_l1_f spec_l1Join_l1_ih ⟨s0,a1,b2,a0⟩ r h
 intro c hc
 refine WpL.step ?_
 refine sN ?_
 refine K7f hc 4 [(1,I a1),(2,I b2),(3,.ra 1 0),(7,I a0),(13,.bool (decide (a0 < s0.fSize)))] ?_
 refine ic h (fun a2 h => ?_) fun a2 h => ?_
 ·refine sk ?_
  refine sN ?_
  refine bk 1 ?_
  refine sN ?_
  obtain ⟨a3,a4,h⟩ := Qdd h
  refine Wp.into (x := .normal) (mkS [(1,I a1),(2,I b2),(3,.ra 1 0),(7,I a0),(8,.bool a3)] [(1,K1t s0)]) ?_ ?_
  ·replace h := a4
   obtain ⟨a5,a6,h⟩ := Qdd h
   rcases is h with ⟨a7,h⟩ | ⟨a7,h⟩
   ·obtain ⟨a8,a9,h⟩ := Qdd h
    refine rgs hc none [oN,oN,oN,oc (.bool a5),oN,oN,oN,oN,oc (.bool a8),oT,oN] [(1,I a1),(2,I b2),(3,.ra 1 0),(7,I a0),(8,.bool a8)] (cq (K9p _ _ a6) K3h (ar 4 a7 (cq (K9p _ _ a9) K3h (ai a7 tv)))) ?_
    obtain rfl := os h
    exact Qcz.mk
   refine rgs hc none [oN,oN,oN,oc (.bool a5),oN,o_,o_,o_,o_,oF,oN] [(1,I a1),(2,I b2),(3,.ra 1 0),(7,I a0),(8,.bool false)] (cq (K9p _ _ a6) K3h (ar 4 (neT a7) (ai a7 tv))) ?_
   obtain rfl := os h
   exact Qcz.mk
  clear a4
  refine sN ?_
  refine K7f hc 1 [(1,I a1),(2,I b2),(3,.ra 1 0),(7,I a0),(8,.bool a3),(9,I 0)] ?_
  refine bk 2 ?_
  obtain ⟨b1,b3,h⟩ := Qdd h
  have hL := Ka0 _ _ b3 c hc
  refine lp ?_
  refine WpL.into (e := (.exit 2)) (mkS [(1,I a1),(2,I b2),(3,.ra 1 0),(7,I a0),(8,.bool b1)] [(1,K1t s0)]) hL ?_
  refine Qcr ?_
  refine K7f hc 1 [(1,I a1),(2,I b2),(3,.ra 1 0),(7,I a0),(53,.bool b1)] ?_
  refine ic h (fun b4 h => ?_) fun b4 h => ?_
  ·refine rs0 hc 2 [(6,I a0)] [] ?_
   refine rt ?_
   obtain rfl := os h
   exact re [true]
  refine sk ?_
  refine K7e hc 3 [(1,I a1),(2,I b2),(3,.ra 1 0),(7,I (wr (a0 + 1)))] ?_
  refine Qcv ?_
  exact (spec_l1Join_l1_ih _ _ h c hc)
 refine xt 0 ?_
 refine Qcp ?_
 refine Qcw ?_
 obtain rfl := os h
 exact iv []
def Ka5 (p : K00 × Int × Int) : Option (Int) :=
 match p with
 | (s0,a1,b2) =>
  (Ka2 (s0,a1,b2,0)) >>= fun fl => match fl with
  | .inl () =>
   some (-1)
  | .inr r =>
   some r
def Ka6 (p : K00 × Int × Int) (r : Int) : Prop :=
 match p with
 | (s0,a1,b2) => Q71 Tryz.prog 141 [K1u s0,I a1,I b2] (I r) []
theorem Ka7 : ∀ p r,Ka5 p = some r → Ka6 p r := by
 rintro ⟨s0,a1,b2⟩ r h
 unfold Ka5 at h
 refine b0 Tryz.f141 K3k 55 [(0,K1u s0),(1,I a1),(2,I b2)] fun c hc => ?_
 refine rs hc none [some (.new 1),oN] [(1,I a1),(2,I b2),(3,.ra 1 0)] [(1,K1t s0)] tv ?_
 refine sN ?_
 refine K7f hc 1 [(1,I a1),(2,I b2),(3,.ra 1 0),(7,I 0)] ?_
 refine bk 0 ?_
 obtain ⟨fl,a0,h⟩ := Qdd h
 have hL := Ka4 _ _ a0 c hc
 refine lp ?_
 rcases fl with ⟨⟩ | r
 ·refine WpL.into (e := (.exit 0)) (mkS [] []) hL ?_
  refine Qcr ?_
  refine rs0 hc 1 [(6,I (-1))] [] ?_
  refine rt ?_
  obtain rfl := os h
  exact rq [true]
 refine WpL.mono hL ?_
 rintro _ _ ⟨rfl,hfin⟩
 obtain rfl := os h
 exact ⟨.inl rfl,hfin⟩
def Ka8 (p : K00 × Int × Int) : Option (Bool) :=
 match p with
 | (s0,a1,b2) =>
  ((
  (K9h (s0,a1,b2)) >>= fun a0 =>
  (K9h (s0,b2,a1)) >>= fun a2 =>
  if (a0 == a2) = true then
  if (a1 == b2) = true then
  (Ka5 (s0,a1,b2)) >>= fun a3 =>
  some ((decide (a3 ≥ 0)))
  else
  (K9n (s0,a1,b2)) >>= fun a4 =>
  if a4 = true then
  (K9n (s0,b2,a1)) >>= fun a5 =>
  if a5 = true then
  some (false)
  else
  (Ka5 (s0,a1,b2)) >>= fun a3 =>
  some ((decide (a3 ≥ 0)))
  else
  (Ka5 (s0,a1,b2)) >>= fun a3 =>
  some ((decide (a3 ≥ 0)))
  else
  some (false)
  ) : Option (Bool)) >>= fun a6 =>
  some a6
def Ka9 (p : K00 × Int × Int) (r : Bool) : Prop :=
 match p with
 | (s0,a1,b2) => Q71 Tryz.prog 135 [K1u s0,I a1,I b2] (.bool r) []
theorem Kaa : ∀ p r,Ka8 p = some r → Ka9 p r := by
 rintro ⟨s0,a1,b2⟩ r h
 unfold Ka8 at h
 refine b0 Tryz.f135 K3m 42 [(0,K1u s0),(1,I a1),(2,I b2)] fun c hc => ?_
 refine rs hc none [some (.new 1),oN] [(1,I a1),(2,I b2),(3,.ra 1 0)] [(1,K1t s0)] tv ?_
 refine sN ?_
 obtain ⟨a0,a2,h⟩ := Qdd h
 refine Wp.into (x := .normal) (mkS [(6,.bool a0)] []) ?_ ?_
 ·replace h := a2
  obtain ⟨a3,a4,a5,a6,h⟩ := bq2 h
  rcases is h with ⟨a7,h⟩ | ⟨a7,h⟩
  ·rcases is h with ⟨a8,h⟩ | ⟨a8,h⟩
   ·obtain ⟨a9,b1,h⟩ := Qdd h
    refine rg hc K9q [oN,oN,oN,oc (I a3),oN,oN,oN,oc (I a5),oN,oN,oN,oN,oN,oN,o_,o_,o_,o_,o_,oT,oN,o_,o_,o_,o_,o_,oT,oT,oN,oN,oN,oN,oc (I a9),oN,oT,oN] [(6,.bool (decide (a9 ≥ 0)))] [] (cq (K9j _ _ a4) K3e (cq (K9j _ _ a6) K3e (ar 4 a7 (ar 5 (neF a8) (ac a7 a8 a7 (ar 5 nf (ac a7 tt a7 (ar 4 tt (cq (Ka7 _ _ b1) K3l (ar 2 tt tv)))))))))) ?_
    obtain rfl := os h
    exact Qcz.mk
   obtain ⟨b3,b4,h⟩ := Qdd h
   rcases is h with ⟨b5,h⟩ | ⟨b5,h⟩
   ·obtain ⟨b6,b7,h⟩ := Qdd h
    rcases is h with ⟨b8,h⟩ | ⟨b8,h⟩
    ·refine rg hc K9q [oN,oN,oN,oc (I a3),oN,oN,oN,oc (I a5),oN,oN,oN,oN,oN,oN,oN,oN,oN,oc (.bool b3),oN,oF,oN,oN,oN,oN,oc (.bool b6),oN,oF,oT,oN,o_,o_,o_,o_,o_,oF,oN] [(6,.bool false)] [] (cq (K9j _ _ a4) K3e (cq (K9j _ _ a6) K3e (ar 4 a7 (ar 4 a8 (cq (K9p _ _ b4) K3h (ad a8 a7 a8 a7 (ar 4 (nF b5) (cq (K9p _ _ b7) K3h (ad (nF b5) a7 (nF b5) a7 (ar 5 (neT (nF b8)) (ai (nF b8) tv))))))))))) ?_
     obtain rfl := os h
     exact Qcz.mk
    obtain ⟨a9,b1,h⟩ := Qdd h
    refine rg hc K9q [oN,oN,oN,oc (I a3),oN,oN,oN,oc (I a5),oN,oN,oN,oN,oN,oN,oN,oN,oN,oc (.bool b3),oN,oF,oN,oN,oN,oN,oc (.bool b6),oN,oF,oT,oN,oN,oN,oN,oc (I a9),oN,oT,oN] [(6,.bool (decide (a9 ≥ 0)))] [] (cq (K9j _ _ a4) K3e (cq (K9j _ _ a6) K3e (ar 4 a7 (ar 4 a8 (cq (K9p _ _ b4) K3h (ad a8 a7 a8 a7 (ar 4 (nF b5) (cq (K9p _ _ b7) K3h (ad (nF b5) a7 (nF b5) a7 (ar 4 (nT b8) (cq (Ka7 _ _ b1) K3l (ar 2 (nT b8) tv)))))))))))) ?_
    obtain rfl := os h
    exact Qcz.mk
   obtain ⟨a9,b1,h⟩ := Qdd h
   refine rg hc K9q [oN,oN,oN,oc (I a3),oN,oN,oN,oc (I a5),oN,oN,oN,oN,oN,oN,oN,oN,oN,oc (.bool b3),oN,oF,oN,o_,o_,o_,o_,o_,oT,oT,oN,oN,oN,oN,oc (I a9),oN,oT,oN] [(6,.bool (decide (a9 ≥ 0)))] [] (cq (K9j _ _ a4) K3e (cq (K9j _ _ a6) K3e (ar 4 a7 (ar 4 a8 (cq (K9p _ _ b4) K3h (ad a8 a7 a8 a7 (ar 5 (neF (nT b5)) (ac a7 (nT b5) a7 (ar 4 tt (cq (Ka7 _ _ b1) K3l (ar 2 tt tv))))))))))) ?_
   obtain rfl := os h
   exact Qcz.mk
  refine rg hc K9q [oN,oN,oN,oc (I a3),oN,oN,oN,oc (I a5),oN,oN,o_,o_,o_,o_,o_,o_,o_,o_,o_,o_,o_,o_,o_,o_,o_,o_,o_,oF,oN,o_,o_,o_,o_,o_,oF,oN] [(6,.bool false)] [] (cq (K9j _ _ a4) K3e (cq (K9j _ _ a6) K3e (ar 7 (neT a7) (ai a7 (ar 5 (neT (rfl : false = false)) (ai (rfl : false = false) tv)))))) ?_
  obtain rfl := os h
  exact Qcz.mk
 clear a2
 refine rt ?_
 obtain rfl := os h
 exact rq [true]
def Kab (p : K00 × Int × Int × Int) : Option (Bool) :=
 match p with
 | (s0,a1,b2,c3) =>
  ((
  (K9h (s0,a1,b2)) >>= fun a0 =>
  (K9h (s0,a0,c3)) >>= fun a2 =>
  (K9h (s0,b2,c3)) >>= fun a3 =>
  (K9h (s0,a1,a3)) >>= fun a4 =>
  if (a2 != a4) = true then
  some (true)
  else
  (K9k (s0,a1,b2)) >>= fun a5 =>
  (K9k (s0,a5,c3)) >>= fun a6 =>
  (K9k (s0,b2,c3)) >>= fun a7 =>
  (K9k (s0,a1,a7)) >>= fun a8 =>
  some ((a6 != a8))
  ) : Option (Bool)) >>= fun a9 =>
  if a9 = true then
  some false
  else
  ((
  (K9h (s0,b2,c3)) >>= fun b1 =>
  (K9k (s0,a1,b1)) >>= fun b3 =>
  (K9k (s0,a1,b2)) >>= fun b4 =>
  (K9k (s0,a1,c3)) >>= fun b5 =>
  (K9h (s0,b4,b5)) >>= fun b6 =>
  if (b3 != b6) = true then
  some (true)
  else
  (K9h (s0,a1,b2)) >>= fun b7 =>
  (K9k (s0,b7,c3)) >>= fun b8 =>
  (K9k (s0,a1,c3)) >>= fun b9 =>
  (K9k (s0,b2,c3)) >>= fun c0 =>
  (K9h (s0,b9,c0)) >>= fun c1 =>
  some ((b8 != c1))
  ) : Option (Bool)) >>= fun c2 =>
  if c2 = true then
  some false
  else
  (K9n (s0,a1,b2)) >>= fun c4 =>
  if c4 = true then
  ((
  (K9n (s0,b2,c3)) >>= fun c5 =>
  if c5 = true then
  (K9n (s0,a1,c3)) >>= fun c6 =>
  some ((!c6))
  else
  some (false)
  ) : Option (Bool)) >>= fun c7 =>
  if c7 = true then
  some false
  else
  ((
  (K9h (s0,a1,c3)) >>= fun c8 =>
  (K9h (s0,b2,c3)) >>= fun c9 =>
  (K9n (s0,c8,c9)) >>= fun d0 =>
  if d0 = true then
  (K9k (s0,a1,c3)) >>= fun d1 =>
  (K9k (s0,b2,c3)) >>= fun d2 =>
  (K9n (s0,d1,d2)) >>= fun d3 =>
  if d3 = true then
  (K9k (s0,c3,a1)) >>= fun d4 =>
  (K9k (s0,c3,b2)) >>= fun d5 =>
  (K9n (s0,d4,d5)) >>= fun d6 =>
  some (d6)
  else
  some (false)
  else
  some (false)
  ) : Option (Bool)) >>= fun d7 =>
  some d7
  else
  some true
def Kac (p : K00 × Int × Int × Int) (r : Bool) : Prop :=
 match p with
 | (s0,a1,b2,c3) => Q71 Tryz.prog 136 [K1u s0,I a1,I b2,I c3] (.bool r) []
theorem Kad : ∀ p r,Kab p = some r → Kac p r := by
 rintro ⟨s0,a1,b2,c3⟩ r h
 unfold Kab at h
 refine b0 Tryz.f136 K3o 129 [(0,K1u s0),(1,I a1),(2,I b2),(3,I c3)] fun c hc => ?_
 refine rs hc none [some (.new 1),oN] [(1,I a1),(2,I b2),(3,I c3),(4,.ra 1 0)] [(1,K1t s0)] tv ?_
 refine sN ?_
 refine sN ?_
 obtain ⟨a0,a2,h⟩ := Qdd h
 refine Wp.into (x := .normal) (mkS [(1,I a1),(2,I b2),(3,I c3),(4,.ra 1 0),(40,.bool a0)] [(1,K1t s0)]) ?_ ?_
 ·replace h := a2
  obtain ⟨a3,a4,a5,a6,a7,a8,a9,b1,h⟩ := bq4 h
  rcases is h with ⟨b3,h⟩ | ⟨b3,h⟩
  ·refine rgs hc K9r [oN,oN,oN,oN,oc (I a3),oN,oc (I a5),oN,oN,oN,oN,oN,oc (I a7),oc (I a9),oN,oN,o_,o_,o_,o_,o_,o_,o_,o_,o_,o_,o_,o_,o_,o_,o_,oT] [(1,I a1),(2,I b2),(3,I c3),(4,.ra 1 0),(40,.bool true)] (cq (K9j _ _ a4) K3e (cq (K9j _ _ a6) K3e (cq (K9j _ _ a8) K3e (cq (K9j _ _ b1) K3e (ar 15 (neF b3) (ai b3 tv)))))) ?_
   obtain rfl := os h
   exact Qcz.mk
  obtain ⟨b4,b5,b6,b7,b8,b9,c0,c1,h⟩ := bq4 h
  refine rgs hc K9r [oN,oN,oN,oN,oc (I a3),oN,oc (I a5),oN,oN,oN,oN,oN,oc (I a7),oc (I a9),oN,oN,oN,oN,oN,oN,oc (I b4),oN,oc (I b6),oN,oN,oN,oN,oN,oc (I b8),oc (I c0),oN,oF] [(1,I a1),(2,I b2),(3,I c3),(4,.ra 1 0),(40,.bool (b6 != c0))] (cq (K9j _ _ a4) K3e (cq (K9j _ _ a6) K3e (cq (K9j _ _ a8) K3e (cq (K9j _ _ b1) K3e (ar 5 b3 (cq (K9m _ _ b5) K3g (ar 2 b3 (cq (K9m _ _ b7) K3g (ar 6 b3 (cq (K9m _ _ b9) K3g (ai b3 (cq (K9m _ _ c1) K3g (ar 2 b3 tv))))))))))))) ?_
  obtain rfl := os h
  exact Qcz.mk
 clear a2
 refine ic h (fun c2 h => ?_) fun c2 h => ?_
 ·refine rs0 hc 1 [(8,.bool false)] [] ?_
  refine rt ?_
  obtain rfl := os h
  exact rq [true]
 refine sk ?_
 refine sN ?_
 refine sN ?_
 obtain ⟨c4,c5,h⟩ := Qdd h
 refine Wp.into (x := .normal) (mkS [(1,I a1),(2,I b2),(3,I c3),(4,.ra 1 0),(78,.bool c4)] [(1,K1t s0)]) ?_ ?_
 ·replace h := c5
  obtain ⟨c6,c7,c8,c9,d0,d1,d2,d3,h⟩ := bq4 h
  obtain ⟨d4,d5,h⟩ := Qdd h
  rcases is h with ⟨d6,h⟩ | ⟨d6,h⟩
  ·refine rgs hc K9s [oN,oN,oN,oN,oN,oc (I c6),oc (I c8),oN,oN,oN,oN,oc (I d0),oN,oN,oN,oc (I d2),oc (I d4),oN,oN,o_,o_,o_,o_,o_,o_,o_,o_,o_,o_,o_,o_,o_,o_,o_,o_,o_,o_,oT] [(1,I a1),(2,I b2),(3,I c3),(4,.ra 1 0),(78,.bool true)] (cq (K9j _ _ c7) K3e (cq (K9m _ _ c9) K3g (cq (K9m _ _ d1) K3g (cq (K9m _ _ d3) K3g (cq (K9j _ _ d5) K3e (ar 18 (neF d6) (ai d6 tv))))))) ?_
   obtain rfl := os h
   exact Qcz.mk
  obtain ⟨d7,d8,d9,e0,e1,e2,e3,e4,h⟩ := bq4 h
  obtain ⟨e5,e6,h⟩ := Qdd h
  refine rgs hc K9s [oN,oN,oN,oN,oN,oc (I c6),oc (I c8),oN,oN,oN,oN,oc (I d0),oN,oN,oN,oc (I d2),oc (I d4),oN,oN,oN,oN,oN,oN,oc (I d7),oN,oc (I d9),oN,oN,oN,oN,oc (I e1),oN,oN,oN,oc (I e3),oc (I e5),oN,oF] [(1,I a1),(2,I b2),(3,I c3),(4,.ra 1 0),(78,.bool (d9 != e5))] (cq (K9j _ _ c7) K3e (cq (K9m _ _ c9) K3g (cq (K9m _ _ d1) K3g (cq (K9m _ _ d3) K3g (cq (K9j _ _ d5) K3e (ar 5 d6 (cq (K9j _ _ d8) K3e (ar 2 d6 (cq (K9m _ _ e0) K3g (ar 5 d6 (cq (K9m _ _ e2) K3g (ar 4 d6 (cq (K9m _ _ e4) K3g (ai d6 (cq (K9j _ _ e6) K3e (ar 2 d6 tv)))))))))))))))) ?_
  obtain rfl := os h
  exact Qcz.mk
 clear c5
 refine ic h (fun e7 h => ?_) fun e7 h => ?_
 ·refine rs0 hc 1 [(8,.bool false)] [] ?_
  refine rt ?_
  obtain rfl := os h
  exact rq [true]
 refine sk ?_
 refine sN ?_
 obtain ⟨e8,e9,h⟩ := Qdd h
 refine rss hc none [oN,oN,oN,oc (.bool e8),oN] [(1,I a1),(2,I b2),(3,I c3),(4,.ra 1 0),(83,.bool (!e8))] (cq (K9p _ _ e9) K3h tv) ?_
 rcases is h with ⟨f0,h⟩ | ⟨f0,h⟩
 ·refine cF (!e8) (nF f0) ?_
  refine sk ?_
  refine sN ?_
  refine sN ?_
  obtain ⟨f1,f2,h⟩ := Qdd h
  refine Wp.into (x := .normal) (mkS [(1,I a1),(2,I b2),(3,I c3),(4,.ra 1 0),(94,.bool f1)] [(1,K1t s0)]) ?_ ?_
  ·replace h := f2
   obtain ⟨f3,f4,h⟩ := Qdd h
   rcases is h with ⟨f5,h⟩ | ⟨f5,h⟩
   ·obtain ⟨f6,f7,h⟩ := Qdd h
    refine rgs hc none [oN,oN,oN,oc (.bool f3),oN,oN,oN,oN,oc (.bool f6),oN,oT] [(1,I a1),(2,I b2),(3,I c3),(4,.ra 1 0),(94,.bool (!f6))] (cq (K9p _ _ f4) K3h (ar 4 f5 (cq (K9p _ _ f7) K3h (ar 2 f5 tv)))) ?_
    obtain rfl := os h
    exact Qcz.mk
   refine rgs hc none [oN,oN,oN,oc (.bool f3),oN,o_,o_,o_,o_,o_,oF] [(1,I a1),(2,I b2),(3,I c3),(4,.ra 1 0),(94,.bool false)] (cq (K9p _ _ f4) K3h (ar 5 (neT f5) (ai f5 tv))) ?_
   obtain rfl := os h
   exact Qcz.mk
  clear f2
  refine ic h (fun f8 h => ?_) fun f8 h => ?_
  ·refine rs0 hc 1 [(8,.bool false)] [] ?_
   refine rt ?_
   obtain rfl := os h
   exact rq [true]
  refine sk ?_
  refine sN ?_
  obtain ⟨f9,g0,h⟩ := Qdd h
  refine Wp.into (x := .normal) (mkS [(8,.bool f9)] []) ?_ ?_
  ·replace h := g0
   obtain ⟨g1,g2,g3,g4,g5,g6,h⟩ := bq3 h
   rcases is h with ⟨g7,h⟩ | ⟨g7,h⟩
   ·obtain ⟨g8,g9,i0,i1,i2,i3,h⟩ := bq3 h
    rcases is h with ⟨i4,h⟩ | ⟨i4,h⟩
    ·obtain ⟨i5,i6,i7,i8,i9,j0,h⟩ := bq3 h
     refine rg hc K9t [oN,oN,oN,oN,oc (I g1),oN,oN,oN,oc (I g3),oc (.bool g5),oN,oN,oN,oN,oN,oc (I g8),oN,oN,oN,oc (I i0),oc (.bool i2),oT,oN,oN,oN,oN,oN,oc (I i5),oN,oN,oN,oc (I i7),oc (.bool i9),oT,oN] [(8,.bool i9)] [] (cq (K9j _ _ g2) K3e (cq (K9j _ _ g4) K3e (cq (K9p _ _ g6) K3h (ar 5 g7 (cq (K9m _ _ g9) K3g (ar 4 g7 (cq (K9m _ _ i1) K3g (ai g7 (cq (K9p _ _ i3) K3h (ai g7 (ar 5 i4 (cq (K9m _ _ i6) K3g (ar 4 i4 (cq (K9m _ _ i8) K3g (ai i4 (cq (K9p _ _ j0) K3h (ai i4 tv))))))))))))))))) ?_
     obtain rfl := os h
     exact Qcz.mk
    refine rg hc K9t [oN,oN,oN,oN,oc (I g1),oN,oN,oN,oc (I g3),oc (.bool g5),oN,oN,oN,oN,oN,oc (I g8),oN,oN,oN,oc (I i0),oc (.bool i2),oT,oN,o_,o_,o_,o_,o_,o_,o_,o_,o_,o_,oF,oN] [(8,.bool false)] [] (cq (K9j _ _ g2) K3e (cq (K9j _ _ g4) K3e (cq (K9p _ _ g6) K3h (ar 5 g7 (cq (K9m _ _ g9) K3g (ar 4 g7 (cq (K9m _ _ i1) K3g (ai g7 (cq (K9p _ _ i3) K3h (ai g7 (ar 10 (neT i4) (ai i4 tv)))))))))))) ?_
    obtain rfl := os h
    exact Qcz.mk
   refine rg hc K9t [oN,oN,oN,oN,oc (I g1),oN,oN,oN,oc (I g3),oc (.bool g5),oN,o_,o_,o_,o_,o_,o_,o_,o_,o_,o_,oF,oN,o_,o_,o_,o_,o_,o_,o_,o_,o_,o_,oF,oN] [(8,.bool false)] [] (cq (K9j _ _ g2) K3e (cq (K9j _ _ g4) K3e (cq (K9p _ _ g6) K3h (ar 10 (neT g7) (ai g7 (ar 10 (neT (rfl : false = false)) (ai (rfl : false = false) tv))))))) ?_
   obtain rfl := os h
   exact Qcz.mk
  clear g0
  refine rt ?_
  obtain rfl := os h
  exact rq [true]
 refine cT (!e8) (nT f0) ?_
 refine rs0 hc 1 [(8,.bool true)] [] ?_
 refine rt ?_
 obtain rfl := os h
 exact rq [true]
def Kae (c : Ctx) (s0 : K00) (a0 : Int) (a1 : Int) : (Unit) ⊕ (Bool) → Exit → Q0a → Prop
 | .inl _ => Qcz c (.exit 4) (mkS [(1,.ra 1 0),(3,I a0),(4,I a1)] [(1,K1t s0)])
 | .inr r => Qd8 TIx Tryz.f89 [] (.bool r)
def Kaf (p : K00 × Int × Int × Int) : Option ((Unit) ⊕ (Bool)) :=
 match p with
 | (s0,a0,a1,a2) =>
  if (decide (a2 < s0.fSize)) = true then
  (Kab (s0,a0,a1,a2)) >>= fun a3 =>
  if a3 = true then
  Kaf (s0,a0,a1,(wr (a2 + 1)))
  else
  some (.inr false)
  else
  some (.inl ())
 partial_fixpoint
def Kag (p : K00 × Int × Int × Int) (fl : (Unit) ⊕ (Bool)) : Prop :=
 match p with
 | (s0,a0,a1,a2) => ∀ c : Ctx,c.nt = 42 → WpL Tryz.prog c (cl (cl (cr (cr (cl (cl (cr (cl (cl (cr (cr (cl (cl (cr (cl (cl (cr (cl (cr (cr B89)))))))))))))))))))) (Kae c s0 a0 a1 fl) (mkS [(1,.ra 1 0),(3,I a0),(4,I a1),(5,I a2)] [(1,K1t s0)])
theorem Kah : ∀ p r,Kaf p = some r → Kag p r := by
 refine Kaf.partial_correctness Kag ?_
 rintro spec_IsSystem_l0_f spec_IsSystem_l0_ih ⟨s0,a0,a1,a2⟩ r h
 intro c hc
 refine WpL.step ?_
 refine sN ?_
 refine K7f hc 4 [(1,.ra 1 0),(3,I a0),(4,I a1),(5,I a2),(33,.bool (decide (a2 < s0.fSize)))] ?_
 refine ic h (fun a3 h => ?_) fun a3 h => ?_
 ·refine sk ?_
  refine sN ?_
  refine bk 5 ?_
  obtain ⟨a4,a5,h⟩ := Qdd h
  refine rss hc none [oN,oN,oN,oN,oc (.bool a4),oN] [(1,.ra 1 0),(3,I a0),(4,I a1),(5,I a2),(41,.bool (!a4))] (cq (Kad _ _ a5) K3p tv) ?_
  rcases is h with ⟨a6,h⟩ | ⟨a6,h⟩
  ·refine cF (!a4) (nF a6) ?_
   refine sk ?_
   refine K7e hc 3 [(1,.ra 1 0),(3,I a0),(4,I a1),(5,I (wr (a2 + 1)))] ?_
   refine Qcv ?_
   exact (spec_IsSystem_l0_ih _ _ h c hc)
  refine cT (!a4) (nT a6) ?_
  refine rs0 hc 1 [(2,.bool false)] [] ?_
  refine rt ?_
  obtain rfl := os h
  exact re [true]
 refine xt 4 ?_
 refine Qcp ?_
 refine Qcw ?_
 obtain rfl := os h
 exact iv []
def Kai (c : Ctx) (s0 : K00) (a0 : Int) : (Unit) ⊕ (Bool) → Exit → Q0a → Prop
 | .inl _ => Qcz c (.exit 2) (mkS [(1,.ra 1 0),(3,I a0)] [(1,K1t s0)])
 | .inr r => Qd8 TIx Tryz.f89 [] (.bool r)
def Kaj (p : K00 × Int × Int) : Option ((Unit) ⊕ (Bool)) :=
 match p with
 | (s0,a0,a1) =>
  if (decide (a1 < s0.fSize)) = true then
  (Ka8 (s0,a0,a1)) >>= fun a2 =>
  if a2 = true then
  (Kaf (s0,a0,a1,0)) >>= fun fl => match fl with
  | .inl () =>
   Kaj (s0,a0,(wr (a1 + 1)))
  | .inr r =>
   some (.inr r)
  else
  some (.inr false)
  else
  some (.inl ())
 partial_fixpoint
def Kak (p : K00 × Int × Int) (fl : (Unit) ⊕ (Bool)) : Prop :=
 match p with
 | (s0,a0,a1) => ∀ c : Ctx,c.nt = 42 → WpL Tryz.prog c (cl (cl (cr (cr (cl (cl (cr (cl (cl (cr (cl (cr (cr B89))))))))))))) (Kai c s0 a0 fl) (mkS [(1,.ra 1 0),(3,I a0),(4,I a1)] [(1,K1t s0)])
theorem Kal : ∀ p r,Kaj p = some r → Kak p r := by
 refine Kaj.partial_correctness Kak ?_
 rintro spec_IsSystem_l1_f spec_IsSystem_l1_ih ⟨s0,a0,a1⟩ r h
 intro c hc
 refine WpL.step ?_
 refine sN ?_
 refine K7f hc 4 [(1,.ra 1 0),(3,I a0),(4,I a1),(22,.bool (decide (a1 < s0.fSize)))] ?_
 refine ic h (fun a2 h => ?_) fun a2 h => ?_
 ·refine sk ?_
  refine sN ?_
  refine bk 3 ?_
  refine sN ?_
  obtain ⟨a3,a4,h⟩ := Qdd h
  refine rss hc none [oN,oN,oN,oc (.bool a3),oN] [(1,.ra 1 0),(3,I a0),(4,I a1),(29,.bool (!a3))] (cq (Kaa _ _ a4) K3n tv) ?_
  rcases is h with ⟨a5,h⟩ | ⟨a5,h⟩
  ·refine cF (!a3) (nF a5) ?_
   refine sk ?_
   refine K7f hc 1 [(1,.ra 1 0),(3,I a0),(4,I a1),(5,I 0)] ?_
   refine bk 4 ?_
   obtain ⟨fl,a6,h⟩ := Qdd h
   have hL := Kah _ _ a6 c hc
   refine lp ?_
   rcases fl with ⟨⟩ | r
   ·refine WpL.into (e := (.exit 4)) (mkS [(1,.ra 1 0),(3,I a0),(4,I a1)] [(1,K1t s0)]) hL ?_
    refine Qcr ?_
    refine K7e hc 3 [(1,.ra 1 0),(3,I a0),(4,I (wr (a1 + 1)))] ?_
    refine Qcv ?_
    exact (spec_IsSystem_l1_ih _ _ h c hc)
   refine WpL.mono hL ?_
   rintro _ _ ⟨rfl,hfin⟩
   obtain rfl := os h
   exact ⟨rfl,hfin⟩
  refine cT (!a3) (nT a5) ?_
  refine rs0 hc 1 [(2,.bool false)] [] ?_
  refine rt ?_
  obtain rfl := os h
  exact re [true]
 refine xt 2 ?_
 refine Qcp ?_
 refine Qcw ?_
 obtain rfl := os h
 exact iv []
def Kam (c : Ctx) : (Unit) ⊕ (Bool) → Exit → Q0a → Prop
 | .inl _ => Qcz c (.exit 0) (mkS [] [])
 | .inr r => Qd8 TIx Tryz.f89 [] (.bool r)
end Go.Am
