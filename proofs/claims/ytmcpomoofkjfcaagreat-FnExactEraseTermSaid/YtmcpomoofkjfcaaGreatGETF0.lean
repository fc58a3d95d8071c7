/- Functions of the program as pure functions,and that it computes them. Printed by a program of mine (gen.py). -/
import Derived.Test.YtmcpomoofkjfcaaGreatGETTi
set_option linter.unusedVariables false
set_option linter.unusedSimpArgs false
set_option maxRecDepth 100000
namespace Go.Am
open Go Go.Proofs
def K8t : Option (List (List Nat)) := rx [[0],[1],[0],[3],[4],[0],[0,5],[0,5,6],[8],[9],[10],[11],[12],[11],[14],[15],[11],[11,16],[11,16,17],[19],[20],[21]]
def K8u (p : (List Int) × Int) : Option (Int) :=
 match p with
 | (a0,left1) =>
  if (decide ((wr (left1 - (a0.length : Int))) < 0)) = true then
  some (-1)
  else
  some (wr (left1 - (a0.length : Int)))
def K8v (p : (List Int) × Int) (r : Int) : Prop :=
 match p with
 | (a0,left1) => Q71 Tryz.prog 69 [sI a0,I left1] (I r) []
theorem K8w : ∀ p r,K8u p = some r → K8v p r := by
 rintro ⟨a0,left1⟩ r h
 unfold K8u at h
 refine b0 Tryz.f69 B69 12 [(0,sI a0),(1,I left1)] fun c hc => ?_
 refine rs0 hc 1 [(0,sI a0),(1,I left1)] [] ?_
 refine rs hc none [oN,oN,some (.eqv (.no) ⟨[(7,I (a0.length : Int))],[],[]⟩),oN,oN] [(1,I (wr (left1 - (a0.length : Int))))] [] (ai (Qcz (d := 7) I a0) tv) ?_
 refine sN ?_
 refine rs0 hc 2 [(1,I (wr (left1 - (a0.length : Int)))),(10,.bool (decide ((wr (left1 - (a0.length : Int))) < 0)))] [] ?_
 refine ic h (fun a1 h => ?_) fun a1 h => ?_
 ·refine rs0 hc 1 [(4,I (-1))] [] ?_
  refine rt ?_
  obtain rfl := os h
  exact rq [true]
 refine sk ?_
 refine rs0 hc 2 [(4,I (wr (left1 - (a0.length : Int))))] [] ?_
 refine rt ?_
 obtain rfl := os h
 exact rq [true]
def K8x (p : (List Bool) × Int) : Option (Int) :=
 match p with
 | (a0,left1) =>
  if (decide ((wr (left1 - (a0.length : Int))) < 0)) = true then
  some (-1)
  else
  some (wr (left1 - (a0.length : Int)))
def K8y (p : (List Bool) × Int) (r : Int) : Prop :=
 match p with
 | (a0,left1) => Q71 Tryz.prog 70 [sB a0,I left1] (I r) []
theorem K8z : ∀ p r,K8x p = some r → K8y p r := by
 rintro ⟨a0,left1⟩ r h
 unfold K8x at h
 refine b0 Tryz.f70 B70 12 [(0,sB a0),(1,I left1)] fun c hc => ?_
 refine rs0 hc 1 [(0,sB a0),(1,I left1)] [] ?_
 refine rs hc none [oN,oN,some (.eqv (.no) ⟨[(7,I (a0.length : Int))],[],[]⟩),oN,oN] [(1,I (wr (left1 - (a0.length : Int))))] [] (ai (Qcz (d := 7) AV.bool a0) tv) ?_
 refine sN ?_
 refine rs0 hc 2 [(1,I (wr (left1 - (a0.length : Int)))),(10,.bool (decide ((wr (left1 - (a0.length : Int))) < 0)))] [] ?_
 refine ic h (fun a1 h => ?_) fun a1 h => ?_
 ·refine rs0 hc 1 [(4,I (-1))] [] ?_
  refine rt ?_
  obtain rfl := os h
  exact rq [true]
 refine sk ?_
 refine rs0 hc 2 [(4,I (wr (left1 - (a0.length : Int))))] [] ?_
 refine rt ?_
 obtain rfl := os h
 exact rq [true]
def K90 (p : K00 × Int) : Option (Int) :=
 match p with
 | (a0,left1) =>
  (K8u (a0.fPlus,left1)) >>= fun a1 =>
  if (decide (a1 < 0)) = true then
  some (-1)
  else
  (K8u (a0.fTimes,a1)) >>= fun a2 =>
  if (decide (a2 < 0)) = true then
  some (-1)
  else
  (K8x (a0.fBelow,a2)) >>= fun a3 =>
  if (decide (a3 < 0)) = true then
  some (-1)
  else
  some a3
def K91 (p : K00 × Int) (r : Int) : Prop :=
 match p with
 | (a0,left1) => Q71 Tryz.prog 15 [K1t a0,I left1] (I r) []
theorem K92 : ∀ p r,K90 p = some r → K91 p r := by
 rintro ⟨a0,left1⟩ r h
 unfold K90 at h
 refine b0 Tryz.f15 B15 24 [(0,K1t a0),(1,I left1)] fun c hc => ?_
 refine rs hc none [some (.new 1),oN] [(1,I left1),(2,.ra 1 0)] [(1,K1s a0)] tv ?_
 obtain ⟨a1,a2,h⟩ := Qct h
 refine rss hc none [oN,oN,oN,oc (I a1),oN] [(1,I a1),(2,.ra 1 0)] (cq (K8w _ _ a2) K2x tv) ?_
 refine sN ?_
 refine K8s hc 2 [(1,I a1),(2,.ra 1 0),(10,.bool (decide (a1 < 0)))] ?_
 refine ic h (fun a3 h => ?_) fun a3 h => ?_
 ·refine rs0 hc 1 [(4,I (-1))] [] ?_
  refine rt ?_
  obtain rfl := os h
  exact rq [true]
 refine sk ?_
 obtain ⟨a4,a5,h⟩ := Qct h
 refine rss hc none [oN,oN,oN,oc (I a4),oN] [(1,I a4),(2,.ra 1 0)] (cq (K8w _ _ a5) K2x tv) ?_
 refine sN ?_
 refine K8s hc 2 [(1,I a4),(2,.ra 1 0),(16,.bool (decide (a4 < 0)))] ?_
 refine ic h (fun a6 h => ?_) fun a6 h => ?_
 ·refine rs0 hc 1 [(4,I (-1))] [] ?_
  refine rt ?_
  obtain rfl := os h
  exact rq [true]
 refine sk ?_
 obtain ⟨a7,a8,h⟩ := Qct h
 refine rs hc none [oN,oN,oN,oc (I a7),oN] [(1,I a7)] [] (cq (K8z _ _ a8) K2y tv) ?_
 refine sN ?_
 refine rs0 hc 2 [(1,I a7),(22,.bool (decide (a7 < 0)))] [] ?_
 refine ic h (fun a9 h => ?_) fun a9 h => ?_
 ·refine rs0 hc 1 [(4,I (-1))] [] ?_
  refine rt ?_
  obtain rfl := os h
  exact rq [true]
 refine sk ?_
 refine rs0 hc 2 [(4,I a7)] [] ?_
 refine rt ?_
 obtain rfl := os h
 exact rq [true]
def K93 (c : Ctx) : (Int) ⊕ (Int) → Exit → Q0a → Prop
 | .inl a0 => Qcf c (.exit 0) (mkS [(1,I a0)] [])
 | .inr r => Qco TIx Tryz.f16 [] (I r)
def K94 (p : LL × Int × Int) : Option ((Int) ⊕ (Int)) :=
 match p with
 | (a0,a1,a2) =>
  if (decide (a2 < (a0.length : Int))) = true then
  (idx a0 a2) >>= fun a3 =>
  (K8u (a3,a1)) >>= fun a4 =>
  if (decide (a4 < 0)) = true then
  some (.inr (-1))
  else
  K94 (a0,a4,(wr (a2 + 1)))
  else
  some (.inl a1)
 partial_fixpoint
def K95 (p : LL × Int × Int) (fl : (Int) ⊕ (Int)) : Prop :=
 match p with
 | (a0,a1,a2) => ∀ c : Ctx,c.nt = 27 → WpL Tryz.prog c (cl (cl (cr (cl (cr (cr (cr B16))))))) (K93 c fl) (mkS [(0,sL a0),(1,I a1),(5,I a2)] [])
theorem K96 : ∀ p r,K94 p = some r → K95 p r := by
 refine K94.partial_correctness K95 ?_
 rintro laws_szIntSS_l0_f laws_szIntSS_l0_ih ⟨a0,a1,a2⟩ r h
 intro c hc
 refine WpL.step ?_
 refine sN ?_
 refine rs hc none [oN,oN,some (.eqv (.no) ⟨[(14,I (a0.length : Int))],[],[]⟩),oN] [(0,sL a0),(1,I a1),(5,I a2),(15,.bool (decide (a2 < (a0.length : Int))))] [] (ai (Qcz (d := 14) K10 a0) tv) ?_
 refine ic h (fun a3 h => ?_) fun a3 h => ?_
 ·refine sk ?_
  refine sN ?_
  refine bk 1 ?_
  obtain ⟨a4,a5,a6,a7,h⟩ := bq2 h
  refine rs hc none [oN,oN,some (.el (sI a4)),oN,oN,oc (I a6),oN] [(0,sL a0),(1,I a6),(5,I a2)] [] (ai (xL a5) (cq (K8w _ _ a7) K2x tv)) ?_
  refine rs0 hc 2 [(0,sL a0),(1,I a6),(5,I a2),(25,.bool (decide (a6 < 0)))] [] ?_
  refine ic h (fun a8 h => ?_) fun a8 h => ?_
  ·refine rs0 hc 1 [(4,I (-1))] [] ?_
   refine rt ?_
   obtain rfl := os h
   exact re [true]
  refine sk ?_
  refine rg0 hc 3 [(0,sL a0),(1,I a6),(5,I (wr (a2 + 1)))] [] ?_
  refine Qcb ?_
  exact (laws_szIntSS_l0_ih _ _ h c hc)
 refine xt 0 ?_
 refine Qc5 ?_
 refine Qcc ?_
 obtain rfl := os h
 exact iv []
def K97 (p : LL × Int) : Option (Int) :=
 match p with
 | (a0,left1) =>
  if (decide ((wr (left1 - (a0.length : Int))) < 0)) = true then
  some (-1)
  else
  (K94 (a0,(wr (left1 - (a0.length : Int))),0)) >>= fun fl => match fl with
  | .inl a1 =>
   some a1
  | .inr r =>
   some r
def K98 (p : LL × Int) (r : Int) : Prop :=
 match p with
 | (a0,left1) => Q71 Tryz.prog 16 [sL a0,I left1] (I r) []
theorem K99 : ∀ p r,K97 p = some r → K98 p r := by
 rintro ⟨a0,left1⟩ r h
 unfold K97 at h
 refine b0 Tryz.f16 B16 27 [(0,sL a0),(1,I left1)] fun c hc => ?_
 refine rs0 hc 1 [(0,sL a0),(1,I left1)] [] ?_
 refine rs hc none [oN,oN,some (.eqv (.no) ⟨[(8,I (a0.length : Int))],[],[]⟩),oN,oN] [(0,sL a0),(1,I (wr (left1 - (a0.length : Int))))] [] (ai (Qcz (d := 8) K10 a0) tv) ?_
 refine sN ?_
 refine rs0 hc 2 [(0,sL a0),(1,I (wr (left1 - (a0.length : Int)))),(11,.bool (decide ((wr (left1 - (a0.length : Int))) < 0)))] [] ?_
 refine ic h (fun a1 h => ?_) fun a1 h => ?_
 ·refine rs0 hc 1 [(4,I (-1))] [] ?_
  refine rt ?_
  obtain rfl := os h
  exact rq [true]
 refine sk ?_
 refine sN ?_
 refine rs0 hc 1 [(0,sL a0),(1,I (wr (left1 - (a0.length : Int)))),(5,I 0)] [] ?_
 refine bk 0 ?_
 obtain ⟨fl,a2,h⟩ := Qct h
 have hL := K96 _ _ a2 c hc
 refine lp ?_
 rcases fl with a3 | r
 ·refine WpL.into (e := (.exit 0)) (mkS [(1,I a3)] []) hL ?_
  refine Qc7 ?_
  refine rs0 hc 2 [(4,I a3)] [] ?_
  refine rt ?_
  obtain rfl := os h
  exact rq [true]
 refine WpL.mono hL ?_
 rintro _ _ ⟨rfl,hfin⟩
 obtain rfl := os h
 exact ⟨.inl rfl,hfin⟩
def K9a (c : Ctx) : (Int) ⊕ (Int) → Exit → Q0a → Prop
 | .inl a0 => Qcf c (.exit 0) (mkS [(1,I a0)] [])
 | .inr r => Qco TIx Tryz.f71 [] (I r)
mutual
def K9b (p : K01 × Int) : Option (Int) :=
 match p with
 | (a0,left1) =>
  (K8u (a0.fType,left1)) >>= fun a1 =>
  if (decide (a1 < 0)) = true then
  some (-1)
  else
  (K9c (a0.fKids,a1)) >>= fun a2 =>
  if (decide (a2 < 0)) = true then
  some (-1)
  else
  some a2
 partial_fixpoint
def K9c (p : (List K01) × Int) : Option (Int) :=
 match p with
 | (a0,left1) =>
  if (decide ((wr (left1 - (a0.length : Int))) < 0)) = true then
  some (-1)
  else
  (K9d (a0,(wr (left1 - (a0.length : Int))),0)) >>= fun fl => match fl with
  | .inl a1 =>
   some a1
  | .inr r =>
   some r
 partial_fixpoint
def K9d (p : (List K01) × Int × Int) : Option ((Int) ⊕ (Int)) :=
 match p with
 | (a0,a1,a2) =>
  if (decide (a2 < (a0.length : Int))) = true then
  (idx a0 a2) >>= fun a3 =>
  (K9b (a3,a1)) >>= fun a4 =>
  if (decide (a4 < 0)) = true then
  some (.inr (-1))
  else
  K9d (a0,a4,(wr (a2 + 1)))
  else
  some (.inl a1)
 partial_fixpoint
end
def K9e (p : K01 × Int) (r : Int) : Prop :=
 match p with
 | (a0,left1) => Q71 Tryz.prog 17 [K1v a0,I left1] (I r) []
def K9f (p : (List K01) × Int) (r : Int) : Prop :=
 match p with
 | (a0,left1) => Q71 Tryz.prog 71 [.sl (List.map K0g a0),I left1] (I r) []
def K9g (p : (List K01) × Int × Int) (fl : (Int) ⊕ (Int)) : Prop :=
 match p with
 | (a0,a1,a2) => ∀ c : Ctx,c.nt = 27 → WpL Tryz.prog c (cl (cl (cr (cl (cr (cr (cr B71))))))) (K9a c fl) (mkS [(0,.sl (List.map K0g a0)),(1,I a1),(5,I a2)] [])
theorem K9h : (∀ p r,K9b p = some r → K9e p r) ∧ (∀ p r,K9c p = some r → K9f p r) ∧ (∀ p r,K9d p = some r → K9g p r) := by
 refine K9b.mutual_partial_correctness K9e K9f K9g ?_ ?_ ?_
 ·rintro laws_szTermS_f laws_szTermS_ih ⟨a0,left1⟩ r h
  refine b0 Tryz.f17 B17 18 [(0,K1v a0),(1,I left1)] fun c hc => ?_
  refine rs hc none [some (.new 1),oN] [(1,I left1),(2,.ra 1 0)] [(1,K1u a0)] tv ?_
  obtain ⟨a1,a2,h⟩ := Qct h
  refine rss hc none [oN,oN,oN,oc (I a1),oN] [(1,I a1),(2,.ra 1 0)] (cq (K8w _ _ a2) K2x tv) ?_
  refine sN ?_
  refine K8s hc 2 [(1,I a1),(2,.ra 1 0),(10,.bool (decide (a1 < 0)))] ?_
  refine ic h (fun a3 h => ?_) fun a3 h => ?_
  ·refine rs0 hc 1 [(4,I (-1))] [] ?_
   refine rt ?_
   obtain rfl := os h
   exact rq [true]
  refine sk ?_
  obtain ⟨a4,a5,h⟩ := Qct h
  refine rs hc none [oN,oN,oN,oc (I a4),oN] [(1,I a4)] [] (cq (laws_szTermS_ih _ _ a5) K31 tv) ?_
  refine sN ?_
  refine rs0 hc 2 [(1,I a4),(16,.bool (decide (a4 < 0)))] [] ?_
  refine ic h (fun a6 h => ?_) fun a6 h => ?_
  ·refine rs0 hc 1 [(4,I (-1))] [] ?_
   refine rt ?_
   obtain rfl := os h
   exact rq [true]
  refine sk ?_
  refine rs0 hc 2 [(4,I a4)] [] ?_
  refine rt ?_
  obtain rfl := os h
  exact rq [true]
 ·rintro laws_szTermS_l0_f laws_szTermS_l0_ih ⟨a0,left1⟩ r h
  refine b0 Tryz.f71 B71 27 [(0,.sl (List.map K0g a0)),(1,I left1)] fun c hc => ?_
  refine rs0 hc 1 [(0,.sl (List.map K0g a0)),(1,I left1)] [] ?_
  refine rs hc none [oN,oN,some (.eqv (.no) ⟨[(8,I (a0.length : Int))],[],[]⟩),oN,oN] [(0,.sl (List.map K0g a0)),(1,I (wr (left1 - (a0.length : Int))))] [] (ai (Qcz (d := 8) K0g a0) tv) ?_
  refine sN ?_
  refine rs0 hc 2 [(0,.sl (List.map K0g a0)),(1,I (wr (left1 - (a0.length : Int)))),(11,.bool (decide ((wr (left1 - (a0.length : Int))) < 0)))] [] ?_
  refine ic h (fun a3 h => ?_) fun a3 h => ?_
  ·refine rs0 hc 1 [(4,I (-1))] [] ?_
   refine rt ?_
   obtain rfl := os h
   exact rq [true]
  refine sk ?_
  refine sN ?_
  refine rs0 hc 1 [(0,.sl (List.map K0g a0)),(1,I (wr (left1 - (a0.length : Int)))),(5,I 0)] [] ?_
  refine bk 0 ?_
  obtain ⟨fl,a7,h⟩ := Qct h
  have hL := laws_szTermS_l0_ih _ _ a7 c hc
  refine lp ?_
  rcases fl with a8 | r
  ·refine WpL.into (e := (.exit 0)) (mkS [(1,I a8)] []) hL ?_
   refine Qc7 ?_
   refine rs0 hc 2 [(4,I a8)] [] ?_
   refine rt ?_
   obtain rfl := os h
   exact rq [true]
  refine WpL.mono hL ?_
  rintro _ _ ⟨rfl,hfin⟩
  obtain rfl := os h
  exact ⟨.inl rfl,hfin⟩
 ·rintro laws_szTerm_f laws_szTermS_l0_f laws_szTerm_ih laws_szTermS_l0_ih ⟨a0,a9,b1⟩ r h
  intro c hc
  refine WpL.step ?_
  refine sN ?_
  refine rs hc none [oN,oN,some (.eqv (.no) ⟨[(14,I (a0.length : Int))],[],[]⟩),oN] [(0,.sl (List.map K0g a0)),(1,I a9),(5,I b1),(15,.bool (decide (b1 < (a0.length : Int))))] [] (ai (Qcz (d := 14) K0g a0) tv) ?_
  refine ic h (fun b2 h => ?_) fun b2 h => ?_
  ·refine sk ?_
   refine sN ?_
   refine bk 1 ?_
   obtain ⟨b3,b4,b5,b6,h⟩ := bq2 h
   refine rs hc none [oN,oN,some (.el (K1v b3)),oN,oN,oc (I b5),oN] [(0,.sl (List.map K0g a0)),(1,I b5),(5,I b1)] [] (ai (Qcx b4 (K0n b3)) (cq (laws_szTerm_ih _ _ b6) K32 tv)) ?_
   refine rs0 hc 2 [(0,.sl (List.map K0g a0)),(1,I b5),(5,I b1),(25,.bool (decide (b5 < 0)))] [] ?_
   refine ic h (fun b7 h => ?_) fun b7 h => ?_
   ·refine rs0 hc 1 [(4,I (-1))] [] ?_
    refine rt ?_
    obtain rfl := os h
    exact re [true]
   refine sk ?_
   refine rg0 hc 3 [(0,.sl (List.map K0g a0)),(1,I b5),(5,I (wr (b1 + 1)))] [] ?_
   refine Qcb ?_
   exact (laws_szTermS_l0_ih _ _ h c hc)
  refine xt 0 ?_
  refine Qc5 ?_
  refine Qcc ?_
  obtain rfl := os h
  exact iv []
theorem K9i : ∀ p r,K9b p = some r → K9e p r := K9h.1
theorem K9j : ∀ p r,K9c p = some r → K9f p r := K9h.2.1
theorem K9k : ∀ p r,K9d p = some r → K9g p r := K9h.2.2
def K9l (c : Ctx) : (List Int) → Exit → Q0a → Prop
 | a0 => Qcf c (.exit 0) (mkS [(3,.rs 1)] [(1,rI a0)])
def K9m (p : (List Int) × (List Int) × Int) : Option ((List Int)) :=
 match p with
 | (a0,a1,a2) =>
  if (decide (a2 < (a0.length : Int))) = true then
  (idx a0 a2) >>= fun a3 =>
  (idx a1 a2) >>= fun a4 =>
  K9m (a0,(List.set a1 (Int.toNat a2) a3),(wr (a2 + 1)))
  else
  some (a1)
 partial_fixpoint
def K9n (p : (List Int) × (List Int) × Int) (fl : (List Int)) : Prop :=
 match p with
 | (a0,a1,a2) => ∀ c : Ctx,c.nt = 22 → WpL Tryz.prog c (cl (cl (cr (cl (cr (cr B35)))))) (K9l c fl) (mkS [(0,sI a0),(3,.rs 1),(4,I a2)] [(1,rI a1)])
theorem K9o : ∀ p r,K9m p = some r → K9n p r := by
 refine K9m.partial_correctness K9n ?_
 rintro laws_toIntS_l0_f laws_toIntS_l0_ih ⟨a0,a1,a2⟩ r h
 intro c hc
 refine WpL.step ?_
 refine sN ?_
 refine rss hc none [oN,oN,some (.eqv (.no) ⟨[(10,I (a0.length : Int))],[],[]⟩),oN] [(0,sI a0),(3,.rs 1),(4,I a2),(11,.bool (decide (a2 < (a0.length : Int))))] (ai (Qcz (d := 10) I a0) tv) ?_
 refine ic h (fun a3 h => ?_) fun a3 h => ?_
 ·refine sk ?_
  refine sN ?_
  refine bk 1 ?_
  obtain ⟨a4,a5,a6,a7,h⟩ := bq2 h
  refine rg hc none [oN,oN,oN,oN,some (.el (I a4)),oN,oN,some (.eqv (.mk 0 true) ⟨[],[(1,some (.arr (List.map I (List.set a1 (Int.toNat a2) a4))))],[]⟩)] [(0,sI a0),(3,.rs 1),(4,I a2)] [(1,.arr (List.map I (List.set a1 (Int.toNat a2) a4)))] (ad (ix a5) (Qcy (enc := I) a7) (congrArg (fun z => (⟨[],[(1,some (.arr z))],[]⟩ : Wr)) (Qdw (enc := I) (i := Int.toNat a2) (l := a1) (v := a4) (x := I a4) (Qd8 a4))) (Qdx (enc := I) (sz := 1) Qdc a7) tv) ?_
  refine K8r hc 3 [(0,sI a0),(3,.rs 1),(4,I (wr (a2 + 1)))] ?_
  refine Qcb ?_
  exact (laws_toIntS_l0_ih _ _ h c hc)
 refine xt 0 ?_
 refine Qc5 ?_
 refine Qcc ?_
 obtain rfl := os h
 exact iv []
def K9p (a0 : (List Int)) : Option ((List Int)) :=
 (chk (0 ≤ (a0.length : Int) ∧ (Int.toNat (a0.length : Int)) * 8 ≤ 140737488355328)) >>= fun _ =>
 (K9m (a0,(List.replicate (Int.toNat (a0.length : Int)) 0),0)) >>= fun a1 =>
 some a1
def K9q (a0 : (List Int)) (r : (List Int)) : Prop :=
 Q71 Tryz.prog 35 [sI a0] (oI r) []
theorem K9r : ∀ p r,K9p p = some r → K9q p r := by
 rintro a0 r h
 unfold K9p at h
 refine b0 Tryz.f35 B35 22 [(0,sI a0)] fun c hc => ?_
 refine rs0 hc 1 [(0,sI a0)] [] ?_
 obtain ⟨_,a1,h⟩ := Qct h
 refine rs hc none [oN,some (.eqv (.no) ⟨[(6,I (a0.length : Int))],[],[]⟩),some (.eqv (.mk 1 true) ⟨[(7,.rs 1)],[(1,some (.arr (List.map I (List.replicate (Int.toNat (a0.length : Int)) 0))))],[1]⟩),oN] [(0,sI a0),(3,.rs 1)] [(1,.arr (List.map I (List.replicate (Int.toNat (a0.length : Int)) 0)))] (ac (Qcz (d := 6) I a0) (congrArg (fun z => (⟨[(7,.rs 1)],[(1,some (.arr z))],[1]⟩ : Wr)) (Qdy (enc := I) (n := Int.toNat (a0.length : Int)) (x := I 0) (Qd8 0))) (And.intro (Eq.refl (a0.length : Int)) (Qcv a1)) tv) ?_
 refine sN ?_
 refine K8s hc 1 [(0,sI a0),(3,.rs 1),(4,I 0)] ?_
 refine bk 0 ?_
 obtain ⟨a2,a3,h⟩ := Qct h
 have hL := K9o _ _ a3 c hc
 refine lp ?_
 refine WpL.into (e := (.exit 0)) (mkS [(3,.rs 1)] [(1,rI a2)]) hL ?_
 refine Qc7 ?_
 refine K8s hc 2 [(2,.rs 1)] ?_
 refine rt ?_
 obtain rfl := os h
 exact rq [true]
def K9s (c : Ctx) : (List Bool) → Exit → Q0a → Prop
 | a0 => Qcf c (.exit 0) (mkS [(3,.rs 1)] [(1,.arr (List.map AV.bool a0))])
def K9t (p : (List Bool) × (List Bool) × Int) : Option ((List Bool)) :=
 match p with
 | (a0,a1,a2) =>
  if (decide (a2 < (a0.length : Int))) = true then
  (idx a0 a2) >>= fun a3 =>
  (idx a1 a2) >>= fun a4 =>
  K9t (a0,(List.set a1 (Int.toNat a2) a3),(wr (a2 + 1)))
  else
  some (a1)
 partial_fixpoint
def K9u (p : (List Bool) × (List Bool) × Int) (fl : (List Bool)) : Prop :=
 match p with
 | (a0,a1,a2) => ∀ c : Ctx,c.nt = 22 → WpL Tryz.prog c (cl (cl (cr (cl (cr (cr B74)))))) (K9s c fl) (mkS [(0,sB a0),(3,.rs 1),(4,I a2)] [(1,.arr (List.map AV.bool a1))])
theorem K9v : ∀ p r,K9t p = some r → K9u p r := by
 refine K9t.partial_correctness K9u ?_
 rintro laws_toBoolS_l0_f laws_toBoolS_l0_ih ⟨a0,a1,a2⟩ r h
 intro c hc
 refine WpL.step ?_
 refine sN ?_
 refine rss hc none [oN,oN,some (.eqv (.no) ⟨[(10,I (a0.length : Int))],[],[]⟩),oN] [(0,sB a0),(3,.rs 1),(4,I a2),(11,.bool (decide (a2 < (a0.length : Int))))] (ai (Qcz (d := 10) AV.bool a0) tv) ?_
 refine ic h (fun a3 h => ?_) fun a3 h => ?_
 ·refine sk ?_
  refine sN ?_
  refine bk 1 ?_
  obtain ⟨a4,a5,a6,a7,h⟩ := bq2 h
  refine rg hc none [oN,oN,oN,oN,some (.el (.bool a4)),oN,oN,some (.eqv (.mk 0 true) ⟨[],[(1,some (.arr (List.map AV.bool (List.set a1 (Int.toNat a2) a4))))],[]⟩)] [(0,sB a0),(3,.rs 1),(4,I a2)] [(1,.arr (List.map AV.bool (List.set a1 (Int.toNat a2) a4)))] (ad (Qcx (enc := AV.bool) (x := .bool a4) a5 (Qda a4)) (Qcy (enc := AV.bool) a7) (congrArg (fun z => (⟨[],[(1,some (.arr z))],[]⟩ : Wr)) (Qdw (enc := AV.bool) (i := Int.toNat a2) (l := a1) (v := a4) (x := AV.bool a4) (Qda a4))) (Qdx (enc := AV.bool) (sz := 1) Qde a7) tv) ?_
  refine K8r hc 3 [(0,sB a0),(3,.rs 1),(4,I (wr (a2 + 1)))] ?_
  refine Qcb ?_
  exact (laws_toBoolS_l0_ih _ _ h c hc)
 refine xt 0 ?_
 refine Qc5 ?_
 refine Qcc ?_
 obtain rfl := os h
 exact iv []
def K9w (a0 : (List Bool)) : Option ((List Bool)) :=
 (chk (0 ≤ (a0.length : Int) ∧ (Int.toNat (a0.length : Int)) * 1 ≤ 140737488355328)) >>= fun _ =>
 (K9t (a0,(List.replicate (Int.toNat (a0.length : Int)) false),0)) >>= fun a1 =>
 some a1
def K9x (a0 : (List Bool)) (r : (List Bool)) : Prop :=
 Q71 Tryz.prog 74 [sB a0] (.osl (List.map AV.bool r)) []
theorem K9y : ∀ p r,K9w p = some r → K9x p r := by
 rintro a0 r h
 unfold K9w at h
 refine b0 Tryz.f74 B74 22 [(0,sB a0)] fun c hc => ?_
 refine rs0 hc 1 [(0,sB a0)] [] ?_
 obtain ⟨_,a1,h⟩ := Qct h
 refine rs hc none [oN,some (.eqv (.no) ⟨[(6,I (a0.length : Int))],[],[]⟩),some (.eqv (.mk 1 true) ⟨[(7,.rs 1)],[(1,some (.arr (List.map AV.bool (List.replicate (Int.toNat (a0.length : Int)) false))))],[1]⟩),oN] [(0,sB a0),(3,.rs 1)] [(1,.arr (List.map AV.bool (List.replicate (Int.toNat (a0.length : Int)) false)))] (ac (Qcz (d := 6) AV.bool a0) (congrArg (fun z => (⟨[(7,.rs 1)],[(1,some (.arr z))],[1]⟩ : Wr)) (Qdy (enc := AV.bool) (n := Int.toNat (a0.length : Int)) (x := AV.bool false) (Qda false))) (And.intro (Eq.refl (a0.length : Int)) (Qcv a1)) tv) ?_
 refine sN ?_
 refine K8s hc 1 [(0,sB a0),(3,.rs 1),(4,I 0)] ?_
 refine bk 0 ?_
 obtain ⟨a2,a3,h⟩ := Qct h
 have hL := K9v _ _ a3 c hc
 refine lp ?_
 refine WpL.into (e := (.exit 0)) (mkS [(3,.rs 1)] [(1,.arr (List.map AV.bool a2))]) hL ?_
 refine Qc7 ?_
 refine K8s hc 2 [(2,.rs 1)] ?_
 refine rt ?_
 obtain rfl := os h
 exact rq [true]
def K9z (a0 : K00) : Option (K00) :=
 (K9p a0.fPlus) >>= fun a1 =>
 (K9p a0.fTimes) >>= fun a2 =>
 (K9w a0.fBelow) >>= fun a3 =>
 some (K00.mk a0.fSize a1 a2 a3)
def Ka0 (a0 : K00) (r : K00) : Prop :=
 Q71 Tryz.prog 19 [K1t a0] (K22 r) []
theorem Ka1 : ∀ p r,K9z p = some r → Ka0 p r := by
 rintro a0 r h
 unfold K9z at h
 refine b0 Tryz.f19 B19 20 [(0,K1t a0)] fun c hc => ?_
 refine rs hc none [some (.new 1),some (.new 2)] [(1,.ra 1 0),(2,.ra 2 0)] [(1,K1s a0),(2,.box [I 0,.nils,.nils,.nils])] tv ?_
 refine rs hc none [some (.new 3)] [(1,.ra 1 0),(2,.ra 2 0),(3,.ra 3 0)] [(1,K1s a0),(2,.box [I 0,.nils,.nils,.nils]),(3,.box [I 0,.nils,.nils,.nils])] tv ?_
 refine rs0 hc 4 [(1,.ra 1 0),(2,.ra 2 0),(3,.ra 3 0)] [(1,K1s a0),(2,.box [I 0,.nils,.nils,.nils]),(3,.box [I a0.fSize,.nils,.nils,.nils])] ?_
 obtain ⟨a1,a2,h⟩ := Qct h
 refine rs hc none [oN,oN,some (.call (oI a1) [] 4),oN,oN] [(1,.ra 1 0),(2,.ra 2 0),(3,.ra 3 0)] [(1,K1s a0),(2,.box [I 0,.nils,.nils,.nils]),(3,.box [I a0.fSize,.rs 4,.nils,.nils]),(4,rI a1)] (cq (K9r _ _ a2) K33 tv) ?_
 obtain ⟨a3,a4,h⟩ := Qct h
 refine rs hc none [oN,oN,some (.call (oI a3) [] 5),oN,oN] [(1,.ra 1 0),(2,.ra 2 0),(3,.ra 3 0)] [(1,K1s a0),(2,.box [I 0,.nils,.nils,.nils]),(3,.box [I a0.fSize,.rs 4,.rs 5,.nils]),(4,rI a1),(5,rI a3)] (cq (K9r _ _ a4) K33 tv) ?_
 obtain ⟨a5,a6,h⟩ := Qct h
 refine rs hc none [oN,oN,some (.call (.osl (List.map AV.bool a5)) [] 6),oN,oN] [(2,.ra 2 0),(3,.ra 3 0)] [(2,.box [I 0,.nils,.nils,.nils]),(3,.box [I a0.fSize,.rs 4,.rs 5,.rs 6]),(4,rI a1),(5,rI a3),(6,.arr (List.map AV.bool a5))] (cq (K9y _ _ a6) K34 tv) ?_
 refine rs0 hc 2 [(2,.ra 2 0)] [(2,.box [I a0.fSize,.rs 4,.rs 5,.rs 6]),(4,rI a1),(5,rI a3),(6,.arr (List.map AV.bool a5))] ?_
 refine rt ?_
 obtain rfl := os h
 exact rq [true]
def Ka2 (c : Ctx) : LL → Exit → Q0a → Prop
 | a0 => Qcf c (.exit 0) (mkS [(3,.rs 1)] [(1,.arr (List.map K15 a0))])
def Ka3 (p : LL × LL × Int) : Option (LL) :=
 match p with
 | (a0,a1,a2) =>
  if (decide (a2 < (a0.length : Int))) = true then
  (idx a0 a2) >>= fun a3 =>
  (K9p a3) >>= fun a4 =>
  (idx a1 a2) >>= fun a5 =>
  Ka3 (a0,(List.set a1 (Int.toNat a2) a4),(wr (a2 + 1)))
  else
  some (a1)
 partial_fixpoint
def Ka4 (p : LL × LL × Int) (fl : LL) : Prop :=
 match p with
 | (a0,a1,a2) => ∀ c : Ctx,c.nt = 23 → WpL Tryz.prog c (cl (cl (cr (cl (cr (cr B20)))))) (Ka2 c fl) (mkS [(0,sL a0),(3,.rs 1),(4,I a2)] [(1,.arr (List.map K15 a1))])
theorem Ka5 : ∀ p r,Ka3 p = some r → Ka4 p r := by
 refine Ka3.partial_correctness Ka4 ?_
 rintro laws_toIntSS_l0_f laws_toIntSS_l0_ih ⟨a0,a1,a2⟩ r h
 intro c hc
 refine WpL.step ?_
 refine sN ?_
 refine rss hc none [oN,oN,some (.eqv (.no) ⟨[(10,I (a0.length : Int))],[],[]⟩),oN] [(0,sL a0),(3,.rs 1),(4,I a2),(11,.bool (decide (a2 < (a0.length : Int))))] (ai (Qcz (d := 10) K10 a0) tv) ?_
 refine ic h (fun a3 h => ?_) fun a3 h => ?_
 ·refine sk ?_
  refine sN ?_
  refine bk 1 ?_
  obtain ⟨a4,a5,a6,a7,a8,a9,h⟩ := bq3 h
  refine rg hc none [oN,oN,oN,oN,some (.el (sI a4)),oN,some (.call (oI a6) [] 3),oN,some (.eqv (.mk 0 true) ⟨[],[(1,some (.arr (List.map K15 (List.set a1 (Int.toNat a2) a6)))),(3,none)],[]⟩)] [(0,sL a0),(3,.rs 1),(4,I a2)] [(1,.arr (List.map K15 (List.set a1 (Int.toNat a2) a6)))] (ai (xL a5) (cq (K9r _ _ a7) K33 (ac (Qcy (enc := K15) a9) (congrArg (fun z => (⟨[],[(1,some (.arr z)),(3,none)],[]⟩ : Wr)) (Qdw (enc := K15) (i := Int.toNat a2) (l := a1) (v := a6) (x := oI a6) (K16 a6))) (Qdx (enc := K15) (sz := 1) K17 a9) tv))) ?_
  refine K8r hc 3 [(0,sL a0),(3,.rs 1),(4,I (wr (a2 + 1)))] ?_
  refine Qcb ?_
  exact (laws_toIntSS_l0_ih _ _ h c hc)
 refine xt 0 ?_
 refine Qc5 ?_
 refine Qcc ?_
 obtain rfl := os h
 exact iv []
def Ka6 (a0 : LL) : Option (LL) :=
 (chk (0 ≤ (a0.length : Int) ∧ (Int.toNat (a0.length : Int)) * 24 ≤ 140737488355328)) >>= fun _ =>
 (Ka3 (a0,(List.replicate (Int.toNat (a0.length : Int)) []),0)) >>= fun a1 =>
 some a1
def Ka7 (a0 : LL) (r : LL) : Prop :=
 Q71 Tryz.prog 20 [sL a0] (.osl (List.map K15 r)) []
theorem Ka8 : ∀ p r,Ka6 p = some r → Ka7 p r := by
 rintro a0 r h
 unfold Ka6 at h
 refine b0 Tryz.f20 B20 23 [(0,sL a0)] fun c hc => ?_
 refine rs0 hc 1 [(0,sL a0)] [] ?_
 obtain ⟨_,a1,h⟩ := Qct h
 refine rs hc none [oN,some (.eqv (.no) ⟨[(6,I (a0.length : Int))],[],[]⟩),some (.eqv (.mk 1 true) ⟨[(7,.rs 1)],[(1,some (.arr (List.map K15 (List.replicate (Int.toNat (a0.length : Int)) []))))],[1]⟩),oN] [(0,sL a0),(3,.rs 1)] [(1,.arr (List.map K15 (List.replicate (Int.toNat (a0.length : Int)) [])))] (ac (Qcz (d := 6) K10 a0) (congrArg (fun z => (⟨[(7,.rs 1)],[(1,some (.arr z))],[1]⟩ : Wr)) (Qdy (enc := K15) (n := Int.toNat (a0.length : Int)) (x := AV.osl (List.map I [])) (K16 []))) (And.intro (Eq.refl (a0.length : Int)) (Qcv a1)) tv) ?_
 refine sN ?_
 refine K8s hc 1 [(0,sL a0),(3,.rs 1),(4,I 0)] ?_
 refine bk 0 ?_
 obtain ⟨a2,a3,h⟩ := Qct h
 have hL := Ka5 _ _ a3 c hc
 refine lp ?_
 refine WpL.into (e := (.exit 0)) (mkS [(3,.rs 1)] [(1,.arr (List.map K15 a2))]) hL ?_
 refine Qc7 ?_
 refine K8s hc 2 [(2,.rs 1)] ?_
 refine rt ?_
 obtain rfl := os h
 exact rq [true]
def Ka9 (c : Ctx) : (List K01) → Exit → Q0a → Prop
 | a0 => Qcf c (.exit 0) (mkS [(3,.rs 1)] [(1,.arr (List.map K0j a0))])
mutual
def Kaa (a0 : K01) : Option (K01) :=
 (K9p a0.fType) >>= fun a1 =>
 (Kab a0.fKids) >>= fun a2 =>
 some (K01.mk a0.fOp a0.fN a1 a2)
 partial_fixpoint
def Kab (a0 : (List K01)) : Option ((List K01)) :=
 (chk (0 ≤ (a0.length : Int) ∧ (Int.toNat (a0.length : Int)) * 64 ≤ 140737488355328)) >>= fun _ =>
 (Kac (a0,(List.replicate (Int.toNat (a0.length : Int)) (K01.mk 0 0 [] [])),0)) >>= fun a1 =>
 some a1
 partial_fixpoint
def Kac (p : (List K01) × (List K01) × Int) : Option ((List K01)) :=
 match p with
 | (a0,a1,a2) =>
  if (decide (a2 < (a0.length : Int))) = true then
  (idx a0 a2) >>= fun a3 =>
  (Kaa a3) >>= fun a4 =>
  (idx a1 a2) >>= fun a5 =>
  Kac (a0,(List.set a1 (Int.toNat a2) a4),(wr (a2 + 1)))
  else
  some (a1)
 partial_fixpoint
end
def Kad (a0 : K01) (r : K01) : Prop :=
 Q71 Tryz.prog 21 [K1v a0] (K24 r) []
def Kae (a0 : (List K01)) (r : (List K01)) : Prop :=
 Q71 Tryz.prog 75 [.sl (List.map K0g a0)] (.osl (List.map K0j r)) []
def Kaf (p : (List K01) × (List K01) × Int) (fl : (List K01)) : Prop :=
 match p with
 | (a0,a1,a2) => ∀ c : Ctx,c.nt = 23 → WpL Tryz.prog c (cl (cl (cr (cl (cr (cr B75)))))) (Ka9 c fl) (mkS [(0,.sl (List.map K0g a0)),(3,.rs 1),(4,I a2)] [(1,.arr (List.map K0j a1))])
theorem Kag : (∀ p r,Kaa p = some r → Kad p r) ∧ (∀ p r,Kab p = some r → Kae p r) ∧ (∀ p r,Kac p = some r → Kaf p r) := by
 refine Kaa.mutual_partial_correctness Kad Kae Kaf ?_ ?_ ?_
 ·rintro laws_toTermS_f laws_toTermS_ih a0 r h
  refine b0 Tryz.f21 B21 19 [(0,K1v a0)] fun c hc => ?_
  refine rs hc none [some (.new 1),some (.new 2)] [(1,.ra 1 0),(2,.ra 2 0)] [(1,K1u a0),(2,.box [I 0,I 0,.nils,.nils])] tv ?_
  refine rs hc none [some (.new 3)] [(1,.ra 1 0),(2,.ra 2 0),(3,.ra 3 0)] [(1,K1u a0),(2,.box [I 0,I 0,.nils,.nils]),(3,.box [I 0,I 0,.nils,.nils])] tv ?_
  refine rs0 hc 4 [(1,.ra 1 0),(2,.ra 2 0),(3,.ra 3 0)] [(1,K1u a0),(2,.box [I 0,I 0,.nils,.nils]),(3,.box [I a0.fOp,I 0,.nils,.nils])] ?_
  refine rs0 hc 4 [(1,.ra 1 0),(2,.ra 2 0),(3,.ra 3 0)] [(1,K1u a0),(2,.box [I 0,I 0,.nils,.nils]),(3,.box [I a0.fOp,I a0.fN,.nils,.nils])] ?_
  obtain ⟨a1,a2,h⟩ := Qct h
  refine rs hc none [oN,oN,some (.call (oI a1) [] 4),oN,oN] [(1,.ra 1 0),(2,.ra 2 0),(3,.ra 3 0)] [(1,K1u a0),(2,.box [I 0,I 0,.nils,.nils]),(3,.box [I a0.fOp,I a0.fN,.rs 4,.nils]),(4,rI a1)] (cq (K9r _ _ a2) K33 tv) ?_
  obtain ⟨a3,a4,h⟩ := Qct h
  refine rs hc none [oN,oN,some (.call (.osl (List.map K0j a3)) [] 5),oN,oN] [(2,.ra 2 0),(3,.ra 3 0)] [(2,.box [I 0,I 0,.nils,.nils]),(3,.box [I a0.fOp,I a0.fN,.rs 4,.rs 5]),(4,rI a1),(5,.arr (List.map K0j a3))] (cq (laws_toTermS_ih _ _ a4) K37 tv) ?_
  refine rs0 hc 2 [(2,.ra 2 0)] [(2,.box [I a0.fOp,I a0.fN,.rs 4,.rs 5]),(4,rI a1),(5,.arr (List.map K0j a3))] ?_
  refine rt ?_
  obtain rfl := os h
  exact rq [true]
 ·rintro laws_toTermS_l0_f laws_toTermS_l0_ih a0 r h
  refine b0 Tryz.f75 B75 23 [(0,.sl (List.map K0g a0))] fun c hc => ?_
  refine rs0 hc 1 [(0,.sl (List.map K0g a0))] [] ?_
  obtain ⟨_,a5,h⟩ := Qct h
  refine rs hc none [oN,some (.eqv (.no) ⟨[(6,I (a0.length : Int))],[],[]⟩),some (.eqv (.mk 1 true) ⟨[(7,.rs 1)],[(1,some (.arr (List.map K0j (List.replicate (Int.toNat (a0.length : Int)) (K01.mk 0 0 [] [])))))],[1]⟩),oN] [(0,.sl (List.map K0g a0)),(3,.rs 1)] [(1,.arr (List.map K0j (List.replicate (Int.toNat (a0.length : Int)) (K01.mk 0 0 [] []))))] (ac (Qcz (d := 6) K0g a0) (congrArg (fun z => (⟨[(7,.rs 1)],[(1,some (.arr z))],[1]⟩ : Wr)) (Qdy (enc := K0j) (n := Int.toNat (a0.length : Int)) (x := AV.agg [I ((K01.mk 0 0 [] []).fOp),I ((K01.mk 0 0 [] []).fN),.osl (List.map I ((K01.mk 0 0 [] []).fType)),.osl (List.map K0j ((K01.mk 0 0 [] []).fKids))]) (K0p (K01.mk 0 0 [] [])))) (And.intro (Eq.refl (a0.length : Int)) (Qcv a5)) tv) ?_
  refine sN ?_
  refine K8s hc 1 [(0,.sl (List.map K0g a0)),(3,.rs 1),(4,I 0)] ?_
  refine bk 0 ?_
  obtain ⟨a6,a7,h⟩ := Qct h
  have hL := laws_toTermS_l0_ih _ _ a7 c hc
  refine lp ?_
  refine WpL.into (e := (.exit 0)) (mkS [(3,.rs 1)] [(1,.arr (List.map K0j a6))]) hL ?_
  refine Qc7 ?_
  refine K8s hc 2 [(2,.rs 1)] ?_
  refine rt ?_
  obtain rfl := os h
  exact rq [true]
 ·rintro laws_toTerm_f laws_toTermS_l0_f laws_toTerm_ih laws_toTermS_l0_ih ⟨a0,a8,a9⟩ r h
  intro c hc
  refine WpL.step ?_
  refine sN ?_
  refine rss hc none [oN,oN,some (.eqv (.no) ⟨[(10,I (a0.length : Int))],[],[]⟩),oN] [(0,.sl (List.map K0g a0)),(3,.rs 1),(4,I a9),(11,.bool (decide (a9 < (a0.length : Int))))] (ai (Qcz (d := 10) K0g a0) tv) ?_
  refine ic h (fun b1 h => ?_) fun b1 h => ?_
  ·refine sk ?_
   refine sN ?_
   refine bk 1 ?_
   obtain ⟨b2,b3,b4,b5,b6,b7,h⟩ := bq3 h
   refine rg hc none [oN,oN,oN,oN,some (.el (K1v b2)),oN,some (.call (K24 b4) [] 4),oN,some (.eqv (.mk 0 true) ⟨[],[(1,some (.arr (List.map K0j (List.set a8 (Int.toNat a9) b4)))),(4,none),(5,none)],[]⟩)] [(0,.sl (List.map K0g a0)),(3,.rs 1),(4,I a9)] [(1,.arr (List.map K0j (List.set a8 (Int.toNat a9) b4)))] (ai (Qcx b3 (K0n b2)) (cq (laws_toTerm_ih _ _ b5) K38 (ac (Qcy (enc := K0j) b7) (congrArg (fun z => (⟨[],[(1,some (.arr z)),(4,none),(5,none)],[]⟩ : Wr)) (Qdw (enc := K0j) (i := Int.toNat a9) (l := a8) (v := b4) (x := AV.agg [I b4.fOp,I b4.fN,oI b4.fType,AV.osl (List.map K0j b4.fKids)]) (K0p b4))) (Qdx (enc := K0j) (sz := 4) K1b b7) tv))) ?_
   refine K8r hc 3 [(0,.sl (List.map K0g a0)),(3,.rs 1),(4,I (wr (a9 + 1)))] ?_
   refine Qcb ?_
   exact (laws_toTermS_l0_ih _ _ h c hc)
  refine xt 0 ?_
  refine Qc5 ?_
  refine Qcc ?_
  obtain rfl := os h
  exact iv []
theorem Kah : ∀ p r,Kaa p = some r → Kad p r := Kag.1
theorem Kai : ∀ p r,Kab p = some r → Kae p r := Kag.2.1
theorem Kaj : ∀ p r,Kac p = some r → Kaf p r := Kag.2.2
def Kak (p : Int × Int × Int) : Option (Bool) :=
 match p with
 | (n0,low1,high2) =>
  ((
  if (decide (n0 ≥ low1)) = true then
  some ((decide (n0 ≤ high2)))
  else
  some (false)
  ) : Option (Bool)) >>= fun a0 =>
  some a0
def Kal (p : Int × Int × Int) (r : Bool) : Prop :=
 match p with
 | (n0,low1,high2) => Q71 Tryz.prog 100 [I n0,I low1,I high2] (.bool r) []
theorem Kam : ∀ p r,Kak p = some r → Kal p r := by
 rintro ⟨n0,low1,high2⟩ r h
 unfold Kak at h
 refine b0 Tryz.f100 K39 15 [(0,I n0),(1,I low1),(2,I high2)] fun c hc => ?_
 refine rs0 hc 1 [(0,I n0),(1,I low1),(2,I high2)] [] ?_
 refine sN ?_
 obtain ⟨a0,a1,h⟩ := Qct h
 refine Wp.into (x := .normal) (mkS [(6,.bool a0)] []) ?_ ?_
 ·replace h := a1
  rcases is h with ⟨a2,h⟩ | ⟨a2,h⟩
  ·refine rg hc none [oN,oN,oN,oN,oN,oN,oN,oT,oN] [(6,.bool (decide (n0 ≤ high2)))] [] (ar 4 a2 tv) ?_
   obtain rfl := os h
   exact Qcf.mk
  refine rg hc none [oN,oN,oN,oN,o_,o_,o_,oF,oN] [(6,.bool false)] [] (ar 3 (neT a2) (ai a2 tv)) ?_
  obtain rfl := os h
  exact Qcf.mk
 clear a1
 refine rt ?_
 obtain rfl := os h
 exact rq [true]
def Kan (c : Ctx) : (Unit) ⊕ (Bool) → Exit → Q0a → Prop
 | .inl _ => Qcf c (.exit 0) (mkS [] [])
 | .inr r => Qco TIx Tryz.f202 [] (.bool r)
def Kao (p : K00 × Int) : Option ((Unit) ⊕ (Bool)) :=
 match p with
 | (s0,a0) =>
  if (decide (a0 < (s0.fPlus.length : Int))) = true then
  ((
  (idx s0.fPlus a0) >>= fun a1 =>
  (Kak (a1,0,(wr (s0.fSize - 1)))) >>= fun a2 =>
  if a2 = true then
  (idx s0.fTimes a0) >>= fun a3 =>
  (Kak (a3,0,(wr (s0.fSize - 1)))) >>= fun a4 =>
  some ((!a4))
  else
  some (true)
  ) : Option (Bool)) >>= fun a5 =>
  if a5 = true then
  some (.inr false)
  else
  Kao (s0,(wr (a0 + 1)))
  else
  some (.inl ())
 partial_fixpoint
def Kap (p : K00 × Int) (fl : (Unit) ⊕ (Bool)) : Prop :=
 match p with
 | (s0,a0) => ∀ c : Ctx,c.nt = 70 → WpL Tryz.prog c (cl (cl (cr (cl (cr (cr K3b)))))) (Kan c fl) (mkS [(1,.ra 1 0),(3,I a0)] [(1,K1s s0)])
theorem Kaq : ∀ p r,Kao p = some r → Kap p r := by
 refine Kao.partial_correctness Kap ?_
 rintro spec_l1Tables_l0_f spec_l1Tables_l0_ih ⟨s0,a0⟩ r h
 intro c hc
 refine WpL.step ?_
 refine sN ?_
 refine rss hc none [oN,oN,oN,some (.eqv (.no) ⟨[(44,I (s0.fPlus.length : Int))],[],[]⟩),oN] [(1,.ra 1 0),(3,I a0),(45,.bool (decide (a0 < (s0.fPlus.length : Int))))] (ai (Qcz (d := 44) I s0.fPlus) tv) ?_
 refine ic h (fun a1 h => ?_) fun a1 h => ?_
 ·refine sk ?_
  refine sN ?_
  refine bk 1 ?_
  refine sN ?_
  obtain ⟨a2,a3,h⟩ := Qct h
  refine Wp.into (x := .normal) (mkS [(1,.ra 1 0),(3,I a0),(69,.bool a2)] [(1,K1s s0)]) ?_ ?_
  ·replace h := a3
   obtain ⟨a4,a5,a6,a7,h⟩ := bq2 h
   rcases is h with ⟨a8,h⟩ | ⟨a8,h⟩
   ·obtain ⟨a9,b1,b2,b3,h⟩ := bq2 h
    refine rgs hc K8t [oN,oN,oN,some (.el (I a4)),oN,oN,oN,oN,oc (.bool a6),oN,oN,oN,oN,oN,some (.el (I a9)),oN,oN,oN,oN,oc (.bool b2),oN,oF] [(1,.ra 1 0),(3,I a0),(69,.bool (!b2))] (ai (ix a5) (cq (Kam _ _ a7) K3a (ar 4 (nF a8) (ai (ix b1) (ar 5 (nF a8) (cq (Kam _ _ b3) K3a (ar 2 (nF a8) tv))))))) ?_
    obtain rfl := os h
    exact Qcf.mk
   refine rgs hc K8t [oN,oN,oN,some (.el (I a4)),oN,oN,oN,oN,oc (.bool a6),oN,oN,o_,o_,o_,o_,o_,o_,o_,o_,o_,o_,oT] [(1,.ra 1 0),(3,I a0),(69,.bool true)] (ai (ix a5) (cq (Kam _ _ a7) K3a (ar 10 (neF (nT a8)) (ai (nT a8) tv)))) ?_
   obtain rfl := os h
   exact Qcf.mk
  clear a3
  refine ic h (fun b4 h => ?_) fun b4 h => ?_
  ·refine rs0 hc 1 [(2,.bool false)] [] ?_
   refine rt ?_
   obtain rfl := os h
   exact re [true]
  refine sk ?_
  refine K8r hc 3 [(1,.ra 1 0),(3,I (wr (a0 + 1)))] ?_
  refine Qcb ?_
  exact (spec_l1Tables_l0_ih _ _ h c hc)
 refine xt 0 ?_
 refine Qc5 ?_
 refine Qcc ?_
 obtain rfl := os h
 exact iv []
def Kar (s0 : K00) : Option (Bool) :=
 ((
 (Kak (s0.fSize,2,16)) >>= fun a0 =>
 if a0 = true then
  if ((s0.fPlus.length : Int) != (wr (s0.fSize * s0.fSize))) = true then
  some (true)
  else
  if ((s0.fTimes.length : Int) != (wr (s0.fSize * s0.fSize))) = true then
  some (true)
  else
  some (((s0.fBelow.length : Int) != (wr (s0.fSize * s0.fSize))))
 else
  some (true)
 ) : Option (Bool)) >>= fun a1 =>
 if a1 = true then
 some false
 else
 (Kao (s0,0)) >>= fun fl => match fl with
 | .inl () =>
  some true
 | .inr r =>
  some r
def Kas (s0 : K00) (r : Bool) : Prop :=
 Q71 Tryz.prog 202 [K1t s0] (.bool r) []
theorem Kat : ∀ p r,Kar p = some r → Kas p r := by
 rintro s0 r h
 unfold Kar at h
 refine b0 Tryz.f202 K3b 70 [(0,K1t s0)] fun c hc => ?_
 refine rs hc none [some (.new 1),oN] [(1,.ra 1 0)] [(1,K1s s0)] tv ?_
 refine sN ?_
 refine sN ?_
 obtain ⟨a0,a1,h⟩ := Qct h
 refine Wp.into (x := .normal) (mkS [(1,.ra 1 0),(40,.bool a0)] [(1,K1s s0)]) ?_ ?_
 ·replace h := a1
  obtain ⟨a2,a3,h⟩ := Qct h
  rcases is h with ⟨a4,h⟩ | ⟨a4,h⟩
  ·rcases is h with ⟨a5,h⟩ | ⟨a5,h⟩
   ·refine rgs hc none [oN,oN,oc (.bool a2),oN,oN,oN,oN,some (.eqv (.no) ⟨[(11,I (s0.fPlus.length : Int))],[],[]⟩),oN,oN,oN,oN,oN,oN,oF,oN,o_,o_,o_,o_,o_,o_,o_,o_,o_,oT,oN,o_,o_,o_,o_,o_,o_,o_,o_,o_,oT] [(1,.ra 1 0),(40,.bool true)] (cq (Kam _ _ a3) K3a (ar 3 (nF a4) (ai (Qcz (d := 11) I s0.fPlus) (ar 7 (nF a4) (ar 9 (neF a5) (ai a5 (ar 9 nf (ai tt tv)))))))) ?_
    obtain rfl := os h
    exact Qcf.mk
   rcases is h with ⟨a6,h⟩ | ⟨a6,h⟩
   ·refine rgs hc none [oN,oN,oc (.bool a2),oN,oN,oN,oN,some (.eqv (.no) ⟨[(11,I (s0.fPlus.length : Int))],[],[]⟩),oN,oN,oN,oN,oN,oN,oF,oN,oN,oN,some (.eqv (.no) ⟨[(22,I (s0.fTimes.length : Int))],[],[]⟩),oN,oN,oN,oN,oN,oN,oF,oN,o_,o_,o_,o_,o_,o_,o_,o_,o_,oT] [(1,.ra 1 0),(40,.bool true)] (cq (Kam _ _ a3) K3a (ar 3 (nF a4) (ai (Qcz (d := 11) I s0.fPlus) (ar 7 (nF a4) (ar 3 a5 (ai (Qcz (d := 22) I s0.fTimes) (ar 7 a5 (ar 9 (neF a6) (ai a6 tv))))))))) ?_
    obtain rfl := os h
    exact Qcf.mk
   refine rgs hc none [oN,oN,oc (.bool a2),oN,oN,oN,oN,some (.eqv (.no) ⟨[(11,I (s0.fPlus.length : Int))],[],[]⟩),oN,oN,oN,oN,oN,oN,oF,oN,oN,oN,some (.eqv (.no) ⟨[(22,I (s0.fTimes.length : Int))],[],[]⟩),oN,oN,oN,oN,oN,oN,oF,oN,oN,oN,some (.eqv (.no) ⟨[(33,I (s0.fBelow.length : Int))],[],[]⟩),oN,oN,oN,oN,oN,oN,oF] [(1,.ra 1 0),(40,.bool ((s0.fBelow.length : Int) != (wr (s0.fSize * s0.fSize))))] (cq (Kam _ _ a3) K3a (ar 3 (nF a4) (ai (Qcz (d := 11) I s0.fPlus) (ar 7 (nF a4) (ar 3 a5 (ai (Qcz (d := 22) I s0.fTimes) (ar 7 a5 (ar 3 a6 (ai (Qcz (d := 33) AV.bool s0.fBelow) (ar 7 a6 tv)))))))))) ?_
   obtain rfl := os h
   exact Qcf.mk
  refine rgs hc none [oN,oN,oc (.bool a2),oN,oN,o_,o_,o_,o_,o_,o_,o_,o_,o_,oT,oN,o_,o_,o_,o_,o_,o_,o_,o_,o_,oT,oN,o_,o_,o_,o_,o_,o_,o_,o_,o_,oT] [(1,.ra 1 0),(40,.bool true)] (cq (Kam _ _ a3) K3a (ar 9 (neF (nT a4)) (ai (nT a4) (ar 9 nf (ai tt (ar 9 nf (ai tt tv))))))) ?_
  obtain rfl := os h
  exact Qcf.mk
 clear a1
 refine ic h (fun a7 h => ?_) fun a7 h => ?_
 ·refine rs0 hc 1 [(2,.bool false)] [] ?_
  refine rt ?_
  obtain rfl := os h
  exact rq [true]
 refine sk ?_
 refine sN ?_
 refine K8s hc 1 [(1,.ra 1 0),(3,I 0)] ?_
 refine bk 0 ?_
 obtain ⟨fl,a8,h⟩ := Qct h
 have hL := Kaq _ _ a8 c hc
 refine lp ?_
 rcases fl with ⟨⟩ | r
 ·refine WpL.into (e := (.exit 0)) (mkS [] []) hL ?_
  refine Qc7 ?_
  refine rs0 hc 1 [(2,.bool true)] [] ?_
  refine rt ?_
  obtain rfl := os h
  exact rq [true]
 refine WpL.mono hL ?_
 rintro _ _ ⟨rfl,hfin⟩
 obtain rfl := os h
 exact ⟨.inl rfl,hfin⟩
def Kau (p : K00 × Int × Int) : Option (Int) :=
 match p with
 | (s0,a1,b2) =>
  (idx s0.fPlus (wr ((wr (a1 * s0.fSize)) + b2))) >>= fun a0 =>
  some a0
def Kav (p : K00 × Int × Int) (r : Int) : Prop :=
 match p with
 | (s0,a1,b2) => Q71 Tryz.prog 206 [K1t s0,I a1,I b2] (I r) []
theorem Kaw : ∀ p r,Kau p = some r → Kav p r := by
 rintro ⟨s0,a1,b2⟩ r h
 unfold Kau at h
 refine b0 Tryz.f206 K3d 17 [(0,K1t s0),(1,I a1),(2,I b2)] fun c hc => ?_
 refine rs hc none [some (.new 1),oN] [(1,I a1),(2,I b2),(3,.ra 1 0)] [(1,K1s s0)] tv ?_
 obtain ⟨a0,a2,h⟩ := Qct h
 refine rs hc none [oN,oN,oN,oN,oN,oN,oN,oN,some (.el (I a0)),oN,oN] [(6,I a0)] [] (ai (ix a2) tv) ?_
 refine rt ?_
 obtain rfl := os h
 exact rq [true]
def Kax (p : K00 × Int × Int) : Option (Int) :=
 match p with
 | (s0,a1,b2) =>
  (idx s0.fTimes (wr ((wr (a1 * s0.fSize)) + b2))) >>= fun a0 =>
  some a0
def Kay (p : K00 × Int × Int) (r : Int) : Prop :=
 match p with
 | (s0,a1,b2) => Q71 Tryz.prog 168 [K1t s0,I a1,I b2] (I r) []
theorem Kaz : ∀ p r,Kax p = some r → Kay p r := by
 rintro ⟨s0,a1,b2⟩ r h
 unfold Kax at h
 refine b0 Tryz.f168 K3f 17 [(0,K1t s0),(1,I a1),(2,I b2)] fun c hc => ?_
 refine rs hc none [some (.new 1),oN] [(1,I a1),(2,I b2),(3,.ra 1 0)] [(1,K1s s0)] tv ?_
 obtain ⟨a0,a2,h⟩ := Qct h
 refine rs hc none [oN,oN,oN,oN,oN,oN,oN,oN,some (.el (I a0)),oN,oN] [(6,I a0)] [] (ai (ix a2) tv) ?_
 refine rt ?_
 obtain rfl := os h
 exact rq [true]
def Kb0 (p : K00 × Int × Int) : Option (Bool) :=
 match p with
 | (s0,a1,b2) =>
  (idx s0.fBelow (wr ((wr (a1 * s0.fSize)) + b2))) >>= fun a0 =>
  some a0
def Kb1 (p : K00 × Int × Int) (r : Bool) : Prop :=
 match p with
 | (s0,a1,b2) => Q71 Tryz.prog 149 [K1t s0,I a1,I b2] (.bool r) []
theorem Kb2 : ∀ p r,Kb0 p = some r → Kb1 p r := by
 rintro ⟨s0,a1,b2⟩ r h
 unfold Kb0 at h
 refine b0 Tryz.f149 K3h 17 [(0,K1t s0),(1,I a1),(2,I b2)] fun c hc => ?_
 refine rs hc none [some (.new 1),oN] [(1,I a1),(2,I b2),(3,.ra 1 0)] [(1,K1s s0)] tv ?_
 obtain ⟨a0,a2,h⟩ := Qct h
 refine rs hc none [oN,oN,oN,oN,oN,oN,oN,oN,some (.el (.bool a0)),oN,oN] [(6,.bool a0)] [] (ai (Qcx (enc := AV.bool) (x := .bool a0) a2 (Qda a0)) tv) ?_
 refine rt ?_
 obtain rfl := os h
 exact rq [true]
def Kb3 : Option (List (List Nat)) := rh [0,0,0,3,0,0,0,7,8,9,10,10,12,13,14,14,14,17,18,19,20,21,21,21,24,25,26,27,28,29,29,29,32,33,34,35]
def Kb4 : Option (List (List Nat)) := rx [[0],[0],[0],[0],[0,1,2,3],[0],[6],[0],[0],[0],[0],[0],[7,9,10,11],[13],[14],[15],[16],[16],[16],[16],[16,17,18,19],[16],[22],[16],[16],[16],[16],[16],[23,25,26,27],[29],[30],[31]]
def Kb5 : Option (List (List Nat)) := rx [[0],[0],[0],[0],[0],[0,2,3,4],[6],[0],[0],[0],[0],[7,8,9,10],[0],[0],[0],[7,8,9,10,11,12,13,14],[16],[17],[18],[19],[19],[19],[19],[19,20,21,22],[19],[25],[19],[19],[19],[19],[26,27,28,29],[19],[19],[19],[26,27,28,29,30,31,32,33],[35],[36],[37]]
def Kb6 : Option (List (List Nat)) := rx [[0],[0],[0],[0],[0,1,2,3],[0],[0],[0],[0,1,2,3,4,5,6,7],[9],[10],[11],[11],[11],[11],[11,12,13,14],[11],[11],[11],[11,12,13,14,15,16,17,18],[20],[21],[22],[23],[23],[23],[23],[23,24,25,26],[23],[23],[23],[23,24,25,26,27,28,29,30],[32],[33],[34]]
def Kb7 (p : K00 × Int) : Option (Bool) :=
 match p with
 | (s0,a1) =>
  ((
  (Kau (s0,0,a1)) >>= fun a0 =>
  if (a0 == a1) = true then
  (Kax (s0,1,a1)) >>= fun a2 =>
  if (a2 == a1) = true then
  (Kax (s0,a1,1)) >>= fun a3 =>
  if (a3 == a1) = true then
  (Kax (s0,0,a1)) >>= fun a4 =>
  if (a4 == 0) = true then
  (Kax (s0,a1,0)) >>= fun a5 =>
  if (a5 == 0) = true then
  (Kb0 (s0,a1,a1)) >>= fun a6 =>
  some (a6)
  else
  some (false)
  else
  some (false)
  else
  some (false)
  else
  some (false)
  else
  some (false)
  ) : Option (Bool)) >>= fun a7 =>
  some a7
def Kb8 (p : K00 × Int) (r : Bool) : Prop :=
 match p with
 | (s0,a1) => Q71 Tryz.prog 203 [K1t s0,I a1] (.bool r) []
theorem Kb9 : ∀ p r,Kb7 p = some r → Kb8 p r := by
 rintro ⟨s0,a1⟩ r h
 unfold Kb7 at h
 refine b0 Tryz.f203 K3j 42 [(0,K1t s0),(1,I a1)] fun c hc => ?_
 refine rs hc none [some (.new 1),oN] [(1,I a1),(2,.ra 1 0)] [(1,K1s s0)] tv ?_
 refine sN ?_
 obtain ⟨a0,a2,h⟩ := Qct h
 refine Wp.into (x := .normal) (mkS [(4,.bool a0)] []) ?_ ?_
 ·replace h := a2
  obtain ⟨a3,a4,h⟩ := Qct h
  rcases is h with ⟨a5,h⟩ | ⟨a5,h⟩
  ·obtain ⟨a6,a7,h⟩ := Qct h
   rcases is h with ⟨a8,h⟩ | ⟨a8,h⟩
   ·obtain ⟨a9,b1,h⟩ := Qct h
    rcases is h with ⟨b2,h⟩ | ⟨b2,h⟩
    ·obtain ⟨b3,b4,h⟩ := Qct h
     rcases is h with ⟨b5,h⟩ | ⟨b5,h⟩
     ·obtain ⟨b6,b7,h⟩ := Qct h
      rcases is h with ⟨b8,h⟩ | ⟨b8,h⟩
      ·obtain ⟨b9,c0,h⟩ := Qct h
       refine rg hc none [oN,oN,oc (I a3),oN,oN,oN,oN,oN,oc (I a6),oN,oN,oT,oN,oN,oN,oc (I a9),oN,oN,oT,oN,oN,oN,oc (I b3),oN,oT,oN,oN,oN,oc (I b6),oN,oT,oN,oN,oN,oN,oc (.bool b9),oT,oN] [(4,.bool b9)] [] (cq (Kaw _ _ a4) K3e (ar 3 a5 (cq (Kaz _ _ a7) K3g (ar 3 a5 (ar 3 a8 (cq (Kaz _ _ b1) K3g (ar 3 a8 (ar 3 b2 (cq (Kaz _ _ b4) K3g (ar 2 b2 (ar 3 b5 (cq (Kaz _ _ b7) K3g (ar 2 b5 (ar 4 b8 (cq (Kb2 _ _ c0) K3i (ai b8 tv)))))))))))))))) ?_
       obtain rfl := os h
       exact Qcf.mk
      refine rg hc none [oN,oN,oc (I a3),oN,oN,oN,oN,oN,oc (I a6),oN,oN,oT,oN,oN,oN,oc (I a9),oN,oN,oT,oN,oN,oN,oc (I b3),oN,oT,oN,oN,oN,oc (I b6),oN,oT,oN,o_,o_,o_,o_,oF,oN] [(4,.bool false)] [] (cq (Kaw _ _ a4) K3e (ar 3 a5 (cq (Kaz _ _ a7) K3g (ar 3 a5 (ar 3 a8 (cq (Kaz _ _ b1) K3g (ar 3 a8 (ar 3 b2 (cq (Kaz _ _ b4) K3g (ar 2 b2 (ar 3 b5 (cq (Kaz _ _ b7) K3g (ar 2 b5 (ar 4 (neT b8) (ai b8 tv))))))))))))))) ?_
      obtain rfl := os h
      exact Qcf.mk
     refine rg hc none [oN,oN,oc (I a3),oN,oN,oN,oN,oN,oc (I a6),oN,oN,oT,oN,oN,oN,oc (I a9),oN,oN,oT,oN,oN,oN,oc (I b3),oN,oT,oN,o_,o_,o_,o_,oF,oN,o_,o_,o_,o_,oF,oN] [(4,.bool false)] [] (cq (Kaw _ _ a4) K3e (ar 3 a5 (cq (Kaz _ _ a7) K3g (ar 3 a5 (ar 3 a8 (cq (Kaz _ _ b1) K3g (ar 3 a8 (ar 3 b2 (cq (Kaz _ _ b4) K3g (ar 2 b2 (ar 4 (neT b5) (ai b5 (ar 4 (neT (rfl : false = false)) (ai (rfl : false = false) tv)))))))))))))) ?_
     obtain rfl := os h
     exact Qcf.mk
    refine rg hc none [oN,oN,oc (I a3),oN,oN,oN,oN,oN,oc (I a6),oN,oN,oT,oN,oN,oN,oc (I a9),oN,oN,oT,oN,o_,o_,o_,o_,oF,oN,o_,o_,o_,o_,oF,oN,o_,o_,o_,o_,oF,oN] [(4,.bool false)] [] (cq (Kaw _ _ a4) K3e (ar 3 a5 (cq (Kaz _ _ a7) K3g (ar 3 a5 (ar 3 a8 (cq (Kaz _ _ b1) K3g (ar 3 a8 (ar 4 (neT b2) (ai b2 (ar 4 (neT (rfl : false = false)) (ai (rfl : false = false) (ar 4 (neT (rfl : false = false)) (ai (rfl : false = false) tv))))))))))))) ?_
    obtain rfl := os h
    exact Qcf.mk
   refine rg hc none [oN,oN,oc (I a3),oN,oN,oN,oN,oN,oc (I a6),oN,oN,oT,oN,o_,o_,o_,o_,o_,oF,oN,o_,o_,o_,o_,oF,oN,o_,o_,o_,o_,oF,oN,o_,o_,o_,o_,oF,oN] [(4,.bool false)] [] (cq (Kaw _ _ a4) K3e (ar 3 a5 (cq (Kaz _ _ a7) K3g (ar 3 a5 (ar 5 (neT a8) (ai a8 (ar 4 (neT (rfl : false = false)) (ai (rfl : false = false) (ar 4 (neT (rfl : false = false)) (ai (rfl : false = false) (ar 4 (neT (rfl : false = false)) (ai (rfl : false = false) tv)))))))))))) ?_
   obtain rfl := os h
   exact Qcf.mk
  refine rg hc none [oN,oN,oc (I a3),oN,oN,oN,o_,o_,o_,o_,o_,oF,oN,o_,o_,o_,o_,o_,oF,oN,o_,o_,o_,o_,oF,oN,o_,o_,o_,o_,oF,oN,o_,o_,o_,o_,oF,oN] [(4,.bool false)] [] (cq (Kaw _ _ a4) K3e (ar 5 (neT a5) (ai a5 (ar 5 (neT (rfl : false = false)) (ai (rfl : false = false) (ar 4 (neT (rfl : false = false)) (ai (rfl : false = false) (ar 4 (neT (rfl : false = false)) (ai (rfl : false = false) (ar 4 (neT (rfl : false = false)) (ai (rfl : false = false) tv))))))))))) ?_
  obtain rfl := os h
  exact Qcf.mk
 clear a2
 refine rt ?_
 obtain rfl := os h
 exact rq [true]
def Kba (c : Ctx) (s0 : K00) (a1 : Int) (b2 : Int) (a0 : Int) : Bool → Exit → Q0a → Prop
 | a2 => Qcf c (.exit 2) (mkS [(1,I a1),(2,I b2),(3,.ra 1 0),(7,I a0),(8,.bool a2)] [(1,K1s s0)])
def Kbb (p : K00 × Int × Int × Int × Bool × Int) : Option (Bool) :=
 match p with
 | (s0,a1,b2,a0,a2,a3) =>
  ((
  if (decide (a3 < s0.fSize)) = true then
  some (a2)
  else
  some (false)
  ) : Option (Bool)) >>= fun a4 =>
  if a4 = true then
  ((
  (Kb0 (s0,a1,a3)) >>= fun a5 =>
  if a5 = true then
  (Kb0 (s0,b2,a3)) >>= fun a6 =>
  if a6 = true then
  (Kb0 (s0,a0,a3)) >>= fun a7 =>
  some (a7)
  else
  some (true)
  else
  some (true)
  ) : Option (Bool)) >>= fun a8 =>
  Kbb (s0,a1,b2,a0,a8,(wr (a3 + 1)))
  else
  some (a2)
 partial_fixpoint
def Kbc (p : K00 × Int × Int × Int × Bool × Int) (fl : Bool) : Prop :=
 match p with
 | (s0,a1,b2,a0,a2,a3) => ∀ c : Ctx,c.nt = 55 → WpL Tryz.prog c (cl (cl (cr (cl (cr (cl (cl (cr (cl (cl (cr (cl (cr K3l))))))))))))) (Kba c s0 a1 b2 a0 fl) (mkS [(1,I a1),(2,I b2),(3,.ra 1 0),(7,I a0),(8,.bool a2),(9,I a3)] [(1,K1s s0)])
theorem Kbd : ∀ p r,Kbb p = some r → Kbc p r := by
 refine Kbb.partial_correctness Kbc ?_
 rintro spec_l1Join_l0_f spec_l1Join_l0_ih ⟨s0,a1,b2,a0,a2,a3⟩ r h
 intro c hc
 refine WpL.step ?_
 refine sN ?_
 refine sN ?_
 obtain ⟨a4,a5,h⟩ := Qct h
 refine Wp.into (x := .normal) (mkS [(1,I a1),(2,I b2),(3,.ra 1 0),(7,I a0),(8,.bool a2),(9,I a3),(32,.bool a4)] [(1,K1s s0)]) ?_ ?_
 ·replace h := a5
  rcases is h with ⟨a6,h⟩ | ⟨a6,h⟩
  ·refine rgs hc none [oN,oN,oN,oN,oN,oN,oT] [(1,I a1),(2,I b2),(3,.ra 1 0),(7,I a0),(8,.bool a2),(9,I a3),(32,.bool a2)] (ar 2 a6 tv) ?_
   obtain rfl := os h
   exact Qcf.mk
  refine rgs hc none [oN,oN,oN,oN,oN,o_,oF] [(1,I a1),(2,I b2),(3,.ra 1 0),(7,I a0),(8,.bool a2),(9,I a3),(32,.bool false)] (ab (neT a6) a6 tv) ?_
  obtain rfl := os h
  exact Qcf.mk
 clear a5
 refine ic h (fun a7 h => ?_) fun a7 h => ?_
 ·refine sk ?_
  refine sN ?_
  refine bk 3 ?_
  obtain ⟨a8,a9,h⟩ := Qct h
  refine Wp.into (x := .normal) (mkS [(1,I a1),(2,I b2),(3,.ra 1 0),(7,I a0),(8,.bool a8),(9,I a3)] [(1,K1s s0)]) ?_ ?_
  ·replace h := a9
   obtain ⟨b1,b3,h⟩ := Qct h
   rcases is h with ⟨b4,h⟩ | ⟨b4,h⟩
   ·obtain ⟨b5,b6,h⟩ := Qct h
    rcases is h with ⟨b7,h⟩ | ⟨b7,h⟩
    ·obtain ⟨b8,b9,h⟩ := Qct h
     refine rgs hc none [oN,oN,oN,oc (.bool b1),oN,oN,oN,oN,oN,oc (.bool b5),oN,oF,oN,oN,oN,oN,oc (.bool b8),oF,oN] [(1,I a1),(2,I b2),(3,.ra 1 0),(7,I a0),(8,.bool b8),(9,I a3)] (cq (Kb2 _ _ b3) K3i (ar 4 (nF b4) (cq (Kb2 _ _ b6) K3i (ar 2 (nF b4) (ar 4 (nF b7) (cq (Kb2 _ _ b9) K3i (ai (nF b7) tv))))))) ?_
     obtain rfl := os h
     exact Qcf.mk
    refine rgs hc none [oN,oN,oN,oc (.bool b1),oN,oN,oN,oN,oN,oc (.bool b5),oN,oF,oN,o_,o_,o_,o_,oT,oN] [(1,I a1),(2,I b2),(3,.ra 1 0),(7,I a0),(8,.bool true),(9,I a3)] (cq (Kb2 _ _ b3) K3i (ar 4 (nF b4) (cq (Kb2 _ _ b6) K3i (ar 2 (nF b4) (ar 4 (neF (nT b7)) (ai (nT b7) tv)))))) ?_
    obtain rfl := os h
    exact Qcf.mk
   refine rgs hc none [oN,oN,oN,oc (.bool b1),oN,oN,o_,o_,o_,o_,o_,oT,oN,o_,o_,o_,o_,oT,oN] [(1,I a1),(2,I b2),(3,.ra 1 0),(7,I a0),(8,.bool true),(9,I a3)] (cq (Kb2 _ _ b3) K3i (ar 5 (neF (nT b4)) (ai (nT b4) (ar 4 nf (ai tt tv))))) ?_
   obtain rfl := os h
   exact Qcf.mk
  clear a9
  refine K8r hc 3 [(1,I a1),(2,I b2),(3,.ra 1 0),(7,I a0),(8,.bool a8),(9,I (wr (a3 + 1)))] ?_
  refine Qcb ?_
  exact (spec_l1Join_l0_ih _ _ h c hc)
 refine xt 2 ?_
 refine Qc5 ?_
 refine Qcc ?_
 obtain rfl := os h
 exact iv []
def Kbe (c : Ctx) : (Unit) ⊕ (Int) → Exit → Q0a → Prop
 | .inl _ => Qcf c (.exit 0) (mkS [] [])
 | .inr r => Qco TIx Tryz.f215 [] (I r)
def Kbf (p : K00 × Int × Int × Int) : Option ((Unit) ⊕ (Int)) :=
 match p with
 | (s0,a1,b2,a0) =>
  if (decide (a0 < s0.fSize)) = true then
  ((
  (Kb0 (s0,a1,a0)) >>= fun a2 =>
  if a2 = true then
  (Kb0 (s0,b2,a0)) >>= fun a3 =>
  some (a3)
  else
  some (false)
  ) : Option (Bool)) >>= fun a4 =>
  (Kbb (s0,a1,b2,a0,a4,0)) >>= fun a5 =>
  if a5 = true then
  some (.inr a0)
  else
  Kbf (s0,a1,b2,(wr (a0 + 1)))
  else
  some (.inl ())
 partial_fixpoint
def Kbg (p : K00 × Int × Int × Int) (fl : (Unit) ⊕ (Int)) : Prop :=
 match p with
 | (s0,a1,b2,a0) => ∀ c : Ctx,c.nt = 55 → WpL Tryz.prog c (cl (cl (cr (cl (cr K3l))))) (Kbe c fl) (mkS [(1,I a1),(2,I b2),(3,.ra 1 0),(7,I a0)] [(1,K1s s0)])
theorem Kbh : ∀ p r,Kbf p = some r → Kbg p r := by
 refine Kbf.partial_correctness Kbg ?_
 rintro spec_l1Join_l1_f spec_l1Join_l1_ih ⟨s0,a1,b2,a0⟩ r h
 intro c hc
 refine WpL.step ?_
 refine sN ?_
 refine K8s hc 4 [(1,I a1),(2,I b2),(3,.ra 1 0),(7,I a0),(13,.bool (decide (a0 < s0.fSize)))] ?_
 refine ic h (fun a2 h => ?_) fun a2 h => ?_
 ·refine sk ?_
  refine sN ?_
  refine bk 1 ?_
  refine sN ?_
  obtain ⟨a3,a4,h⟩ := Qct h
  refine Wp.into (x := .normal) (mkS [(1,I a1),(2,I b2),(3,.ra 1 0),(7,I a0),(8,.bool a3)] [(1,K1s s0)]) ?_ ?_
  ·replace h := a4
   obtain ⟨a5,a6,h⟩ := Qct h
   rcases is h with ⟨a7,h⟩ | ⟨a7,h⟩
   ·obtain ⟨a8,a9,h⟩ := Qct h
    refine rgs hc none [oN,oN,oN,oc (.bool a5),oN,oN,oN,oN,oc (.bool a8),oT,oN] [(1,I a1),(2,I b2),(3,.ra 1 0),(7,I a0),(8,.bool a8)] (cq (Kb2 _ _ a6) K3i (ar 4 a7 (cq (Kb2 _ _ a9) K3i (ai a7 tv)))) ?_
    obtain rfl := os h
    exact Qcf.mk
   refine rgs hc none [oN,oN,oN,oc (.bool a5),oN,o_,o_,o_,o_,oF,oN] [(1,I a1),(2,I b2),(3,.ra 1 0),(7,I a0),(8,.bool false)] (cq (Kb2 _ _ a6) K3i (ar 4 (neT a7) (ai a7 tv))) ?_
   obtain rfl := os h
   exact Qcf.mk
  clear a4
  refine sN ?_
  refine K8s hc 1 [(1,I a1),(2,I b2),(3,.ra 1 0),(7,I a0),(8,.bool a3),(9,I 0)] ?_
  refine bk 2 ?_
  obtain ⟨b1,b3,h⟩ := Qct h
  have hL := Kbd _ _ b3 c hc
  refine lp ?_
  refine WpL.into (e := (.exit 2)) (mkS [(1,I a1),(2,I b2),(3,.ra 1 0),(7,I a0),(8,.bool b1)] [(1,K1s s0)]) hL ?_
  refine Qc7 ?_
  refine K8s hc 1 [(1,I a1),(2,I b2),(3,.ra 1 0),(7,I a0),(53,.bool b1)] ?_
  refine ic h (fun b4 h => ?_) fun b4 h => ?_
  ·refine rs0 hc 2 [(6,I a0)] [] ?_
   refine rt ?_
   obtain rfl := os h
   exact re [true]
  refine sk ?_
  refine K8r hc 3 [(1,I a1),(2,I b2),(3,.ra 1 0),(7,I (wr (a0 + 1)))] ?_
  refine Qcb ?_
  exact (spec_l1Join_l1_ih _ _ h c hc)
 refine xt 0 ?_
 refine Qc5 ?_
 refine Qcc ?_
 obtain rfl := os h
 exact iv []
def Kbi (p : K00 × Int × Int) : Option (Int) :=
 match p with
 | (s0,a1,b2) =>
  (Kbf (s0,a1,b2,0)) >>= fun fl => match fl with
  | .inl () =>
   some (-1)
  | .inr r =>
   some r
def Kbj (p : K00 × Int × Int) (r : Int) : Prop :=
 match p with
 | (s0,a1,b2) => Q71 Tryz.prog 215 [K1t s0,I a1,I b2] (I r) []
theorem Kbk : ∀ p r,Kbi p = some r → Kbj p r := by
 rintro ⟨s0,a1,b2⟩ r h
 unfold Kbi at h
 refine b0 Tryz.f215 K3l 55 [(0,K1t s0),(1,I a1),(2,I b2)] fun c hc => ?_
 refine rs hc none [some (.new 1),oN] [(1,I a1),(2,I b2),(3,.ra 1 0)] [(1,K1s s0)] tv ?_
 refine sN ?_
 refine K8s hc 1 [(1,I a1),(2,I b2),(3,.ra 1 0),(7,I 0)] ?_
 refine bk 0 ?_
 obtain ⟨fl,a0,h⟩ := Qct h
 have hL := Kbh _ _ a0 c hc
 refine lp ?_
 rcases fl with ⟨⟩ | r
 ·refine WpL.into (e := (.exit 0)) (mkS [] []) hL ?_
  refine Qc7 ?_
  refine rs0 hc 1 [(6,I (-1))] [] ?_
  refine rt ?_
  obtain rfl := os h
  exact rq [true]
 refine WpL.mono hL ?_
 rintro _ _ ⟨rfl,hfin⟩
 obtain rfl := os h
 exact ⟨.inl rfl,hfin⟩
def Kbl (p : K00 × Int × Int) : Option (Bool) :=
 match p with
 | (s0,a1,b2) =>
  ((
  (Kau (s0,a1,b2)) >>= fun a0 =>
  (Kau (s0,b2,a1)) >>= fun a2 =>
  if (a0 == a2) = true then
  if (a1 == b2) = true then
  (Kbi (s0,a1,b2)) >>= fun a3 =>
  some ((decide (a3 ≥ 0)))
  else
  (Kb0 (s0,a1,b2)) >>= fun a4 =>
  if a4 = true then
  (Kb0 (s0,b2,a1)) >>= fun a5 =>
  if a5 = true then
  some (false)
  else
  (Kbi (s0,a1,b2)) >>= fun a3 =>
  some ((decide (a3 ≥ 0)))
  else
  (Kbi (s0,a1,b2)) >>= fun a3 =>
  some ((decide (a3 ≥ 0)))
  else
  some (false)
  ) : Option (Bool)) >>= fun a6 =>
  some a6
def Kbm (p : K00 × Int × Int) (r : Bool) : Prop :=
 match p with
 | (s0,a1,b2) => Q71 Tryz.prog 204 [K1t s0,I a1,I b2] (.bool r) []
theorem Kbn : ∀ p r,Kbl p = some r → Kbm p r := by
 rintro ⟨s0,a1,b2⟩ r h
 unfold Kbl at h
 refine b0 Tryz.f204 K3n 42 [(0,K1t s0),(1,I a1),(2,I b2)] fun c hc => ?_
 refine rs hc none [some (.new 1),oN] [(1,I a1),(2,I b2),(3,.ra 1 0)] [(1,K1s s0)] tv ?_
 refine sN ?_
 obtain ⟨a0,a2,h⟩ := Qct h
 refine Wp.into (x := .normal) (mkS [(6,.bool a0)] []) ?_ ?_
 ·replace h := a2
  obtain ⟨a3,a4,a5,a6,h⟩ := bq2 h
  rcases is h with ⟨a7,h⟩ | ⟨a7,h⟩
  ·rcases is h with ⟨a8,h⟩ | ⟨a8,h⟩
   ·obtain ⟨a9,b1,h⟩ := Qct h
    refine rg hc Kb3 [oN,oN,oN,oc (I a3),oN,oN,oN,oc (I a5),oN,oN,oN,oN,oN,oN,o_,o_,o_,o_,o_,oT,oN,o_,o_,o_,o_,o_,oT,oT,oN,oN,oN,oN,oc (I a9),oN,oT,oN] [(6,.bool (decide (a9 ≥ 0)))] [] (cq (Kaw _ _ a4) K3e (cq (Kaw _ _ a6) K3e (ar 4 a7 (ar 5 (neF a8) (ac a7 a8 a7 (ar 5 nf (ac a7 tt a7 (ar 4 tt (cq (Kbk _ _ b1) K3m (ar 2 tt tv)))))))))) ?_
    obtain rfl := os h
    exact Qcf.mk
   obtain ⟨b3,b4,h⟩ := Qct h
   rcases is h with ⟨b5,h⟩ | ⟨b5,h⟩
   ·obtain ⟨b6,b7,h⟩ := Qct h
    rcases is h with ⟨b8,h⟩ | ⟨b8,h⟩
    ·refine rg hc Kb3 [oN,oN,oN,oc (I a3),oN,oN,oN,oc (I a5),oN,oN,oN,oN,oN,oN,oN,oN,oN,oc (.bool b3),oN,oF,oN,oN,oN,oN,oc (.bool b6),oN,oF,oT,oN,o_,o_,o_,o_,o_,oF,oN] [(6,.bool false)] [] (cq (Kaw _ _ a4) K3e (cq (Kaw _ _ a6) K3e (ar 4 a7 (ar 4 a8 (cq (Kb2 _ _ b4) K3i (ad a8 a7 a8 a7 (ar 4 (nF b5) (cq (Kb2 _ _ b7) K3i (ad (nF b5) a7 (nF b5) a7 (ar 5 (neT (nF b8)) (ai (nF b8) tv))))))))))) ?_
     obtain rfl := os h
     exact Qcf.mk
    obtain ⟨a9,b1,h⟩ := Qct h
    refine rg hc Kb3 [oN,oN,oN,oc (I a3),oN,oN,oN,oc (I a5),oN,oN,oN,oN,oN,oN,oN,oN,oN,oc (.bool b3),oN,oF,oN,oN,oN,oN,oc (.bool b6),oN,oF,oT,oN,oN,oN,oN,oc (I a9),oN,oT,oN] [(6,.bool (decide (a9 ≥ 0)))] [] (cq (Kaw _ _ a4) K3e (cq (Kaw _ _ a6) K3e (ar 4 a7 (ar 4 a8 (cq (Kb2 _ _ b4) K3i (ad a8 a7 a8 a7 (ar 4 (nF b5) (cq (Kb2 _ _ b7) K3i (ad (nF b5) a7 (nF b5) a7 (ar 4 (nT b8) (cq (Kbk _ _ b1) K3m (ar 2 (nT b8) tv)))))))))))) ?_
    obtain rfl := os h
    exact Qcf.mk
   obtain ⟨a9,b1,h⟩ := Qct h
   refine rg hc Kb3 [oN,oN,oN,oc (I a3),oN,oN,oN,oc (I a5),oN,oN,oN,oN,oN,oN,oN,oN,oN,oc (.bool b3),oN,oF,oN,o_,o_,o_,o_,o_,oT,oT,oN,oN,oN,oN,oc (I a9),oN,oT,oN] [(6,.bool (decide (a9 ≥ 0)))] [] (cq (Kaw _ _ a4) K3e (cq (Kaw _ _ a6) K3e (ar 4 a7 (ar 4 a8 (cq (Kb2 _ _ b4) K3i (ad a8 a7 a8 a7 (ar 5 (neF (nT b5)) (ac a7 (nT b5) a7 (ar 4 tt (cq (Kbk _ _ b1) K3m (ar 2 tt tv))))))))))) ?_
   obtain rfl := os h
   exact Qcf.mk
  refine rg hc Kb3 [oN,oN,oN,oc (I a3),oN,oN,oN,oc (I a5),oN,oN,o_,o_,o_,o_,o_,o_,o_,o_,o_,o_,o_,o_,o_,o_,o_,o_,o_,oF,oN,o_,o_,o_,o_,o_,oF,oN] [(6,.bool false)] [] (cq (Kaw _ _ a4) K3e (cq (Kaw _ _ a6) K3e (ar 7 (neT a7) (ai a7 (ar 5 (neT (rfl : false = false)) (ai (rfl : false = false) tv)))))) ?_
  obtain rfl := os h
  exact Qcf.mk
 clear a2
 refine rt ?_
 obtain rfl := os h
 exact rq [true]
def Kbo (p : K00 × Int × Int × Int) : Option (Bool) :=
 match p with
 | (s0,a1,b2,c3) =>
  ((
  (Kau (s0,a1,b2)) >>= fun a0 =>
  (Kau (s0,a0,c3)) >>= fun a2 =>
  (Kau (s0,b2,c3)) >>= fun a3 =>
  (Kau (s0,a1,a3)) >>= fun a4 =>
  if (a2 != a4) = true then
  some (true)
  else
  (Kax (s0,a1,b2)) >>= fun a5 =>
  (Kax (s0,a5,c3)) >>= fun a6 =>
  (Kax (s0,b2,c3)) >>= fun a7 =>
  (Kax (s0,a1,a7)) >>= fun a8 =>
  some ((a6 != a8))
  ) : Option (Bool)) >>= fun a9 =>
  if a9 = true then
  some false
  else
  ((
  (Kau (s0,b2,c3)) >>= fun b1 =>
  (Kax (s0,a1,b1)) >>= fun b3 =>
  (Kax (s0,a1,b2)) >>= fun b4 =>
  (Kax (s0,a1,c3)) >>= fun b5 =>
  (Kau (s0,b4,b5)) >>= fun b6 =>
  if (b3 != b6) = true then
  some (true)
  else
  (Kau (s0,a1,b2)) >>= fun b7 =>
  (Kax (s0,b7,c3)) >>= fun b8 =>
  (Kax (s0,a1,c3)) >>= fun b9 =>
  (Kax (s0,b2,c3)) >>= fun c0 =>
  (Kau (s0,b9,c0)) >>= fun c1 =>
  some ((b8 != c1))
  ) : Option (Bool)) >>= fun c2 =>
  if c2 = true then
  some false
  else
  (Kb0 (s0,a1,b2)) >>= fun c4 =>
  if c4 = true then
  ((
  (Kb0 (s0,b2,c3)) >>= fun c5 =>
  if c5 = true then
  (Kb0 (s0,a1,c3)) >>= fun c6 =>
  some ((!c6))
  else
  some (false)
  ) : Option (Bool)) >>= fun c7 =>
  if c7 = true then
  some false
  else
  ((
  (Kau (s0,a1,c3)) >>= fun c8 =>
  (Kau (s0,b2,c3)) >>= fun c9 =>
  (Kb0 (s0,c8,c9)) >>= fun d0 =>
  if d0 = true then
  (Kax (s0,a1,c3)) >>= fun d1 =>
  (Kax (s0,b2,c3)) >>= fun d2 =>
  (Kb0 (s0,d1,d2)) >>= fun d3 =>
  if d3 = true then
  (Kax (s0,c3,a1)) >>= fun d4 =>
  (Kax (s0,c3,b2)) >>= fun d5 =>
  (Kb0 (s0,d4,d5)) >>= fun d6 =>
  some (d6)
  else
  some (false)
  else
  some (false)
  ) : Option (Bool)) >>= fun d7 =>
  some d7
  else
  some true
def Kbp (p : K00 × Int × Int × Int) (r : Bool) : Prop :=
 match p with
 | (s0,a1,b2,c3) => Q71 Tryz.prog 205 [K1t s0,I a1,I b2,I c3] (.bool r) []
theorem Kbq : ∀ p r,Kbo p = some r → Kbp p r := by
 rintro ⟨s0,a1,b2,c3⟩ r h
 unfold Kbo at h
 refine b0 Tryz.f205 K3p 129 [(0,K1t s0),(1,I a1),(2,I b2),(3,I c3)] fun c hc => ?_
 refine rs hc none [some (.new 1),oN] [(1,I a1),(2,I b2),(3,I c3),(4,.ra 1 0)] [(1,K1s s0)] tv ?_
 refine sN ?_
 refine sN ?_
 obtain ⟨a0,a2,h⟩ := Qct h
 refine Wp.into (x := .normal) (mkS [(1,I a1),(2,I b2),(3,I c3),(4,.ra 1 0),(40,.bool a0)] [(1,K1s s0)]) ?_ ?_
 ·replace h := a2
  obtain ⟨a3,a4,a5,a6,a7,a8,a9,b1,h⟩ := bq4 h
  rcases is h with ⟨b3,h⟩ | ⟨b3,h⟩
  ·refine rgs hc Kb4 [oN,oN,oN,oN,oc (I a3),oN,oc (I a5),oN,oN,oN,oN,oN,oc (I a7),oc (I a9),oN,oN,o_,o_,o_,o_,o_,o_,o_,o_,o_,o_,o_,o_,o_,o_,o_,oT] [(1,I a1),(2,I b2),(3,I c3),(4,.ra 1 0),(40,.bool true)] (cq (Kaw _ _ a4) K3e (cq (Kaw _ _ a6) K3e (cq (Kaw _ _ a8) K3e (cq (Kaw _ _ b1) K3e (ar 15 (neF b3) (ai b3 tv)))))) ?_
   obtain rfl := os h
   exact Qcf.mk
  obtain ⟨b4,b5,b6,b7,b8,b9,c0,c1,h⟩ := bq4 h
  refine rgs hc Kb4 [oN,oN,oN,oN,oc (I a3),oN,oc (I a5),oN,oN,oN,oN,oN,oc (I a7),oc (I a9),oN,oN,oN,oN,oN,oN,oc (I b4),oN,oc (I b6),oN,oN,oN,oN,oN,oc (I b8),oc (I c0),oN,oF] [(1,I a1),(2,I b2),(3,I c3),(4,.ra 1 0),(40,.bool (b6 != c0))] (cq (Kaw _ _ a4) K3e (cq (Kaw _ _ a6) K3e (cq (Kaw _ _ a8) K3e (cq (Kaw _ _ b1) K3e (ar 5 b3 (cq (Kaz _ _ b5) K3g (ar 2 b3 (cq (Kaz _ _ b7) K3g (ar 6 b3 (cq (Kaz _ _ b9) K3g (ai b3 (cq (Kaz _ _ c1) K3g (ar 2 b3 tv))))))))))))) ?_
  obtain rfl := os h
  exact Qcf.mk
 clear a2
 refine ic h (fun c2 h => ?_) fun c2 h => ?_
 ·refine rs0 hc 1 [(8,.bool false)] [] ?_
  refine rt ?_
  obtain rfl := os h
  exact rq [true]
 refine sk ?_
 refine sN ?_
 refine sN ?_
 obtain ⟨c4,c5,h⟩ := Qct h
 refine Wp.into (x := .normal) (mkS [(1,I a1),(2,I b2),(3,I c3),(4,.ra 1 0),(78,.bool c4)] [(1,K1s s0)]) ?_ ?_
 ·replace h := c5
  obtain ⟨c6,c7,c8,c9,d0,d1,d2,d3,h⟩ := bq4 h
  obtain ⟨d4,d5,h⟩ := Qct h
  rcases is h with ⟨d6,h⟩ | ⟨d6,h⟩
  ·refine rgs hc Kb5 [oN,oN,oN,oN,oN,oc (I c6),oc (I c8),oN,oN,oN,oN,oc (I d0),oN,oN,oN,oc (I d2),oc (I d4),oN,oN,o_,o_,o_,o_,o_,o_,o_,o_,o_,o_,o_,o_,o_,o_,o_,o_,o_,o_,oT] [(1,I a1),(2,I b2),(3,I c3),(4,.ra 1 0),(78,.bool true)] (cq (Kaw _ _ c7) K3e (cq (Kaz _ _ c9) K3g (cq (Kaz _ _ d1) K3g (cq (Kaz _ _ d3) K3g (cq (Kaw _ _ d5) K3e (ar 18 (neF d6) (ai d6 tv))))))) ?_
   obtain rfl := os h
   exact Qcf.mk
  obtain ⟨d7,d8,d9,e0,e1,e2,e3,e4,h⟩ := bq4 h
  obtain ⟨e5,e6,h⟩ := Qct h
  refine rgs hc Kb5 [oN,oN,oN,oN,oN,oc (I c6),oc (I c8),oN,oN,oN,oN,oc (I d0),oN,oN,oN,oc (I d2),oc (I d4),oN,oN,oN,oN,oN,oN,oc (I d7),oN,oc (I d9),oN,oN,oN,oN,oc (I e1),oN,oN,oN,oc (I e3),oc (I e5),oN,oF] [(1,I a1),(2,I b2),(3,I c3),(4,.ra 1 0),(78,.bool (d9 != e5))] (cq (Kaw _ _ c7) K3e (cq (Kaz _ _ c9) K3g (cq (Kaz _ _ d1) K3g (cq (Kaz _ _ d3) K3g (cq (Kaw _ _ d5) K3e (ar 5 d6 (cq (Kaw _ _ d8) K3e (ar 2 d6 (cq (Kaz _ _ e0) K3g (ar 5 d6 (cq (Kaz _ _ e2) K3g (ar 4 d6 (cq (Kaz _ _ e4) K3g (ai d6 (cq (Kaw _ _ e6) K3e (ar 2 d6 tv)))))))))))))))) ?_
  obtain rfl := os h
  exact Qcf.mk
 clear c5
 refine ic h (fun e7 h => ?_) fun e7 h => ?_
 ·refine rs0 hc 1 [(8,.bool false)] [] ?_
  refine rt ?_
  obtain rfl := os h
  exact rq [true]
 refine sk ?_
 refine sN ?_
 obtain ⟨e8,e9,h⟩ := Qct h
 refine rss hc none [oN,oN,oN,oc (.bool e8),oN] [(1,I a1),(2,I b2),(3,I c3),(4,.ra 1 0),(83,.bool (!e8))] (cq (Kb2 _ _ e9) K3i tv) ?_
 rcases is h with ⟨f0,h⟩ | ⟨f0,h⟩
 ·refine cF (!e8) (nF f0) ?_
  refine sk ?_
  refine sN ?_
  refine sN ?_
  obtain ⟨f1,f2,h⟩ := Qct h
  refine Wp.into (x := .normal) (mkS [(1,I a1),(2,I b2),(3,I c3),(4,.ra 1 0),(94,.bool f1)] [(1,K1s s0)]) ?_ ?_
  ·replace h := f2
   obtain ⟨f3,f4,h⟩ := Qct h
   rcases is h with ⟨f5,h⟩ | ⟨f5,h⟩
   ·obtain ⟨f6,f7,h⟩ := Qct h
    refine rgs hc none [oN,oN,oN,oc (.bool f3),oN,oN,oN,oN,oc (.bool f6),oN,oT] [(1,I a1),(2,I b2),(3,I c3),(4,.ra 1 0),(94,.bool (!f6))] (cq (Kb2 _ _ f4) K3i (ar 4 f5 (cq (Kb2 _ _ f7) K3i (ar 2 f5 tv)))) ?_
    obtain rfl := os h
    exact Qcf.mk
   refine rgs hc none [oN,oN,oN,oc (.bool f3),oN,o_,o_,o_,o_,o_,oF] [(1,I a1),(2,I b2),(3,I c3),(4,.ra 1 0),(94,.bool false)] (cq (Kb2 _ _ f4) K3i (ar 5 (neT f5) (ai f5 tv))) ?_
   obtain rfl := os h
   exact Qcf.mk
  clear f2
  refine ic h (fun f8 h => ?_) fun f8 h => ?_
  ·refine rs0 hc 1 [(8,.bool false)] [] ?_
   refine rt ?_
   obtain rfl := os h
   exact rq [true]
  refine sk ?_
  refine sN ?_
  obtain ⟨f9,g0,h⟩ := Qct h
  refine Wp.into (x := .normal) (mkS [(8,.bool f9)] []) ?_ ?_
  ·replace h := g0
   obtain ⟨g1,g2,g3,g4,g5,g6,h⟩ := bq3 h
   rcases is h with ⟨g7,h⟩ | ⟨g7,h⟩
   ·obtain ⟨g8,g9,i0,i1,i2,i3,h⟩ := bq3 h
    rcases is h with ⟨i4,h⟩ | ⟨i4,h⟩
    ·obtain ⟨i5,i6,i7,i8,i9,j0,h⟩ := bq3 h
     refine rg hc Kb6 [oN,oN,oN,oN,oc (I g1),oN,oN,oN,oc (I g3),oc (.bool g5),oN,oN,oN,oN,oN,oc (I g8),oN,oN,oN,oc (I i0),oc (.bool i2),oT,oN,oN,oN,oN,oN,oc (I i5),oN,oN,oN,oc (I i7),oc (.bool i9),oT,oN] [(8,.bool i9)] [] (cq (Kaw _ _ g2) K3e (cq (Kaw _ _ g4) K3e (cq (Kb2 _ _ g6) K3i (ar 5 g7 (cq (Kaz _ _ g9) K3g (ar 4 g7 (cq (Kaz _ _ i1) K3g (ai g7 (cq (Kb2 _ _ i3) K3i (ai g7 (ar 5 i4 (cq (Kaz _ _ i6) K3g (ar 4 i4 (cq (Kaz _ _ i8) K3g (ai i4 (cq (Kb2 _ _ j0) K3i (ai i4 tv))))))))))))))))) ?_
     obtain rfl := os h
     exact Qcf.mk
    refine rg hc Kb6 [oN,oN,oN,oN,oc (I g1),oN,oN,oN,oc (I g3),oc (.bool g5),oN,oN,oN,oN,oN,oc (I g8),oN,oN,oN,oc (I i0),oc (.bool i2),oT,oN,o_,o_,o_,o_,o_,o_,o_,o_,o_,o_,oF,oN] [(8,.bool false)] [] (cq (Kaw _ _ g2) K3e (cq (Kaw _ _ g4) K3e (cq (Kb2 _ _ g6) K3i (ar 5 g7 (cq (Kaz _ _ g9) K3g (ar 4 g7 (cq (Kaz _ _ i1) K3g (ai g7 (cq (Kb2 _ _ i3) K3i (ai g7 (ar 10 (neT i4) (ai i4 tv)))))))))))) ?_
    obtain rfl := os h
    exact Qcf.mk
   refine rg hc Kb6 [oN,oN,oN,oN,oc (I g1),oN,oN,oN,oc (I g3),oc (.bool g5),oN,o_,o_,o_,o_,o_,o_,o_,o_,o_,o_,oF,oN,o_,o_,o_,o_,o_,o_,o_,o_,o_,o_,oF,oN] [(8,.bool false)] [] (cq (Kaw _ _ g2) K3e (cq (Kaw _ _ g4) K3e (cq (Kb2 _ _ g6) K3i (ar 10 (neT g7) (ai g7 (ar 10 (neT (rfl : false = false)) (ai (rfl : false = false) tv))))))) ?_
   obtain rfl := os h
   exact Qcf.mk
  clear g0
  refine rt ?_
  obtain rfl := os h
  exact rq [true]
 refine cT (!e8) (nT f0) ?_
 refine rs0 hc 1 [(8,.bool true)] [] ?_
 refine rt ?_
 obtain rfl := os h
 exact rq [true]
def Kbr (c : Ctx) (s0 : K00) (a0 : Int) (a1 : Int) : (Unit) ⊕ (Bool) → Exit → Q0a → Prop
 | .inl _ => Qcf c (.exit 4) (mkS [(1,.ra 1 0),(3,I a0),(4,I a1)] [(1,K1s s0)])
 | .inr r => Qco TIx Tryz.f139 [] (.bool r)
def Kbs (p : K00 × Int × Int × Int) : Option ((Unit) ⊕ (Bool)) :=
 match p with
 | (s0,a0,a1,a2) =>
  if (decide (a2 < s0.fSize)) = true then
  (Kbo (s0,a0,a1,a2)) >>= fun a3 =>
  if a3 = true then
  Kbs (s0,a0,a1,(wr (a2 + 1)))
  else
  some (.inr false)
  else
  some (.inl ())
 partial_fixpoint
def Kbt (p : K00 × Int × Int × Int) (fl : (Unit) ⊕ (Bool)) : Prop :=
 match p with
 | (s0,a0,a1,a2) => ∀ c : Ctx,c.nt = 42 → WpL Tryz.prog c (cl (cl (cr (cr (cl (cl (cr (cl (cl (cr (cr (cl (cl (cr (cl (cl (cr (cl (cr (cr K3r)))))))))))))))))))) (Kbr c s0 a0 a1 fl) (mkS [(1,.ra 1 0),(3,I a0),(4,I a1),(5,I a2)] [(1,K1s s0)])
theorem Kbu : ∀ p r,Kbs p = some r → Kbt p r := by
 refine Kbs.partial_correctness Kbt ?_
 rintro spec_IsSystem_l0_f spec_IsSystem_l0_ih ⟨s0,a0,a1,a2⟩ r h
 intro c hc
 refine WpL.step ?_
 refine sN ?_
 refine K8s hc 4 [(1,.ra 1 0),(3,I a0),(4,I a1),(5,I a2),(33,.bool (decide (a2 < s0.fSize)))] ?_
 refine ic h (fun a3 h => ?_) fun a3 h => ?_
 ·refine sk ?_
  refine sN ?_
  refine bk 5 ?_
  obtain ⟨a4,a5,h⟩ := Qct h
  refine rss hc none [oN,oN,oN,oN,oc (.bool a4),oN] [(1,.ra 1 0),(3,I a0),(4,I a1),(5,I a2),(41,.bool (!a4))] (cq (Kbq _ _ a5) K3q tv) ?_
  rcases is h with ⟨a6,h⟩ | ⟨a6,h⟩
  ·refine cF (!a4) (nF a6) ?_
   refine sk ?_
   refine K8r hc 3 [(1,.ra 1 0),(3,I a0),(4,I a1),(5,I (wr (a2 + 1)))] ?_
   refine Qcb ?_
   exact (spec_IsSystem_l0_ih _ _ h c hc)
  refine cT (!a4) (nT a6) ?_
  refine rs0 hc 1 [(2,.bool false)] [] ?_
  refine rt ?_
  obtain rfl := os h
  exact re [true]
 refine xt 4 ?_
 refine Qc5 ?_
 refine Qcc ?_
 obtain rfl := os h
 exact iv []
def Kbv (c : Ctx) (s0 : K00) (a0 : Int) : (Unit) ⊕ (Bool) → Exit → Q0a → Prop
 | .inl _ => Qcf c (.exit 2) (mkS [(1,.ra 1 0),(3,I a0)] [(1,K1s s0)])
 | .inr r => Qco TIx Tryz.f139 [] (.bool r)
def Kbw (p : K00 × Int × Int) : Option ((Unit) ⊕ (Bool)) :=
 match p with
 | (s0,a0,a1) =>
  if (decide (a1 < s0.fSize)) = true then
  (Kbl (s0,a0,a1)) >>= fun a2 =>
  if a2 = true then
  (Kbs (s0,a0,a1,0)) >>= fun fl => match fl with
  | .inl () =>
   Kbw (s0,a0,(wr (a1 + 1)))
  | .inr r =>
   some (.inr r)
  else
  some (.inr false)
  else
  some (.inl ())
 partial_fixpoint
def Kbx (p : K00 × Int × Int) (fl : (Unit) ⊕ (Bool)) : Prop :=
 match p with
 | (s0,a0,a1) => ∀ c : Ctx,c.nt = 42 → WpL Tryz.prog c (cl (cl (cr (cr (cl (cl (cr (cl (cl (cr (cl (cr (cr K3r))))))))))))) (Kbv c s0 a0 fl) (mkS [(1,.ra 1 0),(3,I a0),(4,I a1)] [(1,K1s s0)])
theorem Kby : ∀ p r,Kbw p = some r → Kbx p r := by
 refine Kbw.partial_correctness Kbx ?_
 rintro spec_IsSystem_l1_f spec_IsSystem_l1_ih ⟨s0,a0,a1⟩ r h
 intro c hc
 refine WpL.step ?_
 refine sN ?_
 refine K8s hc 4 [(1,.ra 1 0),(3,I a0),(4,I a1),(22,.bool (decide (a1 < s0.fSize)))] ?_
 refine ic h (fun a2 h => ?_) fun a2 h => ?_
 ·refine sk ?_
  refine sN ?_
  refine bk 3 ?_
  refine sN ?_
  obtain ⟨a3,a4,h⟩ := Qct h
  refine rss hc none [oN,oN,oN,oc (.bool a3),oN] [(1,.ra 1 0),(3,I a0),(4,I a1),(29,.bool (!a3))] (cq (Kbn _ _ a4) K3o tv) ?_
  rcases is h with ⟨a5,h⟩ | ⟨a5,h⟩
  ·refine cF (!a3) (nF a5) ?_
   refine sk ?_
   refine K8s hc 1 [(1,.ra 1 0),(3,I a0),(4,I a1),(5,I 0)] ?_
   refine bk 4 ?_
   obtain ⟨fl,a6,h⟩ := Qct h
   have hL := Kbu _ _ a6 c hc
   refine lp ?_
   rcases fl with ⟨⟩ | r
   ·refine WpL.into (e := (.exit 4)) (mkS [(1,.ra 1 0),(3,I a0),(4,I a1)] [(1,K1s s0)]) hL ?_
    refine Qc7 ?_
    refine K8r hc 3 [(1,.ra 1 0),(3,I a0),(4,I (wr (a1 + 1)))] ?_
    refine Qcb ?_
    exact (spec_IsSystem_l1_ih _ _ h c hc)
   refine WpL.mono hL ?_
   rintro _ _ ⟨rfl,hfin⟩
   obtain rfl := os h
   exact ⟨rfl,hfin⟩
  refine cT (!a3) (nT a5) ?_
  refine rs0 hc 1 [(2,.bool false)] [] ?_
  refine rt ?_
  obtain rfl := os h
  exact re [true]
 refine xt 2 ?_
 refine Qc5 ?_
 refine Qcc ?_
 obtain rfl := os h
 exact iv []
def Kbz (c : Ctx) : (Unit) ⊕ (Bool) → Exit → Q0a → Prop
 | .inl _ => Qcf c (.exit 0) (mkS [] [])
 | .inr r => Qco TIx Tryz.f139 [] (.bool r)
end Go.Am
