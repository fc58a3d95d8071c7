/- Functions of the program as pure functions,and that it computes them. Printed by a program of mine (gen.py). -/
import Derived.Test.YtkboikcppljkeaaGreatGCHKTi
set_option linter.unusedVariables false
set_option linter.unusedSimpArgs false
set_option maxRecDepth 100000
namespace Go.Am
open Go Go.Proofs
def K8e (p : (List Int) × Int) : Option (Int) :=
 match p with
 | (a0,left1) =>
  if (decide ((wr (left1 - (a0.length : Int))) < 0)) = true then
  some (-1)
  else
  some (wr (left1 - (a0.length : Int)))
def K8f (p : (List Int) × Int) (r : Int) : Prop :=
 match p with
 | (a0,left1) => Q71 Tryz.prog 32 [sI a0,I left1] (I r) []
theorem K8g : ∀ p r,K8e p = some r → K8f p r := by
 rintro ⟨a0,left1⟩ r h
 unfold K8e at h
 refine b0 Tryz.f32 B32 12 [(0,sI a0),(1,I left1)] fun c hc => ?_
 refine rs0 hc 1 [(0,sI a0),(1,I left1)] [] ?_
 refine rs hc none [oN,oN,some (.eqv (.no) ⟨[(7,I (a0.length : Int))],[],[]⟩),oN,oN] [(1,I (wr (left1 - (a0.length : Int))))] [] (ai (Qdj (d := 7) I a0) tv) ?_
 refine sN ?_
 refine rs0 hc 2 [(1,I (wr (left1 - (a0.length : Int)))),(10,.bool (decide ((wr (left1 - (a0.length : Int))) < 0)))] [] ?_
 refine ic h (fun a1 h => ?_) fun a1 h => ?_
 ·refine rs0 hc 1 [(4,I (-1))] [] ?_
  refine rt ?_
  obtain rfl := os h
  exact rq [true]
 refine sk ?_
 refine rs0 hc 2 [(4,I (wr (left1 - (a0.length : Int))))] [] ?_
 refine rt ?_
 obtain rfl := os h
 exact rq [true]
def K8h (p : (List Bool) × Int) : Option (Int) :=
 match p with
 | (a0,left1) =>
  if (decide ((wr (left1 - (a0.length : Int))) < 0)) = true then
  some (-1)
  else
  some (wr (left1 - (a0.length : Int)))
def K8i (p : (List Bool) × Int) (r : Int) : Prop :=
 match p with
 | (a0,left1) => Q71 Tryz.prog 33 [sB a0,I left1] (I r) []
theorem K8j : ∀ p r,K8h p = some r → K8i p r := by
 rintro ⟨a0,left1⟩ r h
 unfold K8h at h
 refine b0 Tryz.f33 B33 12 [(0,sB a0),(1,I left1)] fun c hc => ?_
 refine rs0 hc 1 [(0,sB a0),(1,I left1)] [] ?_
 refine rs hc none [oN,oN,some (.eqv (.no) ⟨[(7,I (a0.length : Int))],[],[]⟩),oN,oN] [(1,I (wr (left1 - (a0.length : Int))))] [] (ai (Qdj (d := 7) AV.bool a0) tv) ?_
 refine sN ?_
 refine rs0 hc 2 [(1,I (wr (left1 - (a0.length : Int)))),(10,.bool (decide ((wr (left1 - (a0.length : Int))) < 0)))] [] ?_
 refine ic h (fun a1 h => ?_) fun a1 h => ?_
 ·refine rs0 hc 1 [(4,I (-1))] [] ?_
  refine rt ?_
  obtain rfl := os h
  exact rq [true]
 refine sk ?_
 refine rs0 hc 2 [(4,I (wr (left1 - (a0.length : Int))))] [] ?_
 refine rt ?_
 obtain rfl := os h
 exact rq [true]
def K8k (p : K00 × Int) : Option (Int) :=
 match p with
 | (a0,left1) =>
  (K8e (a0.fPlus,left1)) >>= fun a1 =>
  if (decide (a1 < 0)) = true then
  some (-1)
  else
  (K8e (a0.fTimes,a1)) >>= fun a2 =>
  if (decide (a2 < 0)) = true then
  some (-1)
  else
  (K8h (a0.fBelow,a2)) >>= fun a3 =>
  if (decide (a3 < 0)) = true then
  some (-1)
  else
  some a3
def K8l (p : K00 × Int) (r : Int) : Prop :=
 match p with
 | (a0,left1) => Q71 Tryz.prog 6 [K2e a0,I left1] (I r) []
theorem K8m : ∀ p r,K8k p = some r → K8l p r := by
 rintro ⟨a0,left1⟩ r h
 unfold K8k at h
 refine b0 Tryz.f6 B6 24 [(0,K2e a0),(1,I left1)] fun c hc => ?_
 refine rs hc none [some (.new 1),oN] [(1,I left1),(2,.ra 1 0)] [(1,K2d a0)] tv ?_
 obtain ⟨a1,a2,h⟩ := Qdd h
 refine rss hc none [oN,oN,oN,oc (I a1),oN] [(1,I a1),(2,.ra 1 0)] (cq (K8g _ _ a2) K3r tv) ?_
 refine sN ?_
 refine K8d hc 2 [(1,I a1),(2,.ra 1 0),(10,.bool (decide (a1 < 0)))] ?_
 refine ic h (fun a3 h => ?_) fun a3 h => ?_
 ·refine rs0 hc 1 [(4,I (-1))] [] ?_
  refine rt ?_
  obtain rfl := os h
  exact rq [true]
 refine sk ?_
 obtain ⟨a4,a5,h⟩ := Qdd h
 refine rss hc none [oN,oN,oN,oc (I a4),oN] [(1,I a4),(2,.ra 1 0)] (cq (K8g _ _ a5) K3r tv) ?_
 refine sN ?_
 refine K8d hc 2 [(1,I a4),(2,.ra 1 0),(16,.bool (decide (a4 < 0)))] ?_
 refine ic h (fun a6 h => ?_) fun a6 h => ?_
 ·refine rs0 hc 1 [(4,I (-1))] [] ?_
  refine rt ?_
  obtain rfl := os h
  exact rq [true]
 refine sk ?_
 obtain ⟨a7,a8,h⟩ := Qdd h
 refine rs hc none [oN,oN,oN,oc (I a7),oN] [(1,I a7)] [] (cq (K8j _ _ a8) K3s tv) ?_
 refine sN ?_
 refine rs0 hc 2 [(1,I a7),(22,.bool (decide (a7 < 0)))] [] ?_
 refine ic h (fun a9 h => ?_) fun a9 h => ?_
 ·refine rs0 hc 1 [(4,I (-1))] [] ?_
  refine rt ?_
  obtain rfl := os h
  exact rq [true]
 refine sk ?_
 refine rs0 hc 2 [(4,I a7)] [] ?_
 refine rt ?_
 obtain rfl := os h
 exact rq [true]
def K8n (c : Ctx) : (Int) ⊕ (Int) → Exit → Q0a → Prop
 | .inl a0 => Qcz c (.exit 0) (mkS [(1,I a0)] [])
 | .inr r => Qd8 TIx Tryz.f14 [] (I r)
def K8o (p : LL × Int × Int) : Option ((Int) ⊕ (Int)) :=
 match p with
 | (a0,a1,a2) =>
  if (decide (a2 < (a0.length : Int))) = true then
  (idx a0 a2) >>= fun a3 =>
  (K8e (a3,a1)) >>= fun a4 =>
  if (decide (a4 < 0)) = true then
  some (.inr (-1))
  else
  K8o (a0,a4,(wr (a2 + 1)))
  else
  some (.inl a1)
 partial_fixpoint
def K8p (p : LL × Int × Int) (fl : (Int) ⊕ (Int)) : Prop :=
 match p with
 | (a0,a1,a2) => ∀ c : Ctx,c.nt = 27 → WpL Tryz.prog c (cl (cl (cr (cl (cr (cr (cr B14))))))) (K8n c fl) (mkS [(0,sL a0),(1,I a1),(5,I a2)] [])
theorem K8q : ∀ p r,K8o p = some r → K8p p r := by
 refine K8o.partial_correctness K8p ?_
 rintro laws_szIntSS_l0_f laws_szIntSS_l0_ih ⟨a0,a1,a2⟩ r h
 intro c hc
 refine WpL.step ?_
 refine sN ?_
 refine rs hc none [oN,oN,some (.eqv (.no) ⟨[(14,I (a0.length : Int))],[],[]⟩),oN] [(0,sL a0),(1,I a1),(5,I a2),(15,.bool (decide (a2 < (a0.length : Int))))] [] (ai (Qdj (d := 14) K07 a0) tv) ?_
 refine ic h (fun a3 h => ?_) fun a3 h => ?_
 ·refine sk ?_
  refine sN ?_
  refine bk 1 ?_
  obtain ⟨a4,a5,a6,a7,h⟩ := bq2 h
  refine rs hc none [oN,oN,some (.el (sI a4)),oN,oN,oc (I a6),oN] [(0,sL a0),(1,I a6),(5,I a2)] [] (ai (xL a5) (cq (K8g _ _ a7) K3r tv)) ?_
  refine rs0 hc 2 [(0,sL a0),(1,I a6),(5,I a2),(25,.bool (decide (a6 < 0)))] [] ?_
  refine ic h (fun a8 h => ?_) fun a8 h => ?_
  ·refine rs0 hc 1 [(4,I (-1))] [] ?_
   refine rt ?_
   obtain rfl := os h
   exact re [true]
  refine sk ?_
  refine rg0 hc 3 [(0,sL a0),(1,I a6),(5,I (wr (a2 + 1)))] [] ?_
  refine Qcv ?_
  exact (laws_szIntSS_l0_ih _ _ h c hc)
 refine xt 0 ?_
 refine Qcp ?_
 refine Qcw ?_
 obtain rfl := os h
 exact iv []
def K8r (p : LL × Int) : Option (Int) :=
 match p with
 | (a0,left1) =>
  if (decide ((wr (left1 - (a0.length : Int))) < 0)) = true then
  some (-1)
  else
  (K8o (a0,(wr (left1 - (a0.length : Int))),0)) >>= fun fl => match fl with
  | .inl a1 =>
   some a1
  | .inr r =>
   some r
def K8s (p : LL × Int) (r : Int) : Prop :=
 match p with
 | (a0,left1) => Q71 Tryz.prog 14 [sL a0,I left1] (I r) []
theorem K8t : ∀ p r,K8r p = some r → K8s p r := by
 rintro ⟨a0,left1⟩ r h
 unfold K8r at h
 refine b0 Tryz.f14 B14 27 [(0,sL a0),(1,I left1)] fun c hc => ?_
 refine rs0 hc 1 [(0,sL a0),(1,I left1)] [] ?_
 refine rs hc none [oN,oN,some (.eqv (.no) ⟨[(8,I (a0.length : Int))],[],[]⟩),oN,oN] [(0,sL a0),(1,I (wr (left1 - (a0.length : Int))))] [] (ai (Qdj (d := 8) K07 a0) tv) ?_
 refine sN ?_
 refine rs0 hc 2 [(0,sL a0),(1,I (wr (left1 - (a0.length : Int)))),(11,.bool (decide ((wr (left1 - (a0.length : Int))) < 0)))] [] ?_
 refine ic h (fun a1 h => ?_) fun a1 h => ?_
 ·refine rs0 hc 1 [(4,I (-1))] [] ?_
  refine rt ?_
  obtain rfl := os h
  exact rq [true]
 refine sk ?_
 refine sN ?_
 refine rs0 hc 1 [(0,sL a0),(1,I (wr (left1 - (a0.length : Int)))),(5,I 0)] [] ?_
 refine bk 0 ?_
 obtain ⟨fl,a2,h⟩ := Qdd h
 have hL := K8q _ _ a2 c hc
 refine lp ?_
 rcases fl with a3 | r
 ·refine WpL.into (e := (.exit 0)) (mkS [(1,I a3)] []) hL ?_
  refine Qcr ?_
  refine rs0 hc 2 [(4,I a3)] [] ?_
  refine rt ?_
  obtain rfl := os h
  exact rq [true]
 refine WpL.mono hL ?_
 rintro _ _ ⟨rfl,hfin⟩
 obtain rfl := os h
 exact ⟨.inl rfl,hfin⟩
def K8u (c : Ctx) : (Int) ⊕ (Int) → Exit → Q0a → Prop
 | .inl a0 => Qcz c (.exit 0) (mkS [(1,I a0)] [])
 | .inr r => Qd8 TIx Tryz.f43 [] (I r)
mutual
def K8v (p : K01 × Int) : Option (Int) :=
 match p with
 | (a0,left1) =>
  (K8e (a0.fType,left1)) >>= fun a1 =>
  if (decide (a1 < 0)) = true then
  some (-1)
  else
  (K8w (a0.fKids,a1)) >>= fun a2 =>
  if (decide (a2 < 0)) = true then
  some (-1)
  else
  some a2
 partial_fixpoint
def K8w (p : (List K01) × Int) : Option (Int) :=
 match p with
 | (a0,left1) =>
  if (decide ((wr (left1 - (a0.length : Int))) < 0)) = true then
  some (-1)
  else
  (K8x (a0,(wr (left1 - (a0.length : Int))),0)) >>= fun fl => match fl with
  | .inl a1 =>
   some a1
  | .inr r =>
   some r
 partial_fixpoint
def K8x (p : (List K01) × Int × Int) : Option ((Int) ⊕ (Int)) :=
 match p with
 | (a0,a1,a2) =>
  if (decide (a2 < (a0.length : Int))) = true then
  (idx a0 a2) >>= fun a3 =>
  (K8v (a3,a1)) >>= fun a4 =>
  if (decide (a4 < 0)) = true then
  some (.inr (-1))
  else
  K8x (a0,a4,(wr (a2 + 1)))
  else
  some (.inl a1)
 partial_fixpoint
end
def K8y (p : K01 × Int) (r : Int) : Prop :=
 match p with
 | (a0,left1) => Q71 Tryz.prog 15 [K2g a0,I left1] (I r) []
def K8z (p : (List K01) × Int) (r : Int) : Prop :=
 match p with
 | (a0,left1) => Q71 Tryz.prog 43 [.sl (List.map K0s a0),I left1] (I r) []
def K90 (p : (List K01) × Int × Int) (fl : (Int) ⊕ (Int)) : Prop :=
 match p with
 | (a0,a1,a2) => ∀ c : Ctx,c.nt = 27 → WpL Tryz.prog c (cl (cl (cr (cl (cr (cr (cr B43))))))) (K8u c fl) (mkS [(0,.sl (List.map K0s a0)),(1,I a1),(5,I a2)] [])
theorem K91 : (∀ p r,K8v p = some r → K8y p r) ∧ (∀ p r,K8w p = some r → K8z p r) ∧ (∀ p r,K8x p = some r → K90 p r) := by
 refine K8v.mutual_partial_correctness K8y K8z K90 ?_ ?_ ?_
 ·rintro laws_szTermS_f laws_szTermS_ih ⟨a0,left1⟩ r h
  refine b0 Tryz.f15 B15 18 [(0,K2g a0),(1,I left1)] fun c hc => ?_
  refine rs hc none [some (.new 1),oN] [(1,I left1),(2,.ra 1 0)] [(1,K2f a0)] tv ?_
  obtain ⟨a1,a2,h⟩ := Qdd h
  refine rss hc none [oN,oN,oN,oc (I a1),oN] [(1,I a1),(2,.ra 1 0)] (cq (K8g _ _ a2) K3r tv) ?_
  refine sN ?_
  refine K8d hc 2 [(1,I a1),(2,.ra 1 0),(10,.bool (decide (a1 < 0)))] ?_
  refine ic h (fun a3 h => ?_) fun a3 h => ?_
  ·refine rs0 hc 1 [(4,I (-1))] [] ?_
   refine rt ?_
   obtain rfl := os h
   exact rq [true]
  refine sk ?_
  obtain ⟨a4,a5,h⟩ := Qdd h
  refine rs hc none [oN,oN,oN,oc (I a4),oN] [(1,I a4)] [] (cq (laws_szTermS_ih _ _ a5) K3v tv) ?_
  refine sN ?_
  refine rs0 hc 2 [(1,I a4),(16,.bool (decide (a4 < 0)))] [] ?_
  refine ic h (fun a6 h => ?_) fun a6 h => ?_
  ·refine rs0 hc 1 [(4,I (-1))] [] ?_
   refine rt ?_
   obtain rfl := os h
   exact rq [true]
  refine sk ?_
  refine rs0 hc 2 [(4,I a4)] [] ?_
  refine rt ?_
  obtain rfl := os h
  exact rq [true]
 ·rintro laws_szTermS_l0_f laws_szTermS_l0_ih ⟨a0,left1⟩ r h
  refine b0 Tryz.f43 B43 27 [(0,.sl (List.map K0s a0)),(1,I left1)] fun c hc => ?_
  refine rs0 hc 1 [(0,.sl (List.map K0s a0)),(1,I left1)] [] ?_
  refine rs hc none [oN,oN,some (.eqv (.no) ⟨[(8,I (a0.length : Int))],[],[]⟩),oN,oN] [(0,.sl (List.map K0s a0)),(1,I (wr (left1 - (a0.length : Int))))] [] (ai (Qdj (d := 8) K0s a0) tv) ?_
  refine sN ?_
  refine rs0 hc 2 [(0,.sl (List.map K0s a0)),(1,I (wr (left1 - (a0.length : Int)))),(11,.bool (decide ((wr (left1 - (a0.length : Int))) < 0)))] [] ?_
  refine ic h (fun a3 h => ?_) fun a3 h => ?_
  ·refine rs0 hc 1 [(4,I (-1))] [] ?_
   refine rt ?_
   obtain rfl := os h
   exact rq [true]
  refine sk ?_
  refine sN ?_
  refine rs0 hc 1 [(0,.sl (List.map K0s a0)),(1,I (wr (left1 - (a0.length : Int)))),(5,I 0)] [] ?_
  refine bk 0 ?_
  obtain ⟨fl,a7,h⟩ := Qdd h
  have hL := laws_szTermS_l0_ih _ _ a7 c hc
  refine lp ?_
  rcases fl with a8 | r
  ·refine WpL.into (e := (.exit 0)) (mkS [(1,I a8)] []) hL ?_
   refine Qcr ?_
   refine rs0 hc 2 [(4,I a8)] [] ?_
   refine rt ?_
   obtain rfl := os h
   exact rq [true]
  refine WpL.mono hL ?_
  rintro _ _ ⟨rfl,hfin⟩
  obtain rfl := os h
  exact ⟨.inl rfl,hfin⟩
 ·rintro laws_szTerm_f laws_szTermS_l0_f laws_szTerm_ih laws_szTermS_l0_ih ⟨a0,a9,b1⟩ r h
  intro c hc
  refine WpL.step ?_
  refine sN ?_
  refine rs hc none [oN,oN,some (.eqv (.no) ⟨[(14,I (a0.length : Int))],[],[]⟩),oN] [(0,.sl (List.map K0s a0)),(1,I a9),(5,I b1),(15,.bool (decide (b1 < (a0.length : Int))))] [] (ai (Qdj (d := 14) K0s a0) tv) ?_
  refine ic h (fun b2 h => ?_) fun b2 h => ?_
  ·refine sk ?_
   refine sN ?_
   refine bk 1 ?_
   obtain ⟨b3,b4,b5,b6,h⟩ := bq2 h
   refine rs hc none [oN,oN,some (.el (K2g b3)),oN,oN,oc (I b5),oN] [(0,.sl (List.map K0s a0)),(1,I b5),(5,I b1)] [] (ai (Qdh b4 (K0z b3)) (cq (laws_szTerm_ih _ _ b6) K3w tv)) ?_
   refine rs0 hc 2 [(0,.sl (List.map K0s a0)),(1,I b5),(5,I b1),(25,.bool (decide (b5 < 0)))] [] ?_
   refine ic h (fun b7 h => ?_) fun b7 h => ?_
   ·refine rs0 hc 1 [(4,I (-1))] [] ?_
    refine rt ?_
    obtain rfl := os h
    exact re [true]
   refine sk ?_
   refine rg0 hc 3 [(0,.sl (List.map K0s a0)),(1,I b5),(5,I (wr (b1 + 1)))] [] ?_
   refine Qcv ?_
   exact (laws_szTermS_l0_ih _ _ h c hc)
  refine xt 0 ?_
  refine Qcp ?_
  refine Qcw ?_
  obtain rfl := os h
  exact iv []
theorem K92 : ∀ p r,K8v p = some r → K8y p r := K91.1
theorem K93 : ∀ p r,K8w p = some r → K8z p r := K91.2.1
theorem K94 : ∀ p r,K8x p = some r → K90 p r := K91.2.2
def K95 (p : K02 × Int) : Option (Int) :=
 match p with
 | (a0,left1) =>
  (K8r (a0.fCtx,left1)) >>= fun a1 =>
  if (decide (a1 < 0)) = true then
  some (-1)
  else
  (K8e (a0.fBudgets,a1)) >>= fun a2 =>
  if (decide (a2 < 0)) = true then
  some (-1)
  else
  (K8v (a0.fTerm,a2)) >>= fun a3 =>
  if (decide (a3 < 0)) = true then
  some (-1)
  else
  (K8e (a0.fType,a3)) >>= fun a4 =>
  if (decide (a4 < 0)) = true then
  some (-1)
  else
  (K8e (a0.fFrom,a4)) >>= fun a5 =>
  if (decide (a5 < 0)) = true then
  some (-1)
  else
  some a5
def K96 (p : K02 × Int) (r : Int) : Prop :=
 match p with
 | (a0,left1) => Q71 Tryz.prog 34 [K2i a0,I left1] (I r) []
theorem K97 : ∀ p r,K95 p = some r → K96 p r := by
 rintro ⟨a0,left1⟩ r h
 unfold K95 at h
 refine b0 Tryz.f34 B34 36 [(0,K2i a0),(1,I left1)] fun c hc => ?_
 refine rs hc none [some (.new 1),oN] [(1,I left1),(2,.ra 1 0)] [(1,K2h a0)] tv ?_
 obtain ⟨a1,a2,h⟩ := Qdd h
 refine rss hc none [oN,oN,oN,oc (I a1),oN] [(1,I a1),(2,.ra 1 0)] (cq (K8t _ _ a2) K3u tv) ?_
 refine sN ?_
 refine K8d hc 2 [(1,I a1),(2,.ra 1 0),(10,.bool (decide (a1 < 0)))] ?_
 refine ic h (fun a3 h => ?_) fun a3 h => ?_
 ·refine rs0 hc 1 [(4,I (-1))] [] ?_
  refine rt ?_
  obtain rfl := os h
  exact rq [true]
 refine sk ?_
 obtain ⟨a4,a5,h⟩ := Qdd h
 refine rss hc none [oN,oN,oN,oc (I a4),oN] [(1,I a4),(2,.ra 1 0)] (cq (K8g _ _ a5) K3r tv) ?_
 refine sN ?_
 refine K8d hc 2 [(1,I a4),(2,.ra 1 0),(16,.bool (decide (a4 < 0)))] ?_
 refine ic h (fun a6 h => ?_) fun a6 h => ?_
 ·refine rs0 hc 1 [(4,I (-1))] [] ?_
  refine rt ?_
  obtain rfl := os h
  exact rq [true]
 refine sk ?_
 obtain ⟨a7,a8,h⟩ := Qdd h
 refine rss hc none [oN,oN,oN,oc (I a7),oN] [(1,I a7),(2,.ra 1 0)] (cq (K92 _ _ a8) K3w tv) ?_
 refine sN ?_
 refine K8d hc 2 [(1,I a7),(2,.ra 1 0),(22,.bool (decide (a7 < 0)))] ?_
 refine ic h (fun a9 h => ?_) fun a9 h => ?_
 ·refine rs0 hc 1 [(4,I (-1))] [] ?_
  refine rt ?_
  obtain rfl := os h
  exact rq [true]
 refine sk ?_
 obtain ⟨b1,b2,h⟩ := Qdd h
 refine rss hc none [oN,oN,oN,oc (I b1),oN] [(1,I b1),(2,.ra 1 0)] (cq (K8g _ _ b2) K3r tv) ?_
 refine sN ?_
 refine K8d hc 2 [(1,I b1),(2,.ra 1 0),(28,.bool (decide (b1 < 0)))] ?_
 refine ic h (fun b3 h => ?_) fun b3 h => ?_
 ·refine rs0 hc 1 [(4,I (-1))] [] ?_
  refine rt ?_
  obtain rfl := os h
  exact rq [true]
 refine sk ?_
 obtain ⟨b4,b5,h⟩ := Qdd h
 refine rs hc none [oN,oN,oN,oc (I b4),oN] [(1,I b4)] [] (cq (K8g _ _ b5) K3r tv) ?_
 refine sN ?_
 refine rs0 hc 2 [(1,I b4),(34,.bool (decide (b4 < 0)))] [] ?_
 refine ic h (fun b6 h => ?_) fun b6 h => ?_
 ·refine rs0 hc 1 [(4,I (-1))] [] ?_
  refine rt ?_
  obtain rfl := os h
  exact rq [true]
 refine sk ?_
 refine rs0 hc 2 [(4,I b4)] [] ?_
 refine rt ?_
 obtain rfl := os h
 exact rq [true]
def K98 (c : Ctx) : (Int) ⊕ (Int) → Exit → Q0a → Prop
 | .inl a0 => Qcz c (.exit 0) (mkS [(1,I a0)] [])
 | .inr r => Qd8 TIx Tryz.f7 [] (I r)
def K99 (p : (List K02) × Int × Int) : Option ((Int) ⊕ (Int)) :=
 match p with
 | (a0,a1,a2) =>
  if (decide (a2 < (a0.length : Int))) = true then
  (idx a0 a2) >>= fun a3 =>
  (K95 (a3,a1)) >>= fun a4 =>
  if (decide (a4 < 0)) = true then
  some (.inr (-1))
  else
  K99 (a0,a4,(wr (a2 + 1)))
  else
  some (.inl a1)
 partial_fixpoint
def K9a (p : (List K02) × Int × Int) (fl : (Int) ⊕ (Int)) : Prop :=
 match p with
 | (a0,a1,a2) => ∀ c : Ctx,c.nt = 27 → WpL Tryz.prog c (cl (cl (cr (cl (cr (cr (cr B7))))))) (K98 c fl) (mkS [(0,.sl (List.map K12 a0)),(1,I a1),(5,I a2)] [])
theorem K9b : ∀ p r,K99 p = some r → K9a p r := by
 refine K99.partial_correctness K9a ?_
 rintro laws_szJudgmentS_l0_f laws_szJudgmentS_l0_ih ⟨a0,a1,a2⟩ r h
 intro c hc
 refine WpL.step ?_
 refine sN ?_
 refine rs hc none [oN,oN,some (.eqv (.no) ⟨[(14,I (a0.length : Int))],[],[]⟩),oN] [(0,.sl (List.map K12 a0)),(1,I a1),(5,I a2),(15,.bool (decide (a2 < (a0.length : Int))))] [] (ai (Qdj (d := 14) K12 a0) tv) ?_
 refine ic h (fun a3 h => ?_) fun a3 h => ?_
 ·refine sk ?_
  refine sN ?_
  refine bk 1 ?_
  obtain ⟨a4,a5,a6,a7,h⟩ := bq2 h
  refine rs hc none [oN,oN,some (.el (K2i a4)),oN,oN,oc (I a6),oN] [(0,.sl (List.map K12 a0)),(1,I a6),(5,I a2)] [] (ai (Qdh a5 (K1e a4)) (cq (K97 _ _ a7) K3x tv)) ?_
  refine rs0 hc 2 [(0,.sl (List.map K12 a0)),(1,I a6),(5,I a2),(25,.bool (decide (a6 < 0)))] [] ?_
  refine ic h (fun a8 h => ?_) fun a8 h => ?_
  ·refine rs0 hc 1 [(4,I (-1))] [] ?_
   refine rt ?_
   obtain rfl := os h
   exact re [true]
  refine sk ?_
  refine rg0 hc 3 [(0,.sl (List.map K12 a0)),(1,I a6),(5,I (wr (a2 + 1)))] [] ?_
  refine Qcv ?_
  exact (laws_szJudgmentS_l0_ih _ _ h c hc)
 refine xt 0 ?_
 refine Qcp ?_
 refine Qcw ?_
 obtain rfl := os h
 exact iv []
def K9c (p : (List K02) × Int) : Option (Int) :=
 match p with
 | (a0,left1) =>
  if (decide ((wr (left1 - (a0.length : Int))) < 0)) = true then
  some (-1)
  else
  (K99 (a0,(wr (left1 - (a0.length : Int))),0)) >>= fun fl => match fl with
  | .inl a1 =>
   some a1
  | .inr r =>
   some r
def K9d (p : (List K02) × Int) (r : Int) : Prop :=
 match p with
 | (a0,left1) => Q71 Tryz.prog 7 [.sl (List.map K12 a0),I left1] (I r) []
theorem K9e : ∀ p r,K9c p = some r → K9d p r := by
 rintro ⟨a0,left1⟩ r h
 unfold K9c at h
 refine b0 Tryz.f7 B7 27 [(0,.sl (List.map K12 a0)),(1,I left1)] fun c hc => ?_
 refine rs0 hc 1 [(0,.sl (List.map K12 a0)),(1,I left1)] [] ?_
 refine rs hc none [oN,oN,some (.eqv (.no) ⟨[(8,I (a0.length : Int))],[],[]⟩),oN,oN] [(0,.sl (List.map K12 a0)),(1,I (wr (left1 - (a0.length : Int))))] [] (ai (Qdj (d := 8) K12 a0) tv) ?_
 refine sN ?_
 refine rs0 hc 2 [(0,.sl (List.map K12 a0)),(1,I (wr (left1 - (a0.length : Int)))),(11,.bool (decide ((wr (left1 - (a0.length : Int))) < 0)))] [] ?_
 refine ic h (fun a1 h => ?_) fun a1 h => ?_
 ·refine rs0 hc 1 [(4,I (-1))] [] ?_
  refine rt ?_
  obtain rfl := os h
  exact rq [true]
 refine sk ?_
 refine sN ?_
 refine rs0 hc 1 [(0,.sl (List.map K12 a0)),(1,I (wr (left1 - (a0.length : Int)))),(5,I 0)] [] ?_
 refine bk 0 ?_
 obtain ⟨fl,a2,h⟩ := Qdd h
 have hL := K9b _ _ a2 c hc
 refine lp ?_
 rcases fl with a3 | r
 ·refine WpL.into (e := (.exit 0)) (mkS [(1,I a3)] []) hL ?_
  refine Qcr ?_
  refine rs0 hc 2 [(4,I a3)] [] ?_
  refine rt ?_
  obtain rfl := os h
  exact rq [true]
 refine WpL.mono hL ?_
 rintro _ _ ⟨rfl,hfin⟩
 obtain rfl := os h
 exact ⟨.inl rfl,hfin⟩
def K9f (c : Ctx) : (List Int) → Exit → Q0a → Prop
 | a0 => Qcz c (.exit 0) (mkS [(3,.rs 1)] [(1,rI a0)])
def K9g (p : (List Int) × (List Int) × Int) : Option ((List Int)) :=
 match p with
 | (a0,a1,a2) =>
  if (decide (a2 < (a0.length : Int))) = true then
  (idx a0 a2) >>= fun a3 =>
  (idx a1 a2) >>= fun a4 =>
  K9g (a0,(List.set a1 (Int.toNat a2) a3),(wr (a2 + 1)))
  else
  some (a1)
 partial_fixpoint
def K9h (p : (List Int) × (List Int) × Int) (fl : (List Int)) : Prop :=
 match p with
 | (a0,a1,a2) => ∀ c : Ctx,c.nt = 22 → WpL Tryz.prog c (cl (cl (cr (cl (cr (cr B36)))))) (K9f c fl) (mkS [(0,sI a0),(3,.rs 1),(4,I a2)] [(1,rI a1)])
theorem K9i : ∀ p r,K9g p = some r → K9h p r := by
 refine K9g.partial_correctness K9h ?_
 rintro laws_toIntS_l0_f laws_toIntS_l0_ih ⟨a0,a1,a2⟩ r h
 intro c hc
 refine WpL.step ?_
 refine sN ?_
 refine rss hc none [oN,oN,some (.eqv (.no) ⟨[(10,I (a0.length : Int))],[],[]⟩),oN] [(0,sI a0),(3,.rs 1),(4,I a2),(11,.bool (decide (a2 < (a0.length : Int))))] (ai (Qdj (d := 10) I a0) tv) ?_
 refine ic h (fun a3 h => ?_) fun a3 h => ?_
 ·refine sk ?_
  refine sN ?_
  refine bk 1 ?_
  obtain ⟨a4,a5,a6,a7,h⟩ := bq2 h
  refine rg hc none [oN,oN,oN,oN,some (.el (I a4)),oN,oN,some (.eqv (.mk 0 true) ⟨[],[(1,some (.arr (List.map I (List.set a1 (Int.toNat a2) a4))))],[]⟩)] [(0,sI a0),(3,.rs 1),(4,I a2)] [(1,.arr (List.map I (List.set a1 (Int.toNat a2) a4)))] (ad (ix a5) (Qdi (enc := I) a7) (congrArg (fun z => (⟨[],[(1,some (.arr z))],[]⟩ : Wr)) (Qeg (enc := I) (i := Int.toNat a2) (l := a1) (v := a4) (x := I a4) (Qds a4))) (Qeh (enc := I) (sz := 1) Qdw a7) tv) ?_
  refine K8c hc 3 [(0,sI a0),(3,.rs 1),(4,I (wr (a2 + 1)))] ?_
  refine Qcv ?_
  exact (laws_toIntS_l0_ih _ _ h c hc)
 refine xt 0 ?_
 refine Qcp ?_
 refine Qcw ?_
 obtain rfl := os h
 exact iv []
def K9j (a0 : (List Int)) : Option ((List Int)) :=
 (chk (0 ≤ (a0.length : Int) ∧ (Int.toNat (a0.length : Int)) * 8 ≤ 140737488355328)) >>= fun _ =>
 (K9g (a0,(List.replicate (Int.toNat (a0.length : Int)) 0),0)) >>= fun a1 =>
 some a1
def K9k (a0 : (List Int)) (r : (List Int)) : Prop :=
 Q71 Tryz.prog 36 [sI a0] (oI r) []
theorem K9l : ∀ p r,K9j p = some r → K9k p r := by
 rintro a0 r h
 unfold K9j at h
 refine b0 Tryz.f36 B36 22 [(0,sI a0)] fun c hc => ?_
 refine rs0 hc 1 [(0,sI a0)] [] ?_
 obtain ⟨_,a1,h⟩ := Qdd h
 refine rs hc none [oN,some (.eqv (.no) ⟨[(6,I (a0.length : Int))],[],[]⟩),some (.eqv (.mk 1 true) ⟨[(7,.rs 1)],[(1,some (.arr (List.map I (List.replicate (Int.toNat (a0.length : Int)) 0))))],[1]⟩),oN] [(0,sI a0),(3,.rs 1)] [(1,.arr (List.map I (List.replicate (Int.toNat (a0.length : Int)) 0)))] (ac (Qdj (d := 6) I a0) (congrArg (fun z => (⟨[(7,.rs 1)],[(1,some (.arr z))],[1]⟩ : Wr)) (Qei (enc := I) (n := Int.toNat (a0.length : Int)) (x := I 0) (Qds 0))) (And.intro (Eq.refl (a0.length : Int)) (Qdf a1)) tv) ?_
 refine sN ?_
 refine K8d hc 1 [(0,sI a0),(3,.rs 1),(4,I 0)] ?_
 refine bk 0 ?_
 obtain ⟨a2,a3,h⟩ := Qdd h
 have hL := K9i _ _ a3 c hc
 refine lp ?_
 refine WpL.into (e := (.exit 0)) (mkS [(3,.rs 1)] [(1,rI a2)]) hL ?_
 refine Qcr ?_
 refine K8d hc 2 [(2,.rs 1)] ?_
 refine rt ?_
 obtain rfl := os h
 exact rq [true]
def K9m (c : Ctx) : (List Bool) → Exit → Q0a → Prop
 | a0 => Qcz c (.exit 0) (mkS [(3,.rs 1)] [(1,.arr (List.map AV.bool a0))])
def K9n (p : (List Bool) × (List Bool) × Int) : Option ((List Bool)) :=
 match p with
 | (a0,a1,a2) =>
  if (decide (a2 < (a0.length : Int))) = true then
  (idx a0 a2) >>= fun a3 =>
  (idx a1 a2) >>= fun a4 =>
  K9n (a0,(List.set a1 (Int.toNat a2) a3),(wr (a2 + 1)))
  else
  some (a1)
 partial_fixpoint
def K9o (p : (List Bool) × (List Bool) × Int) (fl : (List Bool)) : Prop :=
 match p with
 | (a0,a1,a2) => ∀ c : Ctx,c.nt = 22 → WpL Tryz.prog c (cl (cl (cr (cl (cr (cr B37)))))) (K9m c fl) (mkS [(0,sB a0),(3,.rs 1),(4,I a2)] [(1,.arr (List.map AV.bool a1))])
theorem K9p : ∀ p r,K9n p = some r → K9o p r := by
 refine K9n.partial_correctness K9o ?_
 rintro laws_toBoolS_l0_f laws_toBoolS_l0_ih ⟨a0,a1,a2⟩ r h
 intro c hc
 refine WpL.step ?_
 refine sN ?_
 refine rss hc none [oN,oN,some (.eqv (.no) ⟨[(10,I (a0.length : Int))],[],[]⟩),oN] [(0,sB a0),(3,.rs 1),(4,I a2),(11,.bool (decide (a2 < (a0.length : Int))))] (ai (Qdj (d := 10) AV.bool a0) tv) ?_
 refine ic h (fun a3 h => ?_) fun a3 h => ?_
 ·refine sk ?_
  refine sN ?_
  refine bk 1 ?_
  obtain ⟨a4,a5,a6,a7,h⟩ := bq2 h
  refine rg hc none [oN,oN,oN,oN,some (.el (.bool a4)),oN,oN,some (.eqv (.mk 0 true) ⟨[],[(1,some (.arr (List.map AV.bool (List.set a1 (Int.toNat a2) a4))))],[]⟩)] [(0,sB a0),(3,.rs 1),(4,I a2)] [(1,.arr (List.map AV.bool (List.set a1 (Int.toNat a2) a4)))] (ad (Qdh (enc := AV.bool) (x := .bool a4) a5 (Qdu a4)) (Qdi (enc := AV.bool) a7) (congrArg (fun z => (⟨[],[(1,some (.arr z))],[]⟩ : Wr)) (Qeg (enc := AV.bool) (i := Int.toNat a2) (l := a1) (v := a4) (x := AV.bool a4) (Qdu a4))) (Qeh (enc := AV.bool) (sz := 1) Qdy a7) tv) ?_
  refine K8c hc 3 [(0,sB a0),(3,.rs 1),(4,I (wr (a2 + 1)))] ?_
  refine Qcv ?_
  exact (laws_toBoolS_l0_ih _ _ h c hc)
 refine xt 0 ?_
 refine Qcp ?_
 refine Qcw ?_
 obtain rfl := os h
 exact iv []
def K9q (a0 : (List Bool)) : Option ((List Bool)) :=
 (chk (0 ≤ (a0.length : Int) ∧ (Int.toNat (a0.length : Int)) * 1 ≤ 140737488355328)) >>= fun _ =>
 (K9n (a0,(List.replicate (Int.toNat (a0.length : Int)) false),0)) >>= fun a1 =>
 some a1
def K9r (a0 : (List Bool)) (r : (List Bool)) : Prop :=
 Q71 Tryz.prog 37 [sB a0] (.osl (List.map AV.bool r)) []
theorem K9s : ∀ p r,K9q p = some r → K9r p r := by
 rintro a0 r h
 unfold K9q at h
 refine b0 Tryz.f37 B37 22 [(0,sB a0)] fun c hc => ?_
 refine rs0 hc 1 [(0,sB a0)] [] ?_
 obtain ⟨_,a1,h⟩ := Qdd h
 refine rs hc none [oN,some (.eqv (.no) ⟨[(6,I (a0.length : Int))],[],[]⟩),some (.eqv (.mk 1 true) ⟨[(7,.rs 1)],[(1,some (.arr (List.map AV.bool (List.replicate (Int.toNat (a0.length : Int)) false))))],[1]⟩),oN] [(0,sB a0),(3,.rs 1)] [(1,.arr (List.map AV.bool (List.replicate (Int.toNat (a0.length : Int)) false)))] (ac (Qdj (d := 6) AV.bool a0) (congrArg (fun z => (⟨[(7,.rs 1)],[(1,some (.arr z))],[1]⟩ : Wr)) (Qei (enc := AV.bool) (n := Int.toNat (a0.length : Int)) (x := AV.bool false) (Qdu false))) (And.intro (Eq.refl (a0.length : Int)) (Qdf a1)) tv) ?_
 refine sN ?_
 refine K8d hc 1 [(0,sB a0),(3,.rs 1),(4,I 0)] ?_
 refine bk 0 ?_
 obtain ⟨a2,a3,h⟩ := Qdd h
 have hL := K9p _ _ a3 c hc
 refine lp ?_
 refine WpL.into (e := (.exit 0)) (mkS [(3,.rs 1)] [(1,.arr (List.map AV.bool a2))]) hL ?_
 refine Qcr ?_
 refine K8d hc 2 [(2,.rs 1)] ?_
 refine rt ?_
 obtain rfl := os h
 exact rq [true]
def K9t (a0 : K00) : Option (K00) :=
 (K9j a0.fPlus) >>= fun a1 =>
 (K9j a0.fTimes) >>= fun a2 =>
 (K9q a0.fBelow) >>= fun a3 =>
 some (K00.mk a0.fSize a1 a2 a3)
def K9u (a0 : K00) (r : K00) : Prop :=
 Q71 Tryz.prog 9 [K2e a0] (K2p r) []
theorem K9v : ∀ p r,K9t p = some r → K9u p r := by
 rintro a0 r h
 unfold K9t at h
 refine b0 Tryz.f9 B9 20 [(0,K2e a0)] fun c hc => ?_
 refine rs hc none [some (.new 1),some (.new 2)] [(1,.ra 1 0),(2,.ra 2 0)] [(1,K2d a0),(2,.box [I 0,.nils,.nils,.nils])] tv ?_
 refine rs hc none [some (.new 3)] [(1,.ra 1 0),(2,.ra 2 0),(3,.ra 3 0)] [(1,K2d a0),(2,.box [I 0,.nils,.nils,.nils]),(3,.box [I 0,.nils,.nils,.nils])] tv ?_
 refine rs0 hc 4 [(1,.ra 1 0),(2,.ra 2 0),(3,.ra 3 0)] [(1,K2d a0),(2,.box [I 0,.nils,.nils,.nils]),(3,.box [I a0.fSize,.nils,.nils,.nils])] ?_
 obtain ⟨a1,a2,h⟩ := Qdd h
 refine rs hc none [oN,oN,some (.call (oI a1) [] 4),oN,oN] [(1,.ra 1 0),(2,.ra 2 0),(3,.ra 3 0)] [(1,K2d a0),(2,.box [I 0,.nils,.nils,.nils]),(3,.box [I a0.fSize,.rs 4,.nils,.nils]),(4,rI a1)] (cq (K9l _ _ a2) K3z tv) ?_
 obtain ⟨a3,a4,h⟩ := Qdd h
 refine rs hc none [oN,oN,some (.call (oI a3) [] 5),oN,oN] [(1,.ra 1 0),(2,.ra 2 0),(3,.ra 3 0)] [(1,K2d a0),(2,.box [I 0,.nils,.nils,.nils]),(3,.box [I a0.fSize,.rs 4,.rs 5,.nils]),(4,rI a1),(5,rI a3)] (cq (K9l _ _ a4) K3z tv) ?_
 obtain ⟨a5,a6,h⟩ := Qdd h
 refine rs hc none [oN,oN,some (.call (.osl (List.map AV.bool a5)) [] 6),oN,oN] [(2,.ra 2 0),(3,.ra 3 0)] [(2,.box [I 0,.nils,.nils,.nils]),(3,.box [I a0.fSize,.rs 4,.rs 5,.rs 6]),(4,rI a1),(5,rI a3),(6,.arr (List.map AV.bool a5))] (cq (K9s _ _ a6) K40 tv) ?_
 refine rs0 hc 2 [(2,.ra 2 0)] [(2,.box [I a0.fSize,.rs 4,.rs 5,.rs 6]),(4,rI a1),(5,rI a3),(6,.arr (List.map AV.bool a5))] ?_
 refine rt ?_
 obtain rfl := os h
 exact rq [true]
def K9w (c : Ctx) : LL → Exit → Q0a → Prop
 | a0 => Qcz c (.exit 0) (mkS [(3,.rs 1)] [(1,.arr (List.map K0c a0))])
def K9x (p : LL × LL × Int) : Option (LL) :=
 match p with
 | (a0,a1,a2) =>
  if (decide (a2 < (a0.length : Int))) = true then
  (idx a0 a2) >>= fun a3 =>
  (K9j a3) >>= fun a4 =>
  (idx a1 a2) >>= fun a5 =>
  K9x (a0,(List.set a1 (Int.toNat a2) a4),(wr (a2 + 1)))
  else
  some (a1)
 partial_fixpoint
def K9y (p : LL × LL × Int) (fl : LL) : Prop :=
 match p with
 | (a0,a1,a2) => ∀ c : Ctx,c.nt = 23 → WpL Tryz.prog c (cl (cl (cr (cl (cr (cr B17)))))) (K9w c fl) (mkS [(0,sL a0),(3,.rs 1),(4,I a2)] [(1,.arr (List.map K0c a1))])
theorem K9z : ∀ p r,K9x p = some r → K9y p r := by
 refine K9x.partial_correctness K9y ?_
 rintro laws_toIntSS_l0_f laws_toIntSS_l0_ih ⟨a0,a1,a2⟩ r h
 intro c hc
 refine WpL.step ?_
 refine sN ?_
 refine rss hc none [oN,oN,some (.eqv (.no) ⟨[(10,I (a0.length : Int))],[],[]⟩),oN] [(0,sL a0),(3,.rs 1),(4,I a2),(11,.bool (decide (a2 < (a0.length : Int))))] (ai (Qdj (d := 10) K07 a0) tv) ?_
 refine ic h (fun a3 h => ?_) fun a3 h => ?_
 ·refine sk ?_
  refine sN ?_
  refine bk 1 ?_
  obtain ⟨a4,a5,a6,a7,a8,a9,h⟩ := bq3 h
  refine rg hc none [oN,oN,oN,oN,some (.el (sI a4)),oN,some (.call (oI a6) [] 3),oN,some (.eqv (.mk 0 true) ⟨[],[(1,some (.arr (List.map K0c (List.set a1 (Int.toNat a2) a6)))),(3,none)],[]⟩)] [(0,sL a0),(3,.rs 1),(4,I a2)] [(1,.arr (List.map K0c (List.set a1 (Int.toNat a2) a6)))] (ai (xL a5) (cq (K9l _ _ a7) K3z (ac (Qdi (enc := K0c) a9) (congrArg (fun z => (⟨[],[(1,some (.arr z)),(3,none)],[]⟩ : Wr)) (Qeg (enc := K0c) (i := Int.toNat a2) (l := a1) (v := a6) (x := oI a6) (K0d a6))) (Qeh (enc := K0c) (sz := 1) K0e a9) tv))) ?_
  refine K8c hc 3 [(0,sL a0),(3,.rs 1),(4,I (wr (a2 + 1)))] ?_
  refine Qcv ?_
  exact (laws_toIntSS_l0_ih _ _ h c hc)
 refine xt 0 ?_
 refine Qcp ?_
 refine Qcw ?_
 obtain rfl := os h
 exact iv []
def Ka0 (a0 : LL) : Option (LL) :=
 (chk (0 ≤ (a0.length : Int) ∧ (Int.toNat (a0.length : Int)) * 24 ≤ 140737488355328)) >>= fun _ =>
 (K9x (a0,(List.replicate (Int.toNat (a0.length : Int)) []),0)) >>= fun a1 =>
 some a1
def Ka1 (a0 : LL) (r : LL) : Prop :=
 Q71 Tryz.prog 17 [sL a0] (.osl (List.map K0c r)) []
theorem Ka2 : ∀ p r,Ka0 p = some r → Ka1 p r := by
 rintro a0 r h
 unfold Ka0 at h
 refine b0 Tryz.f17 B17 23 [(0,sL a0)] fun c hc => ?_
 refine rs0 hc 1 [(0,sL a0)] [] ?_
 obtain ⟨_,a1,h⟩ := Qdd h
 refine rs hc none [oN,some (.eqv (.no) ⟨[(6,I (a0.length : Int))],[],[]⟩),some (.eqv (.mk 1 true) ⟨[(7,.rs 1)],[(1,some (.arr (List.map K0c (List.replicate (Int.toNat (a0.length : Int)) []))))],[1]⟩),oN] [(0,sL a0),(3,.rs 1)] [(1,.arr (List.map K0c (List.replicate (Int.toNat (a0.length : Int)) [])))] (ac (Qdj (d := 6) K07 a0) (congrArg (fun z => (⟨[(7,.rs 1)],[(1,some (.arr z))],[1]⟩ : Wr)) (Qei (enc := K0c) (n := Int.toNat (a0.length : Int)) (x := AV.osl (List.map I [])) (K0d []))) (And.intro (Eq.refl (a0.length : Int)) (Qdf a1)) tv) ?_
 refine sN ?_
 refine K8d hc 1 [(0,sL a0),(3,.rs 1),(4,I 0)] ?_
 refine bk 0 ?_
 obtain ⟨a2,a3,h⟩ := Qdd h
 have hL := K9z _ _ a3 c hc
 refine lp ?_
 refine WpL.into (e := (.exit 0)) (mkS [(3,.rs 1)] [(1,.arr (List.map K0c a2))]) hL ?_
 refine Qcr ?_
 refine K8d hc 2 [(2,.rs 1)] ?_
 refine rt ?_
 obtain rfl := os h
 exact rq [true]
def Ka3 (c : Ctx) : (List K01) → Exit → Q0a → Prop
 | a0 => Qcz c (.exit 0) (mkS [(3,.rs 1)] [(1,.arr (List.map K0v a0))])
mutual
def Ka4 (a0 : K01) : Option (K01) :=
 (K9j a0.fType) >>= fun a1 =>
 (Ka5 a0.fKids) >>= fun a2 =>
 some (K01.mk a0.fOp a0.fN a1 a2)
 partial_fixpoint
def Ka5 (a0 : (List K01)) : Option ((List K01)) :=
 (chk (0 ≤ (a0.length : Int) ∧ (Int.toNat (a0.length : Int)) * 64 ≤ 140737488355328)) >>= fun _ =>
 (Ka6 (a0,(List.replicate (Int.toNat (a0.length : Int)) (K01.mk 0 0 [] [])),0)) >>= fun a1 =>
 some a1
 partial_fixpoint
def Ka6 (p : (List K01) × (List K01) × Int) : Option ((List K01)) :=
 match p with
 | (a0,a1,a2) =>
  if (decide (a2 < (a0.length : Int))) = true then
  (idx a0 a2) >>= fun a3 =>
  (Ka4 a3) >>= fun a4 =>
  (idx a1 a2) >>= fun a5 =>
  Ka6 (a0,(List.set a1 (Int.toNat a2) a4),(wr (a2 + 1)))
  else
  some (a1)
 partial_fixpoint
end
def Ka7 (a0 : K01) (r : K01) : Prop :=
 Q71 Tryz.prog 18 [K2g a0] (K2r r) []
def Ka8 (a0 : (List K01)) (r : (List K01)) : Prop :=
 Q71 Tryz.prog 46 [.sl (List.map K0s a0)] (.osl (List.map K0v r)) []
def Ka9 (p : (List K01) × (List K01) × Int) (fl : (List K01)) : Prop :=
 match p with
 | (a0,a1,a2) => ∀ c : Ctx,c.nt = 23 → WpL Tryz.prog c (cl (cl (cr (cl (cr (cr B46)))))) (Ka3 c fl) (mkS [(0,.sl (List.map K0s a0)),(3,.rs 1),(4,I a2)] [(1,.arr (List.map K0v a1))])
theorem Kaa : (∀ p r,Ka4 p = some r → Ka7 p r) ∧ (∀ p r,Ka5 p = some r → Ka8 p r) ∧ (∀ p r,Ka6 p = some r → Ka9 p r) := by
 refine Ka4.mutual_partial_correctness Ka7 Ka8 Ka9 ?_ ?_ ?_
 ·rintro laws_toTermS_f laws_toTermS_ih a0 r h
  refine b0 Tryz.f18 B18 19 [(0,K2g a0)] fun c hc => ?_
  refine rs hc none [some (.new 1),some (.new 2)] [(1,.ra 1 0),(2,.ra 2 0)] [(1,K2f a0),(2,.box [I 0,I 0,.nils,.nils])] tv ?_
  refine rs hc none [some (.new 3)] [(1,.ra 1 0),(2,.ra 2 0),(3,.ra 3 0)] [(1,K2f a0),(2,.box [I 0,I 0,.nils,.nils]),(3,.box [I 0,I 0,.nils,.nils])] tv ?_
  refine rs0 hc 4 [(1,.ra 1 0),(2,.ra 2 0),(3,.ra 3 0)] [(1,K2f a0),(2,.box [I 0,I 0,.nils,.nils]),(3,.box [I a0.fOp,I 0,.nils,.nils])] ?_
  refine rs0 hc 4 [(1,.ra 1 0),(2,.ra 2 0),(3,.ra 3 0)] [(1,K2f a0),(2,.box [I 0,I 0,.nils,.nils]),(3,.box [I a0.fOp,I a0.fN,.nils,.nils])] ?_
  obtain ⟨a1,a2,h⟩ := Qdd h
  refine rs hc none [oN,oN,some (.call (oI a1) [] 4),oN,oN] [(1,.ra 1 0),(2,.ra 2 0),(3,.ra 3 0)] [(1,K2f a0),(2,.box [I 0,I 0,.nils,.nils]),(3,.box [I a0.fOp,I a0.fN,.rs 4,.nils]),(4,rI a1)] (cq (K9l _ _ a2) K3z tv) ?_
  obtain ⟨a3,a4,h⟩ := Qdd h
  refine rs hc none [oN,oN,some (.call (.osl (List.map K0v a3)) [] 5),oN,oN] [(2,.ra 2 0),(3,.ra 3 0)] [(2,.box [I 0,I 0,.nils,.nils]),(3,.box [I a0.fOp,I a0.fN,.rs 4,.rs 5]),(4,rI a1),(5,.arr (List.map K0v a3))] (cq (laws_toTermS_ih _ _ a4) K43 tv) ?_
  refine rs0 hc 2 [(2,.ra 2 0)] [(2,.box [I a0.fOp,I a0.fN,.rs 4,.rs 5]),(4,rI a1),(5,.arr (List.map K0v a3))] ?_
  refine rt ?_
  obtain rfl := os h
  exact rq [true]
 ·rintro laws_toTermS_l0_f laws_toTermS_l0_ih a0 r h
  refine b0 Tryz.f46 B46 23 [(0,.sl (List.map K0s a0))] fun c hc => ?_
  refine rs0 hc 1 [(0,.sl (List.map K0s a0))] [] ?_
  obtain ⟨_,a5,h⟩ := Qdd h
  refine rs hc none [oN,some (.eqv (.no) ⟨[(6,I (a0.length : Int))],[],[]⟩),some (.eqv (.mk 1 true) ⟨[(7,.rs 1)],[(1,some (.arr (List.map K0v (List.replicate (Int.toNat (a0.length : Int)) (K01.mk 0 0 [] [])))))],[1]⟩),oN] [(0,.sl (List.map K0s a0)),(3,.rs 1)] [(1,.arr (List.map K0v (List.replicate (Int.toNat (a0.length : Int)) (K01.mk 0 0 [] []))))] (ac (Qdj (d := 6) K0s a0) (congrArg (fun z => (⟨[(7,.rs 1)],[(1,some (.arr z))],[1]⟩ : Wr)) (Qei (enc := K0v) (n := Int.toNat (a0.length : Int)) (x := AV.agg [I ((K01.mk 0 0 [] []).fOp),I ((K01.mk 0 0 [] []).fN),.osl (List.map I ((K01.mk 0 0 [] []).fType)),.osl (List.map K0v ((K01.mk 0 0 [] []).fKids))]) (K11 (K01.mk 0 0 [] [])))) (And.intro (Eq.refl (a0.length : Int)) (Qdf a5)) tv) ?_
  refine sN ?_
  refine K8d hc 1 [(0,.sl (List.map K0s a0)),(3,.rs 1),(4,I 0)] ?_
  refine bk 0 ?_
  obtain ⟨a6,a7,h⟩ := Qdd h
  have hL := laws_toTermS_l0_ih _ _ a7 c hc
  refine lp ?_
  refine WpL.into (e := (.exit 0)) (mkS [(3,.rs 1)] [(1,.arr (List.map K0v a6))]) hL ?_
  refine Qcr ?_
  refine K8d hc 2 [(2,.rs 1)] ?_
  refine rt ?_
  obtain rfl := os h
  exact rq [true]
 ·rintro laws_toTerm_f laws_toTermS_l0_f laws_toTerm_ih laws_toTermS_l0_ih ⟨a0,a8,a9⟩ r h
  intro c hc
  refine WpL.step ?_
  refine sN ?_
  refine rss hc none [oN,oN,some (.eqv (.no) ⟨[(10,I (a0.length : Int))],[],[]⟩),oN] [(0,.sl (List.map K0s a0)),(3,.rs 1),(4,I a9),(11,.bool (decide (a9 < (a0.length : Int))))] (ai (Qdj (d := 10) K0s a0) tv) ?_
  refine ic h (fun b1 h => ?_) fun b1 h => ?_
  ·refine sk ?_
   refine sN ?_
   refine bk 1 ?_
   obtain ⟨b2,b3,b4,b5,b6,b7,h⟩ := bq3 h
   refine rg hc none [oN,oN,oN,oN,some (.el (K2g b2)),oN,some (.call (K2r b4) [] 4),oN,some (.eqv (.mk 0 true) ⟨[],[(1,some (.arr (List.map K0v (List.set a8 (Int.toNat a9) b4)))),(4,none),(5,none)],[]⟩)] [(0,.sl (List.map K0s a0)),(3,.rs 1),(4,I a9)] [(1,.arr (List.map K0v (List.set a8 (Int.toNat a9) b4)))] (ai (Qdh b3 (K0z b2)) (cq (laws_toTerm_ih _ _ b5) K44 (ac (Qdi (enc := K0v) b7) (congrArg (fun z => (⟨[],[(1,some (.arr z)),(4,none),(5,none)],[]⟩ : Wr)) (Qeg (enc := K0v) (i := Int.toNat a9) (l := a8) (v := b4) (x := AV.agg [I b4.fOp,I b4.fN,oI b4.fType,AV.osl (List.map K0v b4.fKids)]) (K11 b4))) (Qeh (enc := K0v) (sz := 4) K1i b7) tv))) ?_
   refine K8c hc 3 [(0,.sl (List.map K0s a0)),(3,.rs 1),(4,I (wr (a9 + 1)))] ?_
   refine Qcv ?_
   exact (laws_toTermS_l0_ih _ _ h c hc)
  refine xt 0 ?_
  refine Qcp ?_
  refine Qcw ?_
  obtain rfl := os h
  exact iv []
theorem Kab : ∀ p r,Ka4 p = some r → Ka7 p r := Kaa.1
theorem Kac : ∀ p r,Ka5 p = some r → Ka8 p r := Kaa.2.1
theorem Kad : ∀ p r,Ka6 p = some r → Ka9 p r := Kaa.2.2
def Kae (a0 : K02) : Option (K02) :=
 (Ka0 a0.fCtx) >>= fun a1 =>
 (K9j a0.fBudgets) >>= fun a2 =>
 (Ka4 a0.fTerm) >>= fun a3 =>
 (K9j a0.fType) >>= fun a4 =>
 (K9j a0.fFrom) >>= fun a5 =>
 some (K02.mk a1 a2 a3 a4 a5)
def Kaf (a0 : K02) (r : K02) : Prop :=
 Q71 Tryz.prog 38 [K2i a0] (K2t r) []
theorem Kag : ∀ p r,Kae p = some r → Kaf p r := by
 rintro a0 r h
 unfold Kae at h
 refine b0 Tryz.f38 B38 25 [(0,K2i a0)] fun c hc => ?_
 refine rs hc none [some (.new 1),some (.new 2)] [(1,.ra 1 0),(2,.ra 2 0)] [(1,K2h a0),(2,.box [.nils,.nils,I 0,I 0,.nils,.nils,.nils,.nils])] tv ?_
 refine rs hc none [some (.new 3)] [(1,.ra 1 0),(2,.ra 2 0),(3,.ra 3 0)] [(1,K2h a0),(2,.box [.nils,.nils,I 0,I 0,.nils,.nils,.nils,.nils]),(3,.box [.nils,.nils,I 0,I 0,.nils,.nils,.nils,.nils])] tv ?_
 obtain ⟨a1,a2,h⟩ := Qdd h
 refine rs hc none [oN,oN,some (.call (.osl (List.map K0c a1)) [] 4),oN,oN] [(1,.ra 1 0),(2,.ra 2 0),(3,.ra 3 0)] [(1,K2h a0),(2,.box [.nils,.nils,I 0,I 0,.nils,.nils,.nils,.nils]),(3,.box [.rs 4,.nils,I 0,I 0,.nils,.nils,.nils,.nils]),(4,.arr (List.map K0c a1))] (cq (Ka2 _ _ a2) K42 tv) ?_
 obtain ⟨a3,a4,h⟩ := Qdd h
 refine rs hc none [oN,oN,some (.call (oI a3) [] 5),oN,oN] [(1,.ra 1 0),(2,.ra 2 0),(3,.ra 3 0)] [(1,K2h a0),(2,.box [.nils,.nils,I 0,I 0,.nils,.nils,.nils,.nils]),(3,.box [.rs 4,.rs 5,I 0,I 0,.nils,.nils,.nils,.nils]),(4,.arr (List.map K0c a1)),(5,rI a3)] (cq (K9l _ _ a4) K3z tv) ?_
 obtain ⟨a5,a6,h⟩ := Qdd h
 refine rs hc none [oN,oN,some (.call (K2r a5) [] 6),oN,oN] [(1,.ra 1 0),(2,.ra 2 0),(3,.ra 3 0)] [(1,K2h a0),(2,.box [.nils,.nils,I 0,I 0,.nils,.nils,.nils,.nils]),(3,.box [.rs 4,.rs 5,I a5.fOp,I a5.fN,.rs 6,.rs 7,.nils,.nils]),(4,.arr (List.map K0c a1)),(5,rI a3),(6,rI a5.fType),(7,.arr (List.map K0v a5.fKids))] (cq (Kab _ _ a6) K44 tv) ?_
 obtain ⟨a7,a8,h⟩ := Qdd h
 refine rs hc none [oN,oN,some (.call (oI a7) [] 8),oN,oN] [(1,.ra 1 0),(2,.ra 2 0),(3,.ra 3 0)] [(1,K2h a0),(2,.box [.nils,.nils,I 0,I 0,.nils,.nils,.nils,.nils]),(3,.box [.rs 4,.rs 5,I a5.fOp,I a5.fN,.rs 6,.rs 7,.rs 8,.nils]),(4,.arr (List.map K0c a1)),(5,rI a3),(6,rI a5.fType),(7,.arr (List.map K0v a5.fKids)),(8,rI a7)] (cq (K9l _ _ a8) K3z tv) ?_
 obtain ⟨a9,b1,h⟩ := Qdd h
 refine rs hc none [oN,oN,some (.call (oI a9) [] 9),oN,oN] [(2,.ra 2 0),(3,.ra 3 0)] [(2,.box [.nils,.nils,I 0,I 0,.nils,.nils,.nils,.nils]),(3,.box [.rs 4,.rs 5,I a5.fOp,I a5.fN,.rs 6,.rs 7,.rs 8,.rs 9]),(4,.arr (List.map K0c a1)),(5,rI a3),(6,rI a5.fType),(7,.arr (List.map K0v a5.fKids)),(8,rI a7),(9,rI a9)] (cq (K9l _ _ b1) K3z tv) ?_
 refine rs0 hc 2 [(2,.ra 2 0)] [(2,.box [.rs 4,.rs 5,I a5.fOp,I a5.fN,.rs 6,.rs 7,.rs 8,.rs 9]),(4,.arr (List.map K0c a1)),(5,rI a3),(6,rI a5.fType),(7,.arr (List.map K0v a5.fKids)),(8,rI a7),(9,rI a9)] ?_
 refine rt ?_
 obtain rfl := os h
 exact rq [true]
def Kah (c : Ctx) : (List K02) → Exit → Q0a → Prop
 | a0 => Qcz c (.exit 0) (mkS [(3,.rs 1)] [(1,.arr (List.map K13 a0))])
def Kai (p : (List K02) × (List K02) × Int) : Option ((List K02)) :=
 match p with
 | (a0,a1,a2) =>
  if (decide (a2 < (a0.length : Int))) = true then
  (idx a0 a2) >>= fun a3 =>
  (Kae a3) >>= fun a4 =>
  (idx a1 a2) >>= fun a5 =>
  Kai (a0,(List.set a1 (Int.toNat a2) a4),(wr (a2 + 1)))
  else
  some (a1)
 partial_fixpoint
def Kaj (p : (List K02) × (List K02) × Int) (fl : (List K02)) : Prop :=
 match p with
 | (a0,a1,a2) => ∀ c : Ctx,c.nt = 23 → WpL Tryz.prog c (cl (cl (cr (cl (cr (cr B10)))))) (Kah c fl) (mkS [(0,.sl (List.map K12 a0)),(3,.rs 1),(4,I a2)] [(1,.arr (List.map K13 a1))])
theorem Kak : ∀ p r,Kai p = some r → Kaj p r := by
 refine Kai.partial_correctness Kaj ?_
 rintro laws_toJudgmentS_l0_f laws_toJudgmentS_l0_ih ⟨a0,a1,a2⟩ r h
 intro c hc
 refine WpL.step ?_
 refine sN ?_
 refine rss hc none [oN,oN,some (.eqv (.no) ⟨[(10,I (a0.length : Int))],[],[]⟩),oN] [(0,.sl (List.map K12 a0)),(3,.rs 1),(4,I a2),(11,.bool (decide (a2 < (a0.length : Int))))] (ai (Qdj (d := 10) K12 a0) tv) ?_
 refine ic h (fun a3 h => ?_) fun a3 h => ?_
 ·refine sk ?_
  refine sN ?_
  refine bk 1 ?_
  obtain ⟨a4,a5,a6,a7,a8,a9,h⟩ := bq3 h
  refine rg hc none [oN,oN,oN,oN,some (.el (K2i a4)),oN,some (.call (K2t a6) [] 8),oN,some (.eqv (.mk 0 true) ⟨[],[(1,some (.arr (List.map K13 (List.set a1 (Int.toNat a2) a6)))),(8,none),(9,none),(10,none),(11,none),(12,none),(13,none)],[]⟩)] [(0,.sl (List.map K12 a0)),(3,.rs 1),(4,I a2)] [(1,.arr (List.map K13 (List.set a1 (Int.toNat a2) a6)))] (ai (Qdh a5 (K1e a4)) (cq (Kag _ _ a7) K45 (ac (Qdi (enc := K13) a9) (congrArg (fun z => (⟨[],[(1,some (.arr z)),(8,none),(9,none),(10,none),(11,none),(12,none),(13,none)],[]⟩ : Wr)) (Qeg (enc := K13) (i := Int.toNat a2) (l := a1) (v := a6) (x := AV.agg [AV.osl (List.map K0c a6.fCtx),oI a6.fBudgets,I a6.fTerm.fOp,I a6.fTerm.fN,AV.osl (List.map I a6.fTerm.fType),AV.osl (List.map K0v a6.fTerm.fKids),oI a6.fType,oI a6.fFrom]) (K1p a6))) (Qeh (enc := K13) (sz := 8) K1q a9) tv))) ?_
  refine K8c hc 3 [(0,.sl (List.map K12 a0)),(3,.rs 1),(4,I (wr (a2 + 1)))] ?_
  refine Qcv ?_
  exact (laws_toJudgmentS_l0_ih _ _ h c hc)
 refine xt 0 ?_
 refine Qcp ?_
 refine Qcw ?_
 obtain rfl := os h
 exact iv []
def Kal : Option (List (List Nat)) := rx [[0],[1],[0],[3],[4],[0],[0,5],[0,5,6],[8],[9],[10],[11],[12],[11],[14],[15],[11],[11,16],[11,16,17],[19],[20],[21]]
def Kam : Option (List (List Nat)) := rh [0,0,0,3,0,0,0,7,8,9,10,10,12,13,14,14,14,17,18,19,20,21,21,21,24,25,26,27,28,29,29,29,32,33,34,35]
def Kan (a0 : (List K02)) : Option ((List K02)) :=
 (chk (0 ≤ (a0.length : Int) ∧ (Int.toNat (a0.length : Int)) * 160 ≤ 140737488355328)) >>= fun _ =>
 (Kai (a0,(List.replicate (Int.toNat (a0.length : Int)) (K02.mk [] [] (K01.mk 0 0 [] []) [] [])),0)) >>= fun a1 =>
 some a1
def Kao (a0 : (List K02)) (r : (List K02)) : Prop :=
 Q71 Tryz.prog 10 [.sl (List.map K12 a0)] (.osl (List.map K13 r)) []
theorem Kap : ∀ p r,Kan p = some r → Kao p r := by
 rintro a0 r h
 unfold Kan at h
 refine b0 Tryz.f10 B10 23 [(0,.sl (List.map K12 a0))] fun c hc => ?_
 refine rs0 hc 1 [(0,.sl (List.map K12 a0))] [] ?_
 obtain ⟨_,a1,h⟩ := Qdd h
 refine rs hc none [oN,some (.eqv (.no) ⟨[(6,I (a0.length : Int))],[],[]⟩),some (.eqv (.mk 1 true) ⟨[(7,.rs 1)],[(1,some (.arr (List.map K13 (List.replicate (Int.toNat (a0.length : Int)) (K02.mk [] [] (K01.mk 0 0 [] []) [] [])))))],[1]⟩),oN] [(0,.sl (List.map K12 a0)),(3,.rs 1)] [(1,.arr (List.map K13 (List.replicate (Int.toNat (a0.length : Int)) (K02.mk [] [] (K01.mk 0 0 [] []) [] []))))] (ac (Qdj (d := 6) K12 a0) (congrArg (fun z => (⟨[(7,.rs 1)],[(1,some (.arr z))],[1]⟩ : Wr)) (Qei (enc := K13) (n := Int.toNat (a0.length : Int)) (x := AV.agg [.osl (List.map K0c ((K02.mk [] [] (K01.mk 0 0 [] []) [] []).fCtx)),.osl (List.map I ((K02.mk [] [] (K01.mk 0 0 [] []) [] []).fBudgets)),I (((K02.mk [] [] (K01.mk 0 0 [] []) [] []).fTerm).fOp),I (((K02.mk [] [] (K01.mk 0 0 [] []) [] []).fTerm).fN),.osl (List.map I (((K02.mk [] [] (K01.mk 0 0 [] []) [] []).fTerm).fType)),.osl (List.map K0v (((K02.mk [] [] (K01.mk 0 0 [] []) [] []).fTerm).fKids)),.osl (List.map I ((K02.mk [] [] (K01.mk 0 0 [] []) [] []).fType)),.osl (List.map I ((K02.mk [] [] (K01.mk 0 0 [] []) [] []).fFrom))]) (K1p (K02.mk [] [] (K01.mk 0 0 [] []) [] [])))) (And.intro (Eq.refl (a0.length : Int)) (Qdf a1)) tv) ?_
 refine sN ?_
 refine K8d hc 1 [(0,.sl (List.map K12 a0)),(3,.rs 1),(4,I 0)] ?_
 refine bk 0 ?_
 obtain ⟨a2,a3,h⟩ := Qdd h
 have hL := Kak _ _ a3 c hc
 refine lp ?_
 refine WpL.into (e := (.exit 0)) (mkS [(3,.rs 1)] [(1,.arr (List.map K13 a2))]) hL ?_
 refine Qcr ?_
 refine K8d hc 2 [(2,.rs 1)] ?_
 refine rt ?_
 obtain rfl := os h
 exact rq [true]
def Kaq (p : Int × Int × Int) : Option (Bool) :=
 match p with
 | (n0,low1,high2) =>
  ((
  if (decide (n0 ≥ low1)) = true then
  some ((decide (n0 ≤ high2)))
  else
  some (false)
  ) : Option (Bool)) >>= fun a0 =>
  some a0
def Kar (p : Int × Int × Int) (r : Bool) : Prop :=
 match p with
 | (n0,low1,high2) => Q71 Tryz.prog 56 [I n0,I low1,I high2] (.bool r) []
theorem Kas : ∀ p r,Kaq p = some r → Kar p r := by
 rintro ⟨n0,low1,high2⟩ r h
 unfold Kaq at h
 refine b0 Tryz.f56 B56 15 [(0,I n0),(1,I low1),(2,I high2)] fun c hc => ?_
 refine rs0 hc 1 [(0,I n0),(1,I low1),(2,I high2)] [] ?_
 refine sN ?_
 obtain ⟨a0,a1,h⟩ := Qdd h
 refine Wp.into (x := .normal) (mkS [(6,.bool a0)] []) ?_ ?_
 ·replace h := a1
  rcases is h with ⟨a2,h⟩ | ⟨a2,h⟩
  ·refine rg hc none [oN,oN,oN,oN,oN,oN,oN,oT,oN] [(6,.bool (decide (n0 ≤ high2)))] [] (ar 4 a2 tv) ?_
   obtain rfl := os h
   exact Qcz.mk
  refine rg hc none [oN,oN,oN,oN,o_,o_,o_,oF,oN] [(6,.bool false)] [] (ar 3 (neT a2) (ai a2 tv)) ?_
  obtain rfl := os h
  exact Qcz.mk
 clear a1
 refine rt ?_
 obtain rfl := os h
 exact rq [true]
def Kat (c : Ctx) : (Unit) ⊕ (Bool) → Exit → Q0a → Prop
 | .inl _ => Qcz c (.exit 0) (mkS [] [])
 | .inr r => Qd8 TIx Tryz.f133 [] (.bool r)
def Kau (p : K00 × Int) : Option ((Unit) ⊕ (Bool)) :=
 match p with
 | (s0,a0) =>
  if (decide (a0 < (s0.fPlus.length : Int))) = true then
  ((
  (idx s0.fPlus a0) >>= fun a1 =>
  (Kaq (a1,0,(wr (s0.fSize - 1)))) >>= fun a2 =>
  if a2 = true then
  (idx s0.fTimes a0) >>= fun a3 =>
  (Kaq (a3,0,(wr (s0.fSize - 1)))) >>= fun a4 =>
  some ((!a4))
  else
  some (true)
  ) : Option (Bool)) >>= fun a5 =>
  if a5 = true then
  some (.inr false)
  else
  Kau (s0,(wr (a0 + 1)))
  else
  some (.inl ())
 partial_fixpoint
def Kav (p : K00 × Int) (fl : (Unit) ⊕ (Bool)) : Prop :=
 match p with
 | (s0,a0) => ∀ c : Ctx,c.nt = 70 → WpL Tryz.prog c (cl (cl (cr (cl (cr (cr K48)))))) (Kat c fl) (mkS [(1,.ra 1 0),(3,I a0)] [(1,K2d s0)])
theorem Kaw : ∀ p r,Kau p = some r → Kav p r := by
 refine Kau.partial_correctness Kav ?_
 rintro spec_l1Tables_l0_f spec_l1Tables_l0_ih ⟨s0,a0⟩ r h
 intro c hc
 refine WpL.step ?_
 refine sN ?_
 refine rss hc none [oN,oN,oN,some (.eqv (.no) ⟨[(44,I (s0.fPlus.length : Int))],[],[]⟩),oN] [(1,.ra 1 0),(3,I a0),(45,.bool (decide (a0 < (s0.fPlus.length : Int))))] (ai (Qdj (d := 44) I s0.fPlus) tv) ?_
 refine ic h (fun a1 h => ?_) fun a1 h => ?_
 ·refine sk ?_
  refine sN ?_
  refine bk 1 ?_
  refine sN ?_
  obtain ⟨a2,a3,h⟩ := Qdd h
  refine Wp.into (x := .normal) (mkS [(1,.ra 1 0),(3,I a0),(69,.bool a2)] [(1,K2d s0)]) ?_ ?_
  ·replace h := a3
   obtain ⟨a4,a5,a6,a7,h⟩ := bq2 h
   rcases is h with ⟨a8,h⟩ | ⟨a8,h⟩
   ·obtain ⟨a9,b1,b2,b3,h⟩ := bq2 h
    refine rgs hc Kal [oN,oN,oN,some (.el (I a4)),oN,oN,oN,oN,oc (.bool a6),oN,oN,oN,oN,oN,some (.el (I a9)),oN,oN,oN,oN,oc (.bool b2),oN,oF] [(1,.ra 1 0),(3,I a0),(69,.bool (!b2))] (ai (ix a5) (cq (Kas _ _ a7) K47 (ar 4 (nF a8) (ai (ix b1) (ar 5 (nF a8) (cq (Kas _ _ b3) K47 (ar 2 (nF a8) tv))))))) ?_
    obtain rfl := os h
    exact Qcz.mk
   refine rgs hc Kal [oN,oN,oN,some (.el (I a4)),oN,oN,oN,oN,oc (.bool a6),oN,oN,o_,o_,o_,o_,o_,o_,o_,o_,o_,o_,oT] [(1,.ra 1 0),(3,I a0),(69,.bool true)] (ai (ix a5) (cq (Kas _ _ a7) K47 (ar 10 (neF (nT a8)) (ai (nT a8) tv)))) ?_
   obtain rfl := os h
   exact Qcz.mk
  clear a3
  refine ic h (fun b4 h => ?_) fun b4 h => ?_
  ·refine rs0 hc 1 [(2,.bool false)] [] ?_
   refine rt ?_
   obtain rfl := os h
   exact re [true]
  refine sk ?_
  refine K8c hc 3 [(1,.ra 1 0),(3,I (wr (a0 + 1)))] ?_
  refine Qcv ?_
  exact (spec_l1Tables_l0_ih _ _ h c hc)
 refine xt 0 ?_
 refine Qcp ?_
 refine Qcw ?_
 obtain rfl := os h
 exact iv []
def Kax (s0 : K00) : Option (Bool) :=
 ((
 (Kaq (s0.fSize,2,16)) >>= fun a0 =>
 if a0 = true then
  if ((s0.fPlus.length : Int) != (wr (s0.fSize * s0.fSize))) = true then
  some (true)
  else
  if ((s0.fTimes.length : Int) != (wr (s0.fSize * s0.fSize))) = true then
  some (true)
  else
  some (((s0.fBelow.length : Int) != (wr (s0.fSize * s0.fSize))))
 else
  some (true)
 ) : Option (Bool)) >>= fun a1 =>
 if a1 = true then
 some false
 else
 (Kau (s0,0)) >>= fun fl => match fl with
 | .inl () =>
  some true
 | .inr r =>
  some r
def Kay (s0 : K00) (r : Bool) : Prop :=
 Q71 Tryz.prog 133 [K2e s0] (.bool r) []
theorem Kaz : ∀ p r,Kax p = some r → Kay p r := by
 rintro s0 r h
 unfold Kax at h
 refine b0 Tryz.f133 K48 70 [(0,K2e s0)] fun c hc => ?_
 refine rs hc none [some (.new 1),oN] [(1,.ra 1 0)] [(1,K2d s0)] tv ?_
 refine sN ?_
 refine sN ?_
 obtain ⟨a0,a1,h⟩ := Qdd h
 refine Wp.into (x := .normal) (mkS [(1,.ra 1 0),(40,.bool a0)] [(1,K2d s0)]) ?_ ?_
 ·replace h := a1
  obtain ⟨a2,a3,h⟩ := Qdd h
  rcases is h with ⟨a4,h⟩ | ⟨a4,h⟩
  ·rcases is h with ⟨a5,h⟩ | ⟨a5,h⟩
   ·refine rgs hc none [oN,oN,oc (.bool a2),oN,oN,oN,oN,some (.eqv (.no) ⟨[(11,I (s0.fPlus.length : Int))],[],[]⟩),oN,oN,oN,oN,oN,oN,oF,oN,o_,o_,o_,o_,o_,o_,o_,o_,o_,oT,oN,o_,o_,o_,o_,o_,o_,o_,o_,o_,oT] [(1,.ra 1 0),(40,.bool true)] (cq (Kas _ _ a3) K47 (ar 3 (nF a4) (ai (Qdj (d := 11) I s0.fPlus) (ar 7 (nF a4) (ar 9 (neF a5) (ai a5 (ar 9 nf (ai tt tv)))))))) ?_
    obtain rfl := os h
    exact Qcz.mk
   rcases is h with ⟨a6,h⟩ | ⟨a6,h⟩
   ·refine rgs hc none [oN,oN,oc (.bool a2),oN,oN,oN,oN,some (.eqv (.no) ⟨[(11,I (s0.fPlus.length : Int))],[],[]⟩),oN,oN,oN,oN,oN,oN,oF,oN,oN,oN,some (.eqv (.no) ⟨[(22,I (s0.fTimes.length : Int))],[],[]⟩),oN,oN,oN,oN,oN,oN,oF,oN,o_,o_,o_,o_,o_,o_,o_,o_,o_,oT] [(1,.ra 1 0),(40,.bool true)] (cq (Kas _ _ a3) K47 (ar 3 (nF a4) (ai (Qdj (d := 11) I s0.fPlus) (ar 7 (nF a4) (ar 3 a5 (ai (Qdj (d := 22) I s0.fTimes) (ar 7 a5 (ar 9 (neF a6) (ai a6 tv))))))))) ?_
    obtain rfl := os h
    exact Qcz.mk
   refine rgs hc none [oN,oN,oc (.bool a2),oN,oN,oN,oN,some (.eqv (.no) ⟨[(11,I (s0.fPlus.length : Int))],[],[]⟩),oN,oN,oN,oN,oN,oN,oF,oN,oN,oN,some (.eqv (.no) ⟨[(22,I (s0.fTimes.length : Int))],[],[]⟩),oN,oN,oN,oN,oN,oN,oF,oN,oN,oN,some (.eqv (.no) ⟨[(33,I (s0.fBelow.length : Int))],[],[]⟩),oN,oN,oN,oN,oN,oN,oF] [(1,.ra 1 0),(40,.bool ((s0.fBelow.length : Int) != (wr (s0.fSize * s0.fSize))))] (cq (Kas _ _ a3) K47 (ar 3 (nF a4) (ai (Qdj (d := 11) I s0.fPlus) (ar 7 (nF a4) (ar 3 a5 (ai (Qdj (d := 22) I s0.fTimes) (ar 7 a5 (ar 3 a6 (ai (Qdj (d := 33) AV.bool s0.fBelow) (ar 7 a6 tv)))))))))) ?_
   obtain rfl := os h
   exact Qcz.mk
  refine rgs hc none [oN,oN,oc (.bool a2),oN,oN,o_,o_,o_,o_,o_,o_,o_,o_,o_,oT,oN,o_,o_,o_,o_,o_,o_,o_,o_,o_,oT,oN,o_,o_,o_,o_,o_,o_,o_,o_,o_,oT] [(1,.ra 1 0),(40,.bool true)] (cq (Kas _ _ a3) K47 (ar 9 (neF (nT a4)) (ai (nT a4) (ar 9 nf (ai tt (ar 9 nf (ai tt tv))))))) ?_
  obtain rfl := os h
  exact Qcz.mk
 clear a1
 refine ic h (fun a7 h => ?_) fun a7 h => ?_
 ·refine rs0 hc 1 [(2,.bool false)] [] ?_
  refine rt ?_
  obtain rfl := os h
  exact rq [true]
 refine sk ?_
 refine sN ?_
 refine K8d hc 1 [(1,.ra 1 0),(3,I 0)] ?_
 refine bk 0 ?_
 obtain ⟨fl,a8,h⟩ := Qdd h
 have hL := Kaw _ _ a8 c hc
 refine lp ?_
 rcases fl with ⟨⟩ | r
 ·refine WpL.into (e := (.exit 0)) (mkS [] []) hL ?_
  refine Qcr ?_
  refine rs0 hc 1 [(2,.bool true)] [] ?_
  refine rt ?_
  obtain rfl := os h
  exact rq [true]
 refine WpL.mono hL ?_
 rintro _ _ ⟨rfl,hfin⟩
 obtain rfl := os h
 exact ⟨.inl rfl,hfin⟩
def Kb0 (p : K00 × Int × Int) : Option (Int) :=
 match p with
 | (s0,a1,b2) =>
  (idx s0.fPlus (wr ((wr (a1 * s0.fSize)) + b2))) >>= fun a0 =>
  some a0
def Kb1 (p : K00 × Int × Int) (r : Int) : Prop :=
 match p with
 | (s0,a1,b2) => Q71 Tryz.prog 137 [K2e s0,I a1,I b2] (I r) []
theorem Kb2 : ∀ p r,Kb0 p = some r → Kb1 p r := by
 rintro ⟨s0,a1,b2⟩ r h
 unfold Kb0 at h
 refine b0 Tryz.f137 K4a 17 [(0,K2e s0),(1,I a1),(2,I b2)] fun c hc => ?_
 refine rs hc none [some (.new 1),oN] [(1,I a1),(2,I b2),(3,.ra 1 0)] [(1,K2d s0)] tv ?_
 obtain ⟨a0,a2,h⟩ := Qdd h
 refine rs hc none [oN,oN,oN,oN,oN,oN,oN,oN,some (.el (I a0)),oN,oN] [(6,I a0)] [] (ai (ix a2) tv) ?_
 refine rt ?_
 obtain rfl := os h
 exact rq [true]
def Kb3 (p : K00 × Int × Int) : Option (Int) :=
 match p with
 | (s0,a1,b2) =>
  (idx s0.fTimes (wr ((wr (a1 * s0.fSize)) + b2))) >>= fun a0 =>
  some a0
def Kb4 (p : K00 × Int × Int) (r : Int) : Prop :=
 match p with
 | (s0,a1,b2) => Q71 Tryz.prog 112 [K2e s0,I a1,I b2] (I r) []
theorem Kb5 : ∀ p r,Kb3 p = some r → Kb4 p r := by
 rintro ⟨s0,a1,b2⟩ r h
 unfold Kb3 at h
 refine b0 Tryz.f112 K4c 17 [(0,K2e s0),(1,I a1),(2,I b2)] fun c hc => ?_
 refine rs hc none [some (.new 1),oN] [(1,I a1),(2,I b2),(3,.ra 1 0)] [(1,K2d s0)] tv ?_
 obtain ⟨a0,a2,h⟩ := Qdd h
 refine rs hc none [oN,oN,oN,oN,oN,oN,oN,oN,some (.el (I a0)),oN,oN] [(6,I a0)] [] (ai (ix a2) tv) ?_
 refine rt ?_
 obtain rfl := os h
 exact rq [true]
def Kb6 (p : K00 × Int × Int) : Option (Bool) :=
 match p with
 | (s0,a1,b2) =>
  (idx s0.fBelow (wr ((wr (a1 * s0.fSize)) + b2))) >>= fun a0 =>
  some a0
def Kb7 (p : K00 × Int × Int) (r : Bool) : Prop :=
 match p with
 | (s0,a1,b2) => Q71 Tryz.prog 99 [K2e s0,I a1,I b2] (.bool r) []
theorem Kb8 : ∀ p r,Kb6 p = some r → Kb7 p r := by
 rintro ⟨s0,a1,b2⟩ r h
 unfold Kb6 at h
 refine b0 Tryz.f99 B99 17 [(0,K2e s0),(1,I a1),(2,I b2)] fun c hc => ?_
 refine rs hc none [some (.new 1),oN] [(1,I a1),(2,I b2),(3,.ra 1 0)] [(1,K2d s0)] tv ?_
 obtain ⟨a0,a2,h⟩ := Qdd h
 refine rs hc none [oN,oN,oN,oN,oN,oN,oN,oN,some (.el (.bool a0)),oN,oN] [(6,.bool a0)] [] (ai (Qdh (enc := AV.bool) (x := .bool a0) a2 (Qdu a0)) tv) ?_
 refine rt ?_
 obtain rfl := os h
 exact rq [true]
def Kb9 (p : K00 × Int) : Option (Bool) :=
 match p with
 | (s0,a1) =>
  ((
  (Kb0 (s0,0,a1)) >>= fun a0 =>
  if (a0 == a1) = true then
  (Kb3 (s0,1,a1)) >>= fun a2 =>
  if (a2 == a1) = true then
  (Kb3 (s0,a1,1)) >>= fun a3 =>
  if (a3 == a1) = true then
  (Kb3 (s0,0,a1)) >>= fun a4 =>
  if (a4 == 0) = true then
  (Kb3 (s0,a1,0)) >>= fun a5 =>
  if (a5 == 0) = true then
  (Kb6 (s0,a1,a1)) >>= fun a6 =>
  some (a6)
  else
  some (false)
  else
  some (false)
  else
  some (false)
  else
  some (false)
  else
  some (false)
  ) : Option (Bool)) >>= fun a7 =>
  some a7
def Kba (p : K00 × Int) (r : Bool) : Prop :=
 match p with
 | (s0,a1) => Q71 Tryz.prog 134 [K2e s0,I a1] (.bool r) []
theorem Kbb : ∀ p r,Kb9 p = some r → Kba p r := by
 rintro ⟨s0,a1⟩ r h
 unfold Kb9 at h
 refine b0 Tryz.f134 K4f 42 [(0,K2e s0),(1,I a1)] fun c hc => ?_
 refine rs hc none [some (.new 1),oN] [(1,I a1),(2,.ra 1 0)] [(1,K2d s0)] tv ?_
 refine sN ?_
 obtain ⟨a0,a2,h⟩ := Qdd h
 refine Wp.into (x := .normal) (mkS [(4,.bool a0)] []) ?_ ?_
 ·replace h := a2
  obtain ⟨a3,a4,h⟩ := Qdd h
  rcases is h with ⟨a5,h⟩ | ⟨a5,h⟩
  ·obtain ⟨a6,a7,h⟩ := Qdd h
   rcases is h with ⟨a8,h⟩ | ⟨a8,h⟩
   ·obtain ⟨a9,b1,h⟩ := Qdd h
    rcases is h with ⟨b2,h⟩ | ⟨b2,h⟩
    ·obtain ⟨b3,b4,h⟩ := Qdd h
     rcases is h with ⟨b5,h⟩ | ⟨b5,h⟩
     ·obtain ⟨b6,b7,h⟩ := Qdd h
      rcases is h with ⟨b8,h⟩ | ⟨b8,h⟩
      ·obtain ⟨b9,c0,h⟩ := Qdd h
       refine rg hc none [oN,oN,oc (I a3),oN,oN,oN,oN,oN,oc (I a6),oN,oN,oT,oN,oN,oN,oc (I a9),oN,oN,oT,oN,oN,oN,oc (I b3),oN,oT,oN,oN,oN,oc (I b6),oN,oT,oN,oN,oN,oN,oc (.bool b9),oT,oN] [(4,.bool b9)] [] (cq (Kb2 _ _ a4) K4b (ar 3 a5 (cq (Kb5 _ _ a7) K4d (ar 3 a5 (ar 3 a8 (cq (Kb5 _ _ b1) K4d (ar 3 a8 (ar 3 b2 (cq (Kb5 _ _ b4) K4d (ar 2 b2 (ar 3 b5 (cq (Kb5 _ _ b7) K4d (ar 2 b5 (ar 4 b8 (cq (Kb8 _ _ c0) K4e (ai b8 tv)))))))))))))))) ?_
       obtain rfl := os h
       exact Qcz.mk
      refine rg hc none [oN,oN,oc (I a3),oN,oN,oN,oN,oN,oc (I a6),oN,oN,oT,oN,oN,oN,oc (I a9),oN,oN,oT,oN,oN,oN,oc (I b3),oN,oT,oN,oN,oN,oc (I b6),oN,oT,oN,o_,o_,o_,o_,oF,oN] [(4,.bool false)] [] (cq (Kb2 _ _ a4) K4b (ar 3 a5 (cq (Kb5 _ _ a7) K4d (ar 3 a5 (ar 3 a8 (cq (Kb5 _ _ b1) K4d (ar 3 a8 (ar 3 b2 (cq (Kb5 _ _ b4) K4d (ar 2 b2 (ar 3 b5 (cq (Kb5 _ _ b7) K4d (ar 2 b5 (ar 4 (neT b8) (ai b8 tv))))))))))))))) ?_
      obtain rfl := os h
      exact Qcz.mk
     refine rg hc none [oN,oN,oc (I a3),oN,oN,oN,oN,oN,oc (I a6),oN,oN,oT,oN,oN,oN,oc (I a9),oN,oN,oT,oN,oN,oN,oc (I b3),oN,oT,oN,o_,o_,o_,o_,oF,oN,o_,o_,o_,o_,oF,oN] [(4,.bool false)] [] (cq (Kb2 _ _ a4) K4b (ar 3 a5 (cq (Kb5 _ _ a7) K4d (ar 3 a5 (ar 3 a8 (cq (Kb5 _ _ b1) K4d (ar 3 a8 (ar 3 b2 (cq (Kb5 _ _ b4) K4d (ar 2 b2 (ar 4 (neT b5) (ai b5 (ar 4 (neT (rfl : false = false)) (ai (rfl : false = false) tv)))))))))))))) ?_
     obtain rfl := os h
     exact Qcz.mk
    refine rg hc none [oN,oN,oc (I a3),oN,oN,oN,oN,oN,oc (I a6),oN,oN,oT,oN,oN,oN,oc (I a9),oN,oN,oT,oN,o_,o_,o_,o_,oF,oN,o_,o_,o_,o_,oF,oN,o_,o_,o_,o_,oF,oN] [(4,.bool false)] [] (cq (Kb2 _ _ a4) K4b (ar 3 a5 (cq (Kb5 _ _ a7) K4d (ar 3 a5 (ar 3 a8 (cq (Kb5 _ _ b1) K4d (ar 3 a8 (ar 4 (neT b2) (ai b2 (ar 4 (neT (rfl : false = false)) (ai (rfl : false = false) (ar 4 (neT (rfl : false = false)) (ai (rfl : false = false) tv))))))))))))) ?_
    obtain rfl := os h
    exact Qcz.mk
   refine rg hc none [oN,oN,oc (I a3),oN,oN,oN,oN,oN,oc (I a6),oN,oN,oT,oN,o_,o_,o_,o_,o_,oF,oN,o_,o_,o_,o_,oF,oN,o_,o_,o_,o_,oF,oN,o_,o_,o_,o_,oF,oN] [(4,.bool false)] [] (cq (Kb2 _ _ a4) K4b (ar 3 a5 (cq (Kb5 _ _ a7) K4d (ar 3 a5 (ar 5 (neT a8) (ai a8 (ar 4 (neT (rfl : false = false)) (ai (rfl : false = false) (ar 4 (neT (rfl : false = false)) (ai (rfl : false = false) (ar 4 (neT (rfl : false = false)) (ai (rfl : false = false) tv)))))))))))) ?_
   obtain rfl := os h
   exact Qcz.mk
  refine rg hc none [oN,oN,oc (I a3),oN,oN,oN,o_,o_,o_,o_,o_,oF,oN,o_,o_,o_,o_,o_,oF,oN,o_,o_,o_,o_,oF,oN,o_,o_,o_,o_,oF,oN,o_,o_,o_,o_,oF,oN] [(4,.bool false)] [] (cq (Kb2 _ _ a4) K4b (ar 5 (neT a5) (ai a5 (ar 5 (neT (rfl : false = false)) (ai (rfl : false = false) (ar 4 (neT (rfl : false = false)) (ai (rfl : false = false) (ar 4 (neT (rfl : false = false)) (ai (rfl : false = false) (ar 4 (neT (rfl : false = false)) (ai (rfl : false = false) tv))))))))))) ?_
  obtain rfl := os h
  exact Qcz.mk
 clear a2
 refine rt ?_
 obtain rfl := os h
 exact rq [true]
def Kbc (c : Ctx) (s0 : K00) (a1 : Int) (b2 : Int) (a0 : Int) : Bool → Exit → Q0a → Prop
 | a2 => Qcz c (.exit 2) (mkS [(1,I a1),(2,I b2),(3,.ra 1 0),(7,I a0),(8,.bool a2)] [(1,K2d s0)])
def Kbd (p : K00 × Int × Int × Int × Bool × Int) : Option (Bool) :=
 match p with
 | (s0,a1,b2,a0,a2,a3) =>
  ((
  if (decide (a3 < s0.fSize)) = true then
  some (a2)
  else
  some (false)
  ) : Option (Bool)) >>= fun a4 =>
  if a4 = true then
  ((
  (Kb6 (s0,a1,a3)) >>= fun a5 =>
  if a5 = true then
  (Kb6 (s0,b2,a3)) >>= fun a6 =>
  if a6 = true then
  (Kb6 (s0,a0,a3)) >>= fun a7 =>
  some (a7)
  else
  some (true)
  else
  some (true)
  ) : Option (Bool)) >>= fun a8 =>
  Kbd (s0,a1,b2,a0,a8,(wr (a3 + 1)))
  else
  some (a2)
 partial_fixpoint
def Kbe (p : K00 × Int × Int × Int × Bool × Int) (fl : Bool) : Prop :=
 match p with
 | (s0,a1,b2,a0,a2,a3) => ∀ c : Ctx,c.nt = 55 → WpL Tryz.prog c (cl (cl (cr (cl (cr (cl (cl (cr (cl (cl (cr (cl (cr K4h))))))))))))) (Kbc c s0 a1 b2 a0 fl) (mkS [(1,I a1),(2,I b2),(3,.ra 1 0),(7,I a0),(8,.bool a2),(9,I a3)] [(1,K2d s0)])
theorem Kbf : ∀ p r,Kbd p = some r → Kbe p r := by
 refine Kbd.partial_correctness Kbe ?_
 rintro spec_l1Join_l0_f spec_l1Join_l0_ih ⟨s0,a1,b2,a0,a2,a3⟩ r h
 intro c hc
 refine WpL.step ?_
 refine sN ?_
 refine sN ?_
 obtain ⟨a4,a5,h⟩ := Qdd h
 refine Wp.into (x := .normal) (mkS [(1,I a1),(2,I b2),(3,.ra 1 0),(7,I a0),(8,.bool a2),(9,I a3),(32,.bool a4)] [(1,K2d s0)]) ?_ ?_
 ·replace h := a5
  rcases is h with ⟨a6,h⟩ | ⟨a6,h⟩
  ·refine rgs hc none [oN,oN,oN,oN,oN,oN,oT] [(1,I a1),(2,I b2),(3,.ra 1 0),(7,I a0),(8,.bool a2),(9,I a3),(32,.bool a2)] (ar 2 a6 tv) ?_
   obtain rfl := os h
   exact Qcz.mk
  refine rgs hc none [oN,oN,oN,oN,oN,o_,oF] [(1,I a1),(2,I b2),(3,.ra 1 0),(7,I a0),(8,.bool a2),(9,I a3),(32,.bool false)] (ab (neT a6) a6 tv) ?_
  obtain rfl := os h
  exact Qcz.mk
 clear a5
 refine ic h (fun a7 h => ?_) fun a7 h => ?_
 ·refine sk ?_
  refine sN ?_
  refine bk 3 ?_
  obtain ⟨a8,a9,h⟩ := Qdd h
  refine Wp.into (x := .normal) (mkS [(1,I a1),(2,I b2),(3,.ra 1 0),(7,I a0),(8,.bool a8),(9,I a3)] [(1,K2d s0)]) ?_ ?_
  ·replace h := a9
   obtain ⟨b1,b3,h⟩ := Qdd h
   rcases is h with ⟨b4,h⟩ | ⟨b4,h⟩
   ·obtain ⟨b5,b6,h⟩ := Qdd h
    rcases is h with ⟨b7,h⟩ | ⟨b7,h⟩
    ·obtain ⟨b8,b9,h⟩ := Qdd h
     refine rgs hc none [oN,oN,oN,oc (.bool b1),oN,oN,oN,oN,oN,oc (.bool b5),oN,oF,oN,oN,oN,oN,oc (.bool b8),oF,oN] [(1,I a1),(2,I b2),(3,.ra 1 0),(7,I a0),(8,.bool b8),(9,I a3)] (cq (Kb8 _ _ b3) K4e (ar 4 (nF b4) (cq (Kb8 _ _ b6) K4e (ar 2 (nF b4) (ar 4 (nF b7) (cq (Kb8 _ _ b9) K4e (ai (nF b7) tv))))))) ?_
     obtain rfl := os h
     exact Qcz.mk
    refine rgs hc none [oN,oN,oN,oc (.bool b1),oN,oN,oN,oN,oN,oc (.bool b5),oN,oF,oN,o_,o_,o_,o_,oT,oN] [(1,I a1),(2,I b2),(3,.ra 1 0),(7,I a0),(8,.bool true),(9,I a3)] (cq (Kb8 _ _ b3) K4e (ar 4 (nF b4) (cq (Kb8 _ _ b6) K4e (ar 2 (nF b4) (ar 4 (neF (nT b7)) (ai (nT b7) tv)))))) ?_
    obtain rfl := os h
    exact Qcz.mk
   refine rgs hc none [oN,oN,oN,oc (.bool b1),oN,oN,o_,o_,o_,o_,o_,oT,oN,o_,o_,o_,o_,oT,oN] [(1,I a1),(2,I b2),(3,.ra 1 0),(7,I a0),(8,.bool true),(9,I a3)] (cq (Kb8 _ _ b3) K4e (ar 5 (neF (nT b4)) (ai (nT b4) (ar 4 nf (ai tt tv))))) ?_
   obtain rfl := os h
   exact Qcz.mk
  clear a9
  refine K8c hc 3 [(1,I a1),(2,I b2),(3,.ra 1 0),(7,I a0),(8,.bool a8),(9,I (wr (a3 + 1)))] ?_
  refine Qcv ?_
  exact (spec_l1Join_l0_ih _ _ h c hc)
 refine xt 2 ?_
 refine Qcp ?_
 refine Qcw ?_
 obtain rfl := os h
 exact iv []
def Kbg (c : Ctx) : (Unit) ⊕ (Int) → Exit → Q0a → Prop
 | .inl _ => Qcz c (.exit 0) (mkS [] [])
 | .inr r => Qd8 TIx Tryz.f141 [] (I r)
def Kbh (p : K00 × Int × Int × Int) : Option ((Unit) ⊕ (Int)) :=
 match p with
 | (s0,a1,b2,a0) =>
  if (decide (a0 < s0.fSize)) = true then
  ((
  (Kb6 (s0,a1,a0)) >>= fun a2 =>
  if a2 = true then
  (Kb6 (s0,b2,a0)) >>= fun a3 =>
  some (a3)
  else
  some (false)
  ) : Option (Bool)) >>= fun a4 =>
  (Kbd (s0,a1,b2,a0,a4,0)) >>= fun a5 =>
  if a5 = true then
  some (.inr a0)
  else
  Kbh (s0,a1,b2,(wr (a0 + 1)))
  else
  some (.inl ())
 partial_fixpoint
def Kbi (p : K00 × Int × Int × Int) (fl : (Unit) ⊕ (Int)) : Prop :=
 match p with
 | (s0,a1,b2,a0) => ∀ c : Ctx,c.nt = 55 → WpL Tryz.prog c (cl (cl (cr (cl (cr K4h))))) (Kbg c fl) (mkS [(1,I a1),(2,I b2),(3,.ra 1 0),(7,I a0)] [(1,K2d s0)])
theorem Kbj : ∀ p r,Kbh p = some r → Kbi p r := by
 refine Kbh.partial_correctness Kbi ?_
 rintro spec_l1Join_l1_f spec_l1Join_l1_ih ⟨s0,a1,b2,a0⟩ r h
 intro c hc
 refine WpL.step ?_
 refine sN ?_
 refine K8d hc 4 [(1,I a1),(2,I b2),(3,.ra 1 0),(7,I a0),(13,.bool (decide (a0 < s0.fSize)))] ?_
 refine ic h (fun a2 h => ?_) fun a2 h => ?_
 ·refine sk ?_
  refine sN ?_
  refine bk 1 ?_
  refine sN ?_
  obtain ⟨a3,a4,h⟩ := Qdd h
  refine Wp.into (x := .normal) (mkS [(1,I a1),(2,I b2),(3,.ra 1 0),(7,I a0),(8,.bool a3)] [(1,K2d s0)]) ?_ ?_
  ·replace h := a4
   obtain ⟨a5,a6,h⟩ := Qdd h
   rcases is h with ⟨a7,h⟩ | ⟨a7,h⟩
   ·obtain ⟨a8,a9,h⟩ := Qdd h
    refine rgs hc none [oN,oN,oN,oc (.bool a5),oN,oN,oN,oN,oc (.bool a8),oT,oN] [(1,I a1),(2,I b2),(3,.ra 1 0),(7,I a0),(8,.bool a8)] (cq (Kb8 _ _ a6) K4e (ar 4 a7 (cq (Kb8 _ _ a9) K4e (ai a7 tv)))) ?_
    obtain rfl := os h
    exact Qcz.mk
   refine rgs hc none [oN,oN,oN,oc (.bool a5),oN,o_,o_,o_,o_,oF,oN] [(1,I a1),(2,I b2),(3,.ra 1 0),(7,I a0),(8,.bool false)] (cq (Kb8 _ _ a6) K4e (ar 4 (neT a7) (ai a7 tv))) ?_
   obtain rfl := os h
   exact Qcz.mk
  clear a4
  refine sN ?_
  refine K8d hc 1 [(1,I a1),(2,I b2),(3,.ra 1 0),(7,I a0),(8,.bool a3),(9,I 0)] ?_
  refine bk 2 ?_
  obtain ⟨b1,b3,h⟩ := Qdd h
  have hL := Kbf _ _ b3 c hc
  refine lp ?_
  refine WpL.into (e := (.exit 2)) (mkS [(1,I a1),(2,I b2),(3,.ra 1 0),(7,I a0),(8,.bool b1)] [(1,K2d s0)]) hL ?_
  refine Qcr ?_
  refine K8d hc 1 [(1,I a1),(2,I b2),(3,.ra 1 0),(7,I a0),(53,.bool b1)] ?_
  refine ic h (fun b4 h => ?_) fun b4 h => ?_
  ·refine rs0 hc 2 [(6,I a0)] [] ?_
   refine rt ?_
   obtain rfl := os h
   exact re [true]
  refine sk ?_
  refine K8c hc 3 [(1,I a1),(2,I b2),(3,.ra 1 0),(7,I (wr (a0 + 1)))] ?_
  refine Qcv ?_
  exact (spec_l1Join_l1_ih _ _ h c hc)
 refine xt 0 ?_
 refine Qcp ?_
 refine Qcw ?_
 obtain rfl := os h
 exact iv []
def Kbk (p : K00 × Int × Int) : Option (Int) :=
 match p with
 | (s0,a1,b2) =>
  (Kbh (s0,a1,b2,0)) >>= fun fl => match fl with
  | .inl () =>
   some (-1)
  | .inr r =>
   some r
def Kbl (p : K00 × Int × Int) (r : Int) : Prop :=
 match p with
 | (s0,a1,b2) => Q71 Tryz.prog 141 [K2e s0,I a1,I b2] (I r) []
theorem Kbm : ∀ p r,Kbk p = some r → Kbl p r := by
 rintro ⟨s0,a1,b2⟩ r h
 unfold Kbk at h
 refine b0 Tryz.f141 K4h 55 [(0,K2e s0),(1,I a1),(2,I b2)] fun c hc => ?_
 refine rs hc none [some (.new 1),oN] [(1,I a1),(2,I b2),(3,.ra 1 0)] [(1,K2d s0)] tv ?_
 refine sN ?_
 refine K8d hc 1 [(1,I a1),(2,I b2),(3,.ra 1 0),(7,I 0)] ?_
 refine bk 0 ?_
 obtain ⟨fl,a0,h⟩ := Qdd h
 have hL := Kbj _ _ a0 c hc
 refine lp ?_
 rcases fl with ⟨⟩ | r
 ·refine WpL.into (e := (.exit 0)) (mkS [] []) hL ?_
  refine Qcr ?_
  refine rs0 hc 1 [(6,I (-1))] [] ?_
  refine rt ?_
  obtain rfl := os h
  exact rq [true]
 refine WpL.mono hL ?_
 rintro _ _ ⟨rfl,hfin⟩
 obtain rfl := os h
 exact ⟨.inl rfl,hfin⟩
def Kbn (p : K00 × Int × Int) : Option (Bool) :=
 match p with
 | (s0,a1,b2) =>
  ((
  (Kb0 (s0,a1,b2)) >>= fun a0 =>
  (Kb0 (s0,b2,a1)) >>= fun a2 =>
  if (a0 == a2) = true then
  if (a1 == b2) = true then
  (Kbk (s0,a1,b2)) >>= fun a3 =>
  some ((decide (a3 ≥ 0)))
  else
  (Kb6 (s0,a1,b2)) >>= fun a4 =>
  if a4 = true then
  (Kb6 (s0,b2,a1)) >>= fun a5 =>
  if a5 = true then
  some (false)
  else
  (Kbk (s0,a1,b2)) >>= fun a3 =>
  some ((decide (a3 ≥ 0)))
  else
  (Kbk (s0,a1,b2)) >>= fun a3 =>
  some ((decide (a3 ≥ 0)))
  else
  some (false)
  ) : Option (Bool)) >>= fun a6 =>
  some a6
def Kbo (p : K00 × Int × Int) (r : Bool) : Prop :=
 match p with
 | (s0,a1,b2) => Q71 Tryz.prog 135 [K2e s0,I a1,I b2] (.bool r) []
theorem Kbp : ∀ p r,Kbn p = some r → Kbo p r := by
 rintro ⟨s0,a1,b2⟩ r h
 unfold Kbn at h
 refine b0 Tryz.f135 K4j 42 [(0,K2e s0),(1,I a1),(2,I b2)] fun c hc => ?_
 refine rs hc none [some (.new 1),oN] [(1,I a1),(2,I b2),(3,.ra 1 0)] [(1,K2d s0)] tv ?_
 refine sN ?_
 obtain ⟨a0,a2,h⟩ := Qdd h
 refine Wp.into (x := .normal) (mkS [(6,.bool a0)] []) ?_ ?_
 ·replace h := a2
  obtain ⟨a3,a4,a5,a6,h⟩ := bq2 h
  rcases is h with ⟨a7,h⟩ | ⟨a7,h⟩
  ·rcases is h with ⟨a8,h⟩ | ⟨a8,h⟩
   ·obtain ⟨a9,b1,h⟩ := Qdd h
    refine rg hc Kam [oN,oN,oN,oc (I a3),oN,oN,oN,oc (I a5),oN,oN,oN,oN,oN,oN,o_,o_,o_,o_,o_,oT,oN,o_,o_,o_,o_,o_,oT,oT,oN,oN,oN,oN,oc (I a9),oN,oT,oN] [(6,.bool (decide (a9 ≥ 0)))] [] (cq (Kb2 _ _ a4) K4b (cq (Kb2 _ _ a6) K4b (ar 4 a7 (ar 5 (neF a8) (ac a7 a8 a7 (ar 5 nf (ac a7 tt a7 (ar 4 tt (cq (Kbm _ _ b1) K4i (ar 2 tt tv)))))))))) ?_
    obtain rfl := os h
    exact Qcz.mk
   obtain ⟨b3,b4,h⟩ := Qdd h
   rcases is h with ⟨b5,h⟩ | ⟨b5,h⟩
   ·obtain ⟨b6,b7,h⟩ := Qdd h
    rcases is h with ⟨b8,h⟩ | ⟨b8,h⟩
    ·refine rg hc Kam [oN,oN,oN,oc (I a3),oN,oN,oN,oc (I a5),oN,oN,oN,oN,oN,oN,oN,oN,oN,oc (.bool b3),oN,oF,oN,oN,oN,oN,oc (.bool b6),oN,oF,oT,oN,o_,o_,o_,o_,o_,oF,oN] [(6,.bool false)] [] (cq (Kb2 _ _ a4) K4b (cq (Kb2 _ _ a6) K4b (ar 4 a7 (ar 4 a8 (cq (Kb8 _ _ b4) K4e (ad a8 a7 a8 a7 (ar 4 (nF b5) (cq (Kb8 _ _ b7) K4e (ad (nF b5) a7 (nF b5) a7 (ar 5 (neT (nF b8)) (ai (nF b8) tv))))))))))) ?_
     obtain rfl := os h
     exact Qcz.mk
    obtain ⟨a9,b1,h⟩ := Qdd h
    refine rg hc Kam [oN,oN,oN,oc (I a3),oN,oN,oN,oc (I a5),oN,oN,oN,oN,oN,oN,oN,oN,oN,oc (.bool b3),oN,oF,oN,oN,oN,oN,oc (.bool b6),oN,oF,oT,oN,oN,oN,oN,oc (I a9),oN,oT,oN] [(6,.bool (decide (a9 ≥ 0)))] [] (cq (Kb2 _ _ a4) K4b (cq (Kb2 _ _ a6) K4b (ar 4 a7 (ar 4 a8 (cq (Kb8 _ _ b4) K4e (ad a8 a7 a8 a7 (ar 4 (nF b5) (cq (Kb8 _ _ b7) K4e (ad (nF b5) a7 (nF b5) a7 (ar 4 (nT b8) (cq (Kbm _ _ b1) K4i (ar 2 (nT b8) tv)))))))))))) ?_
    obtain rfl := os h
    exact Qcz.mk
   obtain ⟨a9,b1,h⟩ := Qdd h
   refine rg hc Kam [oN,oN,oN,oc (I a3),oN,oN,oN,oc (I a5),oN,oN,oN,oN,oN,oN,oN,oN,oN,oc (.bool b3),oN,oF,oN,o_,o_,o_,o_,o_,oT,oT,oN,oN,oN,oN,oc (I a9),oN,oT,oN] [(6,.bool (decide (a9 ≥ 0)))] [] (cq (Kb2 _ _ a4) K4b (cq (Kb2 _ _ a6) K4b (ar 4 a7 (ar 4 a8 (cq (Kb8 _ _ b4) K4e (ad a8 a7 a8 a7 (ar 5 (neF (nT b5)) (ac a7 (nT b5) a7 (ar 4 tt (cq (Kbm _ _ b1) K4i (ar 2 tt tv))))))))))) ?_
   obtain rfl := os h
   exact Qcz.mk
  refine rg hc Kam [oN,oN,oN,oc (I a3),oN,oN,oN,oc (I a5),oN,oN,o_,o_,o_,o_,o_,o_,o_,o_,o_,o_,o_,o_,o_,o_,o_,o_,o_,oF,oN,o_,o_,o_,o_,o_,oF,oN] [(6,.bool false)] [] (cq (Kb2 _ _ a4) K4b (cq (Kb2 _ _ a6) K4b (ar 7 (neT a7) (ai a7 (ar 5 (neT (rfl : false = false)) (ai (rfl : false = false) tv)))))) ?_
  obtain rfl := os h
  exact Qcz.mk
 clear a2
 refine rt ?_
 obtain rfl := os h
 exact rq [true]
def Kbq : Option (List (List Nat)) := rx [[0],[0],[0],[0],[0,1,2,3],[0],[6],[0],[0],[0],[0],[0],[7,9,10,11],[13],[14],[15],[16],[16],[16],[16],[16,17,18,19],[16],[22],[16],[16],[16],[16],[16],[23,25,26,27],[29],[30],[31]]
def Kbr : Option (List (List Nat)) := rx [[0],[0],[0],[0],[0],[0,2,3,4],[6],[0],[0],[0],[0],[7,8,9,10],[0],[0],[0],[7,8,9,10,11,12,13,14],[16],[17],[18],[19],[19],[19],[19],[19,20,21,22],[19],[25],[19],[19],[19],[19],[26,27,28,29],[19],[19],[19],[26,27,28,29,30,31,32,33],[35],[36],[37]]
def Kbs : Option (List (List Nat)) := rx [[0],[0],[0],[0],[0,1,2,3],[0],[0],[0],[0,1,2,3,4,5,6,7],[9],[10],[11],[11],[11],[11],[11,12,13,14],[11],[11],[11],[11,12,13,14,15,16,17,18],[20],[21],[22],[23],[23],[23],[23],[23,24,25,26],[23],[23],[23],[23,24,25,26,27,28,29,30],[32],[33],[34]]
def Kbt (p : K00 × Int × Int × Int) : Option (Bool) :=
 match p with
 | (s0,a1,b2,c3) =>
  ((
  (Kb0 (s0,a1,b2)) >>= fun a0 =>
  (Kb0 (s0,a0,c3)) >>= fun a2 =>
  (Kb0 (s0,b2,c3)) >>= fun a3 =>
  (Kb0 (s0,a1,a3)) >>= fun a4 =>
  if (a2 != a4) = true then
  some (true)
  else
  (Kb3 (s0,a1,b2)) >>= fun a5 =>
  (Kb3 (s0,a5,c3)) >>= fun a6 =>
  (Kb3 (s0,b2,c3)) >>= fun a7 =>
  (Kb3 (s0,a1,a7)) >>= fun a8 =>
  some ((a6 != a8))
  ) : Option (Bool)) >>= fun a9 =>
  if a9 = true then
  some false
  else
  ((
  (Kb0 (s0,b2,c3)) >>= fun b1 =>
  (Kb3 (s0,a1,b1)) >>= fun b3 =>
  (Kb3 (s0,a1,b2)) >>= fun b4 =>
  (Kb3 (s0,a1,c3)) >>= fun b5 =>
  (Kb0 (s0,b4,b5)) >>= fun b6 =>
  if (b3 != b6) = true then
  some (true)
  else
  (Kb0 (s0,a1,b2)) >>= fun b7 =>
  (Kb3 (s0,b7,c3)) >>= fun b8 =>
  (Kb3 (s0,a1,c3)) >>= fun b9 =>
  (Kb3 (s0,b2,c3)) >>= fun c0 =>
  (Kb0 (s0,b9,c0)) >>= fun c1 =>
  some ((b8 != c1))
  ) : Option (Bool)) >>= fun c2 =>
  if c2 = true then
  some false
  else
  (Kb6 (s0,a1,b2)) >>= fun c4 =>
  if c4 = true then
  ((
  (Kb6 (s0,b2,c3)) >>= fun c5 =>
  if c5 = true then
  (Kb6 (s0,a1,c3)) >>= fun c6 =>
  some ((!c6))
  else
  some (false)
  ) : Option (Bool)) >>= fun c7 =>
  if c7 = true then
  some false
  else
  ((
  (Kb0 (s0,a1,c3)) >>= fun c8 =>
  (Kb0 (s0,b2,c3)) >>= fun c9 =>
  (Kb6 (s0,c8,c9)) >>= fun d0 =>
  if d0 = true then
  (Kb3 (s0,a1,c3)) >>= fun d1 =>
  (Kb3 (s0,b2,c3)) >>= fun d2 =>
  (Kb6 (s0,d1,d2)) >>= fun d3 =>
  if d3 = true then
  (Kb3 (s0,c3,a1)) >>= fun d4 =>
  (Kb3 (s0,c3,b2)) >>= fun d5 =>
  (Kb6 (s0,d4,d5)) >>= fun d6 =>
  some (d6)
  else
  some (false)
  else
  some (false)
  ) : Option (Bool)) >>= fun d7 =>
  some d7
  else
  some true
def Kbu (p : K00 × Int × Int × Int) (r : Bool) : Prop :=
 match p with
 | (s0,a1,b2,c3) => Q71 Tryz.prog 136 [K2e s0,I a1,I b2,I c3] (.bool r) []
theorem Kbv : ∀ p r,Kbt p = some r → Kbu p r := by
 rintro ⟨s0,a1,b2,c3⟩ r h
 unfold Kbt at h
 refine b0 Tryz.f136 K4l 129 [(0,K2e s0),(1,I a1),(2,I b2),(3,I c3)] fun c hc => ?_
 refine rs hc none [some (.new 1),oN] [(1,I a1),(2,I b2),(3,I c3),(4,.ra 1 0)] [(1,K2d s0)] tv ?_
 refine sN ?_
 refine sN ?_
 obtain ⟨a0,a2,h⟩ := Qdd h
 refine Wp.into (x := .normal) (mkS [(1,I a1),(2,I b2),(3,I c3),(4,.ra 1 0),(40,.bool a0)] [(1,K2d s0)]) ?_ ?_
 ·replace h := a2
  obtain ⟨a3,a4,a5,a6,a7,a8,a9,b1,h⟩ := bq4 h
  rcases is h with ⟨b3,h⟩ | ⟨b3,h⟩
  ·refine rgs hc Kbq [oN,oN,oN,oN,oc (I a3),oN,oc (I a5),oN,oN,oN,oN,oN,oc (I a7),oc (I a9),oN,oN,o_,o_,o_,o_,o_,o_,o_,o_,o_,o_,o_,o_,o_,o_,o_,oT] [(1,I a1),(2,I b2),(3,I c3),(4,.ra 1 0),(40,.bool true)] (cq (Kb2 _ _ a4) K4b (cq (Kb2 _ _ a6) K4b (cq (Kb2 _ _ a8) K4b (cq (Kb2 _ _ b1) K4b (ar 15 (neF b3) (ai b3 tv)))))) ?_
   obtain rfl := os h
   exact Qcz.mk
  obtain ⟨b4,b5,b6,b7,b8,b9,c0,c1,h⟩ := bq4 h
  refine rgs hc Kbq [oN,oN,oN,oN,oc (I a3),oN,oc (I a5),oN,oN,oN,oN,oN,oc (I a7),oc (I a9),oN,oN,oN,oN,oN,oN,oc (I b4),oN,oc (I b6),oN,oN,oN,oN,oN,oc (I b8),oc (I c0),oN,oF] [(1,I a1),(2,I b2),(3,I c3),(4,.ra 1 0),(40,.bool (b6 != c0))] (cq (Kb2 _ _ a4) K4b (cq (Kb2 _ _ a6) K4b (cq (Kb2 _ _ a8) K4b (cq (Kb2 _ _ b1) K4b (ar 5 b3 (cq (Kb5 _ _ b5) K4d (ar 2 b3 (cq (Kb5 _ _ b7) K4d (ar 6 b3 (cq (Kb5 _ _ b9) K4d (ai b3 (cq (Kb5 _ _ c1) K4d (ar 2 b3 tv))))))))))))) ?_
  obtain rfl := os h
  exact Qcz.mk
 clear a2
 refine ic h (fun c2 h => ?_) fun c2 h => ?_
 ·refine rs0 hc 1 [(8,.bool false)] [] ?_
  refine rt ?_
  obtain rfl := os h
  exact rq [true]
 refine sk ?_
 refine sN ?_
 refine sN ?_
 obtain ⟨c4,c5,h⟩ := Qdd h
 refine Wp.into (x := .normal) (mkS [(1,I a1),(2,I b2),(3,I c3),(4,.ra 1 0),(78,.bool c4)] [(1,K2d s0)]) ?_ ?_
 ·replace h := c5
  obtain ⟨c6,c7,c8,c9,d0,d1,d2,d3,h⟩ := bq4 h
  obtain ⟨d4,d5,h⟩ := Qdd h
  rcases is h with ⟨d6,h⟩ | ⟨d6,h⟩
  ·refine rgs hc Kbr [oN,oN,oN,oN,oN,oc (I c6),oc (I c8),oN,oN,oN,oN,oc (I d0),oN,oN,oN,oc (I d2),oc (I d4),oN,oN,o_,o_,o_,o_,o_,o_,o_,o_,o_,o_,o_,o_,o_,o_,o_,o_,o_,o_,oT] [(1,I a1),(2,I b2),(3,I c3),(4,.ra 1 0),(78,.bool true)] (cq (Kb2 _ _ c7) K4b (cq (Kb5 _ _ c9) K4d (cq (Kb5 _ _ d1) K4d (cq (Kb5 _ _ d3) K4d (cq (Kb2 _ _ d5) K4b (ar 18 (neF d6) (ai d6 tv))))))) ?_
   obtain rfl := os h
   exact Qcz.mk
  obtain ⟨d7,d8,d9,e0,e1,e2,e3,e4,h⟩ := bq4 h
  obtain ⟨e5,e6,h⟩ := Qdd h
  refine rgs hc Kbr [oN,oN,oN,oN,oN,oc (I c6),oc (I c8),oN,oN,oN,oN,oc (I d0),oN,oN,oN,oc (I d2),oc (I d4),oN,oN,oN,oN,oN,oN,oc (I d7),oN,oc (I d9),oN,oN,oN,oN,oc (I e1),oN,oN,oN,oc (I e3),oc (I e5),oN,oF] [(1,I a1),(2,I b2),(3,I c3),(4,.ra 1 0),(78,.bool (d9 != e5))] (cq (Kb2 _ _ c7) K4b (cq (Kb5 _ _ c9) K4d (cq (Kb5 _ _ d1) K4d (cq (Kb5 _ _ d3) K4d (cq (Kb2 _ _ d5) K4b (ar 5 d6 (cq (Kb2 _ _ d8) K4b (ar 2 d6 (cq (Kb5 _ _ e0) K4d (ar 5 d6 (cq (Kb5 _ _ e2) K4d (ar 4 d6 (cq (Kb5 _ _ e4) K4d (ai d6 (cq (Kb2 _ _ e6) K4b (ar 2 d6 tv)))))))))))))))) ?_
  obtain rfl := os h
  exact Qcz.mk
 clear c5
 refine ic h (fun e7 h => ?_) fun e7 h => ?_
 ·refine rs0 hc 1 [(8,.bool false)] [] ?_
  refine rt ?_
  obtain rfl := os h
  exact rq [true]
 refine sk ?_
 refine sN ?_
 obtain ⟨e8,e9,h⟩ := Qdd h
 refine rss hc none [oN,oN,oN,oc (.bool e8),oN] [(1,I a1),(2,I b2),(3,I c3),(4,.ra 1 0),(83,.bool (!e8))] (cq (Kb8 _ _ e9) K4e tv) ?_
 rcases is h with ⟨f0,h⟩ | ⟨f0,h⟩
 ·refine cF (!e8) (nF f0) ?_
  refine sk ?_
  refine sN ?_
  refine sN ?_
  obtain ⟨f1,f2,h⟩ := Qdd h
  refine Wp.into (x := .normal) (mkS [(1,I a1),(2,I b2),(3,I c3),(4,.ra 1 0),(94,.bool f1)] [(1,K2d s0)]) ?_ ?_
  ·replace h := f2
   obtain ⟨f3,f4,h⟩ := Qdd h
   rcases is h with ⟨f5,h⟩ | ⟨f5,h⟩
   ·obtain ⟨f6,f7,h⟩ := Qdd h
    refine rgs hc none [oN,oN,oN,oc (.bool f3),oN,oN,oN,oN,oc (.bool f6),oN,oT] [(1,I a1),(2,I b2),(3,I c3),(4,.ra 1 0),(94,.bool (!f6))] (cq (Kb8 _ _ f4) K4e (ar 4 f5 (cq (Kb8 _ _ f7) K4e (ar 2 f5 tv)))) ?_
    obtain rfl := os h
    exact Qcz.mk
   refine rgs hc none [oN,oN,oN,oc (.bool f3),oN,o_,o_,o_,o_,o_,oF] [(1,I a1),(2,I b2),(3,I c3),(4,.ra 1 0),(94,.bool false)] (cq (Kb8 _ _ f4) K4e (ar 5 (neT f5) (ai f5 tv))) ?_
   obtain rfl := os h
   exact Qcz.mk
  clear f2
  refine ic h (fun f8 h => ?_) fun f8 h => ?_
  ·refine rs0 hc 1 [(8,.bool false)] [] ?_
   refine rt ?_
   obtain rfl := os h
   exact rq [true]
  refine sk ?_
  refine sN ?_
  obtain ⟨f9,g0,h⟩ := Qdd h
  refine Wp.into (x := .normal) (mkS [(8,.bool f9)] []) ?_ ?_
  ·replace h := g0
   obtain ⟨g1,g2,g3,g4,g5,g6,h⟩ := bq3 h
   rcases is h with ⟨g7,h⟩ | ⟨g7,h⟩
   ·obtain ⟨g8,g9,i0,i1,i2,i3,h⟩ := bq3 h
    rcases is h with ⟨i4,h⟩ | ⟨i4,h⟩
    ·obtain ⟨i5,i6,i7,i8,i9,j0,h⟩ := bq3 h
     refine rg hc Kbs [oN,oN,oN,oN,oc (I g1),oN,oN,oN,oc (I g3),oc (.bool g5),oN,oN,oN,oN,oN,oc (I g8),oN,oN,oN,oc (I i0),oc (.bool i2),oT,oN,oN,oN,oN,oN,oc (I i5),oN,oN,oN,oc (I i7),oc (.bool i9),oT,oN] [(8,.bool i9)] [] (cq (Kb2 _ _ g2) K4b (cq (Kb2 _ _ g4) K4b (cq (Kb8 _ _ g6) K4e (ar 5 g7 (cq (Kb5 _ _ g9) K4d (ar 4 g7 (cq (Kb5 _ _ i1) K4d (ai g7 (cq (Kb8 _ _ i3) K4e (ai g7 (ar 5 i4 (cq (Kb5 _ _ i6) K4d (ar 4 i4 (cq (Kb5 _ _ i8) K4d (ai i4 (cq (Kb8 _ _ j0) K4e (ai i4 tv))))))))))))))))) ?_
     obtain rfl := os h
     exact Qcz.mk
    refine rg hc Kbs [oN,oN,oN,oN,oc (I g1),oN,oN,oN,oc (I g3),oc (.bool g5),oN,oN,oN,oN,oN,oc (I g8),oN,oN,oN,oc (I i0),oc (.bool i2),oT,oN,o_,o_,o_,o_,o_,o_,o_,o_,o_,o_,oF,oN] [(8,.bool false)] [] (cq (Kb2 _ _ g2) K4b (cq (Kb2 _ _ g4) K4b (cq (Kb8 _ _ g6) K4e (ar 5 g7 (cq (Kb5 _ _ g9) K4d (ar 4 g7 (cq (Kb5 _ _ i1) K4d (ai g7 (cq (Kb8 _ _ i3) K4e (ai g7 (ar 10 (neT i4) (ai i4 tv)))))))))))) ?_
    obtain rfl := os h
    exact Qcz.mk
   refine rg hc Kbs [oN,oN,oN,oN,oc (I g1),oN,oN,oN,oc (I g3),oc (.bool g5),oN,o_,o_,o_,o_,o_,o_,o_,o_,o_,o_,oF,oN,o_,o_,o_,o_,o_,o_,o_,o_,o_,o_,oF,oN] [(8,.bool false)] [] (cq (Kb2 _ _ g2) K4b (cq (Kb2 _ _ g4) K4b (cq (Kb8 _ _ g6) K4e (ar 10 (neT g7) (ai g7 (ar 10 (neT (rfl : false = false)) (ai (rfl : false = false) tv))))))) ?_
   obtain rfl := os h
   exact Qcz.mk
  clear g0
  refine rt ?_
  obtain rfl := os h
  exact rq [true]
 refine cT (!e8) (nT f0) ?_
 refine rs0 hc 1 [(8,.bool true)] [] ?_
 refine rt ?_
 obtain rfl := os h
 exact rq [true]
def Kbw (c : Ctx) (s0 : K00) (a0 : Int) (a1 : Int) : (Unit) ⊕ (Bool) → Exit → Q0a → Prop
 | .inl _ => Qcz c (.exit 4) (mkS [(1,.ra 1 0),(3,I a0),(4,I a1)] [(1,K2d s0)])
 | .inr r => Qd8 TIx Tryz.f89 [] (.bool r)
def Kbx (p : K00 × Int × Int × Int) : Option ((Unit) ⊕ (Bool)) :=
 match p with
 | (s0,a0,a1,a2) =>
  if (decide (a2 < s0.fSize)) = true then
  (Kbt (s0,a0,a1,a2)) >>= fun a3 =>
  if a3 = true then
  Kbx (s0,a0,a1,(wr (a2 + 1)))
  else
  some (.inr false)
  else
  some (.inl ())
 partial_fixpoint
def Kby (p : K00 × Int × Int × Int) (fl : (Unit) ⊕ (Bool)) : Prop :=
 match p with
 | (s0,a0,a1,a2) => ∀ c : Ctx,c.nt = 42 → WpL Tryz.prog c (cl (cl (cr (cr (cl (cl (cr (cl (cl (cr (cr (cl (cl (cr (cl (cl (cr (cl (cr (cr B89)))))))))))))))))))) (Kbw c s0 a0 a1 fl) (mkS [(1,.ra 1 0),(3,I a0),(4,I a1),(5,I a2)] [(1,K2d s0)])
theorem Kbz : ∀ p r,Kbx p = some r → Kby p r := by
 refine Kbx.partial_correctness Kby ?_
 rintro spec_IsSystem_l0_f spec_IsSystem_l0_ih ⟨s0,a0,a1,a2⟩ r h
 intro c hc
 refine WpL.step ?_
 refine sN ?_
 refine K8d hc 4 [(1,.ra 1 0),(3,I a0),(4,I a1),(5,I a2),(33,.bool (decide (a2 < s0.fSize)))] ?_
 refine ic h (fun a3 h => ?_) fun a3 h => ?_
 ·refine sk ?_
  refine sN ?_
  refine bk 5 ?_
  obtain ⟨a4,a5,h⟩ := Qdd h
  refine rss hc none [oN,oN,oN,oN,oc (.bool a4),oN] [(1,.ra 1 0),(3,I a0),(4,I a1),(5,I a2),(41,.bool (!a4))] (cq (Kbv _ _ a5) K4m tv) ?_
  rcases is h with ⟨a6,h⟩ | ⟨a6,h⟩
  ·refine cF (!a4) (nF a6) ?_
   refine sk ?_
   refine K8c hc 3 [(1,.ra 1 0),(3,I a0),(4,I a1),(5,I (wr (a2 + 1)))] ?_
   refine Qcv ?_
   exact (spec_IsSystem_l0_ih _ _ h c hc)
  refine cT (!a4) (nT a6) ?_
  refine rs0 hc 1 [(2,.bool false)] [] ?_
  refine rt ?_
  obtain rfl := os h
  exact re [true]
 refine xt 4 ?_
 refine Qcp ?_
 refine Qcw ?_
 obtain rfl := os h
 exact iv []
def Kc0 (c : Ctx) (s0 : K00) (a0 : Int) : (Unit) ⊕ (Bool) → Exit → Q0a → Prop
 | .inl _ => Qcz c (.exit 2) (mkS [(1,.ra 1 0),(3,I a0)] [(1,K2d s0)])
 | .inr r => Qd8 TIx Tryz.f89 [] (.bool r)
def Kc1 (p : K00 × Int × Int) : Option ((Unit) ⊕ (Bool)) :=
 match p with
 | (s0,a0,a1) =>
  if (decide (a1 < s0.fSize)) = true then
  (Kbn (s0,a0,a1)) >>= fun a2 =>
  if a2 = true then
  (Kbx (s0,a0,a1,0)) >>= fun fl => match fl with
  | .inl () =>
   Kc1 (s0,a0,(wr (a1 + 1)))
  | .inr r =>
   some (.inr r)
  else
  some (.inr false)
  else
  some (.inl ())
 partial_fixpoint
def Kc2 (p : K00 × Int × Int) (fl : (Unit) ⊕ (Bool)) : Prop :=
 match p with
 | (s0,a0,a1) => ∀ c : Ctx,c.nt = 42 → WpL Tryz.prog c (cl (cl (cr (cr (cl (cl (cr (cl (cl (cr (cl (cr (cr B89))))))))))))) (Kc0 c s0 a0 fl) (mkS [(1,.ra 1 0),(3,I a0),(4,I a1)] [(1,K2d s0)])
theorem Kc3 : ∀ p r,Kc1 p = some r → Kc2 p r := by
 refine Kc1.partial_correctness Kc2 ?_
 rintro spec_IsSystem_l1_f spec_IsSystem_l1_ih ⟨s0,a0,a1⟩ r h
 intro c hc
 refine WpL.step ?_
 refine sN ?_
 refine K8d hc 4 [(1,.ra 1 0),(3,I a0),(4,I a1),(22,.bool (decide (a1 < s0.fSize)))] ?_
 refine ic h (fun a2 h => ?_) fun a2 h => ?_
 ·refine sk ?_
  refine sN ?_
  refine bk 3 ?_
  refine sN ?_
  obtain ⟨a3,a4,h⟩ := Qdd h
  refine rss hc none [oN,oN,oN,oc (.bool a3),oN] [(1,.ra 1 0),(3,I a0),(4,I a1),(29,.bool (!a3))] (cq (Kbp _ _ a4) K4k tv) ?_
  rcases is h with ⟨a5,h⟩ | ⟨a5,h⟩
  ·refine cF (!a3) (nF a5) ?_
   refine sk ?_
   refine K8d hc 1 [(1,.ra 1 0),(3,I a0),(4,I a1),(5,I 0)] ?_
   refine bk 4 ?_
   obtain ⟨fl,a6,h⟩ := Qdd h
   have hL := Kbz _ _ a6 c hc
   refine lp ?_
   rcases fl with ⟨⟩ | r
   ·refine WpL.into (e := (.exit 4)) (mkS [(1,.ra 1 0),(3,I a0),(4,I a1)] [(1,K2d s0)]) hL ?_
    refine Qcr ?_
    refine K8c hc 3 [(1,.ra 1 0),(3,I a0),(4,I (wr (a1 + 1)))] ?_
    refine Qcv ?_
    exact (spec_IsSystem_l1_ih _ _ h c hc)
   refine WpL.mono hL ?_
   rintro _ _ ⟨rfl,hfin⟩
   obtain rfl := os h
   exact ⟨rfl,hfin⟩
  refine cT (!a3) (nT a5) ?_
  refine rs0 hc 1 [(2,.bool false)] [] ?_
  refine rt ?_
  obtain rfl := os h
  exact re [true]
 refine xt 2 ?_
 refine Qcp ?_
 refine Qcw ?_
 obtain rfl := os h
 exact iv []
def Kc4 (c : Ctx) : (Unit) ⊕ (Bool) → Exit → Q0a → Prop
 | .inl _ => Qcz c (.exit 0) (mkS [] [])
 | .inr r => Qd8 TIx Tryz.f89 [] (.bool r)
def Kc5 (p : K00 × Int) : Option ((Unit) ⊕ (Bool)) :=
 match p with
 | (s0,a0) =>
  if (decide (a0 < s0.fSize)) = true then
  (Kb9 (s0,a0)) >>= fun a1 =>
  if a1 = true then
  (Kc1 (s0,a0,0)) >>= fun fl => match fl with
  | .inl () =>
   Kc5 (s0,(wr (a0 + 1)))
  | .inr r =>
   some (.inr r)
  else
  some (.inr false)
  else
  some (.inl ())
 partial_fixpoint
def Kc6 (p : K00 × Int) (fl : (Unit) ⊕ (Bool)) : Prop :=
 match p with
 | (s0,a0) => ∀ c : Ctx,c.nt = 42 → WpL Tryz.prog c (cl (cl (cr (cl (cr (cr B89)))))) (Kc4 c fl) (mkS [(1,.ra 1 0),(3,I a0)] [(1,K2d s0)])
theorem Kc7 : ∀ p r,Kc5 p = some r → Kc6 p r := by
 refine Kc5.partial_correctness Kc6 ?_
 rintro spec_IsSystem_l2_f spec_IsSystem_l2_ih ⟨s0,a0⟩ r h
 intro c hc
 refine WpL.step ?_
 refine sN ?_
 refine K8d hc 4 [(1,.ra 1 0),(3,I a0),(12,.bool (decide (a0 < s0.fSize)))] ?_
 refine ic h (fun a1 h => ?_) fun a1 h => ?_
 ·refine sk ?_
  refine sN ?_
  refine bk 1 ?_
  refine sN ?_
  obtain ⟨a2,a3,h⟩ := Qdd h
  refine rss hc none [oN,oN,oc (.bool a2),oN] [(1,.ra 1 0),(3,I a0),(18,.bool (!a2))] (cq (Kbb _ _ a3) K4g tv) ?_
  rcases is h with ⟨a4,h⟩ | ⟨a4,h⟩
  ·refine cF (!a2) (nF a4) ?_
   refine sk ?_
   refine K8d hc 1 [(1,.ra 1 0),(3,I a0),(4,I 0)] ?_
   refine bk 2 ?_
   obtain ⟨fl,a5,h⟩ := Qdd h
   have hL := Kc3 _ _ a5 c hc
   refine lp ?_
   rcases fl with ⟨⟩ | r
   ·refine WpL.into (e := (.exit 2)) (mkS [(1,.ra 1 0),(3,I a0)] [(1,K2d s0)]) hL ?_
    refine Qcr ?_
    refine K8c hc 3 [(1,.ra 1 0),(3,I (wr (a0 + 1)))] ?_
    refine Qcv ?_
    exact (spec_IsSystem_l2_ih _ _ h c hc)
   refine WpL.mono hL ?_
   rintro _ _ ⟨rfl,hfin⟩
   obtain rfl := os h
   exact ⟨rfl,hfin⟩
  refine cT (!a2) (nT a4) ?_
  refine rs0 hc 1 [(2,.bool false)] [] ?_
  refine rt ?_
  obtain rfl := os h
  exact re [true]
 refine xt 0 ?_
 refine Qcp ?_
 refine Qcw ?_
 obtain rfl := os h
 exact iv []
def Kc8 (s0 : K00) : Option (Bool) :=
 (Kax s0) >>= fun a0 =>
 if a0 = true then
 (Kc5 (s0,0)) >>= fun fl => match fl with
 | .inl () =>
  some true
 | .inr r =>
  some r
 else
 some false
def Kc9 (s0 : K00) (r : Bool) : Prop :=
 Q71 Tryz.prog 89 [K2e s0] (.bool r) []
theorem Kca : ∀ p r,Kc8 p = some r → Kc9 p r := by
 rintro s0 r h
 unfold Kc8 at h
 refine b0 Tryz.f89 B89 42 [(0,K2e s0)] fun c hc => ?_
 refine rs hc none [some (.new 1),oN] [(1,.ra 1 0)] [(1,K2d s0)] tv ?_
 refine sN ?_
 obtain ⟨a0,a1,h⟩ := Qdd h
 refine rss hc none [oN,oc (.bool a0),oN] [(1,.ra 1 0),(8,.bool (!a0))] (cq (Kaz _ _ a1) K49 tv) ?_
 rcases is h with ⟨a2,h⟩ | ⟨a2,h⟩
 ·refine cF (!a0) (nF a2) ?_
  refine sk ?_
  refine sN ?_
  refine K8d hc 1 [(1,.ra 1 0),(3,I 0)] ?_
  refine bk 0 ?_
  obtain ⟨fl,a3,h⟩ := Qdd h
  have hL := Kc7 _ _ a3 c hc
  refine lp ?_
  rcases fl with ⟨⟩ | r
  ·refine WpL.into (e := (.exit 0)) (mkS [] []) hL ?_
   refine Qcr ?_
   refine rs0 hc 1 [(2,.bool true)] [] ?_
   refine rt ?_
   obtain rfl := os h
   exact rq [true]
  refine WpL.mono hL ?_
  rintro _ _ ⟨rfl,hfin⟩
  obtain rfl := os h
  exact ⟨.inl rfl,hfin⟩
 refine cT (!a0) (nT a2) ?_
 refine rs0 hc 1 [(2,.bool false)] [] ?_
 refine rt ?_
 obtain rfl := os h
 exact rq [true]
def Kcb (c0 : Int) : Option (Bool) :=
 ((
 (Kaq (c0,3,18)) >>= fun a0 =>
 if a0 = true then
 some (true)
 else
 some ((c0 == 35))
 ) : Option (Bool)) >>= fun a1 =>
 some a1
def Kcc (c0 : Int) (r : Bool) : Prop :=
 Q71 Tryz.prog 100 [I c0] (.bool r) []
theorem Kcd : ∀ p r,Kcb p = some r → Kcc p r := by
 rintro c0 r h
 unfold Kcb at h
 refine b0 Tryz.f100 K4o 9 [(0,I c0)] fun c hc => ?_
 refine rs0 hc 1 [(0,I c0)] [] ?_
 refine sN ?_
 obtain ⟨a0,a1,h⟩ := Qdd h
 refine Wp.into (x := .normal) (mkS [(2,.bool a0)] []) ?_ ?_
 ·replace h := a1
  obtain ⟨a2,a3,h⟩ := Qdd h
  rcases is h with ⟨a4,h⟩ | ⟨a4,h⟩
  ·refine rg hc none [oN,oc (.bool a2),oN,o_,o_,oT,oN] [(2,.bool true)] [] (cq (Kas _ _ a3) K47 (ar 2 (neF a4) (ai a4 tv))) ?_
   obtain rfl := os h
   exact Qcz.mk
  refine rg hc none [oN,oc (.bool a2),oN,oN,oN,oF,oN] [(2,.bool (c0 == 35))] [] (cq (Kas _ _ a3) K47 (ar 3 a4 tv)) ?_
  obtain rfl := os h
  exact Qcz.mk
 clear a1
 refine rt ?_
 obtain rfl := os h
 exact rq [true]
def Kce (c0 : Int) : Option (Bool) :=
 ((
 (Kaq (c0,19,34)) >>= fun a0 =>
 if a0 = true then
 some (true)
 else
 some ((c0 == 36))
 ) : Option (Bool)) >>= fun a1 =>
 some a1
def Kcf (c0 : Int) (r : Bool) : Prop :=
 Q71 Tryz.prog 110 [I c0] (.bool r) []
theorem Kcg : ∀ p r,Kce p = some r → Kcf p r := by
 rintro c0 r h
 unfold Kce at h
 refine b0 Tryz.f110 K4q 9 [(0,I c0)] fun c hc => ?_
 refine rs0 hc 1 [(0,I c0)] [] ?_
 refine sN ?_
 obtain ⟨a0,a1,h⟩ := Qdd h
 refine Wp.into (x := .normal) (mkS [(2,.bool a0)] []) ?_ ?_
 ·replace h := a1
  obtain ⟨a2,a3,h⟩ := Qdd h
  rcases is h with ⟨a4,h⟩ | ⟨a4,h⟩
  ·refine rg hc none [oN,oc (.bool a2),oN,o_,o_,oT,oN] [(2,.bool true)] [] (cq (Kas _ _ a3) K47 (ar 2 (neF a4) (ai a4 tv))) ?_
   obtain rfl := os h
   exact Qcz.mk
  refine rg hc none [oN,oc (.bool a2),oN,oN,oN,oF,oN] [(2,.bool (c0 == 36))] [] (cq (Kas _ _ a3) K47 (ar 3 a4 tv)) ?_
  obtain rfl := os h
  exact Qcz.mk
 clear a1
 refine rt ?_
 obtain rfl := os h
 exact rq [true]
def Kch (c0 : Int) : Option (Int) :=
 if (c0 == 0) = true then
 some 0
 else
 ((
 if (c0 == 1) = true then
 some (true)
 else
 if (c0 == 2) = true then
 some (true)
 else
 (Kcb c0) >>= fun a0 =>
 some (a0)
 ) : Option (Bool)) >>= fun a1 =>
 if a1 = true then
 some 2
 else
 (Kce c0) >>= fun a2 =>
 if a2 = true then
 some 1
 else
 some (-1)
def Kci (c0 : Int) (r : Int) : Prop :=
 Q71 Tryz.prog 140 [I c0] (I r) []
theorem Kcj : ∀ p r,Kch p = some r → Kci p r := by
 rintro c0 r h
 unfold Kch at h
 refine b0 Tryz.f140 K4s 20 [(0,I c0)] fun c hc => ?_
 refine rs0 hc 1 [(0,I c0)] [] ?_
 refine sN ?_
 refine bk 0 ?_
 refine rs0 hc 3 [(0,I c0),(3,.bool (c0 == 0))] [] ?_
 refine ic h (fun a0 h => ?_) fun a0 h => ?_
 ·refine rs0 hc 1 [(2,I 0)] [] ?_
  refine rt ?_
  obtain rfl := os h
  exact rq [true]
 refine sN ?_
 obtain ⟨a1,a2,h⟩ := Qdd h
 refine Wp.into (x := .normal) (mkS [(0,I c0),(6,.bool a1)] []) ?_ ?_
 ·replace h := a2
  rcases is h with ⟨a3,h⟩ | ⟨a3,h⟩
  ·refine rg hc none [oN,oN,oN,o_,o_,oT,oN,o_,o_,oT,oN] [(0,I c0),(6,.bool true)] [] (ar 2 (neF a3) (ai a3 (ar 2 nf (ai tt tv)))) ?_
   obtain rfl := os h
   exact Qcz.mk
  rcases is h with ⟨a4,h⟩ | ⟨a4,h⟩
  ·refine rg hc none [oN,oN,oN,oN,oN,oF,oN,o_,o_,oT,oN] [(0,I c0),(6,.bool true)] [] (ar 3 a3 (ar 2 (neF a4) (ai a4 tv))) ?_
   obtain rfl := os h
   exact Qcz.mk
  obtain ⟨a5,a6,h⟩ := Qdd h
  refine rg hc none [oN,oN,oN,oN,oN,oF,oN,oN,oc (.bool a5),oF,oN] [(0,I c0),(6,.bool a5)] [] (ar 3 a3 (ar 2 a4 (cq (Kcd _ _ a6) K4p (ai a4 tv)))) ?_
  obtain rfl := os h
  exact Qcz.mk
 clear a2
 refine ic h (fun a7 h => ?_) fun a7 h => ?_
 ·refine rs0 hc 1 [(2,I 2)] [] ?_
  refine rt ?_
  obtain rfl := os h
  exact rq [true]
 obtain ⟨a8,a9,h⟩ := Qdd h
 refine rs hc none [oN,oc (.bool a8),oN] [(17,.bool a8)] [] (cq (Kcg _ _ a9) K4r tv) ?_
 refine ic h (fun b1 h => ?_) fun b1 h => ?_
 ·refine rs0 hc 1 [(2,I 1)] [] ?_
  refine rt ?_
  obtain rfl := os h
  exact rq [true]
 refine sk ?_
 refine rs0 hc 1 [(2,I (-1))] [] ?_
 refine rt ?_
 obtain rfl := os h
 exact rq [true]
def Kck (c : Ctx) : (Unit) ⊕ (Int) → Exit → Q0a → Prop
 | .inl _ => Qcz c (.exit 0) (mkS [] [])
 | .inr r => Qd8 TIx Tryz.f138 [] (I r)
def Kcl (p : (List Int) × Int × Int) : Option ((Unit) ⊕ (Int)) :=
 match p with
 | (ty0,a0,a1) =>
  if (decide (a1 < (ty0.length : Int))) = true then
  (idx ty0 a1) >>= fun a2 =>
  (Kch a2) >>= fun a3 =>
  if (decide (a3 < 0)) = true then
  some (.inr (-1))
  else
  if ((wr ((wr (a0 - 1)) + a3)) == 0) = true then
  some (.inr (wr (a1 + 1)))
  else
  Kcl (ty0,(wr ((wr (a0 - 1)) + a3)),(wr (a1 + 1)))
  else
  some (.inl ())
 partial_fixpoint
def Kcm (p : (List Int) × Int × Int) (fl : (Unit) ⊕ (Int)) : Prop :=
 match p with
 | (ty0,a0,a1) => ∀ c : Ctx,c.nt = 30 → WpL Tryz.prog c (cl (cl (cr (cl (cr (cr K4u)))))) (Kck c fl) (mkS [(0,sI ty0),(5,I a0),(6,I a1)] [])
theorem Kcn : ∀ p r,Kcl p = some r → Kcm p r := by
 refine Kcl.partial_correctness Kcm ?_
 rintro spec_l2End_l0_f spec_l2End_l0_ih ⟨ty0,a0,a1⟩ r h
 intro c hc
 refine WpL.step ?_
 refine sN ?_
 refine rs hc none [oN,oN,some (.eqv (.no) ⟨[(11,I (ty0.length : Int))],[],[]⟩),oN] [(0,sI ty0),(5,I a0),(6,I a1),(12,.bool (decide (a1 < (ty0.length : Int))))] [] (ai (Qdj (d := 11) I ty0) tv) ?_
 refine ic h (fun a2 h => ?_) fun a2 h => ?_
 ·refine sk ?_
  refine sN ?_
  refine bk 1 ?_
  obtain ⟨a3,a4,a5,a6,h⟩ := bq2 h
  refine rs hc none [oN,oN,some (.el (I a3)),oN,oc (I a5),oN] [(0,sI ty0),(5,I a0),(6,I a1),(7,I a5)] [] (ai (ix a4) (cq (Kcj _ _ a6) K4t tv)) ?_
  refine sN ?_
  refine rs0 hc 2 [(0,sI ty0),(5,I a0),(6,I a1),(7,I a5),(21,.bool (decide (a5 < 0)))] [] ?_
  refine ic h (fun a7 h => ?_) fun a7 h => ?_
  ·refine rs0 hc 1 [(4,I (-1))] [] ?_
   refine rt ?_
   obtain rfl := os h
   exact re [true]
  refine sk ?_
  refine rs0 hc 5 [(0,sI ty0),(5,I (wr ((wr (a0 - 1)) + a5))),(6,I a1)] [] ?_
  refine rs0 hc 2 [(0,sI ty0),(5,I (wr ((wr (a0 - 1)) + a5))),(6,I a1),(27,.bool ((wr ((wr (a0 - 1)) + a5)) == 0))] [] ?_
  refine ic h (fun a8 h => ?_) fun a8 h => ?_
  ·refine rs0 hc 3 [(4,I (wr (a1 + 1)))] [] ?_
   refine rt ?_
   obtain rfl := os h
   exact re [true]
  refine sk ?_
  refine rg0 hc 3 [(0,sI ty0),(5,I (wr ((wr (a0 - 1)) + a5))),(6,I (wr (a1 + 1)))] [] ?_
  refine Qcv ?_
  exact (spec_l2End_l0_ih _ _ h c hc)
 refine xt 0 ?_
 refine Qcp ?_
 refine Qcw ?_
 obtain rfl := os h
 exact iv []
def Kco (p : (List Int) × Int) : Option (Int) :=
 match p with
 | (ty0,at1) =>
  (Kcl (ty0,1,at1)) >>= fun fl => match fl with
  | .inl () =>
   some (-1)
  | .inr r =>
   some r
def Kcp (p : (List Int) × Int) (r : Int) : Prop :=
 match p with
 | (ty0,at1) => Q71 Tryz.prog 138 [sI ty0,I at1] (I r) []
theorem Kcq : ∀ p r,Kco p = some r → Kcp p r := by
 rintro ⟨ty0,at1⟩ r h
 unfold Kco at h
 refine b0 Tryz.f138 K4u 30 [(0,sI ty0),(1,I at1)] fun c hc => ?_
 refine rs0 hc 1 [(0,sI ty0),(1,I at1)] [] ?_
 refine rs0 hc 1 [(0,sI ty0),(1,I at1),(5,I 1)] [] ?_
 refine sN ?_
 refine rs0 hc 2 [(0,sI ty0),(5,I 1),(6,I at1)] [] ?_
 refine bk 0 ?_
 obtain ⟨fl,a0,h⟩ := Qdd h
 have hL := Kcn _ _ a0 c hc
 refine lp ?_
 rcases fl with ⟨⟩ | r
 ·refine WpL.into (e := (.exit 0)) (mkS [] []) hL ?_
  refine Qcr ?_
  refine rs0 hc 1 [(4,I (-1))] [] ?_
  refine rt ?_
  obtain rfl := os h
  exact rq [true]
 refine WpL.mono hL ?_
 rintro _ _ ⟨rfl,hfin⟩
 obtain rfl := os h
 exact ⟨.inl rfl,hfin⟩
def Kcr (ty0 : (List Int)) : Option (Bool) :=
 ((
 if (decide ((ty0.length : Int) ≤ 40)) = true then
 (Kco (ty0,0)) >>= fun a0 =>
 if (a0 == (ty0.length : Int)) = true then
 some ((decide ((ty0.length : Int) > 0)))
 else
 some (false)
 else
 some (false)
 ) : Option (Bool)) >>= fun a1 =>
 some a1
def Kcs (ty0 : (List Int)) (r : Bool) : Prop :=
 Q71 Tryz.prog 107 [sI ty0] (.bool r) []
theorem Kct : ∀ p r,Kcr p = some r → Kcs p r := by
 rintro ty0 r h
 unfold Kcr at h
 refine b0 Tryz.f107 K4w 18 [(0,sI ty0)] fun c hc => ?_
 refine rs0 hc 1 [(0,sI ty0)] [] ?_
 refine sN ?_
 obtain ⟨a0,a1,h⟩ := Qdd h
 refine Wp.into (x := .normal) (mkS [(2,.bool a0)] []) ?_ ?_
 ·replace h := a1
  rcases is h with ⟨a2,h⟩ | ⟨a2,h⟩
  ·obtain ⟨a3,a4,h⟩ := Qdd h
   rcases is h with ⟨a5,h⟩ | ⟨a5,h⟩
   ·refine rg hc none [oN,some (.eqv (.no) ⟨[(4,I (ty0.length : Int))],[],[]⟩),oN,oN,oN,oc (I a3),oN,some (.eqv (.no) ⟨[(10,I (ty0.length : Int))],[],[]⟩),oN,oT,oN,oN,some (.eqv (.no) ⟨[(15,I (ty0.length : Int))],[],[]⟩),oN,oT,oN] [(2,.bool (decide ((ty0.length : Int) > 0)))] [] (ai (Qdj (d := 4) I ty0) (ar 2 a2 (cq (Kcq _ _ a4) K4v (ar 2 a2 (ai (Qdj (d := 10) I ty0) (ar 2 a2 (ar 2 a5 (ai (Qdj (d := 15) I ty0) (ar 2 a5 tv))))))))) ?_
    obtain rfl := os h
    exact Qcz.mk
   refine rg hc none [oN,some (.eqv (.no) ⟨[(4,I (ty0.length : Int))],[],[]⟩),oN,oN,oN,oc (I a3),oN,some (.eqv (.no) ⟨[(10,I (ty0.length : Int))],[],[]⟩),oN,oT,oN,o_,o_,o_,oF,oN] [(2,.bool false)] [] (ai (Qdj (d := 4) I ty0) (ar 2 a2 (cq (Kcq _ _ a4) K4v (ar 2 a2 (ai (Qdj (d := 10) I ty0) (ar 2 a2 (ar 3 (neT a5) (ai a5 tv)))))))) ?_
   obtain rfl := os h
   exact Qcz.mk
  refine rg hc none [oN,some (.eqv (.no) ⟨[(4,I (ty0.length : Int))],[],[]⟩),oN,oN,o_,o_,o_,o_,o_,oF,oN,o_,o_,o_,oF,oN] [(2,.bool false)] [] (ai (Qdj (d := 4) I ty0) (ar 5 (neT a2) (ai a2 (ar 3 (neT (rfl : false = false)) (ai (rfl : false = false) tv))))) ?_
  obtain rfl := os h
  exact Qcz.mk
 clear a1
 refine rt ?_
 obtain rfl := os h
 exact rq [true]
def Kcu (c0 : Int) : Option (Int) :=
 if (decide (c0 ≥ 35)) = true then
 some (-1)
 else
 if (decide (c0 ≥ 19)) = true then
 some (wr (c0 - 19))
 else
 some (wr (c0 - 3))
def Kcv (c0 : Int) (r : Int) : Prop :=
 Q71 Tryz.prog 102 [I c0] (I r) []
theorem Kcw : ∀ p r,Kcu p = some r → Kcv p r := by
 rintro c0 r h
 unfold Kcu at h
 refine b0 Tryz.f102 K4y 13 [(0,I c0)] fun c hc => ?_
 refine rs0 hc 1 [(0,I c0)] [] ?_
 refine sN ?_
 refine bk 0 ?_
 refine rs0 hc 3 [(0,I c0),(3,.bool (decide (c0 ≥ 35)))] [] ?_
 refine ic h (fun a0 h => ?_) fun a0 h => ?_
 ·refine rs0 hc 1 [(2,I (-1))] [] ?_
  refine rt ?_
  obtain rfl := os h
  exact rq [true]
 refine rs0 hc 3 [(0,I c0),(6,.bool (decide (c0 ≥ 19)))] [] ?_
 refine ic h (fun a1 h => ?_) fun a1 h => ?_
 ·refine rs0 hc 3 [(2,I (wr (c0 - 19)))] [] ?_
  refine rt ?_
  obtain rfl := os h
  exact rq [true]
 refine sk ?_
 refine rs0 hc 3 [(2,I (wr (c0 - 3)))] [] ?_
 refine rt ?_
 obtain rfl := os h
 exact rq [true]
def Kcx (c : Ctx) (ty0 : List Int) (size1 : Int) (closed2 : Bool) (a0 : Int) : (Unit) ⊕ (Bool) → Exit → Q0a → Prop
 | .inl _ => Qcz c .normal (mkS [(0,sI ty0),(1,I size1),(2,.bool closed2),(7,I a0)] [])
 | .inr r => Qd8 TIx Tryz.f108 [] (.bool r)
def Kcy (c : Ctx) : (Unit) ⊕ (Bool) → Exit → Q0a → Prop
 | .inl _ => Qcz c (.exit 0) (mkS [] [])
 | .inr r => Qd8 TIx Tryz.f108 [] (.bool r)
def Kcz (p : (List Int) × Int × Bool × Int) : Option ((Unit) ⊕ (Bool)) :=
 match p with
 | (ty0,size1,closed2,a0) =>
  if (decide (a0 < (ty0.length : Int))) = true then
  ((
   (idx ty0 a0) >>= fun a1 =>
   (Kch a1) >>= fun a2 =>
   if (decide (a2 > 0)) = true then
   (idx ty0 a0) >>= fun a3 =>
   some ((decide (a3 > 2)))
   else
   some (false)
  ) : Option (Bool)) >>= fun a4 =>
  ((
   if a4 = true then
   (idx ty0 a0) >>= fun a5 =>
   (Kcu a5) >>= fun a6 =>
   ((
   if (decide (a6 ≥ size1)) = true then
   some (true)
   else
   if closed2 = true then
   some ((decide (a6 < 0)))
   else
   some (false)
   ) : Option (Bool)) >>= fun a7 =>
   if a7 = true then
   some (.inr false)
   else
   some (.inl ())
   else
   some (.inl ())) : Option ((Unit) ⊕ (Bool))) >>= fun fl => match fl with
  | .inl () =>
   Kcz (ty0,size1,closed2,(wr (a0 + 1)))
  | .inr r =>
   some (.inr r)
  else
  some (.inl ())
 partial_fixpoint
def Kd0 (p : (List Int) × Int × Bool × Int) (fl : (Unit) ⊕ (Bool)) : Prop :=
 match p with
 | (ty0,size1,closed2,a0) => ∀ c : Ctx,c.nt = 43 → WpL Tryz.prog c (cl (cl (cr (cl (cr K50))))) (Kcy c fl) (mkS [(0,sI ty0),(1,I size1),(2,.bool closed2),(7,I a0)] [])
theorem Kd1 : ∀ p r,Kcz p = some r → Kd0 p r := by
 refine Kcz.partial_correctness Kd0 ?_
 rintro spec_l2Graded_l0_f spec_l2Graded_l0_ih ⟨ty0,size1,closed2,a0⟩ r h
 intro c hc
 refine WpL.step ?_
 refine sN ?_
 refine rs hc none [oN,oN,some (.eqv (.no) ⟨[(11,I (ty0.length : Int))],[],[]⟩),oN] [(0,sI ty0),(1,I size1),(2,.bool closed2),(7,I a0),(12,.bool (decide (a0 < (ty0.length : Int))))] [] (ai (Qdj (d := 11) I ty0) tv) ?_
 refine ic h (fun a1 h => ?_) fun a1 h => ?_
 ·refine sk ?_
  refine sN ?_
  refine bk 1 ?_
  refine sN ?_
  obtain ⟨a2,a3,h⟩ := Qdd h
  refine Wp.into (x := .normal) (mkS [(0,sI ty0),(1,I size1),(2,.bool closed2),(7,I a0),(27,.bool a2)] []) ?_ ?_
  ·replace h := a3
   obtain ⟨a4,a5,a6,a7,h⟩ := bq2 h
   rcases is h with ⟨a8,h⟩ | ⟨a8,h⟩
   ·obtain ⟨a9,b1,h⟩ := Qdd h
    refine rg hc none [oN,oN,some (.el (I a4)),oN,oc (I a6),oN,oN,oN,oN,some (.el (I a9)),oN,oN,oT] [(0,sI ty0),(1,I size1),(2,.bool closed2),(7,I a0),(27,.bool (decide (a9 > 2)))] [] (ai (ix a5) (cq (Kcj _ _ a7) K4t (ar 3 a8 (ai (ix b1) (ar 3 a8 tv))))) ?_
    obtain rfl := os h
    exact Qcz.mk
   refine rg hc none [oN,oN,some (.el (I a4)),oN,oc (I a6),oN,oN,o_,o_,o_,o_,o_,oF] [(0,sI ty0),(1,I size1),(2,.bool closed2),(7,I a0),(27,.bool false)] [] (ai (ix a5) (cq (Kcj _ _ a7) K4t (ar 5 (neT a8) (ai a8 tv)))) ?_
   obtain rfl := os h
   exact Qcz.mk
  clear a3
  obtain ⟨fl,b2,h⟩ := Qdd h
  refine flw (Kcx c ty0 size1 closed2 a0 fl) ?_ (fun hF => ?_)
  ·replace h := b2
   refine ic h (fun b3 h => ?_) fun b3 h => ?_
   ·obtain ⟨b4,b5,b6,b7,h⟩ := bq2 h
    refine rs hc none [oN,oN,some (.el (I b4)),oN,oc (I b6),oN] [(0,sI ty0),(1,I size1),(2,.bool closed2),(7,I a0),(8,I b6)] [] (ai (ix b5) (cq (Kcw _ _ b7) K4z tv)) ?_
    refine sN ?_
    obtain ⟨b8,b9,h⟩ := Qdd h
    refine Wp.into (x := .normal) (mkS [(0,sI ty0),(1,I size1),(2,.bool closed2),(7,I a0),(42,.bool b8)] []) ?_ ?_
    ·replace h := b9
     rcases is h with ⟨c0,h⟩ | ⟨c0,h⟩
     ·refine rg hc none [oN,oN,oN,oN,o_,o_,o_,o_,o_,oT] [(0,sI ty0),(1,I size1),(2,.bool closed2),(7,I a0),(42,.bool true)] [] (ar 3 (neF c0) (ai c0 tv)) ?_
      obtain rfl := os h
      exact Qcz.mk
     rcases is h with ⟨c1,h⟩ | ⟨c1,h⟩
     ·refine rg hc none [oN,oN,oN,oN,oN,oN,oN,oN,oT,oF] [(0,sI ty0),(1,I size1),(2,.bool closed2),(7,I a0),(42,.bool (decide (b6 < 0)))] [] (ar 2 c0 (ar 2 c1 (ac c0 c1 c0 tv))) ?_
      obtain rfl := os h
      exact Qcz.mk
     refine rg hc none [oN,oN,oN,oN,oN,oN,o_,o_,oF,oF] [(0,sI ty0),(1,I size1),(2,.bool closed2),(7,I a0),(42,.bool false)] [] (ar 2 c0 (ar 2 (neT c1) (ac c0 c1 c0 tv))) ?_
     obtain rfl := os h
     exact Qcz.mk
    clear b9
    refine ic h (fun c2 h => ?_) fun c2 h => ?_
    ·refine rs0 hc 1 [(6,.bool false)] [] ?_
     refine rt ?_
     obtain rfl := os h
     exact re [true]
    refine sk ?_
    obtain rfl := os h
    exact iv []
   refine sk ?_
   obtain rfl := os h
   exact iv []
  rcases fl with ⟨⟩ | r
  ·refine Wp.into (x := .normal) (mkS [(0,sI ty0),(1,I size1),(2,.bool closed2),(7,I a0)] []) hF ?_
   refine rg0 hc 3 [(0,sI ty0),(1,I size1),(2,.bool closed2),(7,I (wr (a0 + 1)))] [] ?_
   refine Qcv ?_
   exact (spec_l2Graded_l0_ih _ _ h c hc)
  refine Wp.mono hF ?_
  rintro _ _ ⟨rfl,hfin⟩
  obtain rfl := os h
  exact ⟨rfl,hfin⟩
 refine xt 0 ?_
 refine Qcp ?_
 refine Qcw ?_
 obtain rfl := os h
 exact iv []
def Kd2 (p : (List Int) × Int × Bool) : Option (Bool) :=
 match p with
 | (ty0,size1,closed2) =>
  (Kcz (ty0,size1,closed2,0)) >>= fun fl => match fl with
  | .inl () =>
   some true
  | .inr r =>
   some r
def Kd3 (p : (List Int) × Int × Bool) (r : Bool) : Prop :=
 match p with
 | (ty0,size1,closed2) => Q71 Tryz.prog 108 [sI ty0,I size1,.bool closed2] (.bool r) []
theorem Kd4 : ∀ p r,Kd2 p = some r → Kd3 p r := by
 rintro ⟨ty0,size1,closed2⟩ r h
 unfold Kd2 at h
 refine b0 Tryz.f108 K50 43 [(0,sI ty0),(1,I size1),(2,.bool closed2)] fun c hc => ?_
 refine rs0 hc 1 [(0,sI ty0),(1,I size1),(2,.bool closed2)] [] ?_
 refine sN ?_
 refine rs0 hc 1 [(0,sI ty0),(1,I size1),(2,.bool closed2),(7,I 0)] [] ?_
 refine bk 0 ?_
 obtain ⟨fl,a0,h⟩ := Qdd h
 have hL := Kd1 _ _ a0 c hc
 refine lp ?_
 rcases fl with ⟨⟩ | r
 ·refine WpL.into (e := (.exit 0)) (mkS [] []) hL ?_
  refine Qcr ?_
  refine rs0 hc 1 [(6,.bool true)] [] ?_
  refine rt ?_
  obtain rfl := os h
  exact rq [true]
 refine WpL.mono hL ?_
 rintro _ _ ⟨rfl,hfin⟩
 obtain rfl := os h
 exact ⟨.inl rfl,hfin⟩
def Kd5 (p : K00 × (List Int)) : Option (Bool) :=
 match p with
 | (s0,ty1) =>
  ((
  (Kc8 s0) >>= fun a0 =>
  if a0 = true then
  (Kcr ty1) >>= fun a1 =>
  if a1 = true then
  (Kd2 (ty1,s0.fSize,true)) >>= fun a2 =>
  some (a2)
  else
  some (false)
  else
  some (false)
  ) : Option (Bool)) >>= fun a3 =>
  some a3
def Kd6 (p : K00 × (List Int)) (r : Bool) : Prop :=
 match p with
 | (s0,ty1) => Q71 Tryz.prog 104 [K2e s0,sI ty1] (.bool r) []
theorem Kd7 : ∀ p r,Kd5 p = some r → Kd6 p r := by
 rintro ⟨s0,ty1⟩ r h
 unfold Kd5 at h
 refine b0 Tryz.f104 K52 17 [(0,K2e s0),(1,sI ty1)] fun c hc => ?_
 refine rs hc none [some (.new 1),oN] [(1,sI ty1),(2,.ra 1 0)] [(1,K2d s0)] tv ?_
 refine sN ?_
 obtain ⟨a0,a1,h⟩ := Qdd h
 refine Wp.into (x := .normal) (mkS [(4,.bool a0)] []) ?_ ?_
 ·replace h := a1
  obtain ⟨a2,a3,h⟩ := Qdd h
  rcases is h with ⟨a4,h⟩ | ⟨a4,h⟩
  ·obtain ⟨a5,a6,h⟩ := Qdd h
   rcases is h with ⟨a7,h⟩ | ⟨a7,h⟩
   ·obtain ⟨a8,a9,h⟩ := Qdd h
    refine rg hc none [oN,oc (.bool a2),oN,oN,oc (.bool a5),oT,oN,oN,oN,oN,oc (.bool a8),oT,oN] [(4,.bool a8)] [] (cq (Kca _ _ a3) K4n (ar 2 a4 (cq (Kct _ _ a6) K4x (ai a4 (ar 4 a7 (cq (Kd4 _ _ a9) K51 (ai a7 tv))))))) ?_
    obtain rfl := os h
    exact Qcz.mk
   refine rg hc none [oN,oc (.bool a2),oN,oN,oc (.bool a5),oT,oN,o_,o_,o_,o_,oF,oN] [(4,.bool false)] [] (cq (Kca _ _ a3) K4n (ar 2 a4 (cq (Kct _ _ a6) K4x (ai a4 (ar 4 (neT a7) (ai a7 tv)))))) ?_
   obtain rfl := os h
   exact Qcz.mk
  refine rg hc none [oN,oc (.bool a2),oN,o_,o_,oF,oN,o_,o_,o_,o_,oF,oN] [(4,.bool false)] [] (cq (Kca _ _ a3) K4n (ar 2 (neT a4) (ai a4 (ar 4 (neT (rfl : false = false)) (ai (rfl : false = false) tv))))) ?_
  obtain rfl := os h
  exact Qcz.mk
 clear a1
 refine rt ?_
 obtain rfl := os h
 exact rq [true]
def Kd8 (c : Ctx) : Int → Exit → Q0a → Prop
 | a0 => Qcz c (.exit 0) (mkS [(1,I a0)] [])
end Go.Am
