/- Functions of the program as pure functions,and that it computes them. Printed by a program of mine (gen.py). -/
import Derived.Test.YtmcpomoofkjfcaaGreatGSHTi
set_option linter.unusedVariables false
set_option linter.unusedSimpArgs false
set_option maxRecDepth 100000
namespace Go.Am
open Go Go.Proofs
def K9a (p : (List Int) × Int) : Option (Int) :=
 match p with
 | (a0,left1) =>
  if (decide ((wr (left1 - (a0.length : Int))) < 0)) = true then
  some (-1)
  else
  some (wr (left1 - (a0.length : Int)))
def K9b (p : (List Int) × Int) (r : Int) : Prop :=
 match p with
 | (a0,left1) => Q71 Tryz.prog 69 [sI a0,I left1] (I r) []
theorem K9c : ∀ p r,K9a p = some r → K9b p r := by
 rintro ⟨a0,left1⟩ r h
 unfold K9a at h
 refine b0 Tryz.f69 B69 12 [(0,sI a0),(1,I left1)] fun c hc => ?_
 refine rs0 hc 1 [(0,sI a0),(1,I left1)] [] ?_
 refine rs hc none [oN,oN,some (.eqv (.no) ⟨[(7,I (a0.length : Int))],[],[]⟩),oN,oN] [(1,I (wr (left1 - (a0.length : Int))))] [] (ai (Qcz (d := 7) I a0) tv) ?_
 refine sN ?_
 refine rs0 hc 2 [(1,I (wr (left1 - (a0.length : Int)))),(10,.bool (decide ((wr (left1 - (a0.length : Int))) < 0)))] [] ?_
 refine ic h (fun a1 h => ?_) fun a1 h => ?_
 ·refine rs0 hc 1 [(4,I (-1))] [] ?_
  refine rt ?_
  obtain rfl := os h
  exact rq [true]
 refine sk ?_
 refine rs0 hc 2 [(4,I (wr (left1 - (a0.length : Int))))] [] ?_
 refine rt ?_
 obtain rfl := os h
 exact rq [true]
def K9d (p : (List Bool) × Int) : Option (Int) :=
 match p with
 | (a0,left1) =>
  if (decide ((wr (left1 - (a0.length : Int))) < 0)) = true then
  some (-1)
  else
  some (wr (left1 - (a0.length : Int)))
def K9e (p : (List Bool) × Int) (r : Int) : Prop :=
 match p with
 | (a0,left1) => Q71 Tryz.prog 70 [sB a0,I left1] (I r) []
theorem K9f : ∀ p r,K9d p = some r → K9e p r := by
 rintro ⟨a0,left1⟩ r h
 unfold K9d at h
 refine b0 Tryz.f70 B70 12 [(0,sB a0),(1,I left1)] fun c hc => ?_
 refine rs0 hc 1 [(0,sB a0),(1,I left1)] [] ?_
 refine rs hc none [oN,oN,some (.eqv (.no) ⟨[(7,I (a0.length : Int))],[],[]⟩),oN,oN] [(1,I (wr (left1 - (a0.length : Int))))] [] (ai (Qcz (d := 7) AV.bool a0) tv) ?_
 refine sN ?_
 refine rs0 hc 2 [(1,I (wr (left1 - (a0.length : Int)))),(10,.bool (decide ((wr (left1 - (a0.length : Int))) < 0)))] [] ?_
 refine ic h (fun a1 h => ?_) fun a1 h => ?_
 ·refine rs0 hc 1 [(4,I (-1))] [] ?_
  refine rt ?_
  obtain rfl := os h
  exact rq [true]
 refine sk ?_
 refine rs0 hc 2 [(4,I (wr (left1 - (a0.length : Int))))] [] ?_
 refine rt ?_
 obtain rfl := os h
 exact rq [true]
def K9g (p : K00 × Int) : Option (Int) :=
 match p with
 | (a0,left1) =>
  (K9a (a0.fPlus,left1)) >>= fun a1 =>
  if (decide (a1 < 0)) = true then
  some (-1)
  else
  (K9a (a0.fTimes,a1)) >>= fun a2 =>
  if (decide (a2 < 0)) = true then
  some (-1)
  else
  (K9d (a0.fBelow,a2)) >>= fun a3 =>
  if (decide (a3 < 0)) = true then
  some (-1)
  else
  some a3
def K9h (p : K00 × Int) (r : Int) : Prop :=
 match p with
 | (a0,left1) => Q71 Tryz.prog 15 [K2e a0,I left1] (I r) []
theorem K9i : ∀ p r,K9g p = some r → K9h p r := by
 rintro ⟨a0,left1⟩ r h
 unfold K9g at h
 refine b0 Tryz.f15 B15 24 [(0,K2e a0),(1,I left1)] fun c hc => ?_
 refine rs hc none [some (.new 1),oN] [(1,I left1),(2,.ra 1 0)] [(1,K2d a0)] tv ?_
 obtain ⟨a1,a2,h⟩ := Qct h
 refine rss hc none [oN,oN,oN,oc (I a1),oN] [(1,I a1),(2,.ra 1 0)] (cq (K9c _ _ a2) K3r tv) ?_
 refine sN ?_
 refine K99 hc 2 [(1,I a1),(2,.ra 1 0),(10,.bool (decide (a1 < 0)))] ?_
 refine ic h (fun a3 h => ?_) fun a3 h => ?_
 ·refine rs0 hc 1 [(4,I (-1))] [] ?_
  refine rt ?_
  obtain rfl := os h
  exact rq [true]
 refine sk ?_
 obtain ⟨a4,a5,h⟩ := Qct h
 refine rss hc none [oN,oN,oN,oc (I a4),oN] [(1,I a4),(2,.ra 1 0)] (cq (K9c _ _ a5) K3r tv) ?_
 refine sN ?_
 refine K99 hc 2 [(1,I a4),(2,.ra 1 0),(16,.bool (decide (a4 < 0)))] ?_
 refine ic h (fun a6 h => ?_) fun a6 h => ?_
 ·refine rs0 hc 1 [(4,I (-1))] [] ?_
  refine rt ?_
  obtain rfl := os h
  exact rq [true]
 refine sk ?_
 obtain ⟨a7,a8,h⟩ := Qct h
 refine rs hc none [oN,oN,oN,oc (I a7),oN] [(1,I a7)] [] (cq (K9f _ _ a8) K3s tv) ?_
 refine sN ?_
 refine rs0 hc 2 [(1,I a7),(22,.bool (decide (a7 < 0)))] [] ?_
 refine ic h (fun a9 h => ?_) fun a9 h => ?_
 ·refine rs0 hc 1 [(4,I (-1))] [] ?_
  refine rt ?_
  obtain rfl := os h
  exact rq [true]
 refine sk ?_
 refine rs0 hc 2 [(4,I a7)] [] ?_
 refine rt ?_
 obtain rfl := os h
 exact rq [true]
def K9j (c : Ctx) : (Int) ⊕ (Int) → Exit → Q0a → Prop
 | .inl a0 => Qcf c (.exit 0) (mkS [(1,I a0)] [])
 | .inr r => Qco TIx Tryz.f16 [] (I r)
def K9k (p : LL × Int × Int) : Option ((Int) ⊕ (Int)) :=
 match p with
 | (a0,a1,a2) =>
  if (decide (a2 < (a0.length : Int))) = true then
  (idx a0 a2) >>= fun a3 =>
  (K9a (a3,a1)) >>= fun a4 =>
  if (decide (a4 < 0)) = true then
  some (.inr (-1))
  else
  K9k (a0,a4,(wr (a2 + 1)))
  else
  some (.inl a1)
 partial_fixpoint
def K9l (p : LL × Int × Int) (fl : (Int) ⊕ (Int)) : Prop :=
 match p with
 | (a0,a1,a2) => ∀ c : Ctx,c.nt = 27 → WpL Tryz.prog c (cl (cl (cr (cl (cr (cr (cr B16))))))) (K9j c fl) (mkS [(0,sL a0),(1,I a1),(5,I a2)] [])
theorem K9m : ∀ p r,K9k p = some r → K9l p r := by
 refine K9k.partial_correctness K9l ?_
 rintro laws_szIntSS_l0_f laws_szIntSS_l0_ih ⟨a0,a1,a2⟩ r h
 intro c hc
 refine WpL.step ?_
 refine sN ?_
 refine rs hc none [oN,oN,some (.eqv (.no) ⟨[(14,I (a0.length : Int))],[],[]⟩),oN] [(0,sL a0),(1,I a1),(5,I a2),(15,.bool (decide (a2 < (a0.length : Int))))] [] (ai (Qcz (d := 14) K07 a0) tv) ?_
 refine ic h (fun a3 h => ?_) fun a3 h => ?_
 ·refine sk ?_
  refine sN ?_
  refine bk 1 ?_
  obtain ⟨a4,a5,a6,a7,h⟩ := bq2 h
  refine rs hc none [oN,oN,some (.el (sI a4)),oN,oN,oc (I a6),oN] [(0,sL a0),(1,I a6),(5,I a2)] [] (ai (xL a5) (cq (K9c _ _ a7) K3r tv)) ?_
  refine rs0 hc 2 [(0,sL a0),(1,I a6),(5,I a2),(25,.bool (decide (a6 < 0)))] [] ?_
  refine ic h (fun a8 h => ?_) fun a8 h => ?_
  ·refine rs0 hc 1 [(4,I (-1))] [] ?_
   refine rt ?_
   obtain rfl := os h
   exact re [true]
  refine sk ?_
  refine rg0 hc 3 [(0,sL a0),(1,I a6),(5,I (wr (a2 + 1)))] [] ?_
  refine Qcb ?_
  exact (laws_szIntSS_l0_ih _ _ h c hc)
 refine xt 0 ?_
 refine Qc5 ?_
 refine Qcc ?_
 obtain rfl := os h
 exact iv []
def K9n (p : LL × Int) : Option (Int) :=
 match p with
 | (a0,left1) =>
  if (decide ((wr (left1 - (a0.length : Int))) < 0)) = true then
  some (-1)
  else
  (K9k (a0,(wr (left1 - (a0.length : Int))),0)) >>= fun fl => match fl with
  | .inl a1 =>
   some a1
  | .inr r =>
   some r
def K9o (p : LL × Int) (r : Int) : Prop :=
 match p with
 | (a0,left1) => Q71 Tryz.prog 16 [sL a0,I left1] (I r) []
theorem K9p : ∀ p r,K9n p = some r → K9o p r := by
 rintro ⟨a0,left1⟩ r h
 unfold K9n at h
 refine b0 Tryz.f16 B16 27 [(0,sL a0),(1,I left1)] fun c hc => ?_
 refine rs0 hc 1 [(0,sL a0),(1,I left1)] [] ?_
 refine rs hc none [oN,oN,some (.eqv (.no) ⟨[(8,I (a0.length : Int))],[],[]⟩),oN,oN] [(0,sL a0),(1,I (wr (left1 - (a0.length : Int))))] [] (ai (Qcz (d := 8) K07 a0) tv) ?_
 refine sN ?_
 refine rs0 hc 2 [(0,sL a0),(1,I (wr (left1 - (a0.length : Int)))),(11,.bool (decide ((wr (left1 - (a0.length : Int))) < 0)))] [] ?_
 refine ic h (fun a1 h => ?_) fun a1 h => ?_
 ·refine rs0 hc 1 [(4,I (-1))] [] ?_
  refine rt ?_
  obtain rfl := os h
  exact rq [true]
 refine sk ?_
 refine sN ?_
 refine rs0 hc 1 [(0,sL a0),(1,I (wr (left1 - (a0.length : Int)))),(5,I 0)] [] ?_
 refine bk 0 ?_
 obtain ⟨fl,a2,h⟩ := Qct h
 have hL := K9m _ _ a2 c hc
 refine lp ?_
 rcases fl with a3 | r
 ·refine WpL.into (e := (.exit 0)) (mkS [(1,I a3)] []) hL ?_
  refine Qc7 ?_
  refine rs0 hc 2 [(4,I a3)] [] ?_
  refine rt ?_
  obtain rfl := os h
  exact rq [true]
 refine WpL.mono hL ?_
 rintro _ _ ⟨rfl,hfin⟩
 obtain rfl := os h
 exact ⟨.inl rfl,hfin⟩
def K9q (c : Ctx) : (Int) ⊕ (Int) → Exit → Q0a → Prop
 | .inl a0 => Qcf c (.exit 0) (mkS [(1,I a0)] [])
 | .inr r => Qco TIx Tryz.f71 [] (I r)
mutual
def K9r (p : K01 × Int) : Option (Int) :=
 match p with
 | (a0,left1) =>
  (K9a (a0.fType,left1)) >>= fun a1 =>
  if (decide (a1 < 0)) = true then
  some (-1)
  else
  (K9s (a0.fKids,a1)) >>= fun a2 =>
  if (decide (a2 < 0)) = true then
  some (-1)
  else
  some a2
 partial_fixpoint
def K9s (p : (List K01) × Int) : Option (Int) :=
 match p with
 | (a0,left1) =>
  if (decide ((wr (left1 - (a0.length : Int))) < 0)) = true then
  some (-1)
  else
  (K9t (a0,(wr (left1 - (a0.length : Int))),0)) >>= fun fl => match fl with
  | .inl a1 =>
   some a1
  | .inr r =>
   some r
 partial_fixpoint
def K9t (p : (List K01) × Int × Int) : Option ((Int) ⊕ (Int)) :=
 match p with
 | (a0,a1,a2) =>
  if (decide (a2 < (a0.length : Int))) = true then
  (idx a0 a2) >>= fun a3 =>
  (K9r (a3,a1)) >>= fun a4 =>
  if (decide (a4 < 0)) = true then
  some (.inr (-1))
  else
  K9t (a0,a4,(wr (a2 + 1)))
  else
  some (.inl a1)
 partial_fixpoint
end
def K9u (p : K01 × Int) (r : Int) : Prop :=
 match p with
 | (a0,left1) => Q71 Tryz.prog 17 [K2g a0,I left1] (I r) []
def K9v (p : (List K01) × Int) (r : Int) : Prop :=
 match p with
 | (a0,left1) => Q71 Tryz.prog 71 [.sl (List.map K0s a0),I left1] (I r) []
def K9w (p : (List K01) × Int × Int) (fl : (Int) ⊕ (Int)) : Prop :=
 match p with
 | (a0,a1,a2) => ∀ c : Ctx,c.nt = 27 → WpL Tryz.prog c (cl (cl (cr (cl (cr (cr (cr B71))))))) (K9q c fl) (mkS [(0,.sl (List.map K0s a0)),(1,I a1),(5,I a2)] [])
theorem K9x : (∀ p r,K9r p = some r → K9u p r) ∧ (∀ p r,K9s p = some r → K9v p r) ∧ (∀ p r,K9t p = some r → K9w p r) := by
 refine K9r.mutual_partial_correctness K9u K9v K9w ?_ ?_ ?_
 ·rintro laws_szTermS_f laws_szTermS_ih ⟨a0,left1⟩ r h
  refine b0 Tryz.f17 B17 18 [(0,K2g a0),(1,I left1)] fun c hc => ?_
  refine rs hc none [some (.new 1),oN] [(1,I left1),(2,.ra 1 0)] [(1,K2f a0)] tv ?_
  obtain ⟨a1,a2,h⟩ := Qct h
  refine rss hc none [oN,oN,oN,oc (I a1),oN] [(1,I a1),(2,.ra 1 0)] (cq (K9c _ _ a2) K3r tv) ?_
  refine sN ?_
  refine K99 hc 2 [(1,I a1),(2,.ra 1 0),(10,.bool (decide (a1 < 0)))] ?_
  refine ic h (fun a3 h => ?_) fun a3 h => ?_
  ·refine rs0 hc 1 [(4,I (-1))] [] ?_
   refine rt ?_
   obtain rfl := os h
   exact rq [true]
  refine sk ?_
  obtain ⟨a4,a5,h⟩ := Qct h
  refine rs hc none [oN,oN,oN,oc (I a4),oN] [(1,I a4)] [] (cq (laws_szTermS_ih _ _ a5) K3v tv) ?_
  refine sN ?_
  refine rs0 hc 2 [(1,I a4),(16,.bool (decide (a4 < 0)))] [] ?_
  refine ic h (fun a6 h => ?_) fun a6 h => ?_
  ·refine rs0 hc 1 [(4,I (-1))] [] ?_
   refine rt ?_
   obtain rfl := os h
   exact rq [true]
  refine sk ?_
  refine rs0 hc 2 [(4,I a4)] [] ?_
  refine rt ?_
  obtain rfl := os h
  exact rq [true]
 ·rintro laws_szTermS_l0_f laws_szTermS_l0_ih ⟨a0,left1⟩ r h
  refine b0 Tryz.f71 B71 27 [(0,.sl (List.map K0s a0)),(1,I left1)] fun c hc => ?_
  refine rs0 hc 1 [(0,.sl (List.map K0s a0)),(1,I left1)] [] ?_
  refine rs hc none [oN,oN,some (.eqv (.no) ⟨[(8,I (a0.length : Int))],[],[]⟩),oN,oN] [(0,.sl (List.map K0s a0)),(1,I (wr (left1 - (a0.length : Int))))] [] (ai (Qcz (d := 8) K0s a0) tv) ?_
  refine sN ?_
  refine rs0 hc 2 [(0,.sl (List.map K0s a0)),(1,I (wr (left1 - (a0.length : Int)))),(11,.bool (decide ((wr (left1 - (a0.length : Int))) < 0)))] [] ?_
  refine ic h (fun a3 h => ?_) fun a3 h => ?_
  ·refine rs0 hc 1 [(4,I (-1))] [] ?_
   refine rt ?_
   obtain rfl := os h
   exact rq [true]
  refine sk ?_
  refine sN ?_
  refine rs0 hc 1 [(0,.sl (List.map K0s a0)),(1,I (wr (left1 - (a0.length : Int)))),(5,I 0)] [] ?_
  refine bk 0 ?_
  obtain ⟨fl,a7,h⟩ := Qct h
  have hL := laws_szTermS_l0_ih _ _ a7 c hc
  refine lp ?_
  rcases fl with a8 | r
  ·refine WpL.into (e := (.exit 0)) (mkS [(1,I a8)] []) hL ?_
   refine Qc7 ?_
   refine rs0 hc 2 [(4,I a8)] [] ?_
   refine rt ?_
   obtain rfl := os h
   exact rq [true]
  refine WpL.mono hL ?_
  rintro _ _ ⟨rfl,hfin⟩
  obtain rfl := os h
  exact ⟨.inl rfl,hfin⟩
 ·rintro laws_szTerm_f laws_szTermS_l0_f laws_szTerm_ih laws_szTermS_l0_ih ⟨a0,a9,b1⟩ r h
  intro c hc
  refine WpL.step ?_
  refine sN ?_
  refine rs hc none [oN,oN,some (.eqv (.no) ⟨[(14,I (a0.length : Int))],[],[]⟩),oN] [(0,.sl (List.map K0s a0)),(1,I a9),(5,I b1),(15,.bool (decide (b1 < (a0.length : Int))))] [] (ai (Qcz (d := 14) K0s a0) tv) ?_
  refine ic h (fun b2 h => ?_) fun b2 h => ?_
  ·refine sk ?_
   refine sN ?_
   refine bk 1 ?_
   obtain ⟨b3,b4,b5,b6,h⟩ := bq2 h
   refine rs hc none [oN,oN,some (.el (K2g b3)),oN,oN,oc (I b5),oN] [(0,.sl (List.map K0s a0)),(1,I b5),(5,I b1)] [] (ai (Qcx b4 (K0z b3)) (cq (laws_szTerm_ih _ _ b6) K3w tv)) ?_
   refine rs0 hc 2 [(0,.sl (List.map K0s a0)),(1,I b5),(5,I b1),(25,.bool (decide (b5 < 0)))] [] ?_
   refine ic h (fun b7 h => ?_) fun b7 h => ?_
   ·refine rs0 hc 1 [(4,I (-1))] [] ?_
    refine rt ?_
    obtain rfl := os h
    exact re [true]
   refine sk ?_
   refine rg0 hc 3 [(0,.sl (List.map K0s a0)),(1,I b5),(5,I (wr (b1 + 1)))] [] ?_
   refine Qcb ?_
   exact (laws_szTermS_l0_ih _ _ h c hc)
  refine xt 0 ?_
  refine Qc5 ?_
  refine Qcc ?_
  obtain rfl := os h
  exact iv []
theorem K9y : ∀ p r,K9r p = some r → K9u p r := K9x.1
theorem K9z : ∀ p r,K9s p = some r → K9v p r := K9x.2.1
theorem Ka0 : ∀ p r,K9t p = some r → K9w p r := K9x.2.2
def Ka1 (p : K02 × Int) : Option (Int) :=
 match p with
 | (a0,left1) =>
  (K9n (a0.fCtx,left1)) >>= fun a1 =>
  if (decide (a1 < 0)) = true then
  some (-1)
  else
  (K9a (a0.fBudgets,a1)) >>= fun a2 =>
  if (decide (a2 < 0)) = true then
  some (-1)
  else
  (K9r (a0.fTerm,a2)) >>= fun a3 =>
  if (decide (a3 < 0)) = true then
  some (-1)
  else
  (K9a (a0.fType,a3)) >>= fun a4 =>
  if (decide (a4 < 0)) = true then
  some (-1)
  else
  (K9a (a0.fFrom,a4)) >>= fun a5 =>
  if (decide (a5 < 0)) = true then
  some (-1)
  else
  some a5
def Ka2 (p : K02 × Int) (r : Int) : Prop :=
 match p with
 | (a0,left1) => Q71 Tryz.prog 99 [K2i a0,I left1] (I r) []
theorem Ka3 : ∀ p r,Ka1 p = some r → Ka2 p r := by
 rintro ⟨a0,left1⟩ r h
 unfold Ka1 at h
 refine b0 Tryz.f99 B99 36 [(0,K2i a0),(1,I left1)] fun c hc => ?_
 refine rs hc none [some (.new 1),oN] [(1,I left1),(2,.ra 1 0)] [(1,K2h a0)] tv ?_
 obtain ⟨a1,a2,h⟩ := Qct h
 refine rss hc none [oN,oN,oN,oc (I a1),oN] [(1,I a1),(2,.ra 1 0)] (cq (K9p _ _ a2) K3u tv) ?_
 refine sN ?_
 refine K99 hc 2 [(1,I a1),(2,.ra 1 0),(10,.bool (decide (a1 < 0)))] ?_
 refine ic h (fun a3 h => ?_) fun a3 h => ?_
 ·refine rs0 hc 1 [(4,I (-1))] [] ?_
  refine rt ?_
  obtain rfl := os h
  exact rq [true]
 refine sk ?_
 obtain ⟨a4,a5,h⟩ := Qct h
 refine rss hc none [oN,oN,oN,oc (I a4),oN] [(1,I a4),(2,.ra 1 0)] (cq (K9c _ _ a5) K3r tv) ?_
 refine sN ?_
 refine K99 hc 2 [(1,I a4),(2,.ra 1 0),(16,.bool (decide (a4 < 0)))] ?_
 refine ic h (fun a6 h => ?_) fun a6 h => ?_
 ·refine rs0 hc 1 [(4,I (-1))] [] ?_
  refine rt ?_
  obtain rfl := os h
  exact rq [true]
 refine sk ?_
 obtain ⟨a7,a8,h⟩ := Qct h
 refine rss hc none [oN,oN,oN,oc (I a7),oN] [(1,I a7),(2,.ra 1 0)] (cq (K9y _ _ a8) K3w tv) ?_
 refine sN ?_
 refine K99 hc 2 [(1,I a7),(2,.ra 1 0),(22,.bool (decide (a7 < 0)))] ?_
 refine ic h (fun a9 h => ?_) fun a9 h => ?_
 ·refine rs0 hc 1 [(4,I (-1))] [] ?_
  refine rt ?_
  obtain rfl := os h
  exact rq [true]
 refine sk ?_
 obtain ⟨b1,b2,h⟩ := Qct h
 refine rss hc none [oN,oN,oN,oc (I b1),oN] [(1,I b1),(2,.ra 1 0)] (cq (K9c _ _ b2) K3r tv) ?_
 refine sN ?_
 refine K99 hc 2 [(1,I b1),(2,.ra 1 0),(28,.bool (decide (b1 < 0)))] ?_
 refine ic h (fun b3 h => ?_) fun b3 h => ?_
 ·refine rs0 hc 1 [(4,I (-1))] [] ?_
  refine rt ?_
  obtain rfl := os h
  exact rq [true]
 refine sk ?_
 obtain ⟨b4,b5,h⟩ := Qct h
 refine rs hc none [oN,oN,oN,oc (I b4),oN] [(1,I b4)] [] (cq (K9c _ _ b5) K3r tv) ?_
 refine sN ?_
 refine rs0 hc 2 [(1,I b4),(34,.bool (decide (b4 < 0)))] [] ?_
 refine ic h (fun b6 h => ?_) fun b6 h => ?_
 ·refine rs0 hc 1 [(4,I (-1))] [] ?_
  refine rt ?_
  obtain rfl := os h
  exact rq [true]
 refine sk ?_
 refine rs0 hc 2 [(4,I b4)] [] ?_
 refine rt ?_
 obtain rfl := os h
 exact rq [true]
def Ka4 (c : Ctx) : (Int) ⊕ (Int) → Exit → Q0a → Prop
 | .inl a0 => Qcf c (.exit 0) (mkS [(1,I a0)] [])
 | .inr r => Qco TIx Tryz.f45 [] (I r)
def Ka5 (p : (List K02) × Int × Int) : Option ((Int) ⊕ (Int)) :=
 match p with
 | (a0,a1,a2) =>
  if (decide (a2 < (a0.length : Int))) = true then
  (idx a0 a2) >>= fun a3 =>
  (Ka1 (a3,a1)) >>= fun a4 =>
  if (decide (a4 < 0)) = true then
  some (.inr (-1))
  else
  Ka5 (a0,a4,(wr (a2 + 1)))
  else
  some (.inl a1)
 partial_fixpoint
def Ka6 (p : (List K02) × Int × Int) (fl : (Int) ⊕ (Int)) : Prop :=
 match p with
 | (a0,a1,a2) => ∀ c : Ctx,c.nt = 27 → WpL Tryz.prog c (cl (cl (cr (cl (cr (cr (cr B45))))))) (Ka4 c fl) (mkS [(0,.sl (List.map K12 a0)),(1,I a1),(5,I a2)] [])
theorem Ka7 : ∀ p r,Ka5 p = some r → Ka6 p r := by
 refine Ka5.partial_correctness Ka6 ?_
 rintro laws_szJudgmentS_l0_f laws_szJudgmentS_l0_ih ⟨a0,a1,a2⟩ r h
 intro c hc
 refine WpL.step ?_
 refine sN ?_
 refine rs hc none [oN,oN,some (.eqv (.no) ⟨[(14,I (a0.length : Int))],[],[]⟩),oN] [(0,.sl (List.map K12 a0)),(1,I a1),(5,I a2),(15,.bool (decide (a2 < (a0.length : Int))))] [] (ai (Qcz (d := 14) K12 a0) tv) ?_
 refine ic h (fun a3 h => ?_) fun a3 h => ?_
 ·refine sk ?_
  refine sN ?_
  refine bk 1 ?_
  obtain ⟨a4,a5,a6,a7,h⟩ := bq2 h
  refine rs hc none [oN,oN,some (.el (K2i a4)),oN,oN,oc (I a6),oN] [(0,.sl (List.map K12 a0)),(1,I a6),(5,I a2)] [] (ai (Qcx a5 (K1e a4)) (cq (Ka3 _ _ a7) K3x tv)) ?_
  refine rs0 hc 2 [(0,.sl (List.map K12 a0)),(1,I a6),(5,I a2),(25,.bool (decide (a6 < 0)))] [] ?_
  refine ic h (fun a8 h => ?_) fun a8 h => ?_
  ·refine rs0 hc 1 [(4,I (-1))] [] ?_
   refine rt ?_
   obtain rfl := os h
   exact re [true]
  refine sk ?_
  refine rg0 hc 3 [(0,.sl (List.map K12 a0)),(1,I a6),(5,I (wr (a2 + 1)))] [] ?_
  refine Qcb ?_
  exact (laws_szJudgmentS_l0_ih _ _ h c hc)
 refine xt 0 ?_
 refine Qc5 ?_
 refine Qcc ?_
 obtain rfl := os h
 exact iv []
def Ka8 (p : (List K02) × Int) : Option (Int) :=
 match p with
 | (a0,left1) =>
  if (decide ((wr (left1 - (a0.length : Int))) < 0)) = true then
  some (-1)
  else
  (Ka5 (a0,(wr (left1 - (a0.length : Int))),0)) >>= fun fl => match fl with
  | .inl a1 =>
   some a1
  | .inr r =>
   some r
def Ka9 (p : (List K02) × Int) (r : Int) : Prop :=
 match p with
 | (a0,left1) => Q71 Tryz.prog 45 [.sl (List.map K12 a0),I left1] (I r) []
theorem Kaa : ∀ p r,Ka8 p = some r → Ka9 p r := by
 rintro ⟨a0,left1⟩ r h
 unfold Ka8 at h
 refine b0 Tryz.f45 B45 27 [(0,.sl (List.map K12 a0)),(1,I left1)] fun c hc => ?_
 refine rs0 hc 1 [(0,.sl (List.map K12 a0)),(1,I left1)] [] ?_
 refine rs hc none [oN,oN,some (.eqv (.no) ⟨[(8,I (a0.length : Int))],[],[]⟩),oN,oN] [(0,.sl (List.map K12 a0)),(1,I (wr (left1 - (a0.length : Int))))] [] (ai (Qcz (d := 8) K12 a0) tv) ?_
 refine sN ?_
 refine rs0 hc 2 [(0,.sl (List.map K12 a0)),(1,I (wr (left1 - (a0.length : Int)))),(11,.bool (decide ((wr (left1 - (a0.length : Int))) < 0)))] [] ?_
 refine ic h (fun a1 h => ?_) fun a1 h => ?_
 ·refine rs0 hc 1 [(4,I (-1))] [] ?_
  refine rt ?_
  obtain rfl := os h
  exact rq [true]
 refine sk ?_
 refine sN ?_
 refine rs0 hc 1 [(0,.sl (List.map K12 a0)),(1,I (wr (left1 - (a0.length : Int)))),(5,I 0)] [] ?_
 refine bk 0 ?_
 obtain ⟨fl,a2,h⟩ := Qct h
 have hL := Ka7 _ _ a2 c hc
 refine lp ?_
 rcases fl with a3 | r
 ·refine WpL.into (e := (.exit 0)) (mkS [(1,I a3)] []) hL ?_
  refine Qc7 ?_
  refine rs0 hc 2 [(4,I a3)] [] ?_
  refine rt ?_
  obtain rfl := os h
  exact rq [true]
 refine WpL.mono hL ?_
 rintro _ _ ⟨rfl,hfin⟩
 obtain rfl := os h
 exact ⟨.inl rfl,hfin⟩
def Kab (c : Ctx) : (List Int) → Exit → Q0a → Prop
 | a0 => Qcf c (.exit 0) (mkS [(3,.rs 1)] [(1,rI a0)])
def Kac (p : (List Int) × (List Int) × Int) : Option ((List Int)) :=
 match p with
 | (a0,a1,a2) =>
  if (decide (a2 < (a0.length : Int))) = true then
  (idx a0 a2) >>= fun a3 =>
  (idx a1 a2) >>= fun a4 =>
  Kac (a0,(List.set a1 (Int.toNat a2) a3),(wr (a2 + 1)))
  else
  some (a1)
 partial_fixpoint
def Kad (p : (List Int) × (List Int) × Int) (fl : (List Int)) : Prop :=
 match p with
 | (a0,a1,a2) => ∀ c : Ctx,c.nt = 22 → WpL Tryz.prog c (cl (cl (cr (cl (cr (cr B35)))))) (Kab c fl) (mkS [(0,sI a0),(3,.rs 1),(4,I a2)] [(1,rI a1)])
theorem Kae : ∀ p r,Kac p = some r → Kad p r := by
 refine Kac.partial_correctness Kad ?_
 rintro laws_toIntS_l0_f laws_toIntS_l0_ih ⟨a0,a1,a2⟩ r h
 intro c hc
 refine WpL.step ?_
 refine sN ?_
 refine rss hc none [oN,oN,some (.eqv (.no) ⟨[(10,I (a0.length : Int))],[],[]⟩),oN] [(0,sI a0),(3,.rs 1),(4,I a2),(11,.bool (decide (a2 < (a0.length : Int))))] (ai (Qcz (d := 10) I a0) tv) ?_
 refine ic h (fun a3 h => ?_) fun a3 h => ?_
 ·refine sk ?_
  refine sN ?_
  refine bk 1 ?_
  obtain ⟨a4,a5,a6,a7,h⟩ := bq2 h
  refine rg hc none [oN,oN,oN,oN,some (.el (I a4)),oN,oN,some (.eqv (.mk 0 true) ⟨[],[(1,some (.arr (List.map I (List.set a1 (Int.toNat a2) a4))))],[]⟩)] [(0,sI a0),(3,.rs 1),(4,I a2)] [(1,.arr (List.map I (List.set a1 (Int.toNat a2) a4)))] (ad (ix a5) (Qcy (enc := I) a7) (congrArg (fun z => (⟨[],[(1,some (.arr z))],[]⟩ : Wr)) (Qdw (enc := I) (i := Int.toNat a2) (l := a1) (v := a4) (x := I a4) (Qd8 a4))) (Qdx (enc := I) (sz := 1) Qdc a7) tv) ?_
  refine K98 hc 3 [(0,sI a0),(3,.rs 1),(4,I (wr (a2 + 1)))] ?_
  refine Qcb ?_
  exact (laws_toIntS_l0_ih _ _ h c hc)
 refine xt 0 ?_
 refine Qc5 ?_
 refine Qcc ?_
 obtain rfl := os h
 exact iv []
def Kaf (a0 : (List Int)) : Option ((List Int)) :=
 (chk (0 ≤ (a0.length : Int) ∧ (Int.toNat (a0.length : Int)) * 8 ≤ 140737488355328)) >>= fun _ =>
 (Kac (a0,(List.replicate (Int.toNat (a0.length : Int)) 0),0)) >>= fun a1 =>
 some a1
def Kag (a0 : (List Int)) (r : (List Int)) : Prop :=
 Q71 Tryz.prog 35 [sI a0] (oI r) []
theorem Kah : ∀ p r,Kaf p = some r → Kag p r := by
 rintro a0 r h
 unfold Kaf at h
 refine b0 Tryz.f35 B35 22 [(0,sI a0)] fun c hc => ?_
 refine rs0 hc 1 [(0,sI a0)] [] ?_
 obtain ⟨_,a1,h⟩ := Qct h
 refine rs hc none [oN,some (.eqv (.no) ⟨[(6,I (a0.length : Int))],[],[]⟩),some (.eqv (.mk 1 true) ⟨[(7,.rs 1)],[(1,some (.arr (List.map I (List.replicate (Int.toNat (a0.length : Int)) 0))))],[1]⟩),oN] [(0,sI a0),(3,.rs 1)] [(1,.arr (List.map I (List.replicate (Int.toNat (a0.length : Int)) 0)))] (ac (Qcz (d := 6) I a0) (congrArg (fun z => (⟨[(7,.rs 1)],[(1,some (.arr z))],[1]⟩ : Wr)) (Qdy (enc := I) (n := Int.toNat (a0.length : Int)) (x := I 0) (Qd8 0))) (And.intro (Eq.refl (a0.length : Int)) (Qcv a1)) tv) ?_
 refine sN ?_
 refine K99 hc 1 [(0,sI a0),(3,.rs 1),(4,I 0)] ?_
 refine bk 0 ?_
 obtain ⟨a2,a3,h⟩ := Qct h
 have hL := Kae _ _ a3 c hc
 refine lp ?_
 refine WpL.into (e := (.exit 0)) (mkS [(3,.rs 1)] [(1,rI a2)]) hL ?_
 refine Qc7 ?_
 refine K99 hc 2 [(2,.rs 1)] ?_
 refine rt ?_
 obtain rfl := os h
 exact rq [true]
def Kai (c : Ctx) : (List Bool) → Exit → Q0a → Prop
 | a0 => Qcf c (.exit 0) (mkS [(3,.rs 1)] [(1,.arr (List.map AV.bool a0))])
def Kaj (p : (List Bool) × (List Bool) × Int) : Option ((List Bool)) :=
 match p with
 | (a0,a1,a2) =>
  if (decide (a2 < (a0.length : Int))) = true then
  (idx a0 a2) >>= fun a3 =>
  (idx a1 a2) >>= fun a4 =>
  Kaj (a0,(List.set a1 (Int.toNat a2) a3),(wr (a2 + 1)))
  else
  some (a1)
 partial_fixpoint
def Kak (p : (List Bool) × (List Bool) × Int) (fl : (List Bool)) : Prop :=
 match p with
 | (a0,a1,a2) => ∀ c : Ctx,c.nt = 22 → WpL Tryz.prog c (cl (cl (cr (cl (cr (cr B74)))))) (Kai c fl) (mkS [(0,sB a0),(3,.rs 1),(4,I a2)] [(1,.arr (List.map AV.bool a1))])
theorem Kal : ∀ p r,Kaj p = some r → Kak p r := by
 refine Kaj.partial_correctness Kak ?_
 rintro laws_toBoolS_l0_f laws_toBoolS_l0_ih ⟨a0,a1,a2⟩ r h
 intro c hc
 refine WpL.step ?_
 refine sN ?_
 refine rss hc none [oN,oN,some (.eqv (.no) ⟨[(10,I (a0.length : Int))],[],[]⟩),oN] [(0,sB a0),(3,.rs 1),(4,I a2),(11,.bool (decide (a2 < (a0.length : Int))))] (ai (Qcz (d := 10) AV.bool a0) tv) ?_
 refine ic h (fun a3 h => ?_) fun a3 h => ?_
 ·refine sk ?_
  refine sN ?_
  refine bk 1 ?_
  obtain ⟨a4,a5,a6,a7,h⟩ := bq2 h
  refine rg hc none [oN,oN,oN,oN,some (.el (.bool a4)),oN,oN,some (.eqv (.mk 0 true) ⟨[],[(1,some (.arr (List.map AV.bool (List.set a1 (Int.toNat a2) a4))))],[]⟩)] [(0,sB a0),(3,.rs 1),(4,I a2)] [(1,.arr (List.map AV.bool (List.set a1 (Int.toNat a2) a4)))] (ad (Qcx (enc := AV.bool) (x := .bool a4) a5 (Qda a4)) (Qcy (enc := AV.bool) a7) (congrArg (fun z => (⟨[],[(1,some (.arr z))],[]⟩ : Wr)) (Qdw (enc := AV.bool) (i := Int.toNat a2) (l := a1) (v := a4) (x := AV.bool a4) (Qda a4))) (Qdx (enc := AV.bool) (sz := 1) Qde a7) tv) ?_
  refine K98 hc 3 [(0,sB a0),(3,.rs 1),(4,I (wr (a2 + 1)))] ?_
  refine Qcb ?_
  exact (laws_toBoolS_l0_ih _ _ h c hc)
 refine xt 0 ?_
 refine Qc5 ?_
 refine Qcc ?_
 obtain rfl := os h
 exact iv []
def Kam (a0 : (List Bool)) : Option ((List Bool)) :=
 (chk (0 ≤ (a0.length : Int) ∧ (Int.toNat (a0.length : Int)) * 1 ≤ 140737488355328)) >>= fun _ =>
 (Kaj (a0,(List.replicate (Int.toNat (a0.length : Int)) false),0)) >>= fun a1 =>
 some a1
def Kan (a0 : (List Bool)) (r : (List Bool)) : Prop :=
 Q71 Tryz.prog 74 [sB a0] (.osl (List.map AV.bool r)) []
theorem Kao : ∀ p r,Kam p = some r → Kan p r := by
 rintro a0 r h
 unfold Kam at h
 refine b0 Tryz.f74 B74 22 [(0,sB a0)] fun c hc => ?_
 refine rs0 hc 1 [(0,sB a0)] [] ?_
 obtain ⟨_,a1,h⟩ := Qct h
 refine rs hc none [oN,some (.eqv (.no) ⟨[(6,I (a0.length : Int))],[],[]⟩),some (.eqv (.mk 1 true) ⟨[(7,.rs 1)],[(1,some (.arr (List.map AV.bool (List.replicate (Int.toNat (a0.length : Int)) false))))],[1]⟩),oN] [(0,sB a0),(3,.rs 1)] [(1,.arr (List.map AV.bool (List.replicate (Int.toNat (a0.length : Int)) false)))] (ac (Qcz (d := 6) AV.bool a0) (congrArg (fun z => (⟨[(7,.rs 1)],[(1,some (.arr z))],[1]⟩ : Wr)) (Qdy (enc := AV.bool) (n := Int.toNat (a0.length : Int)) (x := AV.bool false) (Qda false))) (And.intro (Eq.refl (a0.length : Int)) (Qcv a1)) tv) ?_
 refine sN ?_
 refine K99 hc 1 [(0,sB a0),(3,.rs 1),(4,I 0)] ?_
 refine bk 0 ?_
 obtain ⟨a2,a3,h⟩ := Qct h
 have hL := Kal _ _ a3 c hc
 refine lp ?_
 refine WpL.into (e := (.exit 0)) (mkS [(3,.rs 1)] [(1,.arr (List.map AV.bool a2))]) hL ?_
 refine Qc7 ?_
 refine K99 hc 2 [(2,.rs 1)] ?_
 refine rt ?_
 obtain rfl := os h
 exact rq [true]
def Kap (a0 : K00) : Option (K00) :=
 (Kaf a0.fPlus) >>= fun a1 =>
 (Kaf a0.fTimes) >>= fun a2 =>
 (Kam a0.fBelow) >>= fun a3 =>
 some (K00.mk a0.fSize a1 a2 a3)
def Kaq (a0 : K00) (r : K00) : Prop :=
 Q71 Tryz.prog 19 [K2e a0] (K2p r) []
theorem Kar : ∀ p r,Kap p = some r → Kaq p r := by
 rintro a0 r h
 unfold Kap at h
 refine b0 Tryz.f19 B19 20 [(0,K2e a0)] fun c hc => ?_
 refine rs hc none [some (.new 1),some (.new 2)] [(1,.ra 1 0),(2,.ra 2 0)] [(1,K2d a0),(2,.box [I 0,.nils,.nils,.nils])] tv ?_
 refine rs hc none [some (.new 3)] [(1,.ra 1 0),(2,.ra 2 0),(3,.ra 3 0)] [(1,K2d a0),(2,.box [I 0,.nils,.nils,.nils]),(3,.box [I 0,.nils,.nils,.nils])] tv ?_
 refine rs0 hc 4 [(1,.ra 1 0),(2,.ra 2 0),(3,.ra 3 0)] [(1,K2d a0),(2,.box [I 0,.nils,.nils,.nils]),(3,.box [I a0.fSize,.nils,.nils,.nils])] ?_
 obtain ⟨a1,a2,h⟩ := Qct h
 refine rs hc none [oN,oN,some (.call (oI a1) [] 4),oN,oN] [(1,.ra 1 0),(2,.ra 2 0),(3,.ra 3 0)] [(1,K2d a0),(2,.box [I 0,.nils,.nils,.nils]),(3,.box [I a0.fSize,.rs 4,.nils,.nils]),(4,rI a1)] (cq (Kah _ _ a2) K3z tv) ?_
 obtain ⟨a3,a4,h⟩ := Qct h
 refine rs hc none [oN,oN,some (.call (oI a3) [] 5),oN,oN] [(1,.ra 1 0),(2,.ra 2 0),(3,.ra 3 0)] [(1,K2d a0),(2,.box [I 0,.nils,.nils,.nils]),(3,.box [I a0.fSize,.rs 4,.rs 5,.nils]),(4,rI a1),(5,rI a3)] (cq (Kah _ _ a4) K3z tv) ?_
 obtain ⟨a5,a6,h⟩ := Qct h
 refine rs hc none [oN,oN,some (.call (.osl (List.map AV.bool a5)) [] 6),oN,oN] [(2,.ra 2 0),(3,.ra 3 0)] [(2,.box [I 0,.nils,.nils,.nils]),(3,.box [I a0.fSize,.rs 4,.rs 5,.rs 6]),(4,rI a1),(5,rI a3),(6,.arr (List.map AV.bool a5))] (cq (Kao _ _ a6) K40 tv) ?_
 refine rs0 hc 2 [(2,.ra 2 0)] [(2,.box [I a0.fSize,.rs 4,.rs 5,.rs 6]),(4,rI a1),(5,rI a3),(6,.arr (List.map AV.bool a5))] ?_
 refine rt ?_
 obtain rfl := os h
 exact rq [true]
def Kas (c : Ctx) : LL → Exit → Q0a → Prop
 | a0 => Qcf c (.exit 0) (mkS [(3,.rs 1)] [(1,.arr (List.map K0c a0))])
def Kat (p : LL × LL × Int) : Option (LL) :=
 match p with
 | (a0,a1,a2) =>
  if (decide (a2 < (a0.length : Int))) = true then
  (idx a0 a2) >>= fun a3 =>
  (Kaf a3) >>= fun a4 =>
  (idx a1 a2) >>= fun a5 =>
  Kat (a0,(List.set a1 (Int.toNat a2) a4),(wr (a2 + 1)))
  else
  some (a1)
 partial_fixpoint
def Kau (p : LL × LL × Int) (fl : LL) : Prop :=
 match p with
 | (a0,a1,a2) => ∀ c : Ctx,c.nt = 23 → WpL Tryz.prog c (cl (cl (cr (cl (cr (cr B20)))))) (Kas c fl) (mkS [(0,sL a0),(3,.rs 1),(4,I a2)] [(1,.arr (List.map K0c a1))])
theorem Kav : ∀ p r,Kat p = some r → Kau p r := by
 refine Kat.partial_correctness Kau ?_
 rintro laws_toIntSS_l0_f laws_toIntSS_l0_ih ⟨a0,a1,a2⟩ r h
 intro c hc
 refine WpL.step ?_
 refine sN ?_
 refine rss hc none [oN,oN,some (.eqv (.no) ⟨[(10,I (a0.length : Int))],[],[]⟩),oN] [(0,sL a0),(3,.rs 1),(4,I a2),(11,.bool (decide (a2 < (a0.length : Int))))] (ai (Qcz (d := 10) K07 a0) tv) ?_
 refine ic h (fun a3 h => ?_) fun a3 h => ?_
 ·refine sk ?_
  refine sN ?_
  refine bk 1 ?_
  obtain ⟨a4,a5,a6,a7,a8,a9,h⟩ := bq3 h
  refine rg hc none [oN,oN,oN,oN,some (.el (sI a4)),oN,some (.call (oI a6) [] 3),oN,some (.eqv (.mk 0 true) ⟨[],[(1,some (.arr (List.map K0c (List.set a1 (Int.toNat a2) a6)))),(3,none)],[]⟩)] [(0,sL a0),(3,.rs 1),(4,I a2)] [(1,.arr (List.map K0c (List.set a1 (Int.toNat a2) a6)))] (ai (xL a5) (cq (Kah _ _ a7) K3z (ac (Qcy (enc := K0c) a9) (congrArg (fun z => (⟨[],[(1,some (.arr z)),(3,none)],[]⟩ : Wr)) (Qdw (enc := K0c) (i := Int.toNat a2) (l := a1) (v := a6) (x := oI a6) (K0d a6))) (Qdx (enc := K0c) (sz := 1) K0e a9) tv))) ?_
  refine K98 hc 3 [(0,sL a0),(3,.rs 1),(4,I (wr (a2 + 1)))] ?_
  refine Qcb ?_
  exact (laws_toIntSS_l0_ih _ _ h c hc)
 refine xt 0 ?_
 refine Qc5 ?_
 refine Qcc ?_
 obtain rfl := os h
 exact iv []
def Kaw (a0 : LL) : Option (LL) :=
 (chk (0 ≤ (a0.length : Int) ∧ (Int.toNat (a0.length : Int)) * 24 ≤ 140737488355328)) >>= fun _ =>
 (Kat (a0,(List.replicate (Int.toNat (a0.length : Int)) []),0)) >>= fun a1 =>
 some a1
def Kax (a0 : LL) (r : LL) : Prop :=
 Q71 Tryz.prog 20 [sL a0] (.osl (List.map K0c r)) []
theorem Kay : ∀ p r,Kaw p = some r → Kax p r := by
 rintro a0 r h
 unfold Kaw at h
 refine b0 Tryz.f20 B20 23 [(0,sL a0)] fun c hc => ?_
 refine rs0 hc 1 [(0,sL a0)] [] ?_
 obtain ⟨_,a1,h⟩ := Qct h
 refine rs hc none [oN,some (.eqv (.no) ⟨[(6,I (a0.length : Int))],[],[]⟩),some (.eqv (.mk 1 true) ⟨[(7,.rs 1)],[(1,some (.arr (List.map K0c (List.replicate (Int.toNat (a0.length : Int)) []))))],[1]⟩),oN] [(0,sL a0),(3,.rs 1)] [(1,.arr (List.map K0c (List.replicate (Int.toNat (a0.length : Int)) [])))] (ac (Qcz (d := 6) K07 a0) (congrArg (fun z => (⟨[(7,.rs 1)],[(1,some (.arr z))],[1]⟩ : Wr)) (Qdy (enc := K0c) (n := Int.toNat (a0.length : Int)) (x := AV.osl (List.map I [])) (K0d []))) (And.intro (Eq.refl (a0.length : Int)) (Qcv a1)) tv) ?_
 refine sN ?_
 refine K99 hc 1 [(0,sL a0),(3,.rs 1),(4,I 0)] ?_
 refine bk 0 ?_
 obtain ⟨a2,a3,h⟩ := Qct h
 have hL := Kav _ _ a3 c hc
 refine lp ?_
 refine WpL.into (e := (.exit 0)) (mkS [(3,.rs 1)] [(1,.arr (List.map K0c a2))]) hL ?_
 refine Qc7 ?_
 refine K99 hc 2 [(2,.rs 1)] ?_
 refine rt ?_
 obtain rfl := os h
 exact rq [true]
def Kaz (c : Ctx) : (List K01) → Exit → Q0a → Prop
 | a0 => Qcf c (.exit 0) (mkS [(3,.rs 1)] [(1,.arr (List.map K0v a0))])
mutual
def Kb0 (a0 : K01) : Option (K01) :=
 (Kaf a0.fType) >>= fun a1 =>
 (Kb1 a0.fKids) >>= fun a2 =>
 some (K01.mk a0.fOp a0.fN a1 a2)
 partial_fixpoint
def Kb1 (a0 : (List K01)) : Option ((List K01)) :=
 (chk (0 ≤ (a0.length : Int) ∧ (Int.toNat (a0.length : Int)) * 64 ≤ 140737488355328)) >>= fun _ =>
 (Kb2 (a0,(List.replicate (Int.toNat (a0.length : Int)) (K01.mk 0 0 [] [])),0)) >>= fun a1 =>
 some a1
 partial_fixpoint
def Kb2 (p : (List K01) × (List K01) × Int) : Option ((List K01)) :=
 match p with
 | (a0,a1,a2) =>
  if (decide (a2 < (a0.length : Int))) = true then
  (idx a0 a2) >>= fun a3 =>
  (Kb0 a3) >>= fun a4 =>
  (idx a1 a2) >>= fun a5 =>
  Kb2 (a0,(List.set a1 (Int.toNat a2) a4),(wr (a2 + 1)))
  else
  some (a1)
 partial_fixpoint
end
def Kb3 (a0 : K01) (r : K01) : Prop :=
 Q71 Tryz.prog 21 [K2g a0] (K2r r) []
def Kb4 (a0 : (List K01)) (r : (List K01)) : Prop :=
 Q71 Tryz.prog 75 [.sl (List.map K0s a0)] (.osl (List.map K0v r)) []
def Kb5 (p : (List K01) × (List K01) × Int) (fl : (List K01)) : Prop :=
 match p with
 | (a0,a1,a2) => ∀ c : Ctx,c.nt = 23 → WpL Tryz.prog c (cl (cl (cr (cl (cr (cr B75)))))) (Kaz c fl) (mkS [(0,.sl (List.map K0s a0)),(3,.rs 1),(4,I a2)] [(1,.arr (List.map K0v a1))])
theorem Kb6 : (∀ p r,Kb0 p = some r → Kb3 p r) ∧ (∀ p r,Kb1 p = some r → Kb4 p r) ∧ (∀ p r,Kb2 p = some r → Kb5 p r) := by
 refine Kb0.mutual_partial_correctness Kb3 Kb4 Kb5 ?_ ?_ ?_
 ·rintro laws_toTermS_f laws_toTermS_ih a0 r h
  refine b0 Tryz.f21 B21 19 [(0,K2g a0)] fun c hc => ?_
  refine rs hc none [some (.new 1),some (.new 2)] [(1,.ra 1 0),(2,.ra 2 0)] [(1,K2f a0),(2,.box [I 0,I 0,.nils,.nils])] tv ?_
  refine rs hc none [some (.new 3)] [(1,.ra 1 0),(2,.ra 2 0),(3,.ra 3 0)] [(1,K2f a0),(2,.box [I 0,I 0,.nils,.nils]),(3,.box [I 0,I 0,.nils,.nils])] tv ?_
  refine rs0 hc 4 [(1,.ra 1 0),(2,.ra 2 0),(3,.ra 3 0)] [(1,K2f a0),(2,.box [I 0,I 0,.nils,.nils]),(3,.box [I a0.fOp,I 0,.nils,.nils])] ?_
  refine rs0 hc 4 [(1,.ra 1 0),(2,.ra 2 0),(3,.ra 3 0)] [(1,K2f a0),(2,.box [I 0,I 0,.nils,.nils]),(3,.box [I a0.fOp,I a0.fN,.nils,.nils])] ?_
  obtain ⟨a1,a2,h⟩ := Qct h
  refine rs hc none [oN,oN,some (.call (oI a1) [] 4),oN,oN] [(1,.ra 1 0),(2,.ra 2 0),(3,.ra 3 0)] [(1,K2f a0),(2,.box [I 0,I 0,.nils,.nils]),(3,.box [I a0.fOp,I a0.fN,.rs 4,.nils]),(4,rI a1)] (cq (Kah _ _ a2) K3z tv) ?_
  obtain ⟨a3,a4,h⟩ := Qct h
  refine rs hc none [oN,oN,some (.call (.osl (List.map K0v a3)) [] 5),oN,oN] [(2,.ra 2 0),(3,.ra 3 0)] [(2,.box [I 0,I 0,.nils,.nils]),(3,.box [I a0.fOp,I a0.fN,.rs 4,.rs 5]),(4,rI a1),(5,.arr (List.map K0v a3))] (cq (laws_toTermS_ih _ _ a4) K43 tv) ?_
  refine rs0 hc 2 [(2,.ra 2 0)] [(2,.box [I a0.fOp,I a0.fN,.rs 4,.rs 5]),(4,rI a1),(5,.arr (List.map K0v a3))] ?_
  refine rt ?_
  obtain rfl := os h
  exact rq [true]
 ·rintro laws_toTermS_l0_f laws_toTermS_l0_ih a0 r h
  refine b0 Tryz.f75 B75 23 [(0,.sl (List.map K0s a0))] fun c hc => ?_
  refine rs0 hc 1 [(0,.sl (List.map K0s a0))] [] ?_
  obtain ⟨_,a5,h⟩ := Qct h
  refine rs hc none [oN,some (.eqv (.no) ⟨[(6,I (a0.length : Int))],[],[]⟩),some (.eqv (.mk 1 true) ⟨[(7,.rs 1)],[(1,some (.arr (List.map K0v (List.replicate (Int.toNat (a0.length : Int)) (K01.mk 0 0 [] [])))))],[1]⟩),oN] [(0,.sl (List.map K0s a0)),(3,.rs 1)] [(1,.arr (List.map K0v (List.replicate (Int.toNat (a0.length : Int)) (K01.mk 0 0 [] []))))] (ac (Qcz (d := 6) K0s a0) (congrArg (fun z => (⟨[(7,.rs 1)],[(1,some (.arr z))],[1]⟩ : Wr)) (Qdy (enc := K0v) (n := Int.toNat (a0.length : Int)) (x := AV.agg [I ((K01.mk 0 0 [] []).fOp),I ((K01.mk 0 0 [] []).fN),.osl (List.map I ((K01.mk 0 0 [] []).fType)),.osl (List.map K0v ((K01.mk 0 0 [] []).fKids))]) (K11 (K01.mk 0 0 [] [])))) (And.intro (Eq.refl (a0.length : Int)) (Qcv a5)) tv) ?_
  refine sN ?_
  refine K99 hc 1 [(0,.sl (List.map K0s a0)),(3,.rs 1),(4,I 0)] ?_
  refine bk 0 ?_
  obtain ⟨a6,a7,h⟩ := Qct h
  have hL := laws_toTermS_l0_ih _ _ a7 c hc
  refine lp ?_
  refine WpL.into (e := (.exit 0)) (mkS [(3,.rs 1)] [(1,.arr (List.map K0v a6))]) hL ?_
  refine Qc7 ?_
  refine K99 hc 2 [(2,.rs 1)] ?_
  refine rt ?_
  obtain rfl := os h
  exact rq [true]
 ·rintro laws_toTerm_f laws_toTermS_l0_f laws_toTerm_ih laws_toTermS_l0_ih ⟨a0,a8,a9⟩ r h
  intro c hc
  refine WpL.step ?_
  refine sN ?_
  refine rss hc none [oN,oN,some (.eqv (.no) ⟨[(10,I (a0.length : Int))],[],[]⟩),oN] [(0,.sl (List.map K0s a0)),(3,.rs 1),(4,I a9),(11,.bool (decide (a9 < (a0.length : Int))))] (ai (Qcz (d := 10) K0s a0) tv) ?_
  refine ic h (fun b1 h => ?_) fun b1 h => ?_
  ·refine sk ?_
   refine sN ?_
   refine bk 1 ?_
   obtain ⟨b2,b3,b4,b5,b6,b7,h⟩ := bq3 h
   refine rg hc none [oN,oN,oN,oN,some (.el (K2g b2)),oN,some (.call (K2r b4) [] 4),oN,some (.eqv (.mk 0 true) ⟨[],[(1,some (.arr (List.map K0v (List.set a8 (Int.toNat a9) b4)))),(4,none),(5,none)],[]⟩)] [(0,.sl (List.map K0s a0)),(3,.rs 1),(4,I a9)] [(1,.arr (List.map K0v (List.set a8 (Int.toNat a9) b4)))] (ai (Qcx b3 (K0z b2)) (cq (laws_toTerm_ih _ _ b5) K44 (ac (Qcy (enc := K0v) b7) (congrArg (fun z => (⟨[],[(1,some (.arr z)),(4,none),(5,none)],[]⟩ : Wr)) (Qdw (enc := K0v) (i := Int.toNat a9) (l := a8) (v := b4) (x := AV.agg [I b4.fOp,I b4.fN,oI b4.fType,AV.osl (List.map K0v b4.fKids)]) (K11 b4))) (Qdx (enc := K0v) (sz := 4) K1i b7) tv))) ?_
   refine K98 hc 3 [(0,.sl (List.map K0s a0)),(3,.rs 1),(4,I (wr (a9 + 1)))] ?_
   refine Qcb ?_
   exact (laws_toTermS_l0_ih _ _ h c hc)
  refine xt 0 ?_
  refine Qc5 ?_
  refine Qcc ?_
  obtain rfl := os h
  exact iv []
theorem Kb7 : ∀ p r,Kb0 p = some r → Kb3 p r := Kb6.1
theorem Kb8 : ∀ p r,Kb1 p = some r → Kb4 p r := Kb6.2.1
theorem Kb9 : ∀ p r,Kb2 p = some r → Kb5 p r := Kb6.2.2
def Kba (a0 : K02) : Option (K02) :=
 (Kaw a0.fCtx) >>= fun a1 =>
 (Kaf a0.fBudgets) >>= fun a2 =>
 (Kb0 a0.fTerm) >>= fun a3 =>
 (Kaf a0.fType) >>= fun a4 =>
 (Kaf a0.fFrom) >>= fun a5 =>
 some (K02.mk a1 a2 a3 a4 a5)
def Kbb (a0 : K02) (r : K02) : Prop :=
 Q71 Tryz.prog 107 [K2i a0] (K2t r) []
theorem Kbc : ∀ p r,Kba p = some r → Kbb p r := by
 rintro a0 r h
 unfold Kba at h
 refine b0 Tryz.f107 K45 25 [(0,K2i a0)] fun c hc => ?_
 refine rs hc none [some (.new 1),some (.new 2)] [(1,.ra 1 0),(2,.ra 2 0)] [(1,K2h a0),(2,.box [.nils,.nils,I 0,I 0,.nils,.nils,.nils,.nils])] tv ?_
 refine rs hc none [some (.new 3)] [(1,.ra 1 0),(2,.ra 2 0),(3,.ra 3 0)] [(1,K2h a0),(2,.box [.nils,.nils,I 0,I 0,.nils,.nils,.nils,.nils]),(3,.box [.nils,.nils,I 0,I 0,.nils,.nils,.nils,.nils])] tv ?_
 obtain ⟨a1,a2,h⟩ := Qct h
 refine rs hc none [oN,oN,some (.call (.osl (List.map K0c a1)) [] 4),oN,oN] [(1,.ra 1 0),(2,.ra 2 0),(3,.ra 3 0)] [(1,K2h a0),(2,.box [.nils,.nils,I 0,I 0,.nils,.nils,.nils,.nils]),(3,.box [.rs 4,.nils,I 0,I 0,.nils,.nils,.nils,.nils]),(4,.arr (List.map K0c a1))] (cq (Kay _ _ a2) K42 tv) ?_
 obtain ⟨a3,a4,h⟩ := Qct h
 refine rs hc none [oN,oN,some (.call (oI a3) [] 5),oN,oN] [(1,.ra 1 0),(2,.ra 2 0),(3,.ra 3 0)] [(1,K2h a0),(2,.box [.nils,.nils,I 0,I 0,.nils,.nils,.nils,.nils]),(3,.box [.rs 4,.rs 5,I 0,I 0,.nils,.nils,.nils,.nils]),(4,.arr (List.map K0c a1)),(5,rI a3)] (cq (Kah _ _ a4) K3z tv) ?_
 obtain ⟨a5,a6,h⟩ := Qct h
 refine rs hc none [oN,oN,some (.call (K2r a5) [] 6),oN,oN] [(1,.ra 1 0),(2,.ra 2 0),(3,.ra 3 0)] [(1,K2h a0),(2,.box [.nils,.nils,I 0,I 0,.nils,.nils,.nils,.nils]),(3,.box [.rs 4,.rs 5,I a5.fOp,I a5.fN,.rs 6,.rs 7,.nils,.nils]),(4,.arr (List.map K0c a1)),(5,rI a3),(6,rI a5.fType),(7,.arr (List.map K0v a5.fKids))] (cq (Kb7 _ _ a6) K44 tv) ?_
 obtain ⟨a7,a8,h⟩ := Qct h
 refine rs hc none [oN,oN,some (.call (oI a7) [] 8),oN,oN] [(1,.ra 1 0),(2,.ra 2 0),(3,.ra 3 0)] [(1,K2h a0),(2,.box [.nils,.nils,I 0,I 0,.nils,.nils,.nils,.nils]),(3,.box [.rs 4,.rs 5,I a5.fOp,I a5.fN,.rs 6,.rs 7,.rs 8,.nils]),(4,.arr (List.map K0c a1)),(5,rI a3),(6,rI a5.fType),(7,.arr (List.map K0v a5.fKids)),(8,rI a7)] (cq (Kah _ _ a8) K3z tv) ?_
 obtain ⟨a9,b1,h⟩ := Qct h
 refine rs hc none [oN,oN,some (.call (oI a9) [] 9),oN,oN] [(2,.ra 2 0),(3,.ra 3 0)] [(2,.box [.nils,.nils,I 0,I 0,.nils,.nils,.nils,.nils]),(3,.box [.rs 4,.rs 5,I a5.fOp,I a5.fN,.rs 6,.rs 7,.rs 8,.rs 9]),(4,.arr (List.map K0c a1)),(5,rI a3),(6,rI a5.fType),(7,.arr (List.map K0v a5.fKids)),(8,rI a7),(9,rI a9)] (cq (Kah _ _ b1) K3z tv) ?_
 refine rs0 hc 2 [(2,.ra 2 0)] [(2,.box [.rs 4,.rs 5,I a5.fOp,I a5.fN,.rs 6,.rs 7,.rs 8,.rs 9]),(4,.arr (List.map K0c a1)),(5,rI a3),(6,rI a5.fType),(7,.arr (List.map K0v a5.fKids)),(8,rI a7),(9,rI a9)] ?_
 refine rt ?_
 obtain rfl := os h
 exact rq [true]
def Kbd (c : Ctx) : (List K02) → Exit → Q0a → Prop
 | a0 => Qcf c (.exit 0) (mkS [(3,.rs 1)] [(1,.arr (List.map K13 a0))])
def Kbe (p : (List K02) × (List K02) × Int) : Option ((List K02)) :=
 match p with
 | (a0,a1,a2) =>
  if (decide (a2 < (a0.length : Int))) = true then
  (idx a0 a2) >>= fun a3 =>
  (Kba a3) >>= fun a4 =>
  (idx a1 a2) >>= fun a5 =>
  Kbe (a0,(List.set a1 (Int.toNat a2) a4),(wr (a2 + 1)))
  else
  some (a1)
 partial_fixpoint
def Kbf (p : (List K02) × (List K02) × Int) (fl : (List K02)) : Prop :=
 match p with
 | (a0,a1,a2) => ∀ c : Ctx,c.nt = 23 → WpL Tryz.prog c (cl (cl (cr (cl (cr (cr B47)))))) (Kbd c fl) (mkS [(0,.sl (List.map K12 a0)),(3,.rs 1),(4,I a2)] [(1,.arr (List.map K13 a1))])
theorem Kbg : ∀ p r,Kbe p = some r → Kbf p r := by
 refine Kbe.partial_correctness Kbf ?_
 rintro laws_toJudgmentS_l0_f laws_toJudgmentS_l0_ih ⟨a0,a1,a2⟩ r h
 intro c hc
 refine WpL.step ?_
 refine sN ?_
 refine rss hc none [oN,oN,some (.eqv (.no) ⟨[(10,I (a0.length : Int))],[],[]⟩),oN] [(0,.sl (List.map K12 a0)),(3,.rs 1),(4,I a2),(11,.bool (decide (a2 < (a0.length : Int))))] (ai (Qcz (d := 10) K12 a0) tv) ?_
 refine ic h (fun a3 h => ?_) fun a3 h => ?_
 ·refine sk ?_
  refine sN ?_
  refine bk 1 ?_
  obtain ⟨a4,a5,a6,a7,a8,a9,h⟩ := bq3 h
  refine rg hc none [oN,oN,oN,oN,some (.el (K2i a4)),oN,some (.call (K2t a6) [] 8),oN,some (.eqv (.mk 0 true) ⟨[],[(1,some (.arr (List.map K13 (List.set a1 (Int.toNat a2) a6)))),(8,none),(9,none),(10,none),(11,none),(12,none),(13,none)],[]⟩)] [(0,.sl (List.map K12 a0)),(3,.rs 1),(4,I a2)] [(1,.arr (List.map K13 (List.set a1 (Int.toNat a2) a6)))] (ai (Qcx a5 (K1e a4)) (cq (Kbc _ _ a7) K46 (ac (Qcy (enc := K13) a9) (congrArg (fun z => (⟨[],[(1,some (.arr z)),(8,none),(9,none),(10,none),(11,none),(12,none),(13,none)],[]⟩ : Wr)) (Qdw (enc := K13) (i := Int.toNat a2) (l := a1) (v := a6) (x := AV.agg [AV.osl (List.map K0c a6.fCtx),oI a6.fBudgets,I a6.fTerm.fOp,I a6.fTerm.fN,AV.osl (List.map I a6.fTerm.fType),AV.osl (List.map K0v a6.fTerm.fKids),oI a6.fType,oI a6.fFrom]) (K1p a6))) (Qdx (enc := K13) (sz := 8) K1q a9) tv))) ?_
  refine K98 hc 3 [(0,.sl (List.map K12 a0)),(3,.rs 1),(4,I (wr (a2 + 1)))] ?_
  refine Qcb ?_
  exact (laws_toJudgmentS_l0_ih _ _ h c hc)
 refine xt 0 ?_
 refine Qc5 ?_
 refine Qcc ?_
 obtain rfl := os h
 exact iv []
def Kbh : Option (List (List Nat)) := rx [[0],[1],[0],[3],[4],[0],[0,5],[0,5,6],[8],[9],[10],[11],[12],[11],[14],[15],[11],[11,16],[11,16,17],[19],[20],[21]]
def Kbi : Option (List (List Nat)) := rh [0,0,0,3,0,0,0,7,8,9,10,10,12,13,14,14,14,17,18,19,20,21,21,21,24,25,26,27,28,29,29,29,32,33,34,35]
def Kbj (a0 : (List K02)) : Option ((List K02)) :=
 (chk (0 ≤ (a0.length : Int) ∧ (Int.toNat (a0.length : Int)) * 160 ≤ 140737488355328)) >>= fun _ =>
 (Kbe (a0,(List.replicate (Int.toNat (a0.length : Int)) (K02.mk [] [] (K01.mk 0 0 [] []) [] [])),0)) >>= fun a1 =>
 some a1
def Kbk (a0 : (List K02)) (r : (List K02)) : Prop :=
 Q71 Tryz.prog 47 [.sl (List.map K12 a0)] (.osl (List.map K13 r)) []
theorem Kbl : ∀ p r,Kbj p = some r → Kbk p r := by
 rintro a0 r h
 unfold Kbj at h
 refine b0 Tryz.f47 B47 23 [(0,.sl (List.map K12 a0))] fun c hc => ?_
 refine rs0 hc 1 [(0,.sl (List.map K12 a0))] [] ?_
 obtain ⟨_,a1,h⟩ := Qct h
 refine rs hc none [oN,some (.eqv (.no) ⟨[(6,I (a0.length : Int))],[],[]⟩),some (.eqv (.mk 1 true) ⟨[(7,.rs 1)],[(1,some (.arr (List.map K13 (List.replicate (Int.toNat (a0.length : Int)) (K02.mk [] [] (K01.mk 0 0 [] []) [] [])))))],[1]⟩),oN] [(0,.sl (List.map K12 a0)),(3,.rs 1)] [(1,.arr (List.map K13 (List.replicate (Int.toNat (a0.length : Int)) (K02.mk [] [] (K01.mk 0 0 [] []) [] []))))] (ac (Qcz (d := 6) K12 a0) (congrArg (fun z => (⟨[(7,.rs 1)],[(1,some (.arr z))],[1]⟩ : Wr)) (Qdy (enc := K13) (n := Int.toNat (a0.length : Int)) (x := AV.agg [.osl (List.map K0c ((K02.mk [] [] (K01.mk 0 0 [] []) [] []).fCtx)),.osl (List.map I ((K02.mk [] [] (K01.mk 0 0 [] []) [] []).fBudgets)),I (((K02.mk [] [] (K01.mk 0 0 [] []) [] []).fTerm).fOp),I (((K02.mk [] [] (K01.mk 0 0 [] []) [] []).fTerm).fN),.osl (List.map I (((K02.mk [] [] (K01.mk 0 0 [] []) [] []).fTerm).fType)),.osl (List.map K0v (((K02.mk [] [] (K01.mk 0 0 [] []) [] []).fTerm).fKids)),.osl (List.map I ((K02.mk [] [] (K01.mk 0 0 [] []) [] []).fType)),.osl (List.map I ((K02.mk [] [] (K01.mk 0 0 [] []) [] []).fFrom))]) (K1p (K02.mk [] [] (K01.mk 0 0 [] []) [] [])))) (And.intro (Eq.refl (a0.length : Int)) (Qcv a1)) tv) ?_
 refine sN ?_
 refine K99 hc 1 [(0,.sl (List.map K12 a0)),(3,.rs 1),(4,I 0)] ?_
 refine bk 0 ?_
 obtain ⟨a2,a3,h⟩ := Qct h
 have hL := Kbg _ _ a3 c hc
 refine lp ?_
 refine WpL.into (e := (.exit 0)) (mkS [(3,.rs 1)] [(1,.arr (List.map K13 a2))]) hL ?_
 refine Qc7 ?_
 refine K99 hc 2 [(2,.rs 1)] ?_
 refine rt ?_
 obtain rfl := os h
 exact rq [true]
def Kbm (p : Int × Int × Int) : Option (Bool) :=
 match p with
 | (n0,low1,high2) =>
  ((
  if (decide (n0 ≥ low1)) = true then
  some ((decide (n0 ≤ high2)))
  else
  some (false)
  ) : Option (Bool)) >>= fun a0 =>
  some a0
def Kbn (p : Int × Int × Int) (r : Bool) : Prop :=
 match p with
 | (n0,low1,high2) => Q71 Tryz.prog 100 [I n0,I low1,I high2] (.bool r) []
theorem Kbo : ∀ p r,Kbm p = some r → Kbn p r := by
 rintro ⟨n0,low1,high2⟩ r h
 unfold Kbm at h
 refine b0 Tryz.f100 K48 15 [(0,I n0),(1,I low1),(2,I high2)] fun c hc => ?_
 refine rs0 hc 1 [(0,I n0),(1,I low1),(2,I high2)] [] ?_
 refine sN ?_
 obtain ⟨a0,a1,h⟩ := Qct h
 refine Wp.into (x := .normal) (mkS [(6,.bool a0)] []) ?_ ?_
 ·replace h := a1
  rcases is h with ⟨a2,h⟩ | ⟨a2,h⟩
  ·refine rg hc none [oN,oN,oN,oN,oN,oN,oN,oT,oN] [(6,.bool (decide (n0 ≤ high2)))] [] (ar 4 a2 tv) ?_
   obtain rfl := os h
   exact Qcf.mk
  refine rg hc none [oN,oN,oN,oN,o_,o_,o_,oF,oN] [(6,.bool false)] [] (ar 3 (neT a2) (ai a2 tv)) ?_
  obtain rfl := os h
  exact Qcf.mk
 clear a1
 refine rt ?_
 obtain rfl := os h
 exact rq [true]
def Kbp (c : Ctx) : (Unit) ⊕ (Bool) → Exit → Q0a → Prop
 | .inl _ => Qcf c (.exit 0) (mkS [] [])
 | .inr r => Qco TIx Tryz.f202 [] (.bool r)
def Kbq (p : K00 × Int) : Option ((Unit) ⊕ (Bool)) :=
 match p with
 | (s0,a0) =>
  if (decide (a0 < (s0.fPlus.length : Int))) = true then
  ((
  (idx s0.fPlus a0) >>= fun a1 =>
  (Kbm (a1,0,(wr (s0.fSize - 1)))) >>= fun a2 =>
  if a2 = true then
  (idx s0.fTimes a0) >>= fun a3 =>
  (Kbm (a3,0,(wr (s0.fSize - 1)))) >>= fun a4 =>
  some ((!a4))
  else
  some (true)
  ) : Option (Bool)) >>= fun a5 =>
  if a5 = true then
  some (.inr false)
  else
  Kbq (s0,(wr (a0 + 1)))
  else
  some (.inl ())
 partial_fixpoint
def Kbr (p : K00 × Int) (fl : (Unit) ⊕ (Bool)) : Prop :=
 match p with
 | (s0,a0) => ∀ c : Ctx,c.nt = 70 → WpL Tryz.prog c (cl (cl (cr (cl (cr (cr K4a)))))) (Kbp c fl) (mkS [(1,.ra 1 0),(3,I a0)] [(1,K2d s0)])
theorem Kbs : ∀ p r,Kbq p = some r → Kbr p r := by
 refine Kbq.partial_correctness Kbr ?_
 rintro spec_l1Tables_l0_f spec_l1Tables_l0_ih ⟨s0,a0⟩ r h
 intro c hc
 refine WpL.step ?_
 refine sN ?_
 refine rss hc none [oN,oN,oN,some (.eqv (.no) ⟨[(44,I (s0.fPlus.length : Int))],[],[]⟩),oN] [(1,.ra 1 0),(3,I a0),(45,.bool (decide (a0 < (s0.fPlus.length : Int))))] (ai (Qcz (d := 44) I s0.fPlus) tv) ?_
 refine ic h (fun a1 h => ?_) fun a1 h => ?_
 ·refine sk ?_
  refine sN ?_
  refine bk 1 ?_
  refine sN ?_
  obtain ⟨a2,a3,h⟩ := Qct h
  refine Wp.into (x := .normal) (mkS [(1,.ra 1 0),(3,I a0),(69,.bool a2)] [(1,K2d s0)]) ?_ ?_
  ·replace h := a3
   obtain ⟨a4,a5,a6,a7,h⟩ := bq2 h
   rcases is h with ⟨a8,h⟩ | ⟨a8,h⟩
   ·obtain ⟨a9,b1,b2,b3,h⟩ := bq2 h
    refine rgs hc Kbh [oN,oN,oN,some (.el (I a4)),oN,oN,oN,oN,oc (.bool a6),oN,oN,oN,oN,oN,some (.el (I a9)),oN,oN,oN,oN,oc (.bool b2),oN,oF] [(1,.ra 1 0),(3,I a0),(69,.bool (!b2))] (ai (ix a5) (cq (Kbo _ _ a7) K49 (ar 4 (nF a8) (ai (ix b1) (ar 5 (nF a8) (cq (Kbo _ _ b3) K49 (ar 2 (nF a8) tv))))))) ?_
    obtain rfl := os h
    exact Qcf.mk
   refine rgs hc Kbh [oN,oN,oN,some (.el (I a4)),oN,oN,oN,oN,oc (.bool a6),oN,oN,o_,o_,o_,o_,o_,o_,o_,o_,o_,o_,oT] [(1,.ra 1 0),(3,I a0),(69,.bool true)] (ai (ix a5) (cq (Kbo _ _ a7) K49 (ar 10 (neF (nT a8)) (ai (nT a8) tv)))) ?_
   obtain rfl := os h
   exact Qcf.mk
  clear a3
  refine ic h (fun b4 h => ?_) fun b4 h => ?_
  ·refine rs0 hc 1 [(2,.bool false)] [] ?_
   refine rt ?_
   obtain rfl := os h
   exact re [true]
  refine sk ?_
  refine K98 hc 3 [(1,.ra 1 0),(3,I (wr (a0 + 1)))] ?_
  refine Qcb ?_
  exact (spec_l1Tables_l0_ih _ _ h c hc)
 refine xt 0 ?_
 refine Qc5 ?_
 refine Qcc ?_
 obtain rfl := os h
 exact iv []
def Kbt (s0 : K00) : Option (Bool) :=
 ((
 (Kbm (s0.fSize,2,16)) >>= fun a0 =>
 if a0 = true then
  if ((s0.fPlus.length : Int) != (wr (s0.fSize * s0.fSize))) = true then
  some (true)
  else
  if ((s0.fTimes.length : Int) != (wr (s0.fSize * s0.fSize))) = true then
  some (true)
  else
  some (((s0.fBelow.length : Int) != (wr (s0.fSize * s0.fSize))))
 else
  some (true)
 ) : Option (Bool)) >>= fun a1 =>
 if a1 = true then
 some false
 else
 (Kbq (s0,0)) >>= fun fl => match fl with
 | .inl () =>
  some true
 | .inr r =>
  some r
def Kbu (s0 : K00) (r : Bool) : Prop :=
 Q71 Tryz.prog 202 [K2e s0] (.bool r) []
theorem Kbv : ∀ p r,Kbt p = some r → Kbu p r := by
 rintro s0 r h
 unfold Kbt at h
 refine b0 Tryz.f202 K4a 70 [(0,K2e s0)] fun c hc => ?_
 refine rs hc none [some (.new 1),oN] [(1,.ra 1 0)] [(1,K2d s0)] tv ?_
 refine sN ?_
 refine sN ?_
 obtain ⟨a0,a1,h⟩ := Qct h
 refine Wp.into (x := .normal) (mkS [(1,.ra 1 0),(40,.bool a0)] [(1,K2d s0)]) ?_ ?_
 ·replace h := a1
  obtain ⟨a2,a3,h⟩ := Qct h
  rcases is h with ⟨a4,h⟩ | ⟨a4,h⟩
  ·rcases is h with ⟨a5,h⟩ | ⟨a5,h⟩
   ·refine rgs hc none [oN,oN,oc (.bool a2),oN,oN,oN,oN,some (.eqv (.no) ⟨[(11,I (s0.fPlus.length : Int))],[],[]⟩),oN,oN,oN,oN,oN,oN,oF,oN,o_,o_,o_,o_,o_,o_,o_,o_,o_,oT,oN,o_,o_,o_,o_,o_,o_,o_,o_,o_,oT] [(1,.ra 1 0),(40,.bool true)] (cq (Kbo _ _ a3) K49 (ar 3 (nF a4) (ai (Qcz (d := 11) I s0.fPlus) (ar 7 (nF a4) (ar 9 (neF a5) (ai a5 (ar 9 nf (ai tt tv)))))))) ?_
    obtain rfl := os h
    exact Qcf.mk
   rcases is h with ⟨a6,h⟩ | ⟨a6,h⟩
   ·refine rgs hc none [oN,oN,oc (.bool a2),oN,oN,oN,oN,some (.eqv (.no) ⟨[(11,I (s0.fPlus.length : Int))],[],[]⟩),oN,oN,oN,oN,oN,oN,oF,oN,oN,oN,some (.eqv (.no) ⟨[(22,I (s0.fTimes.length : Int))],[],[]⟩),oN,oN,oN,oN,oN,oN,oF,oN,o_,o_,o_,o_,o_,o_,o_,o_,o_,oT] [(1,.ra 1 0),(40,.bool true)] (cq (Kbo _ _ a3) K49 (ar 3 (nF a4) (ai (Qcz (d := 11) I s0.fPlus) (ar 7 (nF a4) (ar 3 a5 (ai (Qcz (d := 22) I s0.fTimes) (ar 7 a5 (ar 9 (neF a6) (ai a6 tv))))))))) ?_
    obtain rfl := os h
    exact Qcf.mk
   refine rgs hc none [oN,oN,oc (.bool a2),oN,oN,oN,oN,some (.eqv (.no) ⟨[(11,I (s0.fPlus.length : Int))],[],[]⟩),oN,oN,oN,oN,oN,oN,oF,oN,oN,oN,some (.eqv (.no) ⟨[(22,I (s0.fTimes.length : Int))],[],[]⟩),oN,oN,oN,oN,oN,oN,oF,oN,oN,oN,some (.eqv (.no) ⟨[(33,I (s0.fBelow.length : Int))],[],[]⟩),oN,oN,oN,oN,oN,oN,oF] [(1,.ra 1 0),(40,.bool ((s0.fBelow.length : Int) != (wr (s0.fSize * s0.fSize))))] (cq (Kbo _ _ a3) K49 (ar 3 (nF a4) (ai (Qcz (d := 11) I s0.fPlus) (ar 7 (nF a4) (ar 3 a5 (ai (Qcz (d := 22) I s0.fTimes) (ar 7 a5 (ar 3 a6 (ai (Qcz (d := 33) AV.bool s0.fBelow) (ar 7 a6 tv)))))))))) ?_
   obtain rfl := os h
   exact Qcf.mk
  refine rgs hc none [oN,oN,oc (.bool a2),oN,oN,o_,o_,o_,o_,o_,o_,o_,o_,o_,oT,oN,o_,o_,o_,o_,o_,o_,o_,o_,o_,oT,oN,o_,o_,o_,o_,o_,o_,o_,o_,o_,oT] [(1,.ra 1 0),(40,.bool true)] (cq (Kbo _ _ a3) K49 (ar 9 (neF (nT a4)) (ai (nT a4) (ar 9 nf (ai tt (ar 9 nf (ai tt tv))))))) ?_
  obtain rfl := os h
  exact Qcf.mk
 clear a1
 refine ic h (fun a7 h => ?_) fun a7 h => ?_
 ·refine rs0 hc 1 [(2,.bool false)] [] ?_
  refine rt ?_
  obtain rfl := os h
  exact rq [true]
 refine sk ?_
 refine sN ?_
 refine K99 hc 1 [(1,.ra 1 0),(3,I 0)] ?_
 refine bk 0 ?_
 obtain ⟨fl,a8,h⟩ := Qct h
 have hL := Kbs _ _ a8 c hc
 refine lp ?_
 rcases fl with ⟨⟩ | r
 ·refine WpL.into (e := (.exit 0)) (mkS [] []) hL ?_
  refine Qc7 ?_
  refine rs0 hc 1 [(2,.bool true)] [] ?_
  refine rt ?_
  obtain rfl := os h
  exact rq [true]
 refine WpL.mono hL ?_
 rintro _ _ ⟨rfl,hfin⟩
 obtain rfl := os h
 exact ⟨.inl rfl,hfin⟩
def Kbw (p : K00 × Int × Int) : Option (Int) :=
 match p with
 | (s0,a1,b2) =>
  (idx s0.fPlus (wr ((wr (a1 * s0.fSize)) + b2))) >>= fun a0 =>
  some a0
def Kbx (p : K00 × Int × Int) (r : Int) : Prop :=
 match p with
 | (s0,a1,b2) => Q71 Tryz.prog 206 [K2e s0,I a1,I b2] (I r) []
theorem Kby : ∀ p r,Kbw p = some r → Kbx p r := by
 rintro ⟨s0,a1,b2⟩ r h
 unfold Kbw at h
 refine b0 Tryz.f206 K4c 17 [(0,K2e s0),(1,I a1),(2,I b2)] fun c hc => ?_
 refine rs hc none [some (.new 1),oN] [(1,I a1),(2,I b2),(3,.ra 1 0)] [(1,K2d s0)] tv ?_
 obtain ⟨a0,a2,h⟩ := Qct h
 refine rs hc none [oN,oN,oN,oN,oN,oN,oN,oN,some (.el (I a0)),oN,oN] [(6,I a0)] [] (ai (ix a2) tv) ?_
 refine rt ?_
 obtain rfl := os h
 exact rq [true]
def Kbz (p : K00 × Int × Int) : Option (Int) :=
 match p with
 | (s0,a1,b2) =>
  (idx s0.fTimes (wr ((wr (a1 * s0.fSize)) + b2))) >>= fun a0 =>
  some a0
def Kc0 (p : K00 × Int × Int) (r : Int) : Prop :=
 match p with
 | (s0,a1,b2) => Q71 Tryz.prog 168 [K2e s0,I a1,I b2] (I r) []
theorem Kc1 : ∀ p r,Kbz p = some r → Kc0 p r := by
 rintro ⟨s0,a1,b2⟩ r h
 unfold Kbz at h
 refine b0 Tryz.f168 K4e 17 [(0,K2e s0),(1,I a1),(2,I b2)] fun c hc => ?_
 refine rs hc none [some (.new 1),oN] [(1,I a1),(2,I b2),(3,.ra 1 0)] [(1,K2d s0)] tv ?_
 obtain ⟨a0,a2,h⟩ := Qct h
 refine rs hc none [oN,oN,oN,oN,oN,oN,oN,oN,some (.el (I a0)),oN,oN] [(6,I a0)] [] (ai (ix a2) tv) ?_
 refine rt ?_
 obtain rfl := os h
 exact rq [true]
def Kc2 (p : K00 × Int × Int) : Option (Bool) :=
 match p with
 | (s0,a1,b2) =>
  (idx s0.fBelow (wr ((wr (a1 * s0.fSize)) + b2))) >>= fun a0 =>
  some a0
def Kc3 (p : K00 × Int × Int) (r : Bool) : Prop :=
 match p with
 | (s0,a1,b2) => Q71 Tryz.prog 149 [K2e s0,I a1,I b2] (.bool r) []
theorem Kc4 : ∀ p r,Kc2 p = some r → Kc3 p r := by
 rintro ⟨s0,a1,b2⟩ r h
 unfold Kc2 at h
 refine b0 Tryz.f149 K4g 17 [(0,K2e s0),(1,I a1),(2,I b2)] fun c hc => ?_
 refine rs hc none [some (.new 1),oN] [(1,I a1),(2,I b2),(3,.ra 1 0)] [(1,K2d s0)] tv ?_
 obtain ⟨a0,a2,h⟩ := Qct h
 refine rs hc none [oN,oN,oN,oN,oN,oN,oN,oN,some (.el (.bool a0)),oN,oN] [(6,.bool a0)] [] (ai (Qcx (enc := AV.bool) (x := .bool a0) a2 (Qda a0)) tv) ?_
 refine rt ?_
 obtain rfl := os h
 exact rq [true]
def Kc5 (p : K00 × Int) : Option (Bool) :=
 match p with
 | (s0,a1) =>
  ((
  (Kbw (s0,0,a1)) >>= fun a0 =>
  if (a0 == a1) = true then
  (Kbz (s0,1,a1)) >>= fun a2 =>
  if (a2 == a1) = true then
  (Kbz (s0,a1,1)) >>= fun a3 =>
  if (a3 == a1) = true then
  (Kbz (s0,0,a1)) >>= fun a4 =>
  if (a4 == 0) = true then
  (Kbz (s0,a1,0)) >>= fun a5 =>
  if (a5 == 0) = true then
  (Kc2 (s0,a1,a1)) >>= fun a6 =>
  some (a6)
  else
  some (false)
  else
  some (false)
  else
  some (false)
  else
  some (false)
  else
  some (false)
  ) : Option (Bool)) >>= fun a7 =>
  some a7
def Kc6 (p : K00 × Int) (r : Bool) : Prop :=
 match p with
 | (s0,a1) => Q71 Tryz.prog 203 [K2e s0,I a1] (.bool r) []
theorem Kc7 : ∀ p r,Kc5 p = some r → Kc6 p r := by
 rintro ⟨s0,a1⟩ r h
 unfold Kc5 at h
 refine b0 Tryz.f203 K4i 42 [(0,K2e s0),(1,I a1)] fun c hc => ?_
 refine rs hc none [some (.new 1),oN] [(1,I a1),(2,.ra 1 0)] [(1,K2d s0)] tv ?_
 refine sN ?_
 obtain ⟨a0,a2,h⟩ := Qct h
 refine Wp.into (x := .normal) (mkS [(4,.bool a0)] []) ?_ ?_
 ·replace h := a2
  obtain ⟨a3,a4,h⟩ := Qct h
  rcases is h with ⟨a5,h⟩ | ⟨a5,h⟩
  ·obtain ⟨a6,a7,h⟩ := Qct h
   rcases is h with ⟨a8,h⟩ | ⟨a8,h⟩
   ·obtain ⟨a9,b1,h⟩ := Qct h
    rcases is h with ⟨b2,h⟩ | ⟨b2,h⟩
    ·obtain ⟨b3,b4,h⟩ := Qct h
     rcases is h with ⟨b5,h⟩ | ⟨b5,h⟩
     ·obtain ⟨b6,b7,h⟩ := Qct h
      rcases is h with ⟨b8,h⟩ | ⟨b8,h⟩
      ·obtain ⟨b9,c0,h⟩ := Qct h
       refine rg hc none [oN,oN,oc (I a3),oN,oN,oN,oN,oN,oc (I a6),oN,oN,oT,oN,oN,oN,oc (I a9),oN,oN,oT,oN,oN,oN,oc (I b3),oN,oT,oN,oN,oN,oc (I b6),oN,oT,oN,oN,oN,oN,oc (.bool b9),oT,oN] [(4,.bool b9)] [] (cq (Kby _ _ a4) K4d (ar 3 a5 (cq (Kc1 _ _ a7) K4f (ar 3 a5 (ar 3 a8 (cq (Kc1 _ _ b1) K4f (ar 3 a8 (ar 3 b2 (cq (Kc1 _ _ b4) K4f (ar 2 b2 (ar 3 b5 (cq (Kc1 _ _ b7) K4f (ar 2 b5 (ar 4 b8 (cq (Kc4 _ _ c0) K4h (ai b8 tv)))))))))))))))) ?_
       obtain rfl := os h
       exact Qcf.mk
      refine rg hc none [oN,oN,oc (I a3),oN,oN,oN,oN,oN,oc (I a6),oN,oN,oT,oN,oN,oN,oc (I a9),oN,oN,oT,oN,oN,oN,oc (I b3),oN,oT,oN,oN,oN,oc (I b6),oN,oT,oN,o_,o_,o_,o_,oF,oN] [(4,.bool false)] [] (cq (Kby _ _ a4) K4d (ar 3 a5 (cq (Kc1 _ _ a7) K4f (ar 3 a5 (ar 3 a8 (cq (Kc1 _ _ b1) K4f (ar 3 a8 (ar 3 b2 (cq (Kc1 _ _ b4) K4f (ar 2 b2 (ar 3 b5 (cq (Kc1 _ _ b7) K4f (ar 2 b5 (ar 4 (neT b8) (ai b8 tv))))))))))))))) ?_
      obtain rfl := os h
      exact Qcf.mk
     refine rg hc none [oN,oN,oc (I a3),oN,oN,oN,oN,oN,oc (I a6),oN,oN,oT,oN,oN,oN,oc (I a9),oN,oN,oT,oN,oN,oN,oc (I b3),oN,oT,oN,o_,o_,o_,o_,oF,oN,o_,o_,o_,o_,oF,oN] [(4,.bool false)] [] (cq (Kby _ _ a4) K4d (ar 3 a5 (cq (Kc1 _ _ a7) K4f (ar 3 a5 (ar 3 a8 (cq (Kc1 _ _ b1) K4f (ar 3 a8 (ar 3 b2 (cq (Kc1 _ _ b4) K4f (ar 2 b2 (ar 4 (neT b5) (ai b5 (ar 4 (neT (rfl : false = false)) (ai (rfl : false = false) tv)))))))))))))) ?_
     obtain rfl := os h
     exact Qcf.mk
    refine rg hc none [oN,oN,oc (I a3),oN,oN,oN,oN,oN,oc (I a6),oN,oN,oT,oN,oN,oN,oc (I a9),oN,oN,oT,oN,o_,o_,o_,o_,oF,oN,o_,o_,o_,o_,oF,oN,o_,o_,o_,o_,oF,oN] [(4,.bool false)] [] (cq (Kby _ _ a4) K4d (ar 3 a5 (cq (Kc1 _ _ a7) K4f (ar 3 a5 (ar 3 a8 (cq (Kc1 _ _ b1) K4f (ar 3 a8 (ar 4 (neT b2) (ai b2 (ar 4 (neT (rfl : false = false)) (ai (rfl : false = false) (ar 4 (neT (rfl : false = false)) (ai (rfl : false = false) tv))))))))))))) ?_
    obtain rfl := os h
    exact Qcf.mk
   refine rg hc none [oN,oN,oc (I a3),oN,oN,oN,oN,oN,oc (I a6),oN,oN,oT,oN,o_,o_,o_,o_,o_,oF,oN,o_,o_,o_,o_,oF,oN,o_,o_,o_,o_,oF,oN,o_,o_,o_,o_,oF,oN] [(4,.bool false)] [] (cq (Kby _ _ a4) K4d (ar 3 a5 (cq (Kc1 _ _ a7) K4f (ar 3 a5 (ar 5 (neT a8) (ai a8 (ar 4 (neT (rfl : false = false)) (ai (rfl : false = false) (ar 4 (neT (rfl : false = false)) (ai (rfl : false = false) (ar 4 (neT (rfl : false = false)) (ai (rfl : false = false) tv)))))))))))) ?_
   obtain rfl := os h
   exact Qcf.mk
  refine rg hc none [oN,oN,oc (I a3),oN,oN,oN,o_,o_,o_,o_,o_,oF,oN,o_,o_,o_,o_,o_,oF,oN,o_,o_,o_,o_,oF,oN,o_,o_,o_,o_,oF,oN,o_,o_,o_,o_,oF,oN] [(4,.bool false)] [] (cq (Kby _ _ a4) K4d (ar 5 (neT a5) (ai a5 (ar 5 (neT (rfl : false = false)) (ai (rfl : false = false) (ar 4 (neT (rfl : false = false)) (ai (rfl : false = false) (ar 4 (neT (rfl : false = false)) (ai (rfl : false = false) (ar 4 (neT (rfl : false = false)) (ai (rfl : false = false) tv))))))))))) ?_
  obtain rfl := os h
  exact Qcf.mk
 clear a2
 refine rt ?_
 obtain rfl := os h
 exact rq [true]
def Kc8 (c : Ctx) (s0 : K00) (a1 : Int) (b2 : Int) (a0 : Int) : Bool → Exit → Q0a → Prop
 | a2 => Qcf c (.exit 2) (mkS [(1,I a1),(2,I b2),(3,.ra 1 0),(7,I a0),(8,.bool a2)] [(1,K2d s0)])
def Kc9 (p : K00 × Int × Int × Int × Bool × Int) : Option (Bool) :=
 match p with
 | (s0,a1,b2,a0,a2,a3) =>
  ((
  if (decide (a3 < s0.fSize)) = true then
  some (a2)
  else
  some (false)
  ) : Option (Bool)) >>= fun a4 =>
  if a4 = true then
  ((
  (Kc2 (s0,a1,a3)) >>= fun a5 =>
  if a5 = true then
  (Kc2 (s0,b2,a3)) >>= fun a6 =>
  if a6 = true then
  (Kc2 (s0,a0,a3)) >>= fun a7 =>
  some (a7)
  else
  some (true)
  else
  some (true)
  ) : Option (Bool)) >>= fun a8 =>
  Kc9 (s0,a1,b2,a0,a8,(wr (a3 + 1)))
  else
  some (a2)
 partial_fixpoint
def Kca (p : K00 × Int × Int × Int × Bool × Int) (fl : Bool) : Prop :=
 match p with
 | (s0,a1,b2,a0,a2,a3) => ∀ c : Ctx,c.nt = 55 → WpL Tryz.prog c (cl (cl (cr (cl (cr (cl (cl (cr (cl (cl (cr (cl (cr K4k))))))))))))) (Kc8 c s0 a1 b2 a0 fl) (mkS [(1,I a1),(2,I b2),(3,.ra 1 0),(7,I a0),(8,.bool a2),(9,I a3)] [(1,K2d s0)])
theorem Kcb : ∀ p r,Kc9 p = some r → Kca p r := by
 refine Kc9.partial_correctness Kca ?_
 rintro spec_l1Join_l0_f spec_l1Join_l0_ih ⟨s0,a1,b2,a0,a2,a3⟩ r h
 intro c hc
 refine WpL.step ?_
 refine sN ?_
 refine sN ?_
 obtain ⟨a4,a5,h⟩ := Qct h
 refine Wp.into (x := .normal) (mkS [(1,I a1),(2,I b2),(3,.ra 1 0),(7,I a0),(8,.bool a2),(9,I a3),(32,.bool a4)] [(1,K2d s0)]) ?_ ?_
 ·replace h := a5
  rcases is h with ⟨a6,h⟩ | ⟨a6,h⟩
  ·refine rgs hc none [oN,oN,oN,oN,oN,oN,oT] [(1,I a1),(2,I b2),(3,.ra 1 0),(7,I a0),(8,.bool a2),(9,I a3),(32,.bool a2)] (ar 2 a6 tv) ?_
   obtain rfl := os h
   exact Qcf.mk
  refine rgs hc none [oN,oN,oN,oN,oN,o_,oF] [(1,I a1),(2,I b2),(3,.ra 1 0),(7,I a0),(8,.bool a2),(9,I a3),(32,.bool false)] (ab (neT a6) a6 tv) ?_
  obtain rfl := os h
  exact Qcf.mk
 clear a5
 refine ic h (fun a7 h => ?_) fun a7 h => ?_
 ·refine sk ?_
  refine sN ?_
  refine bk 3 ?_
  obtain ⟨a8,a9,h⟩ := Qct h
  refine Wp.into (x := .normal) (mkS [(1,I a1),(2,I b2),(3,.ra 1 0),(7,I a0),(8,.bool a8),(9,I a3)] [(1,K2d s0)]) ?_ ?_
  ·replace h := a9
   obtain ⟨b1,b3,h⟩ := Qct h
   rcases is h with ⟨b4,h⟩ | ⟨b4,h⟩
   ·obtain ⟨b5,b6,h⟩ := Qct h
    rcases is h with ⟨b7,h⟩ | ⟨b7,h⟩
    ·obtain ⟨b8,b9,h⟩ := Qct h
     refine rgs hc none [oN,oN,oN,oc (.bool b1),oN,oN,oN,oN,oN,oc (.bool b5),oN,oF,oN,oN,oN,oN,oc (.bool b8),oF,oN] [(1,I a1),(2,I b2),(3,.ra 1 0),(7,I a0),(8,.bool b8),(9,I a3)] (cq (Kc4 _ _ b3) K4h (ar 4 (nF b4) (cq (Kc4 _ _ b6) K4h (ar 2 (nF b4) (ar 4 (nF b7) (cq (Kc4 _ _ b9) K4h (ai (nF b7) tv))))))) ?_
     obtain rfl := os h
     exact Qcf.mk
    refine rgs hc none [oN,oN,oN,oc (.bool b1),oN,oN,oN,oN,oN,oc (.bool b5),oN,oF,oN,o_,o_,o_,o_,oT,oN] [(1,I a1),(2,I b2),(3,.ra 1 0),(7,I a0),(8,.bool true),(9,I a3)] (cq (Kc4 _ _ b3) K4h (ar 4 (nF b4) (cq (Kc4 _ _ b6) K4h (ar 2 (nF b4) (ar 4 (neF (nT b7)) (ai (nT b7) tv)))))) ?_
    obtain rfl := os h
    exact Qcf.mk
   refine rgs hc none [oN,oN,oN,oc (.bool b1),oN,oN,o_,o_,o_,o_,o_,oT,oN,o_,o_,o_,o_,oT,oN] [(1,I a1),(2,I b2),(3,.ra 1 0),(7,I a0),(8,.bool true),(9,I a3)] (cq (Kc4 _ _ b3) K4h (ar 5 (neF (nT b4)) (ai (nT b4) (ar 4 nf (ai tt tv))))) ?_
   obtain rfl := os h
   exact Qcf.mk
  clear a9
  refine K98 hc 3 [(1,I a1),(2,I b2),(3,.ra 1 0),(7,I a0),(8,.bool a8),(9,I (wr (a3 + 1)))] ?_
  refine Qcb ?_
  exact (spec_l1Join_l0_ih _ _ h c hc)
 refine xt 2 ?_
 refine Qc5 ?_
 refine Qcc ?_
 obtain rfl := os h
 exact iv []
def Kcc (c : Ctx) : (Unit) ⊕ (Int) → Exit → Q0a → Prop
 | .inl _ => Qcf c (.exit 0) (mkS [] [])
 | .inr r => Qco TIx Tryz.f215 [] (I r)
def Kcd (p : K00 × Int × Int × Int) : Option ((Unit) ⊕ (Int)) :=
 match p with
 | (s0,a1,b2,a0) =>
  if (decide (a0 < s0.fSize)) = true then
  ((
  (Kc2 (s0,a1,a0)) >>= fun a2 =>
  if a2 = true then
  (Kc2 (s0,b2,a0)) >>= fun a3 =>
  some (a3)
  else
  some (false)
  ) : Option (Bool)) >>= fun a4 =>
  (Kc9 (s0,a1,b2,a0,a4,0)) >>= fun a5 =>
  if a5 = true then
  some (.inr a0)
  else
  Kcd (s0,a1,b2,(wr (a0 + 1)))
  else
  some (.inl ())
 partial_fixpoint
def Kce (p : K00 × Int × Int × Int) (fl : (Unit) ⊕ (Int)) : Prop :=
 match p with
 | (s0,a1,b2,a0) => ∀ c : Ctx,c.nt = 55 → WpL Tryz.prog c (cl (cl (cr (cl (cr K4k))))) (Kcc c fl) (mkS [(1,I a1),(2,I b2),(3,.ra 1 0),(7,I a0)] [(1,K2d s0)])
theorem Kcf : ∀ p r,Kcd p = some r → Kce p r := by
 refine Kcd.partial_correctness Kce ?_
 rintro spec_l1Join_l1_f spec_l1Join_l1_ih ⟨s0,a1,b2,a0⟩ r h
 intro c hc
 refine WpL.step ?_
 refine sN ?_
 refine K99 hc 4 [(1,I a1),(2,I b2),(3,.ra 1 0),(7,I a0),(13,.bool (decide (a0 < s0.fSize)))] ?_
 refine ic h (fun a2 h => ?_) fun a2 h => ?_
 ·refine sk ?_
  refine sN ?_
  refine bk 1 ?_
  refine sN ?_
  obtain ⟨a3,a4,h⟩ := Qct h
  refine Wp.into (x := .normal) (mkS [(1,I a1),(2,I b2),(3,.ra 1 0),(7,I a0),(8,.bool a3)] [(1,K2d s0)]) ?_ ?_
  ·replace h := a4
   obtain ⟨a5,a6,h⟩ := Qct h
   rcases is h with ⟨a7,h⟩ | ⟨a7,h⟩
   ·obtain ⟨a8,a9,h⟩ := Qct h
    refine rgs hc none [oN,oN,oN,oc (.bool a5),oN,oN,oN,oN,oc (.bool a8),oT,oN] [(1,I a1),(2,I b2),(3,.ra 1 0),(7,I a0),(8,.bool a8)] (cq (Kc4 _ _ a6) K4h (ar 4 a7 (cq (Kc4 _ _ a9) K4h (ai a7 tv)))) ?_
    obtain rfl := os h
    exact Qcf.mk
   refine rgs hc none [oN,oN,oN,oc (.bool a5),oN,o_,o_,o_,o_,oF,oN] [(1,I a1),(2,I b2),(3,.ra 1 0),(7,I a0),(8,.bool false)] (cq (Kc4 _ _ a6) K4h (ar 4 (neT a7) (ai a7 tv))) ?_
   obtain rfl := os h
   exact Qcf.mk
  clear a4
  refine sN ?_
  refine K99 hc 1 [(1,I a1),(2,I b2),(3,.ra 1 0),(7,I a0),(8,.bool a3),(9,I 0)] ?_
  refine bk 2 ?_
  obtain ⟨b1,b3,h⟩ := Qct h
  have hL := Kcb _ _ b3 c hc
  refine lp ?_
  refine WpL.into (e := (.exit 2)) (mkS [(1,I a1),(2,I b2),(3,.ra 1 0),(7,I a0),(8,.bool b1)] [(1,K2d s0)]) hL ?_
  refine Qc7 ?_
  refine K99 hc 1 [(1,I a1),(2,I b2),(3,.ra 1 0),(7,I a0),(53,.bool b1)] ?_
  refine ic h (fun b4 h => ?_) fun b4 h => ?_
  ·refine rs0 hc 2 [(6,I a0)] [] ?_
   refine rt ?_
   obtain rfl := os h
   exact re [true]
  refine sk ?_
  refine K98 hc 3 [(1,I a1),(2,I b2),(3,.ra 1 0),(7,I (wr (a0 + 1)))] ?_
  refine Qcb ?_
  exact (spec_l1Join_l1_ih _ _ h c hc)
 refine xt 0 ?_
 refine Qc5 ?_
 refine Qcc ?_
 obtain rfl := os h
 exact iv []
def Kcg (p : K00 × Int × Int) : Option (Int) :=
 match p with
 | (s0,a1,b2) =>
  (Kcd (s0,a1,b2,0)) >>= fun fl => match fl with
  | .inl () =>
   some (-1)
  | .inr r =>
   some r
def Kch (p : K00 × Int × Int) (r : Int) : Prop :=
 match p with
 | (s0,a1,b2) => Q71 Tryz.prog 215 [K2e s0,I a1,I b2] (I r) []
theorem Kci : ∀ p r,Kcg p = some r → Kch p r := by
 rintro ⟨s0,a1,b2⟩ r h
 unfold Kcg at h
 refine b0 Tryz.f215 K4k 55 [(0,K2e s0),(1,I a1),(2,I b2)] fun c hc => ?_
 refine rs hc none [some (.new 1),oN] [(1,I a1),(2,I b2),(3,.ra 1 0)] [(1,K2d s0)] tv ?_
 refine sN ?_
 refine K99 hc 1 [(1,I a1),(2,I b2),(3,.ra 1 0),(7,I 0)] ?_
 refine bk 0 ?_
 obtain ⟨fl,a0,h⟩ := Qct h
 have hL := Kcf _ _ a0 c hc
 refine lp ?_
 rcases fl with ⟨⟩ | r
 ·refine WpL.into (e := (.exit 0)) (mkS [] []) hL ?_
  refine Qc7 ?_
  refine rs0 hc 1 [(6,I (-1))] [] ?_
  refine rt ?_
  obtain rfl := os h
  exact rq [true]
 refine WpL.mono hL ?_
 rintro _ _ ⟨rfl,hfin⟩
 obtain rfl := os h
 exact ⟨.inl rfl,hfin⟩
def Kcj (p : K00 × Int × Int) : Option (Bool) :=
 match p with
 | (s0,a1,b2) =>
  ((
  (Kbw (s0,a1,b2)) >>= fun a0 =>
  (Kbw (s0,b2,a1)) >>= fun a2 =>
  if (a0 == a2) = true then
  if (a1 == b2) = true then
  (Kcg (s0,a1,b2)) >>= fun a3 =>
  some ((decide (a3 ≥ 0)))
  else
  (Kc2 (s0,a1,b2)) >>= fun a4 =>
  if a4 = true then
  (Kc2 (s0,b2,a1)) >>= fun a5 =>
  if a5 = true then
  some (false)
  else
  (Kcg (s0,a1,b2)) >>= fun a3 =>
  some ((decide (a3 ≥ 0)))
  else
  (Kcg (s0,a1,b2)) >>= fun a3 =>
  some ((decide (a3 ≥ 0)))
  else
  some (false)
  ) : Option (Bool)) >>= fun a6 =>
  some a6
def Kck (p : K00 × Int × Int) (r : Bool) : Prop :=
 match p with
 | (s0,a1,b2) => Q71 Tryz.prog 204 [K2e s0,I a1,I b2] (.bool r) []
theorem Kcl : ∀ p r,Kcj p = some r → Kck p r := by
 rintro ⟨s0,a1,b2⟩ r h
 unfold Kcj at h
 refine b0 Tryz.f204 K4m 42 [(0,K2e s0),(1,I a1),(2,I b2)] fun c hc => ?_
 refine rs hc none [some (.new 1),oN] [(1,I a1),(2,I b2),(3,.ra 1 0)] [(1,K2d s0)] tv ?_
 refine sN ?_
 obtain ⟨a0,a2,h⟩ := Qct h
 refine Wp.into (x := .normal) (mkS [(6,.bool a0)] []) ?_ ?_
 ·replace h := a2
  obtain ⟨a3,a4,a5,a6,h⟩ := bq2 h
  rcases is h with ⟨a7,h⟩ | ⟨a7,h⟩
  ·rcases is h with ⟨a8,h⟩ | ⟨a8,h⟩
   ·obtain ⟨a9,b1,h⟩ := Qct h
    refine rg hc Kbi [oN,oN,oN,oc (I a3),oN,oN,oN,oc (I a5),oN,oN,oN,oN,oN,oN,o_,o_,o_,o_,o_,oT,oN,o_,o_,o_,o_,o_,oT,oT,oN,oN,oN,oN,oc (I a9),oN,oT,oN] [(6,.bool (decide (a9 ≥ 0)))] [] (cq (Kby _ _ a4) K4d (cq (Kby _ _ a6) K4d (ar 4 a7 (ar 5 (neF a8) (ac a7 a8 a7 (ar 5 nf (ac a7 tt a7 (ar 4 tt (cq (Kci _ _ b1) K4l (ar 2 tt tv)))))))))) ?_
    obtain rfl := os h
    exact Qcf.mk
   obtain ⟨b3,b4,h⟩ := Qct h
   rcases is h with ⟨b5,h⟩ | ⟨b5,h⟩
   ·obtain ⟨b6,b7,h⟩ := Qct h
    rcases is h with ⟨b8,h⟩ | ⟨b8,h⟩
    ·refine rg hc Kbi [oN,oN,oN,oc (I a3),oN,oN,oN,oc (I a5),oN,oN,oN,oN,oN,oN,oN,oN,oN,oc (.bool b3),oN,oF,oN,oN,oN,oN,oc (.bool b6),oN,oF,oT,oN,o_,o_,o_,o_,o_,oF,oN] [(6,.bool false)] [] (cq (Kby _ _ a4) K4d (cq (Kby _ _ a6) K4d (ar 4 a7 (ar 4 a8 (cq (Kc4 _ _ b4) K4h (ad a8 a7 a8 a7 (ar 4 (nF b5) (cq (Kc4 _ _ b7) K4h (ad (nF b5) a7 (nF b5) a7 (ar 5 (neT (nF b8)) (ai (nF b8) tv))))))))))) ?_
     obtain rfl := os h
     exact Qcf.mk
    obtain ⟨a9,b1,h⟩ := Qct h
    refine rg hc Kbi [oN,oN,oN,oc (I a3),oN,oN,oN,oc (I a5),oN,oN,oN,oN,oN,oN,oN,oN,oN,oc (.bool b3),oN,oF,oN,oN,oN,oN,oc (.bool b6),oN,oF,oT,oN,oN,oN,oN,oc (I a9),oN,oT,oN] [(6,.bool (decide (a9 ≥ 0)))] [] (cq (Kby _ _ a4) K4d (cq (Kby _ _ a6) K4d (ar 4 a7 (ar 4 a8 (cq (Kc4 _ _ b4) K4h (ad a8 a7 a8 a7 (ar 4 (nF b5) (cq (Kc4 _ _ b7) K4h (ad (nF b5) a7 (nF b5) a7 (ar 4 (nT b8) (cq (Kci _ _ b1) K4l (ar 2 (nT b8) tv)))))))))))) ?_
    obtain rfl := os h
    exact Qcf.mk
   obtain ⟨a9,b1,h⟩ := Qct h
   refine rg hc Kbi [oN,oN,oN,oc (I a3),oN,oN,oN,oc (I a5),oN,oN,oN,oN,oN,oN,oN,oN,oN,oc (.bool b3),oN,oF,oN,o_,o_,o_,o_,o_,oT,oT,oN,oN,oN,oN,oc (I a9),oN,oT,oN] [(6,.bool (decide (a9 ≥ 0)))] [] (cq (Kby _ _ a4) K4d (cq (Kby _ _ a6) K4d (ar 4 a7 (ar 4 a8 (cq (Kc4 _ _ b4) K4h (ad a8 a7 a8 a7 (ar 5 (neF (nT b5)) (ac a7 (nT b5) a7 (ar 4 tt (cq (Kci _ _ b1) K4l (ar 2 tt tv))))))))))) ?_
   obtain rfl := os h
   exact Qcf.mk
  refine rg hc Kbi [oN,oN,oN,oc (I a3),oN,oN,oN,oc (I a5),oN,oN,o_,o_,o_,o_,o_,o_,o_,o_,o_,o_,o_,o_,o_,o_,o_,o_,o_,oF,oN,o_,o_,o_,o_,o_,oF,oN] [(6,.bool false)] [] (cq (Kby _ _ a4) K4d (cq (Kby _ _ a6) K4d (ar 7 (neT a7) (ai a7 (ar 5 (neT (rfl : false = false)) (ai (rfl : false = false) tv)))))) ?_
  obtain rfl := os h
  exact Qcf.mk
 clear a2
 refine rt ?_
 obtain rfl := os h
 exact rq [true]
def Kcm : Option (List (List Nat)) := rx [[0],[0],[0],[0],[0,1,2,3],[0],[6],[0],[0],[0],[0],[0],[7,9,10,11],[13],[14],[15],[16],[16],[16],[16],[16,17,18,19],[16],[22],[16],[16],[16],[16],[16],[23,25,26,27],[29],[30],[31]]
def Kcn : Option (List (List Nat)) := rx [[0],[0],[0],[0],[0],[0,2,3,4],[6],[0],[0],[0],[0],[7,8,9,10],[0],[0],[0],[7,8,9,10,11,12,13,14],[16],[17],[18],[19],[19],[19],[19],[19,20,21,22],[19],[25],[19],[19],[19],[19],[26,27,28,29],[19],[19],[19],[26,27,28,29,30,31,32,33],[35],[36],[37]]
def Kco : Option (List (List Nat)) := rx [[0],[0],[0],[0],[0,1,2,3],[0],[0],[0],[0,1,2,3,4,5,6,7],[9],[10],[11],[11],[11],[11],[11,12,13,14],[11],[11],[11],[11,12,13,14,15,16,17,18],[20],[21],[22],[23],[23],[23],[23],[23,24,25,26],[23],[23],[23],[23,24,25,26,27,28,29,30],[32],[33],[34]]
def Kcp (p : K00 × Int × Int × Int) : Option (Bool) :=
 match p with
 | (s0,a1,b2,c3) =>
  ((
  (Kbw (s0,a1,b2)) >>= fun a0 =>
  (Kbw (s0,a0,c3)) >>= fun a2 =>
  (Kbw (s0,b2,c3)) >>= fun a3 =>
  (Kbw (s0,a1,a3)) >>= fun a4 =>
  if (a2 != a4) = true then
  some (true)
  else
  (Kbz (s0,a1,b2)) >>= fun a5 =>
  (Kbz (s0,a5,c3)) >>= fun a6 =>
  (Kbz (s0,b2,c3)) >>= fun a7 =>
  (Kbz (s0,a1,a7)) >>= fun a8 =>
  some ((a6 != a8))
  ) : Option (Bool)) >>= fun a9 =>
  if a9 = true then
  some false
  else
  ((
  (Kbw (s0,b2,c3)) >>= fun b1 =>
  (Kbz (s0,a1,b1)) >>= fun b3 =>
  (Kbz (s0,a1,b2)) >>= fun b4 =>
  (Kbz (s0,a1,c3)) >>= fun b5 =>
  (Kbw (s0,b4,b5)) >>= fun b6 =>
  if (b3 != b6) = true then
  some (true)
  else
  (Kbw (s0,a1,b2)) >>= fun b7 =>
  (Kbz (s0,b7,c3)) >>= fun b8 =>
  (Kbz (s0,a1,c3)) >>= fun b9 =>
  (Kbz (s0,b2,c3)) >>= fun c0 =>
  (Kbw (s0,b9,c0)) >>= fun c1 =>
  some ((b8 != c1))
  ) : Option (Bool)) >>= fun c2 =>
  if c2 = true then
  some false
  else
  (Kc2 (s0,a1,b2)) >>= fun c4 =>
  if c4 = true then
  ((
  (Kc2 (s0,b2,c3)) >>= fun c5 =>
  if c5 = true then
  (Kc2 (s0,a1,c3)) >>= fun c6 =>
  some ((!c6))
  else
  some (false)
  ) : Option (Bool)) >>= fun c7 =>
  if c7 = true then
  some false
  else
  ((
  (Kbw (s0,a1,c3)) >>= fun c8 =>
  (Kbw (s0,b2,c3)) >>= fun c9 =>
  (Kc2 (s0,c8,c9)) >>= fun d0 =>
  if d0 = true then
  (Kbz (s0,a1,c3)) >>= fun d1 =>
  (Kbz (s0,b2,c3)) >>= fun d2 =>
  (Kc2 (s0,d1,d2)) >>= fun d3 =>
  if d3 = true then
  (Kbz (s0,c3,a1)) >>= fun d4 =>
  (Kbz (s0,c3,b2)) >>= fun d5 =>
  (Kc2 (s0,d4,d5)) >>= fun d6 =>
  some (d6)
  else
  some (false)
  else
  some (false)
  ) : Option (Bool)) >>= fun d7 =>
  some d7
  else
  some true
def Kcq (p : K00 × Int × Int × Int) (r : Bool) : Prop :=
 match p with
 | (s0,a1,b2,c3) => Q71 Tryz.prog 205 [K2e s0,I a1,I b2,I c3] (.bool r) []
theorem Kcr : ∀ p r,Kcp p = some r → Kcq p r := by
 rintro ⟨s0,a1,b2,c3⟩ r h
 unfold Kcp at h
 refine b0 Tryz.f205 K4o 129 [(0,K2e s0),(1,I a1),(2,I b2),(3,I c3)] fun c hc => ?_
 refine rs hc none [some (.new 1),oN] [(1,I a1),(2,I b2),(3,I c3),(4,.ra 1 0)] [(1,K2d s0)] tv ?_
 refine sN ?_
 refine sN ?_
 obtain ⟨a0,a2,h⟩ := Qct h
 refine Wp.into (x := .normal) (mkS [(1,I a1),(2,I b2),(3,I c3),(4,.ra 1 0),(40,.bool a0)] [(1,K2d s0)]) ?_ ?_
 ·replace h := a2
  obtain ⟨a3,a4,a5,a6,a7,a8,a9,b1,h⟩ := bq4 h
  rcases is h with ⟨b3,h⟩ | ⟨b3,h⟩
  ·refine rgs hc Kcm [oN,oN,oN,oN,oc (I a3),oN,oc (I a5),oN,oN,oN,oN,oN,oc (I a7),oc (I a9),oN,oN,o_,o_,o_,o_,o_,o_,o_,o_,o_,o_,o_,o_,o_,o_,o_,oT] [(1,I a1),(2,I b2),(3,I c3),(4,.ra 1 0),(40,.bool true)] (cq (Kby _ _ a4) K4d (cq (Kby _ _ a6) K4d (cq (Kby _ _ a8) K4d (cq (Kby _ _ b1) K4d (ar 15 (neF b3) (ai b3 tv)))))) ?_
   obtain rfl := os h
   exact Qcf.mk
  obtain ⟨b4,b5,b6,b7,b8,b9,c0,c1,h⟩ := bq4 h
  refine rgs hc Kcm [oN,oN,oN,oN,oc (I a3),oN,oc (I a5),oN,oN,oN,oN,oN,oc (I a7),oc (I a9),oN,oN,oN,oN,oN,oN,oc (I b4),oN,oc (I b6),oN,oN,oN,oN,oN,oc (I b8),oc (I c0),oN,oF] [(1,I a1),(2,I b2),(3,I c3),(4,.ra 1 0),(40,.bool (b6 != c0))] (cq (Kby _ _ a4) K4d (cq (Kby _ _ a6) K4d (cq (Kby _ _ a8) K4d (cq (Kby _ _ b1) K4d (ar 5 b3 (cq (Kc1 _ _ b5) K4f (ar 2 b3 (cq (Kc1 _ _ b7) K4f (ar 6 b3 (cq (Kc1 _ _ b9) K4f (ai b3 (cq (Kc1 _ _ c1) K4f (ar 2 b3 tv))))))))))))) ?_
  obtain rfl := os h
  exact Qcf.mk
 clear a2
 refine ic h (fun c2 h => ?_) fun c2 h => ?_
 ·refine rs0 hc 1 [(8,.bool false)] [] ?_
  refine rt ?_
  obtain rfl := os h
  exact rq [true]
 refine sk ?_
 refine sN ?_
 refine sN ?_
 obtain ⟨c4,c5,h⟩ := Qct h
 refine Wp.into (x := .normal) (mkS [(1,I a1),(2,I b2),(3,I c3),(4,.ra 1 0),(78,.bool c4)] [(1,K2d s0)]) ?_ ?_
 ·replace h := c5
  obtain ⟨c6,c7,c8,c9,d0,d1,d2,d3,h⟩ := bq4 h
  obtain ⟨d4,d5,h⟩ := Qct h
  rcases is h with ⟨d6,h⟩ | ⟨d6,h⟩
  ·refine rgs hc Kcn [oN,oN,oN,oN,oN,oc (I c6),oc (I c8),oN,oN,oN,oN,oc (I d0),oN,oN,oN,oc (I d2),oc (I d4),oN,oN,o_,o_,o_,o_,o_,o_,o_,o_,o_,o_,o_,o_,o_,o_,o_,o_,o_,o_,oT] [(1,I a1),(2,I b2),(3,I c3),(4,.ra 1 0),(78,.bool true)] (cq (Kby _ _ c7) K4d (cq (Kc1 _ _ c9) K4f (cq (Kc1 _ _ d1) K4f (cq (Kc1 _ _ d3) K4f (cq (Kby _ _ d5) K4d (ar 18 (neF d6) (ai d6 tv))))))) ?_
   obtain rfl := os h
   exact Qcf.mk
  obtain ⟨d7,d8,d9,e0,e1,e2,e3,e4,h⟩ := bq4 h
  obtain ⟨e5,e6,h⟩ := Qct h
  refine rgs hc Kcn [oN,oN,oN,oN,oN,oc (I c6),oc (I c8),oN,oN,oN,oN,oc (I d0),oN,oN,oN,oc (I d2),oc (I d4),oN,oN,oN,oN,oN,oN,oc (I d7),oN,oc (I d9),oN,oN,oN,oN,oc (I e1),oN,oN,oN,oc (I e3),oc (I e5),oN,oF] [(1,I a1),(2,I b2),(3,I c3),(4,.ra 1 0),(78,.bool (d9 != e5))] (cq (Kby _ _ c7) K4d (cq (Kc1 _ _ c9) K4f (cq (Kc1 _ _ d1) K4f (cq (Kc1 _ _ d3) K4f (cq (Kby _ _ d5) K4d (ar 5 d6 (cq (Kby _ _ d8) K4d (ar 2 d6 (cq (Kc1 _ _ e0) K4f (ar 5 d6 (cq (Kc1 _ _ e2) K4f (ar 4 d6 (cq (Kc1 _ _ e4) K4f (ai d6 (cq (Kby _ _ e6) K4d (ar 2 d6 tv)))))))))))))))) ?_
  obtain rfl := os h
  exact Qcf.mk
 clear c5
 refine ic h (fun e7 h => ?_) fun e7 h => ?_
 ·refine rs0 hc 1 [(8,.bool false)] [] ?_
  refine rt ?_
  obtain rfl := os h
  exact rq [true]
 refine sk ?_
 refine sN ?_
 obtain ⟨e8,e9,h⟩ := Qct h
 refine rss hc none [oN,oN,oN,oc (.bool e8),oN] [(1,I a1),(2,I b2),(3,I c3),(4,.ra 1 0),(83,.bool (!e8))] (cq (Kc4 _ _ e9) K4h tv) ?_
 rcases is h with ⟨f0,h⟩ | ⟨f0,h⟩
 ·refine cF (!e8) (nF f0) ?_
  refine sk ?_
  refine sN ?_
  refine sN ?_
  obtain ⟨f1,f2,h⟩ := Qct h
  refine Wp.into (x := .normal) (mkS [(1,I a1),(2,I b2),(3,I c3),(4,.ra 1 0),(94,.bool f1)] [(1,K2d s0)]) ?_ ?_
  ·replace h := f2
   obtain ⟨f3,f4,h⟩ := Qct h
   rcases is h with ⟨f5,h⟩ | ⟨f5,h⟩
   ·obtain ⟨f6,f7,h⟩ := Qct h
    refine rgs hc none [oN,oN,oN,oc (.bool f3),oN,oN,oN,oN,oc (.bool f6),oN,oT] [(1,I a1),(2,I b2),(3,I c3),(4,.ra 1 0),(94,.bool (!f6))] (cq (Kc4 _ _ f4) K4h (ar 4 f5 (cq (Kc4 _ _ f7) K4h (ar 2 f5 tv)))) ?_
    obtain rfl := os h
    exact Qcf.mk
   refine rgs hc none [oN,oN,oN,oc (.bool f3),oN,o_,o_,o_,o_,o_,oF] [(1,I a1),(2,I b2),(3,I c3),(4,.ra 1 0),(94,.bool false)] (cq (Kc4 _ _ f4) K4h (ar 5 (neT f5) (ai f5 tv))) ?_
   obtain rfl := os h
   exact Qcf.mk
  clear f2
  refine ic h (fun f8 h => ?_) fun f8 h => ?_
  ·refine rs0 hc 1 [(8,.bool false)] [] ?_
   refine rt ?_
   obtain rfl := os h
   exact rq [true]
  refine sk ?_
  refine sN ?_
  obtain ⟨f9,g0,h⟩ := Qct h
  refine Wp.into (x := .normal) (mkS [(8,.bool f9)] []) ?_ ?_
  ·replace h := g0
   obtain ⟨g1,g2,g3,g4,g5,g6,h⟩ := bq3 h
   rcases is h with ⟨g7,h⟩ | ⟨g7,h⟩
   ·obtain ⟨g8,g9,i0,i1,i2,i3,h⟩ := bq3 h
    rcases is h with ⟨i4,h⟩ | ⟨i4,h⟩
    ·obtain ⟨i5,i6,i7,i8,i9,j0,h⟩ := bq3 h
     refine rg hc Kco [oN,oN,oN,oN,oc (I g1),oN,oN,oN,oc (I g3),oc (.bool g5),oN,oN,oN,oN,oN,oc (I g8),oN,oN,oN,oc (I i0),oc (.bool i2),oT,oN,oN,oN,oN,oN,oc (I i5),oN,oN,oN,oc (I i7),oc (.bool i9),oT,oN] [(8,.bool i9)] [] (cq (Kby _ _ g2) K4d (cq (Kby _ _ g4) K4d (cq (Kc4 _ _ g6) K4h (ar 5 g7 (cq (Kc1 _ _ g9) K4f (ar 4 g7 (cq (Kc1 _ _ i1) K4f (ai g7 (cq (Kc4 _ _ i3) K4h (ai g7 (ar 5 i4 (cq (Kc1 _ _ i6) K4f (ar 4 i4 (cq (Kc1 _ _ i8) K4f (ai i4 (cq (Kc4 _ _ j0) K4h (ai i4 tv))))))))))))))))) ?_
     obtain rfl := os h
     exact Qcf.mk
    refine rg hc Kco [oN,oN,oN,oN,oc (I g1),oN,oN,oN,oc (I g3),oc (.bool g5),oN,oN,oN,oN,oN,oc (I g8),oN,oN,oN,oc (I i0),oc (.bool i2),oT,oN,o_,o_,o_,o_,o_,o_,o_,o_,o_,o_,oF,oN] [(8,.bool false)] [] (cq (Kby _ _ g2) K4d (cq (Kby _ _ g4) K4d (cq (Kc4 _ _ g6) K4h (ar 5 g7 (cq (Kc1 _ _ g9) K4f (ar 4 g7 (cq (Kc1 _ _ i1) K4f (ai g7 (cq (Kc4 _ _ i3) K4h (ai g7 (ar 10 (neT i4) (ai i4 tv)))))))))))) ?_
    obtain rfl := os h
    exact Qcf.mk
   refine rg hc Kco [oN,oN,oN,oN,oc (I g1),oN,oN,oN,oc (I g3),oc (.bool g5),oN,o_,o_,o_,o_,o_,o_,o_,o_,o_,o_,oF,oN,o_,o_,o_,o_,o_,o_,o_,o_,o_,o_,oF,oN] [(8,.bool false)] [] (cq (Kby _ _ g2) K4d (cq (Kby _ _ g4) K4d (cq (Kc4 _ _ g6) K4h (ar 10 (neT g7) (ai g7 (ar 10 (neT (rfl : false = false)) (ai (rfl : false = false) tv))))))) ?_
   obtain rfl := os h
   exact Qcf.mk
  clear g0
  refine rt ?_
  obtain rfl := os h
  exact rq [true]
 refine cT (!e8) (nT f0) ?_
 refine rs0 hc 1 [(8,.bool true)] [] ?_
 refine rt ?_
 obtain rfl := os h
 exact rq [true]
def Kcs (c : Ctx) (s0 : K00) (a0 : Int) (a1 : Int) : (Unit) ⊕ (Bool) → Exit → Q0a → Prop
 | .inl _ => Qcf c (.exit 4) (mkS [(1,.ra 1 0),(3,I a0),(4,I a1)] [(1,K2d s0)])
 | .inr r => Qco TIx Tryz.f139 [] (.bool r)
def Kct (p : K00 × Int × Int × Int) : Option ((Unit) ⊕ (Bool)) :=
 match p with
 | (s0,a0,a1,a2) =>
  if (decide (a2 < s0.fSize)) = true then
  (Kcp (s0,a0,a1,a2)) >>= fun a3 =>
  if a3 = true then
  Kct (s0,a0,a1,(wr (a2 + 1)))
  else
  some (.inr false)
  else
  some (.inl ())
 partial_fixpoint
def Kcu (p : K00 × Int × Int × Int) (fl : (Unit) ⊕ (Bool)) : Prop :=
 match p with
 | (s0,a0,a1,a2) => ∀ c : Ctx,c.nt = 42 → WpL Tryz.prog c (cl (cl (cr (cr (cl (cl (cr (cl (cl (cr (cr (cl (cl (cr (cl (cl (cr (cl (cr (cr K4q)))))))))))))))))))) (Kcs c s0 a0 a1 fl) (mkS [(1,.ra 1 0),(3,I a0),(4,I a1),(5,I a2)] [(1,K2d s0)])
theorem Kcv : ∀ p r,Kct p = some r → Kcu p r := by
 refine Kct.partial_correctness Kcu ?_
 rintro spec_IsSystem_l0_f spec_IsSystem_l0_ih ⟨s0,a0,a1,a2⟩ r h
 intro c hc
 refine WpL.step ?_
 refine sN ?_
 refine K99 hc 4 [(1,.ra 1 0),(3,I a0),(4,I a1),(5,I a2),(33,.bool (decide (a2 < s0.fSize)))] ?_
 refine ic h (fun a3 h => ?_) fun a3 h => ?_
 ·refine sk ?_
  refine sN ?_
  refine bk 5 ?_
  obtain ⟨a4,a5,h⟩ := Qct h
  refine rss hc none [oN,oN,oN,oN,oc (.bool a4),oN] [(1,.ra 1 0),(3,I a0),(4,I a1),(5,I a2),(41,.bool (!a4))] (cq (Kcr _ _ a5) K4p tv) ?_
  rcases is h with ⟨a6,h⟩ | ⟨a6,h⟩
  ·refine cF (!a4) (nF a6) ?_
   refine sk ?_
   refine K98 hc 3 [(1,.ra 1 0),(3,I a0),(4,I a1),(5,I (wr (a2 + 1)))] ?_
   refine Qcb ?_
   exact (spec_IsSystem_l0_ih _ _ h c hc)
  refine cT (!a4) (nT a6) ?_
  refine rs0 hc 1 [(2,.bool false)] [] ?_
  refine rt ?_
  obtain rfl := os h
  exact re [true]
 refine xt 4 ?_
 refine Qc5 ?_
 refine Qcc ?_
 obtain rfl := os h
 exact iv []
def Kcw (c : Ctx) (s0 : K00) (a0 : Int) : (Unit) ⊕ (Bool) → Exit → Q0a → Prop
 | .inl _ => Qcf c (.exit 2) (mkS [(1,.ra 1 0),(3,I a0)] [(1,K2d s0)])
 | .inr r => Qco TIx Tryz.f139 [] (.bool r)
def Kcx (p : K00 × Int × Int) : Option ((Unit) ⊕ (Bool)) :=
 match p with
 | (s0,a0,a1) =>
  if (decide (a1 < s0.fSize)) = true then
  (Kcj (s0,a0,a1)) >>= fun a2 =>
  if a2 = true then
  (Kct (s0,a0,a1,0)) >>= fun fl => match fl with
  | .inl () =>
   Kcx (s0,a0,(wr (a1 + 1)))
  | .inr r =>
   some (.inr r)
  else
  some (.inr false)
  else
  some (.inl ())
 partial_fixpoint
def Kcy (p : K00 × Int × Int) (fl : (Unit) ⊕ (Bool)) : Prop :=
 match p with
 | (s0,a0,a1) => ∀ c : Ctx,c.nt = 42 → WpL Tryz.prog c (cl (cl (cr (cr (cl (cl (cr (cl (cl (cr (cl (cr (cr K4q))))))))))))) (Kcw c s0 a0 fl) (mkS [(1,.ra 1 0),(3,I a0),(4,I a1)] [(1,K2d s0)])
theorem Kcz : ∀ p r,Kcx p = some r → Kcy p r := by
 refine Kcx.partial_correctness Kcy ?_
 rintro spec_IsSystem_l1_f spec_IsSystem_l1_ih ⟨s0,a0,a1⟩ r h
 intro c hc
 refine WpL.step ?_
 refine sN ?_
 refine K99 hc 4 [(1,.ra 1 0),(3,I a0),(4,I a1),(22,.bool (decide (a1 < s0.fSize)))] ?_
 refine ic h (fun a2 h => ?_) fun a2 h => ?_
 ·refine sk ?_
  refine sN ?_
  refine bk 3 ?_
  refine sN ?_
  obtain ⟨a3,a4,h⟩ := Qct h
  refine rss hc none [oN,oN,oN,oc (.bool a3),oN] [(1,.ra 1 0),(3,I a0),(4,I a1),(29,.bool (!a3))] (cq (Kcl _ _ a4) K4n tv) ?_
  rcases is h with ⟨a5,h⟩ | ⟨a5,h⟩
  ·refine cF (!a3) (nF a5) ?_
   refine sk ?_
   refine K99 hc 1 [(1,.ra 1 0),(3,I a0),(4,I a1),(5,I 0)] ?_
   refine bk 4 ?_
   obtain ⟨fl,a6,h⟩ := Qct h
   have hL := Kcv _ _ a6 c hc
   refine lp ?_
   rcases fl with ⟨⟩ | r
   ·refine WpL.into (e := (.exit 4)) (mkS [(1,.ra 1 0),(3,I a0),(4,I a1)] [(1,K2d s0)]) hL ?_
    refine Qc7 ?_
    refine K98 hc 3 [(1,.ra 1 0),(3,I a0),(4,I (wr (a1 + 1)))] ?_
    refine Qcb ?_
    exact (spec_IsSystem_l1_ih _ _ h c hc)
   refine WpL.mono hL ?_
   rintro _ _ ⟨rfl,hfin⟩
   obtain rfl := os h
   exact ⟨rfl,hfin⟩
  refine cT (!a3) (nT a5) ?_
  refine rs0 hc 1 [(2,.bool false)] [] ?_
  refine rt ?_
  obtain rfl := os h
  exact re [true]
 refine xt 2 ?_
 refine Qc5 ?_
 refine Qcc ?_
 obtain rfl := os h
 exact iv []
def Kd0 (c : Ctx) : (Unit) ⊕ (Bool) → Exit → Q0a → Prop
 | .inl _ => Qcf c (.exit 0) (mkS [] [])
 | .inr r => Qco TIx Tryz.f139 [] (.bool r)
def Kd1 (p : K00 × Int) : Option ((Unit) ⊕ (Bool)) :=
 match p with
 | (s0,a0) =>
  if (decide (a0 < s0.fSize)) = true then
  (Kc5 (s0,a0)) >>= fun a1 =>
  if a1 = true then
  (Kcx (s0,a0,0)) >>= fun fl => match fl with
  | .inl () =>
   Kd1 (s0,(wr (a0 + 1)))
  | .inr r =>
   some (.inr r)
  else
  some (.inr false)
  else
  some (.inl ())
 partial_fixpoint
def Kd2 (p : K00 × Int) (fl : (Unit) ⊕ (Bool)) : Prop :=
 match p with
 | (s0,a0) => ∀ c : Ctx,c.nt = 42 → WpL Tryz.prog c (cl (cl (cr (cl (cr (cr K4q)))))) (Kd0 c fl) (mkS [(1,.ra 1 0),(3,I a0)] [(1,K2d s0)])
theorem Kd3 : ∀ p r,Kd1 p = some r → Kd2 p r := by
 refine Kd1.partial_correctness Kd2 ?_
 rintro spec_IsSystem_l2_f spec_IsSystem_l2_ih ⟨s0,a0⟩ r h
 intro c hc
 refine WpL.step ?_
 refine sN ?_
 refine K99 hc 4 [(1,.ra 1 0),(3,I a0),(12,.bool (decide (a0 < s0.fSize)))] ?_
 refine ic h (fun a1 h => ?_) fun a1 h => ?_
 ·refine sk ?_
  refine sN ?_
  refine bk 1 ?_
  refine sN ?_
  obtain ⟨a2,a3,h⟩ := Qct h
  refine rss hc none [oN,oN,oc (.bool a2),oN] [(1,.ra 1 0),(3,I a0),(18,.bool (!a2))] (cq (Kc7 _ _ a3) K4j tv) ?_
  rcases is h with ⟨a4,h⟩ | ⟨a4,h⟩
  ·refine cF (!a2) (nF a4) ?_
   refine sk ?_
   refine K99 hc 1 [(1,.ra 1 0),(3,I a0),(4,I 0)] ?_
   refine bk 2 ?_
   obtain ⟨fl,a5,h⟩ := Qct h
   have hL := Kcz _ _ a5 c hc
   refine lp ?_
   rcases fl with ⟨⟩ | r
   ·refine WpL.into (e := (.exit 2)) (mkS [(1,.ra 1 0),(3,I a0)] [(1,K2d s0)]) hL ?_
    refine Qc7 ?_
    refine K98 hc 3 [(1,.ra 1 0),(3,I (wr (a0 + 1)))] ?_
    refine Qcb ?_
    exact (spec_IsSystem_l2_ih _ _ h c hc)
   refine WpL.mono hL ?_
   rintro _ _ ⟨rfl,hfin⟩
   obtain rfl := os h
   exact ⟨rfl,hfin⟩
  refine cT (!a2) (nT a4) ?_
  refine rs0 hc 1 [(2,.bool false)] [] ?_
  refine rt ?_
  obtain rfl := os h
  exact re [true]
 refine xt 0 ?_
 refine Qc5 ?_
 refine Qcc ?_
 obtain rfl := os h
 exact iv []
def Kd4 (s0 : K00) : Option (Bool) :=
 (Kbt s0) >>= fun a0 =>
 if a0 = true then
 (Kd1 (s0,0)) >>= fun fl => match fl with
 | .inl () =>
  some true
 | .inr r =>
  some r
 else
 some false
def Kd5 (s0 : K00) (r : Bool) : Prop :=
 Q71 Tryz.prog 139 [K2e s0] (.bool r) []
theorem Kd6 : ∀ p r,Kd4 p = some r → Kd5 p r := by
 rintro s0 r h
 unfold Kd4 at h
 refine b0 Tryz.f139 K4q 42 [(0,K2e s0)] fun c hc => ?_
 refine rs hc none [some (.new 1),oN] [(1,.ra 1 0)] [(1,K2d s0)] tv ?_
 refine sN ?_
 obtain ⟨a0,a1,h⟩ := Qct h
 refine rss hc none [oN,oc (.bool a0),oN] [(1,.ra 1 0),(8,.bool (!a0))] (cq (Kbv _ _ a1) K4b tv) ?_
 rcases is h with ⟨a2,h⟩ | ⟨a2,h⟩
 ·refine cF (!a0) (nF a2) ?_
  refine sk ?_
  refine sN ?_
  refine K99 hc 1 [(1,.ra 1 0),(3,I 0)] ?_
  refine bk 0 ?_
  obtain ⟨fl,a3,h⟩ := Qct h
  have hL := Kd3 _ _ a3 c hc
  refine lp ?_
  rcases fl with ⟨⟩ | r
  ·refine WpL.into (e := (.exit 0)) (mkS [] []) hL ?_
   refine Qc7 ?_
   refine rs0 hc 1 [(2,.bool true)] [] ?_
   refine rt ?_
   obtain rfl := os h
   exact rq [true]
  refine WpL.mono hL ?_
  rintro _ _ ⟨rfl,hfin⟩
  obtain rfl := os h
  exact ⟨.inl rfl,hfin⟩
 refine cT (!a0) (nT a2) ?_
 refine rs0 hc 1 [(2,.bool false)] [] ?_
 refine rt ?_
 obtain rfl := os h
 exact rq [true]
def Kd7 (c0 : Int) : Option (Bool) :=
 ((
 (Kbm (c0,3,18)) >>= fun a0 =>
 if a0 = true then
 some (true)
 else
 some ((c0 == 35))
 ) : Option (Bool)) >>= fun a1 =>
 some a1
def Kd8 (c0 : Int) (r : Bool) : Prop :=
 Q71 Tryz.prog 150 [I c0] (.bool r) []
theorem Kd9 : ∀ p r,Kd7 p = some r → Kd8 p r := by
 rintro c0 r h
 unfold Kd7 at h
 refine b0 Tryz.f150 K4s 9 [(0,I c0)] fun c hc => ?_
 refine rs0 hc 1 [(0,I c0)] [] ?_
 refine sN ?_
 obtain ⟨a0,a1,h⟩ := Qct h
 refine Wp.into (x := .normal) (mkS [(2,.bool a0)] []) ?_ ?_
 ·replace h := a1
  obtain ⟨a2,a3,h⟩ := Qct h
  rcases is h with ⟨a4,h⟩ | ⟨a4,h⟩
  ·refine rg hc none [oN,oc (.bool a2),oN,o_,o_,oT,oN] [(2,.bool true)] [] (cq (Kbo _ _ a3) K49 (ar 2 (neF a4) (ai a4 tv))) ?_
   obtain rfl := os h
   exact Qcf.mk
  refine rg hc none [oN,oc (.bool a2),oN,oN,oN,oF,oN] [(2,.bool (c0 == 35))] [] (cq (Kbo _ _ a3) K49 (ar 3 a4 tv)) ?_
  obtain rfl := os h
  exact Qcf.mk
 clear a1
 refine rt ?_
 obtain rfl := os h
 exact rq [true]
def Kda (c0 : Int) : Option (Bool) :=
 ((
 (Kbm (c0,19,34)) >>= fun a0 =>
 if a0 = true then
 some (true)
 else
 some ((c0 == 36))
 ) : Option (Bool)) >>= fun a1 =>
 some a1
def Kdb (c0 : Int) (r : Bool) : Prop :=
 Q71 Tryz.prog 166 [I c0] (.bool r) []
theorem Kdc : ∀ p r,Kda p = some r → Kdb p r := by
 rintro c0 r h
 unfold Kda at h
 refine b0 Tryz.f166 K4u 9 [(0,I c0)] fun c hc => ?_
 refine rs0 hc 1 [(0,I c0)] [] ?_
 refine sN ?_
 obtain ⟨a0,a1,h⟩ := Qct h
 refine Wp.into (x := .normal) (mkS [(2,.bool a0)] []) ?_ ?_
 ·replace h := a1
  obtain ⟨a2,a3,h⟩ := Qct h
  rcases is h with ⟨a4,h⟩ | ⟨a4,h⟩
  ·refine rg hc none [oN,oc (.bool a2),oN,o_,o_,oT,oN] [(2,.bool true)] [] (cq (Kbo _ _ a3) K49 (ar 2 (neF a4) (ai a4 tv))) ?_
   obtain rfl := os h
   exact Qcf.mk
  refine rg hc none [oN,oc (.bool a2),oN,oN,oN,oF,oN] [(2,.bool (c0 == 36))] [] (cq (Kbo _ _ a3) K49 (ar 3 a4 tv)) ?_
  obtain rfl := os h
  exact Qcf.mk
 clear a1
 refine rt ?_
 obtain rfl := os h
 exact rq [true]
def Kdd (c0 : Int) : Option (Int) :=
 if (c0 == 0) = true then
 some 0
 else
 ((
 if (c0 == 1) = true then
 some (true)
 else
 if (c0 == 2) = true then
 some (true)
 else
 (Kd7 c0) >>= fun a0 =>
 some (a0)
 ) : Option (Bool)) >>= fun a1 =>
 if a1 = true then
 some 2
 else
 (Kda c0) >>= fun a2 =>
 if a2 = true then
 some 1
 else
 some (-1)
def Kde (c0 : Int) (r : Int) : Prop :=
 Q71 Tryz.prog 214 [I c0] (I r) []
theorem Kdf : ∀ p r,Kdd p = some r → Kde p r := by
 rintro c0 r h
 unfold Kdd at h
 refine b0 Tryz.f214 K4w 20 [(0,I c0)] fun c hc => ?_
 refine rs0 hc 1 [(0,I c0)] [] ?_
 refine sN ?_
 refine bk 0 ?_
 refine rs0 hc 3 [(0,I c0),(3,.bool (c0 == 0))] [] ?_
 refine ic h (fun a0 h => ?_) fun a0 h => ?_
 ·refine rs0 hc 1 [(2,I 0)] [] ?_
  refine rt ?_
  obtain rfl := os h
  exact rq [true]
 refine sN ?_
 obtain ⟨a1,a2,h⟩ := Qct h
 refine Wp.into (x := .normal) (mkS [(0,I c0),(6,.bool a1)] []) ?_ ?_
 ·replace h := a2
  rcases is h with ⟨a3,h⟩ | ⟨a3,h⟩
  ·refine rg hc none [oN,oN,oN,o_,o_,oT,oN,o_,o_,oT,oN] [(0,I c0),(6,.bool true)] [] (ar 2 (neF a3) (ai a3 (ar 2 nf (ai tt tv)))) ?_
   obtain rfl := os h
   exact Qcf.mk
  rcases is h with ⟨a4,h⟩ | ⟨a4,h⟩
  ·refine rg hc none [oN,oN,oN,oN,oN,oF,oN,o_,o_,oT,oN] [(0,I c0),(6,.bool true)] [] (ar 3 a3 (ar 2 (neF a4) (ai a4 tv))) ?_
   obtain rfl := os h
   exact Qcf.mk
  obtain ⟨a5,a6,h⟩ := Qct h
  refine rg hc none [oN,oN,oN,oN,oN,oF,oN,oN,oc (.bool a5),oF,oN] [(0,I c0),(6,.bool a5)] [] (ar 3 a3 (ar 2 a4 (cq (Kd9 _ _ a6) K4t (ai a4 tv)))) ?_
  obtain rfl := os h
  exact Qcf.mk
 clear a2
 refine ic h (fun a7 h => ?_) fun a7 h => ?_
 ·refine rs0 hc 1 [(2,I 2)] [] ?_
  refine rt ?_
  obtain rfl := os h
  exact rq [true]
 obtain ⟨a8,a9,h⟩ := Qct h
 refine rs hc none [oN,oc (.bool a8),oN] [(17,.bool a8)] [] (cq (Kdc _ _ a9) K4v tv) ?_
 refine ic h (fun b1 h => ?_) fun b1 h => ?_
 ·refine rs0 hc 1 [(2,I 1)] [] ?_
  refine rt ?_
  obtain rfl := os h
  exact rq [true]
 refine sk ?_
 refine rs0 hc 1 [(2,I (-1))] [] ?_
 refine rt ?_
 obtain rfl := os h
 exact rq [true]
def Kdg (c : Ctx) : (Unit) ⊕ (Int) → Exit → Q0a → Prop
 | .inl _ => Qcf c (.exit 0) (mkS [] [])
 | .inr r => Qco TIx Tryz.f207 [] (I r)
def Kdh (p : (List Int) × Int × Int) : Option ((Unit) ⊕ (Int)) :=
 match p with
 | (ty0,a0,a1) =>
  if (decide (a1 < (ty0.length : Int))) = true then
  (idx ty0 a1) >>= fun a2 =>
  (Kdd a2) >>= fun a3 =>
  if (decide (a3 < 0)) = true then
  some (.inr (-1))
  else
  if ((wr ((wr (a0 - 1)) + a3)) == 0) = true then
  some (.inr (wr (a1 + 1)))
  else
  Kdh (ty0,(wr ((wr (a0 - 1)) + a3)),(wr (a1 + 1)))
  else
  some (.inl ())
 partial_fixpoint
def Kdi (p : (List Int) × Int × Int) (fl : (Unit) ⊕ (Int)) : Prop :=
 match p with
 | (ty0,a0,a1) => ∀ c : Ctx,c.nt = 30 → WpL Tryz.prog c (cl (cl (cr (cl (cr (cr K4y)))))) (Kdg c fl) (mkS [(0,sI ty0),(5,I a0),(6,I a1)] [])
theorem Kdj : ∀ p r,Kdh p = some r → Kdi p r := by
 refine Kdh.partial_correctness Kdi ?_
 rintro spec_l2End_l0_f spec_l2End_l0_ih ⟨ty0,a0,a1⟩ r h
 intro c hc
 refine WpL.step ?_
 refine sN ?_
 refine rs hc none [oN,oN,some (.eqv (.no) ⟨[(11,I (ty0.length : Int))],[],[]⟩),oN] [(0,sI ty0),(5,I a0),(6,I a1),(12,.bool (decide (a1 < (ty0.length : Int))))] [] (ai (Qcz (d := 11) I ty0) tv) ?_
 refine ic h (fun a2 h => ?_) fun a2 h => ?_
 ·refine sk ?_
  refine sN ?_
  refine bk 1 ?_
  obtain ⟨a3,a4,a5,a6,h⟩ := bq2 h
  refine rs hc none [oN,oN,some (.el (I a3)),oN,oc (I a5),oN] [(0,sI ty0),(5,I a0),(6,I a1),(7,I a5)] [] (ai (ix a4) (cq (Kdf _ _ a6) K4x tv)) ?_
  refine sN ?_
  refine rs0 hc 2 [(0,sI ty0),(5,I a0),(6,I a1),(7,I a5),(21,.bool (decide (a5 < 0)))] [] ?_
  refine ic h (fun a7 h => ?_) fun a7 h => ?_
  ·refine rs0 hc 1 [(4,I (-1))] [] ?_
   refine rt ?_
   obtain rfl := os h
   exact re [true]
  refine sk ?_
  refine rs0 hc 5 [(0,sI ty0),(5,I (wr ((wr (a0 - 1)) + a5))),(6,I a1)] [] ?_
  refine rs0 hc 2 [(0,sI ty0),(5,I (wr ((wr (a0 - 1)) + a5))),(6,I a1),(27,.bool ((wr ((wr (a0 - 1)) + a5)) == 0))] [] ?_
  refine ic h (fun a8 h => ?_) fun a8 h => ?_
  ·refine rs0 hc 3 [(4,I (wr (a1 + 1)))] [] ?_
   refine rt ?_
   obtain rfl := os h
   exact re [true]
  refine sk ?_
  refine rg0 hc 3 [(0,sI ty0),(5,I (wr ((wr (a0 - 1)) + a5))),(6,I (wr (a1 + 1)))] [] ?_
  refine Qcb ?_
  exact (spec_l2End_l0_ih _ _ h c hc)
 refine xt 0 ?_
 refine Qc5 ?_
 refine Qcc ?_
 obtain rfl := os h
 exact iv []
def Kdk (p : (List Int) × Int) : Option (Int) :=
 match p with
 | (ty0,at1) =>
  (Kdh (ty0,1,at1)) >>= fun fl => match fl with
  | .inl () =>
   some (-1)
  | .inr r =>
   some r
def Kdl (p : (List Int) × Int) (r : Int) : Prop :=
 match p with
 | (ty0,at1) => Q71 Tryz.prog 207 [sI ty0,I at1] (I r) []
theorem Kdm : ∀ p r,Kdk p = some r → Kdl p r := by
 rintro ⟨ty0,at1⟩ r h
 unfold Kdk at h
 refine b0 Tryz.f207 K4y 30 [(0,sI ty0),(1,I at1)] fun c hc => ?_
 refine rs0 hc 1 [(0,sI ty0),(1,I at1)] [] ?_
 refine rs0 hc 1 [(0,sI ty0),(1,I at1),(5,I 1)] [] ?_
 refine sN ?_
 refine rs0 hc 2 [(0,sI ty0),(5,I 1),(6,I at1)] [] ?_
 refine bk 0 ?_
 obtain ⟨fl,a0,h⟩ := Qct h
 have hL := Kdj _ _ a0 c hc
 refine lp ?_
 rcases fl with ⟨⟩ | r
 ·refine WpL.into (e := (.exit 0)) (mkS [] []) hL ?_
  refine Qc7 ?_
  refine rs0 hc 1 [(4,I (-1))] [] ?_
  refine rt ?_
  obtain rfl := os h
  exact rq [true]
 refine WpL.mono hL ?_
 rintro _ _ ⟨rfl,hfin⟩
 obtain rfl := os h
 exact ⟨.inl rfl,hfin⟩
def Kdn (ty0 : (List Int)) : Option (Bool) :=
 ((
 if (decide ((ty0.length : Int) ≤ 40)) = true then
 (Kdk (ty0,0)) >>= fun a0 =>
 if (a0 == (ty0.length : Int)) = true then
 some ((decide ((ty0.length : Int) > 0)))
 else
 some (false)
 else
 some (false)
 ) : Option (Bool)) >>= fun a1 =>
 some a1
def Kdo (ty0 : (List Int)) (r : Bool) : Prop :=
 Q71 Tryz.prog 164 [sI ty0] (.bool r) []
theorem Kdp : ∀ p r,Kdn p = some r → Kdo p r := by
 rintro ty0 r h
 unfold Kdn at h
 refine b0 Tryz.f164 K50 18 [(0,sI ty0)] fun c hc => ?_
 refine rs0 hc 1 [(0,sI ty0)] [] ?_
 refine sN ?_
 obtain ⟨a0,a1,h⟩ := Qct h
 refine Wp.into (x := .normal) (mkS [(2,.bool a0)] []) ?_ ?_
 ·replace h := a1
  rcases is h with ⟨a2,h⟩ | ⟨a2,h⟩
  ·obtain ⟨a3,a4,h⟩ := Qct h
   rcases is h with ⟨a5,h⟩ | ⟨a5,h⟩
   ·refine rg hc none [oN,some (.eqv (.no) ⟨[(4,I (ty0.length : Int))],[],[]⟩),oN,oN,oN,oc (I a3),oN,some (.eqv (.no) ⟨[(10,I (ty0.length : Int))],[],[]⟩),oN,oT,oN,oN,some (.eqv (.no) ⟨[(15,I (ty0.length : Int))],[],[]⟩),oN,oT,oN] [(2,.bool (decide ((ty0.length : Int) > 0)))] [] (ai (Qcz (d := 4) I ty0) (ar 2 a2 (cq (Kdm _ _ a4) K4z (ar 2 a2 (ai (Qcz (d := 10) I ty0) (ar 2 a2 (ar 2 a5 (ai (Qcz (d := 15) I ty0) (ar 2 a5 tv))))))))) ?_
    obtain rfl := os h
    exact Qcf.mk
   refine rg hc none [oN,some (.eqv (.no) ⟨[(4,I (ty0.length : Int))],[],[]⟩),oN,oN,oN,oc (I a3),oN,some (.eqv (.no) ⟨[(10,I (ty0.length : Int))],[],[]⟩),oN,oT,oN,o_,o_,o_,oF,oN] [(2,.bool false)] [] (ai (Qcz (d := 4) I ty0) (ar 2 a2 (cq (Kdm _ _ a4) K4z (ar 2 a2 (ai (Qcz (d := 10) I ty0) (ar 2 a2 (ar 3 (neT a5) (ai a5 tv)))))))) ?_
   obtain rfl := os h
   exact Qcf.mk
  refine rg hc none [oN,some (.eqv (.no) ⟨[(4,I (ty0.length : Int))],[],[]⟩),oN,oN,o_,o_,o_,o_,o_,oF,oN,o_,o_,o_,oF,oN] [(2,.bool false)] [] (ai (Qcz (d := 4) I ty0) (ar 5 (neT a2) (ai a2 (ar 3 (neT (rfl : false = false)) (ai (rfl : false = false) tv))))) ?_
  obtain rfl := os h
  exact Qcf.mk
 clear a1
 refine rt ?_
 obtain rfl := os h
 exact rq [true]
def Kdq (c0 : Int) : Option (Int) :=
 if (decide (c0 ≥ 35)) = true then
 some (-1)
 else
 if (decide (c0 ≥ 19)) = true then
 some (wr (c0 - 19))
 else
 some (wr (c0 - 3))
def Kdr (c0 : Int) (r : Int) : Prop :=
 Q71 Tryz.prog 152 [I c0] (I r) []
theorem Kds : ∀ p r,Kdq p = some r → Kdr p r := by
 rintro c0 r h
 unfold Kdq at h
 refine b0 Tryz.f152 K52 13 [(0,I c0)] fun c hc => ?_
 refine rs0 hc 1 [(0,I c0)] [] ?_
 refine sN ?_
 refine bk 0 ?_
 refine rs0 hc 3 [(0,I c0),(3,.bool (decide (c0 ≥ 35)))] [] ?_
 refine ic h (fun a0 h => ?_) fun a0 h => ?_
 ·refine rs0 hc 1 [(2,I (-1))] [] ?_
  refine rt ?_
  obtain rfl := os h
  exact rq [true]
 refine rs0 hc 3 [(0,I c0),(6,.bool (decide (c0 ≥ 19)))] [] ?_
 refine ic h (fun a1 h => ?_) fun a1 h => ?_
 ·refine rs0 hc 3 [(2,I (wr (c0 - 19)))] [] ?_
  refine rt ?_
  obtain rfl := os h
  exact rq [true]
 refine sk ?_
 refine rs0 hc 3 [(2,I (wr (c0 - 3)))] [] ?_
 refine rt ?_
 obtain rfl := os h
 exact rq [true]
def Kdt (c : Ctx) (ty0 : List Int) (size1 : Int) (closed2 : Bool) (a0 : Int) : (Unit) ⊕ (Bool) → Exit → Q0a → Prop
 | .inl _ => Qcf c .normal (mkS [(0,sI ty0),(1,I size1),(2,.bool closed2),(7,I a0)] [])
 | .inr r => Qco TIx Tryz.f165 [] (.bool r)
def Kdu (c : Ctx) : (Unit) ⊕ (Bool) → Exit → Q0a → Prop
 | .inl _ => Qcf c (.exit 0) (mkS [] [])
 | .inr r => Qco TIx Tryz.f165 [] (.bool r)
def Kdv (p : (List Int) × Int × Bool × Int) : Option ((Unit) ⊕ (Bool)) :=
 match p with
 | (ty0,size1,closed2,a0) =>
  if (decide (a0 < (ty0.length : Int))) = true then
  ((
   (idx ty0 a0) >>= fun a1 =>
   (Kdd a1) >>= fun a2 =>
   if (decide (a2 > 0)) = true then
   (idx ty0 a0) >>= fun a3 =>
   some ((decide (a3 > 2)))
   else
   some (false)
  ) : Option (Bool)) >>= fun a4 =>
  ((
   if a4 = true then
   (idx ty0 a0) >>= fun a5 =>
   (Kdq a5) >>= fun a6 =>
   ((
   if (decide (a6 ≥ size1)) = true then
   some (true)
   else
   if closed2 = true then
   some ((decide (a6 < 0)))
   else
   some (false)
   ) : Option (Bool)) >>= fun a7 =>
   if a7 = true then
   some (.inr false)
   else
   some (.inl ())
   else
   some (.inl ())) : Option ((Unit) ⊕ (Bool))) >>= fun fl => match fl with
  | .inl () =>
   Kdv (ty0,size1,closed2,(wr (a0 + 1)))
  | .inr r =>
   some (.inr r)
  else
  some (.inl ())
 partial_fixpoint
def Kdw (p : (List Int) × Int × Bool × Int) (fl : (Unit) ⊕ (Bool)) : Prop :=
 match p with
 | (ty0,size1,closed2,a0) => ∀ c : Ctx,c.nt = 43 → WpL Tryz.prog c (cl (cl (cr (cl (cr K54))))) (Kdu c fl) (mkS [(0,sI ty0),(1,I size1),(2,.bool closed2),(7,I a0)] [])
theorem Kdx : ∀ p r,Kdv p = some r → Kdw p r := by
 refine Kdv.partial_correctness Kdw ?_
 rintro spec_l2Graded_l0_f spec_l2Graded_l0_ih ⟨ty0,size1,closed2,a0⟩ r h
 intro c hc
 refine WpL.step ?_
 refine sN ?_
 refine rs hc none [oN,oN,some (.eqv (.no) ⟨[(11,I (ty0.length : Int))],[],[]⟩),oN] [(0,sI ty0),(1,I size1),(2,.bool closed2),(7,I a0),(12,.bool (decide (a0 < (ty0.length : Int))))] [] (ai (Qcz (d := 11) I ty0) tv) ?_
 refine ic h (fun a1 h => ?_) fun a1 h => ?_
 ·refine sk ?_
  refine sN ?_
  refine bk 1 ?_
  refine sN ?_
  obtain ⟨a2,a3,h⟩ := Qct h
  refine Wp.into (x := .normal) (mkS [(0,sI ty0),(1,I size1),(2,.bool closed2),(7,I a0),(27,.bool a2)] []) ?_ ?_
  ·replace h := a3
   obtain ⟨a4,a5,a6,a7,h⟩ := bq2 h
   rcases is h with ⟨a8,h⟩ | ⟨a8,h⟩
   ·obtain ⟨a9,b1,h⟩ := Qct h
    refine rg hc none [oN,oN,some (.el (I a4)),oN,oc (I a6),oN,oN,oN,oN,some (.el (I a9)),oN,oN,oT] [(0,sI ty0),(1,I size1),(2,.bool closed2),(7,I a0),(27,.bool (decide (a9 > 2)))] [] (ai (ix a5) (cq (Kdf _ _ a7) K4x (ar 3 a8 (ai (ix b1) (ar 3 a8 tv))))) ?_
    obtain rfl := os h
    exact Qcf.mk
   refine rg hc none [oN,oN,some (.el (I a4)),oN,oc (I a6),oN,oN,o_,o_,o_,o_,o_,oF] [(0,sI ty0),(1,I size1),(2,.bool closed2),(7,I a0),(27,.bool false)] [] (ai (ix a5) (cq (Kdf _ _ a7) K4x (ar 5 (neT a8) (ai a8 tv)))) ?_
   obtain rfl := os h
   exact Qcf.mk
  clear a3
  obtain ⟨fl,b2,h⟩ := Qct h
  refine flw (Kdt c ty0 size1 closed2 a0 fl) ?_ (fun hF => ?_)
  ·replace h := b2
   refine ic h (fun b3 h => ?_) fun b3 h => ?_
   ·obtain ⟨b4,b5,b6,b7,h⟩ := bq2 h
    refine rs hc none [oN,oN,some (.el (I b4)),oN,oc (I b6),oN] [(0,sI ty0),(1,I size1),(2,.bool closed2),(7,I a0),(8,I b6)] [] (ai (ix b5) (cq (Kds _ _ b7) K53 tv)) ?_
    refine sN ?_
    obtain ⟨b8,b9,h⟩ := Qct h
    refine Wp.into (x := .normal) (mkS [(0,sI ty0),(1,I size1),(2,.bool closed2),(7,I a0),(42,.bool b8)] []) ?_ ?_
    ·replace h := b9
     rcases is h with ⟨c0,h⟩ | ⟨c0,h⟩
     ·refine rg hc none [oN,oN,oN,oN,o_,o_,o_,o_,o_,oT] [(0,sI ty0),(1,I size1),(2,.bool closed2),(7,I a0),(42,.bool true)] [] (ar 3 (neF c0) (ai c0 tv)) ?_
      obtain rfl := os h
      exact Qcf.mk
     rcases is h with ⟨c1,h⟩ | ⟨c1,h⟩
     ·refine rg hc none [oN,oN,oN,oN,oN,oN,oN,oN,oT,oF] [(0,sI ty0),(1,I size1),(2,.bool closed2),(7,I a0),(42,.bool (decide (b6 < 0)))] [] (ar 2 c0 (ar 2 c1 (ac c0 c1 c0 tv))) ?_
      obtain rfl := os h
      exact Qcf.mk
     refine rg hc none [oN,oN,oN,oN,oN,oN,o_,o_,oF,oF] [(0,sI ty0),(1,I size1),(2,.bool closed2),(7,I a0),(42,.bool false)] [] (ar 2 c0 (ar 2 (neT c1) (ac c0 c1 c0 tv))) ?_
     obtain rfl := os h
     exact Qcf.mk
    clear b9
    refine ic h (fun c2 h => ?_) fun c2 h => ?_
    ·refine rs0 hc 1 [(6,.bool false)] [] ?_
     refine rt ?_
     obtain rfl := os h
     exact re [true]
    refine sk ?_
    obtain rfl := os h
    exact iv []
   refine sk ?_
   obtain rfl := os h
   exact iv []
  rcases fl with ⟨⟩ | r
  ·refine Wp.into (x := .normal) (mkS [(0,sI ty0),(1,I size1),(2,.bool closed2),(7,I a0)] []) hF ?_
   refine rg0 hc 3 [(0,sI ty0),(1,I size1),(2,.bool closed2),(7,I (wr (a0 + 1)))] [] ?_
   refine Qcb ?_
   exact (spec_l2Graded_l0_ih _ _ h c hc)
  refine Wp.mono hF ?_
  rintro _ _ ⟨rfl,hfin⟩
  obtain rfl := os h
  exact ⟨rfl,hfin⟩
 refine xt 0 ?_
 refine Qc5 ?_
 refine Qcc ?_
 obtain rfl := os h
 exact iv []
def Kdy (p : (List Int) × Int × Bool) : Option (Bool) :=
 match p with
 | (ty0,size1,closed2) =>
  (Kdv (ty0,size1,closed2,0)) >>= fun fl => match fl with
  | .inl () =>
   some true
  | .inr r =>
   some r
def Kdz (p : (List Int) × Int × Bool) (r : Bool) : Prop :=
 match p with
 | (ty0,size1,closed2) => Q71 Tryz.prog 165 [sI ty0,I size1,.bool closed2] (.bool r) []
theorem Ke0 : ∀ p r,Kdy p = some r → Kdz p r := by
 rintro ⟨ty0,size1,closed2⟩ r h
 unfold Kdy at h
 refine b0 Tryz.f165 K54 43 [(0,sI ty0),(1,I size1),(2,.bool closed2)] fun c hc => ?_
 refine rs0 hc 1 [(0,sI ty0),(1,I size1),(2,.bool closed2)] [] ?_
 refine sN ?_
 refine rs0 hc 1 [(0,sI ty0),(1,I size1),(2,.bool closed2),(7,I 0)] [] ?_
 refine bk 0 ?_
 obtain ⟨fl,a0,h⟩ := Qct h
 have hL := Kdx _ _ a0 c hc
 refine lp ?_
 rcases fl with ⟨⟩ | r
 ·refine WpL.into (e := (.exit 0)) (mkS [] []) hL ?_
  refine Qc7 ?_
  refine rs0 hc 1 [(6,.bool true)] [] ?_
  refine rt ?_
  obtain rfl := os h
  exact rq [true]
 refine WpL.mono hL ?_
 rintro _ _ ⟨rfl,hfin⟩
 obtain rfl := os h
 exact ⟨.inl rfl,hfin⟩
def Ke1 (p : K00 × (List Int)) : Option (Bool) :=
 match p with
 | (s0,ty1) =>
  ((
  (Kd4 s0) >>= fun a0 =>
  if a0 = true then
  (Kdn ty1) >>= fun a1 =>
  if a1 = true then
  (Kdy (ty1,s0.fSize,true)) >>= fun a2 =>
  some (a2)
  else
  some (false)
  else
  some (false)
  ) : Option (Bool)) >>= fun a3 =>
  some a3
def Ke2 (p : K00 × (List Int)) (r : Bool) : Prop :=
 match p with
 | (s0,ty1) => Q71 Tryz.prog 163 [K2e s0,sI ty1] (.bool r) []
theorem Ke3 : ∀ p r,Ke1 p = some r → Ke2 p r := by
 rintro ⟨s0,ty1⟩ r h
 unfold Ke1 at h
 refine b0 Tryz.f163 K56 17 [(0,K2e s0),(1,sI ty1)] fun c hc => ?_
 refine rs hc none [some (.new 1),oN] [(1,sI ty1),(2,.ra 1 0)] [(1,K2d s0)] tv ?_
 refine sN ?_
 obtain ⟨a0,a1,h⟩ := Qct h
 refine Wp.into (x := .normal) (mkS [(4,.bool a0)] []) ?_ ?_
 ·replace h := a1
  obtain ⟨a2,a3,h⟩ := Qct h
  rcases is h with ⟨a4,h⟩ | ⟨a4,h⟩
  ·obtain ⟨a5,a6,h⟩ := Qct h
   rcases is h with ⟨a7,h⟩ | ⟨a7,h⟩
   ·obtain ⟨a8,a9,h⟩ := Qct h
    refine rg hc none [oN,oc (.bool a2),oN,oN,oc (.bool a5),oT,oN,oN,oN,oN,oc (.bool a8),oT,oN] [(4,.bool a8)] [] (cq (Kd6 _ _ a3) K4r (ar 2 a4 (cq (Kdp _ _ a6) K51 (ai a4 (ar 4 a7 (cq (Ke0 _ _ a9) K55 (ai a7 tv))))))) ?_
    obtain rfl := os h
    exact Qcf.mk
   refine rg hc none [oN,oc (.bool a2),oN,oN,oc (.bool a5),oT,oN,o_,o_,o_,o_,oF,oN] [(4,.bool false)] [] (cq (Kd6 _ _ a3) K4r (ar 2 a4 (cq (Kdp _ _ a6) K51 (ai a4 (ar 4 (neT a7) (ai a7 tv)))))) ?_
   obtain rfl := os h
   exact Qcf.mk
  refine rg hc none [oN,oc (.bool a2),oN,o_,o_,oF,oN,o_,o_,o_,o_,oF,oN] [(4,.bool false)] [] (cq (Kd6 _ _ a3) K4r (ar 2 (neT a4) (ai a4 (ar 4 (neT (rfl : false = false)) (ai (rfl : false = false) tv))))) ?_
  obtain rfl := os h
  exact Qcf.mk
 clear a1
 refine rt ?_
 obtain rfl := os h
 exact rq [true]
def Ke4 (c : Ctx) : Int → Exit → Q0a → Prop
 | a0 => Qcf c (.exit 0) (mkS [(1,I a0)] [])
end Go.Am
