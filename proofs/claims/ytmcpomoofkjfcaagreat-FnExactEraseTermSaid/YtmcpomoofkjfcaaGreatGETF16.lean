/- Functions of the program as pure functions,and that it computes them. Printed by a program of mine (gen.py). -/
import Derived.Test.YtmcpomoofkjfcaaGreatGETF13
set_option linter.unusedVariables false
set_option linter.unusedSimpArgs false
set_option maxRecDepth 100000
namespace Go.Am
open Go Go.Proofs
def Ko8 : Option (List (List Nat)) := rx [[0],[1],[2],[3],[0],[0,4],[0,4,5],[7],[8],[9],[10]]
def Ko9 (c : Ctx) : (Unit) ⊕ (Bool) → Exit → Q0a → Prop
 | .inl _ => Qcf c (.exit 0) (mkS [] [])
 | .inr r => Qco TIx Tryz.f159 [] (.bool r)
def Koa (p : K00 × (List Bool) × Int) : Option ((Unit) ⊕ (Bool)) :=
 match p with
 | (s0,in1,a0) =>
  if (decide (a0 < s0.fSize)) = true then
  (Ko5 (s0,in1,a0,0)) >>= fun fl => match fl with
  | .inl () =>
   Koa (s0,in1,(wr (a0 + 1)))
  | .inr r =>
   some (.inr r)
  else
  some (.inl ())
 partial_fixpoint
def Kob (p : K00 × (List Bool) × Int) (fl : (Unit) ⊕ (Bool)) : Prop :=
 match p with
 | (s0,in1,a0) => ∀ c : Ctx,c.nt = 85 → WpL Tryz.prog c (cl (cl (cr (cl (cr (cr K80)))))) (Ko9 c fl) (mkS [(1,sB in1),(2,.ra 1 0),(5,I a0)] [(1,K1s s0)])
theorem Koc : ∀ p r,Koa p = some r → Kob p r := by
 refine Koa.partial_correctness Kob ?_
 rintro impl_isView_l1_f impl_isView_l1_ih ⟨s0,in1,a0⟩ r h
 intro c hc
 refine WpL.step ?_
 refine sN ?_
 refine K8s hc 4 [(1,sB in1),(2,.ra 1 0),(5,I a0),(19,.bool (decide (a0 < s0.fSize)))] ?_
 refine ic h (fun a1 h => ?_) fun a1 h => ?_
 ·refine sk ?_
  refine sN ?_
  refine bk 1 ?_
  refine K8s hc 1 [(1,sB in1),(2,.ra 1 0),(5,I a0),(6,I 0)] ?_
  refine bk 2 ?_
  obtain ⟨fl,a2,h⟩ := Qct h
  have hL := Ko7 _ _ a2 c hc
  refine lp ?_
  rcases fl with ⟨⟩ | r
  ·refine WpL.into (e := (.exit 2)) (mkS [(1,sB in1),(2,.ra 1 0),(5,I a0)] [(1,K1s s0)]) hL ?_
   refine Qc7 ?_
   refine K8r hc 3 [(1,sB in1),(2,.ra 1 0),(5,I (wr (a0 + 1)))] ?_
   refine Qcb ?_
   exact (impl_isView_l1_ih _ _ h c hc)
  refine WpL.mono hL ?_
  rintro _ _ ⟨rfl,hfin⟩
  obtain rfl := os h
  exact ⟨rfl,hfin⟩
 refine xt 0 ?_
 refine Qc5 ?_
 refine Qcc ?_
 obtain rfl := os h
 exact iv []
def Kod (p : K00 × (List Bool)) : Option (Bool) :=
 match p with
 | (s0,in1) =>
  ((
  (idx in1 1) >>= fun a0 =>
  if a0 = true then
   (idx in1 0) >>= fun a1 =>
   some (a1)
  else
   some (true)
  ) : Option (Bool)) >>= fun a2 =>
  if a2 = true then
  some false
  else
  (Koa (s0,in1,0)) >>= fun fl => match fl with
  | .inl () =>
   some true
  | .inr r =>
   some r
def Koe (p : K00 × (List Bool)) (r : Bool) : Prop :=
 match p with
 | (s0,in1) => Q71 Tryz.prog 159 [K1t s0,sB in1] (.bool r) []
theorem Kof : ∀ p r,Kod p = some r → Koe p r := by
 rintro ⟨s0,in1⟩ r h
 unfold Kod at h
 refine b0 Tryz.f159 K80 85 [(0,K1t s0),(1,sB in1)] fun c hc => ?_
 refine rs hc none [some (.new 1),oN] [(1,sB in1),(2,.ra 1 0)] [(1,K1s s0)] tv ?_
 refine sN ?_
 refine sN ?_
 obtain ⟨a0,a1,h⟩ := Qct h
 refine Wp.into (x := .normal) (mkS [(1,sB in1),(2,.ra 1 0),(15,.bool a0)] [(1,K1s s0)]) ?_ ?_
 ·replace h := a1
  obtain ⟨a2,a3,h⟩ := Qct h
  rcases is h with ⟨a4,h⟩ | ⟨a4,h⟩
  ·obtain ⟨a5,a6,h⟩ := Qct h
   refine rgs hc none [oN,some (.el (.bool a2)),oN,oN,oN,oN,some (.el (.bool a5)),oN,oF] [(1,sB in1),(2,.ra 1 0),(15,.bool a5)] (ai (Qcx (enc := AV.bool) (x := .bool a2) a3 (Qda a2)) (ar 2 (nF a4) (ai (Qcx (enc := AV.bool) (x := .bool a5) a6 (Qda a5)) (ar 2 (nF a4) tv)))) ?_
   obtain rfl := os h
   exact Qcf.mk
  refine rgs hc none [oN,some (.el (.bool a2)),oN,oN,oN,o_,o_,o_,oT] [(1,sB in1),(2,.ra 1 0),(15,.bool true)] (ai (Qcx (enc := AV.bool) (x := .bool a2) a3 (Qda a2)) (ar 3 (neF (nT a4)) (ai (nT a4) tv))) ?_
  obtain rfl := os h
  exact Qcf.mk
 clear a1
 refine ic h (fun a7 h => ?_) fun a7 h => ?_
 ·refine rs0 hc 1 [(4,.bool false)] [] ?_
  refine rt ?_
  obtain rfl := os h
  exact rq [true]
 refine sk ?_
 refine sN ?_
 refine K8s hc 1 [(1,sB in1),(2,.ra 1 0),(5,I 0)] ?_
 refine bk 0 ?_
 obtain ⟨fl,a8,h⟩ := Qct h
 have hL := Koc _ _ a8 c hc
 refine lp ?_
 rcases fl with ⟨⟩ | r
 ·refine WpL.into (e := (.exit 0)) (mkS [] []) hL ?_
  refine Qc7 ?_
  refine rs0 hc 1 [(4,.bool true)] [] ?_
  refine rt ?_
  obtain rfl := os h
  exact rq [true]
 refine WpL.mono hL ?_
 rintro _ _ ⟨rfl,hfin⟩
 obtain rfl := os h
 exact ⟨.inl rfl,hfin⟩
def Kog (c : Ctx) (s0 : K00) : ((List Bool)) ⊕ (Bool) → Exit → Q0a → Prop
 | .inl a0 => Qcf c (.exit 0) (mkS [(2,.ra 1 0),(5,.rs 2)] [(1,K1s s0),(2,.arr (List.map AV.bool a0))])
 | .inr r => Qco TIx Tryz.f91 [] (.bool r)
def Koh (p : K00 × (List Int) × (List Bool) × Int) : Option (((List Bool)) ⊕ (Bool)) :=
 match p with
 | (s0,v1,a0,a1) =>
  if (decide (a1 < (v1.length : Int))) = true then
  (idx v1 a1) >>= fun a2 =>
  ((
  (Khj (s0,a2)) >>= fun a3 =>
  if a3 = true then
  if (decide (a1 > 0)) = true then
  (idx v1 (wr (a1 - 1))) >>= fun a4 =>
  some ((decide (a2 ≤ a4)))
  else
  some (false)
  else
  some (true)
  ) : Option (Bool)) >>= fun a5 =>
  if a5 = true then
  some (.inr false)
  else
  (idx a0 a2) >>= fun a6 =>
  Koh (s0,v1,(List.set a0 (Int.toNat a2) true),(wr (a1 + 1)))
  else
  some (.inl a0)
 partial_fixpoint
def Koi (p : K00 × (List Int) × (List Bool) × Int) (fl : ((List Bool)) ⊕ (Bool)) : Prop :=
 match p with
 | (s0,v1,a0,a1) => ∀ c : Ctx,c.nt = 45 → WpL Tryz.prog c (cl (cl (cr (cl (cr (cr (cr B91))))))) (Kog c s0 fl) (mkS [(1,sI v1),(2,.ra 1 0),(5,.rs 2),(14,sI v1),(15,I (v1.length : Int)),(16,I a1)] [(1,K1s s0),(2,.arr (List.map AV.bool a0))])
theorem Koj : ∀ p r,Koh p = some r → Koi p r := by
 refine Koh.partial_correctness Koi ?_
 rintro impl_IsView_l0_f impl_IsView_l0_ih ⟨s0,v1,a0,a1⟩ r h
 intro c hc
 refine WpL.step ?_
 refine K8s hc 1 [(1,sI v1),(2,.ra 1 0),(5,.rs 2),(14,sI v1),(15,I (v1.length : Int)),(16,I a1),(17,.bool (decide (a1 < (v1.length : Int))))] ?_
 refine sN ?_
 refine ic h (fun a2 h => ?_) fun a2 h => ?_
 ·refine sk ?_
  refine sN ?_
  refine bk 1 ?_
  obtain ⟨a3,a4,h⟩ := Qct h
  refine rss hc none [oN,some (.el (I a3)),oN,oN,oN] [(1,sI v1),(2,.ra 1 0),(5,.rs 2),(6,I a1),(7,I a3),(14,sI v1),(15,I (v1.length : Int)),(16,I a1)] (ai (ix a4) tv) ?_
  refine sN ?_
  refine sN ?_
  obtain ⟨a5,a6,h⟩ := Qct h
  refine Wp.into (x := .normal) (mkS [(1,sI v1),(2,.ra 1 0),(5,.rs 2),(7,I a3),(14,sI v1),(15,I (v1.length : Int)),(16,I a1),(37,.bool a5)] [(1,K1s s0),(2,.arr (List.map AV.bool a0))]) ?_ ?_
  ·replace h := a6
   obtain ⟨a7,a8,h⟩ := Qct h
   rcases is h with ⟨a9,h⟩ | ⟨a9,h⟩
   ·rcases is h with ⟨b1,h⟩ | ⟨b1,h⟩
    ·obtain ⟨b2,b3,h⟩ := Qct h
     refine rgs hc none [oN,oN,oc (.bool a7),oN,oN,oN,oN,oN,oN,oN,oN,oN,some (.el (I b2)),oN,oN,oT,oF] [(1,sI v1),(2,.ra 1 0),(5,.rs 2),(7,I a3),(14,sI v1),(15,I (v1.length : Int)),(16,I a1),(37,.bool (decide (a3 ≤ b2)))] (cq (Khl _ _ a8) K5t (ar 3 (nF a9) (ar 5 b1 (ai (ix b3) (ar 2 b1 (ac (nF a9) b1 (nF a9) tv)))))) ?_
     obtain rfl := os h
     exact Qcf.mk
    refine rgs hc none [oN,oN,oc (.bool a7),oN,oN,oN,oN,oN,o_,o_,o_,o_,o_,o_,o_,oF,oF] [(1,sI v1),(2,.ra 1 0),(5,.rs 2),(7,I a3),(14,sI v1),(15,I (v1.length : Int)),(16,I a1),(37,.bool false)] (cq (Khl _ _ a8) K5t (ar 3 (nF a9) (ar 7 (neT b1) (ac (nF a9) b1 (nF a9) tv)))) ?_
    obtain rfl := os h
    exact Qcf.mk
   refine rgs hc none [oN,oN,oc (.bool a7),oN,oN,o_,o_,o_,o_,o_,o_,o_,o_,o_,o_,o_,oT] [(1,sI v1),(2,.ra 1 0),(5,.rs 2),(7,I a3),(14,sI v1),(15,I (v1.length : Int)),(16,I a1),(37,.bool true)] (cq (Khl _ _ a8) K5t (ar 4 (neF (nT a9)) (ai (nT a9) tv))) ?_
   obtain rfl := os h
   exact Qcf.mk
  clear a6
  refine ic h (fun b4 h => ?_) fun b4 h => ?_
  ·refine rs0 hc 1 [(4,.bool false)] [] ?_
   refine rt ?_
   obtain rfl := os h
   exact re [true]
  refine sk ?_
  obtain ⟨b5,b6,h⟩ := Qct h
  refine rg hc none [oN,oN,oN,some (.eqv (.mk 0 true) ⟨[],[(2,some (.arr (List.map AV.bool (List.set a0 (Int.toNat a3) true))))],[]⟩)] [(1,sI v1),(2,.ra 1 0),(5,.rs 2),(14,sI v1),(15,I (v1.length : Int)),(16,I a1)] [(1,K1s s0),(2,.arr (List.map AV.bool (List.set a0 (Int.toNat a3) true)))] (ac (Qcy (enc := AV.bool) b6) (congrArg (fun z => (⟨[],[(2,some (.arr z))],[]⟩ : Wr)) (Qdw (enc := AV.bool) (i := Int.toNat a3) (l := a0) (v := true) (x := AV.bool true) (Qda true))) (Qdx (enc := AV.bool) (sz := 1) Qde b6) tv) ?_
  refine K8r hc 2 [(1,sI v1),(2,.ra 1 0),(5,.rs 2),(14,sI v1),(15,I (v1.length : Int)),(16,I (wr (a1 + 1)))] ?_
  refine Qcb ?_
  exact (impl_IsView_l0_ih _ _ h c hc)
 refine xt 0 ?_
 refine Qc5 ?_
 refine Qcc ?_
 obtain rfl := os h
 exact iv []
def Kok (p : K00 × (List Int)) : Option (Bool) :=
 match p with
 | (s0,v1) =>
  (Kiv s0) >>= fun a0 =>
  if a0 = true then
  (chk (0 ≤ s0.fSize ∧ (Int.toNat s0.fSize) * 1 ≤ 140737488355328)) >>= fun _ =>
  (Koh (s0,v1,(List.replicate (Int.toNat s0.fSize) false),0)) >>= fun fl => match fl with
  | .inl a1 =>
   (Kod (s0,a1)) >>= fun a2 =>
   some a2
  | .inr r =>
   some r
  else
  some false
def Kol (p : K00 × (List Int)) (r : Bool) : Prop :=
 match p with
 | (s0,v1) => Q71 Tryz.prog 91 [K1t s0,sI v1] (.bool r) []
theorem Kom : ∀ p r,Kok p = some r → Kol p r := by
 rintro ⟨s0,v1⟩ r h
 unfold Kok at h
 refine b0 Tryz.f91 B91 45 [(0,K1t s0),(1,sI v1)] fun c hc => ?_
 refine rs hc none [some (.new 1),oN] [(1,sI v1),(2,.ra 1 0)] [(1,K1s s0)] tv ?_
 refine sN ?_
 obtain ⟨a0,a1,h⟩ := Qct h
 refine rss hc none [oN,oc (.bool a0),oN] [(1,sI v1),(2,.ra 1 0),(10,.bool (!a0))] (cq (Kix _ _ a1) K64 tv) ?_
 rcases is h with ⟨a2,h⟩ | ⟨a2,h⟩
 ·refine cF (!a0) (nF a2) ?_
  refine sk ?_
  obtain ⟨_,a3,h⟩ := Qct h
  refine rs hc none [oN,oN,some (.eqv (.mk 2 true) ⟨[(13,.rs 2)],[(2,some (.arr (List.map AV.bool (List.replicate (Int.toNat s0.fSize) false))))],[2]⟩),oN] [(1,sI v1),(2,.ra 1 0),(5,.rs 2)] [(1,K1s s0),(2,.arr (List.map AV.bool (List.replicate (Int.toNat s0.fSize) false)))] (ab (congrArg (fun z => (⟨[(13,.rs 2)],[(2,some (.arr z))],[2]⟩ : Wr)) (Qdy (enc := AV.bool) (n := Int.toNat s0.fSize) (x := AV.bool false) (Qda false))) (And.intro (Eq.refl s0.fSize) (Qcv a3)) tv) ?_
  refine sN ?_
  refine rss hc none [oN,some (.eqv (.no) ⟨[(15,I (v1.length : Int))],[],[]⟩),oN] [(1,sI v1),(2,.ra 1 0),(5,.rs 2),(14,sI v1),(15,I (v1.length : Int)),(16,I 0)] (ai (Qcz (d := 15) I v1) tv) ?_
  refine bk 0 ?_
  obtain ⟨fl,a4,h⟩ := Qct h
  have hL := Koj _ _ a4 c hc
  refine lp ?_
  rcases fl with a5 | r
  ·refine WpL.into (e := (.exit 0)) (mkS [(2,.ra 1 0),(5,.rs 2)] [(1,K1s s0),(2,.arr (List.map AV.bool a5))]) hL ?_
   refine Qc7 ?_
   obtain ⟨a6,a7,h⟩ := Qct h
   refine rs hc none [oN,oN,oc (.bool a6),oN] [(4,.bool a6)] [] (ac (Q71.args (A1 := [K1t s0,.sl (Q02 (List.map AV.bool a5))]) (A2 := [K1t s0,sB a5]) (by simp only [List.map_nil,Qdn]) (Kof _ _ a7)) K81 (Or.inr rfl : ([2] : List Nat) = [] ∨ noSh (.bool a6) = true) tv) ?_
   refine rt ?_
   obtain rfl := os h
   exact rq [true]
  refine WpL.mono hL ?_
  rintro _ _ ⟨rfl,hfin⟩
  obtain rfl := os h
  exact ⟨.inl rfl,hfin⟩
 refine cT (!a0) (nT a2) ?_
 refine rs0 hc 1 [(4,.bool false)] [] ?_
 refine rt ?_
 obtain rfl := os h
 exact rq [true]
def Kon (c : Ctx) : (Unit) ⊕ (Int) → Exit → Q0a → Prop
 | .inl _ => Qcf c (.exit 0) (mkS [] [])
 | .inr r => Qco TIx Tryz.f160 [] (I r)
def Koo (p : (List Int) × Int × Int) : Option ((Unit) ⊕ (Int)) :=
 match p with
 | (s0,v1,a0) =>
  if (decide (a0 < (s0.length : Int))) = true then
  (idx s0 a0) >>= fun a1 =>
  if (v1 == a1) = true then
  some (.inr a0)
  else
  Koo (s0,v1,(wr (a0 + 1)))
  else
  some (.inl ())
 partial_fixpoint
def Kop (p : (List Int) × Int × Int) (fl : (Unit) ⊕ (Int)) : Prop :=
 match p with
 | (s0,v1,a0) => ∀ c : Ctx,c.nt = 19 → WpL Tryz.prog c (cl (cl (cr (cl (cr K83))))) (Kon c fl) (mkS [(0,sI s0),(1,I v1),(7,I (s0.length : Int)),(8,I a0)] [])
theorem Koq : ∀ p r,Koo p = some r → Kop p r := by
 refine Koo.partial_correctness Kop ?_
 rintro slices_Index_int_l0_f slices_Index_int_l0_ih ⟨s0,v1,a0⟩ r h
 intro c hc
 refine WpL.step ?_
 refine rs0 hc 1 [(0,sI s0),(1,I v1),(7,I (s0.length : Int)),(8,I a0),(9,.bool (decide (a0 < (s0.length : Int))))] [] ?_
 refine sN ?_
 refine ic h (fun a1 h => ?_) fun a1 h => ?_
 ·refine sk ?_
  refine sN ?_
  refine bk 1 ?_
  refine rs0 hc 2 [(0,sI s0),(1,I v1),(5,I a0),(7,I (s0.length : Int)),(8,I a0)] [] ?_
  obtain ⟨a2,a3,h⟩ := Qct h
  refine rs hc none [oN,oN,oN,some (.el (I a2)),oN,oN] [(0,sI s0),(1,I v1),(5,I a0),(7,I (s0.length : Int)),(8,I a0),(16,.bool (v1 == a2))] [] (ai (ix a3) tv) ?_
  refine ic h (fun a4 h => ?_) fun a4 h => ?_
  ·refine rs0 hc 2 [(4,I a0)] [] ?_
   refine rt ?_
   obtain rfl := os h
   exact re [true]
  refine sk ?_
  refine rg0 hc 2 [(0,sI s0),(1,I v1),(7,I (s0.length : Int)),(8,I (wr (a0 + 1)))] [] ?_
  refine Qcb ?_
  exact (slices_Index_int_l0_ih _ _ h c hc)
 refine xt 0 ?_
 refine Qc5 ?_
 refine Qcc ?_
 obtain rfl := os h
 exact iv []
def Kor (p : (List Int) × Int) : Option (Int) :=
 match p with
 | (s0,v1) =>
  (Koo (s0,v1,0)) >>= fun fl => match fl with
  | .inl () =>
   some (-1)
  | .inr r =>
   some r
def Kos (p : (List Int) × Int) (r : Int) : Prop :=
 match p with
 | (s0,v1) => Q71 Tryz.prog 160 [sI s0,I v1] (I r) []
theorem Kot : ∀ p r,Kor p = some r → Kos p r := by
 rintro ⟨s0,v1⟩ r h
 unfold Kor at h
 refine b0 Tryz.f160 K83 19 [(0,sI s0),(1,I v1)] fun c hc => ?_
 refine rs0 hc 1 [(0,sI s0),(1,I v1)] [] ?_
 refine sN ?_
 refine rs hc none [oN,some (.eqv (.no) ⟨[(7,I (s0.length : Int))],[],[]⟩),oN] [(0,sI s0),(1,I v1),(7,I (s0.length : Int)),(8,I 0)] [] (ai (Qcz (d := 7) I s0) tv) ?_
 refine bk 0 ?_
 obtain ⟨fl,a0,h⟩ := Qct h
 have hL := Koq _ _ a0 c hc
 refine lp ?_
 rcases fl with ⟨⟩ | r
 ·refine WpL.into (e := (.exit 0)) (mkS [] []) hL ?_
  refine Qc7 ?_
  refine rs0 hc 1 [(4,I (-1))] [] ?_
  refine rt ?_
  obtain rfl := os h
  exact rq [true]
 refine WpL.mono hL ?_
 rintro _ _ ⟨rfl,hfin⟩
 obtain rfl := os h
 exact ⟨.inl rfl,hfin⟩
def Kou (p : (List Int) × Int) : Option (Bool) :=
 match p with
 | (s0,v1) =>
  (Kor (s0,v1)) >>= fun a0 =>
  some (decide (a0 ≥ 0))
def Kov (p : (List Int) × Int) (r : Bool) : Prop :=
 match p with
 | (s0,v1) => Q71 Tryz.prog 92 [sI s0,I v1] (.bool r) []
theorem Kow : ∀ p r,Kou p = some r → Kov p r := by
 rintro ⟨s0,v1⟩ r h
 unfold Kou at h
 refine b0 Tryz.f92 B92 9 [(0,sI s0),(1,I v1)] fun c hc => ?_
 refine rs0 hc 1 [(0,sI s0),(1,I v1)] [] ?_
 obtain ⟨a0,a1,h⟩ := Qct h
 refine rs hc none [oN,oN,oc (I a0),oN,oN] [(4,.bool (decide (a0 ≥ 0)))] [] (cq (Kot _ _ a1) K84 tv) ?_
 refine rt ?_
 obtain rfl := os h
 exact rq [true]
def Kox (ty0 : (List Int)) : Option (K01) :=
 (idx ty0 0) >>= fun a0 =>
 (Kiy a0) >>= fun (a1,a2) =>
 (Kki ty0) >>= fun a3 =>
 if (a1 == 1) = true then
 (idx a3 0) >>= fun a4 =>
 (Kox a4) >>= fun a5 =>
 (idx a3 1) >>= fun a6 =>
 (Kox a6) >>= fun a7 =>
 some (K01.mk 4 0 [] [a5,a7])
 else
 if (a1 == 2) = true then
 (idx a3 1) >>= fun a8 =>
 (Kld a8) >>= fun a9 =>
 (idx a3 0) >>= fun b1 =>
 (Kox b1) >>= fun b2 =>
 some (K01.mk 6 0 a9 [b2])
 else
 if (a1 == 3) = true then
 (idx a3 0) >>= fun b3 =>
 (Kld b3) >>= fun b4 =>
 (idx a3 1) >>= fun b5 =>
 (Kox b5) >>= fun b6 =>
 some (K01.mk 9 a2 b4 [b6])
 else
 if (a1 == 4) = true then
 (idx a3 0) >>= fun b7 =>
 (Kox b7) >>= fun b8 =>
 some (K01.mk 11 a2 [] [b8])
 else
 some (K01.mk 1 0 [] [])
 partial_fixpoint
def Koy (ty0 : (List Int)) (r : K01) : Prop :=
 Q71 Tryz.prog 183 [sI ty0] (K24 r) []
theorem Koz : ∀ p r,Kox p = some r → Koy p r := by
 refine Kox.partial_correctness Koy ?_
 rintro impl_defaultOf_f impl_defaultOf_ih ty0 r h
 refine b0 Tryz.f183 K86 63 [(0,sI ty0)] fun c hc => ?_
 refine rs hc none [some (.new 1)] [(0,sI ty0),(2,.ra 1 0)] [(1,.box [I 0,I 0,.nils,.nils])] tv ?_
 obtain ⟨a0,a1,⟨a2,a3⟩,a4,h⟩ := bq2 h
 refine rss hc none [oN,some (.el (I a0)),oN,oc (.tup [I a2,I a3]),oN,oN,oN,oN,oN] [(0,sI ty0),(2,.ra 1 0),(3,I a2),(4,I a3)] (ai (ix a1) (cq (Kj0 _ _ a4) K66 tv)) ?_
 obtain ⟨a5,a6,h⟩ := Qct h
 refine rs hc none [oN,some (.call (.osl (List.map K10 a5)) [] 2),oN] [(2,.ra 1 0),(3,I a2),(4,I a3),(5,.rs 2)] [(1,.box [I 0,I 0,.nils,.nils]),(2,.arr (List.map K10 a5))] (cq (Kkk _ _ a6) K6w tv) ?_
 refine sN ?_
 refine K8s hc 1 [(2,.ra 1 0),(4,I a3),(5,.rs 2),(15,I a2)] ?_
 refine bk 0 ?_
 refine K8s hc 2 [(2,.ra 1 0),(4,I a3),(5,.rs 2),(15,I a2),(16,.bool (a2 == 1))] ?_
 refine ic h (fun a7 h => ?_) fun a7 h => ?_
 ·obtain ⟨a8,a9,b1,b2,b3,b4,b5,b6,h⟩ := bq4 h
  refine rs hc Ko8 [oN,oN,some (.el (sI a8)),some (.call (K24 b1) [] 3),oN,oN,some (.el (sI b3)),some (.call (K24 b5) [] 5),some (.eqv (.mk 7 true) ⟨[(26,.rs 7)],[(7,some (.arr (List.map K0j [b1,b5]))),(3,none),(4,none),(5,none),(6,none)],[7]⟩),oN,oN] [(2,.ra 1 0)] [(1,.box [I 4,I 0,.nils,.rs 7]),(7,.arr (List.map K0j [b1,b5]))] (ab (Qcy (enc := K10) a9) (xL a9).2 (cq (impl_defaultOf_ih _ _ b2) K87 (ab (Qcy (enc := K10) b4) (xL b4).2 (cq (impl_defaultOf_ih _ _ b6) K87 (ai (congrArg (fun z => (⟨[(26,.rs 7)],[(7,some (.arr z)),(3,none),(4,none),(5,none),(6,none)],[7]⟩ : Wr)) ((Qe0 (K0p b1) (Qe0 (K0p b5) Qdz)) : [AV.agg [I b1.fOp,I b1.fN,oI b1.fType,AV.osl (List.map K0j b1.fKids)],AV.agg [I b5.fOp,I b5.fN,oI b5.fType,AV.osl (List.map K0j b5.fKids)]] = List.map K0j [b1,b5])) tv))))) ?_
  refine rt ?_
  obtain rfl := os h
  exact rq [true]
 refine K8s hc 2 [(2,.ra 1 0),(4,I a3),(5,.rs 2),(15,I a2),(28,.bool (a2 == 2))] ?_
 refine ic h (fun b7 h => ?_) fun b7 h => ?_
 ·obtain ⟨b8,b9,c0,c1,c2,c3,c4,c5,h⟩ := bq4 h
  refine rs hc Ko8 [oN,oN,some (.el (sI b8)),some (.call (oI c0) [] 8),oN,oN,some (.el (sI c2)),some (.call (K24 c4) [] 9),some (.eqv (.mk 11 true) ⟨[(38,.rs 11)],[(11,some (.arr (List.map K0j [c4]))),(9,none),(10,none)],[11]⟩),oN,oN] [(2,.ra 1 0)] [(1,.box [I 6,I 0,.rs 8,.rs 11]),(8,rI c0),(11,.arr (List.map K0j [c4]))] (ab (Qcy (enc := K10) b9) (xL b9).2 (cq (Klf _ _ c1) K78 (ab (Qcy (enc := K10) c3) (xL c3).2 (cq (impl_defaultOf_ih _ _ c5) K87 (ai (congrArg (fun z => (⟨[(38,.rs 11)],[(11,some (.arr z)),(9,none),(10,none)],[11]⟩ : Wr)) ((Qe0 (K0p c4) Qdz) : [AV.agg [I c4.fOp,I c4.fN,oI c4.fType,AV.osl (List.map K0j c4.fKids)]] = List.map K0j [c4])) tv))))) ?_
  refine rt ?_
  obtain rfl := os h
  exact rq [true]
 refine K8s hc 2 [(2,.ra 1 0),(4,I a3),(5,.rs 2),(15,I a2),(40,.bool (a2 == 3))] ?_
 refine ic h (fun c6 h => ?_) fun c6 h => ?_
 ·obtain ⟨c7,c8,c9,d0,d1,d2,d3,d4,h⟩ := bq4 h
  refine rs hc (rx [[0],[0],[0,1],[0,1,2],[0,1,2,3],[0],[0,5],[0,5,6],[0,1,2,3,4,5,6,7],[0,1,2,3,4,5,6,7,8],[10],[11]]) [oN,oN,oN,some (.el (sI c7)),some (.call (oI c9) [] 12),oN,oN,some (.el (sI d1)),some (.call (K24 d3) [] 13),some (.eqv (.mk 15 true) ⟨[(51,.rs 15)],[(15,some (.arr (List.map K0j [d3]))),(13,none),(14,none)],[15]⟩),oN,oN] [(2,.ra 1 0)] [(1,.box [I 9,I a3,.rs 12,.rs 15]),(12,rI c9),(15,.arr (List.map K0j [d3]))] (ab (Qcy (enc := K10) c8) (xL c8).2 (cq (Klf _ _ d0) K78 (ab (Qcy (enc := K10) d2) (xL d2).2 (cq (impl_defaultOf_ih _ _ d4) K87 (ai (congrArg (fun z => (⟨[(51,.rs 15)],[(15,some (.arr z)),(13,none),(14,none)],[15]⟩ : Wr)) ((Qe0 (K0p d3) Qdz) : [AV.agg [I d3.fOp,I d3.fN,oI d3.fType,AV.osl (List.map K0j d3.fKids)]] = List.map K0j [d3])) tv))))) ?_
  refine rt ?_
  obtain rfl := os h
  exact rq [true]
 refine K8s hc 2 [(2,.ra 1 0),(4,I a3),(5,.rs 2),(53,.bool (a2 == 4))] ?_
 refine ic h (fun d5 h => ?_) fun d5 h => ?_
 ·obtain ⟨d6,d7,d8,d9,h⟩ := bq2 h
  refine rs hc none [oN,oN,oN,some (.el (sI d6)),some (.call (K24 d8) [] 16),some (.eqv (.mk 18 true) ⟨[(60,.rs 18)],[(18,some (.arr (List.map K0j [d8]))),(16,none),(17,none)],[18]⟩),oN,oN] [(2,.ra 1 0)] [(1,.box [I 11,I a3,.nils,.rs 18]),(18,.arr (List.map K0j [d8]))] (ab (Qcy (enc := K10) d7) (xL d7).2 (cq (impl_defaultOf_ih _ _ d9) K87 (ai (congrArg (fun z => (⟨[(60,.rs 18)],[(18,some (.arr z)),(16,none),(17,none)],[18]⟩ : Wr)) ((Qe0 (K0p d8) Qdz) : [AV.agg [I d8.fOp,I d8.fN,oI d8.fType,AV.osl (List.map K0j d8.fKids)]] = List.map K0j [d8])) tv))) ?_
  refine rt ?_
  obtain rfl := os h
  exact rq [true]
 refine sk ?_
 refine rs0 hc 2 [(2,.ra 1 0)] [(1,.box [I 1,I 0,.nils,.nils])] ?_
 refine rt ?_
 obtain rfl := os h
 exact rq [true]
def Kp0 (c : Ctx) (t1 : K01) (a0 : List Int) : (List K01) → Exit → Q0a → Prop
 | a1 => Qcf c (.exit 0) (mkS [(6,.ra 2 0),(7,.ra 4 0)] [(2,.box [I 0,I 0,.nils,.nils]),(3,rI a0),(4,.box [I t1.fOp,I t1.fN,.rs 3,.rs 14]),(14,.arr (List.map K0j a1))])
mutual
def Kp1 (p : (List Int) × K01 × K03) : Option (K01) :=
 match p with
 | (view0,t1,x2) =>
  (Kld t1.fType) >>= fun a0 =>
  (Kp2 (view0,t1,x2,a0,[],0)) >>= fun a1 =>
  some (K01.mk t1.fOp t1.fN a0 a1)
 partial_fixpoint
def Kp2 (p : (List Int) × K01 × K03 × (List Int) × (List K01) × Int) : Option ((List K01)) :=
 match p with
 | (view0,t1,x2,a0,a1,a2) =>
  if (decide (a2 < (t1.fKids.length : Int))) = true then
  (idx t1.fKids a2) >>= fun a3 =>
  ((
  if (t1.fOp == 11) = true then
  (Kou (view0,t1.fN)) >>= fun a4 =>
  some ((!a4))
  else
  some (false)
  ) : Option (Bool)) >>= fun a5 =>
  ((
  if (t1.fOp == 10) = true then
  some ((a2 == 1))
  else
  some (false)
  ) : Option (Bool)) >>= fun a6 =>
  ((
  if a6 = true then
  (idx x2.fkids 0) >>= fun a7 =>
  (idx a7.fty 0) >>= fun a8 =>
  (Kiy a8) >>= fun (a9,b1) =>
  (Kou (view0,b1)) >>= fun b2 =>
  some ((!b2))
  else
  some (a5)
  ) : Option (Bool)) >>= fun b3 =>
  ((
  if b3 = true then
  (idx x2.fkids a2) >>= fun b4 =>
  (Kox b4.fty) >>= fun b5 =>
  (Qd6 (a1.length + [b5].length) 64) >>= fun _ =>
  some ((a1 ++ [b5]))
  else
  (idx x2.fkids a2) >>= fun b6 =>
  (Kp1 (view0,a3,b6)) >>= fun b7 =>
  (Qd6 (a1.length + [b7].length) 64) >>= fun _ =>
  some ((a1 ++ [b7]))
  ) : Option ((List K01))) >>= fun b8 =>
  Kp2 (view0,t1,x2,a0,b8,(wr (a2 + 1)))
  else
  some (a1)
 partial_fixpoint
end
def Kp3 (p : (List Int) × K01 × K03) (r : K01) : Prop :=
 match p with
 | (view0,t1,x2) => Q71 Tryz.prog 116 [sI view0,K1v t1,.ptr [sI x2.fty,sI x2.fneeds,.sl (List.map K06 x2.fkids),I x2.ffault,sI x2.fpath] 0] (K24 r) []
def Kp4 (p : (List Int) × K01 × K03 × (List Int) × (List K01) × Int) (fl : (List K01)) : Prop :=
 match p with
 | (view0,t1,x2,a0,a1,a2) => ∀ c : Ctx,c.nt = 99 → WpL Tryz.prog c (cl (cl (cr (cl (cr (cr K88)))))) (Kp0 c t1 a0 fl) (mkS [(0,sI view0),(2,.ptr [sI x2.fty,sI x2.fneeds,.sl (List.map K06 x2.fkids),I x2.ffault,sI x2.fpath] 0),(4,.ra 1 0),(6,.ra 2 0),(7,.ra 4 0),(22,.sl (List.map K0g t1.fKids)),(23,I (t1.fKids.length : Int)),(24,I a2)] [(1,K1u t1),(2,.box [I 0,I 0,.nils,.nils]),(3,rI a0),(4,.box [I t1.fOp,I t1.fN,.rs 3,.rs 14]),(14,.arr (List.map K0j a1))])
theorem Kp5 : (∀ p r,Kp1 p = some r → Kp3 p r) ∧ (∀ p r,Kp2 p = some r → Kp4 p r) := by
 refine Kp1.mutual_partial_correctness Kp3 Kp4 ?_ ?_
 ·rintro impl_eraseTerm_l0_f impl_eraseTerm_l0_ih ⟨view0,t1,x2⟩ r h
  refine b0 Tryz.f116 K88 99 [(0,sI view0),(1,K1v t1),(2,.ptr [sI x2.fty,sI x2.fneeds,.sl (List.map K06 x2.fkids),I x2.ffault,sI x2.fpath] 0)] fun c hc => ?_
  refine rs hc none [some (.new 1),some (.new 2)] [(0,sI view0),(2,.ptr [sI x2.fty,sI x2.fneeds,.sl (List.map K06 x2.fkids),I x2.ffault,sI x2.fpath] 0),(4,.ra 1 0),(6,.ra 2 0)] [(1,K1u t1),(2,.box [I 0,I 0,.nils,.nils])] tv ?_
  obtain ⟨a0,a1,h⟩ := Qct h
  refine rs hc (rx [[0],[1],[0],[0,2],[0],[0,4],[0,4,5],[7],[0],[9]]) [oN,oN,oN,oN,oN,oN,some (.call (oI a0) [] 3),oN,some (.new 4),oN] [(0,sI view0),(2,.ptr [sI x2.fty,sI x2.fneeds,.sl (List.map K06 x2.fkids),I x2.ffault,sI x2.fpath] 0),(4,.ra 1 0),(6,.ra 2 0),(7,.ra 4 0)] [(1,K1u t1),(2,.box [I 0,I 0,.nils,.nils]),(3,rI a0),(4,.box [I t1.fOp,I t1.fN,.rs 3,.nils])] (cq (Klf _ _ a1) K78 tv) ?_
  refine sN ?_
  refine rss hc none [oN,oN,some (.eqv (.no) ⟨[(23,I (t1.fKids.length : Int))],[],[]⟩),oN] [(0,sI view0),(2,.ptr [sI x2.fty,sI x2.fneeds,.sl (List.map K06 x2.fkids),I x2.ffault,sI x2.fpath] 0),(4,.ra 1 0),(6,.ra 2 0),(7,.ra 4 0),(22,.sl (List.map K0g t1.fKids)),(23,I (t1.fKids.length : Int)),(24,I 0)] (ai (Qcz (d := 23) K0g t1.fKids) tv) ?_
  refine bk 0 ?_
  obtain ⟨a2,a3,h⟩ := Qct h
  have hL := impl_eraseTerm_l0_ih _ _ a3 c hc
  refine Wp.loopN (by kernel_rfl) (WpL.view (fun a w hv => SRx.renL [(14,33)] (SRx.nilBL 4 3 33 [I t1.fOp,I t1.fN,.rs 3,.nils] hv (by kernel_rfl) (by kernel_rfl) (by kernel_rfl)) (by kernel_rfl) (by kernel_rfl) (by kernel_rfl)) (?_ : WpL _ c _ _ (mkS [(0,sI view0),(2,.ptr [sI x2.fty,sI x2.fneeds,.sl (List.map K06 x2.fkids),I x2.ffault,sI x2.fpath] 0),(4,.ra 1 0),(6,.ra 2 0),(7,.ra 4 0),(22,.sl (List.map K0g t1.fKids)),(23,I (t1.fKids.length : Int)),(24,I 0)] [(1,K1u t1),(2,.box [I 0,I 0,.nils,.nils]),(3,rI a0),(4,.box [I t1.fOp,I t1.fN,.rs 3,.rs 14]),(14,.arr (List.map K0j []))])))
  refine WpL.into (e := (.exit 0)) (mkS [(6,.ra 2 0),(7,.ra 4 0)] [(2,.box [I 0,I 0,.nils,.nils]),(3,rI a0),(4,.box [I t1.fOp,I t1.fN,.rs 3,.rs 14]),(14,.arr (List.map K0j a2))]) hL ?_
  refine Qc7 ?_
  refine rs0 hc 2 [(6,.ra 2 0)] [(2,.box [I t1.fOp,I t1.fN,.rs 3,.rs 14]),(3,rI a0),(14,.arr (List.map K0j a2))] ?_
  refine rt ?_
  obtain rfl := os h
  exact rq [true]
 ·rintro impl_eraseTerm_f impl_eraseTerm_l0_f impl_eraseTerm_ih impl_eraseTerm_l0_ih ⟨view0,t1,x2,a0,a4,a5⟩ r h
  intro c hc
  refine WpL.step ?_
  refine K8s hc 1 [(0,sI view0),(2,.ptr [sI x2.fty,sI x2.fneeds,.sl (List.map K06 x2.fkids),I x2.ffault,sI x2.fpath] 0),(4,.ra 1 0),(6,.ra 2 0),(7,.ra 4 0),(22,.sl (List.map K0g t1.fKids)),(23,I (t1.fKids.length : Int)),(24,I a5),(25,.bool (decide (a5 < (t1.fKids.length : Int))))] ?_
  refine sN ?_
  refine ic h (fun a6 h => ?_) fun a6 h => ?_
  ·refine sk ?_
   refine sN ?_
   refine bk 1 ?_
   obtain ⟨a7,a8,h⟩ := Qct h
   refine rs hc none [oN,some (.el (K1v a7)),oN,some (.new 24),oN,oN] [(0,sI view0),(2,.ptr [sI x2.fty,sI x2.fneeds,.sl (List.map K06 x2.fkids),I x2.ffault,sI x2.fpath] 0),(4,.ra 1 0),(6,.ra 2 0),(7,.ra 4 0),(8,I a5),(9,.ra 24 0),(22,.sl (List.map K0g t1.fKids)),(23,I (t1.fKids.length : Int)),(24,I a5)] [(1,K1u t1),(2,.box [I 0,I 0,.nils,.nils]),(3,rI a0),(4,.box [I t1.fOp,I t1.fN,.rs 3,.rs 14]),(14,.arr (List.map K0j a4)),(24,K1u a7)] (ai (Qcx a8 (K0n a7)) tv) ?_
   refine sN ?_
   obtain ⟨a9,b1,h⟩ := Qct h
   refine Wp.into (x := .normal) (mkS [(0,sI view0),(2,.ptr [sI x2.fty,sI x2.fneeds,.sl (List.map K06 x2.fkids),I x2.ffault,sI x2.fpath] 0),(4,.ra 1 0),(6,.ra 2 0),(7,.ra 4 0),(8,I a5),(9,.ra 24 0),(10,.bool a9),(22,.sl (List.map K0g t1.fKids)),(23,I (t1.fKids.length : Int)),(24,I a5)] [(1,K1u t1),(2,.box [I 0,I 0,.nils,.nils]),(3,rI a0),(4,.box [I t1.fOp,I t1.fN,.rs 3,.rs 14]),(14,.arr (List.map K0j a4)),(24,K1u a7)]) ?_ ?_
   ·replace h := b1
    rcases is h with ⟨b2,h⟩ | ⟨b2,h⟩
    ·obtain ⟨b3,b4,h⟩ := Qct h
     refine rgs hc none [oN,oN,oN,oN,oN,oN,oN,oc (.bool b3),oN,oT,oN] [(0,sI view0),(2,.ptr [sI x2.fty,sI x2.fneeds,.sl (List.map K06 x2.fkids),I x2.ffault,sI x2.fpath] 0),(4,.ra 1 0),(6,.ra 2 0),(7,.ra 4 0),(8,I a5),(9,.ra 24 0),(10,.bool (!b3)),(22,.sl (List.map K0g t1.fKids)),(23,I (t1.fKids.length : Int)),(24,I a5)] (ar 4 b2 (cq (Kow _ _ b4) K85 (ar 2 b2 tv))) ?_
     obtain rfl := os h
     exact Qcf.mk
    refine rgs hc none [oN,oN,oN,oN,o_,o_,o_,o_,o_,oF,oN] [(0,sI view0),(2,.ptr [sI x2.fty,sI x2.fneeds,.sl (List.map K06 x2.fkids),I x2.ffault,sI x2.fpath] 0),(4,.ra 1 0),(6,.ra 2 0),(7,.ra 4 0),(8,I a5),(9,.ra 24 0),(10,.bool false),(22,.sl (List.map K0g t1.fKids)),(23,I (t1.fKids.length : Int)),(24,I a5)] (ar 5 (neT b2) (ai b2 tv)) ?_
    obtain rfl := os h
    exact Qcf.mk
   clear b1
   refine sN ?_
   refine sN ?_
   obtain ⟨b5,b6,h⟩ := Qct h
   refine Wp.into (x := .normal) (mkS [(0,sI view0),(2,.ptr [sI x2.fty,sI x2.fneeds,.sl (List.map K06 x2.fkids),I x2.ffault,sI x2.fpath] 0),(4,.ra 1 0),(6,.ra 2 0),(7,.ra 4 0),(8,I a5),(9,.ra 24 0),(10,.bool a9),(22,.sl (List.map K0g t1.fKids)),(23,I (t1.fKids.length : Int)),(24,I a5),(45,.bool b5)] [(1,K1u t1),(2,.box [I 0,I 0,.nils,.nils]),(3,rI a0),(4,.box [I t1.fOp,I t1.fN,.rs 3,.rs 14]),(14,.arr (List.map K0j a4)),(24,K1u a7)]) ?_ ?_
   ·replace h := b6
    rcases is h with ⟨b7,h⟩ | ⟨b7,h⟩
    ·refine rgs hc none [oN,oN,oN,oN,oN,oN,oT] [(0,sI view0),(2,.ptr [sI x2.fty,sI x2.fneeds,.sl (List.map K06 x2.fkids),I x2.ffault,sI x2.fpath] 0),(4,.ra 1 0),(6,.ra 2 0),(7,.ra 4 0),(8,I a5),(9,.ra 24 0),(10,.bool a9),(22,.sl (List.map K0g t1.fKids)),(23,I (t1.fKids.length : Int)),(24,I a5),(45,.bool (a5 == 1))] (ar 3 b7 tv) ?_
     obtain rfl := os h
     exact Qcf.mk
    refine rgs hc none [oN,oN,oN,oN,o_,o_,oF] [(0,sI view0),(2,.ptr [sI x2.fty,sI x2.fneeds,.sl (List.map K06 x2.fkids),I x2.ffault,sI x2.fpath] 0),(4,.ra 1 0),(6,.ra 2 0),(7,.ra 4 0),(8,I a5),(9,.ra 24 0),(10,.bool a9),(22,.sl (List.map K0g t1.fKids)),(23,I (t1.fKids.length : Int)),(24,I a5),(45,.bool false)] (ar 2 (neT b7) (ai b7 tv)) ?_
    obtain rfl := os h
    exact Qcf.mk
   clear b6
   obtain ⟨b8,b9,h⟩ := Qct h
   refine Wp.into (x := .normal) (mkS [(0,sI view0),(2,.ptr [sI x2.fty,sI x2.fneeds,.sl (List.map K06 x2.fkids),I x2.ffault,sI x2.fpath] 0),(4,.ra 1 0),(6,.ra 2 0),(7,.ra 4 0),(8,I a5),(9,.ra 24 0),(10,.bool b8),(22,.sl (List.map K0g t1.fKids)),(23,I (t1.fKids.length : Int)),(24,I a5)] [(1,K1u t1),(2,.box [I 0,I 0,.nils,.nils]),(3,rI a0),(4,.box [I t1.fOp,I t1.fN,.rs 3,.rs 14]),(14,.arr (List.map K0j a4)),(24,K1u a7)]) ?_ ?_
   ·replace h := b9
    refine ic h (fun c0 h => ?_) fun c0 h => ?_
    ·obtain ⟨c1,c2,c3,c4,⟨c5,c6⟩,c7,h⟩ := bq3 h
     refine rss hc none [oN,oN,oN,oN,some (.el (.ptr [sI c1.fty,sI c1.fneeds,.sl (List.map K06 c1.fkids),I c1.ffault,sI c1.fpath] 0)),oN,oN,oN,oN,some (.el (I c3)),oN,oc (.tup [I c5,I c6]),oN,oN,oN,oN,oN] [(0,sI view0),(2,.ptr [sI x2.fty,sI x2.fneeds,.sl (List.map K06 x2.fkids),I x2.ffault,sI x2.fpath] 0),(4,.ra 1 0),(6,.ra 2 0),(7,.ra 4 0),(8,I a5),(9,.ra 24 0),(12,I c6),(22,.sl (List.map K0g t1.fKids)),(23,I (t1.fKids.length : Int)),(24,I a5)] (ab (Qcx (enc := K06) (x := .ptr [sI c1.fty,sI c1.fneeds,.sl (List.map K06 c1.fkids),I c1.ffault,sI c1.fpath] 0) c2 (K09 c1)) (ix c4) (cq (Kj0 _ _ c7) K66 tv)) ?_
     obtain ⟨c8,c9,h⟩ := Qct h
     refine rgs hc none [oN,oN,oc (.bool c8),oN,oN] [(0,sI view0),(2,.ptr [sI x2.fty,sI x2.fneeds,.sl (List.map K06 x2.fkids),I x2.ffault,sI x2.fpath] 0),(4,.ra 1 0),(6,.ra 2 0),(7,.ra 4 0),(8,I a5),(9,.ra 24 0),(10,.bool (!c8)),(22,.sl (List.map K0g t1.fKids)),(23,I (t1.fKids.length : Int)),(24,I a5)] (cq (Kow _ _ c9) K85 tv) ?_
     obtain rfl := os h
     exact Qcf.mk
    refine sk ?_
    obtain rfl := os h
    exact iv []
   clear b9
   refine K8s hc 1 [(0,sI view0),(2,.ptr [sI x2.fty,sI x2.fneeds,.sl (List.map K06 x2.fkids),I x2.ffault,sI x2.fpath] 0),(4,.ra 1 0),(6,.ra 2 0),(7,.ra 4 0),(8,I a5),(9,.ra 24 0),(22,.sl (List.map K0g t1.fKids)),(23,I (t1.fKids.length : Int)),(24,I a5),(65,.bool b8)] ?_
   obtain ⟨d0,d1,h⟩ := Qct h
   refine Wp.into (x := .normal) (mkS [(0,sI view0),(2,.ptr [sI x2.fty,sI x2.fneeds,.sl (List.map K06 x2.fkids),I x2.ffault,sI x2.fpath] 0),(4,.ra 1 0),(6,.ra 2 0),(7,.ra 4 0),(22,.sl (List.map K0g t1.fKids)),(23,I (t1.fKids.length : Int)),(24,I a5)] [(1,K1u t1),(2,.box [I 0,I 0,.nils,.nils]),(3,rI a0),(4,.box [I t1.fOp,I t1.fN,.rs 3,.rs 28]),(28,.arr (List.map K0j d0))]) ?_ ?_
   ·replace h := d1
    refine ic h (fun d2 h => ?_) fun d2 h => ?_
    ·obtain ⟨d3,d4,d5,d6,_,d7,h⟩ := bq3 h
     refine rg hc (rx [[0],[1],[0],[0,2],[0,2,3],[0,2,3,4],[0],[0,2,3,4,5,6],[0,2,3,4,5,6,7],[0,2,3,4,5,6,7,8],[0,2,3,4,5,6,7,8,9],[0,2,3,4,5,6,7,8,9,10],[0,2,3,4,5,6,7,8,9,10,11],[0,2,3,4,5,6,7,8,9,10,11,12],[14],[15],[16]]) [oN,oN,oN,oN,oN,oN,oN,some (.el (.ptr [sI d3.fty,sI d3.fneeds,.sl (List.map K06 d3.fkids),I d3.ffault,sI d3.fpath] 0)),oN,oN,oN,oN,some (.call (K24 d5) [] 25),some (.eqv (.mk 27 true) ⟨[(79,.rs 27)],[(27,some (.arr (List.map K0j [d5]))),(25,none),(26,none)],[27]⟩),some (.eqv (.mk 28 true) ⟨[(80,.rs 28)],[(28,some (.arr (List.map K0j (a4 ++ [d5])))),(14,none),(27,none)],[28]⟩),oN,oN] [(0,sI view0),(2,.ptr [sI x2.fty,sI x2.fneeds,.sl (List.map K06 x2.fkids),I x2.ffault,sI x2.fpath] 0),(4,.ra 1 0),(6,.ra 2 0),(7,.ra 4 0),(22,.sl (List.map K0g t1.fKids)),(23,I (t1.fKids.length : Int)),(24,I a5)] [(1,K1u t1),(2,.box [I 0,I 0,.nils,.nils]),(3,rI a0),(4,.box [I t1.fOp,I t1.fN,.rs 3,.rs 28]),(28,.arr (List.map K0j (a4 ++ [d5])))] (ai (Qcx (enc := K06) (x := .ptr [sI d3.fty,sI d3.fneeds,.sl (List.map K06 d3.fkids),I d3.ffault,sI d3.fpath] 0) d4 (K09 d3)) (cq (Koz _ _ d6) K87 (ac (congrArg (fun z => (⟨[(79,.rs 27)],[(27,some (.arr z)),(25,none),(26,none)],[27]⟩ : Wr)) ((Qe0 (K0p d5) Qdz) : [AV.agg [I d5.fOp,I d5.fN,oI d5.fType,AV.osl (List.map K0j d5.fKids)]] = List.map K0j [d5])) (congrArg (fun z => (⟨[(80,.rs 28)],[(28,some (.arr z)),(14,none),(27,none)],[28]⟩ : Wr)) ((List.map_append).symm : (List.map K0j a4) ++ (List.map K0j [d5]) = List.map K0j (a4 ++ [d5]))) (Qd7 (enc1 := K0j) (enc2 := K0j) (e1 := a4) (e2 := [d5]) (sz := 4) K1c K1c d7) tv))) ?_
     obtain rfl := os h
     exact Qcf.mk
    obtain ⟨d8,d9,e0,e3,_,e4,h⟩ := bq3 h
    refine rg hc (rx [[0],[1],[0],[0],[0],[0,4],[0,4,5],[0,4,5,6],[0],[0,4,5,6,7,8],[0,4,5,6,7,8,9],[0,2,3,4,5,6,7,8,9,10],[0,2,3,4,5,6,7,8,9,10,11],[13],[14],[15]]) [oN,oN,oN,oN,oN,oN,oN,oN,oN,some (.el (.ptr [sI d8.fty,sI d8.fneeds,.sl (List.map K06 d8.fkids),I d8.ffault,sI d8.fpath] 0)),oN,some (.call (K24 e0) [] 29),some (.eqv (.mk 31 true) ⟨[(94,.rs 31)],[(31,some (.arr (List.map K0j [e0]))),(29,none),(30,none)],[31]⟩),some (.eqv (.mk 32 true) ⟨[(95,.rs 32)],[(32,some (.arr (List.map K0j (a4 ++ [e0])))),(14,none),(31,none)],[32]⟩),oN,oN] [(0,sI view0),(2,.ptr [sI x2.fty,sI x2.fneeds,.sl (List.map K06 x2.fkids),I x2.ffault,sI x2.fpath] 0),(4,.ra 1 0),(6,.ra 2 0),(7,.ra 4 0),(22,.sl (List.map K0g t1.fKids)),(23,I (t1.fKids.length : Int)),(24,I a5)] [(1,K1u t1),(2,.box [I 0,I 0,.nils,.nils]),(3,rI a0),(4,.box [I t1.fOp,I t1.fN,.rs 3,.rs 32]),(32,.arr (List.map K0j (a4 ++ [e0])))] (ai (Qcx (enc := K06) (x := .ptr [sI d8.fty,sI d8.fneeds,.sl (List.map K06 d8.fkids),I d8.ffault,sI d8.fpath] 0) d9 (K09 d8)) (cq (impl_eraseTerm_ih _ _ e3) K89 (ac (congrArg (fun z => (⟨[(94,.rs 31)],[(31,some (.arr z)),(29,none),(30,none)],[31]⟩ : Wr)) ((Qe0 (K0p e0) Qdz) : [AV.agg [I e0.fOp,I e0.fN,oI e0.fType,AV.osl (List.map K0j e0.fKids)]] = List.map K0j [e0])) (congrArg (fun z => (⟨[(95,.rs 32)],[(32,some (.arr z)),(14,none),(31,none)],[32]⟩ : Wr)) ((List.map_append).symm : (List.map K0j a4) ++ (List.map K0j [e0]) = List.map K0j (a4 ++ [e0]))) (Qd7 (enc1 := K0j) (enc2 := K0j) (e1 := a4) (e2 := [e0]) (sz := 4) K1c K1c e4) tv))) ?_
    obtain rfl := os h
    exact iv [(28,32)]
   clear d1
   refine K8r hc 2 [(0,sI view0),(2,.ptr [sI x2.fty,sI x2.fneeds,.sl (List.map K06 x2.fkids),I x2.ffault,sI x2.fpath] 0),(4,.ra 1 0),(6,.ra 2 0),(7,.ra 4 0),(22,.sl (List.map K0g t1.fKids)),(23,I (t1.fKids.length : Int)),(24,I (wr (a5 + 1)))] ?_
   refine Qcb ?_
   exact WpL.view (fun a w hv => SRx.renL [(14,28)] hv (by kernel_rfl) (by kernel_rfl) (by kernel_rfl)) (impl_eraseTerm_l0_ih _ _ h c hc)
  refine xt 0 ?_
  refine Qc5 ?_
  refine Qcc ?_
  obtain rfl := os h
  exact iv []
theorem Kp6 : ∀ p r,Kp1 p = some r → Kp3 p r := Kp5.1
theorem Kp7 : ∀ p r,Kp2 p = some r → Kp4 p r := Kp5.2
def Kp8 (c : Ctx) : (Int) ⊕ (Int) → Exit → Q0a → Prop
 | .inl a0 => Qcf c (.exit 1) (mkS [(4,I a0)] [])
 | .inr r => Qco TIx Tryz.f117 [] (I r)
def Kp9 : Option (List (List Nat)) := rx [[0],[0],[2],[3],[0],[0],[0,4,5],[0,4,5,6],[8]]
def Kpa : Option (List (List Nat)) := rx [[0],[0],[2],[3],[0],[0],[0,4,5],[0,4,5,6],[8],[9]]
mutual
def Kpb (p : K01 × Int × K00 × Int) : Option (Int) :=
 match p with
 | (t0,n1,clo2_0,nodes4) =>
  (Kju t0.fOp) >>= fun (a0,a1) =>
  ((
  if a1 = true then
  if (decide ((wr (nodes4 + 1)) > 400)) = true then
   some (true)
  else
   some (((t0.fKids.length : Int) != a0.fkids))
  else
  some (true)
  ) : Option (Bool)) >>= fun a2 =>
  if a2 = true then
  some 401
  else
  ((
  if (t0.fOp == 0) = true then
   (Khg (t0.fN,0,(wr (n1 - 1)))) >>= fun a3 =>
   some (a3)
  else
   ((
   if (t0.fOp == 1) = true then
   (Khg (t0.fN,0,2)) >>= fun a4 =>
   some (a4)
   else
   ((
   if a0.fgrade = true then
   (Khj (clo2_0,t0.fN)) >>= fun a5 =>
   some (a5)
   else
   some ((t0.fN == 0))
   ) : Option (Bool)) >>= fun a6 =>
   some (a6)
   ) : Option (Bool)) >>= fun a7 =>
   some (a7)
  ) : Option (Bool)) >>= fun a8 =>
  ((
  if a0.ftyped = true then
   ((
   if a8 = true then
   (Kj4 t0.fType) >>= fun a9 =>
   some (a9)
   else
   some (false)
   ) : Option (Bool)) >>= fun b1 =>
   some (b1)
  else
   ((
   if a8 = true then
   some (((t0.fType.length : Int) == 0))
   else
   some (false)
   ) : Option (Bool)) >>= fun b2 =>
   some (b2)
  ) : Option (Bool)) >>= fun b3 =>
  if b3 = true then
  (Kpc (t0,n1,clo2_0,(wr (nodes4 + 1)),0)) >>= fun fl => match fl with
  | .inl b4 =>
   some b4
  | .inr r =>
   some r
  else
  some 401
 partial_fixpoint
def Kpc (p : K01 × Int × K00 × Int × Int) : Option ((Int) ⊕ (Int)) :=
 match p with
 | (t0,n1,clo2_0,a0,a1) =>
  if (decide (a1 < (t0.fKids.length : Int))) = true then
  (idx t0.fKids a1) >>= fun a2 =>
  (Kk0 (t0.fOp,a1)) >>= fun a3 =>
  (Kpb (a2,(wr (n1 + a3)),clo2_0,a0)) >>= fun a4 =>
  if (decide (a4 > 400)) = true then
  some (.inr 401)
  else
  Kpc (t0,n1,clo2_0,a4,(wr (a1 + 1)))
  else
  some (.inl a0)
 partial_fixpoint
end
def Kpd (p : K01 × Int × K00 × Int) (r : Int) : Prop :=
 match p with
 | (t0,n1,clo2_0,nodes4) => Q71 Tryz.prog 117 [K1v t0,I n1,.fnb 85 [K1t clo2_0],.fn 118 [],I nodes4] (I r) []
def Kpe (p : K01 × Int × K00 × Int × Int) (fl : (Int) ⊕ (Int)) : Prop :=
 match p with
 | (t0,n1,clo2_0,a0,a1) => ∀ c : Ctx,c.nt = 104 → WpL Tryz.prog c (cl (cl (cr (cl (cr (cr (cr (cr (cr (cr (cr K6r))))))))))) (Kp8 c fl) (mkS [(1,I n1),(2,.fnb 85 [K1t clo2_0]),(3,.fn 118 []),(4,I a0),(5,.ra 1 0),(82,.sl (List.map K0g t0.fKids)),(83,I (t0.fKids.length : Int)),(84,I a1)] [(1,K1u t0)])
theorem Kpf : (∀ p r,Kpb p = some r → Kpd p r) ∧ (∀ p r,Kpc p = some r → Kpe p r) := by
 refine Kpb.mutual_partial_correctness Kpd Kpe ?_ ?_
 ·rintro impl_check_Kimpl_Systemhas_Kimpl_isWrittenType_l0_f impl_check_Kimpl_Systemhas_Kimpl_isWrittenType_l0_ih ⟨t0,n1,clo2_0,nodes4⟩ r h
  refine b0 Tryz.f117 K6r 104 [(0,K1v t0),(1,I n1),(2,.fnb 85 [K1t clo2_0]),(3,.fn 118 []),(4,I nodes4)] fun c hc => ?_
  refine rs hc none [some (.new 1),oN] [(1,I n1),(2,.fnb 85 [K1t clo2_0]),(3,.fn 118 []),(4,I nodes4),(5,.ra 1 0)] [(1,K1u t0)] tv ?_
  refine K8s hc 3 [(1,I n1),(2,.fnb 85 [K1t clo2_0]),(3,.fn 118 []),(4,I (wr (nodes4 + 1))),(5,.ra 1 0)] ?_
  obtain ⟨⟨a0,a1⟩,a2,h⟩ := Qct h
  refine rs hc none [oN,oN,oc (.tup [.agg [.str a0.fword,I a0.fkids,.bool a0.fgrade,.bool a0.ftyped],.bool a1]),oN,oN,oN,some (.new 2),oN,oN] [(1,I n1),(2,.fnb 85 [K1t clo2_0]),(3,.fn 118 []),(4,I (wr (nodes4 + 1))),(5,.ra 1 0),(11,.ra 2 0),(12,.bool a1)] [(1,K1u t0),(2,.box [.str a0.fword,I a0.fkids,.bool a0.fgrade,.bool a0.ftyped])] (cq (Kjw _ _ a2) K6m tv) ?_
  refine sN ?_
  refine sN ?_
  obtain ⟨a3,a4,h⟩ := Qct h
  refine Wp.into (x := .normal) (mkS [(1,I n1),(2,.fnb 85 [K1t clo2_0]),(3,.fn 118 []),(4,I (wr (nodes4 + 1))),(5,.ra 1 0),(11,.ra 2 0),(36,.bool a3)] [(1,K1u t0),(2,.box [.str a0.fword,I a0.fkids,.bool a0.fgrade,.bool a0.ftyped])]) ?_ ?_
  ·replace h := a4
   rcases is h with ⟨a5,h⟩ | ⟨a5,h⟩
   ·rcases is h with ⟨a6,h⟩ | ⟨a6,h⟩
    ·refine rgs hc none [oN,oN,oN,oN,oN,oF,oN,o_,o_,o_,o_,o_,o_,oT] [(1,I n1),(2,.fnb 85 [K1t clo2_0]),(3,.fn 118 []),(4,I (wr (nodes4 + 1))),(5,.ra 1 0),(11,.ra 2 0),(36,.bool true)] (ar 3 (nF a5) (ar 6 (neF a6) (ai a6 tv))) ?_
     obtain rfl := os h
     exact Qcf.mk
    refine rgs hc none [oN,oN,oN,oN,oN,oF,oN,oN,oN,some (.eqv (.no) ⟨[(32,I (t0.fKids.length : Int))],[],[]⟩),oN,oN,oN,oF] [(1,I n1),(2,.fnb 85 [K1t clo2_0]),(3,.fn 118 []),(4,I (wr (nodes4 + 1))),(5,.ra 1 0),(11,.ra 2 0),(36,.bool ((t0.fKids.length : Int) != a0.fkids))] (ar 3 (nF a5) (ar 3 a6 (ai (Qcz (d := 32) K0g t0.fKids) (ar 4 a6 tv)))) ?_
    obtain rfl := os h
    exact Qcf.mk
   refine rgs hc none [oN,oN,oN,o_,o_,oT,oN,o_,o_,o_,o_,o_,o_,oT] [(1,I n1),(2,.fnb 85 [K1t clo2_0]),(3,.fn 118 []),(4,I (wr (nodes4 + 1))),(5,.ra 1 0),(11,.ra 2 0),(36,.bool true)] (ar 2 (neF (nT a5)) (ai (nT a5) (ar 6 nf (ai tt tv)))) ?_
   obtain rfl := os h
   exact Qcf.mk
  clear a4
  refine ic h (fun a7 h => ?_) fun a7 h => ?_
  ·refine rs0 hc 1 [(10,I 401)] [] ?_
   refine rt ?_
   obtain rfl := os h
   exact rq [true]
  refine sk ?_
  refine sN ?_
  refine bk 0 ?_
  refine K8s hc 4 [(1,I n1),(2,.fnb 85 [K1t clo2_0]),(3,.fn 118 []),(4,I (wr (nodes4 + 1))),(5,.ra 1 0),(11,.ra 2 0),(40,.bool (t0.fOp == 0))] ?_
  obtain ⟨a8,a9,h⟩ := Qct h
  refine Wp.into (x := .normal) (mkS [(1,I n1),(2,.fnb 85 [K1t clo2_0]),(3,.fn 118 []),(4,I (wr (nodes4 + 1))),(5,.ra 1 0),(11,.ra 2 0),(12,.bool a8)] [(1,K1u t0),(2,.box [.str a0.fword,I a0.fkids,.bool a0.fgrade,.bool a0.ftyped])]) ?_ ?_
  ·replace h := a9
   refine ic h (fun b1 h => ?_) fun b1 h => ?_
   ·obtain ⟨b2,b3,h⟩ := Qct h
    refine rgs hc none [oN,oN,oN,oN,oc (.bool b2),oN] [(1,I n1),(2,.fnb 85 [K1t clo2_0]),(3,.fn 118 []),(4,I (wr (nodes4 + 1))),(5,.ra 1 0),(11,.ra 2 0),(12,.bool b2)] (cq (Khi _ _ b3) K5s tv) ?_
    obtain rfl := os h
    exact Qcf.mk
   refine K8s hc 4 [(1,I n1),(2,.fnb 85 [K1t clo2_0]),(3,.fn 118 []),(4,I (wr (nodes4 + 1))),(5,.ra 1 0),(11,.ra 2 0),(49,.bool (t0.fOp == 1))] ?_
   obtain ⟨b4,b5,h⟩ := Qct h
   refine Wp.into (x := .normal) (mkS [(1,I n1),(2,.fnb 85 [K1t clo2_0]),(3,.fn 118 []),(4,I (wr (nodes4 + 1))),(5,.ra 1 0),(11,.ra 2 0),(12,.bool b4)] [(1,K1u t0),(2,.box [.str a0.fword,I a0.fkids,.bool a0.fgrade,.bool a0.ftyped])]) ?_ ?_
   ·replace h := b5
    refine ic h (fun b6 h => ?_) fun b6 h => ?_
    ·obtain ⟨b7,b8,h⟩ := Qct h
     refine rgs hc none [oN,oN,oc (.bool b7),oN] [(1,I n1),(2,.fnb 85 [K1t clo2_0]),(3,.fn 118 []),(4,I (wr (nodes4 + 1))),(5,.ra 1 0),(11,.ra 2 0),(12,.bool b7)] (cq (Khi _ _ b8) K5s tv) ?_
     obtain rfl := os h
     exact Qcf.mk
    refine K8s hc 3 [(1,I n1),(2,.fnb 85 [K1t clo2_0]),(3,.fn 118 []),(4,I (wr (nodes4 + 1))),(5,.ra 1 0),(11,.ra 2 0),(56,.bool a0.fgrade)] ?_
    obtain ⟨b9,c0,h⟩ := Qct h
    refine Wp.into (x := .normal) (mkS [(1,I n1),(2,.fnb 85 [K1t clo2_0]),(3,.fn 118 []),(4,I (wr (nodes4 + 1))),(5,.ra 1 0),(11,.ra 2 0),(12,.bool b9)] [(1,K1u t0),(2,.box [.str a0.fword,I a0.fkids,.bool a0.fgrade,.bool a0.ftyped])]) ?_ ?_
    ·replace h := c0
     refine ic h (fun c1 h => ?_) fun c1 h => ?_
     ·obtain ⟨c2,c3,h⟩ := Qct h
      refine rgs hc none [oN,oN,oN,oc (.bool c2),oN] [(1,I n1),(2,.fnb 85 [K1t clo2_0]),(3,.fn 118 []),(4,I (wr (nodes4 + 1))),(5,.ra 1 0),(11,.ra 2 0),(12,.bool c2)] (cq (Khl _ _ c3) K5t tv) ?_
      obtain rfl := os h
      exact Qcf.mk
     refine K8r hc 4 [(1,I n1),(2,.fnb 85 [K1t clo2_0]),(3,.fn 118 []),(4,I (wr (nodes4 + 1))),(5,.ra 1 0),(11,.ra 2 0),(12,.bool (t0.fN == 0))] ?_
     obtain rfl := os h
     exact Qcf.mk
    clear c0
    obtain rfl := os h
    exact Qcf.mk
   clear b5
   obtain rfl := os h
   exact Qcf.mk
  clear a9
  refine sN ?_
  refine rs0 hc 2 [(1,I n1),(2,.fnb 85 [K1t clo2_0]),(3,.fn 118 []),(4,I (wr (nodes4 + 1))),(5,.ra 1 0),(12,.bool a8),(64,.bool a0.ftyped)] [(1,K1u t0)] ?_
  obtain ⟨c4,c5,h⟩ := Qct h
  refine Wp.into (x := .normal) (mkS [(1,I n1),(2,.fnb 85 [K1t clo2_0]),(3,.fn 118 []),(4,I (wr (nodes4 + 1))),(5,.ra 1 0),(12,.bool c4)] [(1,K1u t0)]) ?_ ?_
  ·replace h := c5
   refine ic h (fun c6 h => ?_) fun c6 h => ?_
   ·obtain ⟨c7,c8,h⟩ := Qct h
    refine Wp.into (x := .normal) (mkS [(1,I n1),(2,.fnb 85 [K1t clo2_0]),(3,.fn 118 []),(4,I (wr (nodes4 + 1))),(5,.ra 1 0),(12,.bool c7)] [(1,K1u t0)]) ?_ ?_
    ·replace h := c8
     rcases is h with ⟨c9,h⟩ | ⟨c9,h⟩
     ·obtain ⟨d0,d1,h⟩ := Qct h
      refine rgs hc none [oN,oN,oN,oN,oN,oc (.bool d0),oT,oN] [(1,I n1),(2,.fnb 85 [K1t clo2_0]),(3,.fn 118 []),(4,I (wr (nodes4 + 1))),(5,.ra 1 0),(12,.bool d0)] (ar 4 c9 (cq (Kj6 _ _ d1) K6a (ai c9 tv))) ?_
      obtain rfl := os h
      exact Qcf.mk
     refine rgs hc none [oN,oN,o_,o_,o_,o_,oF,oN] [(1,I n1),(2,.fnb 85 [K1t clo2_0]),(3,.fn 118 []),(4,I (wr (nodes4 + 1))),(5,.ra 1 0),(12,.bool false)] (ar 4 (neT c9) (ai c9 tv)) ?_
     obtain rfl := os h
     exact Qcf.mk
    clear c8
    obtain rfl := os h
    exact Qcf.mk
   obtain ⟨d2,d3,h⟩ := Qct h
   refine Wp.into (x := .normal) (mkS [(1,I n1),(2,.fnb 85 [K1t clo2_0]),(3,.fn 118 []),(4,I (wr (nodes4 + 1))),(5,.ra 1 0),(12,.bool d2)] [(1,K1u t0)]) ?_ ?_
   ·replace h := d3
    rcases is h with ⟨d4,h⟩ | ⟨d4,h⟩
    ·refine rgs hc none [oN,oN,oN,oN,some (.eqv (.no) ⟨[(76,I (t0.fType.length : Int))],[],[]⟩),oN,oT,oN] [(1,I n1),(2,.fnb 85 [K1t clo2_0]),(3,.fn 118 []),(4,I (wr (nodes4 + 1))),(5,.ra 1 0),(12,.bool ((t0.fType.length : Int) == 0))] (ar 3 d4 (ai (Qcz (d := 76) I t0.fType) (ar 2 d4 tv))) ?_
     obtain rfl := os h
     exact Qcf.mk
    refine rgs hc none [oN,oN,o_,o_,o_,o_,oF,oN] [(1,I n1),(2,.fnb 85 [K1t clo2_0]),(3,.fn 118 []),(4,I (wr (nodes4 + 1))),(5,.ra 1 0),(12,.bool false)] (ar 4 (neT d4) (ai d4 tv)) ?_
    obtain rfl := os h
    exact Qcf.mk
   clear d3
   obtain rfl := os h
   exact Qcf.mk
  clear c5
  refine sN ?_
  refine K8s hc 2 [(1,I n1),(2,.fnb 85 [K1t clo2_0]),(3,.fn 118 []),(4,I (wr (nodes4 + 1))),(5,.ra 1 0),(80,.bool (!c4))] ?_
  rcases is h with ⟨d5,h⟩ | ⟨d5,h⟩
  ·refine cF (!c4) (nF d5) ?_
   refine sk ?_
   refine sN ?_
   refine rss hc none [oN,oN,some (.eqv (.no) ⟨[(83,I (t0.fKids.length : Int))],[],[]⟩),oN] [(1,I n1),(2,.fnb 85 [K1t clo2_0]),(3,.fn 118 []),(4,I (wr (nodes4 + 1))),(5,.ra 1 0),(82,.sl (List.map K0g t0.fKids)),(83,I (t0.fKids.length : Int)),(84,I 0)] (ai (Qcz (d := 83) K0g t0.fKids) tv) ?_
   refine bk 1 ?_
   obtain ⟨fl,d6,h⟩ := Qct h
   have hL := impl_check_Kimpl_Systemhas_Kimpl_isWrittenType_l0_ih _ _ d6 c hc
   refine lp ?_
   rcases fl with d7 | r
   ·refine WpL.into (e := (.exit 1)) (mkS [(4,I d7)] []) hL ?_
    refine Qc7 ?_
    refine rs0 hc 2 [(10,I d7)] [] ?_
    refine rt ?_
    obtain rfl := os h
    exact rq [true]
   refine WpL.mono hL ?_
   rintro _ _ ⟨rfl,hfin⟩
   obtain rfl := os h
   exact ⟨.inl rfl,hfin⟩
  refine cT (!c4) (nT d5) ?_
  refine rs0 hc 1 [(10,I 401)] [] ?_
  refine rt ?_
  obtain rfl := os h
  exact rq [true]
 ·rintro impl_check_Kimpl_Systemhas_Kimpl_isWrittenType_f impl_check_Kimpl_Systemhas_Kimpl_isWrittenType_l0_f impl_check_Kimpl_Systemhas_Kimpl_isWrittenType_ih impl_check_Kimpl_Systemhas_Kimpl_isWrittenType_l0_ih ⟨t0,n1,clo2_0,d8,d9⟩ r h
  intro c hc
  refine WpL.step ?_
  refine K8s hc 1 [(1,I n1),(2,.fnb 85 [K1t clo2_0]),(3,.fn 118 []),(4,I d8),(5,.ra 1 0),(82,.sl (List.map K0g t0.fKids)),(83,I (t0.fKids.length : Int)),(84,I d9),(85,.bool (decide (d9 < (t0.fKids.length : Int))))] ?_
  refine sN ?_
  refine ic h (fun e0 h => ?_) fun e0 h => ?_
  ·refine sk ?_
   refine sN ?_
   refine bk 2 ?_
   obtain ⟨e1,e2,h⟩ := Qct h
   refine rs hc none [oN,some (.el (K1v e1)),oN,some (.new 4),oN,oN] [(1,I n1),(2,.fnb 85 [K1t clo2_0]),(3,.fn 118 []),(4,I d8),(5,.ra 1 0),(13,I d9),(14,.ra 4 0),(82,.sl (List.map K0g t0.fKids)),(83,I (t0.fKids.length : Int)),(84,I d9)] [(1,K1u t0),(4,K1u e1)] (ai (Qcx e2 (K0n e1)) tv) ?_
   obtain ⟨e3,e4,e5,e6,h⟩ := bq2 h
   refine rs hc (rx [[0],[0],[0],[0,2],[0],[0,2,3,4],[0,1,2,3,4,5],[0],[0],[0],[10],[11]]) [oN,oN,oN,oN,oN,oc (I e3),oN,oN,oN,oN,oc (I e5),oN] [(1,I n1),(2,.fnb 85 [K1t clo2_0]),(3,.fn 118 []),(4,I e5),(5,.ra 1 0),(82,.sl (List.map K0g t0.fKids)),(83,I (t0.fKids.length : Int)),(84,I d9)] [(1,K1u t0)] (cq (Kk2 _ _ e4) K6q (cq (impl_check_Kimpl_Systemhas_Kimpl_isWrittenType_ih _ _ e6) K6s tv)) ?_
   refine K8s hc 2 [(1,I n1),(2,.fnb 85 [K1t clo2_0]),(3,.fn 118 []),(4,I e5),(5,.ra 1 0),(82,.sl (List.map K0g t0.fKids)),(83,I (t0.fKids.length : Int)),(84,I d9),(101,.bool (decide (e5 > 400)))] ?_
   refine ic h (fun e7 h => ?_) fun e7 h => ?_
   ·refine rs0 hc 1 [(10,I 401)] [] ?_
    refine rt ?_
    obtain rfl := os h
    exact re [true]
   refine sk ?_
   refine K8r hc 2 [(1,I n1),(2,.fnb 85 [K1t clo2_0]),(3,.fn 118 []),(4,I e5),(5,.ra 1 0),(82,.sl (List.map K0g t0.fKids)),(83,I (t0.fKids.length : Int)),(84,I (wr (d9 + 1)))] ?_
   refine Qcb ?_
   exact (impl_check_Kimpl_Systemhas_Kimpl_isWrittenType_l0_ih _ _ h c hc)
  refine xt 1 ?_
  refine Qc5 ?_
  refine Qcc ?_
  obtain rfl := os h
  exact iv []
theorem Kpg : ∀ p r,Kpb p = some r → Kpd p r := Kpf.1
theorem Kph : ∀ p r,Kpc p = some r → Kpe p r := Kpf.2
def Kpi (p : K00 × (List Int) × LL × K01) : Option (K01 × Bool) :=
 match p with
 | (s0,view1,ctx2,t3) =>
  (Ko0 (s0,ctx2,t3)) >>= fun a0 =>
  match a0 with
  | none =>
   some ((K01.mk 0 0 [] []),false)
  | some a1 =>
   ((
   if (a1.ffault != 0) = true then
   some (true)
   else
   (Kok (s0,view1)) >>= fun a2 =>
   some ((!a2))
   ) : Option (Bool)) >>= fun a3 =>
   if a3 = true then
   some ((K01.mk 0 0 [] []),false)
   else
   (Kp1 (view1,t3,a1)) >>= fun a4 =>
   (Kpb (a4,(ctx2.length : Int),s0,0)) >>= fun a5 =>
   if (decide (a5 > 400)) = true then
   some ((K01.mk 0 0 [] []),false)
   else
   some (a4,true)
def Kpj (p : K00 × (List Int) × LL × K01) (r : K01 × Bool) : Prop :=
 match p with
 | (s0,view1,ctx2,t3) => Q71 Tryz.prog 57 [K1t s0,sI view1,sL ctx2,K1v t3] (.tup [.agg [I r.1.fOp,I r.1.fN,.osl (List.map I r.1.fType),.osl (List.map K0j r.1.fKids)],.bool r.2]) []
theorem Kpk : ∀ p r,Kpi p = some r → Kpj p r := by
 rintro ⟨s0,view1,ctx2,t3⟩ r h
 unfold Kpi at h
 refine b0 Tryz.f57 B57 45 [(0,K1t s0),(1,sI view1),(2,sL ctx2),(3,K1v t3)] fun c hc => ?_
 refine rs hc none [some (.new 1),some (.new 2),some (.new 3),oN] [(1,sI view1),(2,sL ctx2),(4,.ra 1 0),(7,.ra 2 0),(8,.ra 3 0)] [(1,K1s s0),(2,K1u t3),(3,.box [I 0,I 0,.nils,.nils])] tv ?_
 refine sN ?_
 obtain ⟨a0,a1,h⟩ := Qct h
 rcases a0 with _ | a2
 ·refine rgs hc none [oN,oN,oN,oc (.nilp),oN] [(1,sI view1),(2,sL ctx2),(4,.ra 1 0),(7,.ra 2 0),(8,.ra 3 0),(10,.nilp)] (cq (Ko2 _ _ a1) K7z tv) ?_
  refine sN ?_
  refine rss hc none [oN,oN,oN,o_,o_,o_,o_,o_,oT,oN,o_,o_,o_,o_,oT] [(1,sI view1),(2,sL ctx2),(4,.ra 1 0),(7,.ra 2 0),(8,.ra 3 0),(10,.nilp),(30,.bool true)] (ar 5 nf (ai tt (ar 4 nf (ai tt tv)))) ?_
  refine cT true (rfl : true = true) ?_
  refine rs0 hc 3 [(8,.ra 3 0),(9,.bool false)] [(3,.box [I 0,I 0,.nils,.nils])] ?_
  refine rt ?_
  obtain rfl := os h
  exact rq [true,true]
 refine rgs hc none [oN,oN,oN,oc (.ptr [sI a2.fty,sI a2.fneeds,.sl (List.map K06 a2.fkids),I a2.ffault,sI a2.fpath] 0),oN] [(1,sI view1),(2,sL ctx2),(4,.ra 1 0),(7,.ra 2 0),(8,.ra 3 0),(10,.ptr [sI a2.fty,sI a2.fneeds,.sl (List.map K06 a2.fkids),I a2.ffault,sI a2.fpath] 0)] (cq (Ko2 _ _ a1) K7z tv) ?_
 refine sN ?_
 refine sN ?_
 obtain ⟨a3,a4,h⟩ := Qct h
 refine Wp.into (x := .normal) (mkS [(1,sI view1),(2,sL ctx2),(4,.ra 1 0),(7,.ra 2 0),(8,.ra 3 0),(10,.ptr [sI a2.fty,sI a2.fneeds,.sl (List.map K06 a2.fkids),I a2.ffault,sI a2.fpath] 0),(30,.bool a3)] [(1,K1s s0),(2,K1u t3),(3,.box [I 0,I 0,.nils,.nils])]) ?_ ?_
 ·replace h := a4
  rcases is h with ⟨a5,h⟩ | ⟨a5,h⟩
  ·refine rgs hc none [oN,oN,oN,oN,oN,oN,oN,oN,oF,oN,o_,o_,o_,o_,oT] [(1,sI view1),(2,sL ctx2),(4,.ra 1 0),(7,.ra 2 0),(8,.ra 3 0),(10,.ptr [sI a2.fty,sI a2.fneeds,.sl (List.map K06 a2.fkids),I a2.ffault,sI a2.fpath] 0),(30,.bool true)] (ar 6 (rfl : false = false) (ar 4 (neF a5) (ai a5 tv))) ?_
   obtain rfl := os h
   exact Qcf.mk
  obtain ⟨a6,a7,h⟩ := Qct h
  refine rgs hc none [oN,oN,oN,oN,oN,oN,oN,oN,oF,oN,oN,oN,oc (.bool a6),oN,oF] [(1,sI view1),(2,sL ctx2),(4,.ra 1 0),(7,.ra 2 0),(8,.ra 3 0),(10,.ptr [sI a2.fty,sI a2.fneeds,.sl (List.map K06 a2.fkids),I a2.ffault,sI a2.fpath] 0),(30,.bool (!a6))] (ar 6 (rfl : false = false) (ar 3 a5 (cq (Kom _ _ a7) K82 (ar 2 a5 tv)))) ?_
  obtain rfl := os h
  exact Qcf.mk
 clear a4
 refine ic h (fun a8 h => ?_) fun a8 h => ?_
 ·refine rs0 hc 3 [(8,.ra 3 0),(9,.bool false)] [(3,.box [I 0,I 0,.nils,.nils])] ?_
  refine rt ?_
  obtain rfl := os h
  exact rq [true,true]
 refine sk ?_
 obtain ⟨a9,b1,h⟩ := Qct h
 refine rs hc none [oN,oN,oN,some (.call (K24 a9) [] 4),some (.new 6),oN] [(2,sL ctx2),(4,.ra 1 0),(8,.ra 3 0),(11,.ra 6 0)] [(1,K1s s0),(3,.box [I 0,I 0,.nils,.nils]),(4,rI a9.fType),(5,.arr (List.map K0j a9.fKids)),(6,.box [I a9.fOp,I a9.fN,.rs 4,.rs 5])] (cq (Kp6 _ _ b1) K89 tv) ?_
 refine sN ?_
 obtain ⟨b2,b3,h⟩ := Qct h
 refine rs hc none [oN,oN,some (.eqv (.no) ⟨[(38,I (ctx2.length : Int))],[],[]⟩),oN,oN,oc (I b2),oN] [(8,.ra 3 0),(11,.ra 6 0),(42,.bool (decide (b2 > 400)))] [(3,.box [I 0,I 0,.nils,.nils]),(4,rI a9.fType),(5,.arr (List.map K0j a9.fKids)),(6,.box [I a9.fOp,I a9.fN,.rs 4,.rs 5])] (ad (Qcz (d := 38) K10 ctx2) (Q71.args (A1 := [K25 a9,I (ctx2.length : Int),.fnb 85 [K1t s0],.fn 118 [],I 0]) (A2 := [K1v a9,I (ctx2.length : Int),.fnb 85 [K1t s0],.fn 118 [],I 0]) (by simp only [K25,List.map_nil,K1f,Qdl]) (Kpg _ _ b3)) K6s (Or.inr rfl : ([4,5] : List Nat) = [] ∨ noSh (I b2) = true) tv) ?_
 refine ic h (fun b4 h => ?_) fun b4 h => ?_
 ·refine rs0 hc 3 [(8,.ra 3 0),(9,.bool false)] [(3,.box [I 0,I 0,.nils,.nils])] ?_
  refine rt ?_
  obtain rfl := os h
  exact rq [true,true]
 refine sk ?_
 refine rs0 hc 3 [(8,.ra 3 0),(9,.bool true)] [(3,.box [I a9.fOp,I a9.fN,.rs 4,.rs 5]),(4,rI a9.fType),(5,.arr (List.map K0j a9.fKids))] ?_
 refine rt ?_
 obtain rfl := os h
 exact rq [true,true]
def Kpl (c : Ctx) : (Unit) ⊕ (Bool) → Exit → Q0a → Prop
 | .inl _ => Qcf c (.exit 0) (mkS [] [])
 | .inr r => Qco TIx Tryz.f23 [] (.bool r)
def Kpm (p : (List Int) × (List Int) × Int) : Option ((Unit) ⊕ (Bool)) :=
 match p with
 | (a0,b1,a1) =>
  if (decide (a1 < (a0.length : Int))) = true then
  (idx a0 a1) >>= fun a2 =>
  (idx b1 a1) >>= fun a3 =>
  if (a2 != a3) = true then
  some (.inr false)
  else
  Kpm (a0,b1,(wr (a1 + 1)))
  else
  some (.inl ())
 partial_fixpoint
def Kpn (p : (List Int) × (List Int) × Int) (fl : (Unit) ⊕ (Bool)) : Prop :=
 match p with
 | (a0,b1,a1) => ∀ c : Ctx,c.nt = 26 → WpL Tryz.prog c (cl (cl (cr (cl (cr (cr B23)))))) (Kpl c fl) (mkS [(0,sI a0),(1,sI b1),(5,I a1)] [])
theorem Kpo : ∀ p r,Kpm p = some r → Kpn p r := by
 refine Kpm.partial_correctness Kpn ?_
 rintro laws_eqIntS_l0_f laws_eqIntS_l0_ih ⟨a0,b1,a1⟩ r h
 intro c hc
 refine WpL.step ?_
 refine sN ?_
 refine rs hc none [oN,oN,some (.eqv (.no) ⟨[(13,I (a0.length : Int))],[],[]⟩),oN] [(0,sI a0),(1,sI b1),(5,I a1),(14,.bool (decide (a1 < (a0.length : Int))))] [] (ai (Qcz (d := 13) I a0) tv) ?_
 refine ic h (fun a2 h => ?_) fun a2 h => ?_
 ·refine sk ?_
  refine sN ?_
  refine bk 1 ?_
  obtain ⟨a3,a4,a5,a6,h⟩ := bq2 h
  refine rs hc Kp9 [oN,oN,some (.el (I a3)),oN,oN,oN,some (.el (I a5)),oN,oN] [(0,sI a0),(1,sI b1),(5,I a1),(25,.bool (a3 != a5))] [] (ab (ix a4) (ix a6) tv) ?_
  refine ic h (fun a7 h => ?_) fun a7 h => ?_
  ·refine rs0 hc 1 [(4,.bool false)] [] ?_
   refine rt ?_
   obtain rfl := os h
   exact re [true]
  refine sk ?_
  refine rg0 hc 3 [(0,sI a0),(1,sI b1),(5,I (wr (a1 + 1)))] [] ?_
  refine Qcb ?_
  exact (laws_eqIntS_l0_ih _ _ h c hc)
 refine xt 0 ?_
 refine Qc5 ?_
 refine Qcc ?_
 obtain rfl := os h
 exact iv []
def Kpp (p : (List Int) × (List Int)) : Option (Bool) :=
 match p with
 | (a0,b1) =>
  if ((a0.length : Int) != (b1.length : Int)) = true then
  some false
  else
  (Kpm (a0,b1,0)) >>= fun fl => match fl with
  | .inl () =>
   some true
  | .inr r =>
   some r
def Kpq (p : (List Int) × (List Int)) (r : Bool) : Prop :=
 match p with
 | (a0,b1) => Q71 Tryz.prog 23 [sI a0,sI b1] (.bool r) []
theorem Kpr : ∀ p r,Kpp p = some r → Kpq p r := by
 rintro ⟨a0,b1⟩ r h
 unfold Kpp at h
 refine b0 Tryz.f23 B23 26 [(0,sI a0),(1,sI b1)] fun c hc => ?_
 refine rs0 hc 1 [(0,sI a0),(1,sI b1)] [] ?_
 refine sN ?_
 refine rs hc none [oN,some (.eqv (.no) ⟨[(7,I (a0.length : Int))],[],[]⟩),oN,some (.eqv (.no) ⟨[(9,I (b1.length : Int))],[],[]⟩),oN] [(0,sI a0),(1,sI b1),(10,.bool ((a0.length : Int) != (b1.length : Int)))] [] (ab (Qcz (d := 7) I a0) (Qcz (d := 9) I b1) tv) ?_
 refine ic h (fun a1 h => ?_) fun a1 h => ?_
 ·refine rs0 hc 1 [(4,.bool false)] [] ?_
  refine rt ?_
  obtain rfl := os h
  exact rq [true]
 refine sk ?_
 refine sN ?_
 refine rs0 hc 1 [(0,sI a0),(1,sI b1),(5,I 0)] [] ?_
 refine bk 0 ?_
 obtain ⟨fl,a2,h⟩ := Qct h
 have hL := Kpo _ _ a2 c hc
 refine lp ?_
 rcases fl with ⟨⟩ | r
 ·refine WpL.into (e := (.exit 0)) (mkS [] []) hL ?_
  refine Qc7 ?_
  refine rs0 hc 1 [(4,.bool true)] [] ?_
  refine rt ?_
  obtain rfl := os h
  exact rq [true]
 refine WpL.mono hL ?_
 rintro _ _ ⟨rfl,hfin⟩
 obtain rfl := os h
 exact ⟨.inl rfl,hfin⟩
def Kps (c : Ctx) : (Unit) ⊕ (Bool) → Exit → Q0a → Prop
 | .inl _ => Qcf c (.exit 0) (mkS [] [])
 | .inr r => Qco TIx Tryz.f79 [] (.bool r)
mutual
def Kpt (p : K01 × K01) : Option (Bool) :=
 match p with
 | (a0,b1) =>
  if (a0.fOp != b1.fOp) = true then
  some false
  else
  if (a0.fN != b1.fN) = true then
  some false
  else
  (Kpp (a0.fType,b1.fType)) >>= fun a1 =>
  if a1 = true then
  (Kpu (a0.fKids,b1.fKids)) >>= fun a2 =>
  if a2 = true then
  some true
  else
  some false
  else
  some false
 partial_fixpoint
def Kpu (p : (List K01) × (List K01)) : Option (Bool) :=
 match p with
 | (a0,b1) =>
  if ((a0.length : Int) != (b1.length : Int)) = true then
  some false
  else
  (Kpv (a0,b1,0)) >>= fun fl => match fl with
  | .inl () =>
   some true
  | .inr r =>
   some r
 partial_fixpoint
def Kpv (p : (List K01) × (List K01) × Int) : Option ((Unit) ⊕ (Bool)) :=
 match p with
 | (a0,b1,a1) =>
  if (decide (a1 < (a0.length : Int))) = true then
  (idx a0 a1) >>= fun a2 =>
  (idx b1 a1) >>= fun a3 =>
  (Kpt (a2,a3)) >>= fun a4 =>
  if a4 = true then
  Kpv (a0,b1,(wr (a1 + 1)))
  else
  some (.inr false)
  else
  some (.inl ())
 partial_fixpoint
end
def Kpw (p : K01 × K01) (r : Bool) : Prop :=
 match p with
 | (a0,b1) => Q71 Tryz.prog 26 [K1v a0,K1v b1] (.bool r) []
def Kpx (p : (List K01) × (List K01)) (r : Bool) : Prop :=
 match p with
 | (a0,b1) => Q71 Tryz.prog 79 [.sl (List.map K0g a0),.sl (List.map K0g b1)] (.bool r) []
def Kpy (p : (List K01) × (List K01) × Int) (fl : (Unit) ⊕ (Bool)) : Prop :=
 match p with
 | (a0,b1,a1) => ∀ c : Ctx,c.nt = 27 → WpL Tryz.prog c (cl (cl (cr (cl (cr (cr B79)))))) (Kps c fl) (mkS [(0,.sl (List.map K0g a0)),(1,.sl (List.map K0g b1)),(5,I a1)] [])
theorem Kpz : (∀ p r,Kpt p = some r → Kpw p r) ∧ (∀ p r,Kpu p = some r → Kpx p r) ∧ (∀ p r,Kpv p = some r → Kpy p r) := by
 refine Kpt.mutual_partial_correctness Kpw Kpx Kpy ?_ ?_ ?_
 ·rintro laws_eqTermS_f laws_eqTermS_ih ⟨a0,b1⟩ r h
  refine b0 Tryz.f26 B26 27 [(0,K1v a0),(1,K1v b1)] fun c hc => ?_
  refine rs hc none [some (.new 1),some (.new 2),oN] [(2,.ra 1 0),(3,.ra 2 0)] [(1,K1u a0),(2,K1u b1)] tv ?_
  refine sN ?_
  refine K8s hc 5 [(2,.ra 1 0),(3,.ra 2 0),(9,.bool (a0.fOp != b1.fOp))] ?_
  refine ic h (fun a1 h => ?_) fun a1 h => ?_
  ·refine rs0 hc 1 [(4,.bool false)] [] ?_
   refine rt ?_
   obtain rfl := os h
   exact rq [true]
  refine sk ?_
  refine sN ?_
  refine K8s hc 5 [(2,.ra 1 0),(3,.ra 2 0),(14,.bool (a0.fN != b1.fN))] ?_
  refine ic h (fun a2 h => ?_) fun a2 h => ?_
  ·refine rs0 hc 1 [(4,.bool false)] [] ?_
   refine rt ?_
   obtain rfl := os h
   exact rq [true]
  refine sk ?_
  refine sN ?_
  obtain ⟨a3,a4,h⟩ := Qct h
  refine rss hc none [oN,oN,oN,oN,oc (.bool a3),oN] [(2,.ra 1 0),(3,.ra 2 0),(20,.bool (!a3))] (cq (Kpr _ _ a4) K8b tv) ?_
  rcases is h with ⟨a5,h⟩ | ⟨a5,h⟩
  ·refine cF (!a3) (nF a5) ?_
   refine sk ?_
   refine sN ?_
   obtain ⟨a6,a7,h⟩ := Qct h
   refine rs hc none [oN,oN,oN,oN,oc (.bool a6),oN] [(26,.bool (!a6))] [] (cq (laws_eqTermS_ih _ _ a7) K8c tv) ?_
   rcases is h with ⟨a8,h⟩ | ⟨a8,h⟩
   ·refine cF (!a6) (nF a8) ?_
    refine sk ?_
    refine rs0 hc 1 [(4,.bool true)] [] ?_
    refine rt ?_
    obtain rfl := os h
    exact rq [true]
   refine cT (!a6) (nT a8) ?_
   refine rs0 hc 1 [(4,.bool false)] [] ?_
   refine rt ?_
   obtain rfl := os h
   exact rq [true]
  refine cT (!a3) (nT a5) ?_
  refine rs0 hc 1 [(4,.bool false)] [] ?_
  refine rt ?_
  obtain rfl := os h
  exact rq [true]
 ·rintro laws_eqTermS_l0_f laws_eqTermS_l0_ih ⟨a0,b1⟩ r h
  refine b0 Tryz.f79 B79 27 [(0,.sl (List.map K0g a0)),(1,.sl (List.map K0g b1))] fun c hc => ?_
  refine rs0 hc 1 [(0,.sl (List.map K0g a0)),(1,.sl (List.map K0g b1))] [] ?_
  refine sN ?_
  refine rs hc none [oN,some (.eqv (.no) ⟨[(7,I (a0.length : Int))],[],[]⟩),oN,some (.eqv (.no) ⟨[(9,I (b1.length : Int))],[],[]⟩),oN] [(0,.sl (List.map K0g a0)),(1,.sl (List.map K0g b1)),(10,.bool ((a0.length : Int) != (b1.length : Int)))] [] (ab (Qcz (d := 7) K0g a0) (Qcz (d := 9) K0g b1) tv) ?_
  refine ic h (fun a1 h => ?_) fun a1 h => ?_
  ·refine rs0 hc 1 [(4,.bool false)] [] ?_
   refine rt ?_
   obtain rfl := os h
   exact rq [true]
  refine sk ?_
  refine sN ?_
  refine rs0 hc 1 [(0,.sl (List.map K0g a0)),(1,.sl (List.map K0g b1)),(5,I 0)] [] ?_
  refine bk 0 ?_
  obtain ⟨fl,a9,h⟩ := Qct h
  have hL := laws_eqTermS_l0_ih _ _ a9 c hc
  refine lp ?_
  rcases fl with ⟨⟩ | r
  ·refine WpL.into (e := (.exit 0)) (mkS [] []) hL ?_
   refine Qc7 ?_
   refine rs0 hc 1 [(4,.bool true)] [] ?_
   refine rt ?_
   obtain rfl := os h
   exact rq [true]
  refine WpL.mono hL ?_
  rintro _ _ ⟨rfl,hfin⟩
  obtain rfl := os h
  exact ⟨.inl rfl,hfin⟩
 ·rintro laws_eqTerm_f laws_eqTermS_l0_f laws_eqTerm_ih laws_eqTermS_l0_ih ⟨a0,b1,b2⟩ r h
  intro c hc
  refine WpL.step ?_
  refine sN ?_
  refine rs hc none [oN,oN,some (.eqv (.no) ⟨[(13,I (a0.length : Int))],[],[]⟩),oN] [(0,.sl (List.map K0g a0)),(1,.sl (List.map K0g b1)),(5,I b2),(14,.bool (decide (b2 < (a0.length : Int))))] [] (ai (Qcz (d := 13) K0g a0) tv) ?_
  refine ic h (fun b3 h => ?_) fun b3 h => ?_
  ·refine sk ?_
   refine sN ?_
   refine bk 1 ?_
   obtain ⟨b4,b5,b6,b7,b8,b9,h⟩ := bq3 h
   refine rs hc Kpa [oN,oN,some (.el (K1v b4)),oN,oN,oN,some (.el (K1v b6)),oN,oc (.bool b8),oN] [(0,.sl (List.map K0g a0)),(1,.sl (List.map K0g b1)),(5,I b2),(26,.bool (!b8))] [] (ab (Qcx b5 (K0n b4)) (Qcx b7 (K0n b6)) (cq (laws_eqTerm_ih _ _ b9) K8d tv)) ?_
   rcases is h with ⟨c0,h⟩ | ⟨c0,h⟩
   ·refine cF (!b8) (nF c0) ?_
    refine sk ?_
    refine rg0 hc 3 [(0,.sl (List.map K0g a0)),(1,.sl (List.map K0g b1)),(5,I (wr (b2 + 1)))] [] ?_
    refine Qcb ?_
    exact (laws_eqTermS_l0_ih _ _ h c hc)
   refine cT (!b8) (nT c0) ?_
   refine rs0 hc 1 [(4,.bool false)] [] ?_
   refine rt ?_
   obtain rfl := os h
   exact re [true]
  refine xt 0 ?_
  refine Qc5 ?_
  refine Qcc ?_
  obtain rfl := os h
  exact iv []
theorem Kq0 : ∀ p r,Kpt p = some r → Kpw p r := Kpz.1
theorem Kq1 : ∀ p r,Kpu p = some r → Kpx p r := Kpz.2.1
theorem Kq2 : ∀ p r,Kpv p = some r → Kpy p r := Kpz.2.2
def Kq3 (c : Ctx) : (Unit) ⊕ (Bool) → Exit → Q0a → Prop
 | .inl _ => Qcf c (.exit 0) (mkS [] [])
 | .inr r => Qco TIx Tryz.f78 [] (.bool r)
def Kq4 (p : (List Bool) × (List Bool) × Int) : Option ((Unit) ⊕ (Bool)) :=
 match p with
 | (a0,b1,a1) =>
  if (decide (a1 < (a0.length : Int))) = true then
  (idx a0 a1) >>= fun a2 =>
  (idx b1 a1) >>= fun a3 =>
  if (a2 == a3) = true then
  Kq4 (a0,b1,(wr (a1 + 1)))
  else
  some (.inr false)
  else
  some (.inl ())
 partial_fixpoint
def Kq5 (p : (List Bool) × (List Bool) × Int) (fl : (Unit) ⊕ (Bool)) : Prop :=
 match p with
 | (a0,b1,a1) => ∀ c : Ctx,c.nt = 26 → WpL Tryz.prog c (cl (cl (cr (cl (cr (cr B78)))))) (Kq3 c fl) (mkS [(0,sB a0),(1,sB b1),(5,I a1)] [])
theorem Kq6 : ∀ p r,Kq4 p = some r → Kq5 p r := by
 refine Kq4.partial_correctness Kq5 ?_
 rintro laws_eqBoolS_l0_f laws_eqBoolS_l0_ih ⟨a0,b1,a1⟩ r h
 intro c hc
 refine WpL.step ?_
 refine sN ?_
 refine rs hc none [oN,oN,some (.eqv (.no) ⟨[(13,I (a0.length : Int))],[],[]⟩),oN] [(0,sB a0),(1,sB b1),(5,I a1),(14,.bool (decide (a1 < (a0.length : Int))))] [] (ai (Qcz (d := 13) AV.bool a0) tv) ?_
 refine ic h (fun a2 h => ?_) fun a2 h => ?_
 ·refine sk ?_
  refine sN ?_
  refine bk 1 ?_
  obtain ⟨a3,a4,a5,a6,h⟩ := bq2 h
  refine rs hc Kp9 [oN,oN,some (.el (.bool a3)),oN,oN,oN,some (.el (.bool a5)),oN,oN] [(0,sB a0),(1,sB b1),(5,I a1),(25,.bool (!(a3 == a5)))] [] (ab (Qcx (enc := AV.bool) (x := .bool a3) a4 (Qda a3)) (Qcx (enc := AV.bool) (x := .bool a5) a6 (Qda a5)) tv) ?_
  rcases is h with ⟨a7,h⟩ | ⟨a7,h⟩
  ·refine cF ((!(a3 == a5))) (nF a7) ?_
   refine sk ?_
   refine rg0 hc 3 [(0,sB a0),(1,sB b1),(5,I (wr (a1 + 1)))] [] ?_
   refine Qcb ?_
   exact (laws_eqBoolS_l0_ih _ _ h c hc)
  refine cT ((!(a3 == a5))) (nT a7) ?_
  refine rs0 hc 1 [(4,.bool false)] [] ?_
  refine rt ?_
  obtain rfl := os h
  exact re [true]
 refine xt 0 ?_
 refine Qc5 ?_
 refine Qcc ?_
 obtain rfl := os h
 exact iv []
def Kq7 (p : (List Bool) × (List Bool)) : Option (Bool) :=
 match p with
 | (a0,b1) =>
  if ((a0.length : Int) != (b1.length : Int)) = true then
  some false
  else
  (Kq4 (a0,b1,0)) >>= fun fl => match fl with
  | .inl () =>
   some true
  | .inr r =>
   some r
def Kq8 (p : (List Bool) × (List Bool)) (r : Bool) : Prop :=
 match p with
 | (a0,b1) => Q71 Tryz.prog 78 [sB a0,sB b1] (.bool r) []
theorem Kq9 : ∀ p r,Kq7 p = some r → Kq8 p r := by
 rintro ⟨a0,b1⟩ r h
 unfold Kq7 at h
 refine b0 Tryz.f78 B78 26 [(0,sB a0),(1,sB b1)] fun c hc => ?_
 refine rs0 hc 1 [(0,sB a0),(1,sB b1)] [] ?_
 refine sN ?_
 refine rs hc none [oN,some (.eqv (.no) ⟨[(7,I (a0.length : Int))],[],[]⟩),oN,some (.eqv (.no) ⟨[(9,I (b1.length : Int))],[],[]⟩),oN] [(0,sB a0),(1,sB b1),(10,.bool ((a0.length : Int) != (b1.length : Int)))] [] (ab (Qcz (d := 7) AV.bool a0) (Qcz (d := 9) AV.bool b1) tv) ?_
 refine ic h (fun a1 h => ?_) fun a1 h => ?_
 ·refine rs0 hc 1 [(4,.bool false)] [] ?_
  refine rt ?_
  obtain rfl := os h
  exact rq [true]
 refine sk ?_
 refine sN ?_
 refine rs0 hc 1 [(0,sB a0),(1,sB b1),(5,I 0)] [] ?_
 refine bk 0 ?_
 obtain ⟨fl,a2,h⟩ := Qct h
 have hL := Kq6 _ _ a2 c hc
 refine lp ?_
 rcases fl with ⟨⟩ | r
 ·refine WpL.into (e := (.exit 0)) (mkS [] []) hL ?_
  refine Qc7 ?_
  refine rs0 hc 1 [(4,.bool true)] [] ?_
  refine rt ?_
  obtain rfl := os h
  exact rq [true]
 refine WpL.mono hL ?_
 rintro _ _ ⟨rfl,hfin⟩
 obtain rfl := os h
 exact ⟨.inl rfl,hfin⟩
def Kqa (p : K00 × K00) : Option (Bool) :=
 match p with
 | (a0,b1) =>
  if (a0.fSize != b1.fSize) = true then
  some false
  else
  (Kpp (a0.fPlus,b1.fPlus)) >>= fun a1 =>
  if a1 = true then
  (Kpp (a0.fTimes,b1.fTimes)) >>= fun a2 =>
  if a2 = true then
  (Kq7 (a0.fBelow,b1.fBelow)) >>= fun a3 =>
  if a3 = true then
  some true
  else
  some false
  else
  some false
  else
  some false
def Kqb (p : K00 × K00) (r : Bool) : Prop :=
 match p with
 | (a0,b1) => Q71 Tryz.prog 24 [K1t a0,K1t b1] (.bool r) []
theorem Kqc : ∀ p r,Kqa p = some r → Kqb p r := by
 rintro ⟨a0,b1⟩ r h
 unfold Kqa at h
 refine b0 Tryz.f24 B24 28 [(0,K1t a0),(1,K1t b1)] fun c hc => ?_
 refine rs hc none [some (.new 1),some (.new 2),oN] [(2,.ra 1 0),(3,.ra 2 0)] [(1,K1s a0),(2,K1s b1)] tv ?_
 refine sN ?_
 refine K8s hc 5 [(2,.ra 1 0),(3,.ra 2 0),(9,.bool (a0.fSize != b1.fSize))] ?_
 refine ic h (fun a1 h => ?_) fun a1 h => ?_
 ·refine rs0 hc 1 [(4,.bool false)] [] ?_
  refine rt ?_
  obtain rfl := os h
  exact rq [true]
 refine sk ?_
 refine sN ?_
 obtain ⟨a2,a3,h⟩ := Qct h
 refine rss hc none [oN,oN,oN,oN,oc (.bool a2),oN] [(2,.ra 1 0),(3,.ra 2 0),(15,.bool (!a2))] (cq (Kpr _ _ a3) K8b tv) ?_
 rcases is h with ⟨a4,h⟩ | ⟨a4,h⟩
 ·refine cF (!a2) (nF a4) ?_
  refine sk ?_
  refine sN ?_
  obtain ⟨a5,a6,h⟩ := Qct h
  refine rss hc none [oN,oN,oN,oN,oc (.bool a5),oN] [(2,.ra 1 0),(3,.ra 2 0),(21,.bool (!a5))] (cq (Kpr _ _ a6) K8b tv) ?_
  rcases is h with ⟨a7,h⟩ | ⟨a7,h⟩
  ·refine cF (!a5) (nF a7) ?_
   refine sk ?_
   refine sN ?_
   obtain ⟨a8,a9,h⟩ := Qct h
   refine rs hc none [oN,oN,oN,oN,oc (.bool a8),oN] [(27,.bool (!a8))] [] (cq (Kq9 _ _ a9) K8e tv) ?_
   rcases is h with ⟨b2,h⟩ | ⟨b2,h⟩
   ·refine cF (!a8) (nF b2) ?_
    refine sk ?_
    refine rs0 hc 1 [(4,.bool true)] [] ?_
    refine rt ?_
    obtain rfl := os h
    exact rq [true]
   refine cT (!a8) (nT b2) ?_
   refine rs0 hc 1 [(4,.bool false)] [] ?_
   refine rt ?_
   obtain rfl := os h
   exact rq [true]
  refine cT (!a5) (nT a7) ?_
  refine rs0 hc 1 [(4,.bool false)] [] ?_
  refine rt ?_
  obtain rfl := os h
  exact rq [true]
 refine cT (!a2) (nT a4) ?_
 refine rs0 hc 1 [(4,.bool false)] [] ?_
 refine rt ?_
 obtain rfl := os h
 exact rq [true]
def Kqd (c : Ctx) : (Unit) ⊕ (Bool) → Exit → Q0a → Prop
 | .inl _ => Qcf c (.exit 0) (mkS [] [])
 | .inr r => Qco TIx Tryz.f25 [] (.bool r)
def Kqe (p : LL × LL × Int) : Option ((Unit) ⊕ (Bool)) :=
 match p with
 | (a0,b1,a1) =>
  if (decide (a1 < (a0.length : Int))) = true then
  (idx a0 a1) >>= fun a2 =>
  (idx b1 a1) >>= fun a3 =>
  (Kpp (a2,a3)) >>= fun a4 =>
  if a4 = true then
  Kqe (a0,b1,(wr (a1 + 1)))
  else
  some (.inr false)
  else
  some (.inl ())
 partial_fixpoint
def Kqf (p : LL × LL × Int) (fl : (Unit) ⊕ (Bool)) : Prop :=
 match p with
 | (a0,b1,a1) => ∀ c : Ctx,c.nt = 27 → WpL Tryz.prog c (cl (cl (cr (cl (cr (cr B25)))))) (Kqd c fl) (mkS [(0,sL a0),(1,sL b1),(5,I a1)] [])
theorem Kqg : ∀ p r,Kqe p = some r → Kqf p r := by
 refine Kqe.partial_correctness Kqf ?_
 rintro laws_eqIntSS_l0_f laws_eqIntSS_l0_ih ⟨a0,b1,a1⟩ r h
 intro c hc
 refine WpL.step ?_
 refine sN ?_
 refine rs hc none [oN,oN,some (.eqv (.no) ⟨[(13,I (a0.length : Int))],[],[]⟩),oN] [(0,sL a0),(1,sL b1),(5,I a1),(14,.bool (decide (a1 < (a0.length : Int))))] [] (ai (Qcz (d := 13) K10 a0) tv) ?_
 refine ic h (fun a2 h => ?_) fun a2 h => ?_
 ·refine sk ?_
  refine sN ?_
  refine bk 1 ?_
  obtain ⟨a3,a4,a5,a6,a7,a8,h⟩ := bq3 h
  refine rs hc Kpa [oN,oN,some (.el (sI a3)),oN,oN,oN,some (.el (sI a5)),oN,oc (.bool a7),oN] [(0,sL a0),(1,sL b1),(5,I a1),(26,.bool (!a7))] [] (ab (xL a4) (xL a6) (cq (Kpr _ _ a8) K8b tv)) ?_
  rcases is h with ⟨a9,h⟩ | ⟨a9,h⟩
  ·refine cF (!a7) (nF a9) ?_
   refine sk ?_
   refine rg0 hc 3 [(0,sL a0),(1,sL b1),(5,I (wr (a1 + 1)))] [] ?_
   refine Qcb ?_
   exact (laws_eqIntSS_l0_ih _ _ h c hc)
  refine cT (!a7) (nT a9) ?_
  refine rs0 hc 1 [(4,.bool false)] [] ?_
  refine rt ?_
  obtain rfl := os h
  exact re [true]
 refine xt 0 ?_
 refine Qc5 ?_
 refine Qcc ?_
 obtain rfl := os h
 exact iv []
def Kqh (p : LL × LL) : Option (Bool) :=
 match p with
 | (a0,b1) =>
  if ((a0.length : Int) != (b1.length : Int)) = true then
  some false
  else
  (Kqe (a0,b1,0)) >>= fun fl => match fl with
  | .inl () =>
   some true
  | .inr r =>
   some r
def Kqi (p : LL × LL) (r : Bool) : Prop :=
 match p with
 | (a0,b1) => Q71 Tryz.prog 25 [sL a0,sL b1] (.bool r) []
theorem Kqj : ∀ p r,Kqh p = some r → Kqi p r := by
 rintro ⟨a0,b1⟩ r h
 unfold Kqh at h
 refine b0 Tryz.f25 B25 27 [(0,sL a0),(1,sL b1)] fun c hc => ?_
 refine rs0 hc 1 [(0,sL a0),(1,sL b1)] [] ?_
 refine sN ?_
 refine rs hc none [oN,some (.eqv (.no) ⟨[(7,I (a0.length : Int))],[],[]⟩),oN,some (.eqv (.no) ⟨[(9,I (b1.length : Int))],[],[]⟩),oN] [(0,sL a0),(1,sL b1),(10,.bool ((a0.length : Int) != (b1.length : Int)))] [] (ab (Qcz (d := 7) K10 a0) (Qcz (d := 9) K10 b1) tv) ?_
 refine ic h (fun a1 h => ?_) fun a1 h => ?_
 ·refine rs0 hc 1 [(4,.bool false)] [] ?_
  refine rt ?_
  obtain rfl := os h
  exact rq [true]
 refine sk ?_
 refine sN ?_
 refine rs0 hc 1 [(0,sL a0),(1,sL b1),(5,I 0)] [] ?_
 refine bk 0 ?_
 obtain ⟨fl,a2,h⟩ := Qct h
 have hL := Kqg _ _ a2 c hc
 refine lp ?_
 rcases fl with ⟨⟩ | r
 ·refine WpL.into (e := (.exit 0)) (mkS [] []) hL ?_
  refine Qc7 ?_
  refine rs0 hc 1 [(4,.bool true)] [] ?_
  refine rt ?_
  obtain rfl := os h
  exact rq [true]
 refine WpL.mono hL ?_
 rintro _ _ ⟨rfl,hfin⟩
 obtain rfl := os h
 exact ⟨.inl rfl,hfin⟩
def Kqk (c : Ctx) : Int × (List Int) → Exit → Q0a → Prop
 | (a0,a1) => Qcf c (.exit 0) (mkS [(1,I a0)] [(1000,rI a1)])
def Kql (p : (List Int) × Int × Int) : Option (Int × (List Int)) :=
 match p with
 | (a0,a1,a2) =>
  if (decide (a2 < (a0.length : Int))) = true then
  (idx a0 a2) >>= fun a3 =>
  Kql ((List.set a0 (Int.toNat a2) a1),(wr (a1 + 1)),(wr (a2 + 1)))
  else
  some ((a1,a0))
 partial_fixpoint
def Kqm (p : (List Int) × Int × Int) (fl : Int × (List Int)) : Prop :=
 match p with
 | (a0,a1,a2) => ∀ c : Ctx,c.nt = 19 → WpL Tryz.prog c (cl (cl (cr (cl (cr B30))))) (Kqk c fl) (mkS [(0,.rs 1000),(1,I a1),(5,I a2)] [(1000,rI a0)])
theorem Kqn : ∀ p r,Kql p = some r → Kqm p r := by
 refine Kql.partial_correctness Kqm ?_
 rintro laws_markIntS_l0_f laws_markIntS_l0_ih ⟨a0,a1,a2⟩ r h
 intro c hc
 refine WpL.step ?_
 refine sN ?_
 refine rss hc none [oN,oN,some (.eqv (.no) ⟨[(8,I (a0.length : Int))],[],[]⟩),oN] [(0,.rs 1000),(1,I a1),(5,I a2),(9,.bool (decide (a2 < (a0.length : Int))))] (ai (Qcz (d := 8) I a0) tv) ?_
 refine ic h (fun a3 h => ?_) fun a3 h => ?_
 ·refine sk ?_
  refine sN ?_
  refine bk 1 ?_
  obtain ⟨a4,a5,h⟩ := Qct h
  refine rs hc none [oN,oN,oN,oN,some (.eqv (.mk 0 true) ⟨[],[(1000,some (.arr (List.map I (List.set a0 (Int.toNat a2) a1))))],[]⟩)] [(0,.rs 1000),(1,I a1),(5,I a2)] [(1000,.arr (List.map I (List.set a0 (Int.toNat a2) a1)))] (ac (Qcy (enc := I) a5) (congrArg (fun z => (⟨[],[(1000,some (.arr z))],[]⟩ : Wr)) (Qdw (enc := I) (i := Int.toNat a2) (l := a0) (v := a1) (x := I a1) (Qd8 a1))) (Qdx (enc := I) (sz := 1) Qdc a5) tv) ?_
  refine K8r hc 3 [(0,.rs 1000),(1,I (wr (a1 + 1))),(5,I a2)] ?_
  refine K8r hc 3 [(0,.rs 1000),(1,I (wr (a1 + 1))),(5,I (wr (a2 + 1)))] ?_
  refine Qcb ?_
  exact (laws_markIntS_l0_ih _ _ h c hc)
 refine xt 0 ?_
 refine Qc5 ?_
 refine Qcc ?_
 obtain ⟨rfl,rfl⟩ := Prod.mk.inj (Option.some.inj h)
 exact iv []
def Kqo (p : (List Int) × Int) : Option (Int × (List Int)) :=
 match p with
 | (a0,k1) =>
  (Kql (a0,k1,0)) >>= fun (a1,a2) =>
  some (a1,a2)
def Kqp (p : (List Int) × Int) (r : Int × (List Int)) : Prop :=
 match p with
 | (a0,k1) => Q71 Tryz.prog 30 [oI a0,I k1] (I r.1) [oI r.2,.undef]
theorem Kqq : ∀ p r,Kqo p = some r → Kqp p r := by
 rintro ⟨a0,k1⟩ r h
 unfold Kqo at h
 refine Q71.bodyO K2w (fn := Tryz.f30) (code := B30) (by kernel_rfl) (by kernel_rfl) (by kernel_rfl) (nt := 19) (by kernel_rfl) (by kernel_rfl) (T := [(0,.rs 1000),(1,I k1)]) (O := [(1000,rI a0)]) (by kernel_rfl) (by kernel_rfl) (fun c hc => ?_)
 refine K8s hc 1 [(0,.rs 1000),(1,I k1)] ?_
 refine sN ?_
 refine K8s hc 1 [(0,.rs 1000),(1,I k1),(5,I 0)] ?_
 refine bk 0 ?_
 obtain ⟨⟨a1,a2⟩,a3,h⟩ := Qct h
 have hL := Kqn _ _ a3 c hc
 refine lp ?_
 refine WpL.into (e := (.exit 0)) (mkS [(1,I a1)] [(1000,rI a2)]) hL ?_
 refine Qc7 ?_
 refine K8s hc 2 [(4,I a1)] ?_
 refine rt ?_
 obtain rfl := os h
 exact Qcq.ret (fl := [true]) (by kernel_rfl)
def Kqr (c : Ctx) : Int × (List Bool) → Exit → Q0a → Prop
 | (a0,a1) => Qcf c (.exit 0) (mkS [(1,I a0)] [(1000,.arr (List.map AV.bool a1))])
def Kqs (p : (List Bool) × Int × Int) : Option (Int × (List Bool)) :=
 match p with
 | (a0,a1,a2) =>
  if (decide (a2 < (a0.length : Int))) = true then
  (idx a0 a2) >>= fun a3 =>
  Kqs ((List.set a0 (Int.toNat a2) ((Int.tmod a1 3) == 0)),(wr (a1 + 1)),(wr (a2 + 1)))
  else
  some ((a1,a0))
 partial_fixpoint
def Kqt (p : (List Bool) × Int × Int) (fl : Int × (List Bool)) : Prop :=
 match p with
 | (a0,a1,a2) => ∀ c : Ctx,c.nt = 21 → WpL Tryz.prog c (cl (cl (cr (cl (cr B80))))) (Kqr c fl) (mkS [(0,.rs 1000),(1,I a1),(5,I a2)] [(1000,.arr (List.map AV.bool a0))])
theorem Kqu : ∀ p r,Kqs p = some r → Kqt p r := by
 refine Kqs.partial_correctness Kqt ?_
 rintro laws_markBoolS_l0_f laws_markBoolS_l0_ih ⟨a0,a1,a2⟩ r h
 intro c hc
 refine WpL.step ?_
 refine sN ?_
 refine rss hc none [oN,oN,some (.eqv (.no) ⟨[(8,I (a0.length : Int))],[],[]⟩),oN] [(0,.rs 1000),(1,I a1),(5,I a2),(9,.bool (decide (a2 < (a0.length : Int))))] (ai (Qcz (d := 8) AV.bool a0) tv) ?_
 refine ic h (fun a3 h => ?_) fun a3 h => ?_
 ·refine sk ?_
  refine sN ?_
  refine bk 1 ?_
  obtain ⟨a4,a5,h⟩ := Qct h
  refine rs hc none [oN,oN,oN,oN,oN,oN,some (.eqv (.mk 0 true) ⟨[],[(1000,some (.arr (List.map AV.bool (List.set a0 (Int.toNat a2) ((Int.tmod a1 3) == 0)))))],[]⟩)] [(0,.rs 1000),(1,I a1),(5,I a2)] [(1000,.arr (List.map AV.bool (List.set a0 (Int.toNat a2) ((Int.tmod a1 3) == 0))))] (ad ((by decide) : (3 : Int) ≠ 0) (Qcy (enc := AV.bool) a5) (congrArg (fun z => (⟨[],[(1000,some (.arr z))],[]⟩ : Wr)) (Qdw (enc := AV.bool) (i := Int.toNat a2) (l := a0) (v := ((Int.tmod a1 3) == 0)) (x := AV.bool ((Int.tmod a1 3) == 0)) (Qda ((Int.tmod a1 3) == 0)))) (Qdx (enc := AV.bool) (sz := 1) Qde a5) tv) ?_
  refine K8r hc 3 [(0,.rs 1000),(1,I (wr (a1 + 1))),(5,I a2)] ?_
  refine K8r hc 3 [(0,.rs 1000),(1,I (wr (a1 + 1))),(5,I (wr (a2 + 1)))] ?_
  refine Qcb ?_
  exact (laws_markBoolS_l0_ih _ _ h c hc)
 refine xt 0 ?_
 refine Qc5 ?_
 refine Qcc ?_
 obtain ⟨rfl,rfl⟩ := Prod.mk.inj (Option.some.inj h)
 exact iv []
def Kqv (p : (List Bool) × Int) : Option (Int × (List Bool)) :=
 match p with
 | (a0,k1) =>
  (Kqs (a0,k1,0)) >>= fun (a1,a2) =>
  some (a1,a2)
def Kqw (p : (List Bool) × Int) (r : Int × (List Bool)) : Prop :=
 match p with
 | (a0,k1) => Q71 Tryz.prog 80 [.osl (List.map AV.bool a0),I k1] (I r.1) [.osl (List.map AV.bool r.2),.undef]
theorem Kqx : ∀ p r,Kqv p = some r → Kqw p r := by
 rintro ⟨a0,k1⟩ r h
 unfold Kqv at h
 refine Q71.bodyO K2w (fn := Tryz.f80) (code := B80) (by kernel_rfl) (by kernel_rfl) (by kernel_rfl) (nt := 21) (by kernel_rfl) (by kernel_rfl) (T := [(0,.rs 1000),(1,I k1)]) (O := [(1000,.arr (List.map AV.bool a0))]) (by kernel_rfl) (by kernel_rfl) (fun c hc => ?_)
 refine K8s hc 1 [(0,.rs 1000),(1,I k1)] ?_
 refine sN ?_
 refine K8s hc 1 [(0,.rs 1000),(1,I k1),(5,I 0)] ?_
 refine bk 0 ?_
 obtain ⟨⟨a1,a2⟩,a3,h⟩ := Qct h
 have hL := Kqu _ _ a3 c hc
 refine lp ?_
 refine WpL.into (e := (.exit 0)) (mkS [(1,I a1)] [(1000,.arr (List.map AV.bool a2))]) hL ?_
 refine Qc7 ?_
 refine K8s hc 2 [(4,I a1)] ?_
 refine rt ?_
 obtain rfl := os h
 exact Qcq.ret (fl := [true]) (by kernel_rfl)
def Kqy (p : K00 × Int) : Option (Int × K00) :=
 match p with
 | (a0,k1) =>
  (Kqo (a0.fPlus,k1)) >>= fun (a1,a2) =>
  (Kqo (a0.fTimes,a1)) >>= fun (a3,a4) =>
  (Kqv (a0.fBelow,a3)) >>= fun (a5,a6) =>
  some (a5,(K00.mk a0.fSize a2 a4 a6))
def Kqz (p : K00 × Int) (r : Int × K00) : Prop :=
 match p with
 | (a0,k1) => Q71 Tryz.prog 27 [K22 a0,I k1] (I r.1) [.agg [.undef,.osl (List.map I r.2.fPlus),.osl (List.map I r.2.fTimes),.osl (List.map AV.bool r.2.fBelow)],.undef]
theorem Kr0 : ∀ p r,Kqy p = some r → Kqz p r := by
 rintro ⟨a0,k1⟩ r h
 unfold Kqy at h
 refine Q71.bodyO K2w (fn := Tryz.f27) (code := B27) (by kernel_rfl) (by kernel_rfl) (by kernel_rfl) (nt := 18) (by kernel_rfl) (by kernel_rfl) (T := [(0,.agg [I a0.fSize,.rs 1000,.rs 1001,.rs 1002]),(1,I k1)]) (O := [(1000,rI a0.fPlus),(1001,rI a0.fTimes),(1002,.arr (List.map AV.bool a0.fBelow))]) (by kernel_rfl) (by kernel_rfl) (fun c hc => ?_)
 refine rs hc none [some (.new 1),oN] [(1,I k1),(2,.ra 1 0)] [(1,.box [I a0.fSize,.rs 1000,.rs 1001,.rs 1002]),(1000,rI a0.fPlus),(1001,rI a0.fTimes),(1002,.arr (List.map AV.bool a0.fBelow))] tv ?_
 obtain ⟨⟨a1,a2⟩,a3,h⟩ := Qct h
 refine rs hc none [oN,oN,oN,some (.call (I a1) [oI a2,.undef] 1),oN] [(1,I a1),(2,.ra 1 0)] [(1,.box [I a0.fSize,.rs 1000,.rs 1001,.rs 1002]),(1000,rI a2),(1001,rI a0.fTimes),(1002,.arr (List.map AV.bool a0.fBelow))] (ab (Kqq _ _ a3) K8h tv) ?_
 obtain ⟨⟨a4,a5⟩,a6,h⟩ := Qct h
 refine rs hc none [oN,oN,oN,some (.call (I a4) [oI a5,.undef] 1),oN] [(1,I a4),(2,.ra 1 0)] [(1,.box [I a0.fSize,.rs 1000,.rs 1001,.rs 1002]),(1000,rI a2),(1001,rI a5),(1002,.arr (List.map AV.bool a0.fBelow))] (ab (Kqq _ _ a6) K8h tv) ?_
 obtain ⟨⟨a7,a8⟩,a9,h⟩ := Qct h
 refine rs hc none [oN,oN,oN,some (.call (I a7) [.osl (List.map AV.bool a8),.undef] 1),oN] [(1,I a7)] [(1000,rI a2),(1001,rI a5),(1002,.arr (List.map AV.bool a8))] (ab (Kqx _ _ a9) K8i tv) ?_
 refine K8s hc 2 [(4,I a7)] ?_
 refine rt ?_
 obtain rfl := os h
 exact Qcq.ret (fl := [true]) (by kernel_rfl)
def Kr1 (c : Ctx) : Int × LL → Exit → Q0a → Prop
 | (a0,a1) => Qcf c (.exit 0) (mkS [(1,I a0)] [(1000,.arr (List.map K15 a1))])
def Kr2 (p : LL × Int × Int) : Option (Int × LL) :=
 match p with
 | (a0,a1,a2) =>
  if (decide (a2 < (a0.length : Int))) = true then
  (idx a0 a2) >>= fun a3 =>
  (Kqo (a3,a1)) >>= fun (a4,a5) =>
  Kr2 ((List.set a0 (Int.toNat a2) a5),a4,(wr (a2 + 1)))
  else
  some ((a1,a0))
 partial_fixpoint
def Kr3 (p : LL × Int × Int) (fl : Int × LL) : Prop :=
 match p with
 | (a0,a1,a2) => ∀ c : Ctx,c.nt = 19 → WpL Tryz.prog c (cl (cl (cr (cl (cr B28))))) (Kr1 c fl) (mkS [(0,.rs 1000),(1,I a1),(5,I a2)] [(1000,.arr (List.map K15 a0))])
theorem Kr4 : ∀ p r,Kr2 p = some r → Kr3 p r := by
 refine Kr2.partial_correctness Kr3 ?_
 rintro laws_markIntSS_l0_f laws_markIntSS_l0_ih ⟨a0,a1,a2⟩ r h
 intro c hc
 refine WpL.step ?_
 refine sN ?_
 refine rss hc none [oN,oN,some (.eqv (.no) ⟨[(8,I (a0.length : Int))],[],[]⟩),oN] [(0,.rs 1000),(1,I a1),(5,I a2),(9,.bool (decide (a2 < (a0.length : Int))))] (ai (Qcz (d := 8) K15 a0) tv) ?_
 refine ic h (fun a3 h => ?_) fun a3 h => ?_
 ·refine sk ?_
  refine sN ?_
  refine bk 1 ?_
  obtain ⟨a4,a5,h⟩ := Qct h
  refine Wp.view (fun a w hv => SRx.openL 1000 (Int.toNat a2) 0 2 [2,1000] (xs := List.map K15 a0) (ys := List.map I a4) (x0 := oI a4) hv (by kernel_rfl) (Qcx a5 (K16 a4)).2 (by kernel_rfl) (by kernel_rfl) (by kernel_rfl)) (?_ : Wp Tryz.prog c _ _ (mkS [(0,.rs 1000),(1,I a1),(5,I a2),(9,.bool (decide (a2 < (a0.length : Int))))] [(2,rI a4),(1000,.arx (List.map K15 a0) (Int.toNat a2) 0 2)]))
  obtain ⟨⟨a6,a7⟩,a8,h⟩ := Qct h
  refine rg hc none [oN,oN,oN,some (.el (oI a4)),oN,some (.call (I a6) [oI a7,.undef] 1),oN] [(0,.rs 1000),(1,I a6),(5,I a2)] [(2,rI a7),(1000,.arx (List.map K15 a0) (Int.toNat a2) 0 2)] (ad (Qcy (enc := K15) a5) (And.intro (Qcx a5 (K16 a4)).2 (rfl : Int.toNat a2 = Int.toNat a2)) (Kqq _ _ a8) K8h tv) ?_
  refine Wp.view (fun a w hv => SRx.closeL 1000 (Int.toNat a2) 0 2 [1000] (xs := List.map K15 a0) (ys := List.map I a7) (x0 := oI a4) (x1 := oI a7) hv (by kernel_rfl) (by kernel_rfl) (by kernel_rfl) (Qcx a5 (K16 a4)).2 (by kernel_rfl) (by kernel_rfl : _ = oI a7) (Qdw (enc := K15) (i := Int.toNat a2) (l := a0) (v := a7) (x := oI a7) (K16 a7)) (by kernel_rfl)) (?_ : Wp Tryz.prog c _ _ (mkS [(0,.rs 1000),(1,I a6),(5,I a2)] [(1000,.arr (List.map K15 (List.set a0 (Int.toNat a2) a7)))]))
  refine K8r hc 3 [(0,.rs 1000),(1,I a6),(5,I (wr (a2 + 1)))] ?_
  refine Qcb ?_
  exact (laws_markIntSS_l0_ih _ _ h c hc)
 refine xt 0 ?_
 refine Qc5 ?_
 refine Qcc ?_
 obtain ⟨rfl,rfl⟩ := Prod.mk.inj (Option.some.inj h)
 exact iv []
def Kr5 (p : LL × Int) : Option (Int × LL) :=
 match p with
 | (a0,k1) =>
  (Kr2 (a0,k1,0)) >>= fun (a1,a2) =>
  some (a1,a2)
def Kr6 (p : LL × Int) (r : Int × LL) : Prop :=
 match p with
 | (a0,k1) => Q71 Tryz.prog 28 [.osl (List.map K15 a0),I k1] (I r.1) [.osl (List.map K15 r.2),.undef]
theorem Kr7 : ∀ p r,Kr5 p = some r → Kr6 p r := by
 rintro ⟨a0,k1⟩ r h
 unfold Kr5 at h
 refine Q71.bodyO K2w (fn := Tryz.f28) (code := B28) (by kernel_rfl) (by kernel_rfl) (by kernel_rfl) (nt := 19) (by kernel_rfl) (by kernel_rfl) (T := [(0,.rs 1000),(1,I k1)]) (O := [(1000,.arr (List.map K15 a0))]) (by kernel_rfl) (by kernel_rfl) (fun c hc => ?_)
 refine K8s hc 1 [(0,.rs 1000),(1,I k1)] ?_
 refine sN ?_
 refine K8s hc 1 [(0,.rs 1000),(1,I k1),(5,I 0)] ?_
 refine bk 0 ?_
 obtain ⟨⟨a1,a2⟩,a3,h⟩ := Qct h
 have hL := Kr4 _ _ a3 c hc
 refine lp ?_
 refine WpL.into (e := (.exit 0)) (mkS [(1,I a1)] [(1000,.arr (List.map K15 a2))]) hL ?_
 refine Qc7 ?_
 refine K8s hc 2 [(4,I a1)] ?_
 refine rt ?_
 obtain rfl := os h
 exact Qcq.ret (fl := [true]) (by kernel_rfl)
def Kr8 (c : Ctx) : Int × (List K01) → Exit → Q0a → Prop
 | (a0,a1) => Qcf c (.exit 0) (mkS [(1,I a0)] [(1000,.arr (List.map K0j a1))])
mutual
def Kr9 (p : (List K01) × Int) : Option (Int × (List K01)) :=
 match p with
 | (a0,k1) =>
  (Kra (a0,k1,0)) >>= fun (a1,a2) =>
  some (a1,a2)
 partial_fixpoint
def Kra (p : (List K01) × Int × Int) : Option (Int × (List K01)) :=
 match p with
 | (a0,a1,a2) =>
  if (decide (a2 < (a0.length : Int))) = true then
  (idx a0 a2) >>= fun a3 =>
  (idx (List.set a0 (Int.toNat a2) (K01.mk a1 a3.fN a3.fType a3.fKids)) a2) >>= fun a4 =>
  (idx (List.set (List.set a0 (Int.toNat a2) (K01.mk a1 a3.fN a3.fType a3.fKids)) (Int.toNat a2) (K01.mk a4.fOp (wr (a1 + 1)) a4.fType a4.fKids)) a2) >>= fun a5 =>
  (Kqo (a5.fType,(wr ((wr (a1 + 1)) + 1)))) >>= fun (a6,a7) =>
  (idx (List.set (List.set (List.set a0 (Int.toNat a2) (K01.mk a1 a3.fN a3.fType a3.fKids)) (Int.toNat a2) (K01.mk a4.fOp (wr (a1 + 1)) a4.fType a4.fKids)) (Int.toNat a2) (K01.mk a5.fOp a5.fN a7 a5.fKids)) a2) >>= fun a8 =>
  (Kr9 (a8.fKids,a6)) >>= fun (a9,b1) =>
  Kra ((List.set (List.set (List.set (List.set a0 (Int.toNat a2) (K01.mk a1 a3.fN a3.fType a3.fKids)) (Int.toNat a2) (K01.mk a4.fOp (wr (a1 + 1)) a4.fType a4.fKids)) (Int.toNat a2) (K01.mk a5.fOp a5.fN a7 a5.fKids)) (Int.toNat a2) (K01.mk a8.fOp a8.fN a8.fType b1)),a9,(wr (a2 + 1)))
  else
  some ((a1,a0))
 partial_fixpoint
end
def Krb (p : (List K01) × Int) (r : Int × (List K01)) : Prop :=
 match p with
 | (a0,k1) => Q71 Tryz.prog 81 [.osl (List.map K0j a0),I k1] (I r.1) [.osl (List.map K0j r.2),.undef]
def Krc (p : (List K01) × Int × Int) (fl : Int × (List K01)) : Prop :=
 match p with
 | (a0,a1,a2) => ∀ c : Ctx,c.nt = 41 → WpL Tryz.prog c (cl (cl (cr (cl (cr B81))))) (Kr8 c fl) (mkS [(0,.rs 1000),(1,I a1),(5,I a2)] [(1000,.arr (List.map K0j a0))])
theorem Krd : (∀ p r,Kr9 p = some r → Krb p r) ∧ (∀ p r,Kra p = some r → Krc p r) := by
 refine Kr9.mutual_partial_correctness Krb Krc ?_ ?_
 ·rintro laws_markTermS_l0_f laws_markTermS_l0_ih ⟨a0,k1⟩ r h
  refine Q71.bodyO K2w (fn := Tryz.f81) (code := B81) (by kernel_rfl) (by kernel_rfl) (by kernel_rfl) (nt := 41) (by kernel_rfl) (by kernel_rfl) (T := [(0,.rs 1000),(1,I k1)]) (O := [(1000,.arr (List.map K0j a0))]) (by kernel_rfl) (by kernel_rfl) (fun c hc => ?_)
  refine K8s hc 1 [(0,.rs 1000),(1,I k1)] ?_
  refine sN ?_
  refine K8s hc 1 [(0,.rs 1000),(1,I k1),(5,I 0)] ?_
  refine bk 0 ?_
  obtain ⟨⟨a1,a2⟩,a3,h⟩ := Qct h
  have hL := laws_markTermS_l0_ih _ _ a3 c hc
  refine lp ?_
  refine WpL.into (e := (.exit 0)) (mkS [(1,I a1)] [(1000,.arr (List.map K0j a2))]) hL ?_
  refine Qc7 ?_
  refine K8s hc 2 [(4,I a1)] ?_
  refine rt ?_
  obtain rfl := os h
  exact Qcq.ret (fl := [true]) (by kernel_rfl)
 ·rintro laws_markTermS_f laws_markTermS_l0_f laws_markTermS_ih laws_markTermS_l0_ih ⟨a4,a5,a6⟩ r h
  intro c hc
  refine WpL.step ?_
  refine sN ?_
  refine rss hc none [oN,oN,some (.eqv (.no) ⟨[(8,I (a4.length : Int))],[],[]⟩),oN] [(0,.rs 1000),(1,I a5),(5,I a6),(9,.bool (decide (a6 < (a4.length : Int))))] (ai (Qcz (d := 8) K0j a4) tv) ?_
  refine ic h (fun a7 h => ?_) fun a7 h => ?_
  ·refine sk ?_
   refine sN ?_
   refine bk 1 ?_
   obtain ⟨a8,a9,h⟩ := Qct h
   refine rs hc none [oN,oN,oN,oN,oN,some (.eqv (.el (K24 a8)) ⟨[],[(1000,some (.arr (List.map K0j (List.set a4 (Int.toNat a6) (K01.mk a5 a8.fN a8.fType a8.fKids)))))],[]⟩)] [(0,.rs 1000),(1,I a5),(5,I a6)] [(1000,.arr (List.map K0j (List.set a4 (Int.toNat a6) (K01.mk a5 a8.fN a8.fType a8.fKids))))] (ac (Qcy (enc := K0j) a9) (congrArg (fun z => (⟨[],[(1000,some (.arr z))],[]⟩ : Wr)) (Qdw (enc := K0j) (i := Int.toNat a6) (l := a4) (v := (K01.mk a5 a8.fN a8.fType a8.fKids)) (x := AV.agg [I a5,I a8.fN,oI a8.fType,.osl (List.map K0j a8.fKids)]) (K0p (K01.mk a5 a8.fN a8.fType a8.fKids)))) (Qcx a9 (K0p a8)).2 tv) ?_
   refine K8s hc 3 [(0,.rs 1000),(1,I (wr (a5 + 1))),(5,I a6)] ?_
   obtain ⟨b1,b2,h⟩ := Qct h
   refine rs hc none [oN,oN,oN,oN,oN,some (.eqv (.el (K24 b1)) ⟨[],[(1000,some (.arr (List.map K0j (List.set (List.set a4 (Int.toNat a6) (K01.mk a5 a8.fN a8.fType a8.fKids)) (Int.toNat a6) (K01.mk b1.fOp (wr (a5 + 1)) b1.fType b1.fKids)))))],[]⟩)] [(0,.rs 1000),(1,I (wr (a5 + 1))),(5,I a6)] [(1000,.arr (List.map K0j (List.set (List.set a4 (Int.toNat a6) (K01.mk a5 a8.fN a8.fType a8.fKids)) (Int.toNat a6) (K01.mk b1.fOp (wr (a5 + 1)) b1.fType b1.fKids))))] (ac (Qcy (enc := K0j) b2) (congrArg (fun z => (⟨[],[(1000,some (.arr z))],[]⟩ : Wr)) (Qdw (enc := K0j) (i := Int.toNat a6) (l := (List.set a4 (Int.toNat a6) (K01.mk a5 a8.fN a8.fType a8.fKids))) (v := (K01.mk b1.fOp (wr (a5 + 1)) b1.fType b1.fKids)) (x := AV.agg [I b1.fOp,I (wr (a5 + 1)),oI b1.fType,.osl (List.map K0j b1.fKids)]) (K0p (K01.mk b1.fOp (wr (a5 + 1)) b1.fType b1.fKids)))) (Qcx b2 (K0p b1)).2 tv) ?_
   refine K8s hc 3 [(0,.rs 1000),(1,I (wr ((wr (a5 + 1)) + 1))),(5,I a6)] ?_
   refine sN ?_
   obtain ⟨b3,b4,h⟩ := Qct h
   refine Wp.view (fun a w hv => SRx.openL 1000 (Int.toNat a6) 2 3 [3,1000] (xs := List.map K0j (List.set (List.set a4 (Int.toNat a6) (K01.mk a5 a8.fN a8.fType a8.fKids)) (Int.toNat a6) (K01.mk b1.fOp (wr (a5 + 1)) b1.fType b1.fKids))) (ys := List.map I b3.fType) (x0 := K24 b3) hv (by kernel_rfl) (Qcx b4 (K0p b3)).2 (by kernel_rfl) (by kernel_rfl) (by kernel_rfl)) (?_ : Wp Tryz.prog c _ _ (mkS [(0,.rs 1000),(1,I (wr ((wr (a5 + 1)) + 1))),(5,I a6)] [(3,rI b3.fType),(1000,.arx (List.map K0j (List.set (List.set a4 (Int.toNat a6) (K01.mk a5 a8.fN a8.fType a8.fKids)) (Int.toNat a6) (K01.mk b1.fOp (wr (a5 + 1)) b1.fType b1.fKids))) (Int.toNat a6) 2 3)]))
   obtain ⟨⟨b5,b6⟩,b7,h⟩ := Qct h
   refine rg hc none [oN,oN,oN,oN,some (.el (K24 b3)),oN,some (.call (I b5) [oI b6,.undef] 1),oN] [(0,.rs 1000),(1,I b5),(5,I a6)] [(3,rI b6),(1000,.arx (List.map K0j (List.set (List.set a4 (Int.toNat a6) (K01.mk a5 a8.fN a8.fType a8.fKids)) (Int.toNat a6) (K01.mk b1.fOp (wr (a5 + 1)) b1.fType b1.fKids))) (Int.toNat a6) 2 3)] (ad (Qcy (enc := K0j) b4) (And.intro (Qcx b4 (K0p b3)).2 (rfl : Int.toNat a6 = Int.toNat a6)) (Kqq _ _ b7) K8h tv) ?_
   refine Wp.view (fun a w hv => SRx.closeL 1000 (Int.toNat a6) 2 3 [1000] (xs := List.map K0j (List.set (List.set a4 (Int.toNat a6) (K01.mk a5 a8.fN a8.fType a8.fKids)) (Int.toNat a6) (K01.mk b1.fOp (wr (a5 + 1)) b1.fType b1.fKids))) (ys := List.map I b6) (x0 := K24 b3) (x1 := AV.agg [I b3.fOp,I b3.fN,oI b6,.osl (List.map K0j b3.fKids)]) hv (by kernel_rfl) (by kernel_rfl) (by kernel_rfl) (Qcx b4 (K0p b3)).2 (by kernel_rfl) (by kernel_rfl : _ = AV.agg [I b3.fOp,I b3.fN,oI b6,.osl (List.map K0j b3.fKids)]) (Qdw (enc := K0j) (i := Int.toNat a6) (l := (List.set (List.set a4 (Int.toNat a6) (K01.mk a5 a8.fN a8.fType a8.fKids)) (Int.toNat a6) (K01.mk b1.fOp (wr (a5 + 1)) b1.fType b1.fKids))) (v := (K01.mk b3.fOp b3.fN b6 b3.fKids)) (x := AV.agg [I b3.fOp,I b3.fN,oI b6,.osl (List.map K0j b3.fKids)]) (K0p (K01.mk b3.fOp b3.fN b6 b3.fKids))) (by kernel_rfl)) (?_ : Wp Tryz.prog c _ _ (mkS [(0,.rs 1000),(1,I b5),(5,I a6)] [(1000,.arr (List.map K0j (List.set (List.set (List.set a4 (Int.toNat a6) (K01.mk a5 a8.fN a8.fType a8.fKids)) (Int.toNat a6) (K01.mk b1.fOp (wr (a5 + 1)) b1.fType b1.fKids)) (Int.toNat a6) (K01.mk b3.fOp b3.fN b6 b3.fKids))))]))
   obtain ⟨b8,b9,h⟩ := Qct h
   refine Wp.view (fun a w hv => SRx.openL 1000 (Int.toNat a6) 3 4 [4,1000] (xs := List.map K0j (List.set (List.set (List.set a4 (Int.toNat a6) (K01.mk a5 a8.fN a8.fType a8.fKids)) (Int.toNat a6) (K01.mk b1.fOp (wr (a5 + 1)) b1.fType b1.fKids)) (Int.toNat a6) (K01.mk b3.fOp b3.fN b6 b3.fKids))) (ys := List.map K0j b8.fKids) (x0 := K24 b8) hv (by kernel_rfl) (Qcx b9 (K0p b8)).2 (by kernel_rfl) (by kernel_rfl) (by kernel_rfl)) (?_ : Wp Tryz.prog c _ _ (mkS [(0,.rs 1000),(1,I b5),(5,I a6)] [(4,.arr (List.map K0j b8.fKids)),(1000,.arx (List.map K0j (List.set (List.set (List.set a4 (Int.toNat a6) (K01.mk a5 a8.fN a8.fType a8.fKids)) (Int.toNat a6) (K01.mk b1.fOp (wr (a5 + 1)) b1.fType b1.fKids)) (Int.toNat a6) (K01.mk b3.fOp b3.fN b6 b3.fKids))) (Int.toNat a6) 3 4)]))
   obtain ⟨⟨c0,c1⟩,c2,h⟩ := Qct h
   refine rg hc none [oN,oN,oN,oN,some (.el (K24 b8)),oN,some (.call (I c0) [.osl (List.map K0j c1),.undef] 1),oN] [(0,.rs 1000),(1,I c0),(5,I a6)] [(4,.arr (List.map K0j c1)),(1000,.arx (List.map K0j (List.set (List.set (List.set a4 (Int.toNat a6) (K01.mk a5 a8.fN a8.fType a8.fKids)) (Int.toNat a6) (K01.mk b1.fOp (wr (a5 + 1)) b1.fType b1.fKids)) (Int.toNat a6) (K01.mk b3.fOp b3.fN b6 b3.fKids))) (Int.toNat a6) 3 4)] (ad (Qcy (enc := K0j) b9) (And.intro (Qcx b9 (K0p b8)).2 (rfl : Int.toNat a6 = Int.toNat a6)) (laws_markTermS_ih _ _ c2) K8l tv) ?_
   refine Wp.view (fun a w hv => SRx.closeL 1000 (Int.toNat a6) 3 4 [1000] (xs := List.map K0j (List.set (List.set (List.set a4 (Int.toNat a6) (K01.mk a5 a8.fN a8.fType a8.fKids)) (Int.toNat a6) (K01.mk b1.fOp (wr (a5 + 1)) b1.fType b1.fKids)) (Int.toNat a6) (K01.mk b3.fOp b3.fN b6 b3.fKids))) (ys := List.map K0j c1) (x0 := K24 b8) (x1 := AV.agg [I b8.fOp,I b8.fN,oI b8.fType,.osl (List.map K0j c1)]) hv (by kernel_rfl) (by kernel_rfl) (by kernel_rfl) (Qcx b9 (K0p b8)).2 (by kernel_rfl) (by kernel_rfl : _ = AV.agg [I b8.fOp,I b8.fN,oI b8.fType,.osl (List.map K0j c1)]) (Qdw (enc := K0j) (i := Int.toNat a6) (l := (List.set (List.set (List.set a4 (Int.toNat a6) (K01.mk a5 a8.fN a8.fType a8.fKids)) (Int.toNat a6) (K01.mk b1.fOp (wr (a5 + 1)) b1.fType b1.fKids)) (Int.toNat a6) (K01.mk b3.fOp b3.fN b6 b3.fKids))) (v := (K01.mk b8.fOp b8.fN b8.fType c1)) (x := AV.agg [I b8.fOp,I b8.fN,oI b8.fType,.osl (List.map K0j c1)]) (K0p (K01.mk b8.fOp b8.fN b8.fType c1))) (by kernel_rfl)) (?_ : Wp Tryz.prog c _ _ (mkS [(0,.rs 1000),(1,I c0),(5,I a6)] [(1000,.arr (List.map K0j (List.set (List.set (List.set (List.set a4 (Int.toNat a6) (K01.mk a5 a8.fN a8.fType a8.fKids)) (Int.toNat a6) (K01.mk b1.fOp (wr (a5 + 1)) b1.fType b1.fKids)) (Int.toNat a6) (K01.mk b3.fOp b3.fN b6 b3.fKids)) (Int.toNat a6) (K01.mk b8.fOp b8.fN b8.fType c1))))]))
   refine K8r hc 3 [(0,.rs 1000),(1,I c0),(5,I (wr (a6 + 1)))] ?_
   refine Qcb ?_
   exact (laws_markTermS_l0_ih _ _ h c hc)
  refine xt 0 ?_
  refine Qc5 ?_
  refine Qcc ?_
  obtain ⟨rfl,rfl⟩ := Prod.mk.inj (Option.some.inj h)
  exact iv []
theorem Kre : ∀ p r,Kr9 p = some r → Krb p r := Krd.1
theorem Krf : ∀ p r,Kra p = some r → Krc p r := Krd.2
def Krg (p : K01 × Int) : Option (Int × K01) :=
 match p with
 | (a0,k1) =>
  (Kqo (a0.fType,k1)) >>= fun (a1,a2) =>
  (Kr9 (a0.fKids,a1)) >>= fun (a3,a4) =>
  some (a3,(K01.mk a0.fOp a0.fN a2 a4))
def Krh (p : K01 × Int) (r : Int × K01) : Prop :=
 match p with
 | (a0,k1) => Q71 Tryz.prog 29 [K24 a0,I k1] (I r.1) [.agg [.undef,.undef,.osl (List.map I r.2.fType),.osl (List.map K0j r.2.fKids)],.undef]
theorem Kri : ∀ p r,Krg p = some r → Krh p r := by
 rintro ⟨a0,k1⟩ r h
 unfold Krg at h
 refine Q71.bodyO K2w (fn := Tryz.f29) (code := B29) (by kernel_rfl) (by kernel_rfl) (by kernel_rfl) (nt := 14) (by kernel_rfl) (by kernel_rfl) (T := [(0,.agg [I a0.fOp,I a0.fN,.rs 1000,.rs 1001]),(1,I k1)]) (O := [(1000,rI a0.fType),(1001,.arr (List.map K0j a0.fKids))]) (by kernel_rfl) (by kernel_rfl) (fun c hc => ?_)
 refine rs hc none [some (.new 1),oN] [(1,I k1),(2,.ra 1 0)] [(1,.box [I a0.fOp,I a0.fN,.rs 1000,.rs 1001]),(1000,rI a0.fType),(1001,.arr (List.map K0j a0.fKids))] tv ?_
 obtain ⟨⟨a1,a2⟩,a3,h⟩ := Qct h
 refine rs hc none [oN,oN,oN,some (.call (I a1) [oI a2,.undef] 1),oN] [(1,I a1),(2,.ra 1 0)] [(1,.box [I a0.fOp,I a0.fN,.rs 1000,.rs 1001]),(1000,rI a2),(1001,.arr (List.map K0j a0.fKids))] (ab (Kqq _ _ a3) K8h tv) ?_
 obtain ⟨⟨a4,a5⟩,a6,h⟩ := Qct h
 refine rs hc none [oN,oN,oN,some (.call (I a4) [.osl (List.map K0j a5),.undef] 1),oN] [(1,I a4)] [(1000,rI a2),(1001,.arr (List.map K0j a5))] (ab (Kre _ _ a6) K8l tv) ?_
 refine K8s hc 2 [(4,I a4)] ?_
 refine rt ?_
 obtain rfl := os h
 exact Qcq.ret (fl := [true]) (by kernel_rfl)
def Krj (c : Ctx) : (Int) ⊕ (Int) → Exit → Q0a → Prop
 | .inl a0 => Qcf c (.exit 0) (mkS [(1,I a0)] [])
 | .inr r => Qco TIx Tryz.f31 [] (I r)
def Krk (p : (List Int) × Int × Int) : Option ((Int) ⊕ (Int)) :=
 match p with
 | (a0,a1,a2) =>
  if (decide (a2 < (a0.length : Int))) = true then
  (idx a0 a2) >>= fun a3 =>
  if (a3 != a1) = true then
  some (.inr (-1))
  else
  Krk (a0,(wr (a1 + 1)),(wr (a2 + 1)))
  else
  some (.inl a1)
 partial_fixpoint
def Krl (p : (List Int) × Int × Int) (fl : (Int) ⊕ (Int)) : Prop :=
 match p with
 | (a0,a1,a2) => ∀ c : Ctx,c.nt = 21 → WpL Tryz.prog c (cl (cl (cr (cl (cr B31))))) (Krj c fl) (mkS [(0,sI a0),(1,I a1),(5,I a2)] [])
theorem Krm : ∀ p r,Krk p = some r → Krl p r := by
 refine Krk.partial_correctness Krl ?_
 rintro laws_heldIntS_l0_f laws_heldIntS_l0_ih ⟨a0,a1,a2⟩ r h
 intro c hc
 refine WpL.step ?_
 refine sN ?_
 refine rs hc none [oN,oN,some (.eqv (.no) ⟨[(8,I (a0.length : Int))],[],[]⟩),oN] [(0,sI a0),(1,I a1),(5,I a2),(9,.bool (decide (a2 < (a0.length : Int))))] [] (ai (Qcz (d := 8) I a0) tv) ?_
 refine ic h (fun a3 h => ?_) fun a3 h => ?_
 ·refine sk ?_
  refine sN ?_
  refine bk 1 ?_
  refine sN ?_
  obtain ⟨a4,a5,h⟩ := Qct h
  refine rs hc none [oN,oN,some (.el (I a4)),oN,oN,oN] [(0,sI a0),(1,I a1),(5,I a2),(17,.bool (a4 != a1))] [] (ai (ix a5) tv) ?_
  refine ic h (fun a6 h => ?_) fun a6 h => ?_
  ·refine rs0 hc 1 [(4,I (-1))] [] ?_
   refine rt ?_
   obtain rfl := os h
   exact re [true]
  refine sk ?_
  refine rg0 hc 3 [(0,sI a0),(1,I (wr (a1 + 1))),(5,I a2)] [] ?_
  refine rg0 hc 3 [(0,sI a0),(1,I (wr (a1 + 1))),(5,I (wr (a2 + 1)))] [] ?_
  refine Qcb ?_
  exact (laws_heldIntS_l0_ih _ _ h c hc)
 refine xt 0 ?_
 refine Qc5 ?_
 refine Qcc ?_
 obtain rfl := os h
 exact iv []
def Krn (p : (List Int) × Int) : Option (Int) :=
 match p with
 | (a0,k1) =>
  (Krk (a0,k1,0)) >>= fun fl => match fl with
  | .inl a1 =>
   some a1
  | .inr r =>
   some r
def Kro (p : (List Int) × Int) (r : Int) : Prop :=
 match p with
 | (a0,k1) => Q71 Tryz.prog 31 [sI a0,I k1] (I r) []
theorem Krp : ∀ p r,Krn p = some r → Kro p r := by
 rintro ⟨a0,k1⟩ r h
 unfold Krn at h
 refine b0 Tryz.f31 B31 21 [(0,sI a0),(1,I k1)] fun c hc => ?_
 refine rs0 hc 1 [(0,sI a0),(1,I k1)] [] ?_
 refine sN ?_
 refine rs0 hc 1 [(0,sI a0),(1,I k1),(5,I 0)] [] ?_
 refine bk 0 ?_
 obtain ⟨fl,a1,h⟩ := Qct h
 have hL := Krm _ _ a1 c hc
 refine lp ?_
 rcases fl with a2 | r
 ·refine WpL.into (e := (.exit 0)) (mkS [(1,I a2)] []) hL ?_
  refine Qc7 ?_
  refine rs0 hc 2 [(4,I a2)] [] ?_
  refine rt ?_
  obtain rfl := os h
  exact rq [true]
 refine WpL.mono hL ?_
 rintro _ _ ⟨rfl,hfin⟩
 obtain rfl := os h
 exact ⟨.inl rfl,hfin⟩
def Krq (c : Ctx) : (Int) ⊕ (Int) → Exit → Q0a → Prop
 | .inl a0 => Qcf c (.exit 0) (mkS [(1,I a0)] [])
 | .inr r => Qco TIx Tryz.f98 [] (I r)
mutual
def Krr (p : (List K01) × Int) : Option (Int) :=
 match p with
 | (a0,k1) =>
  (Krs (a0,k1,0)) >>= fun fl => match fl with
  | .inl a1 =>
   some a1
  | .inr r =>
   some r
 partial_fixpoint
def Krs (p : (List K01) × Int × Int) : Option ((Int) ⊕ (Int)) :=
 match p with
 | (a0,a1,a2) =>
  if (decide (a2 < (a0.length : Int))) = true then
  (idx a0 a2) >>= fun a3 =>
  if (a3.fOp != a1) = true then
  some (.inr (-1))
  else
  (idx a0 a2) >>= fun a4 =>
  if (a4.fN != (wr (a1 + 1))) = true then
  some (.inr (-1))
  else
  (idx a0 a2) >>= fun a5 =>
  (Krn (a5.fType,(wr ((wr (a1 + 1)) + 1)))) >>= fun a6 =>
  if (decide (a6 < 0)) = true then
  some (.inr (-1))
  else
  (idx a0 a2) >>= fun a7 =>
  (Krr (a7.fKids,a6)) >>= fun a8 =>
  if (decide (a8 < 0)) = true then
  some (.inr (-1))
  else
  Krs (a0,a8,(wr (a2 + 1)))
  else
  some (.inl a1)
 partial_fixpoint
end
def Krt (p : (List K01) × Int) (r : Int) : Prop :=
 match p with
 | (a0,k1) => Q71 Tryz.prog 98 [.sl (List.map K0g a0),I k1] (I r) []
def Kru (p : (List K01) × Int × Int) (fl : (Int) ⊕ (Int)) : Prop :=
 match p with
 | (a0,a1,a2) => ∀ c : Ctx,c.nt = 49 → WpL Tryz.prog c (cl (cl (cr (cl (cr B98))))) (Krq c fl) (mkS [(0,.sl (List.map K0g a0)),(1,I a1),(5,I a2)] [])
theorem Krv : (∀ p r,Krr p = some r → Krt p r) ∧ (∀ p r,Krs p = some r → Kru p r) := by
 refine Krr.mutual_partial_correctness Krt Kru ?_ ?_
 ·rintro laws_heldTermS_l0_f laws_heldTermS_l0_ih ⟨a0,k1⟩ r h
  refine b0 Tryz.f98 B98 49 [(0,.sl (List.map K0g a0)),(1,I k1)] fun c hc => ?_
  refine rs0 hc 1 [(0,.sl (List.map K0g a0)),(1,I k1)] [] ?_
  refine sN ?_
  refine rs0 hc 1 [(0,.sl (List.map K0g a0)),(1,I k1),(5,I 0)] [] ?_
  refine bk 0 ?_
  obtain ⟨fl,a1,h⟩ := Qct h
  have hL := laws_heldTermS_l0_ih _ _ a1 c hc
  refine lp ?_
  rcases fl with a2 | r
  ·refine WpL.into (e := (.exit 0)) (mkS [(1,I a2)] []) hL ?_
   refine Qc7 ?_
   refine rs0 hc 2 [(4,I a2)] [] ?_
   refine rt ?_
   obtain rfl := os h
   exact rq [true]
  refine WpL.mono hL ?_
  rintro _ _ ⟨rfl,hfin⟩
  obtain rfl := os h
  exact ⟨.inl rfl,hfin⟩
 ·rintro laws_heldTermS_f laws_heldTermS_l0_f laws_heldTermS_ih laws_heldTermS_l0_ih ⟨a0,a3,a4⟩ r h
  intro c hc
  refine WpL.step ?_
  refine sN ?_
  refine rs hc none [oN,oN,some (.eqv (.no) ⟨[(8,I (a0.length : Int))],[],[]⟩),oN] [(0,.sl (List.map K0g a0)),(1,I a3),(5,I a4),(9,.bool (decide (a4 < (a0.length : Int))))] [] (ai (Qcz (d := 8) K0g a0) tv) ?_
  refine ic h (fun a5 h => ?_) fun a5 h => ?_
  ·refine sk ?_
   refine sN ?_
   refine bk 1 ?_
   refine sN ?_
   obtain ⟨a6,a7,h⟩ := Qct h
   refine rs hc none [oN,oN,some (.el (K1v a6)),oN,oN,oN,oN] [(0,.sl (List.map K0g a0)),(1,I a3),(5,I a4),(18,.bool (a6.fOp != a3))] [] (ai (Qcx a7 (K0n a6)) tv) ?_
   refine ic h (fun a8 h => ?_) fun a8 h => ?_
   ·refine rs0 hc 1 [(4,I (-1))] [] ?_
    refine rt ?_
    obtain rfl := os h
    exact re [true]
   refine sk ?_
   refine rs0 hc 3 [(0,.sl (List.map K0g a0)),(1,I (wr (a3 + 1))),(5,I a4)] [] ?_
   refine sN ?_
   obtain ⟨a9,b1,h⟩ := Qct h
   refine rs hc none [oN,oN,some (.el (K1v a9)),oN,oN,oN,oN] [(0,.sl (List.map K0g a0)),(1,I (wr (a3 + 1))),(5,I a4),(27,.bool (a9.fN != (wr (a3 + 1))))] [] (ai (Qcx b1 (K0n a9)) tv) ?_
   refine ic h (fun b2 h => ?_) fun b2 h => ?_
   ·refine rs0 hc 1 [(4,I (-1))] [] ?_
    refine rt ?_
    obtain rfl := os h
    exact re [true]
   refine sk ?_
   refine rs0 hc 3 [(0,.sl (List.map K0g a0)),(1,I (wr ((wr (a3 + 1)) + 1))),(5,I a4)] [] ?_
   obtain ⟨b3,b4,b5,b6,h⟩ := bq2 h
   refine rs hc none [oN,oN,some (.el (K1v b3)),oN,oN,oN,oc (I b5),oN] [(0,.sl (List.map K0g a0)),(1,I b5),(5,I a4)] [] (ai (Qcx b4 (K0n b3)) (cq (Krp _ _ b6) K8n tv)) ?_
   refine sN ?_
   refine rs0 hc 2 [(0,.sl (List.map K0g a0)),(1,I b5),(5,I a4),(38,.bool (decide (b5 < 0)))] [] ?_
   refine ic h (fun b7 h => ?_) fun b7 h => ?_
   ·refine rs0 hc 1 [(4,I (-1))] [] ?_
    refine rt ?_
    obtain rfl := os h
    exact re [true]
   refine sk ?_
   obtain ⟨b8,b9,c0,c1,h⟩ := bq2 h
   refine rs hc none [oN,oN,some (.el (K1v b8)),oN,oN,oN,oc (I c0),oN] [(0,.sl (List.map K0g a0)),(1,I c0),(5,I a4)] [] (ai (Qcx b9 (K0n b8)) (cq (laws_heldTermS_ih _ _ c1) K8o tv)) ?_
   refine rs0 hc 2 [(0,.sl (List.map K0g a0)),(1,I c0),(5,I a4),(47,.bool (decide (c0 < 0)))] [] ?_
   refine ic h (fun c2 h => ?_) fun c2 h => ?_
   ·refine rs0 hc 1 [(4,I (-1))] [] ?_
    refine rt ?_
    obtain rfl := os h
    exact re [true]
   refine sk ?_
   refine rg0 hc 3 [(0,.sl (List.map K0g a0)),(1,I c0),(5,I (wr (a4 + 1)))] [] ?_
   refine Qcb ?_
   exact (laws_heldTermS_l0_ih _ _ h c hc)
  refine xt 0 ?_
  refine Qc5 ?_
  refine Qcc ?_
  obtain rfl := os h
  exact iv []
theorem Krw : ∀ p r,Krr p = some r → Krt p r := Krv.1
theorem Krx : ∀ p r,Krs p = some r → Kru p r := Krv.2
def Kry (p : K01 × Int) : Option (Int) :=
 match p with
 | (a0,k1) =>
  (Krn (a0.fType,k1)) >>= fun a1 =>
  if (decide (a1 < 0)) = true then
  some (-1)
  else
  (Krr (a0.fKids,a1)) >>= fun a2 =>
  if (decide (a2 < 0)) = true then
  some (-1)
  else
  some a2
def Krz (p : K01 × Int) (r : Int) : Prop :=
 match p with
 | (a0,k1) => Q71 Tryz.prog 44 [K1v a0,I k1] (I r) []
theorem Ks0 : ∀ p r,Kry p = some r → Krz p r := by
 rintro ⟨a0,k1⟩ r h
 unfold Kry at h
 refine b0 Tryz.f44 B44 18 [(0,K1v a0),(1,I k1)] fun c hc => ?_
 refine rs hc none [some (.new 1),oN] [(1,I k1),(2,.ra 1 0)] [(1,K1u a0)] tv ?_
 obtain ⟨a1,a2,h⟩ := Qct h
 refine rss hc none [oN,oN,oN,oc (I a1),oN] [(1,I a1),(2,.ra 1 0)] (cq (Krp _ _ a2) K8n tv) ?_
 refine sN ?_
 refine K8s hc 2 [(1,I a1),(2,.ra 1 0),(10,.bool (decide (a1 < 0)))] ?_
 refine ic h (fun a3 h => ?_) fun a3 h => ?_
 ·refine rs0 hc 1 [(4,I (-1))] [] ?_
  refine rt ?_
  obtain rfl := os h
  exact rq [true]
 refine sk ?_
 obtain ⟨a4,a5,h⟩ := Qct h
 refine rs hc none [oN,oN,oN,oc (I a4),oN] [(1,I a4)] [] (cq (Krw _ _ a5) K8o tv) ?_
 refine sN ?_
 refine rs0 hc 2 [(1,I a4),(16,.bool (decide (a4 < 0)))] [] ?_
 refine ic h (fun a6 h => ?_) fun a6 h => ?_
 ·refine rs0 hc 1 [(4,I (-1))] [] ?_
  refine rt ?_
  obtain rfl := os h
  exact rq [true]
 refine sk ?_
 refine rs0 hc 2 [(4,I a4)] [] ?_
 refine rt ?_
 obtain rfl := os h
 exact rq [true]
end Go.Am
