/- Functions of the program as pure functions,and that it computes them. Printed by a program of mine (gen.py). -/
import Derived.Test.YtmcpomoofkjfcaaGreatGETF4
set_option linter.unusedVariables false
set_option linter.unusedSimpArgs false
set_option maxRecDepth 100000
namespace Go.Am
open Go Go.Proofs
def Kgd : Option (List (List Nat)) := rx [[0],[0],[2],[3],[0],[0,4],[0,4,5],[7],[8],[9],[10],[11],[12],[13],[13],[15],[16],[13],[13],[13,18],[13,17,18,19],[13,17,18,19,20],[22],[23],[24]]
def Kge (c : Ctx) : (Unit) ⊕ (Bool) → Exit → Q0a → Prop
 | .inl _ => Qcf c (.exit 0) (mkS [] [])
 | .inr r => Qco TIx Tryz.f158 [] (.bool r)
def Kgf (p : K00 × (List Bool) × Int) : Option ((Unit) ⊕ (Bool)) :=
 match p with
 | (s0,in1,a0) =>
  if (decide (a0 < s0.fSize)) = true then
  (Kga (s0,in1,a0,0)) >>= fun fl => match fl with
  | .inl () =>
   Kgf (s0,in1,(wr (a0 + 1)))
  | .inr r =>
   some (.inr r)
  else
  some (.inl ())
 partial_fixpoint
def Kgg (p : K00 × (List Bool) × Int) (fl : (Unit) ⊕ (Bool)) : Prop :=
 match p with
 | (s0,in1,a0) => ∀ c : Ctx,c.nt = 85 → WpL Tryz.prog c (cl (cl (cr (cl (cr (cr K5g)))))) (Kge c fl) (mkS [(1,sB in1),(2,.ra 1 0),(5,I a0)] [(1,K1s s0)])
theorem Kgh : ∀ p r,Kgf p = some r → Kgg p r := by
 refine Kgf.partial_correctness Kgg ?_
 rintro spec_l1View_l1_f spec_l1View_l1_ih ⟨s0,in1,a0⟩ r h
 intro c hc
 refine WpL.step ?_
 refine sN ?_
 refine K8s hc 4 [(1,sB in1),(2,.ra 1 0),(5,I a0),(19,.bool (decide (a0 < s0.fSize)))] ?_
 refine ic h (fun a1 h => ?_) fun a1 h => ?_
 ·refine sk ?_
  refine sN ?_
  refine bk 1 ?_
  refine K8s hc 1 [(1,sB in1),(2,.ra 1 0),(5,I a0),(6,I 0)] ?_
  refine bk 2 ?_
  obtain ⟨fl,a2,h⟩ := Qct h
  have hL := Kgc _ _ a2 c hc
  refine lp ?_
  rcases fl with ⟨⟩ | r
  ·refine WpL.into (e := (.exit 2)) (mkS [(1,sB in1),(2,.ra 1 0),(5,I a0)] [(1,K1s s0)]) hL ?_
   refine Qc7 ?_
   refine K8r hc 3 [(1,sB in1),(2,.ra 1 0),(5,I (wr (a0 + 1)))] ?_
   refine Qcb ?_
   exact (spec_l1View_l1_ih _ _ h c hc)
  refine WpL.mono hL ?_
  rintro _ _ ⟨rfl,hfin⟩
  obtain rfl := os h
  exact ⟨rfl,hfin⟩
 refine xt 0 ?_
 refine Qc5 ?_
 refine Qcc ?_
 obtain rfl := os h
 exact iv []
def Kgi (p : K00 × (List Bool)) : Option (Bool) :=
 match p with
 | (s0,in1) =>
  ((
  (idx in1 0) >>= fun a0 =>
  if a0 = true then
   some (true)
  else
   (idx in1 1) >>= fun a1 =>
   some ((!a1))
  ) : Option (Bool)) >>= fun a2 =>
  if a2 = true then
  some false
  else
  (Kgf (s0,in1,0)) >>= fun fl => match fl with
  | .inl () =>
   some true
  | .inr r =>
   some r
def Kgj (p : K00 × (List Bool)) (r : Bool) : Prop :=
 match p with
 | (s0,in1) => Q71 Tryz.prog 158 [K1t s0,sB in1] (.bool r) []
theorem Kgk : ∀ p r,Kgi p = some r → Kgj p r := by
 rintro ⟨s0,in1⟩ r h
 unfold Kgi at h
 refine b0 Tryz.f158 K5g 85 [(0,K1t s0),(1,sB in1)] fun c hc => ?_
 refine rs hc none [some (.new 1),oN] [(1,sB in1),(2,.ra 1 0)] [(1,K1s s0)] tv ?_
 refine sN ?_
 refine sN ?_
 obtain ⟨a0,a1,h⟩ := Qct h
 refine Wp.into (x := .normal) (mkS [(1,sB in1),(2,.ra 1 0),(15,.bool a0)] [(1,K1s s0)]) ?_ ?_
 ·replace h := a1
  obtain ⟨a2,a3,h⟩ := Qct h
  rcases is h with ⟨a4,h⟩ | ⟨a4,h⟩
  ·refine rgs hc none [oN,some (.el (.bool a2)),oN,oN,o_,o_,o_,o_,oT] [(1,sB in1),(2,.ra 1 0),(15,.bool true)] (ai (Qcx (enc := AV.bool) (x := .bool a2) a3 (Qda a2)) (ar 4 (neF a4) (ai a4 tv))) ?_
   obtain rfl := os h
   exact Qcf.mk
  obtain ⟨a5,a6,h⟩ := Qct h
  refine rgs hc none [oN,some (.el (.bool a2)),oN,oN,oN,some (.el (.bool a5)),oN,oN,oF] [(1,sB in1),(2,.ra 1 0),(15,.bool (!a5))] (ai (Qcx (enc := AV.bool) (x := .bool a2) a3 (Qda a2)) (ar 2 a4 (ai (Qcx (enc := AV.bool) (x := .bool a5) a6 (Qda a5)) (ar 3 a4 tv)))) ?_
  obtain rfl := os h
  exact Qcf.mk
 clear a1
 refine ic h (fun a7 h => ?_) fun a7 h => ?_
 ·refine rs0 hc 1 [(4,.bool false)] [] ?_
  refine rt ?_
  obtain rfl := os h
  exact rq [true]
 refine sk ?_
 refine sN ?_
 refine K8s hc 1 [(1,sB in1),(2,.ra 1 0),(5,I 0)] ?_
 refine bk 0 ?_
 obtain ⟨fl,a8,h⟩ := Qct h
 have hL := Kgh _ _ a8 c hc
 refine lp ?_
 rcases fl with ⟨⟩ | r
 ·refine WpL.into (e := (.exit 0)) (mkS [] []) hL ?_
  refine Qc7 ?_
  refine rs0 hc 1 [(4,.bool true)] [] ?_
  refine rt ?_
  obtain rfl := os h
  exact rq [true]
 refine WpL.mono hL ?_
 rintro _ _ ⟨rfl,hfin⟩
 obtain rfl := os h
 exact ⟨.inl rfl,hfin⟩
def Kgl (c : Ctx) (s0 : K00) : ((List Bool)) ⊕ (Bool) → Exit → Q0a → Prop
 | .inl a0 => Qcf c (.exit 0) (mkS [(2,.ra 1 0),(5,.rs 2)] [(1,K1s s0),(2,.arr (List.map AV.bool a0))])
 | .inr r => Qco TIx Tryz.f89 [] (.bool r)
def Kgm (p : K00 × (List Int) × (List Bool) × Int) : Option (((List Bool)) ⊕ (Bool)) :=
 match p with
 | (s0,v1,a0,a1) =>
  if (decide (a1 < (v1.length : Int))) = true then
  ((
  (idx v1 a1) >>= fun a2 =>
  (Kak (a2,0,(wr (s0.fSize - 1)))) >>= fun a3 =>
  if a3 = true then
  if (decide (a1 > 0)) = true then
  (idx v1 a1) >>= fun a4 =>
  (idx v1 (wr (a1 - 1))) >>= fun a5 =>
  some ((decide (a4 ≤ a5)))
  else
  some (false)
  else
  some (true)
  ) : Option (Bool)) >>= fun a6 =>
  if a6 = true then
  some (.inr false)
  else
  (idx v1 a1) >>= fun a7 =>
  (idx a0 a7) >>= fun a8 =>
  Kgm (s0,v1,(List.set a0 (Int.toNat a7) true),(wr (a1 + 1)))
  else
  some (.inl a0)
 partial_fixpoint
def Kgn (p : K00 × (List Int) × (List Bool) × Int) (fl : ((List Bool)) ⊕ (Bool)) : Prop :=
 match p with
 | (s0,v1,a0,a1) => ∀ c : Ctx,c.nt = 53 → WpL Tryz.prog c (cl (cl (cr (cl (cr (cr (cr B89))))))) (Kgl c s0 fl) (mkS [(1,sI v1),(2,.ra 1 0),(5,.rs 2),(6,I a1)] [(1,K1s s0),(2,.arr (List.map AV.bool a0))])
theorem Kgo : ∀ p r,Kgm p = some r → Kgn p r := by
 refine Kgm.partial_correctness Kgn ?_
 rintro spec_IsView_l0_f spec_IsView_l0_ih ⟨s0,v1,a0,a1⟩ r h
 intro c hc
 refine WpL.step ?_
 refine sN ?_
 refine rss hc none [oN,oN,some (.eqv (.no) ⟨[(15,I (v1.length : Int))],[],[]⟩),oN] [(1,sI v1),(2,.ra 1 0),(5,.rs 2),(6,I a1),(16,.bool (decide (a1 < (v1.length : Int))))] (ai (Qcz (d := 15) I v1) tv) ?_
 refine ic h (fun a2 h => ?_) fun a2 h => ?_
 ·refine sk ?_
  refine sN ?_
  refine bk 1 ?_
  refine sN ?_
  refine sN ?_
  obtain ⟨a3,a4,h⟩ := Qct h
  refine Wp.into (x := .normal) (mkS [(1,sI v1),(2,.ra 1 0),(5,.rs 2),(6,I a1),(43,.bool a3)] [(1,K1s s0),(2,.arr (List.map AV.bool a0))]) ?_ ?_
  ·replace h := a4
   obtain ⟨a5,a6,a7,a8,h⟩ := bq2 h
   rcases is h with ⟨a9,h⟩ | ⟨a9,h⟩
   ·rcases is h with ⟨b1,h⟩ | ⟨b1,h⟩
    ·obtain ⟨b2,b3,b4,b5,h⟩ := bq2 h
     refine rgs hc Kgd [oN,oN,some (.el (I a5)),oN,oN,oN,oN,oc (.bool a7),oN,oN,oN,oN,oN,oN,oN,some (.el (I b2)),oN,oN,oN,oN,some (.el (I b4)),oN,oN,oT,oF] [(1,sI v1),(2,.ra 1 0),(5,.rs 2),(6,I a1),(43,.bool (decide (b2 ≤ b4)))] (ai (ix a6) (cq (Kam _ _ a8) K3a (ar 3 (nF a9) (ar 3 b1 (ai (ix b3) (ar 5 b1 (ai (ix b5) (ar 2 b1 (ac (nF a9) b1 (nF a9) tv))))))))) ?_
     obtain rfl := os h
     exact Qcf.mk
    refine rgs hc Kgd [oN,oN,some (.el (I a5)),oN,oN,oN,oN,oc (.bool a7),oN,oN,oN,oN,oN,o_,o_,o_,o_,o_,o_,o_,o_,o_,o_,oF,oF] [(1,sI v1),(2,.ra 1 0),(5,.rs 2),(6,I a1),(43,.bool false)] (ai (ix a6) (cq (Kam _ _ a8) K3a (ar 3 (nF a9) (ar 10 (neT b1) (ac (nF a9) b1 (nF a9) tv))))) ?_
    obtain rfl := os h
    exact Qcf.mk
   refine rgs hc Kgd [oN,oN,some (.el (I a5)),oN,oN,oN,oN,oc (.bool a7),oN,oN,o_,o_,o_,o_,o_,o_,o_,o_,o_,o_,o_,o_,o_,o_,oT] [(1,sI v1),(2,.ra 1 0),(5,.rs 2),(6,I a1),(43,.bool true)] (ai (ix a6) (cq (Kam _ _ a8) K3a (ar 4 (neF (nT a9)) (ai (nT a9) tv)))) ?_
   obtain rfl := os h
   exact Qcf.mk
  clear a4
  refine ic h (fun b6 h => ?_) fun b6 h => ?_
  ·refine rs0 hc 1 [(4,.bool false)] [] ?_
   refine rt ?_
   obtain rfl := os h
   exact re [true]
  refine sk ?_
  obtain ⟨b7,b8,b9,c0,h⟩ := bq2 h
  refine rg hc none [oN,oN,oN,some (.el (I b7)),oN,oN,some (.eqv (.mk 0 true) ⟨[],[(2,some (.arr (List.map AV.bool (List.set a0 (Int.toNat b7) true))))],[]⟩)] [(1,sI v1),(2,.ra 1 0),(5,.rs 2),(6,I a1)] [(1,K1s s0),(2,.arr (List.map AV.bool (List.set a0 (Int.toNat b7) true)))] (ad (ix b8) (Qcy (enc := AV.bool) c0) (congrArg (fun z => (⟨[],[(2,some (.arr z))],[]⟩ : Wr)) (Qdw (enc := AV.bool) (i := Int.toNat b7) (l := a0) (v := true) (x := AV.bool true) (Qda true))) (Qdx (enc := AV.bool) (sz := 1) Qde c0) tv) ?_
  refine K8r hc 3 [(1,sI v1),(2,.ra 1 0),(5,.rs 2),(6,I (wr (a1 + 1)))] ?_
  refine Qcb ?_
  exact (spec_IsView_l0_ih _ _ h c hc)
 refine xt 0 ?_
 refine Qc5 ?_
 refine Qcc ?_
 obtain rfl := os h
 exact iv []
def Kgp (p : K00 × (List Int)) : Option (Bool) :=
 match p with
 | (s0,v1) =>
  (Kc4 s0) >>= fun a0 =>
  if a0 = true then
  (chk (0 ≤ s0.fSize ∧ (Int.toNat s0.fSize) * 1 ≤ 140737488355328)) >>= fun _ =>
  (Kgm (s0,v1,(List.replicate (Int.toNat s0.fSize) false),0)) >>= fun fl => match fl with
  | .inl a1 =>
   (Kgi (s0,a1)) >>= fun a2 =>
   some a2
  | .inr r =>
   some r
  else
  some false
def Kgq (p : K00 × (List Int)) (r : Bool) : Prop :=
 match p with
 | (s0,v1) => Q71 Tryz.prog 89 [K1t s0,sI v1] (.bool r) []
theorem Kgr : ∀ p r,Kgp p = some r → Kgq p r := by
 rintro ⟨s0,v1⟩ r h
 unfold Kgp at h
 refine b0 Tryz.f89 B89 53 [(0,K1t s0),(1,sI v1)] fun c hc => ?_
 refine rs hc none [some (.new 1),oN] [(1,sI v1),(2,.ra 1 0)] [(1,K1s s0)] tv ?_
 refine sN ?_
 obtain ⟨a0,a1,h⟩ := Qct h
 refine rss hc none [oN,oc (.bool a0),oN] [(1,sI v1),(2,.ra 1 0),(9,.bool (!a0))] (cq (Kc6 _ _ a1) K3s tv) ?_
 rcases is h with ⟨a2,h⟩ | ⟨a2,h⟩
 ·refine cF (!a0) (nF a2) ?_
  refine sk ?_
  obtain ⟨_,a3,h⟩ := Qct h
  refine rs hc none [oN,oN,some (.eqv (.mk 2 true) ⟨[(12,.rs 2)],[(2,some (.arr (List.map AV.bool (List.replicate (Int.toNat s0.fSize) false))))],[2]⟩),oN] [(1,sI v1),(2,.ra 1 0),(5,.rs 2)] [(1,K1s s0),(2,.arr (List.map AV.bool (List.replicate (Int.toNat s0.fSize) false)))] (ab (congrArg (fun z => (⟨[(12,.rs 2)],[(2,some (.arr z))],[2]⟩ : Wr)) (Qdy (enc := AV.bool) (n := Int.toNat s0.fSize) (x := AV.bool false) (Qda false))) (And.intro (Eq.refl s0.fSize) (Qcv a3)) tv) ?_
  refine sN ?_
  refine K8s hc 1 [(1,sI v1),(2,.ra 1 0),(5,.rs 2),(6,I 0)] ?_
  refine bk 0 ?_
  obtain ⟨fl,a4,h⟩ := Qct h
  have hL := Kgo _ _ a4 c hc
  refine lp ?_
  rcases fl with a5 | r
  ·refine WpL.into (e := (.exit 0)) (mkS [(2,.ra 1 0),(5,.rs 2)] [(1,K1s s0),(2,.arr (List.map AV.bool a5))]) hL ?_
   refine Qc7 ?_
   obtain ⟨a6,a7,h⟩ := Qct h
   refine rs hc none [oN,oN,oc (.bool a6),oN] [(4,.bool a6)] [] (ac (Q71.args (A1 := [K1t s0,.sl (Q02 (List.map AV.bool a5))]) (A2 := [K1t s0,sB a5]) (by simp only [List.map_nil,Qdn]) (Kgk _ _ a7)) K5h (Or.inr rfl : ([2] : List Nat) = [] ∨ noSh (.bool a6) = true) tv) ?_
   refine rt ?_
   obtain rfl := os h
   exact rq [true]
  refine WpL.mono hL ?_
  rintro _ _ ⟨rfl,hfin⟩
  obtain rfl := os h
  exact ⟨.inl rfl,hfin⟩
 refine cT (!a0) (nT a2) ?_
 refine rs0 hc 1 [(4,.bool false)] [] ?_
 refine rt ?_
 obtain rfl := os h
 exact rq [true]
def Kgs (c : Ctx) : (Unit) ⊕ (Bool) → Exit → Q0a → Prop
 | .inl _ => Qcf c (.exit 0) (mkS [] [])
 | .inr r => Qco TIx Tryz.f90 [] (.bool r)
def Kgt (p : (List Int) × Int × Int) : Option ((Unit) ⊕ (Bool)) :=
 match p with
 | (l0,n1,a0) =>
  if (decide (a0 < (l0.length : Int))) = true then
  (idx l0 a0) >>= fun a1 =>
  if (a1 == n1) = true then
  some (.inr true)
  else
  Kgt (l0,n1,(wr (a0 + 1)))
  else
  some (.inl ())
 partial_fixpoint
def Kgu (p : (List Int) × Int × Int) (fl : (Unit) ⊕ (Bool)) : Prop :=
 match p with
 | (l0,n1,a0) => ∀ c : Ctx,c.nt = 18 → WpL Tryz.prog c (cl (cl (cr (cl (cr B90))))) (Kgs c fl) (mkS [(0,sI l0),(1,I n1),(5,I a0)] [])
theorem Kgv : ∀ p r,Kgt p = some r → Kgu p r := by
 refine Kgt.partial_correctness Kgu ?_
 rintro spec_l1Has_l0_f spec_l1Has_l0_ih ⟨l0,n1,a0⟩ r h
 intro c hc
 refine WpL.step ?_
 refine sN ?_
 refine rs hc none [oN,oN,some (.eqv (.no) ⟨[(8,I (l0.length : Int))],[],[]⟩),oN] [(0,sI l0),(1,I n1),(5,I a0),(9,.bool (decide (a0 < (l0.length : Int))))] [] (ai (Qcz (d := 8) I l0) tv) ?_
 refine ic h (fun a1 h => ?_) fun a1 h => ?_
 ·refine sk ?_
  refine sN ?_
  refine bk 1 ?_
  obtain ⟨a2,a3,h⟩ := Qct h
  refine rs hc none [oN,oN,some (.el (I a2)),oN,oN,oN] [(0,sI l0),(1,I n1),(5,I a0),(17,.bool (a2 == n1))] [] (ai (ix a3) tv) ?_
  refine ic h (fun a4 h => ?_) fun a4 h => ?_
  ·refine rs0 hc 1 [(4,.bool true)] [] ?_
   refine rt ?_
   obtain rfl := os h
   exact re [true]
  refine sk ?_
  refine rg0 hc 3 [(0,sI l0),(1,I n1),(5,I (wr (a0 + 1)))] [] ?_
  refine Qcb ?_
  exact (spec_l1Has_l0_ih _ _ h c hc)
 refine xt 0 ?_
 refine Qc5 ?_
 refine Qcc ?_
 obtain rfl := os h
 exact iv []
def Kgw (p : (List Int) × Int) : Option (Bool) :=
 match p with
 | (l0,n1) =>
  (Kgt (l0,n1,0)) >>= fun fl => match fl with
  | .inl () =>
   some false
  | .inr r =>
   some r
def Kgx (p : (List Int) × Int) (r : Bool) : Prop :=
 match p with
 | (l0,n1) => Q71 Tryz.prog 90 [sI l0,I n1] (.bool r) []
theorem Kgy : ∀ p r,Kgw p = some r → Kgx p r := by
 rintro ⟨l0,n1⟩ r h
 unfold Kgw at h
 refine b0 Tryz.f90 B90 18 [(0,sI l0),(1,I n1)] fun c hc => ?_
 refine rs0 hc 1 [(0,sI l0),(1,I n1)] [] ?_
 refine sN ?_
 refine rs0 hc 1 [(0,sI l0),(1,I n1),(5,I 0)] [] ?_
 refine bk 0 ?_
 obtain ⟨fl,a0,h⟩ := Qct h
 have hL := Kgv _ _ a0 c hc
 refine lp ?_
 rcases fl with ⟨⟩ | r
 ·refine WpL.into (e := (.exit 0)) (mkS [] []) hL ?_
  refine Qc7 ?_
  refine rs0 hc 1 [(4,.bool false)] [] ?_
  refine rt ?_
  obtain rfl := os h
  exact rq [true]
 refine WpL.mono hL ?_
 rintro _ _ ⟨rfl,hfin⟩
 obtain rfl := os h
 exact ⟨.inl rfl,hfin⟩
def Kgz (p : K00 × LL × K01 × Int) : Option (LL) :=
 match p with
 | (s0,ctx1,t2,k3) =>
  (Kdv (t2.fOp,k3)) >>= fun a0 =>
  if (a0 == 0) = true then
  some ctx1
  else
  if (t2.fOp == 9) = true then
  (Kei (ctx1,[t2.fType])) >>= fun a1 =>
  some a1
  else
  (idx t2.fKids 0) >>= fun a2 =>
  (Kfs (s0,ctx1,a2)) >>= fun a3 =>
  if (t2.fOp == 5) = true then
  (Kf5 (a3.fty,1)) >>= fun a4 =>
  (Kf5 (a3.fty,0)) >>= fun a5 =>
  (Kei (ctx1,[a4,a5])) >>= fun a6 =>
  some a6
  else
  (Kf5 (a3.fty,(wr (k3 - 1)))) >>= fun a7 =>
  (Kei (ctx1,[a7])) >>= fun a8 =>
  some a8
def Kh0 (p : K00 × LL × K01 × Int) (r : LL) : Prop :=
 match p with
 | (s0,ctx1,t2,k3) => Q71 Tryz.prog 180 [K1t s0,sL ctx1,K1v t2,I k3] (sL r) []
theorem Kh1 : ∀ p r,Kgz p = some r → Kh0 p r := by
 rintro ⟨s0,ctx1,t2,k3⟩ r h
 unfold Kgz at h
 refine b0 Tryz.f180 K5k 51 [(0,K1t s0),(1,sL ctx1),(2,K1v t2),(3,I k3)] fun c hc => ?_
 refine rs hc none [some (.new 1),some (.new 2),oN] [(1,sL ctx1),(3,I k3),(4,.ra 1 0),(6,.ra 2 0)] [(1,K1s s0),(2,K1u t2)] tv ?_
 refine sN ?_
 refine bk 0 ?_
 obtain ⟨a0,a1,h⟩ := Qct h
 refine rss hc none [oN,oN,oN,oc (I a0),oN,oN] [(1,sL ctx1),(3,I k3),(4,.ra 1 0),(6,.ra 2 0),(10,.bool (a0 == 0))] (cq (Kdx _ _ a1) K4k tv) ?_
 refine ic h (fun a2 h => ?_) fun a2 h => ?_
 ·refine rs0 hc 2 [(8,sL ctx1)] [] ?_
  refine rt ?_
  obtain rfl := os h
  exact rq [false]
 refine K8s hc 4 [(1,sL ctx1),(3,I k3),(4,.ra 1 0),(6,.ra 2 0),(17,.bool (t2.fOp == 9))] ?_
 refine ic h (fun a3 h => ?_) fun a3 h => ?_
 ·obtain ⟨a4,a5,h⟩ := Qct h
  refine rs hc none [oN,oN,oN,some (.mk 3 false),some (.call (.osl (List.map K10 a4)) [.tup []] 4),oN] [(8,.rs 4)] [(4,.arr (List.map K10 a4))] (ab (Q71.args (A1 := [sL ctx1,.sl (Q02 (List.map K10 [t2.fType]))]) (A2 := [sL ctx1,.sl (List.map K10 [t2.fType])]) (by simp only [List.map_nil,K14]) (Kek _ _ a5)) K4u tv) ?_
  refine vz 4 (K14 a4) [(8,sL a4)] [] ?_
  refine rt ?_
  obtain rfl := os h
  exact rq [false]
 refine sk ?_
 obtain ⟨a6,a7,a8,a9,h⟩ := bq2 h
 refine rs hc (rx [[0],[0],[0],[0,2],[0,2,3],[0,2,3,4],[6],[7],[8]]) [oN,oN,oN,oN,some (.el (K1v a6)),oN,oc (K1x a8),oN,oN] [(1,sL ctx1),(3,I k3),(6,.ra 2 0),(9,sI a8.fty)] [(2,K1u t2)] (ai (Qcx a7 (K0n a6)) (cq (Kg1 _ _ a9) K5c tv)) ?_
 refine sN ?_
 refine rs0 hc 3 [(1,sL ctx1),(3,I k3),(9,sI a8.fty),(36,.bool (t2.fOp == 5))] [] ?_
 refine ic h (fun b1 h => ?_) fun b1 h => ?_
 ·obtain ⟨b2,b3,b4,b5,b6,b7,h⟩ := bq3 h
  refine rs hc none [oN,oN,some (.call (oI b2) [] 5),oN,some (.call (oI b4) [] 6),some (.mk 7 true),some (.call (.osl (List.map K10 b6)) [.tup []] 8),oN] [(8,.rs 8)] [(8,.arr (List.map K10 b6))] (cq (Kf7 _ _ b3) K58 (cq (Kf7 _ _ b5) K58 (ab (Q71.args (A1 := [sL ctx1,.sl (Q02 (List.map K15 [b2,b4]))]) (A2 := [sL ctx1,.sl (List.map K10 [b2,b4])]) (by simp only [List.map_nil,K19]) (Kek _ _ b7)) K4u tv))) ?_
  refine vz 8 (K14 b6) [(8,sL b6)] [] ?_
  refine rt ?_
  obtain rfl := os h
  exact rq [false]
 refine sk ?_
 obtain ⟨b8,b9,c0,c1,h⟩ := bq2 h
 refine rs hc none [oN,oN,oN,oN,some (.call (oI b8) [] 9),some (.mk 10 true),some (.call (.osl (List.map K10 c0)) [.tup []] 11),oN] [(8,.rs 11)] [(11,.arr (List.map K10 c0))] (cq (Kf7 _ _ b9) K58 (ab (Q71.args (A1 := [sL ctx1,.sl (Q02 (List.map K15 [b8]))]) (A2 := [sL ctx1,.sl (List.map K10 [b8])]) (by simp only [List.map_nil,K19]) (Kek _ _ c1)) K4u tv)) ?_
 refine vz 11 (K14 c0) [(8,sL c0)] [] ?_
 refine rt ?_
 obtain rfl := os h
 exact rq [false]
def Kh2 (ty0 : (List Int)) : Option (K01) :=
 (idx ty0 0) >>= fun a0 =>
 if (a0 == 0) = true then
 some (K01.mk 1 0 [] [])
 else
 (Kf5 (ty0,0)) >>= fun a1 =>
 (Kca a0) >>= fun a2 =>
 if a2 = true then
 (Kcq a0) >>= fun a3 =>
 (Kh2 a1) >>= fun a4 =>
 some (K01.mk 11 a3 [] [a4])
 else
 if (a0 == 1) = true then
 (Kh2 a1) >>= fun a5 =>
 (Kf5 (ty0,1)) >>= fun a6 =>
 (Kh2 a6) >>= fun a7 =>
 some (K01.mk 4 0 [] [a5,a7])
 else
 if (a0 == 2) = true then
 (Kf5 (ty0,1)) >>= fun a8 =>
 (Kh2 a1) >>= fun a9 =>
 some (K01.mk 6 0 a8 [a9])
 else
 (Kcq a0) >>= fun b1 =>
 (Kf5 (ty0,1)) >>= fun b2 =>
 (Kh2 b2) >>= fun b3 =>
 some (K01.mk 9 b1 a1 [b3])
 partial_fixpoint
def Kh3 (ty0 : (List Int)) (r : K01) : Prop :=
 Q71 Tryz.prog 181 [sI ty0] (K24 r) []
theorem Kh4 : ∀ p r,Kh2 p = some r → Kh3 p r := by
 refine Kh2.partial_correctness Kh3 ?_
 rintro spec_l5Default_f spec_l5Default_ih ty0 r h
 refine b0 Tryz.f181 K5m 49 [(0,sI ty0)] fun c hc => ?_
 refine rs hc none [some (.new 1)] [(0,sI ty0),(2,.ra 1 0)] [(1,.box [I 0,I 0,.nils,.nils])] tv ?_
 obtain ⟨a0,a1,h⟩ := Qct h
 refine rss hc none [oN,some (.el (I a0)),oN,oN] [(0,sI ty0),(2,.ra 1 0),(3,I a0)] (ai (ix a1) tv) ?_
 refine sN ?_
 refine K8s hc 2 [(0,sI ty0),(2,.ra 1 0),(3,I a0),(9,.bool (a0 == 0))] ?_
 refine ic h (fun a2 h => ?_) fun a2 h => ?_
 ·refine rs0 hc 2 [(2,.ra 1 0)] [(1,.box [I 1,I 0,.nils,.nils])] ?_
  refine rt ?_
  obtain rfl := os h
  exact rq [true]
 refine sk ?_
 obtain ⟨a3,a4,h⟩ := Qct h
 refine rs hc none [oN,some (.call (oI a3) [] 2),oN] [(0,sI ty0),(2,.ra 1 0),(3,I a0),(4,.rs 2)] [(1,.box [I 0,I 0,.nils,.nils]),(2,rI a3)] (cq (Kf7 _ _ a4) K58 tv) ?_
 refine sN ?_
 refine bk 0 ?_
 obtain ⟨a5,a6,h⟩ := Qct h
 refine rss hc none [oN,oc (.bool a5),oN] [(0,sI ty0),(2,.ra 1 0),(3,I a0),(4,.rs 2),(13,.bool a5)] (cq (Kcc _ _ a6) K3w tv) ?_
 refine ic h (fun a7 h => ?_) fun a7 h => ?_
 ·obtain ⟨a8,a9,b1,b2,h⟩ := bq2 h
  refine rs hc none [oN,oc (I a8),oN,some (.call (K24 b1) [] 3),some (.eqv (.mk 5 true) ⟨[(20,.rs 5)],[(5,some (.arr (List.map K0j [b1]))),(3,none),(4,none)],[5]⟩),oN,oN] [(2,.ra 1 0)] [(1,.box [I 11,I a8,.nils,.rs 5]),(5,.arr (List.map K0j [b1]))] (cq (Kcs _ _ a9) K44 (ad (Q71.args (A1 := [.sl (Q02 (List.map I a3))]) (A2 := [sI a3]) (by simp only [List.map_nil,Qdl]) (spec_l5Default_ih _ _ b2)) K5n (Or.inr (Qdv rfl (Qdv rfl (Qdv (Qdt Qdp b1.fType) (Qdv (Qdt K1g b1.fKids) rfl)))) : ([2] : List Nat) = [] ∨ noSh (K24 b1) = true) (congrArg (fun z => (⟨[(20,.rs 5)],[(5,some (.arr z)),(3,none),(4,none)],[5]⟩ : Wr)) ((Qe0 (K0p b1) Qdz) : [AV.agg [I b1.fOp,I b1.fN,oI b1.fType,AV.osl (List.map K0j b1.fKids)]] = List.map K0j [b1])) tv)) ?_
  refine rt ?_
  obtain rfl := os h
  exact rq [true]
 refine K8s hc 3 [(0,sI ty0),(2,.ra 1 0),(3,I a0),(4,.rs 2),(22,.bool (a0 == 1))] ?_
 refine ic h (fun b3 h => ?_) fun b3 h => ?_
 ·obtain ⟨b4,b5,b6,b7,b8,b9,h⟩ := bq3 h
  refine rs hc none [oN,some (.call (K24 b4) [] 6),oN,some (.call (oI b6) [] 8),some (.call (K24 b8) [] 9),some (.eqv (.mk 11 true) ⟨[(30,.rs 11)],[(11,some (.arr (List.map K0j [b4,b8]))),(6,none),(7,none),(9,none),(10,none)],[11]⟩),oN,oN] [(2,.ra 1 0)] [(1,.box [I 4,I 0,.nils,.rs 11]),(11,.arr (List.map K0j [b4,b8]))] (ac (Q71.args (A1 := [.sl (Q02 (List.map I a3))]) (A2 := [sI a3]) (by simp only [List.map_nil,Qdl]) (spec_l5Default_ih _ _ b5)) K5n (Or.inr (Qdv rfl (Qdv rfl (Qdv (Qdt Qdp b4.fType) (Qdv (Qdt K1g b4.fKids) rfl)))) : ([2] : List Nat) = [] ∨ noSh (K24 b4) = true) (cq (Kf7 _ _ b7) K58 (ad (Q71.args (A1 := [.sl (Q02 (List.map I b6))]) (A2 := [sI b6]) (by simp only [List.map_nil,Qdl]) (spec_l5Default_ih _ _ b9)) K5n (Or.inr (Qdv rfl (Qdv rfl (Qdv (Qdt Qdp b8.fType) (Qdv (Qdt K1g b8.fKids) rfl)))) : ([8] : List Nat) = [] ∨ noSh (K24 b8) = true) (congrArg (fun z => (⟨[(30,.rs 11)],[(11,some (.arr z)),(6,none),(7,none),(9,none),(10,none)],[11]⟩ : Wr)) ((Qe0 (K0p b4) (Qe0 (K0p b8) Qdz)) : [AV.agg [I b4.fOp,I b4.fN,oI b4.fType,AV.osl (List.map K0j b4.fKids)],AV.agg [I b8.fOp,I b8.fN,oI b8.fType,AV.osl (List.map K0j b8.fKids)]] = List.map K0j [b4,b8])) tv))) ?_
  refine rt ?_
  obtain rfl := os h
  exact rq [true]
 refine K8s hc 3 [(0,sI ty0),(2,.ra 1 0),(3,I a0),(4,.rs 2),(32,.bool (a0 == 2))] ?_
 refine ic h (fun c0 h => ?_) fun c0 h => ?_
 ·obtain ⟨c1,c2,c3,c4,h⟩ := bq2 h
  refine rs hc none [oN,some (.call (oI c1) [] 12),oN,some (.call (K24 c3) [] 13),some (.eqv (.mk 15 true) ⟨[(39,.rs 15)],[(15,some (.arr (List.map K0j [c3]))),(13,none),(14,none)],[15]⟩),oN,oN] [(2,.ra 1 0)] [(1,.box [I 6,I 0,.rs 12,.rs 15]),(12,rI c1),(15,.arr (List.map K0j [c3]))] (cq (Kf7 _ _ c2) K58 (ad (Q71.args (A1 := [.sl (Q02 (List.map I a3))]) (A2 := [sI a3]) (by simp only [List.map_nil,Qdl]) (spec_l5Default_ih _ _ c4)) K5n (Or.inr (Qdv rfl (Qdv rfl (Qdv (Qdt Qdp c3.fType) (Qdv (Qdt K1g c3.fKids) rfl)))) : ([2] : List Nat) = [] ∨ noSh (K24 c3) = true) (congrArg (fun z => (⟨[(39,.rs 15)],[(15,some (.arr z)),(13,none),(14,none)],[15]⟩ : Wr)) ((Qe0 (K0p c3) Qdz) : [AV.agg [I c3.fOp,I c3.fN,oI c3.fType,AV.osl (List.map K0j c3.fKids)]] = List.map K0j [c3])) tv)) ?_
  refine rt ?_
  obtain rfl := os h
  exact rq [true]
 refine sk ?_
 obtain ⟨c5,c6,c7,c8,c9,d0,h⟩ := bq3 h
 refine rs hc none [oN,oc (I c5),oN,oN,some (.call (oI c7) [] 16),some (.call (K24 c9) [] 17),some (.eqv (.mk 19 true) ⟨[(47,.rs 19)],[(19,some (.arr (List.map K0j [c9]))),(17,none),(18,none)],[19]⟩),oN,oN] [(2,.ra 1 0)] [(1,.box [I 9,I c5,.rs 2,.rs 19]),(2,rI a3),(19,.arr (List.map K0j [c9]))] (cq (Kcs _ _ c6) K44 (cq (Kf7 _ _ c8) K58 (ad (Q71.args (A1 := [.sl (Q02 (List.map I c7))]) (A2 := [sI c7]) (by simp only [List.map_nil,Qdl]) (spec_l5Default_ih _ _ d0)) K5n (Or.inr (Qdv rfl (Qdv rfl (Qdv (Qdt Qdp c9.fType) (Qdv (Qdt K1g c9.fKids) rfl)))) : ([16] : List Nat) = [] ∨ noSh (K24 c9) = true) (congrArg (fun z => (⟨[(47,.rs 19)],[(19,some (.arr z)),(17,none),(18,none)],[19]⟩ : Wr)) ((Qe0 (K0p c9) Qdz) : [AV.agg [I c9.fOp,I c9.fN,oI c9.fType,AV.osl (List.map K0j c9.fKids)]] = List.map K0j [c9])) tv))) ?_
 refine rt ?_
 obtain rfl := os h
 exact rq [true]
def Kh5 (c : Ctx) (t3 : K01) (a0 : List Int) : (List K01) → Exit → Q0a → Prop
 | a1 => Qcf c (.exit 0) (mkS [(8,.ra 3 0),(9,.ra 5 0)] [(3,.box [I 0,I 0,.nils,.nils]),(4,rI a0),(5,.box [I t3.fOp,I t3.fN,.rs 4,.rs 14]),(14,.arr (List.map K0j a1))])
mutual
def Kh6 (p : K00 × (List Int) × LL × K01) : Option (K01) :=
 match p with
 | (s0,view1,ctx2,t3) =>
  (Kef t3.fType) >>= fun a0 =>
  (Kh7 (s0,view1,ctx2,t3,a0,[],0)) >>= fun a1 =>
  some (K01.mk t3.fOp t3.fN a0 a1)
 partial_fixpoint
def Kh7 (p : K00 × (List Int) × LL × K01 × (List Int) × (List K01) × Int) : Option ((List K01)) :=
 match p with
 | (s0,view1,ctx2,t3,a0,a1,a2) =>
  if (decide (a2 < (t3.fKids.length : Int))) = true then
  ((
  if (t3.fOp == 11) = true then
  (Kgw (view1,t3.fN)) >>= fun a3 =>
  some ((!a3))
  else
  some (false)
  ) : Option (Bool)) >>= fun a4 =>
  ((
  if (t3.fOp == 10) = true then
  some ((a2 == 1))
  else
  some (false)
  ) : Option (Bool)) >>= fun a5 =>
  ((
  if a5 = true then
  (idx t3.fKids 0) >>= fun a6 =>
  (Kfs (s0,ctx2,a6)) >>= fun a7 =>
  (idx a7.fty 0) >>= fun a8 =>
  (Kcq a8) >>= fun a9 =>
  (Kgw (view1,a9)) >>= fun b1 =>
  some ((!b1))
  else
  some (a4)
  ) : Option (Bool)) >>= fun b2 =>
  (Kgz (s0,ctx2,t3,a2)) >>= fun b3 =>
  ((
  if b2 = true then
  (idx t3.fKids a2) >>= fun b4 =>
  (Kfs (s0,b3,b4)) >>= fun b5 =>
  (Kh2 b5.fty) >>= fun b6 =>
  (Qd6 (a1.length + [b6].length) 64) >>= fun _ =>
  some ((a1 ++ [b6]))
  else
  (idx t3.fKids a2) >>= fun b7 =>
  (Kh6 (s0,view1,b3,b7)) >>= fun b8 =>
  (Qd6 (a1.length + [b8].length) 64) >>= fun _ =>
  some ((a1 ++ [b8]))
  ) : Option ((List K01))) >>= fun b9 =>
  Kh7 (s0,view1,ctx2,t3,a0,b9,(wr (a2 + 1)))
  else
  some (a1)
 partial_fixpoint
end
def Kh8 (p : K00 × (List Int) × LL × K01) (r : K01) : Prop :=
 match p with
 | (s0,view1,ctx2,t3) => Q71 Tryz.prog 114 [K1t s0,sI view1,sL ctx2,K1v t3] (K24 r) []
def Kh9 (p : K00 × (List Int) × LL × K01 × (List Int) × (List K01) × Int) (fl : (List K01)) : Prop :=
 match p with
 | (s0,view1,ctx2,t3,a0,a1,a2) => ∀ c : Ctx,c.nt = 95 → WpL Tryz.prog c (cl (cl (cr (cl (cr (cr K5o)))))) (Kh5 c t3 a0 fl) (mkS [(1,sI view1),(2,sL ctx2),(4,.ra 1 0),(7,.ra 2 0),(8,.ra 3 0),(9,.ra 5 0),(10,I a2)] [(1,K1s s0),(2,K1u t3),(3,.box [I 0,I 0,.nils,.nils]),(4,rI a0),(5,.box [I t3.fOp,I t3.fN,.rs 4,.rs 14]),(14,.arr (List.map K0j a1))])
theorem Kha : (∀ p r,Kh6 p = some r → Kh8 p r) ∧ (∀ p r,Kh7 p = some r → Kh9 p r) := by
 refine Kh6.mutual_partial_correctness Kh8 Kh9 ?_ ?_
 ·rintro spec_l7Term_l0_f spec_l7Term_l0_ih ⟨s0,view1,ctx2,t3⟩ r h
  refine b0 Tryz.f114 K5o 95 [(0,K1t s0),(1,sI view1),(2,sL ctx2),(3,K1v t3)] fun c hc => ?_
  refine rs hc none [some (.new 1),some (.new 2),some (.new 3)] [(1,sI view1),(2,sL ctx2),(4,.ra 1 0),(7,.ra 2 0),(8,.ra 3 0)] [(1,K1s s0),(2,K1u t3),(3,.box [I 0,I 0,.nils,.nils])] tv ?_
  obtain ⟨a0,a1,h⟩ := Qct h
  refine rs hc (rx [[0],[1],[0],[0,2],[0],[0,4],[0,4,5],[7],[0],[9]]) [oN,oN,oN,oN,oN,oN,some (.call (oI a0) [] 4),oN,some (.new 5),oN] [(1,sI view1),(2,sL ctx2),(4,.ra 1 0),(7,.ra 2 0),(8,.ra 3 0),(9,.ra 5 0)] [(1,K1s s0),(2,K1u t3),(3,.box [I 0,I 0,.nils,.nils]),(4,rI a0),(5,.box [I t3.fOp,I t3.fN,.rs 4,.nils])] (cq (Keh _ _ a1) K4s tv) ?_
  refine sN ?_
  refine K8s hc 1 [(1,sI view1),(2,sL ctx2),(4,.ra 1 0),(7,.ra 2 0),(8,.ra 3 0),(9,.ra 5 0),(10,I 0)] ?_
  refine bk 0 ?_
  obtain ⟨a2,a3,h⟩ := Qct h
  have hL := spec_l7Term_l0_ih _ _ a3 c hc
  refine Wp.loopN (by kernel_rfl) (WpL.view (fun a w hv => SRx.renL [(14,31)] (SRx.nilBL 5 3 31 [I t3.fOp,I t3.fN,.rs 4,.nils] hv (by kernel_rfl) (by kernel_rfl) (by kernel_rfl)) (by kernel_rfl) (by kernel_rfl) (by kernel_rfl)) (?_ : WpL _ c _ _ (mkS [(1,sI view1),(2,sL ctx2),(4,.ra 1 0),(7,.ra 2 0),(8,.ra 3 0),(9,.ra 5 0),(10,I 0)] [(1,K1s s0),(2,K1u t3),(3,.box [I 0,I 0,.nils,.nils]),(4,rI a0),(5,.box [I t3.fOp,I t3.fN,.rs 4,.rs 14]),(14,.arr (List.map K0j []))])))
  refine WpL.into (e := (.exit 0)) (mkS [(8,.ra 3 0),(9,.ra 5 0)] [(3,.box [I 0,I 0,.nils,.nils]),(4,rI a0),(5,.box [I t3.fOp,I t3.fN,.rs 4,.rs 14]),(14,.arr (List.map K0j a2))]) hL ?_
  refine Qc7 ?_
  refine rs0 hc 2 [(8,.ra 3 0)] [(3,.box [I t3.fOp,I t3.fN,.rs 4,.rs 14]),(4,rI a0),(14,.arr (List.map K0j a2))] ?_
  refine rt ?_
  obtain rfl := os h
  exact rq [true]
 ·rintro spec_l7Term_f spec_l7Term_l0_f spec_l7Term_ih spec_l7Term_l0_ih ⟨s0,view1,ctx2,t3,a0,a4,a5⟩ r h
  intro c hc
  refine WpL.step ?_
  refine sN ?_
  refine rss hc none [oN,oN,oN,some (.eqv (.no) ⟨[(24,I (t3.fKids.length : Int))],[],[]⟩),oN] [(1,sI view1),(2,sL ctx2),(4,.ra 1 0),(7,.ra 2 0),(8,.ra 3 0),(9,.ra 5 0),(10,I a5),(25,.bool (decide (a5 < (t3.fKids.length : Int))))] (ai (Qcz (d := 24) K0g t3.fKids) tv) ?_
  refine ic h (fun a6 h => ?_) fun a6 h => ?_
  ·refine sk ?_
   refine sN ?_
   refine bk 1 ?_
   refine sN ?_
   obtain ⟨a7,a8,h⟩ := Qct h
   refine Wp.into (x := .normal) (mkS [(1,sI view1),(2,sL ctx2),(4,.ra 1 0),(7,.ra 2 0),(8,.ra 3 0),(9,.ra 5 0),(10,I a5),(11,.bool a7)] [(1,K1s s0),(2,K1u t3),(3,.box [I 0,I 0,.nils,.nils]),(4,rI a0),(5,.box [I t3.fOp,I t3.fN,.rs 4,.rs 14]),(14,.arr (List.map K0j a4))]) ?_ ?_
   ·replace h := a8
    rcases is h with ⟨a9,h⟩ | ⟨a9,h⟩
    ·obtain ⟨b1,b2,h⟩ := Qct h
     refine rgs hc none [oN,oN,oN,oN,oN,oN,oN,oc (.bool b1),oN,oT,oN] [(1,sI view1),(2,sL ctx2),(4,.ra 1 0),(7,.ra 2 0),(8,.ra 3 0),(9,.ra 5 0),(10,I a5),(11,.bool (!b1))] (ar 4 a9 (cq (Kgy _ _ b2) K5j (ar 2 a9 tv))) ?_
     obtain rfl := os h
     exact Qcf.mk
    refine rgs hc none [oN,oN,oN,oN,o_,o_,o_,o_,o_,oF,oN] [(1,sI view1),(2,sL ctx2),(4,.ra 1 0),(7,.ra 2 0),(8,.ra 3 0),(9,.ra 5 0),(10,I a5),(11,.bool false)] (ar 5 (neT a9) (ai a9 tv)) ?_
    obtain rfl := os h
    exact Qcf.mk
   clear a8
   refine sN ?_
   refine sN ?_
   obtain ⟨b3,b4,h⟩ := Qct h
   refine Wp.into (x := .normal) (mkS [(1,sI view1),(2,sL ctx2),(4,.ra 1 0),(7,.ra 2 0),(8,.ra 3 0),(9,.ra 5 0),(10,I a5),(11,.bool a7),(44,.bool b3)] [(1,K1s s0),(2,K1u t3),(3,.box [I 0,I 0,.nils,.nils]),(4,rI a0),(5,.box [I t3.fOp,I t3.fN,.rs 4,.rs 14]),(14,.arr (List.map K0j a4))]) ?_ ?_
   ·replace h := b4
    rcases is h with ⟨b5,h⟩ | ⟨b5,h⟩
    ·refine rgs hc none [oN,oN,oN,oN,oN,oN,oT] [(1,sI view1),(2,sL ctx2),(4,.ra 1 0),(7,.ra 2 0),(8,.ra 3 0),(9,.ra 5 0),(10,I a5),(11,.bool a7),(44,.bool (a5 == 1))] (ar 3 b5 tv) ?_
     obtain rfl := os h
     exact Qcf.mk
    refine rgs hc none [oN,oN,oN,oN,o_,o_,oF] [(1,sI view1),(2,sL ctx2),(4,.ra 1 0),(7,.ra 2 0),(8,.ra 3 0),(9,.ra 5 0),(10,I a5),(11,.bool a7),(44,.bool false)] (ar 2 (neT b5) (ai b5 tv)) ?_
    obtain rfl := os h
    exact Qcf.mk
   clear b4
   obtain ⟨b6,b7,h⟩ := Qct h
   refine Wp.into (x := .normal) (mkS [(1,sI view1),(2,sL ctx2),(4,.ra 1 0),(7,.ra 2 0),(8,.ra 3 0),(9,.ra 5 0),(10,I a5),(11,.bool b6)] [(1,K1s s0),(2,K1u t3),(3,.box [I 0,I 0,.nils,.nils]),(4,rI a0),(5,.box [I t3.fOp,I t3.fN,.rs 4,.rs 14]),(14,.arr (List.map K0j a4))]) ?_ ?_
   ·replace h := b7
    refine ic h (fun b8 h => ?_) fun b8 h => ?_
    ·obtain ⟨b9,c0,c1,c2,c3,c4,c5,c6,h⟩ := bq4 h
     obtain ⟨c7,c8,h⟩ := Qct h
     refine rgs hc (rx [[0],[0],[0],[0],[0,3],[0,3,4],[0,3,4,5],[0,1,2,3,4,5,6],[0,1,2,3,4,5,6,7],[0,1,2,3,4,5,6,7,8],[0,1,2,3,4,5,6,7,8,9],[0,1,2,3,4,5,6,7,8,9,10],[12],[13],[14]]) [oN,oN,oN,oN,oN,some (.el (K1v b9)),oN,oc (K1x c1),oN,some (.el (I c3)),oN,oc (I c5),oc (.bool c7),oN,oN] [(1,sI view1),(2,sL ctx2),(4,.ra 1 0),(7,.ra 2 0),(8,.ra 3 0),(9,.ra 5 0),(10,I a5),(11,.bool (!c7))] (ai (Qcx c0 (K0n b9)) (cq (Kg1 _ _ c2) K5c (ai (ix c4) (cq (Kcs _ _ c6) K44 (cq (Kgy _ _ c8) K5j tv))))) ?_
     obtain rfl := os h
     exact Qcf.mk
    refine sk ?_
    obtain rfl := os h
    exact iv []
   clear b7
   obtain ⟨c9,d0,h⟩ := Qct h
   refine rss hc none [oN,oN,oN,oN,oc (sL c9),oN] [(1,sI view1),(2,sL ctx2),(4,.ra 1 0),(7,.ra 2 0),(8,.ra 3 0),(9,.ra 5 0),(10,I a5),(11,.bool b6),(12,sL c9)] (cq (Kh1 _ _ d0) K5l tv) ?_
   refine K8s hc 1 [(1,sI view1),(2,sL ctx2),(4,.ra 1 0),(7,.ra 2 0),(8,.ra 3 0),(9,.ra 5 0),(10,I a5),(12,sL c9),(64,.bool b6)] ?_
   obtain ⟨d1,d2,h⟩ := Qct h
   refine Wp.into (x := .normal) (mkS [(1,sI view1),(2,sL ctx2),(4,.ra 1 0),(7,.ra 2 0),(8,.ra 3 0),(9,.ra 5 0),(10,I a5)] [(1,K1s s0),(2,K1u t3),(3,.box [I 0,I 0,.nils,.nils]),(4,rI a0),(5,.box [I t3.fOp,I t3.fN,.rs 4,.rs 26]),(26,.arr (List.map K0j d1))]) ?_ ?_
   ·replace h := d2
    refine ic h (fun d3 h => ?_) fun d3 h => ?_
    ·obtain ⟨d4,d5,d6,d7,d8,d9,_,e0,h⟩ := bq4 h
     refine rg hc (rx [[0],[1],[0],[0],[0],[0,4],[0],[0,4,5,6],[0,4,5,6,7],[0,2,3,4,5,6,7,8],[0,2,3,4,5,6,7,8,9],[0,2,3,4,5,6,7,8,9,10],[0,2,3,4,5,6,7,8,9,10,11],[13],[14],[15]]) [oN,oN,oN,oN,oN,oN,oN,some (.el (K1v d4)),oN,oc (K1x d6),oN,some (.call (K24 d8) [] 23),some (.eqv (.mk 25 true) ⟨[(77,.rs 25)],[(25,some (.arr (List.map K0j [d8]))),(23,none),(24,none)],[25]⟩),some (.eqv (.mk 26 true) ⟨[(78,.rs 26)],[(26,some (.arr (List.map K0j (a4 ++ [d8])))),(14,none),(25,none)],[26]⟩),oN,oN] [(1,sI view1),(2,sL ctx2),(4,.ra 1 0),(7,.ra 2 0),(8,.ra 3 0),(9,.ra 5 0),(10,I a5)] [(1,K1s s0),(2,K1u t3),(3,.box [I 0,I 0,.nils,.nils]),(4,rI a0),(5,.box [I t3.fOp,I t3.fN,.rs 4,.rs 26]),(26,.arr (List.map K0j (a4 ++ [d8])))] (ai (Qcx d5 (K0n d4)) (cq (Kg1 _ _ d7) K5c (cq (Kh4 _ _ d9) K5n (ac (congrArg (fun z => (⟨[(77,.rs 25)],[(25,some (.arr z)),(23,none),(24,none)],[25]⟩ : Wr)) ((Qe0 (K0p d8) Qdz) : [AV.agg [I d8.fOp,I d8.fN,oI d8.fType,AV.osl (List.map K0j d8.fKids)]] = List.map K0j [d8])) (congrArg (fun z => (⟨[(78,.rs 26)],[(26,some (.arr z)),(14,none),(25,none)],[26]⟩ : Wr)) ((List.map_append).symm : (List.map K0j a4) ++ (List.map K0j [d8]) = List.map K0j (a4 ++ [d8]))) (Qd7 (enc1 := K0j) (enc2 := K0j) (e1 := a4) (e2 := [d8]) (sz := 4) K1c K1c e0) tv)))) ?_
     obtain rfl := os h
     exact Qcf.mk
    obtain ⟨e3,e4,e5,e6,_,e7,h⟩ := bq3 h
    refine rg hc (rx [[0],[1],[0],[0],[0],[0],[0,5],[0],[0,5,6,7],[0,5,6,7,8],[0,2,3,4,5,6,7,8,9],[0,2,3,4,5,6,7,8,9,10],[12],[13],[14]]) [oN,oN,oN,oN,oN,oN,oN,oN,some (.el (K1v e3)),oN,some (.call (K24 e5) [] 27),some (.eqv (.mk 29 true) ⟨[(91,.rs 29)],[(29,some (.arr (List.map K0j [e5]))),(27,none),(28,none)],[29]⟩),some (.eqv (.mk 30 true) ⟨[(92,.rs 30)],[(30,some (.arr (List.map K0j (a4 ++ [e5])))),(14,none),(29,none)],[30]⟩),oN,oN] [(1,sI view1),(2,sL ctx2),(4,.ra 1 0),(7,.ra 2 0),(8,.ra 3 0),(9,.ra 5 0),(10,I a5)] [(1,K1s s0),(2,K1u t3),(3,.box [I 0,I 0,.nils,.nils]),(4,rI a0),(5,.box [I t3.fOp,I t3.fN,.rs 4,.rs 30]),(30,.arr (List.map K0j (a4 ++ [e5])))] (ai (Qcx e4 (K0n e3)) (cq (spec_l7Term_ih _ _ e6) K5p (ac (congrArg (fun z => (⟨[(91,.rs 29)],[(29,some (.arr z)),(27,none),(28,none)],[29]⟩ : Wr)) ((Qe0 (K0p e5) Qdz) : [AV.agg [I e5.fOp,I e5.fN,oI e5.fType,AV.osl (List.map K0j e5.fKids)]] = List.map K0j [e5])) (congrArg (fun z => (⟨[(92,.rs 30)],[(30,some (.arr z)),(14,none),(29,none)],[30]⟩ : Wr)) ((List.map_append).symm : (List.map K0j a4) ++ (List.map K0j [e5]) = List.map K0j (a4 ++ [e5]))) (Qd7 (enc1 := K0j) (enc2 := K0j) (e1 := a4) (e2 := [e5]) (sz := 4) K1c K1c e7) tv))) ?_
    obtain rfl := os h
    exact iv [(26,30)]
   clear d2
   refine K8r hc 3 [(1,sI view1),(2,sL ctx2),(4,.ra 1 0),(7,.ra 2 0),(8,.ra 3 0),(9,.ra 5 0),(10,I (wr (a5 + 1)))] ?_
   refine Qcb ?_
   exact WpL.view (fun a w hv => SRx.renL [(14,26)] hv (by kernel_rfl) (by kernel_rfl) (by kernel_rfl)) (spec_l7Term_l0_ih _ _ h c hc)
  refine xt 0 ?_
  refine Qc5 ?_
  refine Qcc ?_
  obtain rfl := os h
  exact iv []
theorem Khb : ∀ p r,Kh6 p = some r → Kh8 p r := Kha.1
theorem Khc : ∀ p r,Kh7 p = some r → Kh9 p r := Kha.2
def Khd (p : K00 × (List Int) × LL × K01) : Option (K01 × Bool) :=
 match p with
 | (s0,view1,ctx2,t3) =>
  (Kg5 (s0,ctx2,t3)) >>= fun (a0,a1,a2) =>
  ((
  if a2 = true then
  (Kgp (s0,view1)) >>= fun a3 =>
  some ((!a3))
  else
  some (true)
  ) : Option (Bool)) >>= fun a4 =>
  if a4 = true then
  some ((K01.mk 0 0 [] []),false)
  else
  (Kh6 (s0,view1,ctx2,t3)) >>= fun a5 =>
  (Kd9 (a5,400)) >>= fun a6 =>
  if (decide (a6 < 0)) = true then
  some ((K01.mk 0 0 [] []),false)
  else
  some (a5,true)
def Khe (p : K00 × (List Int) × LL × K01) (r : K01 × Bool) : Prop :=
 match p with
 | (s0,view1,ctx2,t3) => Q71 Tryz.prog 56 [K1t s0,sI view1,sL ctx2,K1v t3] (.tup [.agg [I r.1.fOp,I r.1.fN,.osl (List.map I r.1.fType),.osl (List.map K0j r.1.fKids)],.bool r.2]) []
theorem Khf : ∀ p r,Khd p = some r → Khe p r := by
 rintro ⟨s0,view1,ctx2,t3⟩ r h
 unfold Khd at h
 refine b0 Tryz.f56 B56 41 [(0,K1t s0),(1,sI view1),(2,sL ctx2),(3,K1v t3)] fun c hc => ?_
 refine rs hc none [some (.new 1),some (.new 2),some (.new 3),oN] [(1,sI view1),(2,sL ctx2),(4,.ra 1 0),(7,.ra 2 0),(8,.ra 3 0)] [(1,K1s s0),(2,K1u t3),(3,.box [I 0,I 0,.nils,.nils])] tv ?_
 obtain ⟨⟨a0,a1,a2⟩,a3,h⟩ := Qct h
 refine rss hc none [oN,oN,oN,oc (.tup [sI a0,sI a1,.bool a2]),oN,oN,oN,oN,oN,oN,oN] [(1,sI view1),(2,sL ctx2),(4,.ra 1 0),(7,.ra 2 0),(8,.ra 3 0),(12,.bool a2)] (cq (Kg7 _ _ a3) K5f tv) ?_
 refine sN ?_
 refine sN ?_
 obtain ⟨a4,a5,h⟩ := Qct h
 refine Wp.into (x := .normal) (mkS [(1,sI view1),(2,sL ctx2),(4,.ra 1 0),(7,.ra 2 0),(8,.ra 3 0),(29,.bool a4)] [(1,K1s s0),(2,K1u t3),(3,.box [I 0,I 0,.nils,.nils])]) ?_ ?_
 ·replace h := a5
  rcases is h with ⟨a6,h⟩ | ⟨a6,h⟩
  ·obtain ⟨a7,a8,h⟩ := Qct h
   refine rgs hc none [oN,oN,oN,oN,oN,oc (.bool a7),oN,oF] [(1,sI view1),(2,sL ctx2),(4,.ra 1 0),(7,.ra 2 0),(8,.ra 3 0),(29,.bool (!a7))] (ar 3 (nF a6) (cq (Kgr _ _ a8) K5i (ar 2 (nF a6) tv))) ?_
   obtain rfl := os h
   exact Qcf.mk
  refine rgs hc none [oN,oN,oN,o_,o_,o_,o_,oT] [(1,sI view1),(2,sL ctx2),(4,.ra 1 0),(7,.ra 2 0),(8,.ra 3 0),(29,.bool true)] (ar 4 (neF (nT a6)) (ai (nT a6) tv)) ?_
  obtain rfl := os h
  exact Qcf.mk
 clear a5
 refine ic h (fun a9 h => ?_) fun a9 h => ?_
 ·refine rs0 hc 3 [(8,.ra 3 0),(9,.bool false)] [(3,.box [I 0,I 0,.nils,.nils])] ?_
  refine rt ?_
  obtain rfl := os h
  exact rq [true,true]
 refine sk ?_
 obtain ⟨b1,b2,h⟩ := Qct h
 refine rs hc none [oN,oN,oN,oN,some (.call (K24 b1) [] 4),some (.new 6),oN] [(8,.ra 3 0),(13,.ra 6 0)] [(3,.box [I 0,I 0,.nils,.nils]),(4,rI b1.fType),(5,.arr (List.map K0j b1.fKids)),(6,.box [I b1.fOp,I b1.fN,.rs 4,.rs 5])] (cq (Khb _ _ b2) K5p tv) ?_
 refine sN ?_
 obtain ⟨b3,b4,h⟩ := Qct h
 refine rss hc none [oN,oc (I b3),oN] [(8,.ra 3 0),(13,.ra 6 0),(38,.bool (decide (b3 < 0)))] (ac (Q71.args (A1 := [K25 b1,I 400]) (A2 := [K1v b1,I 400]) (by simp only [K25,List.map_nil,K1f,Qdl]) (Kde _ _ b4)) K4a (Or.inr rfl : ([4,5] : List Nat) = [] ∨ noSh (I b3) = true) tv) ?_
 refine ic h (fun b5 h => ?_) fun b5 h => ?_
 ·refine rs0 hc 3 [(8,.ra 3 0),(9,.bool false)] [(3,.box [I 0,I 0,.nils,.nils])] ?_
  refine rt ?_
  obtain rfl := os h
  exact rq [true,true]
 refine sk ?_
 refine rs0 hc 3 [(8,.ra 3 0),(9,.bool true)] [(3,.box [I b1.fOp,I b1.fN,.rs 4,.rs 5]),(4,rI b1.fType),(5,.arr (List.map K0j b1.fKids))] ?_
 refine rt ?_
 obtain rfl := os h
 exact rq [true,true]
def Khg (p : Int × Int × Int) : Option (Bool) :=
 match p with
 | (n0,low1,high2) =>
  ((
  if (decide (n0 ≥ low1)) = true then
  some ((decide (n0 ≤ high2)))
  else
  some (false)
  ) : Option (Bool)) >>= fun a0 =>
  some a0
def Khh (p : Int × Int × Int) (r : Bool) : Prop :=
 match p with
 | (n0,low1,high2) => Q71 Tryz.prog 108 [I n0,I low1,I high2] (.bool r) []
theorem Khi : ∀ p r,Khg p = some r → Khh p r := by
 rintro ⟨n0,low1,high2⟩ r h
 unfold Khg at h
 refine b0 Tryz.f108 K5r 15 [(0,I n0),(1,I low1),(2,I high2)] fun c hc => ?_
 refine rs0 hc 1 [(0,I n0),(1,I low1),(2,I high2)] [] ?_
 refine sN ?_
 obtain ⟨a0,a1,h⟩ := Qct h
 refine Wp.into (x := .normal) (mkS [(6,.bool a0)] []) ?_ ?_
 ·replace h := a1
  rcases is h with ⟨a2,h⟩ | ⟨a2,h⟩
  ·refine rg hc none [oN,oN,oN,oN,oN,oN,oN,oT,oN] [(6,.bool (decide (n0 ≤ high2)))] [] (ar 4 a2 tv) ?_
   obtain rfl := os h
   exact Qcf.mk
  refine rg hc none [oN,oN,oN,oN,o_,o_,o_,oF,oN] [(6,.bool false)] [] (ar 3 (neT a2) (ai a2 tv)) ?_
  obtain rfl := os h
  exact Qcf.mk
 clear a1
 refine rt ?_
 obtain rfl := os h
 exact rq [true]
def Khj (p : K00 × Int) : Option (Bool) :=
 match p with
 | (s0,g1) =>
  (Khg (g1,0,(wr (s0.fSize - 1)))) >>= fun a0 =>
  some a0
def Khk (p : K00 × Int) (r : Bool) : Prop :=
 match p with
 | (s0,g1) => Q71 Tryz.prog 85 [K1t s0,I g1] (.bool r) []
theorem Khl : ∀ p r,Khj p = some r → Khk p r := by
 rintro ⟨s0,g1⟩ r h
 unfold Khj at h
 refine b0 Tryz.f85 B85 10 [(0,K1t s0),(1,I g1)] fun c hc => ?_
 refine rs hc none [some (.new 1),oN] [(1,I g1),(2,.ra 1 0)] [(1,K1s s0)] tv ?_
 obtain ⟨a0,a1,h⟩ := Qct h
 refine rs hc none [oN,oN,oN,oN,oc (.bool a0),oN] [(4,.bool a0)] [] (cq (Khi _ _ a1) K5s tv) ?_
 refine rt ?_
 obtain rfl := os h
 exact rq [true]
def Khm (p : K00 × Int × Int) : Option (Int) :=
 match p with
 | (s0,a1,b2) =>
  (idx s0.fPlus (wr ((wr (a1 * s0.fSize)) + b2))) >>= fun a0 =>
  some a0
def Khn (p : K00 × Int × Int) (r : Int) : Prop :=
 match p with
 | (s0,a1,b2) => Q71 Tryz.prog 169 [K1t s0,I a1,I b2] (I r) []
theorem Kho : ∀ p r,Khm p = some r → Khn p r := by
 rintro ⟨s0,a1,b2⟩ r h
 unfold Khm at h
 refine b0 Tryz.f169 K5u 17 [(0,K1t s0),(1,I a1),(2,I b2)] fun c hc => ?_
 refine rs hc none [some (.new 1),oN] [(1,I a1),(2,I b2),(3,.ra 1 0)] [(1,K1s s0)] tv ?_
 obtain ⟨a0,a2,h⟩ := Qct h
 refine rs hc none [oN,oN,oN,oN,oN,oN,oN,oN,some (.el (I a0)),oN,oN] [(6,I a0)] [] (ai (ix a2) tv) ?_
 refine rt ?_
 obtain rfl := os h
 exact rq [true]
def Khp (p : K00 × Int × Int) : Option (Int) :=
 match p with
 | (s0,a1,b2) =>
  (idx s0.fTimes (wr ((wr (a1 * s0.fSize)) + b2))) >>= fun a0 =>
  some a0
def Khq (p : K00 × Int × Int) (r : Int) : Prop :=
 match p with
 | (s0,a1,b2) => Q71 Tryz.prog 170 [K1t s0,I a1,I b2] (I r) []
theorem Khr : ∀ p r,Khp p = some r → Khq p r := by
 rintro ⟨s0,a1,b2⟩ r h
 unfold Khp at h
 refine b0 Tryz.f170 K5w 17 [(0,K1t s0),(1,I a1),(2,I b2)] fun c hc => ?_
 refine rs hc none [some (.new 1),oN] [(1,I a1),(2,I b2),(3,.ra 1 0)] [(1,K1s s0)] tv ?_
 obtain ⟨a0,a2,h⟩ := Qct h
 refine rs hc none [oN,oN,oN,oN,oN,oN,oN,oN,some (.el (I a0)),oN,oN] [(6,I a0)] [] (ai (ix a2) tv) ?_
 refine rt ?_
 obtain rfl := os h
 exact rq [true]
def Khs : Option (List (List Nat)) := rx [[0],[0],[0],[0],[0,1,2,3],[0],[6],[0],[0],[0],[0],[0],[7,9,10,11],[13],[14],[15],[16],[16],[16],[16],[16,17,18,19],[16],[22],[16],[16],[16],[16],[16],[23,25,26,27],[29],[30],[31]]
def Kht : Option (List (List Nat)) := rx [[0],[0],[0],[0],[0],[0,2,3,4],[6],[0],[0],[0],[0],[7,8,9,10],[0],[0],[0],[7,8,9,10,11,12,13,14],[16],[17],[18],[19],[19],[19],[19],[19,20,21,22],[19],[25],[19],[19],[19],[19],[26,27,28,29],[19],[19],[19],[26,27,28,29,30,31,32,33],[35],[36],[37]]
def Khu : Option (List (List Nat)) := rx [[0],[0],[0],[3],[4],[5],[6],[6],[6],[6],[6,7,8,9],[6],[6],[6],[6,7,8,9,10,11,12,13],[15],[16],[17],[17],[17],[17],[17,18,19,20],[17],[17],[17],[17,18,19,20,21,22,23,24],[26],[27],[28],[29],[29],[29],[29],[29,30,31,32],[29],[29],[29],[29,30,31,32,33,34,35,36],[38],[39],[40],[41]]
def Khv : Option (List (List Nat)) := rx [[0],[0],[0,1],[0],[0,1,2,3],[0,1,2,3,4],[6],[7],[8],[9],[9],[9,10],[9],[9,10,11,12],[9,10,11,12,13],[15],[16],[17]]
def Khw (p : K00 × Int × Int) : Option (Bool) :=
 match p with
 | (s0,a1,b2) =>
  (idx s0.fBelow (wr ((wr (a1 * s0.fSize)) + b2))) >>= fun a0 =>
  some a0
def Khx (p : K00 × Int × Int) (r : Bool) : Prop :=
 match p with
 | (s0,a1,b2) => Q71 Tryz.prog 86 [K1t s0,I a1,I b2] (.bool r) []
theorem Khy : ∀ p r,Khw p = some r → Khx p r := by
 rintro ⟨s0,a1,b2⟩ r h
 unfold Khw at h
 refine b0 Tryz.f86 B86 17 [(0,K1t s0),(1,I a1),(2,I b2)] fun c hc => ?_
 refine rs hc none [some (.new 1),oN] [(1,I a1),(2,I b2),(3,.ra 1 0)] [(1,K1s s0)] tv ?_
 obtain ⟨a0,a2,h⟩ := Qct h
 refine rs hc none [oN,oN,oN,oN,oN,oN,oN,oN,some (.el (.bool a0)),oN,oN] [(6,.bool a0)] [] (ai (Qcx (enc := AV.bool) (x := .bool a0) a2 (Qda a0)) tv) ?_
 refine rt ?_
 obtain rfl := os h
 exact rq [true]
def Khz (c : Ctx) (s0 : K00) (a1 : Int) (b2 : Int) (a0 : Int) : Bool → Exit → Q0a → Prop
 | a2 => Qcf c (.exit 2) (mkS [(1,I a1),(2,I b2),(3,.ra 1 0),(7,I a0),(8,.bool a2)] [(1,K1s s0)])
def Ki0 (p : K00 × Int × Int × Int × Bool × Int) : Option (Bool) :=
 match p with
 | (s0,a1,b2,a0,a2,a3) =>
  if (decide (a3 < s0.fSize)) = true then
  ((
  if a2 = true then
  (Khw (s0,a1,a3)) >>= fun a4 =>
  if a4 = true then
  (Khw (s0,b2,a3)) >>= fun a5 =>
  if a5 = true then
  (Khw (s0,a0,a3)) >>= fun a6 =>
  some (a6)
  else
  some (true)
  else
  some (true)
  else
  some (false)
  ) : Option (Bool)) >>= fun a7 =>
  Ki0 (s0,a1,b2,a0,a7,(wr (a3 + 1)))
  else
  some (a2)
 partial_fixpoint
def Ki1 (p : K00 × Int × Int × Int × Bool × Int) (fl : Bool) : Prop :=
 match p with
 | (s0,a1,b2,a0,a2,a3) => ∀ c : Ctx,c.nt = 57 → WpL Tryz.prog c (cl (cl (cr (cl (cr (cr (cl (cl (cr (cl (cl (cr (cl (cr K5z)))))))))))))) (Khz c s0 a1 b2 a0 fl) (mkS [(1,I a1),(2,I b2),(3,.ra 1 0),(7,I a0),(8,.bool a2),(9,I a3)] [(1,K1s s0)])
theorem Ki2 : ∀ p r,Ki0 p = some r → Ki1 p r := by
 refine Ki0.partial_correctness Ki1 ?_
 rintro impl_Systemjoin_l0_f impl_Systemjoin_l0_ih ⟨s0,a1,b2,a0,a2,a3⟩ r h
 intro c hc
 refine WpL.step ?_
 refine sN ?_
 refine K8s hc 4 [(1,I a1),(2,I b2),(3,.ra 1 0),(7,I a0),(8,.bool a2),(9,I a3),(31,.bool (decide (a3 < s0.fSize)))] ?_
 refine ic h (fun a4 h => ?_) fun a4 h => ?_
 ·refine sk ?_
  refine sN ?_
  refine bk 3 ?_
  obtain ⟨a5,a6,h⟩ := Qct h
  refine Wp.into (x := .normal) (mkS [(1,I a1),(2,I b2),(3,.ra 1 0),(7,I a0),(8,.bool a5),(9,I a3)] [(1,K1s s0)]) ?_ ?_
  ·replace h := a6
   rcases is h with ⟨a7,h⟩ | ⟨a7,h⟩
   ·obtain ⟨a8,a9,h⟩ := Qct h
    rcases is h with ⟨b1,h⟩ | ⟨b1,h⟩
    ·obtain ⟨b3,b4,h⟩ := Qct h
     rcases is h with ⟨b5,h⟩ | ⟨b5,h⟩
     ·obtain ⟨b6,b7,h⟩ := Qct h
      refine rgs hc none [oN,oN,oN,oN,oN,oc (.bool a8),oN,oN,oN,oN,oN,oc (.bool b3),oN,oF,oN,oN,oN,oN,oc (.bool b6),oF,oT,oN] [(1,I a1),(2,I b2),(3,.ra 1 0),(7,I a0),(8,.bool b6),(9,I a3)] (ar 4 a7 (cq (Khy _ _ a9) K5y (ar 2 a7 (ar 4 (nF b1) (cq (Khy _ _ b4) K5y (ad (nF b1) a7 (nF b1) a7 (ar 4 (nF b5) (cq (Khy _ _ b7) K5y (ac a7 (nF b5) a7 tv))))))))) ?_
      obtain rfl := os h
      exact Qcf.mk
     refine rgs hc none [oN,oN,oN,oN,oN,oc (.bool a8),oN,oN,oN,oN,oN,oc (.bool b3),oN,oF,oN,o_,o_,o_,o_,oT,oT,oN] [(1,I a1),(2,I b2),(3,.ra 1 0),(7,I a0),(8,.bool true),(9,I a3)] (ar 4 a7 (cq (Khy _ _ a9) K5y (ar 2 a7 (ar 4 (nF b1) (cq (Khy _ _ b4) K5y (ad (nF b1) a7 (nF b1) a7 (ar 4 (neF (nT b5)) (ac a7 (nT b5) a7 tv)))))))) ?_
     obtain rfl := os h
     exact Qcf.mk
    refine rgs hc none [oN,oN,oN,oN,oN,oc (.bool a8),oN,oN,o_,o_,o_,o_,o_,oT,oN,o_,o_,o_,o_,oT,oT,oN] [(1,I a1),(2,I b2),(3,.ra 1 0),(7,I a0),(8,.bool true),(9,I a3)] (ar 4 a7 (cq (Khy _ _ a9) K5y (ar 2 a7 (ar 5 (neF (nT b1)) (ac a7 (nT b1) a7 (ar 4 nf (ac a7 tt a7 tv))))))) ?_
    obtain rfl := os h
    exact Qcf.mk
   refine rgs hc none [oN,oN,o_,o_,o_,o_,o_,o_,o_,o_,o_,o_,o_,o_,o_,o_,o_,o_,o_,o_,oF,oN] [(1,I a1),(2,I b2),(3,.ra 1 0),(7,I a0),(8,.bool false),(9,I a3)] (ar 9 (neT a7) (ai a7 tv)) ?_
   obtain rfl := os h
   exact Qcf.mk
  clear a6
  refine K8r hc 3 [(1,I a1),(2,I b2),(3,.ra 1 0),(7,I a0),(8,.bool a5),(9,I (wr (a3 + 1)))] ?_
  refine Qcb ?_
  exact (impl_Systemjoin_l0_ih _ _ h c hc)
 refine xt 2 ?_
 refine Qc5 ?_
 refine Qcc ?_
 obtain rfl := os h
 exact iv []
def Ki3 (c : Ctx) (s0 : K00) (a1 : Int) (b2 : Int) (a0 : Int) : (Unit) ⊕ (Int) → Exit → Q0a → Prop
 | .inl _ => Qcf c .normal (mkS [(1,I a1),(2,I b2),(3,.ra 1 0),(7,I a0)] [(1,K1s s0)])
 | .inr r => Qco TIx Tryz.f171 [] (I r)
def Ki4 (c : Ctx) : (Unit) ⊕ (Int) → Exit → Q0a → Prop
 | .inl _ => Qcf c (.exit 0) (mkS [] [])
 | .inr r => Qco TIx Tryz.f171 [] (I r)
def Ki5 (p : K00 × Int × Int × Int) : Option ((Unit) ⊕ (Int)) :=
 match p with
 | (s0,a1,b2,a0) =>
  if (decide (a0 < s0.fSize)) = true then
  ((
   ((
   (Khw (s0,a1,a0)) >>= fun a2 =>
   if a2 = true then
   (Khw (s0,b2,a0)) >>= fun a3 =>
   some ((!a3))
   else
   some (true)
   ) : Option (Bool)) >>= fun a4 =>
   if a4 = true then
   some (.inl ())
   else
   (Ki0 (s0,a1,b2,a0,true,0)) >>= fun a5 =>
   if a5 = true then
   some (.inr a0)
   else
   some (.inl ())) : Option ((Unit) ⊕ (Int))) >>= fun fl => match fl with
  | .inl () =>
   Ki5 (s0,a1,b2,(wr (a0 + 1)))
  | .inr r =>
   some (.inr r)
  else
  some (.inl ())
 partial_fixpoint
def Ki6 (p : K00 × Int × Int × Int) (fl : (Unit) ⊕ (Int)) : Prop :=
 match p with
 | (s0,a1,b2,a0) => ∀ c : Ctx,c.nt = 57 → WpL Tryz.prog c (cl (cl (cr (cl (cr K5z))))) (Ki4 c fl) (mkS [(1,I a1),(2,I b2),(3,.ra 1 0),(7,I a0)] [(1,K1s s0)])
theorem Ki7 : ∀ p r,Ki5 p = some r → Ki6 p r := by
 refine Ki5.partial_correctness Ki6 ?_
 rintro impl_Systemjoin_l1_f impl_Systemjoin_l1_ih ⟨s0,a1,b2,a0⟩ r h
 intro c hc
 refine WpL.step ?_
 refine sN ?_
 refine K8s hc 4 [(1,I a1),(2,I b2),(3,.ra 1 0),(7,I a0),(13,.bool (decide (a0 < s0.fSize)))] ?_
 refine ic h (fun a2 h => ?_) fun a2 h => ?_
 ·refine sk ?_
  refine sN ?_
  obtain ⟨fl,a3,h⟩ := Qct h
  refine flw (Ki3 c s0 a1 b2 a0 fl) ?_ (fun hF => ?_)
  ·replace h := a3
   refine bk 1 ?_
   refine sN ?_
   refine sN ?_
   obtain ⟨a4,a5,h⟩ := Qct h
   refine Wp.into (x := .normal) (mkS [(1,I a1),(2,I b2),(3,.ra 1 0),(7,I a0),(27,.bool a4)] [(1,K1s s0)]) ?_ ?_
   ·replace h := a5
    obtain ⟨a6,a7,h⟩ := Qct h
    rcases is h with ⟨a8,h⟩ | ⟨a8,h⟩
    ·obtain ⟨a9,b1,h⟩ := Qct h
     refine rgs hc none [oN,oN,oN,oc (.bool a6),oN,oN,oN,oN,oN,oc (.bool a9),oN,oF] [(1,I a1),(2,I b2),(3,.ra 1 0),(7,I a0),(27,.bool (!a9))] (cq (Khy _ _ a7) K5y (ar 4 (nF a8) (cq (Khy _ _ b1) K5y (ar 2 (nF a8) tv)))) ?_
     obtain rfl := os h
     exact Qcf.mk
    refine rgs hc none [oN,oN,oN,oc (.bool a6),oN,oN,o_,o_,o_,o_,o_,oT] [(1,I a1),(2,I b2),(3,.ra 1 0),(7,I a0),(27,.bool true)] (cq (Khy _ _ a7) K5y (ar 5 (neF (nT a8)) (ai (nT a8) tv))) ?_
    obtain rfl := os h
    exact Qcf.mk
   clear a5
   refine ic h (fun b3 h => ?_) fun b3 h => ?_
   ·refine xt 1 ?_
    refine Qc5 ?_
    refine Qc7 ?_
    obtain rfl := os h
    exact iv []
   refine sk ?_
   refine K8s hc 1 [(1,I a1),(2,I b2),(3,.ra 1 0),(7,I a0),(8,.bool true)] ?_
   refine sN ?_
   refine K8s hc 1 [(1,I a1),(2,I b2),(3,.ra 1 0),(7,I a0),(8,.bool true),(9,I 0)] ?_
   refine bk 2 ?_
   obtain ⟨b4,b5,h⟩ := Qct h
   have hL := Ki2 _ _ b5 c hc
   refine lp ?_
   refine WpL.into (e := (.exit 2)) (mkS [(1,I a1),(2,I b2),(3,.ra 1 0),(7,I a0),(8,.bool b4)] [(1,K1s s0)]) hL ?_
   refine Qc7 ?_
   refine K8s hc 1 [(1,I a1),(2,I b2),(3,.ra 1 0),(7,I a0),(55,.bool b4)] ?_
   refine ic h (fun b6 h => ?_) fun b6 h => ?_
   ·refine rs0 hc 2 [(6,I a0)] [] ?_
    refine rt ?_
    obtain rfl := os h
    exact re [true]
   refine sk ?_
   obtain rfl := os h
   exact iv []
  rcases fl with ⟨⟩ | r
  ·refine Wp.into (x := .normal) (mkS [(1,I a1),(2,I b2),(3,.ra 1 0),(7,I a0)] [(1,K1s s0)]) hF ?_
   refine K8r hc 3 [(1,I a1),(2,I b2),(3,.ra 1 0),(7,I (wr (a0 + 1)))] ?_
   refine Qcb ?_
   exact (impl_Systemjoin_l1_ih _ _ h c hc)
  refine Wp.mono hF ?_
  rintro _ _ ⟨rfl,hfin⟩
  obtain rfl := os h
  exact ⟨rfl,hfin⟩
 refine xt 0 ?_
 refine Qc5 ?_
 refine Qcc ?_
 obtain rfl := os h
 exact iv []
def Ki8 (p : K00 × Int × Int) : Option (Int) :=
 match p with
 | (s0,a1,b2) =>
  (Ki5 (s0,a1,b2,0)) >>= fun fl => match fl with
  | .inl () =>
   some (-1)
  | .inr r =>
   some r
def Ki9 (p : K00 × Int × Int) (r : Int) : Prop :=
 match p with
 | (s0,a1,b2) => Q71 Tryz.prog 171 [K1t s0,I a1,I b2] (I r) []
theorem Kia : ∀ p r,Ki8 p = some r → Ki9 p r := by
 rintro ⟨s0,a1,b2⟩ r h
 unfold Ki8 at h
 refine b0 Tryz.f171 K5z 57 [(0,K1t s0),(1,I a1),(2,I b2)] fun c hc => ?_
 refine rs hc none [some (.new 1),oN] [(1,I a1),(2,I b2),(3,.ra 1 0)] [(1,K1s s0)] tv ?_
 refine sN ?_
 refine K8s hc 1 [(1,I a1),(2,I b2),(3,.ra 1 0),(7,I 0)] ?_
 refine bk 0 ?_
 obtain ⟨fl,a0,h⟩ := Qct h
 have hL := Ki7 _ _ a0 c hc
 refine lp ?_
 rcases fl with ⟨⟩ | r
 ·refine WpL.into (e := (.exit 0)) (mkS [] []) hL ?_
  refine Qc7 ?_
  refine rs0 hc 1 [(6,I (-1))] [] ?_
  refine rt ?_
  obtain rfl := os h
  exact rq [true]
 refine WpL.mono hL ?_
 rintro _ _ ⟨rfl,hfin⟩
 obtain rfl := os h
 exact ⟨.inl rfl,hfin⟩
def Kib (p : K00 × Int × Int × Int) : Option (Bool) :=
 match p with
 | (s0,a1,b2,c3) =>
  ((
  (Khm (s0,a1,b2)) >>= fun a0 =>
  (Khm (s0,a0,c3)) >>= fun a2 =>
  (Khm (s0,b2,c3)) >>= fun a3 =>
  (Khm (s0,a1,a3)) >>= fun a4 =>
  if (a2 != a4) = true then
  some (true)
  else
  (Khp (s0,a1,b2)) >>= fun a5 =>
  (Khp (s0,a5,c3)) >>= fun a6 =>
  (Khp (s0,b2,c3)) >>= fun a7 =>
  (Khp (s0,a1,a7)) >>= fun a8 =>
  some ((a6 != a8))
  ) : Option (Bool)) >>= fun a9 =>
  if a9 = true then
  some false
  else
  ((
  (Khm (s0,b2,c3)) >>= fun b1 =>
  (Khp (s0,a1,b1)) >>= fun b3 =>
  (Khp (s0,a1,b2)) >>= fun b4 =>
  (Khp (s0,a1,c3)) >>= fun b5 =>
  (Khm (s0,b4,b5)) >>= fun b6 =>
  if (b3 != b6) = true then
  some (true)
  else
  (Khm (s0,a1,b2)) >>= fun b7 =>
  (Khp (s0,b7,c3)) >>= fun b8 =>
  (Khp (s0,a1,c3)) >>= fun b9 =>
  (Khp (s0,b2,c3)) >>= fun c0 =>
  (Khm (s0,b9,c0)) >>= fun c1 =>
  some ((b8 != c1))
  ) : Option (Bool)) >>= fun c2 =>
  if c2 = true then
  some false
  else
  ((
  (Khw (s0,a1,b2)) >>= fun c4 =>
  if c4 = true then
  (Khw (s0,b2,c3)) >>= fun c5 =>
  if c5 = true then
  (Khw (s0,a1,c3)) >>= fun c6 =>
  some ((!c6))
  else
  some (false)
  else
  some (false)
  ) : Option (Bool)) >>= fun c7 =>
  if c7 = true then
  some false
  else
  ((
  (Khw (s0,a1,b2)) >>= fun c8 =>
  if c8 = true then
  (Khm (s0,a1,c3)) >>= fun c9 =>
  (Khm (s0,b2,c3)) >>= fun d0 =>
  (Khw (s0,c9,d0)) >>= fun d1 =>
  if d1 = true then
  (Khp (s0,a1,c3)) >>= fun d2 =>
  (Khp (s0,b2,c3)) >>= fun d3 =>
  (Khw (s0,d2,d3)) >>= fun d4 =>
  if d4 = true then
  (Khp (s0,c3,a1)) >>= fun d5 =>
  (Khp (s0,c3,b2)) >>= fun d6 =>
  (Khw (s0,d5,d6)) >>= fun d7 =>
  some (d7)
  else
  some (false)
  else
  some (false)
  else
  some (true)
  ) : Option (Bool)) >>= fun d8 =>
  some d8
def Kic (p : K00 × Int × Int × Int) (r : Bool) : Prop :=
 match p with
 | (s0,a1,b2,c3) => Q71 Tryz.prog 172 [K1t s0,I a1,I b2,I c3] (.bool r) []
theorem Kid : ∀ p r,Kib p = some r → Kic p r := by
 rintro ⟨s0,a1,b2,c3⟩ r h
 unfold Kib at h
 refine b0 Tryz.f172 K61 137 [(0,K1t s0),(1,I a1),(2,I b2),(3,I c3)] fun c hc => ?_
 refine rs hc none [some (.new 1),oN] [(1,I a1),(2,I b2),(3,I c3),(4,.ra 1 0)] [(1,K1s s0)] tv ?_
 refine sN ?_
 refine sN ?_
 obtain ⟨a0,a2,h⟩ := Qct h
 refine Wp.into (x := .normal) (mkS [(1,I a1),(2,I b2),(3,I c3),(4,.ra 1 0),(40,.bool a0)] [(1,K1s s0)]) ?_ ?_
 ·replace h := a2
  obtain ⟨a3,a4,a5,a6,a7,a8,a9,b1,h⟩ := bq4 h
  rcases is h with ⟨b3,h⟩ | ⟨b3,h⟩
  ·refine rgs hc Khs [oN,oN,oN,oN,oc (I a3),oN,oc (I a5),oN,oN,oN,oN,oN,oc (I a7),oc (I a9),oN,oN,o_,o_,o_,o_,o_,o_,o_,o_,o_,o_,o_,o_,o_,o_,o_,oT] [(1,I a1),(2,I b2),(3,I c3),(4,.ra 1 0),(40,.bool true)] (cq (Kho _ _ a4) K5v (cq (Kho _ _ a6) K5v (cq (Kho _ _ a8) K5v (cq (Kho _ _ b1) K5v (ar 15 (neF b3) (ai b3 tv)))))) ?_
   obtain rfl := os h
   exact Qcf.mk
  obtain ⟨b4,b5,b6,b7,b8,b9,c0,c1,h⟩ := bq4 h
  refine rgs hc Khs [oN,oN,oN,oN,oc (I a3),oN,oc (I a5),oN,oN,oN,oN,oN,oc (I a7),oc (I a9),oN,oN,oN,oN,oN,oN,oc (I b4),oN,oc (I b6),oN,oN,oN,oN,oN,oc (I b8),oc (I c0),oN,oF] [(1,I a1),(2,I b2),(3,I c3),(4,.ra 1 0),(40,.bool (b6 != c0))] (cq (Kho _ _ a4) K5v (cq (Kho _ _ a6) K5v (cq (Kho _ _ a8) K5v (cq (Kho _ _ b1) K5v (ar 5 b3 (cq (Khr _ _ b5) K5x (ar 2 b3 (cq (Khr _ _ b7) K5x (ar 6 b3 (cq (Khr _ _ b9) K5x (ai b3 (cq (Khr _ _ c1) K5x (ar 2 b3 tv))))))))))))) ?_
  obtain rfl := os h
  exact Qcf.mk
 clear a2
 refine ic h (fun c2 h => ?_) fun c2 h => ?_
 ·refine rs0 hc 1 [(8,.bool false)] [] ?_
  refine rt ?_
  obtain rfl := os h
  exact rq [true]
 refine sk ?_
 refine sN ?_
 refine sN ?_
 obtain ⟨c4,c5,h⟩ := Qct h
 refine Wp.into (x := .normal) (mkS [(1,I a1),(2,I b2),(3,I c3),(4,.ra 1 0),(78,.bool c4)] [(1,K1s s0)]) ?_ ?_
 ·replace h := c5
  obtain ⟨c6,c7,c8,c9,d0,d1,d2,d3,h⟩ := bq4 h
  obtain ⟨d4,d5,h⟩ := Qct h
  rcases is h with ⟨d6,h⟩ | ⟨d6,h⟩
  ·refine rgs hc Kht [oN,oN,oN,oN,oN,oc (I c6),oc (I c8),oN,oN,oN,oN,oc (I d0),oN,oN,oN,oc (I d2),oc (I d4),oN,oN,o_,o_,o_,o_,o_,o_,o_,o_,o_,o_,o_,o_,o_,o_,o_,o_,o_,o_,oT] [(1,I a1),(2,I b2),(3,I c3),(4,.ra 1 0),(78,.bool true)] (cq (Kho _ _ c7) K5v (cq (Khr _ _ c9) K5x (cq (Khr _ _ d1) K5x (cq (Khr _ _ d3) K5x (cq (Kho _ _ d5) K5v (ar 18 (neF d6) (ai d6 tv))))))) ?_
   obtain rfl := os h
   exact Qcf.mk
  obtain ⟨d7,d8,d9,e0,e1,e2,e3,e4,h⟩ := bq4 h
  obtain ⟨e5,e6,h⟩ := Qct h
  refine rgs hc Kht [oN,oN,oN,oN,oN,oc (I c6),oc (I c8),oN,oN,oN,oN,oc (I d0),oN,oN,oN,oc (I d2),oc (I d4),oN,oN,oN,oN,oN,oN,oc (I d7),oN,oc (I d9),oN,oN,oN,oN,oc (I e1),oN,oN,oN,oc (I e3),oc (I e5),oN,oF] [(1,I a1),(2,I b2),(3,I c3),(4,.ra 1 0),(78,.bool (d9 != e5))] (cq (Kho _ _ c7) K5v (cq (Khr _ _ c9) K5x (cq (Khr _ _ d1) K5x (cq (Khr _ _ d3) K5x (cq (Kho _ _ d5) K5v (ar 5 d6 (cq (Kho _ _ d8) K5v (ar 2 d6 (cq (Khr _ _ e0) K5x (ar 5 d6 (cq (Khr _ _ e2) K5x (ar 4 d6 (cq (Khr _ _ e4) K5x (ai d6 (cq (Kho _ _ e6) K5v (ar 2 d6 tv)))))))))))))))) ?_
  obtain rfl := os h
  exact Qcf.mk
 clear c5
 refine ic h (fun e7 h => ?_) fun e7 h => ?_
 ·refine rs0 hc 1 [(8,.bool false)] [] ?_
  refine rt ?_
  obtain rfl := os h
  exact rq [true]
 refine sk ?_
 refine sN ?_
 refine sN ?_
 obtain ⟨e8,e9,h⟩ := Qct h
 refine Wp.into (x := .normal) (mkS [(1,I a1),(2,I b2),(3,I c3),(4,.ra 1 0),(95,.bool e8)] [(1,K1s s0)]) ?_ ?_
 ·replace h := e9
  obtain ⟨f0,f1,h⟩ := Qct h
  rcases is h with ⟨f2,h⟩ | ⟨f2,h⟩
  ·obtain ⟨f3,f4,h⟩ := Qct h
   rcases is h with ⟨f5,h⟩ | ⟨f5,h⟩
   ·obtain ⟨f6,f7,h⟩ := Qct h
    refine rgs hc none [oN,oN,oN,oc (.bool f0),oN,oN,oN,oN,oc (.bool f3),oT,oN,oN,oN,oN,oc (.bool f6),oN,oT] [(1,I a1),(2,I b2),(3,I c3),(4,.ra 1 0),(95,.bool (!f6))] (cq (Khy _ _ f1) K5y (ar 4 f2 (cq (Khy _ _ f4) K5y (ai f2 (ar 4 f5 (cq (Khy _ _ f7) K5y (ar 2 f5 tv))))))) ?_
    obtain rfl := os h
    exact Qcf.mk
   refine rgs hc none [oN,oN,oN,oc (.bool f0),oN,oN,oN,oN,oc (.bool f3),oT,oN,o_,o_,o_,o_,o_,oF] [(1,I a1),(2,I b2),(3,I c3),(4,.ra 1 0),(95,.bool false)] (cq (Khy _ _ f1) K5y (ar 4 f2 (cq (Khy _ _ f4) K5y (ai f2 (ar 5 (neT f5) (ai f5 tv)))))) ?_
   obtain rfl := os h
   exact Qcf.mk
  refine rgs hc none [oN,oN,oN,oc (.bool f0),oN,o_,o_,o_,o_,oF,oN,o_,o_,o_,o_,o_,oF] [(1,I a1),(2,I b2),(3,I c3),(4,.ra 1 0),(95,.bool false)] (cq (Khy _ _ f1) K5y (ar 4 (neT f2) (ai f2 (ar 5 (neT (rfl : false = false)) (ai (rfl : false = false) tv))))) ?_
  obtain rfl := os h
  exact Qcf.mk
 clear e9
 refine ic h (fun f8 h => ?_) fun f8 h => ?_
 ·refine rs0 hc 1 [(8,.bool false)] [] ?_
  refine rt ?_
  obtain rfl := os h
  exact rq [true]
 refine sk ?_
 refine sN ?_
 obtain ⟨f9,g0,h⟩ := Qct h
 refine Wp.into (x := .normal) (mkS [(8,.bool f9)] []) ?_ ?_
 ·replace h := g0
  obtain ⟨g1,g2,h⟩ := Qct h
  rcases is h with ⟨g3,h⟩ | ⟨g3,h⟩
  ·obtain ⟨g4,g5,g6,g7,g8,g9,h⟩ := bq3 h
   rcases is h with ⟨i0,h⟩ | ⟨i0,h⟩
   ·obtain ⟨i1,i2,i3,i4,i5,i6,h⟩ := bq3 h
    rcases is h with ⟨i7,h⟩ | ⟨i7,h⟩
    ·obtain ⟨i8,i9,j0,j8,j9,k0,h⟩ := bq3 h
     refine rg hc Khu [oN,oN,oN,oc (.bool g1),oN,oN,oN,oN,oN,oN,oc (I g4),oN,oN,oN,oc (I g6),oc (.bool g8),oN,oN,oN,oN,oN,oc (I i1),oN,oN,oN,oc (I i3),oc (.bool i5),oT,oN,oN,oN,oN,oN,oc (I i8),oN,oN,oN,oc (I j0),oc (.bool j9),oT,oF,oN] [(8,.bool j9)] [] (cq (Khy _ _ g2) K5y (ar 5 (nF g3) (cq (Kho _ _ g5) K5v (ar 4 (nF g3) (cq (Kho _ _ g7) K5v (ai (nF g3) (cq (Khy _ _ g9) K5y (ai (nF g3) (ar 5 i0 (cq (Khr _ _ i2) K5x (ar 4 i0 (cq (Khr _ _ i4) K5x (ai i0 (cq (Khy _ _ i6) K5y (ac (nF g3) i0 (nF g3) (ar 5 i7 (cq (Khr _ _ i9) K5x (ar 4 i7 (cq (Khr _ _ j8) K5x (ai i7 (cq (Khy _ _ k0) K5y (ac (nF g3) i7 (nF g3) tv)))))))))))))))))))))) ?_
     obtain rfl := os h
     exact Qcf.mk
    refine rg hc Khu [oN,oN,oN,oc (.bool g1),oN,oN,oN,oN,oN,oN,oc (I g4),oN,oN,oN,oc (I g6),oc (.bool g8),oN,oN,oN,oN,oN,oc (I i1),oN,oN,oN,oc (I i3),oc (.bool i5),oT,oN,o_,o_,o_,o_,o_,o_,o_,o_,o_,o_,oF,oF,oN] [(8,.bool false)] [] (cq (Khy _ _ g2) K5y (ar 5 (nF g3) (cq (Kho _ _ g5) K5v (ar 4 (nF g3) (cq (Kho _ _ g7) K5v (ai (nF g3) (cq (Khy _ _ g9) K5y (ai (nF g3) (ar 5 i0 (cq (Khr _ _ i2) K5x (ar 4 i0 (cq (Khr _ _ i4) K5x (ai i0 (cq (Khy _ _ i6) K5y (ac (nF g3) i0 (nF g3) (ar 10 (neT i7) (ac (nF g3) i7 (nF g3) tv))))))))))))))))) ?_
    obtain rfl := os h
    exact Qcf.mk
   refine rg hc Khu [oN,oN,oN,oc (.bool g1),oN,oN,oN,oN,oN,oN,oc (I g4),oN,oN,oN,oc (I g6),oc (.bool g8),oN,o_,o_,o_,o_,o_,o_,o_,o_,o_,o_,oF,oN,o_,o_,o_,o_,o_,o_,o_,o_,o_,o_,oF,oF,oN] [(8,.bool false)] [] (cq (Khy _ _ g2) K5y (ar 5 (nF g3) (cq (Kho _ _ g5) K5v (ar 4 (nF g3) (cq (Kho _ _ g7) K5v (ai (nF g3) (cq (Khy _ _ g9) K5y (ai (nF g3) (ar 10 (neT i0) (ac (nF g3) i0 (nF g3) (ar 10 (neT (rfl : false = false)) (ac (nF g3) (rfl : false = false) (nF g3) tv)))))))))))) ?_
   obtain rfl := os h
   exact Qcf.mk
  refine rg hc Khu [oN,oN,oN,oc (.bool g1),oN,oN,o_,o_,o_,o_,o_,o_,o_,o_,o_,o_,o_,o_,o_,o_,o_,o_,o_,o_,o_,o_,o_,o_,o_,o_,o_,o_,o_,o_,o_,o_,o_,o_,o_,o_,oT,oN] [(8,.bool true)] [] (cq (Khy _ _ g2) K5y (ar 14 (neF (nT g3)) (ai (nT g3) tv))) ?_
  obtain rfl := os h
  exact Qcf.mk
 clear g0
 refine rt ?_
 obtain rfl := os h
 exact rq [true]
def Kie (c : Ctx) (s0 : K00) : (Unit) ⊕ (Bool) → Exit → Q0a → Prop
 | .inl _ => Qcf c (.exit 0) (mkS [(1,.ra 1 0),(3,I s0.fSize)] [(1,K1s s0)])
 | .inr r => Qco TIx Tryz.f109 [] (.bool r)
def Kif (p : K00 × Int) : Option ((Unit) ⊕ (Bool)) :=
 match p with
 | (s0,a0) =>
  if (decide (a0 < (s0.fPlus.length : Int))) = true then
  ((
  (idx s0.fPlus a0) >>= fun a1 =>
  (Khj (s0,a1)) >>= fun a2 =>
  if a2 = true then
  (idx s0.fTimes a0) >>= fun a3 =>
  (Khj (s0,a3)) >>= fun a4 =>
  some ((!a4))
  else
  some (true)
  ) : Option (Bool)) >>= fun a5 =>
  if a5 = true then
  some (.inr false)
  else
  Kif (s0,(wr (a0 + 1)))
  else
  some (.inl ())
 partial_fixpoint
def Kig (p : K00 × Int) (fl : (Unit) ⊕ (Bool)) : Prop :=
 match p with
 | (s0,a0) => ∀ c : Ctx,c.nt = 157 → WpL Tryz.prog c (cl (cl (cr (cl (cr (cr (cr K63))))))) (Kie c s0 fl) (mkS [(1,.ra 1 0),(3,I s0.fSize),(42,I (s0.fPlus.length : Int)),(43,I a0)] [(1,K1s s0)])
theorem Kih : ∀ p r,Kif p = some r → Kig p r := by
 refine Kif.partial_correctness Kig ?_
 rintro impl_IsSystem_l0_f impl_IsSystem_l0_ih ⟨s0,a0⟩ r h
 intro c hc
 refine WpL.step ?_
 refine K8s hc 1 [(1,.ra 1 0),(3,I s0.fSize),(42,I (s0.fPlus.length : Int)),(43,I a0),(44,.bool (decide (a0 < (s0.fPlus.length : Int))))] ?_
 refine sN ?_
 refine ic h (fun a1 h => ?_) fun a1 h => ?_
 ·refine sk ?_
  refine sN ?_
  refine bk 1 ?_
  refine K8s hc 2 [(1,.ra 1 0),(3,I s0.fSize),(4,I a0),(42,I (s0.fPlus.length : Int)),(43,I a0)] ?_
  refine sN ?_
  obtain ⟨a2,a3,h⟩ := Qct h
  refine Wp.into (x := .normal) (mkS [(1,.ra 1 0),(3,I s0.fSize),(42,I (s0.fPlus.length : Int)),(43,I a0),(63,.bool a2)] [(1,K1s s0)]) ?_ ?_
  ·replace h := a3
   obtain ⟨a4,a5,a6,a7,h⟩ := bq2 h
   rcases is h with ⟨a8,h⟩ | ⟨a8,h⟩
   ·obtain ⟨a9,b1,b2,b3,h⟩ := bq2 h
    refine rgs hc Khv [oN,oN,oN,oN,some (.el (I a4)),oN,oc (.bool a6),oN,oN,oN,oN,oN,oN,some (.el (I a9)),oN,oc (.bool b2),oN,oF] [(1,.ra 1 0),(3,I s0.fSize),(42,I (s0.fPlus.length : Int)),(43,I a0),(63,.bool (!b2))] (ai (ix a5) (cq (Khl _ _ a7) K5t (ar 5 (nF a8) (ai (ix b1) (ar 2 (nF a8) (cq (Khl _ _ b3) K5t (ar 2 (nF a8) tv))))))) ?_
    obtain rfl := os h
    exact Qcf.mk
   refine rgs hc Khv [oN,oN,oN,oN,some (.el (I a4)),oN,oc (.bool a6),oN,oN,o_,o_,o_,o_,o_,o_,o_,o_,oT] [(1,.ra 1 0),(3,I s0.fSize),(42,I (s0.fPlus.length : Int)),(43,I a0),(63,.bool true)] (ai (ix a5) (cq (Khl _ _ a7) K5t (ar 8 (neF (nT a8)) (ai (nT a8) tv)))) ?_
   obtain rfl := os h
   exact Qcf.mk
  clear a3
  refine ic h (fun b4 h => ?_) fun b4 h => ?_
  ·refine rs0 hc 1 [(2,.bool false)] [] ?_
   refine rt ?_
   obtain rfl := os h
   exact re [true]
  refine sk ?_
  refine K8r hc 2 [(1,.ra 1 0),(3,I s0.fSize),(42,I (s0.fPlus.length : Int)),(43,I (wr (a0 + 1)))] ?_
  refine Qcb ?_
  exact (impl_IsSystem_l0_ih _ _ h c hc)
 refine xt 0 ?_
 refine Qc5 ?_
 refine Qcc ?_
 obtain rfl := os h
 exact iv []
def Kii (c : Ctx) (s0 : K00) (a0 : Int) (a1 : Int) : (Unit) ⊕ (Bool) → Exit → Q0a → Prop
 | .inl _ => Qcf c (.exit 6) (mkS [(1,.ra 1 0),(3,I s0.fSize),(5,I a0),(6,I a1)] [(1,K1s s0)])
 | .inr r => Qco TIx Tryz.f109 [] (.bool r)
def Kij (p : K00 × Int × Int × Int) : Option ((Unit) ⊕ (Bool)) :=
 match p with
 | (s0,a0,a1,a2) =>
  if (decide (a2 < s0.fSize)) = true then
  (Kib (s0,a0,a1,a2)) >>= fun a3 =>
  if a3 = true then
  Kij (s0,a0,a1,(wr (a2 + 1)))
  else
  some (.inr false)
  else
  some (.inl ())
 partial_fixpoint
def Kik (p : K00 × Int × Int × Int) (fl : (Unit) ⊕ (Bool)) : Prop :=
 match p with
 | (s0,a0,a1,a2) => ∀ c : Ctx,c.nt = 157 → WpL Tryz.prog c (cl (cl (cr (cr (cl (cl (cr (cl (cl (cr (cr (cl (cl (cr (cl (cl (cr (cl (cr (cr (cr (cr K63)))))))))))))))))))))) (Kii c s0 a0 a1 fl) (mkS [(1,.ra 1 0),(3,I s0.fSize),(5,I a0),(6,I a1),(7,I a2)] [(1,K1s s0)])
theorem Kil : ∀ p r,Kij p = some r → Kik p r := by
 refine Kij.partial_correctness Kik ?_
 rintro impl_IsSystem_l1_f impl_IsSystem_l1_ih ⟨s0,a0,a1,a2⟩ r h
 intro c hc
 refine WpL.step ?_
 refine sN ?_
 refine K8s hc 3 [(1,.ra 1 0),(3,I s0.fSize),(5,I a0),(6,I a1),(7,I a2),(148,.bool (decide (a2 < s0.fSize)))] ?_
 refine ic h (fun a3 h => ?_) fun a3 h => ?_
 ·refine sk ?_
  refine sN ?_
  refine bk 7 ?_
  obtain ⟨a4,a5,h⟩ := Qct h
  refine rss hc none [oN,oN,oN,oN,oc (.bool a4),oN] [(1,.ra 1 0),(3,I s0.fSize),(5,I a0),(6,I a1),(7,I a2),(156,.bool (!a4))] (cq (Kid _ _ a5) K62 tv) ?_
  rcases is h with ⟨a6,h⟩ | ⟨a6,h⟩
  ·refine cF (!a4) (nF a6) ?_
   refine sk ?_
   refine K8r hc 3 [(1,.ra 1 0),(3,I s0.fSize),(5,I a0),(6,I a1),(7,I (wr (a2 + 1)))] ?_
   refine Qcb ?_
   exact (impl_IsSystem_l1_ih _ _ h c hc)
  refine cT (!a4) (nT a6) ?_
  refine rs0 hc 1 [(2,.bool false)] [] ?_
  refine rt ?_
  obtain rfl := os h
  exact re [true]
 refine xt 6 ?_
 refine Qc5 ?_
 refine Qcc ?_
 obtain rfl := os h
 exact iv []
def Kim (c : Ctx) (s0 : K00) (a0 : Int) : (Unit) ⊕ (Bool) → Exit → Q0a → Prop
 | .inl _ => Qcf c (.exit 4) (mkS [(1,.ra 1 0),(3,I s0.fSize),(5,I a0)] [(1,K1s s0)])
 | .inr r => Qco TIx Tryz.f109 [] (.bool r)
def Kin : Option (List (List Nat)) := rh [0,0,0,3,0,0,0,7,8,9,10,10,12,13,14,14,14,17,18,19,20,20,20,23,24,25,26,27,27,27,30,31,32]
def Kio (p : K00 × Int × Int) : Option ((Unit) ⊕ (Bool)) :=
 match p with
 | (s0,a0,a1) =>
  if (decide (a1 < s0.fSize)) = true then
  ((
  (Khm (s0,a0,a1)) >>= fun a2 =>
  (Khm (s0,a1,a0)) >>= fun a3 =>
  if (a2 != a3) = true then
   some (true)
  else
   if (a0 != a1) = true then
   (Khw (s0,a0,a1)) >>= fun a4 =>
   if a4 = true then
   (Khw (s0,a1,a0)) >>= fun a5 =>
   if a5 = true then
   some (true)
   else
   (Ki8 (s0,a0,a1)) >>= fun a6 =>
   some ((decide (a6 < 0)))
   else
   (Ki8 (s0,a0,a1)) >>= fun a6 =>
   some ((decide (a6 < 0)))
   else
   (Ki8 (s0,a0,a1)) >>= fun a6 =>
   some ((decide (a6 < 0)))
  ) : Option (Bool)) >>= fun a7 =>
  if a7 = true then
  some (.inr false)
  else
  (Kij (s0,a0,a1,0)) >>= fun fl => match fl with
  | .inl () =>
   Kio (s0,a0,(wr (a1 + 1)))
  | .inr r =>
   some (.inr r)
  else
  some (.inl ())
 partial_fixpoint
def Kip (p : K00 × Int × Int) (fl : (Unit) ⊕ (Bool)) : Prop :=
 match p with
 | (s0,a0,a1) => ∀ c : Ctx,c.nt = 157 → WpL Tryz.prog c (cl (cl (cr (cr (cl (cl (cr (cl (cl (cr (cl (cr (cr (cr (cr K63))))))))))))))) (Kim c s0 a0 fl) (mkS [(1,.ra 1 0),(3,I s0.fSize),(5,I a0),(6,I a1)] [(1,K1s s0)])
theorem Kiq : ∀ p r,Kio p = some r → Kip p r := by
 refine Kio.partial_correctness Kip ?_
 rintro impl_IsSystem_l2_f impl_IsSystem_l2_ih ⟨s0,a0,a1⟩ r h
 intro c hc
 refine WpL.step ?_
 refine sN ?_
 refine K8s hc 3 [(1,.ra 1 0),(3,I s0.fSize),(5,I a0),(6,I a1),(110,.bool (decide (a1 < s0.fSize)))] ?_
 refine ic h (fun a2 h => ?_) fun a2 h => ?_
 ·refine sk ?_
  refine sN ?_
  refine bk 5 ?_
  refine sN ?_
  refine sN ?_
  obtain ⟨a3,a4,h⟩ := Qct h
  refine Wp.into (x := .normal) (mkS [(1,.ra 1 0),(3,I s0.fSize),(5,I a0),(6,I a1),(145,.bool a3)] [(1,K1s s0)]) ?_ ?_
  ·replace h := a4
   obtain ⟨a5,a6,a7,a8,h⟩ := bq2 h
   rcases is h with ⟨a9,h⟩ | ⟨a9,h⟩
   ·refine rgs hc Kin [oN,oN,oN,oc (I a5),oN,oN,oN,oc (I a7),oN,oN,o_,o_,o_,o_,o_,o_,o_,o_,o_,o_,o_,o_,o_,o_,o_,oT,oN,o_,o_,o_,o_,o_,oT] [(1,.ra 1 0),(3,I s0.fSize),(5,I a0),(6,I a1),(145,.bool true)] (cq (Kho _ _ a6) K5v (cq (Kho _ _ a8) K5v (ar 7 (neF a9) (ai a9 (ar 5 nf (ai tt tv)))))) ?_
    obtain rfl := os h
    exact Qcf.mk
   rcases is h with ⟨b1,h⟩ | ⟨b1,h⟩
   ·obtain ⟨b2,b3,h⟩ := Qct h
    rcases is h with ⟨b4,h⟩ | ⟨b4,h⟩
    ·obtain ⟨b5,b6,h⟩ := Qct h
     rcases is h with ⟨b7,h⟩ | ⟨b7,h⟩
     ·refine rgs hc Kin [oN,oN,oN,oc (I a5),oN,oN,oN,oc (I a7),oN,oN,oN,oN,oN,oN,oN,oN,oN,oc (.bool b2),oT,oN,oN,oN,oN,oc (.bool b5),oT,oF,oN,o_,o_,o_,o_,o_,oT] [(1,.ra 1 0),(3,I s0.fSize),(5,I a0),(6,I a1),(145,.bool true)] (cq (Kho _ _ a6) K5v (cq (Kho _ _ a8) K5v (ar 4 a9 (ar 4 b1 (cq (Khy _ _ b3) K5y (ac a9 b1 a9 (ar 4 b4 (cq (Khy _ _ b6) K5y (ac a9 b4 a9 (ar 5 (neF b7) (ai b7 tv))))))))))) ?_
      obtain rfl := os h
      exact Qcf.mk
     obtain ⟨b8,b9,h⟩ := Qct h
     refine rgs hc Kin [oN,oN,oN,oc (I a5),oN,oN,oN,oc (I a7),oN,oN,oN,oN,oN,oN,oN,oN,oN,oc (.bool b2),oT,oN,oN,oN,oN,oc (.bool b5),oT,oF,oN,oN,oN,oN,oc (I b8),oN,oF] [(1,.ra 1 0),(3,I s0.fSize),(5,I a0),(6,I a1),(145,.bool (decide (b8 < 0)))] (cq (Kho _ _ a6) K5v (cq (Kho _ _ a8) K5v (ar 4 a9 (ar 4 b1 (cq (Khy _ _ b3) K5y (ac a9 b1 a9 (ar 4 b4 (cq (Khy _ _ b6) K5y (ac a9 b4 a9 (ar 4 b7 (cq (Kia _ _ b9) K60 (ar 2 b7 tv)))))))))))) ?_
     obtain rfl := os h
     exact Qcf.mk
    obtain ⟨b8,b9,h⟩ := Qct h
    refine rgs hc Kin [oN,oN,oN,oc (I a5),oN,oN,oN,oc (I a7),oN,oN,oN,oN,oN,oN,oN,oN,oN,oc (.bool b2),oT,oN,o_,o_,o_,o_,oF,oF,oN,oN,oN,oN,oc (I b8),oN,oF] [(1,.ra 1 0),(3,I s0.fSize),(5,I a0),(6,I a1),(145,.bool (decide (b8 < 0)))] (cq (Kho _ _ a6) K5v (cq (Kho _ _ a8) K5v (ar 4 a9 (ar 4 b1 (cq (Khy _ _ b3) K5y (ac a9 b1 a9 (ar 4 (neT b4) (ac a9 b4 a9 (ar 4 (rfl : false = false) (cq (Kia _ _ b9) K60 (ar 2 (rfl : false = false) tv))))))))))) ?_
    obtain rfl := os h
    exact Qcf.mk
   obtain ⟨b8,b9,h⟩ := Qct h
   refine rgs hc Kin [oN,oN,oN,oc (I a5),oN,oN,oN,oc (I a7),oN,oN,oN,oN,oN,oN,o_,o_,o_,o_,oF,oN,o_,o_,o_,o_,oF,oF,oN,oN,oN,oN,oc (I b8),oN,oF] [(1,.ra 1 0),(3,I s0.fSize),(5,I a0),(6,I a1),(145,.bool (decide (b8 < 0)))] (cq (Kho _ _ a6) K5v (cq (Kho _ _ a8) K5v (ar 4 a9 (ar 4 (neT b1) (ac a9 b1 a9 (ar 4 (neT (rfl : false = false)) (ac a9 (rfl : false = false) a9 (ar 4 (rfl : false = false) (cq (Kia _ _ b9) K60 (ar 2 (rfl : false = false) tv)))))))))) ?_
   obtain rfl := os h
   exact Qcf.mk
  clear a4
  refine ic h (fun c0 h => ?_) fun c0 h => ?_
  ·refine rs0 hc 1 [(2,.bool false)] [] ?_
   refine rt ?_
   obtain rfl := os h
   exact re [true]
  refine sk ?_
  refine K8s hc 1 [(1,.ra 1 0),(3,I s0.fSize),(5,I a0),(6,I a1),(7,I 0)] ?_
  refine bk 6 ?_
  obtain ⟨fl,c1,h⟩ := Qct h
  have hL := Kil _ _ c1 c hc
  refine lp ?_
  rcases fl with ⟨⟩ | r
  ·refine WpL.into (e := (.exit 6)) (mkS [(1,.ra 1 0),(3,I s0.fSize),(5,I a0),(6,I a1)] [(1,K1s s0)]) hL ?_
   refine Qc7 ?_
   refine K8r hc 3 [(1,.ra 1 0),(3,I s0.fSize),(5,I a0),(6,I (wr (a1 + 1)))] ?_
   refine Qcb ?_
   exact (impl_IsSystem_l2_ih _ _ h c hc)
  refine WpL.mono hL ?_
  rintro _ _ ⟨rfl,hfin⟩
  obtain rfl := os h
  exact ⟨rfl,hfin⟩
 refine xt 4 ?_
 refine Qc5 ?_
 refine Qcc ?_
 obtain rfl := os h
 exact iv []
def Kir (c : Ctx) : (Unit) ⊕ (Bool) → Exit → Q0a → Prop
 | .inl _ => Qcf c (.exit 2) (mkS [] [])
 | .inr r => Qco TIx Tryz.f109 [] (.bool r)
def Kis (p : K00 × Int) : Option ((Unit) ⊕ (Bool)) :=
 match p with
 | (s0,a0) =>
  if (decide (a0 < s0.fSize)) = true then
  ((
  (Khm (s0,0,a0)) >>= fun a1 =>
  if (a1 != a0) = true then
   some (true)
  else
   (Khp (s0,1,a0)) >>= fun a2 =>
   if (a2 != a0) = true then
   some (true)
   else
   (Khp (s0,a0,1)) >>= fun a3 =>
   if (a3 != a0) = true then
   some (true)
   else
   (Khp (s0,0,a0)) >>= fun a4 =>
   if (a4 != 0) = true then
   some (true)
   else
   (Khp (s0,a0,0)) >>= fun a5 =>
   if (a5 != 0) = true then
   some (true)
   else
   (Khw (s0,a0,a0)) >>= fun a6 =>
   some ((!a6))
  ) : Option (Bool)) >>= fun a7 =>
  if a7 = true then
  some (.inr false)
  else
  (Kio (s0,a0,0)) >>= fun fl => match fl with
  | .inl () =>
   Kis (s0,(wr (a0 + 1)))
  | .inr r =>
   some (.inr r)
  else
  some (.inl ())
 partial_fixpoint
def Kit (p : K00 × Int) (fl : (Unit) ⊕ (Bool)) : Prop :=
 match p with
 | (s0,a0) => ∀ c : Ctx,c.nt = 157 → WpL Tryz.prog c (cl (cl (cr (cl (cr (cr (cr (cr K63)))))))) (Kir c fl) (mkS [(1,.ra 1 0),(3,I s0.fSize),(5,I a0)] [(1,K1s s0)])
theorem Kiu : ∀ p r,Kis p = some r → Kit p r := by
 refine Kis.partial_correctness Kit ?_
 rintro impl_IsSystem_l3_f impl_IsSystem_l3_ih ⟨s0,a0⟩ r h
 intro c hc
 refine WpL.step ?_
 refine sN ?_
 refine K8s hc 3 [(1,.ra 1 0),(3,I s0.fSize),(5,I a0),(67,.bool (decide (a0 < s0.fSize)))] ?_
 refine ic h (fun a1 h => ?_) fun a1 h => ?_
 ·refine sk ?_
  refine sN ?_
  refine bk 3 ?_
  refine sN ?_
  refine sN ?_
  obtain ⟨a2,a3,h⟩ := Qct h
  refine Wp.into (x := .normal) (mkS [(1,.ra 1 0),(3,I s0.fSize),(5,I a0),(107,.bool a2)] [(1,K1s s0)]) ?_ ?_
  ·replace h := a3
   obtain ⟨a4,a5,h⟩ := Qct h
   rcases is h with ⟨a6,h⟩ | ⟨a6,h⟩
   ·refine rgs hc none [oN,oN,oc (I a4),oN,oN,oN,o_,o_,o_,o_,o_,oT,oN,o_,o_,o_,o_,o_,oT,oN,o_,o_,o_,o_,oT,oN,o_,o_,o_,o_,oT,oN,o_,o_,o_,o_,o_,oT] [(1,.ra 1 0),(3,I s0.fSize),(5,I a0),(107,.bool true)] (cq (Kho _ _ a5) K5v (ar 5 (neF a6) (ai a6 (ar 5 nf (ai tt (ar 4 nf (ai tt (ar 4 nf (ai tt (ar 5 nf (ai tt tv))))))))))) ?_
    obtain rfl := os h
    exact Qcf.mk
   obtain ⟨a7,a8,h⟩ := Qct h
   rcases is h with ⟨a9,h⟩ | ⟨a9,h⟩
   ·refine rgs hc none [oN,oN,oc (I a4),oN,oN,oN,oN,oN,oc (I a7),oN,oN,oF,oN,o_,o_,o_,o_,o_,oT,oN,o_,o_,o_,o_,oT,oN,o_,o_,o_,o_,oT,oN,o_,o_,o_,o_,o_,oT] [(1,.ra 1 0),(3,I s0.fSize),(5,I a0),(107,.bool true)] (cq (Kho _ _ a5) K5v (ar 3 a6 (cq (Khr _ _ a8) K5x (ar 3 a6 (ar 5 (neF a9) (ai a9 (ar 4 nf (ai tt (ar 4 nf (ai tt (ar 5 nf (ai tt tv)))))))))))) ?_
    obtain rfl := os h
    exact Qcf.mk
   obtain ⟨b1,b2,h⟩ := Qct h
   rcases is h with ⟨b3,h⟩ | ⟨b3,h⟩
   ·refine rgs hc none [oN,oN,oc (I a4),oN,oN,oN,oN,oN,oc (I a7),oN,oN,oF,oN,oN,oN,oc (I b1),oN,oN,oF,oN,o_,o_,o_,o_,oT,oN,o_,o_,o_,o_,oT,oN,o_,o_,o_,o_,o_,oT] [(1,.ra 1 0),(3,I s0.fSize),(5,I a0),(107,.bool true)] (cq (Kho _ _ a5) K5v (ar 3 a6 (cq (Khr _ _ a8) K5x (ar 3 a6 (ar 3 a9 (cq (Khr _ _ b2) K5x (ar 3 a9 (ar 4 (neF b3) (ai b3 (ar 4 nf (ai tt (ar 5 nf (ai tt tv))))))))))))) ?_
    obtain rfl := os h
    exact Qcf.mk
   obtain ⟨b4,b5,h⟩ := Qct h
   rcases is h with ⟨b6,h⟩ | ⟨b6,h⟩
   ·refine rgs hc none [oN,oN,oc (I a4),oN,oN,oN,oN,oN,oc (I a7),oN,oN,oF,oN,oN,oN,oc (I b1),oN,oN,oF,oN,oN,oN,oc (I b4),oN,oF,oN,o_,o_,o_,o_,oT,oN,o_,o_,o_,o_,o_,oT] [(1,.ra 1 0),(3,I s0.fSize),(5,I a0),(107,.bool true)] (cq (Kho _ _ a5) K5v (ar 3 a6 (cq (Khr _ _ a8) K5x (ar 3 a6 (ar 3 a9 (cq (Khr _ _ b2) K5x (ar 3 a9 (ar 3 b3 (cq (Khr _ _ b5) K5x (ar 2 b3 (ar 4 (neF b6) (ai b6 (ar 5 nf (ai tt tv)))))))))))))) ?_
    obtain rfl := os h
    exact Qcf.mk
   obtain ⟨b7,b8,h⟩ := Qct h
   rcases is h with ⟨b9,h⟩ | ⟨b9,h⟩
   ·refine rgs hc none [oN,oN,oc (I a4),oN,oN,oN,oN,oN,oc (I a7),oN,oN,oF,oN,oN,oN,oc (I b1),oN,oN,oF,oN,oN,oN,oc (I b4),oN,oF,oN,oN,oN,oc (I b7),oN,oF,oN,o_,o_,o_,o_,o_,oT] [(1,.ra 1 0),(3,I s0.fSize),(5,I a0),(107,.bool true)] (cq (Kho _ _ a5) K5v (ar 3 a6 (cq (Khr _ _ a8) K5x (ar 3 a6 (ar 3 a9 (cq (Khr _ _ b2) K5x (ar 3 a9 (ar 3 b3 (cq (Khr _ _ b5) K5x (ar 2 b3 (ar 3 b6 (cq (Khr _ _ b8) K5x (ar 2 b6 (ar 5 (neF b9) (ai b9 tv))))))))))))))) ?_
    obtain rfl := os h
    exact Qcf.mk
   obtain ⟨c0,c1,h⟩ := Qct h
   refine rgs hc none [oN,oN,oc (I a4),oN,oN,oN,oN,oN,oc (I a7),oN,oN,oF,oN,oN,oN,oc (I b1),oN,oN,oF,oN,oN,oN,oc (I b4),oN,oF,oN,oN,oN,oc (I b7),oN,oF,oN,oN,oN,oN,oc (.bool c0),oN,oF] [(1,.ra 1 0),(3,I s0.fSize),(5,I a0),(107,.bool (!c0))] (cq (Kho _ _ a5) K5v (ar 3 a6 (cq (Khr _ _ a8) K5x (ar 3 a6 (ar 3 a9 (cq (Khr _ _ b2) K5x (ar 3 a9 (ar 3 b3 (cq (Khr _ _ b5) K5x (ar 2 b3 (ar 3 b6 (cq (Khr _ _ b8) K5x (ar 2 b6 (ar 4 b9 (cq (Khy _ _ c1) K5y (ar 2 b9 tv)))))))))))))))) ?_
   obtain rfl := os h
   exact Qcf.mk
  clear a3
  refine ic h (fun c2 h => ?_) fun c2 h => ?_
  ·refine rs0 hc 1 [(2,.bool false)] [] ?_
   refine rt ?_
   obtain rfl := os h
   exact re [true]
  refine sk ?_
  refine K8s hc 1 [(1,.ra 1 0),(3,I s0.fSize),(5,I a0),(6,I 0)] ?_
  refine bk 4 ?_
  obtain ⟨fl,c3,h⟩ := Qct h
  have hL := Kiq _ _ c3 c hc
  refine lp ?_
  rcases fl with ⟨⟩ | r
  ·refine WpL.into (e := (.exit 4)) (mkS [(1,.ra 1 0),(3,I s0.fSize),(5,I a0)] [(1,K1s s0)]) hL ?_
   refine Qc7 ?_
   refine K8r hc 3 [(1,.ra 1 0),(3,I s0.fSize),(5,I (wr (a0 + 1)))] ?_
   refine Qcb ?_
   exact (impl_IsSystem_l3_ih _ _ h c hc)
  refine WpL.mono hL ?_
  rintro _ _ ⟨rfl,hfin⟩
  obtain rfl := os h
  exact ⟨rfl,hfin⟩
 refine xt 2 ?_
 refine Qc5 ?_
 refine Qcc ?_
 obtain rfl := os h
 exact iv []
def Kiv (s0 : K00) : Option (Bool) :=
 ((
 (Khg (s0.fSize,2,16)) >>= fun a0 =>
 if a0 = true then
  if ((s0.fPlus.length : Int) != (wr (s0.fSize * s0.fSize))) = true then
   some (true)
  else
   if ((s0.fTimes.length : Int) != (wr (s0.fSize * s0.fSize))) = true then
   some (true)
   else
   some (((s0.fBelow.length : Int) != (wr (s0.fSize * s0.fSize))))
 else
  some (true)
 ) : Option (Bool)) >>= fun a1 =>
 if a1 = true then
 some false
 else
 (Kif (s0,0)) >>= fun fl => match fl with
 | .inl () =>
  (Kis (s0,0)) >>= fun fl => match fl with
  | .inl () =>
   some true
  | .inr r =>
   some r
 | .inr r =>
  some r
def Kiw (s0 : K00) (r : Bool) : Prop :=
 Q71 Tryz.prog 109 [K1t s0] (.bool r) []
theorem Kix : ∀ p r,Kiv p = some r → Kiw p r := by
 rintro s0 r h
 unfold Kiv at h
 refine b0 Tryz.f109 K63 157 [(0,K1t s0)] fun c hc => ?_
 refine rs hc none [some (.new 1),oN] [(1,.ra 1 0)] [(1,K1s s0)] tv ?_
 refine K8s hc 3 [(1,.ra 1 0),(3,I s0.fSize)] ?_
 refine sN ?_
 refine sN ?_
 obtain ⟨a0,a1,h⟩ := Qct h
 refine Wp.into (x := .normal) (mkS [(1,.ra 1 0),(3,I s0.fSize),(39,.bool a0)] [(1,K1s s0)]) ?_ ?_
 ·replace h := a1
  obtain ⟨a2,a3,h⟩ := Qct h
  rcases is h with ⟨a4,h⟩ | ⟨a4,h⟩
  ·rcases is h with ⟨a5,h⟩ | ⟨a5,h⟩
   ·refine rgs hc none [oN,oc (.bool a2),oN,oN,oN,oN,some (.eqv (.no) ⟨[(16,I (s0.fPlus.length : Int))],[],[]⟩),oN,oN,oN,oN,oF,oN,o_,o_,o_,o_,o_,o_,o_,oT,oN,o_,o_,o_,o_,o_,o_,o_,oT] [(1,.ra 1 0),(3,I s0.fSize),(39,.bool true)] (cq (Khi _ _ a3) K5s (ar 3 (nF a4) (ai (Qcz (d := 16) I s0.fPlus) (ar 5 (nF a4) (ar 7 (neF a5) (ai a5 (ar 7 nf (ai tt tv)))))))) ?_
    obtain rfl := os h
    exact Qcf.mk
   rcases is h with ⟨a6,h⟩ | ⟨a6,h⟩
   ·refine rgs hc none [oN,oc (.bool a2),oN,oN,oN,oN,some (.eqv (.no) ⟨[(16,I (s0.fPlus.length : Int))],[],[]⟩),oN,oN,oN,oN,oF,oN,oN,oN,some (.eqv (.no) ⟨[(25,I (s0.fTimes.length : Int))],[],[]⟩),oN,oN,oN,oN,oF,oN,o_,o_,o_,o_,o_,o_,o_,oT] [(1,.ra 1 0),(3,I s0.fSize),(39,.bool true)] (cq (Khi _ _ a3) K5s (ar 3 (nF a4) (ai (Qcz (d := 16) I s0.fPlus) (ar 5 (nF a4) (ar 3 a5 (ai (Qcz (d := 25) I s0.fTimes) (ar 5 a5 (ar 7 (neF a6) (ai a6 tv))))))))) ?_
    obtain rfl := os h
    exact Qcf.mk
   refine rgs hc none [oN,oc (.bool a2),oN,oN,oN,oN,some (.eqv (.no) ⟨[(16,I (s0.fPlus.length : Int))],[],[]⟩),oN,oN,oN,oN,oF,oN,oN,oN,some (.eqv (.no) ⟨[(25,I (s0.fTimes.length : Int))],[],[]⟩),oN,oN,oN,oN,oF,oN,oN,oN,some (.eqv (.no) ⟨[(34,I (s0.fBelow.length : Int))],[],[]⟩),oN,oN,oN,oN,oF] [(1,.ra 1 0),(3,I s0.fSize),(39,.bool ((s0.fBelow.length : Int) != (wr (s0.fSize * s0.fSize))))] (cq (Khi _ _ a3) K5s (ar 3 (nF a4) (ai (Qcz (d := 16) I s0.fPlus) (ar 5 (nF a4) (ar 3 a5 (ai (Qcz (d := 25) I s0.fTimes) (ar 5 a5 (ar 3 a6 (ai (Qcz (d := 34) AV.bool s0.fBelow) (ar 5 a6 tv)))))))))) ?_
   obtain rfl := os h
   exact Qcf.mk
  refine rgs hc none [oN,oc (.bool a2),oN,oN,o_,o_,o_,o_,o_,o_,o_,oT,oN,o_,o_,o_,o_,o_,o_,o_,oT,oN,o_,o_,o_,o_,o_,o_,o_,oT] [(1,.ra 1 0),(3,I s0.fSize),(39,.bool true)] (cq (Khi _ _ a3) K5s (ar 7 (neF (nT a4)) (ai (nT a4) (ar 7 nf (ai tt (ar 7 nf (ai tt tv))))))) ?_
  obtain rfl := os h
  exact Qcf.mk
 clear a1
 refine ic h (fun a7 h => ?_) fun a7 h => ?_
 ·refine rs0 hc 1 [(2,.bool false)] [] ?_
  refine rt ?_
  obtain rfl := os h
  exact rq [true]
 refine sk ?_
 refine sN ?_
 refine rss hc none [oN,oN,some (.eqv (.no) ⟨[(42,I (s0.fPlus.length : Int))],[],[]⟩),oN] [(1,.ra 1 0),(3,I s0.fSize),(42,I (s0.fPlus.length : Int)),(43,I 0)] (ai (Qcz (d := 42) I s0.fPlus) tv) ?_
 refine bk 0 ?_
 obtain ⟨fl,a8,h⟩ := Qct h
 have hL := Kih _ _ a8 c hc
 refine lp ?_
 rcases fl with ⟨⟩ | r
 ·refine WpL.into (e := (.exit 0)) (mkS [(1,.ra 1 0),(3,I s0.fSize)] [(1,K1s s0)]) hL ?_
  refine Qc7 ?_
  refine sN ?_
  refine K8s hc 1 [(1,.ra 1 0),(3,I s0.fSize),(5,I 0)] ?_
  refine bk 2 ?_
  obtain ⟨fl,a9,h⟩ := Qct h
  have hL := Kiu _ _ a9 c hc
  refine lp ?_
  rcases fl with ⟨⟩ | r
  ·refine WpL.into (e := (.exit 2)) (mkS [] []) hL ?_
   refine Qc7 ?_
   refine rs0 hc 1 [(2,.bool true)] [] ?_
   refine rt ?_
   obtain rfl := os h
   exact rq [true]
  refine WpL.mono hL ?_
  rintro _ _ ⟨rfl,hfin⟩
  obtain rfl := os h
  exact ⟨.inl rfl,hfin⟩
 refine WpL.mono hL ?_
 rintro _ _ ⟨rfl,hfin⟩
 obtain rfl := os h
 exact ⟨.inl rfl,hfin⟩
def Kiy (code0 : Int) : Option (Int × Int) :=
 (Khg (code0,0,2)) >>= fun a0 =>
 if a0 = true then
 some (code0,(-1))
 else
 (Khg (code0,3,18)) >>= fun a1 =>
 if a1 = true then
 some (3,(wr (code0 - 3)))
 else
 (Khg (code0,19,34)) >>= fun a2 =>
 if a2 = true then
 some (4,(wr (code0 - 19)))
 else
 if (code0 == 35) = true then
 some (3,(-1))
 else
 if (code0 == 36) = true then
 some (4,(-1))
 else
 some (5,(-1))
def Kiz (code0 : Int) (r : Int × Int) : Prop :=
 Q71 Tryz.prog 182 [I code0] (.tup [I r.1,I r.2]) []
theorem Kj0 : ∀ p r,Kiy p = some r → Kiz p r := by
 rintro code0 r h
 unfold Kiy at h
 refine b0 Tryz.f182 K65 24 [(0,I code0)] fun c hc => ?_
 refine rs0 hc 2 [(0,I code0)] [] ?_
 refine sN ?_
 refine bk 0 ?_
 obtain ⟨a0,a1,h⟩ := Qct h
 refine rs hc none [oN,oc (.bool a0),oN] [(0,I code0),(4,.bool a0)] [] (cq (Khi _ _ a1) K5s tv) ?_
 refine ic h (fun a2 h => ?_) fun a2 h => ?_
 ·refine rs0 hc 3 [(2,I code0),(3,I (-1))] [] ?_
  refine rt ?_
  obtain rfl := os h
  exact rq [true,true]
 obtain ⟨a3,a4,h⟩ := Qct h
 refine rs hc none [oN,oc (.bool a3),oN] [(0,I code0),(8,.bool a3)] [] (cq (Khi _ _ a4) K5s tv) ?_
 refine ic h (fun a5 h => ?_) fun a5 h => ?_
 ·refine rs0 hc 4 [(2,I 3),(3,I (wr (code0 - 3)))] [] ?_
  refine rt ?_
  obtain rfl := os h
  exact rq [true,true]
 obtain ⟨a6,a7,h⟩ := Qct h
 refine rs hc none [oN,oc (.bool a6),oN] [(0,I code0),(13,.bool a6)] [] (cq (Khi _ _ a7) K5s tv) ?_
 refine ic h (fun a8 h => ?_) fun a8 h => ?_
 ·refine rs0 hc 4 [(2,I 4),(3,I (wr (code0 - 19)))] [] ?_
  refine rt ?_
  obtain rfl := os h
  exact rq [true,true]
 refine rs0 hc 3 [(0,I code0),(18,.bool (code0 == 35))] [] ?_
 refine ic h (fun a9 h => ?_) fun a9 h => ?_
 ·refine rs0 hc 2 [(2,I 3),(3,I (-1))] [] ?_
  refine rt ?_
  obtain rfl := os h
  exact rq [true,true]
 refine rs0 hc 3 [(21,.bool (code0 == 36))] [] ?_
 refine ic h (fun b1 h => ?_) fun b1 h => ?_
 ·refine rs0 hc 2 [(2,I 4),(3,I (-1))] [] ?_
  refine rt ?_
  obtain rfl := os h
  exact rq [true,true]
 refine sk ?_
 refine rs0 hc 2 [(2,I 5),(3,I (-1))] [] ?_
 refine rt ?_
 obtain rfl := os h
 exact rq [true,true]
def Kj1 (p : (List Int) × Int) : Option (Int) :=
 match p with
 | (ty0,at1) =>
  ((
  if (decide (at1 < 0)) = true then
  some (true)
  else
  some ((decide (at1 ≥ (ty0.length : Int))))
  ) : Option (Bool)) >>= fun a0 =>
  if a0 = true then
  some (-1)
  else
  (idx ty0 at1) >>= fun a1 =>
  (Kiy a1) >>= fun (a2,a3) =>
  if (a2 == 0) = true then
  some (wr (at1 + 1))
  else
  if (a2 == 4) = true then
  (Kj1 (ty0,(wr (at1 + 1)))) >>= fun a4 =>
  some a4
  else
  if (a2 == 5) = true then
  some (-1)
  else
  (Kj1 (ty0,(wr (at1 + 1)))) >>= fun a5 =>
  (Kj1 (ty0,a5)) >>= fun a6 =>
  some a6
 partial_fixpoint
def Kj2 (p : (List Int) × Int) (r : Int) : Prop :=
 match p with
 | (ty0,at1) => Q71 Tryz.prog 186 [sI ty0,I at1] (I r) []
theorem Kj3 : ∀ p r,Kj1 p = some r → Kj2 p r := by
 refine Kj1.partial_correctness Kj2 ?_
 rintro impl_typeEnd_f impl_typeEnd_ih ⟨ty0,at1⟩ r h
 refine b0 Tryz.f186 K67 42 [(0,sI ty0),(1,I at1)] fun c hc => ?_
 refine rs0 hc 1 [(0,sI ty0),(1,I at1)] [] ?_
 refine sN ?_
 refine sN ?_
 obtain ⟨a0,a1,h⟩ := Qct h
 refine Wp.into (x := .normal) (mkS [(0,sI ty0),(1,I at1),(14,.bool a0)] []) ?_ ?_
 ·replace h := a1
  rcases is h with ⟨a2,h⟩ | ⟨a2,h⟩
  ·refine rg hc none [oN,oN,oN,o_,o_,o_,o_,oT] [(0,sI ty0),(1,I at1),(14,.bool true)] [] (ar 4 (neF a2) (ai a2 tv)) ?_
   obtain rfl := os h
   exact Qcf.mk
  refine rg hc none [oN,oN,oN,oN,oN,some (.eqv (.no) ⟨[(12,I (ty0.length : Int))],[],[]⟩),oN,oF] [(0,sI ty0),(1,I at1),(14,.bool (decide (at1 ≥ (ty0.length : Int))))] [] (ar 3 a2 (ai (Qcz (d := 12) I ty0) (ar 2 a2 tv))) ?_
  obtain rfl := os h
  exact Qcf.mk
 clear a1
 refine ic h (fun a3 h => ?_) fun a3 h => ?_
 ·refine rs0 hc 1 [(4,I (-1))] [] ?_
  refine rt ?_
  obtain rfl := os h
  exact rq [true]
 refine sk ?_
 obtain ⟨a4,a5,⟨a6,a7⟩,a8,h⟩ := bq2 h
 refine rs hc none [oN,oN,some (.el (I a4)),oN,oc (.tup [I a6,I a7]),oN,oN,oN,oN,oN] [(0,sI ty0),(1,I at1),(5,I a6)] [] (ai (ix a5) (cq (Kj0 _ _ a8) K66 tv)) ?_
 refine sN ?_
 refine rs0 hc 1 [(0,sI ty0),(1,I at1),(23,I a6)] [] ?_
 refine bk 0 ?_
 refine rs0 hc 2 [(0,sI ty0),(1,I at1),(23,I a6),(24,.bool (a6 == 0))] [] ?_
 refine ic h (fun a9 h => ?_) fun a9 h => ?_
 ·refine rs0 hc 3 [(4,I (wr (at1 + 1)))] [] ?_
  refine rt ?_
  obtain rfl := os h
  exact rq [true]
 refine rs0 hc 2 [(0,sI ty0),(1,I at1),(23,I a6),(28,.bool (a6 == 4))] [] ?_
 refine ic h (fun b1 h => ?_) fun b1 h => ?_
 ·obtain ⟨b2,b3,h⟩ := Qct h
  refine rs hc none [oN,oN,oN,oc (I b2),oN] [(4,I b2)] [] (cq (impl_typeEnd_ih _ _ b3) K68 tv) ?_
  refine rt ?_
  obtain rfl := os h
  exact rq [true]
 refine rs0 hc 2 [(0,sI ty0),(1,I at1),(34,.bool (a6 == 5))] [] ?_
 refine ic h (fun b4 h => ?_) fun b4 h => ?_
 ·refine rs0 hc 1 [(4,I (-1))] [] ?_
  refine rt ?_
  obtain rfl := os h
  exact rq [true]
 refine sk ?_
 obtain ⟨b5,b6,b7,b8,h⟩ := bq2 h
 refine rs hc none [oN,oN,oN,oN,oc (I b5),oc (I b7),oN] [(4,I b7)] [] (cq (impl_typeEnd_ih _ _ b6) K68 (cq (impl_typeEnd_ih _ _ b8) K68 tv)) ?_
 refine rt ?_
 obtain rfl := os h
 exact rq [true]
def Kj4 (ty0 : (List Int)) : Option (Bool) :=
 ((
 (Khg ((ty0.length : Int),1,40)) >>= fun a0 =>
 if a0 = true then
 (Kj1 (ty0,0)) >>= fun a1 =>
 some ((a1 == (ty0.length : Int)))
 else
 some (false)
 ) : Option (Bool)) >>= fun a2 =>
 some a2
def Kj5 (ty0 : (List Int)) (r : Bool) : Prop :=
 Q71 Tryz.prog 118 [sI ty0] (.bool r) []
theorem Kj6 : ∀ p r,Kj4 p = some r → Kj5 p r := by
 rintro ty0 r h
 unfold Kj4 at h
 refine b0 Tryz.f118 K69 13 [(0,sI ty0)] fun c hc => ?_
 refine rs0 hc 1 [(0,sI ty0)] [] ?_
 refine sN ?_
 obtain ⟨a0,a1,h⟩ := Qct h
 refine Wp.into (x := .normal) (mkS [(2,.bool a0)] []) ?_ ?_
 ·replace h := a1
  obtain ⟨a2,a3,h⟩ := Qct h
  rcases is h with ⟨a4,h⟩ | ⟨a4,h⟩
  ·obtain ⟨a5,a6,h⟩ := Qct h
   refine rg hc none [oN,some (.eqv (.no) ⟨[(4,I (ty0.length : Int))],[],[]⟩),oc (.bool a2),oN,oN,oc (I a5),oN,some (.eqv (.no) ⟨[(10,I (ty0.length : Int))],[],[]⟩),oN,oT,oN] [(2,.bool (a5 == (ty0.length : Int)))] [] (ai (Qcz (d := 4) I ty0) (cq (Khi _ _ a3) K5s (ar 2 a4 (cq (Kj3 _ _ a6) K68 (ar 2 a4 (ai (Qcz (d := 10) I ty0) (ar 2 a4 tv))))))) ?_
   obtain rfl := os h
   exact Qcf.mk
  refine rg hc none [oN,some (.eqv (.no) ⟨[(4,I (ty0.length : Int))],[],[]⟩),oc (.bool a2),oN,o_,o_,o_,o_,o_,oF,oN] [(2,.bool false)] [] (ai (Qcz (d := 4) I ty0) (cq (Khi _ _ a3) K5s (ar 5 (neT a4) (ai a4 tv)))) ?_
  obtain rfl := os h
  exact Qcf.mk
 clear a1
 refine rt ?_
 obtain rfl := os h
 exact rq [true]
def Kj7 (c : Ctx) : (Unit) ⊕ (Bool) → Exit → Q0a → Prop
 | .inl _ => Qcf c (.exit 0) (mkS [] [])
 | .inr r => Qco TIx Tryz.f210 [] (.bool r)
def Kj8 (p : K00 × (List Int) × Int) : Option ((Unit) ⊕ (Bool)) :=
 match p with
 | (s0,ty1,a0) =>
  if (decide (a0 < (ty1.length : Int))) = true then
  (idx ty1 a0) >>= fun a1 =>
  (Kiy a1) >>= fun (a2,a3) =>
  ((
  if (a2 == 3) = true then
  (Khj (s0,a3)) >>= fun a4 =>
  some ((!a4))
  else
  if (a2 == 4) = true then
  (Khj (s0,a3)) >>= fun a4 =>
  some ((!a4))
  else
  some (false)
  ) : Option (Bool)) >>= fun a5 =>
  if a5 = true then
  some (.inr false)
  else
  Kj8 (s0,ty1,(wr (a0 + 1)))
  else
  some (.inl ())
 partial_fixpoint
def Kj9 (p : K00 × (List Int) × Int) (fl : (Unit) ⊕ (Bool)) : Prop :=
 match p with
 | (s0,ty1,a0) => ∀ c : Ctx,c.nt = 36 → WpL Tryz.prog c (cl (cl (cr (cl (cr (cr K6b)))))) (Kj7 c fl) (mkS [(2,.ra 1 0),(12,sI ty1),(13,I (ty1.length : Int)),(14,I a0)] [(1,K1s s0)])
theorem Kja : ∀ p r,Kj8 p = some r → Kj9 p r := by
 refine Kj8.partial_correctness Kj9 ?_
 rintro impl_isTypeOf_l0_f impl_isTypeOf_l0_ih ⟨s0,ty1,a0⟩ r h
 intro c hc
 refine WpL.step ?_
 refine K8s hc 1 [(2,.ra 1 0),(12,sI ty1),(13,I (ty1.length : Int)),(14,I a0),(15,.bool (decide (a0 < (ty1.length : Int))))] ?_
 refine sN ?_
 refine ic h (fun a1 h => ?_) fun a1 h => ?_
 ·refine sk ?_
  refine sN ?_
  refine bk 1 ?_
  obtain ⟨a2,a3,h⟩ := Qct h
  refine rss hc none [some (.el (I a2)),oN,oN] [(2,.ra 1 0),(6,I a2),(12,sI ty1),(13,I (ty1.length : Int)),(14,I a0)] (ai (ix a3) tv) ?_
  obtain ⟨⟨a4,a5⟩,a6,h⟩ := Qct h
  refine rss hc none [oN,oc (.tup [I a4,I a5]),oN,oN,oN,oN,oN] [(2,.ra 1 0),(7,I a4),(8,I a5),(12,sI ty1),(13,I (ty1.length : Int)),(14,I a0)] (cq (Kj0 _ _ a6) K66 tv) ?_
  refine sN ?_
  obtain ⟨a7,a8,h⟩ := Qct h
  refine Wp.into (x := .normal) (mkS [(2,.ra 1 0),(12,sI ty1),(13,I (ty1.length : Int)),(14,I a0),(34,.bool a7)] [(1,K1s s0)]) ?_ ?_
  ·replace h := a8
   rcases is h with ⟨a9,h⟩ | ⟨a9,h⟩
   ·obtain ⟨b1,b2,h⟩ := Qct h
    refine rgs hc none [oN,oN,oN,o_,o_,oT,oN,oN,oN,oc (.bool b1),oN,oT] [(2,.ra 1 0),(12,sI ty1),(13,I (ty1.length : Int)),(14,I a0),(34,.bool (!b1))] (ar 2 (neF a9) (ai a9 (ar 3 tt (cq (Khl _ _ b2) K5t (ar 2 tt tv))))) ?_
    obtain rfl := os h
    exact Qcf.mk
   rcases is h with ⟨b3,h⟩ | ⟨b3,h⟩
   ·obtain ⟨b1,b2,h⟩ := Qct h
    refine rgs hc none [oN,oN,oN,oN,oN,oF,oN,oN,oN,oc (.bool b1),oN,oT] [(2,.ra 1 0),(12,sI ty1),(13,I (ty1.length : Int)),(14,I a0),(34,.bool (!b1))] (ar 3 a9 (ar 3 b3 (cq (Khl _ _ b2) K5t (ar 2 b3 tv)))) ?_
    obtain rfl := os h
    exact Qcf.mk
   refine rgs hc none [oN,oN,oN,oN,oN,oF,oN,o_,o_,o_,o_,oF] [(2,.ra 1 0),(12,sI ty1),(13,I (ty1.length : Int)),(14,I a0),(34,.bool false)] (ar 3 a9 (ar 4 (neT b3) (ai b3 tv))) ?_
   obtain rfl := os h
   exact Qcf.mk
  clear a8
  refine ic h (fun b4 h => ?_) fun b4 h => ?_
  ·refine rs0 hc 1 [(4,.bool false)] [] ?_
   refine rt ?_
   obtain rfl := os h
   exact re [true]
  refine sk ?_
  refine K8r hc 2 [(2,.ra 1 0),(12,sI ty1),(13,I (ty1.length : Int)),(14,I (wr (a0 + 1)))] ?_
  refine Qcb ?_
  exact (impl_isTypeOf_l0_ih _ _ h c hc)
 refine xt 0 ?_
 refine Qc5 ?_
 refine Qcc ?_
 obtain rfl := os h
 exact iv []
def Kjb (p : K00 × (List Int)) : Option (Bool) :=
 match p with
 | (s0,ty1) =>
  (Kj4 ty1) >>= fun a0 =>
  if a0 = true then
  (Kj8 (s0,ty1,0)) >>= fun fl => match fl with
  | .inl () =>
   some true
  | .inr r =>
   some r
  else
  some false
def Kjc (p : K00 × (List Int)) (r : Bool) : Prop :=
 match p with
 | (s0,ty1) => Q71 Tryz.prog 210 [K1t s0,sI ty1] (.bool r) []
theorem Kjd : ∀ p r,Kjb p = some r → Kjc p r := by
 rintro ⟨s0,ty1⟩ r h
 unfold Kjb at h
 refine b0 Tryz.f210 K6b 36 [(0,K1t s0),(1,sI ty1)] fun c hc => ?_
 refine rs hc none [some (.new 1),oN] [(1,sI ty1),(2,.ra 1 0)] [(1,K1s s0)] tv ?_
 refine sN ?_
 obtain ⟨a0,a1,h⟩ := Qct h
 refine rss hc none [oN,oc (.bool a0),oN] [(1,sI ty1),(2,.ra 1 0),(11,.bool (!a0))] (cq (Kj6 _ _ a1) K6a tv) ?_
 rcases is h with ⟨a2,h⟩ | ⟨a2,h⟩
 ·refine cF (!a0) (nF a2) ?_
  refine sk ?_
  refine sN ?_
  refine rss hc none [oN,some (.eqv (.no) ⟨[(13,I (ty1.length : Int))],[],[]⟩),oN] [(2,.ra 1 0),(12,sI ty1),(13,I (ty1.length : Int)),(14,I 0)] (ai (Qcz (d := 13) I ty1) tv) ?_
  refine bk 0 ?_
  obtain ⟨fl,a3,h⟩ := Qct h
  have hL := Kja _ _ a3 c hc
  refine lp ?_
  rcases fl with ⟨⟩ | r
  ·refine WpL.into (e := (.exit 0)) (mkS [] []) hL ?_
   refine Qc7 ?_
   refine rs0 hc 1 [(4,.bool true)] [] ?_
   refine rt ?_
   obtain rfl := os h
   exact rq [true]
  refine WpL.mono hL ?_
  rintro _ _ ⟨rfl,hfin⟩
  obtain rfl := os h
  exact ⟨.inl rfl,hfin⟩
 refine cT (!a0) (nT a2) ?_
 refine rs0 hc 1 [(4,.bool false)] [] ?_
 refine rt ?_
 obtain rfl := os h
 exact rq [true]
def Kje (p : (List Int) × K00) : Option (Bool) :=
 match p with
 | (ty0,cap0) =>
  (Kjb (cap0,ty0)) >>= fun a0 =>
  some (!a0)
def Kjf (p : (List Int) × K00) (r : Bool) : Prop :=
 match p with
 | (ty0,cap0) => Q71 Tryz.prog 209 [sI ty0,.ptr [I cap0.fSize,sI cap0.fPlus,sI cap0.fTimes,sB cap0.fBelow] 0] (.bool r) []
theorem Kjg : ∀ p r,Kje p = some r → Kjf p r := by
 rintro ⟨ty0,cap0⟩ r h
 unfold Kje at h
 refine b0 Tryz.f209 K6d 8 [(0,sI ty0),(1,.ptr [I cap0.fSize,sI cap0.fPlus,sI cap0.fTimes,sB cap0.fBelow] 0)] fun c hc => ?_
 refine rs0 hc 1 [(0,sI ty0),(1,.ptr [I cap0.fSize,sI cap0.fPlus,sI cap0.fTimes,sB cap0.fBelow] 0)] [] ?_
 obtain ⟨a0,a1,h⟩ := Qct h
 refine rs hc none [oN,oN,oc (.bool a0),oN,oN] [(3,.bool (!a0))] [] (cq (Kjd _ _ a1) K6c tv) ?_
 refine rt ?_
 obtain rfl := os h
 exact rq [true]
def Kjh (c : Ctx) : (Unit) ⊕ (Int) → Exit → Q0a → Prop
 | .inl _ => Qcf c (.exit 0) (mkS [] [])
 | .inr r => Qco TIx Tryz.f240 [] (I r)
def Kji (p : LL × K00 × Int) : Option ((Unit) ⊕ (Int)) :=
 match p with
 | (s0,clo1_0,a0) =>
  if (decide (a0 < (s0.length : Int))) = true then
  (idx s0 a0) >>= fun a1 =>
  (Kje (a1,clo1_0)) >>= fun a2 =>
  if a2 = true then
  some (.inr a0)
  else
  Kji (s0,clo1_0,(wr (a0 + 1)))
  else
  some (.inl ())
 partial_fixpoint
def Kjj (p : LL × K00 × Int) (fl : (Unit) ⊕ (Int)) : Prop :=
 match p with
 | (s0,clo1_0,a0) => ∀ c : Ctx,c.nt = 19 → WpL Tryz.prog c (cl (cl (cr (cl (cr K6f))))) (Kjh c fl) (mkS [(0,sL s0),(1,.fn 209 [.ptr [I clo1_0.fSize,sI clo1_0.fPlus,sI clo1_0.fTimes,sB clo1_0.fBelow] 0]),(7,I (s0.length : Int)),(8,I a0)] [])
theorem Kjk : ∀ p r,Kji p = some r → Kjj p r := by
 refine Kji.partial_correctness Kjj ?_
 rintro slices_IndexFunc_Lint_Kimpl_isContext_c1_l0_f slices_IndexFunc_Lint_Kimpl_isContext_c1_l0_ih ⟨s0,clo1_0,a0⟩ r h
 intro c hc
 refine WpL.step ?_
 refine rs0 hc 1 [(0,sL s0),(1,.fn 209 [.ptr [I clo1_0.fSize,sI clo1_0.fPlus,sI clo1_0.fTimes,sB clo1_0.fBelow] 0]),(7,I (s0.length : Int)),(8,I a0),(9,.bool (decide (a0 < (s0.length : Int))))] [] ?_
 refine sN ?_
 refine ic h (fun a1 h => ?_) fun a1 h => ?_
 ·refine sk ?_
  refine sN ?_
  refine bk 1 ?_
  refine rs0 hc 2 [(0,sL s0),(1,.fn 209 [.ptr [I clo1_0.fSize,sI clo1_0.fPlus,sI clo1_0.fTimes,sB clo1_0.fBelow] 0]),(5,I a0),(7,I (s0.length : Int)),(8,I a0)] [] ?_
  obtain ⟨a2,a3,a4,a5,h⟩ := bq2 h
  refine rs hc none [oN,oN,oN,some (.el (sI a2)),oN,oc (.bool a4)] [(0,sL s0),(1,.fn 209 [.ptr [I clo1_0.fSize,sI clo1_0.fPlus,sI clo1_0.fTimes,sB clo1_0.fBelow] 0]),(5,I a0),(7,I (s0.length : Int)),(8,I a0),(16,.bool a4)] [] (ai (xL a3) (cq (Kjg _ _ a5) K6e tv)) ?_
  refine ic h (fun a6 h => ?_) fun a6 h => ?_
  ·refine rs0 hc 2 [(4,I a0)] [] ?_
   refine rt ?_
   obtain rfl := os h
   exact re [true]
  refine sk ?_
  refine rg0 hc 2 [(0,sL s0),(1,.fn 209 [.ptr [I clo1_0.fSize,sI clo1_0.fPlus,sI clo1_0.fTimes,sB clo1_0.fBelow] 0]),(7,I (s0.length : Int)),(8,I (wr (a0 + 1)))] [] ?_
  refine Qcb ?_
  exact (slices_IndexFunc_Lint_Kimpl_isContext_c1_l0_ih _ _ h c hc)
 refine xt 0 ?_
 refine Qc5 ?_
 refine Qcc ?_
 obtain rfl := os h
 exact iv []
def Kjl (p : LL × K00) : Option (Int) :=
 match p with
 | (s0,clo1_0) =>
  (Kji (s0,clo1_0,0)) >>= fun fl => match fl with
  | .inl () =>
   some (-1)
  | .inr r =>
   some r
def Kjm (p : LL × K00) (r : Int) : Prop :=
 match p with
 | (s0,clo1_0) => Q71 Tryz.prog 240 [sL s0,.fn 209 [.ptr [I clo1_0.fSize,sI clo1_0.fPlus,sI clo1_0.fTimes,sB clo1_0.fBelow] 0]] (I r) []
theorem Kjn : ∀ p r,Kjl p = some r → Kjm p r := by
 rintro ⟨s0,clo1_0⟩ r h
 unfold Kjl at h
 refine b0 Tryz.f240 K6f 19 [(0,sL s0),(1,.fn 209 [.ptr [I clo1_0.fSize,sI clo1_0.fPlus,sI clo1_0.fTimes,sB clo1_0.fBelow] 0])] fun c hc => ?_
 refine rs0 hc 1 [(0,sL s0),(1,.fn 209 [.ptr [I clo1_0.fSize,sI clo1_0.fPlus,sI clo1_0.fTimes,sB clo1_0.fBelow] 0])] [] ?_
 refine sN ?_
 refine rs hc none [oN,some (.eqv (.no) ⟨[(7,I (s0.length : Int))],[],[]⟩),oN] [(0,sL s0),(1,.fn 209 [.ptr [I clo1_0.fSize,sI clo1_0.fPlus,sI clo1_0.fTimes,sB clo1_0.fBelow] 0]),(7,I (s0.length : Int)),(8,I 0)] [] (ai (Qcz (d := 7) K10 s0) tv) ?_
 refine bk 0 ?_
 obtain ⟨fl,a0,h⟩ := Qct h
 have hL := Kjk _ _ a0 c hc
 refine lp ?_
 rcases fl with ⟨⟩ | r
 ·refine WpL.into (e := (.exit 0)) (mkS [] []) hL ?_
  refine Qc7 ?_
  refine rs0 hc 1 [(4,I (-1))] [] ?_
  refine rt ?_
  obtain rfl := os h
  exact rq [true]
 refine WpL.mono hL ?_
 rintro _ _ ⟨rfl,hfin⟩
 obtain rfl := os h
 exact ⟨.inl rfl,hfin⟩
def Kjo (p : LL × K00) : Option (Bool) :=
 match p with
 | (s0,clo1_0) =>
  (Kjl (s0,clo1_0)) >>= fun a0 =>
  some (decide (a0 ≥ 0))
def Kjp (p : LL × K00) (r : Bool) : Prop :=
 match p with
 | (s0,clo1_0) => Q71 Tryz.prog 208 [sL s0,.fn 209 [.ptr [I clo1_0.fSize,sI clo1_0.fPlus,sI clo1_0.fTimes,sB clo1_0.fBelow] 0]] (.bool r) []
theorem Kjq : ∀ p r,Kjo p = some r → Kjp p r := by
 rintro ⟨s0,clo1_0⟩ r h
 unfold Kjo at h
 refine b0 Tryz.f208 K6h 9 [(0,sL s0),(1,.fn 209 [.ptr [I clo1_0.fSize,sI clo1_0.fPlus,sI clo1_0.fTimes,sB clo1_0.fBelow] 0])] fun c hc => ?_
 refine rs0 hc 1 [(0,sL s0),(1,.fn 209 [.ptr [I clo1_0.fSize,sI clo1_0.fPlus,sI clo1_0.fTimes,sB clo1_0.fBelow] 0])] [] ?_
 obtain ⟨a0,a1,h⟩ := Qct h
 refine rs hc none [oN,oN,oc (I a0),oN,oN] [(4,.bool (decide (a0 ≥ 0)))] [] (cq (Kjn _ _ a1) K6g tv) ?_
 refine rt ?_
 obtain rfl := os h
 exact rq [true]
def Kjr (p : K00 × LL) : Option (Bool) :=
 match p with
 | (s0,ctx1) =>
  ((
  if (decide ((ctx1.length : Int) ≤ 8)) = true then
  (Kjo (ctx1,s0)) >>= fun a0 =>
  some ((!a0))
  else
  some (false)
  ) : Option (Bool)) >>= fun a1 =>
  some a1
def Kjs (p : K00 × LL) (r : Bool) : Prop :=
 match p with
 | (s0,ctx1) => Q71 Tryz.prog 154 [K1t s0,sL ctx1] (.bool r) []
theorem Kjt : ∀ p r,Kjr p = some r → Kjs p r := by
 rintro ⟨s0,ctx1⟩ r h
 unfold Kjr at h
 refine b0 Tryz.f154 K6j 14 [(0,K1t s0),(1,sL ctx1)] fun c hc => ?_
 refine rs hc none [some (.new 1),oN] [(1,sL ctx1),(2,.ra 1 0)] [(1,K1s s0)] tv ?_
 refine sN ?_
 obtain ⟨a0,a1,h⟩ := Qct h
 refine Wp.into (x := .normal) (mkS [(4,.bool a0)] []) ?_ ?_
 ·replace h := a1
  rcases is h with ⟨a2,h⟩ | ⟨a2,h⟩
  ·obtain ⟨a3,a4,h⟩ := Qct h
   refine rg hc none [oN,some (.eqv (.no) ⟨[(6,I (ctx1.length : Int))],[],[]⟩),oN,oN,oN,oN,oc (.bool a3),oN,oT,oN] [(4,.bool (!a3))] [] (ai (Qcz (d := 6) K10 ctx1) (ar 3 a2 (ac (Kjq _ _ a4) K6i (Or.inr rfl : ([1] : List Nat) = [] ∨ noSh (.bool a3) = true) (ar 2 a2 tv)))) ?_
   obtain rfl := os h
   exact Qcf.mk
  refine rg hc none [oN,some (.eqv (.no) ⟨[(6,I (ctx1.length : Int))],[],[]⟩),oN,oN,o_,o_,o_,o_,oF,oN] [(4,.bool false)] [] (ai (Qcz (d := 6) K10 ctx1) (ar 4 (neT a2) (ai a2 tv))) ?_
  obtain rfl := os h
  exact Qcf.mk
 clear a1
 refine rt ?_
 obtain rfl := os h
 exact rq [true]
end Go.Am
