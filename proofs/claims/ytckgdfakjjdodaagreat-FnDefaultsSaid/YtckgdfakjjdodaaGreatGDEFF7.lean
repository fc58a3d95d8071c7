/- Functions of the program as pure functions,and that it computes them. Printed by a program of mine (gen.py). -/
import Derived.Test.YtckgdfakjjdodaaGreatGDEFF4
set_option linter.unusedVariables false
set_option linter.unusedSimpArgs false
set_option maxRecDepth 100000
namespace Go.Am
open Go Go.Proofs
def Kg1 (p : K00 × (List Int) × K02) : Option (Int) :=
 match p with
 | (s0,ty1,v2) =>
  ((
  (Kfv (s0,ty1)) >>= fun a0 =>
  if (decide (a0 < 0)) = true then
  some (true)
  else
  (Kfm (ty1,v2)) >>= fun a1 =>
  some ((!a1))
  ) : Option (Bool)) >>= fun a2 =>
  if a2 = true then
  some (-1)
  else
  (Kfy (ty1,v2)) >>= fun a3 =>
  some a3
def Kg2 (p : K00 × (List Int) × K02) (r : Int) : Prop :=
 match p with
 | (s0,ty1,v2) => Q71 Tryz.prog 22 [K1t s0,sI ty1,K1x v2] (I r) []
theorem Kg3 : ∀ p r,Kg1 p = some r → Kg2 p r := by
 rintro ⟨s0,ty1,v2⟩ r h
 unfold Kg1 at h
 refine b0 Tryz.f22 B22 20 [(0,K1t s0),(1,sI ty1),(2,K1x v2)] fun c hc => ?_
 refine rs hc none [some (.new 1),some (.new 2),oN] [(1,sI ty1),(3,.ra 1 0),(5,.ra 2 0)] [(1,K1s s0),(2,K1w v2)] tv ?_
 refine sN ?_
 refine sN ?_
 obtain ⟨a0,a1,h⟩ := Qdd h
 refine Wp.into (x := .normal) (mkS [(1,sI ty1),(5,.ra 2 0),(16,.bool a0)] [(2,K1w v2)]) ?_ ?_
 ·replace h := a1
  obtain ⟨a2,a3,h⟩ := Qdd h
  rcases is h with ⟨a4,h⟩ | ⟨a4,h⟩
  ·refine rg hc none [oN,oN,oc (I a2),oN,oN,o_,o_,o_,o_,oT] [(1,sI ty1),(5,.ra 2 0),(16,.bool true)] [(2,K1w v2)] (cq (Kfx _ _ a3) K5k (ar 4 (neF a4) (ai a4 tv))) ?_
   obtain rfl := os h
   exact Qcz.mk
  obtain ⟨a5,a6,h⟩ := Qdd h
  refine rg hc none [oN,oN,oc (I a2),oN,oN,oN,oN,oc (.bool a5),oN,oF] [(1,sI ty1),(5,.ra 2 0),(16,.bool (!a5))] [(2,K1w v2)] (cq (Kfx _ _ a3) K5k (ar 3 a4 (cq (Kfo _ _ a6) K5f (ar 2 a4 tv)))) ?_
  obtain rfl := os h
  exact Qcz.mk
 clear a1
 refine ic h (fun a7 h => ?_) fun a7 h => ?_
 ·refine rs0 hc 1 [(6,I (-1))] [] ?_
  refine rt ?_
  obtain rfl := os h
  exact rq [true]
 refine sk ?_
 obtain ⟨a8,a9,h⟩ := Qdd h
 refine rs hc none [oN,oN,oc (I a8),oN] [(6,I a8)] [] (cq (Kg0 _ _ a9) K5l tv) ?_
 refine rt ?_
 obtain rfl := os h
 exact rq [true]
def Kg4 (p : (List Int) × K00) : Option (Bool) :=
 match p with
 | (ty0,cap0) =>
  (Kct (cap0,ty0)) >>= fun a0 =>
  some (!a0)
def Kg5 (p : (List Int) × K00) (r : Bool) : Prop :=
 match p with
 | (ty0,cap0) => Q71 Tryz.prog 217 [sI ty0,.ptr [I cap0.fSize,sI cap0.fPlus,sI cap0.fTimes,sB cap0.fBelow] 0] (.bool r) []
theorem Kg6 : ∀ p r,Kg4 p = some r → Kg5 p r := by
 rintro ⟨ty0,cap0⟩ r h
 unfold Kg4 at h
 refine b0 Tryz.f217 K5n 8 [(0,sI ty0),(1,.ptr [I cap0.fSize,sI cap0.fPlus,sI cap0.fTimes,sB cap0.fBelow] 0)] fun c hc => ?_
 refine rs0 hc 1 [(0,sI ty0),(1,.ptr [I cap0.fSize,sI cap0.fPlus,sI cap0.fTimes,sB cap0.fBelow] 0)] [] ?_
 obtain ⟨a0,a1,h⟩ := Qdd h
 refine rs hc none [oN,oN,oc (.bool a0),oN,oN] [(3,.bool (!a0))] [] (cq (Kcv _ _ a1) K4q tv) ?_
 refine rt ?_
 obtain rfl := os h
 exact rq [true]
def Kg7 (c : Ctx) : (Unit) ⊕ (Int) → Exit → Q0a → Prop
 | .inl _ => Qcz c (.exit 0) (mkS [] [])
 | .inr r => Qd8 TIx Tryz.f241 [] (I r)
def Kg8 (p : LL × K00 × Int) : Option ((Unit) ⊕ (Int)) :=
 match p with
 | (s0,clo1_0,a0) =>
  if (decide (a0 < (s0.length : Int))) = true then
  (idx s0 a0) >>= fun a1 =>
  (Kg4 (a1,clo1_0)) >>= fun a2 =>
  if a2 = true then
  some (.inr a0)
  else
  Kg8 (s0,clo1_0,(wr (a0 + 1)))
  else
  some (.inl ())
 partial_fixpoint
def Kg9 (p : LL × K00 × Int) (fl : (Unit) ⊕ (Int)) : Prop :=
 match p with
 | (s0,clo1_0,a0) => ∀ c : Ctx,c.nt = 19 → WpL Tryz.prog c (cl (cl (cr (cl (cr K5p))))) (Kg7 c fl) (mkS [(0,sL s0),(1,.fn 217 [.ptr [I clo1_0.fSize,sI clo1_0.fPlus,sI clo1_0.fTimes,sB clo1_0.fBelow] 0]),(7,I (s0.length : Int)),(8,I a0)] [])
theorem Kga : ∀ p r,Kg8 p = some r → Kg9 p r := by
 refine Kg8.partial_correctness Kg9 ?_
 rintro slices_IndexFunc_Lint_Kimpl_isContext_c1_l0_f slices_IndexFunc_Lint_Kimpl_isContext_c1_l0_ih ⟨s0,clo1_0,a0⟩ r h
 intro c hc
 refine WpL.step ?_
 refine rs0 hc 1 [(0,sL s0),(1,.fn 217 [.ptr [I clo1_0.fSize,sI clo1_0.fPlus,sI clo1_0.fTimes,sB clo1_0.fBelow] 0]),(7,I (s0.length : Int)),(8,I a0),(9,.bool (decide (a0 < (s0.length : Int))))] [] ?_
 refine sN ?_
 refine ic h (fun a1 h => ?_) fun a1 h => ?_
 ·refine sk ?_
  refine sN ?_
  refine bk 1 ?_
  refine rs0 hc 2 [(0,sL s0),(1,.fn 217 [.ptr [I clo1_0.fSize,sI clo1_0.fPlus,sI clo1_0.fTimes,sB clo1_0.fBelow] 0]),(5,I a0),(7,I (s0.length : Int)),(8,I a0)] [] ?_
  obtain ⟨a2,a3,a4,a5,h⟩ := bq2 h
  refine rs hc none [oN,oN,oN,some (.el (sI a2)),oN,oc (.bool a4)] [(0,sL s0),(1,.fn 217 [.ptr [I clo1_0.fSize,sI clo1_0.fPlus,sI clo1_0.fTimes,sB clo1_0.fBelow] 0]),(5,I a0),(7,I (s0.length : Int)),(8,I a0),(16,.bool a4)] [] (ai (xL a3) (cq (Kg6 _ _ a5) K5o tv)) ?_
  refine ic h (fun a6 h => ?_) fun a6 h => ?_
  ·refine rs0 hc 2 [(4,I a0)] [] ?_
   refine rt ?_
   obtain rfl := os h
   exact re [true]
  refine sk ?_
  refine rg0 hc 2 [(0,sL s0),(1,.fn 217 [.ptr [I clo1_0.fSize,sI clo1_0.fPlus,sI clo1_0.fTimes,sB clo1_0.fBelow] 0]),(7,I (s0.length : Int)),(8,I (wr (a0 + 1)))] [] ?_
  refine Qcv ?_
  exact (slices_IndexFunc_Lint_Kimpl_isContext_c1_l0_ih _ _ h c hc)
 refine xt 0 ?_
 refine Qcp ?_
 refine Qcw ?_
 obtain rfl := os h
 exact iv []
def Kgb (p : LL × K00) : Option (Int) :=
 match p with
 | (s0,clo1_0) =>
  (Kg8 (s0,clo1_0,0)) >>= fun fl => match fl with
  | .inl () =>
   some (-1)
  | .inr r =>
   some r
def Kgc (p : LL × K00) (r : Int) : Prop :=
 match p with
 | (s0,clo1_0) => Q71 Tryz.prog 241 [sL s0,.fn 217 [.ptr [I clo1_0.fSize,sI clo1_0.fPlus,sI clo1_0.fTimes,sB clo1_0.fBelow] 0]] (I r) []
theorem Kgd : ∀ p r,Kgb p = some r → Kgc p r := by
 rintro ⟨s0,clo1_0⟩ r h
 unfold Kgb at h
 refine b0 Tryz.f241 K5p 19 [(0,sL s0),(1,.fn 217 [.ptr [I clo1_0.fSize,sI clo1_0.fPlus,sI clo1_0.fTimes,sB clo1_0.fBelow] 0])] fun c hc => ?_
 refine rs0 hc 1 [(0,sL s0),(1,.fn 217 [.ptr [I clo1_0.fSize,sI clo1_0.fPlus,sI clo1_0.fTimes,sB clo1_0.fBelow] 0])] [] ?_
 refine sN ?_
 refine rs hc none [oN,some (.eqv (.no) ⟨[(7,I (s0.length : Int))],[],[]⟩),oN] [(0,sL s0),(1,.fn 217 [.ptr [I clo1_0.fSize,sI clo1_0.fPlus,sI clo1_0.fTimes,sB clo1_0.fBelow] 0]),(7,I (s0.length : Int)),(8,I 0)] [] (ai (Qdj (d := 7) K11 s0) tv) ?_
 refine bk 0 ?_
 obtain ⟨fl,a0,h⟩ := Qdd h
 have hL := Kga _ _ a0 c hc
 refine lp ?_
 rcases fl with ⟨⟩ | r
 ·refine WpL.into (e := (.exit 0)) (mkS [] []) hL ?_
  refine Qcr ?_
  refine rs0 hc 1 [(4,I (-1))] [] ?_
  refine rt ?_
  obtain rfl := os h
  exact rq [true]
 refine WpL.mono hL ?_
 rintro _ _ ⟨rfl,hfin⟩
 obtain rfl := os h
 exact ⟨.inl rfl,hfin⟩
def Kge (p : LL × K00) : Option (Bool) :=
 match p with
 | (s0,clo1_0) =>
  (Kgb (s0,clo1_0)) >>= fun a0 =>
  some (decide (a0 ≥ 0))
def Kgf (p : LL × K00) (r : Bool) : Prop :=
 match p with
 | (s0,clo1_0) => Q71 Tryz.prog 216 [sL s0,.fn 217 [.ptr [I clo1_0.fSize,sI clo1_0.fPlus,sI clo1_0.fTimes,sB clo1_0.fBelow] 0]] (.bool r) []
theorem Kgg : ∀ p r,Kge p = some r → Kgf p r := by
 rintro ⟨s0,clo1_0⟩ r h
 unfold Kge at h
 refine b0 Tryz.f216 K5r 9 [(0,sL s0),(1,.fn 217 [.ptr [I clo1_0.fSize,sI clo1_0.fPlus,sI clo1_0.fTimes,sB clo1_0.fBelow] 0])] fun c hc => ?_
 refine rs0 hc 1 [(0,sL s0),(1,.fn 217 [.ptr [I clo1_0.fSize,sI clo1_0.fPlus,sI clo1_0.fTimes,sB clo1_0.fBelow] 0])] [] ?_
 obtain ⟨a0,a1,h⟩ := Qdd h
 refine rs hc none [oN,oN,oc (I a0),oN,oN] [(4,.bool (decide (a0 ≥ 0)))] [] (cq (Kgd _ _ a1) K5q tv) ?_
 refine rt ?_
 obtain rfl := os h
 exact rq [true]
def Kgh (p : K00 × LL) : Option (Bool) :=
 match p with
 | (s0,ctx1) =>
  ((
  if (decide ((ctx1.length : Int) ≤ 8)) = true then
  (Kge (ctx1,s0)) >>= fun a0 =>
  some ((!a0))
  else
  some (false)
  ) : Option (Bool)) >>= fun a1 =>
  some a1
def Kgi (p : K00 × LL) (r : Bool) : Prop :=
 match p with
 | (s0,ctx1) => Q71 Tryz.prog 171 [K1t s0,sL ctx1] (.bool r) []
theorem Kgj : ∀ p r,Kgh p = some r → Kgi p r := by
 rintro ⟨s0,ctx1⟩ r h
 unfold Kgh at h
 refine b0 Tryz.f171 K5t 14 [(0,K1t s0),(1,sL ctx1)] fun c hc => ?_
 refine rs hc none [some (.new 1),oN] [(1,sL ctx1),(2,.ra 1 0)] [(1,K1s s0)] tv ?_
 refine sN ?_
 obtain ⟨a0,a1,h⟩ := Qdd h
 refine Wp.into (x := .normal) (mkS [(4,.bool a0)] []) ?_ ?_
 ·replace h := a1
  rcases is h with ⟨a2,h⟩ | ⟨a2,h⟩
  ·obtain ⟨a3,a4,h⟩ := Qdd h
   refine rg hc none [oN,some (.eqv (.no) ⟨[(6,I (ctx1.length : Int))],[],[]⟩),oN,oN,oN,oN,oc (.bool a3),oN,oT,oN] [(4,.bool (!a3))] [] (ai (Qdj (d := 6) K11 ctx1) (ar 3 a2 (ac (Kgg _ _ a4) K5s (Or.inr rfl : ([1] : List Nat) = [] ∨ noSh (.bool a3) = true) (ar 2 a2 tv)))) ?_
   obtain rfl := os h
   exact Qcz.mk
  refine rg hc none [oN,some (.eqv (.no) ⟨[(6,I (ctx1.length : Int))],[],[]⟩),oN,oN,o_,o_,o_,o_,oF,oN] [(4,.bool false)] [] (ai (Qdj (d := 6) K11 ctx1) (ar 4 (neT a2) (ai a2 tv))) ?_
  obtain rfl := os h
  exact Qcz.mk
 clear a1
 refine rt ?_
 obtain rfl := os h
 exact rq [true]
def Kgk (op0 : Int) : Option (K04 × Bool) :=
 (Kca (op0,0,12)) >>= fun a0 =>
 if a0 = true then
 (idx [(K04.mk (ByteArray.mk #[120]) 0 false false),(K04.mk ByteArray.empty 0 false false),(K04.mk (ByteArray.mk #[97,100,100]) 2 false false),(K04.mk (ByteArray.mk #[105,102]) 3 false false),(K04.mk (ByteArray.mk #[112,97,105,114]) 2 false false),(K04.mk (ByteArray.mk #[115,112,108,105,116]) 2 true false),(K04.mk (ByteArray.mk #[108,101,102,116]) 1 false true),(K04.mk (ByteArray.mk #[114,105,103,104,116]) 1 false true),(K04.mk (ByteArray.mk #[99,97,115,101]) 3 true false),(K04.mk (ByteArray.mk #[102,117,110]) 1 true true),(K04.mk (ByteArray.mk #[97,112,112]) 2 false false),(K04.mk (ByteArray.mk #[98,111,120]) 1 true false),(K04.mk (ByteArray.mk #[111,112,101,110]) 2 true false)] op0) >>= fun a1 =>
 some (a1,true)
 else
 some ((K04.mk ByteArray.empty 0 false false),false)
def Kgl (op0 : Int) (r : K04 × Bool) : Prop :=
 Q71 Tryz.prog 188 [I op0] (.tup [.agg [.str r.1.fword,I r.1.fkids,.bool r.1.fgrade,.bool r.1.ftyped],.bool r.2]) []
theorem Kgm : ∀ p r,Kgk p = some r → Kgl p r := by
 rintro op0 r h
 unfold Kgk at h
 refine b0 Tryz.f188 K5v 25 [(0,I op0)] fun c hc => ?_
 refine rs hc none [some (.new 1),oN] [(0,I op0),(2,.ra 1 0)] [(1,.box [.str ByteArray.empty,I 0,.bool false,.bool false])] tv ?_
 refine sN ?_
 obtain ⟨a0,a1,h⟩ := Qdd h
 refine rss hc none [oN,oc (.bool a0),oN] [(0,I op0),(2,.ra 1 0),(6,.bool (!a0))] (cq (Kcc _ _ a1) K4h tv) ?_
 rcases is h with ⟨a2,h⟩ | ⟨a2,h⟩
 ·refine cF (!a0) (nF a2) ?_
  refine sk ?_
  obtain ⟨a3,a4,h⟩ := Qdd h
  refine rs hc none [oN,oN,oN,oN,oN,oN,oN,oN,oN,oN,oN,oN,oN,some (.mk 2 true),oN,oN,some (.el (.agg [.str a3.fword,I a3.fkids,.bool a3.fgrade,.bool a3.ftyped])),oN,oN] [(2,.ra 1 0),(3,.bool true)] [(1,.box [.str a3.fword,I a3.fkids,.bool a3.fgrade,.bool a3.ftyped])] (ab (Qdi (enc := K0u) a4) (Qdh (enc := K0u) (x := .agg [.str a3.fword,I a3.fkids,.bool a3.fgrade,.bool a3.ftyped]) a4 (K1i a3)).2 tv) ?_
  refine rt ?_
  obtain rfl := os h
  exact rq [true,true]
 refine cT (!a0) (nT a2) ?_
 refine K7k hc 3 [(2,.ra 1 0),(3,.bool false)] ?_
 refine rt ?_
 obtain rfl := os h
 exact rq [true,true]
def Kgn (p : (List Int) × K00) : Option (Bool) :=
 match p with
 | (ty0,cap0) =>
  (Kct (cap0,ty0)) >>= fun a0 =>
  some a0
def Kgo (p : (List Int) × K00) (r : Bool) : Prop :=
 match p with
 | (ty0,cap0) => Q71 Tryz.prog 218 [sI ty0,.ptr [I cap0.fSize,sI cap0.fPlus,sI cap0.fTimes,sB cap0.fBelow] 0] (.bool r) []
theorem Kgp : ∀ p r,Kgn p = some r → Kgo p r := by
 rintro ⟨ty0,cap0⟩ r h
 unfold Kgn at h
 refine b0 Tryz.f218 K5x 7 [(0,sI ty0),(1,.ptr [I cap0.fSize,sI cap0.fPlus,sI cap0.fTimes,sB cap0.fBelow] 0)] fun c hc => ?_
 refine rs0 hc 1 [(0,sI ty0),(1,.ptr [I cap0.fSize,sI cap0.fPlus,sI cap0.fTimes,sB cap0.fBelow] 0)] [] ?_
 obtain ⟨a0,a1,h⟩ := Qdd h
 refine rs hc none [oN,oN,oc (.bool a0),oN] [(3,.bool a0)] [] (cq (Kcv _ _ a1) K4q tv) ?_
 refine rt ?_
 obtain rfl := os h
 exact rq [true]
def Kgq (p : Int × Int) : Option (Int) :=
 match p with
 | (op0,kid1) =>
  ((
  if (op0 == 5) = true then
  some ((kid1 == 1))
  else
  some (false)
  ) : Option (Bool)) >>= fun a0 =>
  if a0 = true then
  some 2
  else
  ((
  if (op0 == 8) = true then
  some ((decide (kid1 > 0)))
  else
  some (false)
  ) : Option (Bool)) >>= fun a1 =>
  ((
  if a1 = true then
  some (a1)
  else
  ((
  if (op0 == 9) = true then
  some ((op0 == 9))
  else
  ((
  if (op0 == 12) = true then
  some ((kid1 == 1))
  else
  some (false)
  ) : Option (Bool)) >>= fun a2 =>
  some (a2)
  ) : Option (Bool)) >>= fun a3 =>
  some (a3)
  ) : Option (Bool)) >>= fun a4 =>
  if a4 = true then
  some 1
  else
  some 0
def Kgr (p : Int × Int) (r : Int) : Prop :=
 match p with
 | (op0,kid1) => Q71 Tryz.prog 199 [I op0,I kid1] (I r) []
theorem Kgs : ∀ p r,Kgq p = some r → Kgr p r := by
 rintro ⟨op0,kid1⟩ r h
 unfold Kgq at h
 refine b0 Tryz.f199 K5z 27 [(0,I op0),(1,I kid1)] fun c hc => ?_
 refine rs0 hc 1 [(0,I op0),(1,I kid1)] [] ?_
 refine sN ?_
 refine bk 0 ?_
 refine sN ?_
 obtain ⟨a0,a1,h⟩ := Qdd h
 refine Wp.into (x := .normal) (mkS [(0,I op0),(1,I kid1),(5,.bool a0)] []) ?_ ?_
 ·replace h := a1
  rcases is h with ⟨a2,h⟩ | ⟨a2,h⟩
  ·refine rg hc none [oN,oN,oN,oN,oN,oT,oN] [(0,I op0),(1,I kid1),(5,.bool (kid1 == 1))] [] (ar 3 a2 tv) ?_
   obtain rfl := os h
   exact Qcz.mk
  refine rg hc none [oN,oN,oN,o_,o_,oF,oN] [(0,I op0),(1,I kid1),(5,.bool false)] [] (ar 2 (neT a2) (ai a2 tv)) ?_
  obtain rfl := os h
  exact Qcz.mk
 clear a1
 refine ic h (fun a3 h => ?_) fun a3 h => ?_
 ·refine rs0 hc 1 [(4,I 2)] [] ?_
  refine rt ?_
  obtain rfl := os h
  exact rq [true]
 refine sN ?_
 refine sN ?_
 obtain ⟨a4,a5,h⟩ := Qdd h
 refine Wp.into (x := .normal) (mkS [(0,I op0),(1,I kid1),(12,.bool a4)] []) ?_ ?_
 ·replace h := a5
  rcases is h with ⟨a6,h⟩ | ⟨a6,h⟩
  ·refine rg hc none [oN,oN,oN,oN,oN,oT,oN] [(0,I op0),(1,I kid1),(12,.bool (decide (kid1 > 0)))] [] (ar 3 a6 tv) ?_
   obtain rfl := os h
   exact Qcz.mk
  refine rg hc none [oN,oN,oN,o_,o_,oF,oN] [(0,I op0),(1,I kid1),(12,.bool false)] [] (ar 2 (neT a6) (ai a6 tv)) ?_
  obtain rfl := os h
  exact Qcz.mk
 clear a5
 obtain ⟨a7,a8,h⟩ := Qdd h
 refine Wp.into (x := .normal) (mkS [(12,.bool a7)] []) ?_ ?_
 ·replace h := a8
  refine ic h (fun a9 h => ?_) fun a9 h => ?_
  ·refine sk ?_
   obtain rfl := os h
   exact iv []
  refine rs0 hc 3 [(0,I op0),(1,I kid1),(12,.bool (op0 == 9))] [] ?_
  obtain ⟨b1,b2,h⟩ := Qdd h
  refine Wp.into (x := .normal) (mkS [(12,.bool b1)] []) ?_ ?_
  ·replace h := b2
   refine ic h (fun b3 h => ?_) fun b3 h => ?_
   ·refine sk ?_
    obtain rfl := os h
    exact iv []
   obtain ⟨b4,b5,h⟩ := Qdd h
   refine Wp.into (x := .normal) (mkS [(12,.bool b4)] []) ?_ ?_
   ·replace h := b5
    rcases is h with ⟨b6,h⟩ | ⟨b6,h⟩
    ·refine rg hc none [oN,oN,oN,oN,oN,oT,oN] [(12,.bool (kid1 == 1))] [] (ar 3 b6 tv) ?_
     obtain rfl := os h
     exact Qcz.mk
    refine rg hc none [oN,oN,oN,o_,o_,oF,oN] [(12,.bool false)] [] (ar 2 (neT b6) (ai b6 tv)) ?_
    obtain rfl := os h
    exact Qcz.mk
   clear b5
   obtain rfl := os h
   exact Qcz.mk
  clear b2
  obtain rfl := os h
  exact Qcz.mk
 clear a8
 refine ic h (fun b7 h => ?_) fun b7 h => ?_
 ·refine rs0 hc 1 [(4,I 1)] [] ?_
  refine rt ?_
  obtain rfl := os h
  exact rq [true]
 refine sk ?_
 refine rs0 hc 1 [(4,I 0)] [] ?_
 refine rt ?_
 obtain rfl := os h
 exact rq [true]
def Kgt (c : Ctx) : (Int) ⊕ (Int) → Exit → Q0a → Prop
 | .inl a0 => Qcz c (.exit 1) (mkS [(4,I a0)] [])
 | .inr r => Qd8 TIx Tryz.f134 [] (I r)
mutual
def Kgu (p : K02 × Int × K00 × K00 × Int) : Option (Int) :=
 match p with
 | (t0,n1,clo2_0,clo3_0,nodes4) =>
  (Kgk t0.fOp) >>= fun (a0,a1) =>
  ((
  if a1 = true then
  if (decide ((wr (nodes4 + 1)) > 400)) = true then
   some (true)
  else
   some (((t0.fKids.length : Int) != a0.fkids))
  else
  some (true)
  ) : Option (Bool)) >>= fun a2 =>
  if a2 = true then
  some 401
  else
  ((
  if (t0.fOp == 0) = true then
   (Kca (t0.fN,0,(wr (n1 - 1)))) >>= fun a3 =>
   some (a3)
  else
   ((
   if (t0.fOp == 1) = true then
   (Kca (t0.fN,0,2)) >>= fun a4 =>
   some (a4)
   else
   ((
   if a0.fgrade = true then
   (Kcm (clo2_0,t0.fN)) >>= fun a5 =>
   some (a5)
   else
   some ((t0.fN == 0))
   ) : Option (Bool)) >>= fun a6 =>
   some (a6)
   ) : Option (Bool)) >>= fun a7 =>
   some (a7)
  ) : Option (Bool)) >>= fun a8 =>
  ((
  if a0.ftyped = true then
   ((
   if a8 = true then
   (Kgn (t0.fType,clo3_0)) >>= fun a9 =>
   some (a9)
   else
   some (false)
   ) : Option (Bool)) >>= fun b1 =>
   some (b1)
  else
   ((
   if a8 = true then
   some (((t0.fType.length : Int) == 0))
   else
   some (false)
   ) : Option (Bool)) >>= fun b2 =>
   some (b2)
  ) : Option (Bool)) >>= fun b3 =>
  if b3 = true then
  (Kgv (t0,n1,clo2_0,clo3_0,(wr (nodes4 + 1)),0)) >>= fun fl => match fl with
  | .inl b4 =>
   some b4
  | .inr r =>
   some r
  else
  some 401
 partial_fixpoint
def Kgv (p : K02 × Int × K00 × K00 × Int × Int) : Option ((Int) ⊕ (Int)) :=
 match p with
 | (t0,n1,clo2_0,clo3_0,a0,a1) =>
  if (decide (a1 < (t0.fKids.length : Int))) = true then
  (idx t0.fKids a1) >>= fun a2 =>
  (Kgq (t0.fOp,a1)) >>= fun a3 =>
  (Kgu (a2,(wr (n1 + a3)),clo2_0,clo3_0,a0)) >>= fun a4 =>
  if (decide (a4 > 400)) = true then
  some (.inr 401)
  else
  Kgv (t0,n1,clo2_0,clo3_0,a4,(wr (a1 + 1)))
  else
  some (.inl a0)
 partial_fixpoint
end
def Kgw (p : K02 × Int × K00 × K00 × Int) (r : Int) : Prop :=
 match p with
 | (t0,n1,clo2_0,clo3_0,nodes4) => Q71 Tryz.prog 134 [K1x t0,I n1,.fnb 145 [K1t clo2_0],.fn 218 [.ptr [I clo3_0.fSize,sI clo3_0.fPlus,sI clo3_0.fTimes,sB clo3_0.fBelow] 0],I nodes4] (I r) []
def Kgx (p : K02 × Int × K00 × K00 × Int × Int) (fl : (Int) ⊕ (Int)) : Prop :=
 match p with
 | (t0,n1,clo2_0,clo3_0,a0,a1) => ∀ c : Ctx,c.nt = 104 → WpL Tryz.prog c (cl (cl (cr (cl (cr (cr (cr (cr (cr (cr (cr K61))))))))))) (Kgt c fl) (mkS [(1,I n1),(2,.fnb 145 [K1t clo2_0]),(3,.fn 218 [.ptr [I clo3_0.fSize,sI clo3_0.fPlus,sI clo3_0.fTimes,sB clo3_0.fBelow] 0]),(4,I a0),(5,.ra 1 0),(82,.sl (List.map K0i t0.fKids)),(83,I (t0.fKids.length : Int)),(84,I a1)] [(1,K1w t0)])
theorem Kgy : (∀ p r,Kgu p = some r → Kgw p r) ∧ (∀ p r,Kgv p = some r → Kgx p r) := by
 refine Kgu.mutual_partial_correctness Kgw Kgx ?_ ?_
 ·rintro impl_check_Kimpl_Systemhas_Kimpl_isTermOf_c1_l0_f impl_check_Kimpl_Systemhas_Kimpl_isTermOf_c1_l0_ih ⟨t0,n1,clo2_0,clo3_0,nodes4⟩ r h
  refine b0 Tryz.f134 K61 104 [(0,K1x t0),(1,I n1),(2,.fnb 145 [K1t clo2_0]),(3,.fn 218 [.ptr [I clo3_0.fSize,sI clo3_0.fPlus,sI clo3_0.fTimes,sB clo3_0.fBelow] 0]),(4,I nodes4)] fun c hc => ?_
  refine rs hc none [some (.new 1),oN] [(1,I n1),(2,.fnb 145 [K1t clo2_0]),(3,.fn 218 [.ptr [I clo3_0.fSize,sI clo3_0.fPlus,sI clo3_0.fTimes,sB clo3_0.fBelow] 0]),(4,I nodes4),(5,.ra 1 0)] [(1,K1w t0)] tv ?_
  refine K7k hc 3 [(1,I n1),(2,.fnb 145 [K1t clo2_0]),(3,.fn 218 [.ptr [I clo3_0.fSize,sI clo3_0.fPlus,sI clo3_0.fTimes,sB clo3_0.fBelow] 0]),(4,I (wr (nodes4 + 1))),(5,.ra 1 0)] ?_
  obtain ⟨⟨a0,a1⟩,a2,h⟩ := Qdd h
  refine rs hc none [oN,oN,oc (.tup [.agg [.str a0.fword,I a0.fkids,.bool a0.fgrade,.bool a0.ftyped],.bool a1]),oN,oN,oN,some (.new 2),oN,oN] [(1,I n1),(2,.fnb 145 [K1t clo2_0]),(3,.fn 218 [.ptr [I clo3_0.fSize,sI clo3_0.fPlus,sI clo3_0.fTimes,sB clo3_0.fBelow] 0]),(4,I (wr (nodes4 + 1))),(5,.ra 1 0),(11,.ra 2 0),(12,.bool a1)] [(1,K1w t0),(2,.box [.str a0.fword,I a0.fkids,.bool a0.fgrade,.bool a0.ftyped])] (cq (Kgm _ _ a2) K5w tv) ?_
  refine sN ?_
  refine sN ?_
  obtain ⟨a3,a4,h⟩ := Qdd h
  refine Wp.into (x := .normal) (mkS [(1,I n1),(2,.fnb 145 [K1t clo2_0]),(3,.fn 218 [.ptr [I clo3_0.fSize,sI clo3_0.fPlus,sI clo3_0.fTimes,sB clo3_0.fBelow] 0]),(4,I (wr (nodes4 + 1))),(5,.ra 1 0),(11,.ra 2 0),(36,.bool a3)] [(1,K1w t0),(2,.box [.str a0.fword,I a0.fkids,.bool a0.fgrade,.bool a0.ftyped])]) ?_ ?_
  ·replace h := a4
   rcases is h with ⟨a5,h⟩ | ⟨a5,h⟩
   ·rcases is h with ⟨a6,h⟩ | ⟨a6,h⟩
    ·refine rgs hc none [oN,oN,oN,oN,oN,oF,oN,o_,o_,o_,o_,o_,o_,oT] [(1,I n1),(2,.fnb 145 [K1t clo2_0]),(3,.fn 218 [.ptr [I clo3_0.fSize,sI clo3_0.fPlus,sI clo3_0.fTimes,sB clo3_0.fBelow] 0]),(4,I (wr (nodes4 + 1))),(5,.ra 1 0),(11,.ra 2 0),(36,.bool true)] (ar 3 (nF a5) (ar 6 (neF a6) (ai a6 tv))) ?_
     obtain rfl := os h
     exact Qcz.mk
    refine rgs hc none [oN,oN,oN,oN,oN,oF,oN,oN,oN,some (.eqv (.no) ⟨[(32,I (t0.fKids.length : Int))],[],[]⟩),oN,oN,oN,oF] [(1,I n1),(2,.fnb 145 [K1t clo2_0]),(3,.fn 218 [.ptr [I clo3_0.fSize,sI clo3_0.fPlus,sI clo3_0.fTimes,sB clo3_0.fBelow] 0]),(4,I (wr (nodes4 + 1))),(5,.ra 1 0),(11,.ra 2 0),(36,.bool ((t0.fKids.length : Int) != a0.fkids))] (ar 3 (nF a5) (ar 3 a6 (ai (Qdj (d := 32) K0i t0.fKids) (ar 4 a6 tv)))) ?_
    obtain rfl := os h
    exact Qcz.mk
   refine rgs hc none [oN,oN,oN,o_,o_,oT,oN,o_,o_,o_,o_,o_,o_,oT] [(1,I n1),(2,.fnb 145 [K1t clo2_0]),(3,.fn 218 [.ptr [I clo3_0.fSize,sI clo3_0.fPlus,sI clo3_0.fTimes,sB clo3_0.fBelow] 0]),(4,I (wr (nodes4 + 1))),(5,.ra 1 0),(11,.ra 2 0),(36,.bool true)] (ar 2 (neF (nT a5)) (ai (nT a5) (ar 6 nf (ai tt tv)))) ?_
   obtain rfl := os h
   exact Qcz.mk
  clear a4
  refine ic h (fun a7 h => ?_) fun a7 h => ?_
  ·refine rs0 hc 1 [(10,I 401)] [] ?_
   refine rt ?_
   obtain rfl := os h
   exact rq [true]
  refine sk ?_
  refine sN ?_
  refine bk 0 ?_
  refine K7k hc 4 [(1,I n1),(2,.fnb 145 [K1t clo2_0]),(3,.fn 218 [.ptr [I clo3_0.fSize,sI clo3_0.fPlus,sI clo3_0.fTimes,sB clo3_0.fBelow] 0]),(4,I (wr (nodes4 + 1))),(5,.ra 1 0),(11,.ra 2 0),(40,.bool (t0.fOp == 0))] ?_
  obtain ⟨a8,a9,h⟩ := Qdd h
  refine Wp.into (x := .normal) (mkS [(1,I n1),(2,.fnb 145 [K1t clo2_0]),(3,.fn 218 [.ptr [I clo3_0.fSize,sI clo3_0.fPlus,sI clo3_0.fTimes,sB clo3_0.fBelow] 0]),(4,I (wr (nodes4 + 1))),(5,.ra 1 0),(11,.ra 2 0),(12,.bool a8)] [(1,K1w t0),(2,.box [.str a0.fword,I a0.fkids,.bool a0.fgrade,.bool a0.ftyped])]) ?_ ?_
  ·replace h := a9
   refine ic h (fun b1 h => ?_) fun b1 h => ?_
   ·obtain ⟨b2,b3,h⟩ := Qdd h
    refine rgs hc none [oN,oN,oN,oN,oc (.bool b2),oN] [(1,I n1),(2,.fnb 145 [K1t clo2_0]),(3,.fn 218 [.ptr [I clo3_0.fSize,sI clo3_0.fPlus,sI clo3_0.fTimes,sB clo3_0.fBelow] 0]),(4,I (wr (nodes4 + 1))),(5,.ra 1 0),(11,.ra 2 0),(12,.bool b2)] (cq (Kcc _ _ b3) K4h tv) ?_
    obtain rfl := os h
    exact Qcz.mk
   refine K7k hc 4 [(1,I n1),(2,.fnb 145 [K1t clo2_0]),(3,.fn 218 [.ptr [I clo3_0.fSize,sI clo3_0.fPlus,sI clo3_0.fTimes,sB clo3_0.fBelow] 0]),(4,I (wr (nodes4 + 1))),(5,.ra 1 0),(11,.ra 2 0),(49,.bool (t0.fOp == 1))] ?_
   obtain ⟨b4,b5,h⟩ := Qdd h
   refine Wp.into (x := .normal) (mkS [(1,I n1),(2,.fnb 145 [K1t clo2_0]),(3,.fn 218 [.ptr [I clo3_0.fSize,sI clo3_0.fPlus,sI clo3_0.fTimes,sB clo3_0.fBelow] 0]),(4,I (wr (nodes4 + 1))),(5,.ra 1 0),(11,.ra 2 0),(12,.bool b4)] [(1,K1w t0),(2,.box [.str a0.fword,I a0.fkids,.bool a0.fgrade,.bool a0.ftyped])]) ?_ ?_
   ·replace h := b5
    refine ic h (fun b6 h => ?_) fun b6 h => ?_
    ·obtain ⟨b7,b8,h⟩ := Qdd h
     refine rgs hc none [oN,oN,oc (.bool b7),oN] [(1,I n1),(2,.fnb 145 [K1t clo2_0]),(3,.fn 218 [.ptr [I clo3_0.fSize,sI clo3_0.fPlus,sI clo3_0.fTimes,sB clo3_0.fBelow] 0]),(4,I (wr (nodes4 + 1))),(5,.ra 1 0),(11,.ra 2 0),(12,.bool b7)] (cq (Kcc _ _ b8) K4h tv) ?_
     obtain rfl := os h
     exact Qcz.mk
    refine K7k hc 3 [(1,I n1),(2,.fnb 145 [K1t clo2_0]),(3,.fn 218 [.ptr [I clo3_0.fSize,sI clo3_0.fPlus,sI clo3_0.fTimes,sB clo3_0.fBelow] 0]),(4,I (wr (nodes4 + 1))),(5,.ra 1 0),(11,.ra 2 0),(56,.bool a0.fgrade)] ?_
    obtain ⟨b9,c0,h⟩ := Qdd h
    refine Wp.into (x := .normal) (mkS [(1,I n1),(2,.fnb 145 [K1t clo2_0]),(3,.fn 218 [.ptr [I clo3_0.fSize,sI clo3_0.fPlus,sI clo3_0.fTimes,sB clo3_0.fBelow] 0]),(4,I (wr (nodes4 + 1))),(5,.ra 1 0),(11,.ra 2 0),(12,.bool b9)] [(1,K1w t0),(2,.box [.str a0.fword,I a0.fkids,.bool a0.fgrade,.bool a0.ftyped])]) ?_ ?_
    ·replace h := c0
     refine ic h (fun c1 h => ?_) fun c1 h => ?_
     ·obtain ⟨c2,c3,h⟩ := Qdd h
      refine rgs hc none [oN,oN,oN,oc (.bool c2),oN] [(1,I n1),(2,.fnb 145 [K1t clo2_0]),(3,.fn 218 [.ptr [I clo3_0.fSize,sI clo3_0.fPlus,sI clo3_0.fTimes,sB clo3_0.fBelow] 0]),(4,I (wr (nodes4 + 1))),(5,.ra 1 0),(11,.ra 2 0),(12,.bool c2)] (cq (Kco _ _ c3) K4p tv) ?_
      obtain rfl := os h
      exact Qcz.mk
     refine K7j hc 4 [(1,I n1),(2,.fnb 145 [K1t clo2_0]),(3,.fn 218 [.ptr [I clo3_0.fSize,sI clo3_0.fPlus,sI clo3_0.fTimes,sB clo3_0.fBelow] 0]),(4,I (wr (nodes4 + 1))),(5,.ra 1 0),(11,.ra 2 0),(12,.bool (t0.fN == 0))] ?_
     obtain rfl := os h
     exact Qcz.mk
    clear c0
    obtain rfl := os h
    exact Qcz.mk
   clear b5
   obtain rfl := os h
   exact Qcz.mk
  clear a9
  refine sN ?_
  refine rs0 hc 2 [(1,I n1),(2,.fnb 145 [K1t clo2_0]),(3,.fn 218 [.ptr [I clo3_0.fSize,sI clo3_0.fPlus,sI clo3_0.fTimes,sB clo3_0.fBelow] 0]),(4,I (wr (nodes4 + 1))),(5,.ra 1 0),(12,.bool a8),(64,.bool a0.ftyped)] [(1,K1w t0)] ?_
  obtain ⟨c4,c5,h⟩ := Qdd h
  refine Wp.into (x := .normal) (mkS [(1,I n1),(2,.fnb 145 [K1t clo2_0]),(3,.fn 218 [.ptr [I clo3_0.fSize,sI clo3_0.fPlus,sI clo3_0.fTimes,sB clo3_0.fBelow] 0]),(4,I (wr (nodes4 + 1))),(5,.ra 1 0),(12,.bool c4)] [(1,K1w t0)]) ?_ ?_
  ·replace h := c5
   refine ic h (fun c6 h => ?_) fun c6 h => ?_
   ·obtain ⟨c7,c8,h⟩ := Qdd h
    refine Wp.into (x := .normal) (mkS [(1,I n1),(2,.fnb 145 [K1t clo2_0]),(3,.fn 218 [.ptr [I clo3_0.fSize,sI clo3_0.fPlus,sI clo3_0.fTimes,sB clo3_0.fBelow] 0]),(4,I (wr (nodes4 + 1))),(5,.ra 1 0),(12,.bool c7)] [(1,K1w t0)]) ?_ ?_
    ·replace h := c8
     rcases is h with ⟨c9,h⟩ | ⟨c9,h⟩
     ·obtain ⟨d0,d1,h⟩ := Qdd h
      refine rgs hc none [oN,oN,oN,oN,oN,oc (.bool d0),oT,oN] [(1,I n1),(2,.fnb 145 [K1t clo2_0]),(3,.fn 218 [.ptr [I clo3_0.fSize,sI clo3_0.fPlus,sI clo3_0.fTimes,sB clo3_0.fBelow] 0]),(4,I (wr (nodes4 + 1))),(5,.ra 1 0),(12,.bool d0)] (ar 4 c9 (cq (Kgp _ _ d1) K5y (ai c9 tv))) ?_
      obtain rfl := os h
      exact Qcz.mk
     refine rgs hc none [oN,oN,o_,o_,o_,o_,oF,oN] [(1,I n1),(2,.fnb 145 [K1t clo2_0]),(3,.fn 218 [.ptr [I clo3_0.fSize,sI clo3_0.fPlus,sI clo3_0.fTimes,sB clo3_0.fBelow] 0]),(4,I (wr (nodes4 + 1))),(5,.ra 1 0),(12,.bool false)] (ar 4 (neT c9) (ai c9 tv)) ?_
     obtain rfl := os h
     exact Qcz.mk
    clear c8
    obtain rfl := os h
    exact Qcz.mk
   obtain ⟨d2,d3,h⟩ := Qdd h
   refine Wp.into (x := .normal) (mkS [(1,I n1),(2,.fnb 145 [K1t clo2_0]),(3,.fn 218 [.ptr [I clo3_0.fSize,sI clo3_0.fPlus,sI clo3_0.fTimes,sB clo3_0.fBelow] 0]),(4,I (wr (nodes4 + 1))),(5,.ra 1 0),(12,.bool d2)] [(1,K1w t0)]) ?_ ?_
   ·replace h := d3
    rcases is h with ⟨d4,h⟩ | ⟨d4,h⟩
    ·refine rgs hc none [oN,oN,oN,oN,some (.eqv (.no) ⟨[(76,I (t0.fType.length : Int))],[],[]⟩),oN,oT,oN] [(1,I n1),(2,.fnb 145 [K1t clo2_0]),(3,.fn 218 [.ptr [I clo3_0.fSize,sI clo3_0.fPlus,sI clo3_0.fTimes,sB clo3_0.fBelow] 0]),(4,I (wr (nodes4 + 1))),(5,.ra 1 0),(12,.bool ((t0.fType.length : Int) == 0))] (ar 3 d4 (ai (Qdj (d := 76) I t0.fType) (ar 2 d4 tv))) ?_
     obtain rfl := os h
     exact Qcz.mk
    refine rgs hc none [oN,oN,o_,o_,o_,o_,oF,oN] [(1,I n1),(2,.fnb 145 [K1t clo2_0]),(3,.fn 218 [.ptr [I clo3_0.fSize,sI clo3_0.fPlus,sI clo3_0.fTimes,sB clo3_0.fBelow] 0]),(4,I (wr (nodes4 + 1))),(5,.ra 1 0),(12,.bool false)] (ar 4 (neT d4) (ai d4 tv)) ?_
    obtain rfl := os h
    exact Qcz.mk
   clear d3
   obtain rfl := os h
   exact Qcz.mk
  clear c5
  refine sN ?_
  refine K7k hc 2 [(1,I n1),(2,.fnb 145 [K1t clo2_0]),(3,.fn 218 [.ptr [I clo3_0.fSize,sI clo3_0.fPlus,sI clo3_0.fTimes,sB clo3_0.fBelow] 0]),(4,I (wr (nodes4 + 1))),(5,.ra 1 0),(80,.bool (!c4))] ?_
  rcases is h with ⟨d5,h⟩ | ⟨d5,h⟩
  ·refine cF (!c4) (nF d5) ?_
   refine sk ?_
   refine sN ?_
   refine rss hc none [oN,oN,some (.eqv (.no) ⟨[(83,I (t0.fKids.length : Int))],[],[]⟩),oN] [(1,I n1),(2,.fnb 145 [K1t clo2_0]),(3,.fn 218 [.ptr [I clo3_0.fSize,sI clo3_0.fPlus,sI clo3_0.fTimes,sB clo3_0.fBelow] 0]),(4,I (wr (nodes4 + 1))),(5,.ra 1 0),(82,.sl (List.map K0i t0.fKids)),(83,I (t0.fKids.length : Int)),(84,I 0)] (ai (Qdj (d := 83) K0i t0.fKids) tv) ?_
   refine bk 1 ?_
   obtain ⟨fl,d6,h⟩ := Qdd h
   have hL := impl_check_Kimpl_Systemhas_Kimpl_isTermOf_c1_l0_ih _ _ d6 c hc
   refine lp ?_
   rcases fl with d7 | r
   ·refine WpL.into (e := (.exit 1)) (mkS [(4,I d7)] []) hL ?_
    refine Qcr ?_
    refine rs0 hc 2 [(10,I d7)] [] ?_
    refine rt ?_
    obtain rfl := os h
    exact rq [true]
   refine WpL.mono hL ?_
   rintro _ _ ⟨rfl,hfin⟩
   obtain rfl := os h
   exact ⟨.inl rfl,hfin⟩
  refine cT (!c4) (nT d5) ?_
  refine rs0 hc 1 [(10,I 401)] [] ?_
  refine rt ?_
  obtain rfl := os h
  exact rq [true]
 ·rintro impl_check_Kimpl_Systemhas_Kimpl_isTermOf_c1_f impl_check_Kimpl_Systemhas_Kimpl_isTermOf_c1_l0_f impl_check_Kimpl_Systemhas_Kimpl_isTermOf_c1_ih impl_check_Kimpl_Systemhas_Kimpl_isTermOf_c1_l0_ih ⟨t0,n1,clo2_0,clo3_0,d8,d9⟩ r h
  intro c hc
  refine WpL.step ?_
  refine K7k hc 1 [(1,I n1),(2,.fnb 145 [K1t clo2_0]),(3,.fn 218 [.ptr [I clo3_0.fSize,sI clo3_0.fPlus,sI clo3_0.fTimes,sB clo3_0.fBelow] 0]),(4,I d8),(5,.ra 1 0),(82,.sl (List.map K0i t0.fKids)),(83,I (t0.fKids.length : Int)),(84,I d9),(85,.bool (decide (d9 < (t0.fKids.length : Int))))] ?_
  refine sN ?_
  refine ic h (fun e0 h => ?_) fun e0 h => ?_
  ·refine sk ?_
   refine sN ?_
   refine bk 2 ?_
   obtain ⟨e1,e2,h⟩ := Qdd h
   refine rs hc none [oN,some (.el (K1x e1)),oN,some (.new 4),oN,oN] [(1,I n1),(2,.fnb 145 [K1t clo2_0]),(3,.fn 218 [.ptr [I clo3_0.fSize,sI clo3_0.fPlus,sI clo3_0.fTimes,sB clo3_0.fBelow] 0]),(4,I d8),(5,.ra 1 0),(13,I d9),(14,.ra 4 0),(82,.sl (List.map K0i t0.fKids)),(83,I (t0.fKids.length : Int)),(84,I d9)] [(1,K1w t0),(4,K1w e1)] (ai (Qdh e2 (K0p e1)) tv) ?_
   obtain ⟨e3,e4,e5,e6,h⟩ := bq2 h
   refine rs hc (rx [[0],[0],[0],[0,2],[0],[0,2,3,4],[0,1,2,3,4,5],[0],[0],[0],[10],[11]]) [oN,oN,oN,oN,oN,oc (I e3),oN,oN,oN,oN,oc (I e5),oN] [(1,I n1),(2,.fnb 145 [K1t clo2_0]),(3,.fn 218 [.ptr [I clo3_0.fSize,sI clo3_0.fPlus,sI clo3_0.fTimes,sB clo3_0.fBelow] 0]),(4,I e5),(5,.ra 1 0),(82,.sl (List.map K0i t0.fKids)),(83,I (t0.fKids.length : Int)),(84,I d9)] [(1,K1w t0)] (cq (Kgs _ _ e4) K60 (cq (impl_check_Kimpl_Systemhas_Kimpl_isTermOf_c1_ih _ _ e6) K62 tv)) ?_
   refine K7k hc 2 [(1,I n1),(2,.fnb 145 [K1t clo2_0]),(3,.fn 218 [.ptr [I clo3_0.fSize,sI clo3_0.fPlus,sI clo3_0.fTimes,sB clo3_0.fBelow] 0]),(4,I e5),(5,.ra 1 0),(82,.sl (List.map K0i t0.fKids)),(83,I (t0.fKids.length : Int)),(84,I d9),(101,.bool (decide (e5 > 400)))] ?_
   refine ic h (fun e7 h => ?_) fun e7 h => ?_
   ·refine rs0 hc 1 [(10,I 401)] [] ?_
    refine rt ?_
    obtain rfl := os h
    exact re [true]
   refine sk ?_
   refine K7j hc 2 [(1,I n1),(2,.fnb 145 [K1t clo2_0]),(3,.fn 218 [.ptr [I clo3_0.fSize,sI clo3_0.fPlus,sI clo3_0.fTimes,sB clo3_0.fBelow] 0]),(4,I e5),(5,.ra 1 0),(82,.sl (List.map K0i t0.fKids)),(83,I (t0.fKids.length : Int)),(84,I (wr (d9 + 1)))] ?_
   refine Qcv ?_
   exact (impl_check_Kimpl_Systemhas_Kimpl_isTermOf_c1_l0_ih _ _ h c hc)
  refine xt 1 ?_
  refine Qcp ?_
  refine Qcw ?_
  obtain rfl := os h
  exact iv []
theorem Kgz : ∀ p r,Kgu p = some r → Kgw p r := Kgy.1
theorem Kh0 : ∀ p r,Kgv p = some r → Kgx p r := Kgy.2
def Kh1 (p : K00 × K02 × Int) : Option (Bool) :=
 match p with
 | (s0,t1,n2) =>
  ((
  (Kca (n2,0,8)) >>= fun a0 =>
  if a0 = true then
  (Kgu (t1,n2,s0,s0,0)) >>= fun a1 =>
  some ((decide (a1 ≤ 400)))
  else
  some (false)
  ) : Option (Bool)) >>= fun a2 =>
  some a2
def Kh2 (p : K00 × K02 × Int) (r : Bool) : Prop :=
 match p with
 | (s0,t1,n2) => Q71 Tryz.prog 172 [K1t s0,K1x t1,I n2] (.bool r) []
theorem Kh3 : ∀ p r,Kh1 p = some r → Kh2 p r := by
 rintro ⟨s0,t1,n2⟩ r h
 unfold Kh1 at h
 refine b0 Tryz.f172 K63 18 [(0,K1t s0),(1,K1x t1),(2,I n2)] fun c hc => ?_
 refine rs hc none [some (.new 1),some (.new 2),oN] [(2,I n2),(3,.ra 1 0),(4,.ra 2 0)] [(1,K1s s0),(2,K1w t1)] tv ?_
 refine sN ?_
 obtain ⟨a0,a1,h⟩ := Qdd h
 refine Wp.into (x := .normal) (mkS [(6,.bool a0)] []) ?_ ?_
 ·replace h := a1
  obtain ⟨a2,a3,h⟩ := Qdd h
  rcases is h with ⟨a4,h⟩ | ⟨a4,h⟩
  ·obtain ⟨a5,a6,h⟩ := Qdd h
   refine rg hc none [oN,oc (.bool a2),oN,oN,oN,oN,oN,oN,oc (I a5),oN,oT,oN] [(6,.bool (decide (a5 ≤ 400)))] [] (cq (Kcc _ _ a3) K4h (ar 6 a4 (ac (Kgz _ _ a6) K62 (Or.inr rfl : ([1] : List Nat) = [] ∨ noSh (I a5) = true) (ar 2 a4 tv)))) ?_
   obtain rfl := os h
   exact Qcz.mk
  refine rg hc none [oN,oc (.bool a2),oN,o_,o_,o_,o_,o_,o_,o_,oF,oN] [(6,.bool false)] [] (cq (Kcc _ _ a3) K4h (ar 7 (neT a4) (ai a4 tv))) ?_
  obtain rfl := os h
  exact Qcz.mk
 clear a1
 refine rt ?_
 obtain rfl := os h
 exact rq [true]
def Kh4 (p : K02 × Int × (List Int)) : Option (LL) :=
 match p with
 | (t0,kid1,first2) =>
  if (t0.fOp == 9) = true then
  some [t0.fType]
  else
  (Kgq (t0.fOp,kid1)) >>= fun a0 =>
  if (a0 == 0) = true then
  some []
  else
  (Keg first2) >>= fun a1 =>
  if (t0.fOp == 5) = true then
  (idx a1 1) >>= fun a2 =>
  (idx a1 0) >>= fun a3 =>
  some [a2,a3]
  else
  if (t0.fOp == 8) = true then
  (idx a1 (wr (kid1 - 1))) >>= fun a4 =>
  some [a4]
  else
  some a1
def Kh5 (p : K02 × Int × (List Int)) (r : LL) : Prop :=
 match p with
 | (t0,kid1,first2) => Q71 Tryz.prog 219 [K1x t0,I kid1,sI first2] (.osl (List.map K11 r)) []
theorem Kh6 : ∀ p r,Kh4 p = some r → Kh5 p r := by
 rintro ⟨t0,kid1,first2⟩ r h
 unfold Kh4 at h
 refine b0 Tryz.f219 K65 43 [(0,K1x t0),(1,I kid1),(2,sI first2)] fun c hc => ?_
 refine rs hc none [some (.new 1),oN] [(1,I kid1),(2,sI first2),(3,.ra 1 0)] [(1,K1w t0)] tv ?_
 refine sN ?_
 refine bk 0 ?_
 refine K7k hc 4 [(1,I kid1),(2,sI first2),(3,.ra 1 0),(8,.bool (t0.fOp == 9))] ?_
 refine ic h (fun a0 h => ?_) fun a0 h => ?_
 ·refine rs hc none [oN,oN,some (.mk 2 false),oN] [(6,.rs 2)] [(2,.arr (List.map K11 [t0.fType]))] tv ?_
  refine rt ?_
  obtain rfl := os h
  exact rq [true]
 obtain ⟨a1,a2,h⟩ := Qdd h
 refine rss hc none [oN,oN,oN,oc (I a1),oN,oN] [(1,I kid1),(2,sI first2),(3,.ra 1 0),(15,.bool (a1 == 0))] (cq (Kgs _ _ a2) K60 tv) ?_
 refine ic h (fun a3 h => ?_) fun a3 h => ?_
 ·refine rs0 hc 1 [(6,.nils)] [] ?_
  refine rt ?_
  obtain rfl := os h
  exact rq [true]
 refine sk ?_
 obtain ⟨a4,a5,h⟩ := Qdd h
 refine rs hc none [oN,some (.call (.osl (List.map K11 a4)) [] 3),oN] [(1,I kid1),(3,.ra 1 0),(7,.rs 3)] [(1,K1w t0),(3,.arr (List.map K11 a4))] (cq (Kei _ _ a5) K53 tv) ?_
 refine sN ?_
 refine rs0 hc 2 [(1,I kid1),(7,.rs 3),(24,I t0.fOp)] [(3,.arr (List.map K11 a4))] ?_
 refine bk 1 ?_
 refine K7k hc 2 [(1,I kid1),(7,.rs 3),(24,I t0.fOp),(25,.bool (t0.fOp == 5))] ?_
 refine ic h (fun a6 h => ?_) fun a6 h => ?_
 ·obtain ⟨a7,a8,a9,b1,h⟩ := bq2 h
  refine rs hc (rx [[0],[1],[2],[0],[0,3],[0,3,4],[6],[7]]) [oN,oN,some (.el (sI a7)),oN,oN,some (.el (sI a9)),some (.mk 4 false),oN] [(6,.rs 4)] [(4,.arr (List.map K11 [a7,a9]))] (ad (Qdi (enc := K11) a8) (xL a8).2 (Qdi (enc := K11) b1) (xL b1).2 tv) ?_
  refine rt ?_
  obtain rfl := os h
  exact rq [true]
 refine K7k hc 2 [(1,I kid1),(7,.rs 3),(34,.bool (t0.fOp == 8))] ?_
 refine ic h (fun b2 h => ?_) fun b2 h => ?_
 ·obtain ⟨b3,b4,h⟩ := Qdd h
  refine rs hc none [oN,oN,oN,oN,some (.el (sI b3)),some (.mk 5 false),oN] [(6,.rs 5)] [(5,.arr (List.map K11 [b3]))] (ab (Qdi (enc := K11) b4) (xL b4).2 tv) ?_
  refine rt ?_
  obtain rfl := os h
  exact rq [true]
 refine sk ?_
 refine K7k hc 2 [(6,.rs 3)] ?_
 refine rt ?_
 obtain rfl := os h
 exact rq [true]
def Kh7 (n1 : Int) : Option (Unit) :=
 if (decide (n1 < 0)) = true then
 none
 else
 if (decide ((wr (n1 - (wr (0 - 0)))) > 0)) = true then
 (chk (0 ≤ (wr (n1 - (wr (0 - 0)))) ∧ (Int.toNat (wr (n1 - (wr (0 - 0))))) * 24 ≤ 140737488355328)) >>= fun _ =>
 some ()
 else
 some ()
def Kh8 (n1 : Int) (r : Unit) : Prop :=
 Q9v Tryz.prog 242 n1
theorem Kh9 : ∀ p r,Kh7 p = some r → Kh8 p r := by
 rintro n1 r h
 unfold Kh7 at h
 show Q9v Tryz.prog 242 n1
 refine Q9v.of_body K2w (fn := Tryz.f242) (code := K67) (by kernel_rfl) (by kernel_rfl) (nt := 27) (by kernel_rfl) (by kernel_rfl) (fun c hc => ?_)
 refine rs0 hc 1 [(0,.nils),(1,I n1)] [] ?_
 refine sN ?_
 refine rs0 hc 2 [(0,.nils),(1,I n1),(6,.bool (decide (n1 < 0)))] [] ?_
 refine ic h (fun a0 h => ?_) fun a0 h => ?_
 ·cases h
 refine sk ?_
 refine sN ?_
 refine rs0 hc 8 [(0,.nils),(1,I (wr (n1 - (wr (0 - 0)))))] [] ?_
 refine rs0 hc 2 [(0,.nils),(1,I (wr (n1 - (wr (0 - 0))))),(16,.bool (decide ((wr (n1 - (wr (0 - 0)))) > 0)))] [] ?_
 refine ic h (fun a1 h => ?_) fun a1 h => ?_
 ·obtain ⟨_,a2,h⟩ := Qdd h
  refine rg hc none [oN,oN,oN,oN,oN,some (.new 1),oN,oN,some (.new 2),oN] [(0,.rs 2)] [(2,.ary (List.map K11 []))] (ai (Qdf a2) tv) ?_
  refine K7k hc 2 [(4,.rs 2)] ?_
  refine rt ?_
  exact Qew.ret (by kernel_rfl)
 refine sk ?_
 refine rs0 hc 2 [(4,.nils)] [] ?_
 refine rt ?_
 exact Qew.ret (by kernel_rfl)
def Kha (c : Ctx) (slices0 : List LL) : Int → Exit → Q0a → Prop
 | a0 => Qcz c (.exit 0) (mkS [(0,.sl (List.map K1n slices0)),(3,I a0)] [])
def Khb (p : (List LL) × Int × Int) : Option (Int) :=
 match p with
 | (slices0,a0,a1) =>
  if (decide (a1 < (slices0.length : Int))) = true then
  (idx slices0 a1) >>= fun a2 =>
  ((
  if (decide ((wr (a0 + (a2.length : Int))) < 0)) = true then
  none
  else
  some (())
  ) : Option (Unit)) >>= fun () =>
  Khb (slices0,(wr (a0 + (a2.length : Int))),(wr (a1 + 1)))
  else
  some (a0)
 partial_fixpoint
def Khc (p : (List LL) × Int × Int) (fl : Int) : Prop :=
 match p with
 | (slices0,a0,a1) => ∀ c : Ctx,c.nt = 36 → WpL Tryz.prog c (cl (cl (cr (cl (cr (cr K69)))))) (Kha c slices0 fl) (mkS [(0,.sl (List.map K1n slices0)),(3,I a0),(9,.sl (List.map K1n slices0)),(10,I (slices0.length : Int)),(11,I a1)] [])
theorem Khd : ∀ p r,Khb p = some r → Khc p r := by
 refine Khb.partial_correctness Khc ?_
 rintro slices_Concat_Lint_l0_f slices_Concat_Lint_l0_ih ⟨slices0,a0,a1⟩ r h
 intro c hc
 refine WpL.step ?_
 refine rs0 hc 1 [(0,.sl (List.map K1n slices0)),(3,I a0),(9,.sl (List.map K1n slices0)),(10,I (slices0.length : Int)),(11,I a1),(12,.bool (decide (a1 < (slices0.length : Int))))] [] ?_
 refine sN ?_
 refine ic h (fun a2 h => ?_) fun a2 h => ?_
 ·refine sk ?_
  refine sN ?_
  refine bk 1 ?_
  obtain ⟨a3,a4,h⟩ := Qdd h
  refine rs hc none [some (.el (sL a3)),oN,oN] [(0,.sl (List.map K1n slices0)),(3,I a0),(5,sL a3),(9,.sl (List.map K1n slices0)),(10,I (slices0.length : Int)),(11,I a1)] [] (ai (Qdh a4 (K1o a3)) tv) ?_
  refine rs hc none [oN,oN,some (.eqv (.no) ⟨[(17,I (a3.length : Int))],[],[]⟩),oN,oN] [(0,.sl (List.map K1n slices0)),(3,I (wr (a0 + (a3.length : Int)))),(9,.sl (List.map K1n slices0)),(10,I (slices0.length : Int)),(11,I a1)] [] (ai (Qdj (d := 17) K11 a3) tv) ?_
  refine rs0 hc 2 [(0,.sl (List.map K1n slices0)),(3,I (wr (a0 + (a3.length : Int)))),(9,.sl (List.map K1n slices0)),(10,I (slices0.length : Int)),(11,I a1),(20,.bool (decide ((wr (a0 + (a3.length : Int))) < 0)))] [] ?_
  obtain ⟨⟨⟩,a5,h⟩ := Qdd h
  refine Wp.into (x := .normal) (mkS [(0,.sl (List.map K1n slices0)),(3,I (wr (a0 + (a3.length : Int)))),(9,.sl (List.map K1n slices0)),(10,I (slices0.length : Int)),(11,I a1)] []) ?_ ?_
  ·replace h := a5
   refine ic h (fun a6 h => ?_) fun a6 h => ?_
   ·cases h
   refine sk ?_
   exact iv []
  clear a5
  refine rg0 hc 2 [(0,.sl (List.map K1n slices0)),(3,I (wr (a0 + (a3.length : Int)))),(9,.sl (List.map K1n slices0)),(10,I (slices0.length : Int)),(11,I (wr (a1 + 1)))] [] ?_
  refine Qcv ?_
  exact (slices_Concat_Lint_l0_ih _ _ h c hc)
 refine xt 0 ?_
 refine Qcp ?_
 refine Qcw ?_
 obtain rfl := os h
 exact iv []
def Khe (c : Ctx) : LL → Exit → Q0a → Prop
 | a0 => Qcz c (.exit 2) (mkS [(6,.rs 1)] [(1,.ary (List.map K11 a0))])
def Khf (p : (List LL) × LL × Int) : Option (LL) :=
 match p with
 | (slices0,a0,a1) =>
  if (decide (a1 < (slices0.length : Int))) = true then
  (idx slices0 a1) >>= fun a2 =>
  (Qdq (a0.length + a2.length) 24) >>= fun _ =>
  Khf (slices0,(a0 ++ a2),(wr (a1 + 1)))
  else
  some (a0)
 partial_fixpoint
def Khg (p : (List LL) × LL × Int) (fl : LL) : Prop :=
 match p with
 | (slices0,a0,a1) => ∀ c : Ctx,c.nt = 36 → WpL Tryz.prog c (cl (cl (cr (cl (cr (cr (cr (cr K69)))))))) (Khe c fl) (mkS [(6,.rs 1),(25,.sl (List.map K1n slices0)),(26,I (slices0.length : Int)),(27,I a1)] [(1,.ary (List.map K11 a0))])
theorem Khh : ∀ p r,Khf p = some r → Khg p r := by
 refine Khf.partial_correctness Khg ?_
 rintro slices_Concat_Lint_l1_f slices_Concat_Lint_l1_ih ⟨slices0,a0,a1⟩ r h
 intro c hc
 refine WpL.step ?_
 refine K7k hc 1 [(6,.rs 1),(25,.sl (List.map K1n slices0)),(26,I (slices0.length : Int)),(27,I a1),(28,.bool (decide (a1 < (slices0.length : Int))))] ?_
 refine sN ?_
 refine ic h (fun a2 h => ?_) fun a2 h => ?_
 ·refine sk ?_
  refine sN ?_
  refine bk 3 ?_
  obtain ⟨a3,a4,h⟩ := Qdd h
  refine rss hc none [some (.el (sL a3)),oN,oN] [(6,.rs 1),(8,sL a3),(25,.sl (List.map K1n slices0)),(26,I (slices0.length : Int)),(27,I a1)] (ai (Qdh a4 (K1o a3)) tv) ?_
  obtain ⟨_,a5,h⟩ := Qdd h
  refine rg hc none [oN,oN,some (.eqv (.new 3) ⟨[(33,.rs 3)],[(3,some (.ary (List.map K11 (a0 ++ a3)))),(1,none)],[3]⟩),oN] [(6,.rs 3),(25,.sl (List.map K1n slices0)),(26,I (slices0.length : Int)),(27,I a1)] [(3,.ary (List.map K11 (a0 ++ a3)))] (ab (congrArg (fun z => (⟨[(33,.rs 3)],[(3,some (.ary z)),(1,none)],[3]⟩ : Wr)) ((List.map_append).symm : (List.map K11 a0) ++ (List.map K11 a3) = List.map K11 (a0 ++ a3))) (Qez (enc := K11) (e1 := a0) (e2 := a3) (fun _ => rfl) a5) tv) ?_
  refine K7j hc 2 [(6,.rs 3),(25,.sl (List.map K1n slices0)),(26,I (slices0.length : Int)),(27,I (wr (a1 + 1)))] ?_
  refine Qcv ?_
  exact WpL.view (fun a w hv => SRx.renL [(1,3)] hv (by kernel_rfl) (by kernel_rfl) (by kernel_rfl)) (slices_Concat_Lint_l1_ih _ _ h c hc)
 refine xt 2 ?_
 refine Qcp ?_
 refine Qcw ?_
 obtain rfl := os h
 exact iv []
def Khi (slices0 : (List LL)) : Option (LL) :=
 (Khb (slices0,0,0)) >>= fun a0 =>
 (Kh7 a0) >>= fun _ =>
 (Khf (slices0,[],0)) >>= fun a1 =>
 some a1
def Khj (slices0 : (List LL)) (r : LL) : Prop :=
 Q71 Tryz.prog 220 [.sl (List.map K1n slices0)] (sL r) []
theorem Khk : ∀ p r,Khi p = some r → Khj p r := by
 rintro slices0 r h
 unfold Khi at h
 refine b0 Tryz.f220 K69 36 [(0,.sl (List.map K1n slices0))] fun c hc => ?_
 refine rs0 hc 1 [(0,.sl (List.map K1n slices0))] [] ?_
 refine rs0 hc 1 [(0,.sl (List.map K1n slices0)),(3,I 0)] [] ?_
 refine sN ?_
 refine rs hc none [oN,some (.eqv (.no) ⟨[(10,I (slices0.length : Int))],[],[]⟩),oN] [(0,.sl (List.map K1n slices0)),(3,I 0),(9,.sl (List.map K1n slices0)),(10,I (slices0.length : Int)),(11,I 0)] [] (ai (Qdj (d := 10) K1n slices0) tv) ?_
 refine bk 0 ?_
 obtain ⟨a0,a1,h⟩ := Qdd h
 have hL := Khd _ _ a1 c hc
 refine lp ?_
 refine WpL.into (e := (.exit 0)) (mkS [(0,.sl (List.map K1n slices0)),(3,I a0)] []) hL ?_
 refine Qcr ?_
 obtain ⟨_,a2,h⟩ := Qdd h
 refine rs hc none [oN,some (.new 1),oN] [(0,.sl (List.map K1n slices0)),(6,.rs 1)] [(1,.ary (List.map K11 []))] (ab (Kh9 _ _ a2) K68 tv) ?_
 refine sN ?_
 refine rss hc none [oN,some (.eqv (.no) ⟨[(26,I (slices0.length : Int))],[],[]⟩),oN] [(6,.rs 1),(25,.sl (List.map K1n slices0)),(26,I (slices0.length : Int)),(27,I 0)] (ai (Qdj (d := 26) K1n slices0) tv) ?_
 refine bk 2 ?_
 obtain ⟨a3,a4,h⟩ := Qdd h
 have hL := Khh _ _ a4 c hc
 refine lp ?_
 refine WpL.into (e := (.exit 2)) (mkS [(6,.rs 1)] [(1,.ary (List.map K11 a3))]) hL ?_
 refine Qcr ?_
 refine K7k hc 2 [(2,.rs 1)] ?_
 refine Wp.view (fun a w hv => SRx.frzYL 1 (xs := List.map K11 a3) hv (by kernel_rfl) (by kernel_rfl) (by kernel_rfl)) (?_ : Wp Tryz.prog c _ _ (mkS [(2,sL a3)] []))
 refine rt ?_
 obtain rfl := os h
 exact rq [false]
def Khl : Option (List (List Nat)) := rx [[0],[0],[0],[0],[0],[0,3,4],[0,3,4,5],[0],[0],[0,7,8],[0,7,8,9],[0,2,3,4,5,6,7,8,9,10],[12],[13]]
def Khm (p : K05 × K02 × Int × (List Int)) : Option (Int) :=
 match p with
 | (p0,t1,kid2,ty3) =>
  (idx ty3 0) >>= fun a0 =>
  (Kcd a0) >>= fun (a1,a2) =>
  ((
  if (t1.fOp == 2) = true then
  some ((t1.fOp == 2))
  else
  ((
  if (t1.fOp == 3) = true then
  some ((kid2 == 0))
  else
  some (false)
  ) : Option (Bool)) >>= fun a3 =>
  some (a3)
  ) : Option (Bool)) >>= fun a4 =>
  ((
  if a4 = true then
  some ((0,2))
  else
  ((
  if (t1.fOp == 5) = true then
  some ((kid2 == 0))
  else
  some (false)
  ) : Option (Bool)) >>= fun a5 =>
  ((
  if a5 = true then
  some ((1,4))
  else
  ((
  if (t1.fOp == 8) = true then
  some ((kid2 == 0))
  else
  some (false)
  ) : Option (Bool)) >>= fun a6 =>
  ((
  if a6 = true then
  some ((2,5))
  else
  ((
  if (t1.fOp == 10) = true then
  some ((kid2 == 0))
  else
  some (false)
  ) : Option (Bool)) >>= fun a7 =>
  ((
  if a7 = true then
  some ((3,6))
  else
  ((
  if (t1.fOp == 12) = true then
  some ((kid2 == 0))
  else
  some (false)
  ) : Option (Bool)) >>= fun a8 =>
  ((
  if a8 = true then
  some ((4,7))
  else
  some (((-1),0))
  ) : Option (Int × Int)) >>= fun (a9,b1) =>
  some ((a9,b1))
  ) : Option (Int × Int)) >>= fun (b2,b3) =>
  some ((b2,b3))
  ) : Option (Int × Int)) >>= fun (b4,b5) =>
  some ((b4,b5))
  ) : Option (Int × Int)) >>= fun (b6,b7) =>
  some ((b6,b7))
  ) : Option (Int × Int)) >>= fun (b8,b9) =>
  ((
  if (decide (b8 ≥ 0)) = true then
  some ((a1 != b8))
  else
  some (false)
  ) : Option (Bool)) >>= fun c0 =>
  if c0 = true then
  some b9
  else
  ((
  if (kid2 == 0) = true then
  if (t1.fOp == 5) = true then
  (Kd6 (p0.fs,1,t1.fN)) >>= fun c1 =>
  some ((!c1))
  else
  if (t1.fOp == 8) = true then
  (Kd6 (p0.fs,1,t1.fN)) >>= fun c1 =>
  some ((!c1))
  else
  if (t1.fOp == 12) = true then
  (Kd6 (p0.fs,1,t1.fN)) >>= fun c1 =>
  some ((!c1))
  else
  some (false)
  else
  some (false)
  ) : Option (Bool)) >>= fun c2 =>
  if c2 = true then
  some 8
  else
  some 0
def Khn (p : K05 × K02 × Int × (List Int)) (r : Int) : Prop :=
 match p with
 | (p0,t1,kid2,ty3) => Q71 Tryz.prog 221 [K21 p0,K1x t1,I kid2,sI ty3] (I r) []
theorem Kho : ∀ p r,Khm p = some r → Khn p r := by
 rintro ⟨p0,t1,kid2,ty3⟩ r h
 unfold Khm at h
 refine b0 Tryz.f221 K6d 96 [(0,K21 p0),(1,K1x t1),(2,I kid2),(3,sI ty3)] fun c hc => ?_
 refine rs hc none [some (.new 1),some (.new 2),oN] [(2,I kid2),(3,sI ty3),(4,.ra 1 0),(5,.ra 2 0)] [(1,K20 p0),(2,K1w t1)] tv ?_
 obtain ⟨a0,a1,⟨a2,a3⟩,a4,h⟩ := bq2 h
 refine rss hc none [oN,some (.el (I a0)),oN,oc (.tup [I a2,I a3]),oN,oN,oN,oN,oN] [(2,I kid2),(4,.ra 1 0),(5,.ra 2 0),(9,I a2)] (ai (ix a1) (cq (Kcf _ _ a4) K4j tv)) ?_
 refine K7k hc 2 [(2,I kid2),(4,.ra 1 0),(5,.ra 2 0),(9,I a2),(11,I (-1)),(12,I 0)] ?_
 refine sN ?_
 refine bk 0 ?_
 refine sN ?_
 refine K7k hc 4 [(2,I kid2),(4,.ra 1 0),(5,.ra 2 0),(9,I a2),(11,I (-1)),(12,I 0),(20,.bool (t1.fOp == 2))] ?_
 obtain ⟨a5,a6,h⟩ := Qdd h
 refine Wp.into (x := .normal) (mkS [(2,I kid2),(4,.ra 1 0),(5,.ra 2 0),(9,I a2),(11,I (-1)),(12,I 0),(20,.bool a5)] [(1,K20 p0),(2,K1w t1)]) ?_ ?_
 ·replace h := a6
  refine ic h (fun a7 h => ?_) fun a7 h => ?_
  ·refine sk ?_
   obtain rfl := os h
   exact Qcz.mk
  obtain ⟨a8,a9,h⟩ := Qdd h
  refine Wp.into (x := .normal) (mkS [(2,I kid2),(4,.ra 1 0),(5,.ra 2 0),(9,I a2),(11,I (-1)),(12,I 0),(20,.bool a8)] [(1,K20 p0),(2,K1w t1)]) ?_ ?_
  ·replace h := a9
   rcases is h with ⟨b1,h⟩ | ⟨b1,h⟩
   ·refine rgs hc none [oN,oN,oN,oN,oN,oN,oT,oN] [(2,I kid2),(4,.ra 1 0),(5,.ra 2 0),(9,I a2),(11,I (-1)),(12,I 0),(20,.bool (kid2 == 0))] (ar 3 b1 tv) ?_
    obtain rfl := os h
    exact Qcz.mk
   refine rgs hc none [oN,oN,oN,oN,o_,o_,oF,oN] [(2,I kid2),(4,.ra 1 0),(5,.ra 2 0),(9,I a2),(11,I (-1)),(12,I 0),(20,.bool false)] (ar 2 (neT b1) (ai b1 tv)) ?_
   obtain rfl := os h
   exact Qcz.mk
  clear a9
  obtain rfl := os h
  exact Qcz.mk
 clear a6
 obtain ⟨⟨b2,b3⟩,b4,h⟩ := Qdd h
 refine Wp.into (x := .normal) (mkS [(2,I kid2),(4,.ra 1 0),(5,.ra 2 0),(9,I a2),(11,I b2),(12,I b3)] [(1,K20 p0),(2,K1w t1)]) ?_ ?_
 ·replace h := b4
  refine ic h (fun b5 h => ?_) fun b5 h => ?_
  ·refine K7j hc 2 [(2,I kid2),(4,.ra 1 0),(5,.ra 2 0),(9,I a2),(11,I 0),(12,I 2)] ?_
   obtain ⟨rfl,rfl⟩ := Prod.mk.inj (Option.some.inj h)
   exact Qcz.mk
  refine sN ?_
  obtain ⟨b6,b7,h⟩ := Qdd h
  refine Wp.into (x := .normal) (mkS [(2,I kid2),(4,.ra 1 0),(5,.ra 2 0),(9,I a2),(11,I (-1)),(12,I 0),(31,.bool b6)] [(1,K20 p0),(2,K1w t1)]) ?_ ?_
  ·replace h := b7
   rcases is h with ⟨b8,h⟩ | ⟨b8,h⟩
   ·refine rgs hc none [oN,oN,oN,oN,oN,oN,oT,oN] [(2,I kid2),(4,.ra 1 0),(5,.ra 2 0),(9,I a2),(11,I (-1)),(12,I 0),(31,.bool (kid2 == 0))] (ar 3 b8 tv) ?_
    obtain rfl := os h
    exact Qcz.mk
   refine rgs hc none [oN,oN,oN,oN,o_,o_,oF,oN] [(2,I kid2),(4,.ra 1 0),(5,.ra 2 0),(9,I a2),(11,I (-1)),(12,I 0),(31,.bool false)] (ar 2 (neT b8) (ai b8 tv)) ?_
   obtain rfl := os h
   exact Qcz.mk
  clear b7
  obtain ⟨⟨b9,c0⟩,c1,h⟩ := Qdd h
  refine Wp.into (x := .normal) (mkS [(2,I kid2),(4,.ra 1 0),(5,.ra 2 0),(9,I a2),(11,I b9),(12,I c0)] [(1,K20 p0),(2,K1w t1)]) ?_ ?_
  ·replace h := c1
   refine ic h (fun c2 h => ?_) fun c2 h => ?_
   ·refine K7j hc 2 [(2,I kid2),(4,.ra 1 0),(5,.ra 2 0),(9,I a2),(11,I 1),(12,I 4)] ?_
    obtain ⟨rfl,rfl⟩ := Prod.mk.inj (Option.some.inj h)
    exact Qcz.mk
   refine sN ?_
   obtain ⟨c3,c4,h⟩ := Qdd h
   refine Wp.into (x := .normal) (mkS [(2,I kid2),(4,.ra 1 0),(5,.ra 2 0),(9,I a2),(11,I (-1)),(12,I 0),(39,.bool c3)] [(1,K20 p0),(2,K1w t1)]) ?_ ?_
   ·replace h := c4
    rcases is h with ⟨c5,h⟩ | ⟨c5,h⟩
    ·refine rgs hc none [oN,oN,oN,oN,oN,oN,oT,oN] [(2,I kid2),(4,.ra 1 0),(5,.ra 2 0),(9,I a2),(11,I (-1)),(12,I 0),(39,.bool (kid2 == 0))] (ar 3 c5 tv) ?_
     obtain rfl := os h
     exact Qcz.mk
    refine rgs hc none [oN,oN,oN,oN,o_,o_,oF,oN] [(2,I kid2),(4,.ra 1 0),(5,.ra 2 0),(9,I a2),(11,I (-1)),(12,I 0),(39,.bool false)] (ar 2 (neT c5) (ai c5 tv)) ?_
    obtain rfl := os h
    exact Qcz.mk
   clear c4
   obtain ⟨⟨c6,c7⟩,c8,h⟩ := Qdd h
   refine Wp.into (x := .normal) (mkS [(2,I kid2),(4,.ra 1 0),(5,.ra 2 0),(9,I a2),(11,I c6),(12,I c7)] [(1,K20 p0),(2,K1w t1)]) ?_ ?_
   ·replace h := c8
    refine ic h (fun c9 h => ?_) fun c9 h => ?_
    ·refine K7j hc 2 [(2,I kid2),(4,.ra 1 0),(5,.ra 2 0),(9,I a2),(11,I 2),(12,I 5)] ?_
     obtain ⟨rfl,rfl⟩ := Prod.mk.inj (Option.some.inj h)
     exact Qcz.mk
    refine sN ?_
    obtain ⟨d0,d1,h⟩ := Qdd h
    refine Wp.into (x := .normal) (mkS [(2,I kid2),(4,.ra 1 0),(5,.ra 2 0),(9,I a2),(11,I (-1)),(12,I 0),(47,.bool d0)] [(1,K20 p0),(2,K1w t1)]) ?_ ?_
    ·replace h := d1
     rcases is h with ⟨d2,h⟩ | ⟨d2,h⟩
     ·refine rgs hc none [oN,oN,oN,oN,oN,oN,oT,oN] [(2,I kid2),(4,.ra 1 0),(5,.ra 2 0),(9,I a2),(11,I (-1)),(12,I 0),(47,.bool (kid2 == 0))] (ar 3 d2 tv) ?_
      obtain rfl := os h
      exact Qcz.mk
     refine rgs hc none [oN,oN,oN,oN,o_,o_,oF,oN] [(2,I kid2),(4,.ra 1 0),(5,.ra 2 0),(9,I a2),(11,I (-1)),(12,I 0),(47,.bool false)] (ar 2 (neT d2) (ai d2 tv)) ?_
     obtain rfl := os h
     exact Qcz.mk
    clear d1
    obtain ⟨⟨d3,d4⟩,d5,h⟩ := Qdd h
    refine Wp.into (x := .normal) (mkS [(2,I kid2),(4,.ra 1 0),(5,.ra 2 0),(9,I a2),(11,I d3),(12,I d4)] [(1,K20 p0),(2,K1w t1)]) ?_ ?_
    ·replace h := d5
     refine ic h (fun d6 h => ?_) fun d6 h => ?_
     ·refine K7j hc 2 [(2,I kid2),(4,.ra 1 0),(5,.ra 2 0),(9,I a2),(11,I 3),(12,I 6)] ?_
      obtain ⟨rfl,rfl⟩ := Prod.mk.inj (Option.some.inj h)
      exact Qcz.mk
     refine sN ?_
     obtain ⟨d7,d8,h⟩ := Qdd h
     refine Wp.into (x := .normal) (mkS [(2,I kid2),(4,.ra 1 0),(5,.ra 2 0),(9,I a2),(11,I (-1)),(12,I 0),(55,.bool d7)] [(1,K20 p0),(2,K1w t1)]) ?_ ?_
     ·replace h := d8
      rcases is h with ⟨d9,h⟩ | ⟨d9,h⟩
      ·refine rgs hc none [oN,oN,oN,oN,oN,oN,oT,oN] [(2,I kid2),(4,.ra 1 0),(5,.ra 2 0),(9,I a2),(11,I (-1)),(12,I 0),(55,.bool (kid2 == 0))] (ar 3 d9 tv) ?_
       obtain rfl := os h
       exact Qcz.mk
      refine rgs hc none [oN,oN,oN,oN,o_,o_,oF,oN] [(2,I kid2),(4,.ra 1 0),(5,.ra 2 0),(9,I a2),(11,I (-1)),(12,I 0),(55,.bool false)] (ar 2 (neT d9) (ai d9 tv)) ?_
      obtain rfl := os h
      exact Qcz.mk
     clear d8
     obtain ⟨⟨e0,e1⟩,e2,h⟩ := Qdd h
     refine Wp.into (x := .normal) (mkS [(2,I kid2),(4,.ra 1 0),(5,.ra 2 0),(9,I a2),(11,I e0),(12,I e1)] [(1,K20 p0),(2,K1w t1)]) ?_ ?_
     ·replace h := e2
      refine ic h (fun e3 h => ?_) fun e3 h => ?_
      ·refine K7j hc 2 [(2,I kid2),(4,.ra 1 0),(5,.ra 2 0),(9,I a2),(11,I 4),(12,I 7)] ?_
       obtain ⟨rfl,rfl⟩ := Prod.mk.inj (Option.some.inj h)
       exact Qcz.mk
      refine sk ?_
      obtain ⟨rfl,rfl⟩ := Prod.mk.inj (Option.some.inj h)
      exact iv []
     clear e2
     obtain ⟨rfl,rfl⟩ := Prod.mk.inj (Option.some.inj h)
     exact Qcz.mk
    clear d5
    obtain ⟨rfl,rfl⟩ := Prod.mk.inj (Option.some.inj h)
    exact Qcz.mk
   clear c8
   obtain ⟨rfl,rfl⟩ := Prod.mk.inj (Option.some.inj h)
   exact Qcz.mk
  clear c1
  obtain ⟨rfl,rfl⟩ := Prod.mk.inj (Option.some.inj h)
  exact Qcz.mk
 clear b4
 refine sN ?_
 refine sN ?_
 obtain ⟨e4,e5,h⟩ := Qdd h
 refine Wp.into (x := .normal) (mkS [(2,I kid2),(4,.ra 1 0),(5,.ra 2 0),(12,I b3),(69,.bool e4)] [(1,K20 p0),(2,K1w t1)]) ?_ ?_
 ·replace h := e5
  rcases is h with ⟨e6,h⟩ | ⟨e6,h⟩
  ·refine rgs hc none [oN,oN,oN,oN,oN,oN,oT] [(2,I kid2),(4,.ra 1 0),(5,.ra 2 0),(12,I b3),(69,.bool (a2 != b2))] (ar 4 e6 tv) ?_
   obtain rfl := os h
   exact Qcz.mk
  refine rgs hc none [oN,oN,oN,o_,o_,o_,oF] [(2,I kid2),(4,.ra 1 0),(5,.ra 2 0),(12,I b3),(69,.bool false)] (ar 3 (neT e6) (ai e6 tv)) ?_
  obtain rfl := os h
  exact Qcz.mk
 clear e5
 refine ic h (fun e7 h => ?_) fun e7 h => ?_
 ·refine rs0 hc 2 [(8,I b3)] [] ?_
  refine rt ?_
  obtain rfl := os h
  exact rq [true]
 refine sk ?_
 refine sN ?_
 refine sN ?_
 obtain ⟨e8,e9,h⟩ := Qdd h
 refine Wp.into (x := .normal) (mkS [(95,.bool e8)] []) ?_ ?_
 ·replace h := e9
  rcases is h with ⟨f0,h⟩ | ⟨f0,h⟩
  ·rcases is h with ⟨f1,h⟩ | ⟨f1,h⟩
   ·obtain ⟨f2,f3,h⟩ := Qdd h
    refine rg hc none [oN,oN,oN,oN,oN,oN,oN,o_,o_,o_,oT,oN,o_,o_,o_,oT,oT,oN,oN,oN,oN,oN,oc (.bool f2),oN,oT] [(95,.bool (!f2))] [] (ar 4 f0 (ar 3 (neF f1) (ac f0 f1 f0 (ar 3 nf (ac f0 tt f0 (ar 5 tt (cq (Kd8 _ _ f3) K4v (ar 2 tt tv)))))))) ?_
    obtain rfl := os h
    exact Qcz.mk
   rcases is h with ⟨f4,h⟩ | ⟨f4,h⟩
   ·obtain ⟨f2,f3,h⟩ := Qdd h
    refine rg hc none [oN,oN,oN,oN,oN,oN,oN,oN,oN,oN,oF,oN,o_,o_,o_,oT,oT,oN,oN,oN,oN,oN,oc (.bool f2),oN,oT] [(95,.bool (!f2))] [] (ar 4 f0 (ar 3 f1 (ac f0 f1 f0 (ar 3 (neF f4) (ac f0 f4 f0 (ar 5 tt (cq (Kd8 _ _ f3) K4v (ar 2 tt tv)))))))) ?_
    obtain rfl := os h
    exact Qcz.mk
   rcases is h with ⟨f5,h⟩ | ⟨f5,h⟩
   ·obtain ⟨f2,f3,h⟩ := Qdd h
    refine rg hc none [oN,oN,oN,oN,oN,oN,oN,oN,oN,oN,oF,oN,oN,oN,oN,oF,oT,oN,oN,oN,oN,oN,oc (.bool f2),oN,oT] [(95,.bool (!f2))] [] (ar 4 f0 (ar 3 f1 (ac f0 f1 f0 (ar 3 f4 (ac f0 f4 f0 (ar 5 f5 (cq (Kd8 _ _ f3) K4v (ar 2 f5 tv)))))))) ?_
    obtain rfl := os h
    exact Qcz.mk
   refine rg hc none [oN,oN,oN,oN,oN,oN,oN,oN,oN,oN,oF,oN,oN,oN,oN,oF,oT,oN,o_,o_,o_,o_,o_,o_,oF] [(95,.bool false)] [] (ar 4 f0 (ar 3 f1 (ac f0 f1 f0 (ar 3 f4 (ac f0 f4 f0 (ar 6 (neT f5) (ai f5 tv))))))) ?_
   obtain rfl := os h
   exact Qcz.mk
  refine rg hc none [oN,oN,oN,o_,o_,o_,o_,o_,o_,o_,o_,o_,o_,o_,o_,o_,oF,oN,o_,o_,o_,o_,o_,o_,oF] [(95,.bool false)] [] (ar 7 (neT f0) (ai f0 (ar 6 (neT (rfl : false = false)) (ai (rfl : false = false) tv)))) ?_
  obtain rfl := os h
  exact Qcz.mk
 clear e9
 refine ic h (fun f6 h => ?_) fun f6 h => ?_
 ·refine rs0 hc 1 [(8,I 8)] [] ?_
  refine rt ?_
  obtain rfl := os h
  exact rq [true]
 refine sk ?_
 refine rs0 hc 1 [(8,I 0)] [] ?_
 refine rt ?_
 obtain rfl := os h
 exact rq [true]
def Khp (c : Ctx) : (List Int) → Exit → Q0a → Prop
 | a0 => Qcz c (.exit 0) (mkS [(9,.rs 2)] [(2,rI a0)])
def Khq (p : K00 × (List Int) × (List Int) × (List Int) × Int) : Option ((List Int)) :=
 match p with
 | (clo1_0,a2,b3,a0,a1) =>
  if (decide (a1 < (a2.length : Int))) = true then
  (idx a2 a1) >>= fun a3 =>
  (idx b3 a1) >>= fun a4 =>
  (Kcw (clo1_0,a3,a4)) >>= fun a5 =>
  (idx a0 a1) >>= fun a6 =>
  Khq (clo1_0,a2,b3,(List.set a0 (Int.toNat a1) a5),(wr (a1 + 1)))
  else
  some (a0)
 partial_fixpoint
def Khr (p : K00 × (List Int) × (List Int) × (List Int) × Int) (fl : (List Int)) : Prop :=
 match p with
 | (clo1_0,a2,b3,a0,a1) => ∀ c : Ctx,c.nt = 34 → WpL Tryz.prog c (cl (cl (cr (cl (cr (cr K6f)))))) (Khp c fl) (mkS [(1,.fnb 160 [K1t clo1_0]),(2,sI a2),(3,sI b3),(9,.rs 2),(15,I (a2.length : Int)),(16,I a1)] [(2,rI a0)])
theorem Khs : ∀ p r,Khq p = some r → Khr p r := by
 refine Khq.partial_correctness Khr ?_
 rintro impl_typerboth_Kimpl_Systemplus_l0_f impl_typerboth_Kimpl_Systemplus_l0_ih ⟨clo1_0,a2,b3,a0,a1⟩ r h
 intro c hc
 refine WpL.step ?_
 refine K7k hc 1 [(1,.fnb 160 [K1t clo1_0]),(2,sI a2),(3,sI b3),(9,.rs 2),(15,I (a2.length : Int)),(16,I a1),(17,.bool (decide (a1 < (a2.length : Int))))] ?_
 refine sN ?_
 refine ic h (fun a3 h => ?_) fun a3 h => ?_
 ·refine sk ?_
  refine sN ?_
  refine bk 1 ?_
  refine K7k hc 2 [(1,.fnb 160 [K1t clo1_0]),(2,sI a2),(3,sI b3),(9,.rs 2),(10,I a1),(15,I (a2.length : Int)),(16,I a1)] ?_
  obtain ⟨a4,a5,a6,a7,a8,a9,b1,b2,h⟩ := bq4 h
  refine rg hc Khl [oN,oN,oN,oN,oN,some (.el (I a4)),oN,oN,oN,some (.el (I a6)),oN,oc (I a8),oN,some (.eqv (.mk 0 true) ⟨[],[(2,some (.arr (List.map I (List.set a0 (Int.toNat a1) a8))))],[]⟩)] [(1,.fnb 160 [K1t clo1_0]),(2,sI a2),(3,sI b3),(9,.rs 2),(15,I (a2.length : Int)),(16,I a1)] [(2,.arr (List.map I (List.set a0 (Int.toNat a1) a8)))] (ab (ix a5) (ix a7) (cq (Kcy _ _ a9) K4s (ac (Qdi (enc := I) b2) (congrArg (fun z => (⟨[],[(2,some (.arr z))],[]⟩ : Wr)) (Qeg (enc := I) (i := Int.toNat a1) (l := a0) (v := a8) (x := I a8) (Qds a8))) (Qeh (enc := I) (sz := 1) Qdw b2) tv))) ?_
  refine K7j hc 2 [(1,.fnb 160 [K1t clo1_0]),(2,sI a2),(3,sI b3),(9,.rs 2),(15,I (a2.length : Int)),(16,I (wr (a1 + 1)))] ?_
  refine Qcv ?_
  exact (impl_typerboth_Kimpl_Systemplus_l0_ih _ _ h c hc)
 refine xt 0 ?_
 refine Qcp ?_
 refine Qcw ?_
 obtain rfl := os h
 exact iv []
def Kht (p : K05 × K00 × (List Int) × (List Int)) : Option ((List Int)) :=
 match p with
 | (p0,clo1_0,a2,b3) =>
  (chk (0 ≤ (a2.length : Int) ∧ (Int.toNat (a2.length : Int)) * 8 ≤ 140737488355328)) >>= fun _ =>
  (Khq (clo1_0,a2,b3,(List.replicate (Int.toNat (a2.length : Int)) 0),0)) >>= fun a0 =>
  some a0
def Khu (p : K05 × K00 × (List Int) × (List Int)) (r : (List Int)) : Prop :=
 match p with
 | (p0,clo1_0,a2,b3) => Q71 Tryz.prog 254 [K21 p0,.fnb 160 [K1t clo1_0],sI a2,sI b3] (oI r) []
theorem Khv : ∀ p r,Kht p = some r → Khu p r := by
 rintro ⟨p0,clo1_0,a2,b3⟩ r h
 unfold Kht at h
 refine b0 Tryz.f254 K6f 34 [(0,K21 p0),(1,.fnb 160 [K1t clo1_0]),(2,sI a2),(3,sI b3)] fun c hc => ?_
 refine rs hc none [some (.new 1),oN] [(1,.fnb 160 [K1t clo1_0]),(2,sI a2),(3,sI b3)] [] tv ?_
 obtain ⟨_,a0,h⟩ := Qdd h
 refine rs hc none [oN,some (.eqv (.no) ⟨[(12,I (a2.length : Int))],[],[]⟩),some (.eqv (.mk 2 true) ⟨[(13,.rs 2)],[(2,some (.arr (List.map I (List.replicate (Int.toNat (a2.length : Int)) 0))))],[2]⟩),oN] [(1,.fnb 160 [K1t clo1_0]),(2,sI a2),(3,sI b3),(9,.rs 2)] [(2,.arr (List.map I (List.replicate (Int.toNat (a2.length : Int)) 0)))] (ac (Qdj (d := 12) I a2) (congrArg (fun z => (⟨[(13,.rs 2)],[(2,some (.arr z))],[2]⟩ : Wr)) (Qei (enc := I) (n := Int.toNat (a2.length : Int)) (x := I 0) (Qds 0))) (And.intro (Eq.refl (a2.length : Int)) (Qdf a0)) tv) ?_
 refine sN ?_
 refine rss hc none [oN,some (.eqv (.no) ⟨[(15,I (a2.length : Int))],[],[]⟩),oN] [(1,.fnb 160 [K1t clo1_0]),(2,sI a2),(3,sI b3),(9,.rs 2),(15,I (a2.length : Int)),(16,I 0)] (ai (Qdj (d := 15) I a2) tv) ?_
 refine bk 0 ?_
 obtain ⟨a1,a3,h⟩ := Qdd h
 have hL := Khs _ _ a3 c hc
 refine lp ?_
 refine WpL.into (e := (.exit 0)) (mkS [(9,.rs 2)] [(2,rI a1)]) hL ?_
 refine Qcr ?_
 refine K7k hc 2 [(8,.rs 2)] ?_
 refine rt ?_
 obtain rfl := os h
 exact rq [true]
def Khw (p : K05 × (List Int) × (List Int)) : Option ((List Int)) :=
 match p with
 | (p0,a1,b2) =>
  (Kht (p0,p0.fs,a1,b2)) >>= fun a0 =>
  some a0
def Khx (p : K05 × (List Int) × (List Int)) (r : (List Int)) : Prop :=
 match p with
 | (p0,a1,b2) => Q71 Tryz.prog 244 [K21 p0,sI a1,sI b2] (oI r) []
theorem Khy : ∀ p r,Khw p = some r → Khx p r := by
 rintro ⟨p0,a1,b2⟩ r h
 unfold Khw at h
 refine b0 Tryz.f244 K6h 14 [(0,K21 p0),(1,sI a1),(2,sI b2)] fun c hc => ?_
 refine rs hc none [some (.new 1),oN] [(1,sI a1),(2,sI b2),(3,.ra 1 0)] [(1,K20 p0)] tv ?_
 obtain ⟨a0,a2,h⟩ := Qdd h
 refine rs hc none [oN,oN,oN,oN,oN,oN,some (.call (oI a0) [] 2),oN] [(6,.rs 2)] [(2,rI a0)] (cq (Khv _ _ a2) K6g tv) ?_
 refine rt ?_
 obtain rfl := os h
 exact rq [true]
def Khz (p : Int × K03) : Option ((List Int)) :=
 match p with
 | (i0,cap0) =>
  (idx cap0.fkids i0) >>= fun a0 =>
  some a0.fty
def Ki0 (p : Int × K03) (r : (List Int)) : Prop :=
 match p with
 | (i0,cap0) => Qa9 Tryz.prog 243 i0 [sI cap0.fty,sI cap0.fneeds,.sl (List.map K06 cap0.fkids),I cap0.ffault,sI cap0.fpath] (sI r)
theorem Ki1 : ∀ p r,Khz p = some r → Ki0 p r := by
 rintro ⟨i0,cap0⟩ r h
 unfold Khz at h
 show Qa9 Tryz.prog 243 i0 [sI cap0.fty,sI cap0.fneeds,.sl (List.map K06 cap0.fkids),I cap0.ffault,sI cap0.fpath] (sI r)
 refine Qa9.of_body K2w (fn := Tryz.f243) (code := K6j) (by kernel_rfl) (by kernel_rfl) rfl rfl (nt := 14) (by kernel_rfl) (by kernel_rfl) (fun c hc => ?_)
 refine K7k hc 1 [(0,I i0),(1,.ra 1000 0)] ?_
 obtain ⟨a0,a1,h⟩ := Qdd h
 refine rss hc none [oN,oN,oN,oN,oN,some (.el (.ptr [sI a0.fty,sI a0.fneeds,.sl (List.map K06 a0.fkids),I a0.ffault,sI a0.fpath] 0)),oN,oN,oN,oN,oN] [(3,sI a0.fty)] (ai (Qdh (enc := K06) (x := .ptr [sI a0.fty,sI a0.fneeds,.sl (List.map K06 a0.fkids),I a0.ffault,sI a0.fpath] 0) a1 (K09 a0)) tv) ?_
 refine rt ?_
 obtain rfl := os h
 exact Qf0.ret (by kernel_rfl)
def Ki2 (c : Ctx) : (List Int) → Exit → Q0a → Prop
 | a0 => Qcz c (.exit 0) (mkS [(9,.rs 2)] [(2,rI a0)])
def Ki3 (p : K00 × (List Int) × (List Int) × (List Int) × Int) : Option ((List Int)) :=
 match p with
 | (clo1_0,a2,b3,a0,a1) =>
  if (decide (a1 < (a2.length : Int))) = true then
  (idx a2 a1) >>= fun a3 =>
  (idx b3 a1) >>= fun a4 =>
  (Kdi (clo1_0,a3,a4)) >>= fun a5 =>
  (idx a0 a1) >>= fun a6 =>
  Ki3 (clo1_0,a2,b3,(List.set a0 (Int.toNat a1) a5),(wr (a1 + 1)))
  else
  some (a0)
 partial_fixpoint
def Ki4 (p : K00 × (List Int) × (List Int) × (List Int) × Int) (fl : (List Int)) : Prop :=
 match p with
 | (clo1_0,a2,b3,a0,a1) => ∀ c : Ctx,c.nt = 34 → WpL Tryz.prog c (cl (cl (cr (cl (cr (cr K6f)))))) (Ki2 c fl) (mkS [(1,.fnb 149 [K1t clo1_0]),(2,sI a2),(3,sI b3),(9,.rs 2),(15,I (a2.length : Int)),(16,I a1)] [(2,rI a0)])
theorem Ki5 : ∀ p r,Ki3 p = some r → Ki4 p r := by
 refine Ki3.partial_correctness Ki4 ?_
 rintro impl_typerboth_Kimpl_Systemjoin_l0_f impl_typerboth_Kimpl_Systemjoin_l0_ih ⟨clo1_0,a2,b3,a0,a1⟩ r h
 intro c hc
 refine WpL.step ?_
 refine K7k hc 1 [(1,.fnb 149 [K1t clo1_0]),(2,sI a2),(3,sI b3),(9,.rs 2),(15,I (a2.length : Int)),(16,I a1),(17,.bool (decide (a1 < (a2.length : Int))))] ?_
 refine sN ?_
 refine ic h (fun a3 h => ?_) fun a3 h => ?_
 ·refine sk ?_
  refine sN ?_
  refine bk 1 ?_
  refine K7k hc 2 [(1,.fnb 149 [K1t clo1_0]),(2,sI a2),(3,sI b3),(9,.rs 2),(10,I a1),(15,I (a2.length : Int)),(16,I a1)] ?_
  obtain ⟨a4,a5,a6,a7,a8,a9,b1,b2,h⟩ := bq4 h
  refine rg hc Khl [oN,oN,oN,oN,oN,some (.el (I a4)),oN,oN,oN,some (.el (I a6)),oN,oc (I a8),oN,some (.eqv (.mk 0 true) ⟨[],[(2,some (.arr (List.map I (List.set a0 (Int.toNat a1) a8))))],[]⟩)] [(1,.fnb 149 [K1t clo1_0]),(2,sI a2),(3,sI b3),(9,.rs 2),(15,I (a2.length : Int)),(16,I a1)] [(2,.arr (List.map I (List.set a0 (Int.toNat a1) a8)))] (ab (ix a5) (ix a7) (cq (Kdk _ _ a9) K4x (ac (Qdi (enc := I) b2) (congrArg (fun z => (⟨[],[(2,some (.arr z))],[]⟩ : Wr)) (Qeg (enc := I) (i := Int.toNat a1) (l := a0) (v := a8) (x := I a8) (Qds a8))) (Qeh (enc := I) (sz := 1) Qdw b2) tv))) ?_
  refine K7j hc 2 [(1,.fnb 149 [K1t clo1_0]),(2,sI a2),(3,sI b3),(9,.rs 2),(15,I (a2.length : Int)),(16,I (wr (a1 + 1)))] ?_
  refine Qcv ?_
  exact (impl_typerboth_Kimpl_Systemjoin_l0_ih _ _ h c hc)
 refine xt 0 ?_
 refine Qcp ?_
 refine Qcw ?_
 obtain rfl := os h
 exact iv []
def Ki6 (p : K05 × K00 × (List Int) × (List Int)) : Option ((List Int)) :=
 match p with
 | (p0,clo1_0,a2,b3) =>
  (chk (0 ≤ (a2.length : Int) ∧ (Int.toNat (a2.length : Int)) * 8 ≤ 140737488355328)) >>= fun _ =>
  (Ki3 (clo1_0,a2,b3,(List.replicate (Int.toNat (a2.length : Int)) 0),0)) >>= fun a0 =>
  some a0
def Ki7 (p : K05 × K00 × (List Int) × (List Int)) (r : (List Int)) : Prop :=
 match p with
 | (p0,clo1_0,a2,b3) => Q71 Tryz.prog 254 [K21 p0,.fnb 149 [K1t clo1_0],sI a2,sI b3] (oI r) []
theorem Ki8 : ∀ p r,Ki6 p = some r → Ki7 p r := by
 rintro ⟨p0,clo1_0,a2,b3⟩ r h
 unfold Ki6 at h
 refine b0 Tryz.f254 K6f 34 [(0,K21 p0),(1,.fnb 149 [K1t clo1_0]),(2,sI a2),(3,sI b3)] fun c hc => ?_
 refine rs hc none [some (.new 1),oN] [(1,.fnb 149 [K1t clo1_0]),(2,sI a2),(3,sI b3)] [] tv ?_
 obtain ⟨_,a0,h⟩ := Qdd h
 refine rs hc none [oN,some (.eqv (.no) ⟨[(12,I (a2.length : Int))],[],[]⟩),some (.eqv (.mk 2 true) ⟨[(13,.rs 2)],[(2,some (.arr (List.map I (List.replicate (Int.toNat (a2.length : Int)) 0))))],[2]⟩),oN] [(1,.fnb 149 [K1t clo1_0]),(2,sI a2),(3,sI b3),(9,.rs 2)] [(2,.arr (List.map I (List.replicate (Int.toNat (a2.length : Int)) 0)))] (ac (Qdj (d := 12) I a2) (congrArg (fun z => (⟨[(13,.rs 2)],[(2,some (.arr z))],[2]⟩ : Wr)) (Qei (enc := I) (n := Int.toNat (a2.length : Int)) (x := I 0) (Qds 0))) (And.intro (Eq.refl (a2.length : Int)) (Qdf a0)) tv) ?_
 refine sN ?_
 refine rss hc none [oN,some (.eqv (.no) ⟨[(15,I (a2.length : Int))],[],[]⟩),oN] [(1,.fnb 149 [K1t clo1_0]),(2,sI a2),(3,sI b3),(9,.rs 2),(15,I (a2.length : Int)),(16,I 0)] (ai (Qdj (d := 15) I a2) tv) ?_
 refine bk 0 ?_
 obtain ⟨a1,a3,h⟩ := Qdd h
 have hL := Ki5 _ _ a3 c hc
 refine lp ?_
 refine WpL.into (e := (.exit 0)) (mkS [(9,.rs 2)] [(2,rI a1)]) hL ?_
 refine Qcr ?_
 refine K7k hc 2 [(8,.rs 2)] ?_
 refine rt ?_
 obtain rfl := os h
 exact rq [true]
def Ki9 (p : K05 × (List Int) × (List Int)) : Option ((List Int)) :=
 match p with
 | (p0,a1,b2) =>
  (Ki6 (p0,p0.fs,a1,b2)) >>= fun a0 =>
  some a0
def Kia (p : K05 × (List Int) × (List Int)) (r : (List Int)) : Prop :=
 match p with
 | (p0,a1,b2) => Q71 Tryz.prog 245 [K21 p0,sI a1,sI b2] (oI r) []
theorem Kib : ∀ p r,Ki9 p = some r → Kia p r := by
 rintro ⟨p0,a1,b2⟩ r h
 unfold Ki9 at h
 refine b0 Tryz.f245 K6l 14 [(0,K21 p0),(1,sI a1),(2,sI b2)] fun c hc => ?_
 refine rs hc none [some (.new 1),oN] [(1,sI a1),(2,sI b2),(3,.ra 1 0)] [(1,K20 p0)] tv ?_
 obtain ⟨a0,a2,h⟩ := Qdd h
 refine rs hc none [oN,oN,oN,oN,oN,oN,some (.call (oI a0) [] 2),oN] [(6,.rs 2)] [(2,rI a0)] (cq (Ki8 _ _ a2) K6g tv) ?_
 refine rt ?_
 obtain rfl := os h
 exact rq [true]
def Kic (n1 : Int) : Option (Unit) :=
 if (decide (n1 < 0)) = true then
 none
 else
 if (decide ((wr (n1 - (wr (0 - 0)))) > 0)) = true then
 (chk (0 ≤ (wr (n1 - (wr (0 - 0)))) ∧ (Int.toNat (wr (n1 - (wr (0 - 0))))) * 8 ≤ 140737488355328)) >>= fun _ =>
 some ()
 else
 some ()
def Kid (n1 : Int) (r : Unit) : Prop :=
 Q9v Tryz.prog 255 n1
theorem Kie : ∀ p r,Kic p = some r → Kid p r := by
 rintro n1 r h
 unfold Kic at h
 show Q9v Tryz.prog 255 n1
 refine Q9v.of_body K2w (fn := Tryz.f255) (code := K6n) (by kernel_rfl) (by kernel_rfl) (nt := 27) (by kernel_rfl) (by kernel_rfl) (fun c hc => ?_)
 refine rs0 hc 1 [(0,.nils),(1,I n1)] [] ?_
 refine sN ?_
 refine rs0 hc 2 [(0,.nils),(1,I n1),(6,.bool (decide (n1 < 0)))] [] ?_
 refine ic h (fun a0 h => ?_) fun a0 h => ?_
 ·cases h
 refine sk ?_
 refine sN ?_
 refine rs0 hc 8 [(0,.nils),(1,I (wr (n1 - (wr (0 - 0)))))] [] ?_
 refine rs0 hc 2 [(0,.nils),(1,I (wr (n1 - (wr (0 - 0))))),(16,.bool (decide ((wr (n1 - (wr (0 - 0)))) > 0)))] [] ?_
 refine ic h (fun a1 h => ?_) fun a1 h => ?_
 ·obtain ⟨_,a2,h⟩ := Qdd h
  refine rg hc none [oN,oN,oN,oN,oN,some (.new 1),oN,oN,some (.new 2),oN] [(0,.rs 2)] [(2,.ary (List.map I []))] (ai (Qdf a2) tv) ?_
  refine K7k hc 2 [(4,.rs 2)] ?_
  refine rt ?_
  exact Qew.ret (by kernel_rfl)
 refine sk ?_
 refine rs0 hc 2 [(4,.nils)] [] ?_
 refine rt ?_
 exact Qew.ret (by kernel_rfl)
def Kif (c : Ctx) (slices0 : LL) : Int → Exit → Q0a → Prop
 | a0 => Qcz c (.exit 0) (mkS [(0,sL slices0),(3,I a0)] [])
def Kig (p : LL × Int × Int) : Option (Int) :=
 match p with
 | (slices0,a0,a1) =>
  if (decide (a1 < (slices0.length : Int))) = true then
  (idx slices0 a1) >>= fun a2 =>
  ((
  if (decide ((wr (a0 + (a2.length : Int))) < 0)) = true then
  none
  else
  some (())
  ) : Option (Unit)) >>= fun () =>
  Kig (slices0,(wr (a0 + (a2.length : Int))),(wr (a1 + 1)))
  else
  some (a0)
 partial_fixpoint
def Kih (p : LL × Int × Int) (fl : Int) : Prop :=
 match p with
 | (slices0,a0,a1) => ∀ c : Ctx,c.nt = 36 → WpL Tryz.prog c (cl (cl (cr (cl (cr (cr K6p)))))) (Kif c slices0 fl) (mkS [(0,sL slices0),(3,I a0),(9,sL slices0),(10,I (slices0.length : Int)),(11,I a1)] [])
theorem Kii : ∀ p r,Kig p = some r → Kih p r := by
 refine Kig.partial_correctness Kih ?_
 rintro slices_Concat_int_l0_f slices_Concat_int_l0_ih ⟨slices0,a0,a1⟩ r h
 intro c hc
 refine WpL.step ?_
 refine rs0 hc 1 [(0,sL slices0),(3,I a0),(9,sL slices0),(10,I (slices0.length : Int)),(11,I a1),(12,.bool (decide (a1 < (slices0.length : Int))))] [] ?_
 refine sN ?_
 refine ic h (fun a2 h => ?_) fun a2 h => ?_
 ·refine sk ?_
  refine sN ?_
  refine bk 1 ?_
  obtain ⟨a3,a4,h⟩ := Qdd h
  refine rs hc none [some (.el (sI a3)),oN,oN] [(0,sL slices0),(3,I a0),(5,sI a3),(9,sL slices0),(10,I (slices0.length : Int)),(11,I a1)] [] (ai (xL a4) tv) ?_
  refine rs hc none [oN,oN,some (.eqv (.no) ⟨[(17,I (a3.length : Int))],[],[]⟩),oN,oN] [(0,sL slices0),(3,I (wr (a0 + (a3.length : Int)))),(9,sL slices0),(10,I (slices0.length : Int)),(11,I a1)] [] (ai (Qdj (d := 17) I a3) tv) ?_
  refine rs0 hc 2 [(0,sL slices0),(3,I (wr (a0 + (a3.length : Int)))),(9,sL slices0),(10,I (slices0.length : Int)),(11,I a1),(20,.bool (decide ((wr (a0 + (a3.length : Int))) < 0)))] [] ?_
  obtain ⟨⟨⟩,a5,h⟩ := Qdd h
  refine Wp.into (x := .normal) (mkS [(0,sL slices0),(3,I (wr (a0 + (a3.length : Int)))),(9,sL slices0),(10,I (slices0.length : Int)),(11,I a1)] []) ?_ ?_
  ·replace h := a5
   refine ic h (fun a6 h => ?_) fun a6 h => ?_
   ·cases h
   refine sk ?_
   exact iv []
  clear a5
  refine rg0 hc 2 [(0,sL slices0),(3,I (wr (a0 + (a3.length : Int)))),(9,sL slices0),(10,I (slices0.length : Int)),(11,I (wr (a1 + 1)))] [] ?_
  refine Qcv ?_
  exact (slices_Concat_int_l0_ih _ _ h c hc)
 refine xt 0 ?_
 refine Qcp ?_
 refine Qcw ?_
 obtain rfl := os h
 exact iv []
def Kij (c : Ctx) : (List Int) → Exit → Q0a → Prop
 | a0 => Qcz c (.exit 2) (mkS [(6,.rs 1)] [(1,.ary (List.map I a0))])
def Kik (p : LL × (List Int) × Int) : Option ((List Int)) :=
 match p with
 | (slices0,a0,a1) =>
  if (decide (a1 < (slices0.length : Int))) = true then
  (idx slices0 a1) >>= fun a2 =>
  (Qdq (a0.length + a2.length) 8) >>= fun _ =>
  Kik (slices0,(a0 ++ a2),(wr (a1 + 1)))
  else
  some (a0)
 partial_fixpoint
def Kil (p : LL × (List Int) × Int) (fl : (List Int)) : Prop :=
 match p with
 | (slices0,a0,a1) => ∀ c : Ctx,c.nt = 36 → WpL Tryz.prog c (cl (cl (cr (cl (cr (cr (cr (cr K6p)))))))) (Kij c fl) (mkS [(6,.rs 1),(25,sL slices0),(26,I (slices0.length : Int)),(27,I a1)] [(1,.ary (List.map I a0))])
theorem Kim : ∀ p r,Kik p = some r → Kil p r := by
 refine Kik.partial_correctness Kil ?_
 rintro slices_Concat_int_l1_f slices_Concat_int_l1_ih ⟨slices0,a0,a1⟩ r h
 intro c hc
 refine WpL.step ?_
 refine K7k hc 1 [(6,.rs 1),(25,sL slices0),(26,I (slices0.length : Int)),(27,I a1),(28,.bool (decide (a1 < (slices0.length : Int))))] ?_
 refine sN ?_
 refine ic h (fun a2 h => ?_) fun a2 h => ?_
 ·refine sk ?_
  refine sN ?_
  refine bk 3 ?_
  obtain ⟨a3,a4,h⟩ := Qdd h
  refine rss hc none [some (.el (sI a3)),oN,oN] [(6,.rs 1),(8,sI a3),(25,sL slices0),(26,I (slices0.length : Int)),(27,I a1)] (ai (xL a4) tv) ?_
  obtain ⟨_,a5,h⟩ := Qdd h
  refine rg hc none [oN,oN,some (.eqv (.new 3) ⟨[(33,.rs 3)],[(3,some (.ary (List.map I (a0 ++ a3)))),(1,none)],[3]⟩),oN] [(6,.rs 3),(25,sL slices0),(26,I (slices0.length : Int)),(27,I a1)] [(3,.ary (List.map I (a0 ++ a3)))] (ab (congrArg (fun z => (⟨[(33,.rs 3)],[(3,some (.ary z)),(1,none)],[3]⟩ : Wr)) ((List.map_append).symm : (List.map I a0) ++ (List.map I a3) = List.map I (a0 ++ a3))) (Qez (enc := I) (e1 := a0) (e2 := a3) (fun _ => rfl) a5) tv) ?_
  refine K7j hc 2 [(6,.rs 3),(25,sL slices0),(26,I (slices0.length : Int)),(27,I (wr (a1 + 1)))] ?_
  refine Qcv ?_
  exact WpL.view (fun a w hv => SRx.renL [(1,3)] hv (by kernel_rfl) (by kernel_rfl) (by kernel_rfl)) (slices_Concat_int_l1_ih _ _ h c hc)
 refine xt 2 ?_
 refine Qcp ?_
 refine Qcw ?_
 obtain rfl := os h
 exact iv []
def Kin (slices0 : LL) : Option ((List Int)) :=
 (Kig (slices0,0,0)) >>= fun a0 =>
 (Kic a0) >>= fun _ =>
 (Kik (slices0,[],0)) >>= fun a1 =>
 some a1
def Kio (slices0 : LL) (r : (List Int)) : Prop :=
 Q71 Tryz.prog 246 [sL slices0] (sI r) []
theorem Kip : ∀ p r,Kin p = some r → Kio p r := by
 rintro slices0 r h
 unfold Kin at h
 refine b0 Tryz.f246 K6p 36 [(0,sL slices0)] fun c hc => ?_
 refine rs0 hc 1 [(0,sL slices0)] [] ?_
 refine rs0 hc 1 [(0,sL slices0),(3,I 0)] [] ?_
 refine sN ?_
 refine rs hc none [oN,some (.eqv (.no) ⟨[(10,I (slices0.length : Int))],[],[]⟩),oN] [(0,sL slices0),(3,I 0),(9,sL slices0),(10,I (slices0.length : Int)),(11,I 0)] [] (ai (Qdj (d := 10) K11 slices0) tv) ?_
 refine bk 0 ?_
 obtain ⟨a0,a1,h⟩ := Qdd h
 have hL := Kii _ _ a1 c hc
 refine lp ?_
 refine WpL.into (e := (.exit 0)) (mkS [(0,sL slices0),(3,I a0)] []) hL ?_
 refine Qcr ?_
 obtain ⟨_,a2,h⟩ := Qdd h
 refine rs hc none [oN,some (.new 1),oN] [(0,sL slices0),(6,.rs 1)] [(1,.ary (List.map I []))] (ab (Kie _ _ a2) K6o tv) ?_
 refine sN ?_
 refine rss hc none [oN,some (.eqv (.no) ⟨[(26,I (slices0.length : Int))],[],[]⟩),oN] [(6,.rs 1),(25,sL slices0),(26,I (slices0.length : Int)),(27,I 0)] (ai (Qdj (d := 26) K11 slices0) tv) ?_
 refine bk 2 ?_
 obtain ⟨a3,a4,h⟩ := Qdd h
 have hL := Kim _ _ a4 c hc
 refine lp ?_
 refine WpL.into (e := (.exit 2)) (mkS [(6,.rs 1)] [(1,.ary (List.map I a3))]) hL ?_
 refine Qcr ?_
 refine K7k hc 2 [(2,.rs 1)] ?_
 refine Wp.view (fun a w hv => SRx.frzYL 1 (xs := List.map I a3) hv (by kernel_rfl) (by kernel_rfl) (by kernel_rfl)) (?_ : Wp Tryz.prog c _ _ (mkS [(2,sI a3)] []))
 refine rt ?_
 obtain rfl := os h
 exact rq [false]
def Kiq (p : Int × K05 × Int) : Option (Bool) :=
 match p with
 | (u0,cap0,cap1) =>
  (Kd6 (cap0.fs,u0,cap1)) >>= fun a0 =>
  some (!a0)
def Kir (p : Int × K05 × Int) (r : Bool) : Prop :=
 match p with
 | (u0,cap0,cap1) => Q71 Tryz.prog 256 [I u0,.ptr [I cap0.fs.fSize,.sl (List.map I cap0.fs.fPlus),.sl (List.map I cap0.fs.fTimes),.sl (List.map AV.bool cap0.fs.fBelow)] 0,.ptr [I cap1] 0] (.bool r) []
theorem Kis : ∀ p r,Kiq p = some r → Kir p r := by
 rintro ⟨u0,cap0,cap1⟩ r h
 unfold Kiq at h
 refine b0 Tryz.f256 K6r 11 [(0,I u0),(1,.ptr [I cap0.fs.fSize,.sl (List.map I cap0.fs.fPlus),.sl (List.map I cap0.fs.fTimes),.sl (List.map AV.bool cap0.fs.fBelow)] 0),(2,.ptr [I cap1] 0)] fun c hc => ?_
 refine rs0 hc 1 [(0,I u0),(1,.ptr [I cap0.fs.fSize,.sl (List.map I cap0.fs.fPlus),.sl (List.map I cap0.fs.fTimes),.sl (List.map AV.bool cap0.fs.fBelow)] 0),(2,.ptr [I cap1] 0)] [] ?_
 obtain ⟨a0,a1,h⟩ := Qdd h
 refine rs hc none [oN,oN,oN,oN,oc (.bool a0),oN,oN] [(4,.bool (!a0))] [] (cq (Kd8 _ _ a1) K4v tv) ?_
 refine rt ?_
 obtain rfl := os h
 exact rq [true]
def Kit (c : Ctx) : (Unit) ⊕ (Int) → Exit → Q0a → Prop
 | .inl _ => Qcz c (.exit 0) (mkS [] [])
 | .inr r => Qd8 TIx Tryz.f193 [] (I r)
def Kiu (p : (List Int) × K05 × Int × Int) : Option ((Unit) ⊕ (Int)) :=
 match p with
 | (s0,clo1_0,clo1_1,a0) =>
  if (decide (a0 < (s0.length : Int))) = true then
  (idx s0 a0) >>= fun a1 =>
  (Kiq (a1,clo1_0,clo1_1)) >>= fun a2 =>
  if a2 = true then
  some (.inr a0)
  else
  Kiu (s0,clo1_0,clo1_1,(wr (a0 + 1)))
  else
  some (.inl ())
 partial_fixpoint
def Kiv (p : (List Int) × K05 × Int × Int) (fl : (Unit) ⊕ (Int)) : Prop :=
 match p with
 | (s0,clo1_0,clo1_1,a0) => ∀ c : Ctx,c.nt = 19 → WpL Tryz.prog c (cl (cl (cr (cl (cr K59))))) (Kit c fl) (mkS [(0,sI s0),(1,.fn 256 [.ptr [I clo1_0.fs.fSize,.sl (List.map I clo1_0.fs.fPlus),.sl (List.map I clo1_0.fs.fTimes),.sl (List.map AV.bool clo1_0.fs.fBelow)] 0,.ptr [I clo1_1] 0]),(7,I (s0.length : Int)),(8,I a0)] [])
theorem Kiw : ∀ p r,Kiu p = some r → Kiv p r := by
 refine Kiu.partial_correctness Kiv ?_
 rintro slices_IndexFunc_int_Kimpl_typerusedOk_c1_l0_f slices_IndexFunc_int_Kimpl_typerusedOk_c1_l0_ih ⟨s0,clo1_0,clo1_1,a0⟩ r h
 intro c hc
 refine WpL.step ?_
 refine rs0 hc 1 [(0,sI s0),(1,.fn 256 [.ptr [I clo1_0.fs.fSize,.sl (List.map I clo1_0.fs.fPlus),.sl (List.map I clo1_0.fs.fTimes),.sl (List.map AV.bool clo1_0.fs.fBelow)] 0,.ptr [I clo1_1] 0]),(7,I (s0.length : Int)),(8,I a0),(9,.bool (decide (a0 < (s0.length : Int))))] [] ?_
 refine sN ?_
 refine ic h (fun a1 h => ?_) fun a1 h => ?_
 ·refine sk ?_
  refine sN ?_
  refine bk 1 ?_
  refine rs0 hc 2 [(0,sI s0),(1,.fn 256 [.ptr [I clo1_0.fs.fSize,.sl (List.map I clo1_0.fs.fPlus),.sl (List.map I clo1_0.fs.fTimes),.sl (List.map AV.bool clo1_0.fs.fBelow)] 0,.ptr [I clo1_1] 0]),(5,I a0),(7,I (s0.length : Int)),(8,I a0)] [] ?_
  obtain ⟨a2,a3,a4,a5,h⟩ := bq2 h
  refine rs hc none [oN,oN,oN,some (.el (I a2)),oN,oc (.bool a4)] [(0,sI s0),(1,.fn 256 [.ptr [I clo1_0.fs.fSize,.sl (List.map I clo1_0.fs.fPlus),.sl (List.map I clo1_0.fs.fTimes),.sl (List.map AV.bool clo1_0.fs.fBelow)] 0,.ptr [I clo1_1] 0]),(5,I a0),(7,I (s0.length : Int)),(8,I a0),(16,.bool a4)] [] (ai (ix a3) (cq (Kis _ _ a5) K6s tv)) ?_
  refine ic h (fun a6 h => ?_) fun a6 h => ?_
  ·refine rs0 hc 2 [(4,I a0)] [] ?_
   refine rt ?_
   obtain rfl := os h
   exact re [true]
  refine sk ?_
  refine rg0 hc 2 [(0,sI s0),(1,.fn 256 [.ptr [I clo1_0.fs.fSize,.sl (List.map I clo1_0.fs.fPlus),.sl (List.map I clo1_0.fs.fTimes),.sl (List.map AV.bool clo1_0.fs.fBelow)] 0,.ptr [I clo1_1] 0]),(7,I (s0.length : Int)),(8,I (wr (a0 + 1)))] [] ?_
  refine Qcv ?_
  exact (slices_IndexFunc_int_Kimpl_typerusedOk_c1_l0_ih _ _ h c hc)
 refine xt 0 ?_
 refine Qcp ?_
 refine Qcw ?_
 obtain rfl := os h
 exact iv []
def Kix (p : (List Int) × K05 × Int) : Option (Int) :=
 match p with
 | (s0,clo1_0,clo1_1) =>
  (Kiu (s0,clo1_0,clo1_1,0)) >>= fun fl => match fl with
  | .inl () =>
   some (-1)
  | .inr r =>
   some r
def Kiy (p : (List Int) × K05 × Int) (r : Int) : Prop :=
 match p with
 | (s0,clo1_0,clo1_1) => Q71 Tryz.prog 193 [sI s0,.fn 256 [.ptr [I clo1_0.fs.fSize,.sl (List.map I clo1_0.fs.fPlus),.sl (List.map I clo1_0.fs.fTimes),.sl (List.map AV.bool clo1_0.fs.fBelow)] 0,.ptr [I clo1_1] 0]] (I r) []
theorem Kiz : ∀ p r,Kix p = some r → Kiy p r := by
 rintro ⟨s0,clo1_0,clo1_1⟩ r h
 unfold Kix at h
 refine b0 Tryz.f193 K59 19 [(0,sI s0),(1,.fn 256 [.ptr [I clo1_0.fs.fSize,.sl (List.map I clo1_0.fs.fPlus),.sl (List.map I clo1_0.fs.fTimes),.sl (List.map AV.bool clo1_0.fs.fBelow)] 0,.ptr [I clo1_1] 0])] fun c hc => ?_
 refine rs0 hc 1 [(0,sI s0),(1,.fn 256 [.ptr [I clo1_0.fs.fSize,.sl (List.map I clo1_0.fs.fPlus),.sl (List.map I clo1_0.fs.fTimes),.sl (List.map AV.bool clo1_0.fs.fBelow)] 0,.ptr [I clo1_1] 0])] [] ?_
 refine sN ?_
 refine rs hc none [oN,some (.eqv (.no) ⟨[(7,I (s0.length : Int))],[],[]⟩),oN] [(0,sI s0),(1,.fn 256 [.ptr [I clo1_0.fs.fSize,.sl (List.map I clo1_0.fs.fPlus),.sl (List.map I clo1_0.fs.fTimes),.sl (List.map AV.bool clo1_0.fs.fBelow)] 0,.ptr [I clo1_1] 0]),(7,I (s0.length : Int)),(8,I 0)] [] (ai (Qdj (d := 7) I s0) tv) ?_
 refine bk 0 ?_
 obtain ⟨fl,a0,h⟩ := Qdd h
 have hL := Kiw _ _ a0 c hc
 refine lp ?_
 rcases fl with ⟨⟩ | r
 ·refine WpL.into (e := (.exit 0)) (mkS [] []) hL ?_
  refine Qcr ?_
  refine rs0 hc 1 [(4,I (-1))] [] ?_
  refine rt ?_
  obtain rfl := os h
  exact rq [true]
 refine WpL.mono hL ?_
 rintro _ _ ⟨rfl,hfin⟩
 obtain rfl := os h
 exact ⟨.inl rfl,hfin⟩
def Kj0 (p : (List Int) × K05 × Int) : Option (Bool) :=
 match p with
 | (s0,clo1_0,clo1_1) =>
  (Kix (s0,clo1_0,clo1_1)) >>= fun a0 =>
  some (decide (a0 ≥ 0))
def Kj1 (p : (List Int) × K05 × Int) (r : Bool) : Prop :=
 match p with
 | (s0,clo1_0,clo1_1) => Q71 Tryz.prog 116 [sI s0,.fn 256 [.ptr [I clo1_0.fs.fSize,.sl (List.map I clo1_0.fs.fPlus),.sl (List.map I clo1_0.fs.fTimes),.sl (List.map AV.bool clo1_0.fs.fBelow)] 0,.ptr [I clo1_1] 0]] (.bool r) []
theorem Kj2 : ∀ p r,Kj0 p = some r → Kj1 p r := by
 rintro ⟨s0,clo1_0,clo1_1⟩ r h
 unfold Kj0 at h
 refine b0 Tryz.f116 K5b 9 [(0,sI s0),(1,.fn 256 [.ptr [I clo1_0.fs.fSize,.sl (List.map I clo1_0.fs.fPlus),.sl (List.map I clo1_0.fs.fTimes),.sl (List.map AV.bool clo1_0.fs.fBelow)] 0,.ptr [I clo1_1] 0])] fun c hc => ?_
 refine rs0 hc 1 [(0,sI s0),(1,.fn 256 [.ptr [I clo1_0.fs.fSize,.sl (List.map I clo1_0.fs.fPlus),.sl (List.map I clo1_0.fs.fTimes),.sl (List.map AV.bool clo1_0.fs.fBelow)] 0,.ptr [I clo1_1] 0])] [] ?_
 obtain ⟨a0,a1,h⟩ := Qdd h
 refine rs hc none [oN,oN,oc (I a0),oN,oN] [(4,.bool (decide (a0 ≥ 0)))] [] (cq (Kiz _ _ a1) K5a tv) ?_
 refine rt ?_
 obtain rfl := os h
 exact rq [true]
def Kj3 (p : K05 × (List Int) × Int) : Option (Bool) :=
 match p with
 | (p0,l1,g2) =>
  (Kj0 (l1,p0,g2)) >>= fun a0 =>
  some (!a0)
def Kj4 (p : K05 × (List Int) × Int) (r : Bool) : Prop :=
 match p with
 | (p0,l1,g2) => Q71 Tryz.prog 247 [K21 p0,sI l1,I g2] (.bool r) []
theorem Kj5 : ∀ p r,Kj3 p = some r → Kj4 p r := by
 rintro ⟨p0,l1,g2⟩ r h
 unfold Kj3 at h
 refine b0 Tryz.f247 K6t 11 [(0,K21 p0),(1,sI l1),(2,I g2)] fun c hc => ?_
 refine rs hc none [some (.new 1),some (.new 2),oN] [(1,sI l1),(3,.ra 1 0),(5,.ra 2 0)] [(1,K20 p0),(2,.box [I g2])] tv ?_
 obtain ⟨a0,a1,h⟩ := Qdd h
 refine rs hc none [oN,oN,oc (.bool a0),oN,oN] [(6,.bool (!a0))] [] (ac (Kj2 _ _ a1) K5c (Or.inr rfl : ([1,2] : List Nat) = [] ∨ noSh (.bool a0) = true) tv) ?_
 refine rt ?_
 obtain rfl := os h
 exact rq [true]
def Kj6 (c : Ctx) : (List Int) → Exit → Q0a → Prop
 | a0 => Qcz c (.exit 0) (mkS [(7,.rs 2)] [(2,rI a0)])
def Kj7 (p : K05 × Int × (List Int) × (List Int) × Int) : Option ((List Int)) :=
 match p with
 | (p0,g1,l2,a0,a1) =>
  if (decide (a1 < (l2.length : Int))) = true then
  (idx l2 a1) >>= fun a2 =>
  (Kd3 (p0.fs,g1,a2)) >>= fun a3 =>
  (idx a0 a1) >>= fun a4 =>
  Kj7 (p0,g1,l2,(List.set a0 (Int.toNat a1) a3),(wr (a1 + 1)))
  else
  some (a0)
 partial_fixpoint
def Kj8 (p : K05 × Int × (List Int) × (List Int) × Int) (fl : (List Int)) : Prop :=
 match p with
 | (p0,g1,l2,a0,a1) => ∀ c : Ctx,c.nt = 30 → WpL Tryz.prog c (cl (cl (cr (cl (cr (cr K6v)))))) (Kj6 c fl) (mkS [(1,I g1),(3,.ra 1 0),(7,.rs 2),(13,sI l2),(14,I (l2.length : Int)),(15,I a1)] [(1,K20 p0),(2,rI a0)])
theorem Kj9 : ∀ p r,Kj7 p = some r → Kj8 p r := by
 refine Kj7.partial_correctness Kj8 ?_
 rintro impl_typerscaled_l0_f impl_typerscaled_l0_ih ⟨p0,g1,l2,a0,a1⟩ r h
 intro c hc
 refine WpL.step ?_
 refine K7k hc 1 [(1,I g1),(3,.ra 1 0),(7,.rs 2),(13,sI l2),(14,I (l2.length : Int)),(15,I a1),(16,.bool (decide (a1 < (l2.length : Int))))] ?_
 refine sN ?_
 refine ic h (fun a2 h => ?_) fun a2 h => ?_
 ·refine sk ?_
  refine sN ?_
  refine bk 1 ?_
  obtain ⟨a3,a4,h⟩ := Qdd h
  refine rss hc none [oN,some (.el (I a3)),oN,oN,oN] [(1,I g1),(3,.ra 1 0),(7,.rs 2),(8,I a1),(9,I a3),(13,sI l2),(14,I (l2.length : Int)),(15,I a1)] (ai (ix a4) tv) ?_
  obtain ⟨a5,a6,a7,a8,h⟩ := bq2 h
  refine rg hc none [oN,oN,oN,oN,oN,oN,oc (I a5),oN,some (.eqv (.mk 0 true) ⟨[],[(2,some (.arr (List.map I (List.set a0 (Int.toNat a1) a5))))],[]⟩)] [(1,I g1),(3,.ra 1 0),(7,.rs 2),(13,sI l2),(14,I (l2.length : Int)),(15,I a1)] [(1,K20 p0),(2,.arr (List.map I (List.set a0 (Int.toNat a1) a5)))] (cq (Kd5 _ _ a6) K4u (ac (Qdi (enc := I) a8) (congrArg (fun z => (⟨[],[(2,some (.arr z))],[]⟩ : Wr)) (Qeg (enc := I) (i := Int.toNat a1) (l := a0) (v := a5) (x := I a5) (Qds a5))) (Qeh (enc := I) (sz := 1) Qdw a8) tv)) ?_
  refine K7j hc 2 [(1,I g1),(3,.ra 1 0),(7,.rs 2),(13,sI l2),(14,I (l2.length : Int)),(15,I (wr (a1 + 1)))] ?_
  refine Qcv ?_
  exact (impl_typerscaled_l0_ih _ _ h c hc)
 refine xt 0 ?_
 refine Qcp ?_
 refine Qcw ?_
 obtain rfl := os h
 exact iv []
def Kja (p : K05 × Int × (List Int)) : Option ((List Int)) :=
 match p with
 | (p0,g1,l2) =>
  (chk (0 ≤ (l2.length : Int) ∧ (Int.toNat (l2.length : Int)) * 8 ≤ 140737488355328)) >>= fun _ =>
  (Kj7 (p0,g1,l2,(List.replicate (Int.toNat (l2.length : Int)) 0),0)) >>= fun a0 =>
  some a0
def Kjb (p : K05 × Int × (List Int)) (r : (List Int)) : Prop :=
 match p with
 | (p0,g1,l2) => Q71 Tryz.prog 248 [K21 p0,I g1,sI l2] (oI r) []
theorem Kjc : ∀ p r,Kja p = some r → Kjb p r := by
 rintro ⟨p0,g1,l2⟩ r h
 unfold Kja at h
 refine b0 Tryz.f248 K6v 30 [(0,K21 p0),(1,I g1),(2,sI l2)] fun c hc => ?_
 refine rs hc none [some (.new 1),oN] [(1,I g1),(2,sI l2),(3,.ra 1 0)] [(1,K20 p0)] tv ?_
 obtain ⟨_,a0,h⟩ := Qdd h
 refine rs hc none [oN,some (.eqv (.no) ⟨[(11,I (l2.length : Int))],[],[]⟩),some (.eqv (.mk 2 true) ⟨[(12,.rs 2)],[(2,some (.arr (List.map I (List.replicate (Int.toNat (l2.length : Int)) 0))))],[2]⟩),oN] [(1,I g1),(2,sI l2),(3,.ra 1 0),(7,.rs 2)] [(1,K20 p0),(2,.arr (List.map I (List.replicate (Int.toNat (l2.length : Int)) 0)))] (ac (Qdj (d := 11) I l2) (congrArg (fun z => (⟨[(12,.rs 2)],[(2,some (.arr z))],[2]⟩ : Wr)) (Qei (enc := I) (n := Int.toNat (l2.length : Int)) (x := I 0) (Qds 0))) (And.intro (Eq.refl (l2.length : Int)) (Qdf a0)) tv) ?_
 refine sN ?_
 refine rss hc none [oN,some (.eqv (.no) ⟨[(14,I (l2.length : Int))],[],[]⟩),oN] [(1,I g1),(3,.ra 1 0),(7,.rs 2),(13,sI l2),(14,I (l2.length : Int)),(15,I 0)] (ai (Qdj (d := 14) I l2) tv) ?_
 refine bk 0 ?_
 obtain ⟨a1,a2,h⟩ := Qdd h
 have hL := Kj9 _ _ a2 c hc
 refine lp ?_
 refine WpL.into (e := (.exit 0)) (mkS [(7,.rs 2)] [(2,rI a1)]) hL ?_
 refine Qcr ?_
 refine K7k hc 2 [(6,.rs 2)] ?_
 refine rt ?_
 obtain rfl := os h
 exact rq [true]
def Kjd (ty0 : (List Int)) : Option (Bool) :=
 some (decide ((ty0.length : Int) > 40))
def Kje (ty0 : (List Int)) (r : Bool) : Prop :=
 Q71 Tryz.prog 249 [sI ty0] (.bool r) []
theorem Kjf : ∀ p r,Kjd p = some r → Kje p r := by
 rintro ty0 r h
 unfold Kjd at h
 refine b0 Tryz.f249 K6x 6 [(0,sI ty0)] fun c hc => ?_
 refine rs0 hc 1 [(0,sI ty0)] [] ?_
 refine rs hc none [oN,some (.eqv (.no) ⟨[(4,I (ty0.length : Int))],[],[]⟩),oN,oN] [(2,.bool (decide ((ty0.length : Int) > 40)))] [] (ai (Qdj (d := 4) I ty0) tv) ?_
 refine rt ?_
 obtain rfl := os h
 exact rq [true]
def Kjg (c : Ctx) (p0 : K05) (out1 : K03) (ctx2 : LL) (t3 : K02) (needs4 : LL) (used5 : LL) : ((List Int) × (List Int)) ⊕ ((Int × K03)) → Exit → Q0a → Prop
 | .inl (a0,a1) => Qcz c .normal (mkS [(7,.ra 2 0)] [(2,.box [.ra 2000 0]),(36,rI a1),(2000,.box [sI a0,.rs 36,.sl (List.map K06 out1.fkids),I out1.ffault,sI out1.fpath])])
 | .inr r => Qdb TIx Tryz.f222 [K21 p0,.optr [oI out1.fty,oI out1.fneeds,.osl (List.map K06 out1.fkids),I out1.ffault,oI out1.fpath],sL ctx2,K1x t3,sL needs4,sL used5] (I r.1,[.undef,.optr [.sl (List.map I r.2.fty),.sl (List.map I r.2.fneeds),.sl (List.map K06 r.2.fkids),I r.2.ffault,.sl (List.map I r.2.fpath)],.undef,.undef,.undef,.undef])
def Kjh (c : Ctx) (p0 : K05) (out1 : K03) (ctx2 : LL) (t3 : K02) (needs4 : LL) (used5 : LL) : ((List Int) × (List Int)) ⊕ ((Int × K03)) → Exit → Q0a → Prop
 | .inl (a0,a1) => Qcz c .normal (mkS [(7,.ra 2 0)] [(2,.box [.ra 2000 0]),(34,rI a1),(2000,.box [sI a0,.rs 34,.sl (List.map K06 out1.fkids),I out1.ffault,sI out1.fpath])])
 | .inr r => Qdb TIx Tryz.f222 [K21 p0,.optr [oI out1.fty,oI out1.fneeds,.osl (List.map K06 out1.fkids),I out1.ffault,oI out1.fpath],sL ctx2,K1x t3,sL needs4,sL used5] (I r.1,[.undef,.optr [.sl (List.map I r.2.fty),.sl (List.map I r.2.fneeds),.sl (List.map K06 r.2.fkids),I r.2.ffault,.sl (List.map I r.2.fpath)],.undef,.undef,.undef,.undef])
def Kji (c : Ctx) (p0 : K05) (out1 : K03) (ctx2 : LL) (t3 : K02) (needs4 : LL) (used5 : LL) : ((List Int) × (List Int)) ⊕ ((Int × K03)) → Exit → Q0a → Prop
 | .inl (a0,a1) => Qcz c .normal (mkS [(7,.ra 2 0)] [(2,.box [.ra 2000 0]),(30,rI a1),(2000,.box [sI a0,.rs 30,.sl (List.map K06 out1.fkids),I out1.ffault,sI out1.fpath])])
 | .inr r => Qdb TIx Tryz.f222 [K21 p0,.optr [oI out1.fty,oI out1.fneeds,.osl (List.map K06 out1.fkids),I out1.ffault,oI out1.fpath],sL ctx2,K1x t3,sL needs4,sL used5] (I r.1,[.undef,.optr [.sl (List.map I r.2.fty),.sl (List.map I r.2.fneeds),.sl (List.map K06 r.2.fkids),I r.2.ffault,.sl (List.map I r.2.fpath)],.undef,.undef,.undef,.undef])
def Kjj (c : Ctx) (p0 : K05) (out1 : K03) (ctx2 : LL) (t3 : K02) (needs4 : LL) (used5 : LL) : ((List Int) × (List Int)) ⊕ ((Int × K03)) → Exit → Q0a → Prop
 | .inl (a0,a1) => Qcz c .normal (mkS [(7,.ra 2 0)] [(2,.box [.ra 2000 0]),(2000,.box [sI a0,sI a1,.sl (List.map K06 out1.fkids),I out1.ffault,sI out1.fpath])])
 | .inr r => Qdb TIx Tryz.f222 [K21 p0,.optr [oI out1.fty,oI out1.fneeds,.osl (List.map K06 out1.fkids),I out1.ffault,oI out1.fpath],sL ctx2,K1x t3,sL needs4,sL used5] (I r.1,[.undef,.optr [.sl (List.map I r.2.fty),.sl (List.map I r.2.fneeds),.sl (List.map K06 r.2.fkids),I r.2.ffault,.sl (List.map I r.2.fpath)],.undef,.undef,.undef,.undef])
def Kjk (c : Ctx) (p0 : K05) (out1 : K03) (ctx2 : LL) (t3 : K02) (needs4 : LL) (used5 : LL) : ((List Int) × (List Int)) ⊕ ((Int × K03)) → Exit → Q0a → Prop
 | .inl (a0,a1) => Qcz c .normal (mkS [(7,.ra 2 0)] [(2,.box [.ra 2000 0]),(2000,.box [sI a0,sI a1,.sl (List.map K06 out1.fkids),I out1.ffault,sI out1.fpath])])
 | .inr r => Qdb TIx Tryz.f222 [K21 p0,.optr [oI out1.fty,oI out1.fneeds,.osl (List.map K06 out1.fkids),I out1.ffault,oI out1.fpath],sL ctx2,K1x t3,sL needs4,sL used5] (I r.1,[.undef,.optr [.sl (List.map I r.2.fty),.sl (List.map I r.2.fneeds),.sl (List.map K06 r.2.fkids),I r.2.ffault,.sl (List.map I r.2.fpath)],.undef,.undef,.undef,.undef])
def Kjl (c : Ctx) (p0 : K05) (out1 : K03) (ctx2 : LL) (t3 : K02) (needs4 : LL) (used5 : LL) : ((List Int) × (List Int)) ⊕ ((Int × K03)) → Exit → Q0a → Prop
 | .inl (a0,a1) => Qcz c .normal (mkS [(7,.ra 2 0)] [(2,.box [.ra 2000 0]),(2000,.box [sI a0,sI a1,.sl (List.map K06 out1.fkids),I out1.ffault,sI out1.fpath])])
 | .inr r => Qdb TIx Tryz.f222 [K21 p0,.optr [oI out1.fty,oI out1.fneeds,.osl (List.map K06 out1.fkids),I out1.ffault,oI out1.fpath],sL ctx2,K1x t3,sL needs4,sL used5] (I r.1,[.undef,.optr [.sl (List.map I r.2.fty),.sl (List.map I r.2.fneeds),.sl (List.map K06 r.2.fkids),I r.2.ffault,.sl (List.map I r.2.fpath)],.undef,.undef,.undef,.undef])
def Kjm (c : Ctx) (p0 : K05) (out1 : K03) (ctx2 : LL) (t3 : K02) (needs4 : LL) (used5 : LL) : ((List Int) × (List Int)) ⊕ ((Int × K03)) → Exit → Q0a → Prop
 | .inl (a0,a1) => Qcz c .normal (mkS [(7,.ra 2 0)] [(2,.box [.ra 2000 0]),(2000,.box [sI a0,sI a1,.sl (List.map K06 out1.fkids),I out1.ffault,sI out1.fpath])])
 | .inr r => Qdb TIx Tryz.f222 [K21 p0,.optr [oI out1.fty,oI out1.fneeds,.osl (List.map K06 out1.fkids),I out1.ffault,oI out1.fpath],sL ctx2,K1x t3,sL needs4,sL used5] (I r.1,[.undef,.optr [.sl (List.map I r.2.fty),.sl (List.map I r.2.fneeds),.sl (List.map K06 r.2.fkids),I r.2.ffault,.sl (List.map I r.2.fpath)],.undef,.undef,.undef,.undef])
def Kjn (c : Ctx) (p0 : K05) (out1 : K03) (ctx2 : LL) (t3 : K02) (needs4 : LL) (used5 : LL) : ((List Int) × (List Int)) ⊕ ((Int × K03)) → Exit → Q0a → Prop
 | .inl (a0,a1) => Qcz c .normal (mkS [(7,.ra 2 0)] [(2,.box [.ra 2000 0]),(2000,.box [sI a0,sI a1,.sl (List.map K06 out1.fkids),I out1.ffault,sI out1.fpath])])
 | .inr r => Qdb TIx Tryz.f222 [K21 p0,.optr [oI out1.fty,oI out1.fneeds,.osl (List.map K06 out1.fkids),I out1.ffault,oI out1.fpath],sL ctx2,K1x t3,sL needs4,sL used5] (I r.1,[.undef,.optr [.sl (List.map I r.2.fty),.sl (List.map I r.2.fneeds),.sl (List.map K06 r.2.fkids),I r.2.ffault,.sl (List.map I r.2.fpath)],.undef,.undef,.undef,.undef])
def Kjo (c : Ctx) (p0 : K05) (out1 : K03) (ctx2 : LL) (t3 : K02) (needs4 : LL) (used5 : LL) : ((List Int) × (List Int)) ⊕ ((Int × K03)) → Exit → Q0a → Prop
 | .inl (a0,a1) => Qcz c .normal (mkS [(7,.ra 2 0)] [(2,.box [.ra 2000 0]),(2000,.box [sI a0,sI a1,.sl (List.map K06 out1.fkids),I out1.ffault,sI out1.fpath])])
 | .inr r => Qdb TIx Tryz.f222 [K21 p0,.optr [oI out1.fty,oI out1.fneeds,.osl (List.map K06 out1.fkids),I out1.ffault,oI out1.fpath],sL ctx2,K1x t3,sL needs4,sL used5] (I r.1,[.undef,.optr [.sl (List.map I r.2.fty),.sl (List.map I r.2.fneeds),.sl (List.map K06 r.2.fkids),I r.2.ffault,.sl (List.map I r.2.fpath)],.undef,.undef,.undef,.undef])
def Kjp (c : Ctx) (p0 : K05) (out1 : K03) (ctx2 : LL) (t3 : K02) (needs4 : LL) (used5 : LL) : ((List Int) × (List Int)) ⊕ ((Int × K03)) → Exit → Q0a → Prop
 | .inl (a0,a1) => Qcz c .normal (mkS [(7,.ra 2 0)] [(2,.box [.ra 2000 0]),(2000,.box [sI a0,sI a1,.sl (List.map K06 out1.fkids),I out1.ffault,sI out1.fpath])])
 | .inr r => Qdb TIx Tryz.f222 [K21 p0,.optr [oI out1.fty,oI out1.fneeds,.osl (List.map K06 out1.fkids),I out1.ffault,oI out1.fpath],sL ctx2,K1x t3,sL needs4,sL used5] (I r.1,[.undef,.optr [.sl (List.map I r.2.fty),.sl (List.map I r.2.fneeds),.sl (List.map K06 r.2.fkids),I r.2.ffault,.sl (List.map I r.2.fpath)],.undef,.undef,.undef,.undef])
def Kjq (c : Ctx) (p0 : K05) (out1 : K03) (ctx2 : LL) (t3 : K02) (needs4 : LL) (used5 : LL) : ((List Int) × (List Int)) ⊕ ((Int × K03)) → Exit → Q0a → Prop
 | .inl (a0,a1) => Qcz c .normal (mkS [(7,.ra 2 0)] [(2,.box [.ra 2000 0]),(2000,.box [sI a0,sI a1,.sl (List.map K06 out1.fkids),I out1.ffault,sI out1.fpath])])
 | .inr r => Qdb TIx Tryz.f222 [K21 p0,.optr [oI out1.fty,oI out1.fneeds,.osl (List.map K06 out1.fkids),I out1.ffault,oI out1.fpath],sL ctx2,K1x t3,sL needs4,sL used5] (I r.1,[.undef,.optr [.sl (List.map I r.2.fty),.sl (List.map I r.2.fneeds),.sl (List.map K06 r.2.fkids),I r.2.ffault,.sl (List.map I r.2.fpath)],.undef,.undef,.undef,.undef])
def Kjr (c : Ctx) (p0 : K05) (out1 : K03) (ctx2 : LL) (t3 : K02) (needs4 : LL) (used5 : LL) : ((List Int) × (List Int)) ⊕ ((Int × K03)) → Exit → Q0a → Prop
 | .inl (a0,a1) => Qcz c .normal (mkS [(7,.ra 2 0)] [(2,.box [.ra 2000 0]),(2000,.box [sI a0,sI a1,.sl (List.map K06 out1.fkids),I out1.ffault,sI out1.fpath])])
 | .inr r => Qdb TIx Tryz.f222 [K21 p0,.optr [oI out1.fty,oI out1.fneeds,.osl (List.map K06 out1.fkids),I out1.ffault,oI out1.fpath],sL ctx2,K1x t3,sL needs4,sL used5] (I r.1,[.undef,.optr [.sl (List.map I r.2.fty),.sl (List.map I r.2.fneeds),.sl (List.map K06 r.2.fkids),I r.2.ffault,.sl (List.map I r.2.fpath)],.undef,.undef,.undef,.undef])
def Kjs (c : Ctx) (p0 : K05) (out1 : K03) (ctx2 : LL) (t3 : K02) (needs4 : LL) (used5 : LL) : ((List Int) × (List Int)) ⊕ ((Int × K03)) → Exit → Q0a → Prop
 | .inl (a0,a1) => Qcz c .normal (mkS [(7,.ra 2 0)] [(2,.box [.ra 2000 0]),(2000,.box [sI a0,sI a1,.sl (List.map K06 out1.fkids),I out1.ffault,sI out1.fpath])])
 | .inr r => Qdb TIx Tryz.f222 [K21 p0,.optr [oI out1.fty,oI out1.fneeds,.osl (List.map K06 out1.fkids),I out1.ffault,oI out1.fpath],sL ctx2,K1x t3,sL needs4,sL used5] (I r.1,[.undef,.optr [.sl (List.map I r.2.fty),.sl (List.map I r.2.fneeds),.sl (List.map K06 r.2.fkids),I r.2.ffault,.sl (List.map I r.2.fpath)],.undef,.undef,.undef,.undef])
end Go.Am
