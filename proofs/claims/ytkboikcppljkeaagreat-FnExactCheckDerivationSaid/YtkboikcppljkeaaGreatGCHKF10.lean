/- Functions of the program as pure functions,and that it computes them. Printed by a program of mine (gen.py). -/
import Derived.Test.YtkboikcppljkeaaGreatGCHKF7
set_option linter.unusedVariables false
set_option linter.unusedSimpArgs false
set_option maxRecDepth 100000
namespace Go.Am
open Go Go.Proofs
def Kk3 : Option (List (List Nat)) := rx [[0],[0],[2],[3],[4],[5],[5],[5,6],[5],[5,6,7,8],[5,6,7,8,9],[11],[12],[13]]
def Kk4 (p : K00 × K02 × Int) : Option ((Unit) ⊕ (Bool)) :=
 match p with
 | (s0,j1,a0) =>
  if (decide (a0 < (j1.fCtx.length : Int))) = true then
  (idx j1.fCtx a0) >>= fun a1 =>
  ((
  (Kji (s0,a1)) >>= fun a2 =>
  if a2 = true then
  (idx j1.fBudgets a0) >>= fun a3 =>
  (Khq (s0,a3)) >>= fun a4 =>
  some ((!a4))
  else
  some (true)
  ) : Option (Bool)) >>= fun a5 =>
  if a5 = true then
  some (.inr false)
  else
  Kk4 (s0,j1,(wr (a0 + 1)))
  else
  some (.inl ())
 partial_fixpoint
def Kk5 (p : K00 × K02 × Int) (fl : (Unit) ⊕ (Bool)) : Prop :=
 match p with
 | (s0,j1,a0) => ∀ c : Ctx,c.nt = 60 → WpL Tryz.prog c (cl (cl (cr (cl (cr (cr B72)))))) (Kk2 c s0 j1 fl) (mkS [(2,.ra 1 0),(3,.ra 2 0),(28,sL j1.fCtx),(29,I (j1.fCtx.length : Int)),(30,I a0)] [(1,K2d s0),(2,K2h j1)])
theorem Kk6 : ∀ p r,Kk4 p = some r → Kk5 p r := by
 refine Kk4.partial_correctness Kk5 ?_
 rintro impl_isJudgment_l0_f impl_isJudgment_l0_ih ⟨s0,j1,a0⟩ r h
 intro c hc
 refine WpL.step ?_
 refine K8d hc 1 [(2,.ra 1 0),(3,.ra 2 0),(28,sL j1.fCtx),(29,I (j1.fCtx.length : Int)),(30,I a0),(31,.bool (decide (a0 < (j1.fCtx.length : Int))))] ?_
 refine sN ?_
 refine ic h (fun a1 h => ?_) fun a1 h => ?_
 ·refine sk ?_
  refine sN ?_
  refine bk 1 ?_
  obtain ⟨a2,a3,h⟩ := Qdd h
  refine rss hc none [oN,some (.el (sI a2)),oN,oN,oN] [(2,.ra 1 0),(3,.ra 2 0),(5,I a0),(6,sI a2),(28,sL j1.fCtx),(29,I (j1.fCtx.length : Int)),(30,I a0)] (ai (xL a3) tv) ?_
  refine sN ?_
  obtain ⟨a4,a5,h⟩ := Qdd h
  refine Wp.into (x := .normal) (mkS [(2,.ra 1 0),(3,.ra 2 0),(28,sL j1.fCtx),(29,I (j1.fCtx.length : Int)),(30,I a0),(48,.bool a4)] [(1,K2d s0),(2,K2h j1)]) ?_ ?_
  ·replace h := a5
   obtain ⟨a6,a7,h⟩ := Qdd h
   rcases is h with ⟨a8,h⟩ | ⟨a8,h⟩
   ·obtain ⟨a9,b1,b2,b3,h⟩ := bq2 h
    refine rgs hc Kk3 [oN,oN,oc (.bool a6),oN,oN,oN,oN,oN,oN,some (.el (I a9)),oN,oc (.bool b2),oN,oF] [(2,.ra 1 0),(3,.ra 2 0),(28,sL j1.fCtx),(29,I (j1.fCtx.length : Int)),(30,I a0),(48,.bool (!b2))] (cq (Kjk _ _ a7) K6m (ar 5 (nF a8) (ai (ix b1) (ar 2 (nF a8) (cq (Khs _ _ b3) K68 (ar 2 (nF a8) tv)))))) ?_
    obtain rfl := os h
    exact Qcz.mk
   refine rgs hc Kk3 [oN,oN,oc (.bool a6),oN,oN,o_,o_,o_,o_,o_,o_,o_,o_,oT] [(2,.ra 1 0),(3,.ra 2 0),(28,sL j1.fCtx),(29,I (j1.fCtx.length : Int)),(30,I a0),(48,.bool true)] (cq (Kjk _ _ a7) K6m (ar 8 (neF (nT a8)) (ai (nT a8) tv))) ?_
   obtain rfl := os h
   exact Qcz.mk
  clear a5
  refine ic h (fun b4 h => ?_) fun b4 h => ?_
  ·refine rs0 hc 1 [(4,.bool false)] [] ?_
   refine rt ?_
   obtain rfl := os h
   exact re [true]
  refine sk ?_
  refine K8c hc 2 [(2,.ra 1 0),(3,.ra 2 0),(28,sL j1.fCtx),(29,I (j1.fCtx.length : Int)),(30,I (wr (a0 + 1)))] ?_
  refine Qcv ?_
  exact (impl_isJudgment_l0_ih _ _ h c hc)
 refine xt 0 ?_
 refine Qcp ?_
 refine Qcw ?_
 obtain rfl := os h
 exact iv []
def Kk7 (p : K00 × K02) : Option (Bool) :=
 match p with
 | (s0,j1) =>
  ((
  if (decide ((j1.fCtx.length : Int) > 400)) = true then
   some (true)
  else
   if ((j1.fBudgets.length : Int) != (j1.fCtx.length : Int)) = true then
   some (true)
   else
   (Kji (s0,j1.fType)) >>= fun a0 =>
   some ((!a0))
  ) : Option (Bool)) >>= fun a1 =>
  if a1 = true then
  some false
  else
  (Kk4 (s0,j1,0)) >>= fun fl => match fl with
  | .inl () =>
   (Kjv (j1.fTerm,(j1.fCtx.length : Int),s0,s0,0)) >>= fun a2 =>
   some (decide (a2 ≤ 400))
  | .inr r =>
   some r
def Kk8 (p : K00 × K02) (r : Bool) : Prop :=
 match p with
 | (s0,j1) => Q71 Tryz.prog 72 [K2e s0,K2i j1] (.bool r) []
theorem Kk9 : ∀ p r,Kk7 p = some r → Kk8 p r := by
 rintro ⟨s0,j1⟩ r h
 unfold Kk7 at h
 refine b0 Tryz.f72 B72 60 [(0,K2e s0),(1,K2i j1)] fun c hc => ?_
 refine rs hc none [some (.new 1),some (.new 2),oN] [(2,.ra 1 0),(3,.ra 2 0)] [(1,K2d s0),(2,K2h j1)] tv ?_
 refine sN ?_
 refine sN ?_
 obtain ⟨a0,a1,h⟩ := Qdd h
 refine Wp.into (x := .normal) (mkS [(2,.ra 1 0),(3,.ra 2 0),(26,.bool a0)] [(1,K2d s0),(2,K2h j1)]) ?_ ?_
 ·replace h := a1
  rcases is h with ⟨a2,h⟩ | ⟨a2,h⟩
  ·refine rgs hc none [oN,oN,some (.eqv (.no) ⟨[(9,I (j1.fCtx.length : Int))],[],[]⟩),oN,oN,o_,o_,o_,o_,o_,o_,o_,oT,oN,o_,o_,o_,o_,o_,oT] [(2,.ra 1 0),(3,.ra 2 0),(26,.bool true)] (ai (Qdj (d := 9) K07 j1.fCtx) (ar 7 (neF a2) (ai a2 (ar 5 nf (ai tt tv))))) ?_
   obtain rfl := os h
   exact Qcz.mk
  rcases is h with ⟨a3,h⟩ | ⟨a3,h⟩
  ·refine rgs hc none [oN,oN,some (.eqv (.no) ⟨[(9,I (j1.fCtx.length : Int))],[],[]⟩),oN,oN,oN,oN,some (.eqv (.no) ⟨[(14,I (j1.fBudgets.length : Int))],[],[]⟩),oN,oN,some (.eqv (.no) ⟨[(17,I (j1.fCtx.length : Int))],[],[]⟩),oN,oF,oN,o_,o_,o_,o_,o_,oT] [(2,.ra 1 0),(3,.ra 2 0),(26,.bool true)] (ai (Qdj (d := 9) K07 j1.fCtx) (ar 3 a2 (ai (Qdj (d := 14) I j1.fBudgets) (ar 3 a2 (ai (Qdj (d := 17) K07 j1.fCtx) (ar 2 a2 (ar 5 (neF a3) (ai a3 tv)))))))) ?_
   obtain rfl := os h
   exact Qcz.mk
  obtain ⟨a4,a5,h⟩ := Qdd h
  refine rgs hc none [oN,oN,some (.eqv (.no) ⟨[(9,I (j1.fCtx.length : Int))],[],[]⟩),oN,oN,oN,oN,some (.eqv (.no) ⟨[(14,I (j1.fBudgets.length : Int))],[],[]⟩),oN,oN,some (.eqv (.no) ⟨[(17,I (j1.fCtx.length : Int))],[],[]⟩),oN,oF,oN,oN,oN,oN,oc (.bool a4),oN,oF] [(2,.ra 1 0),(3,.ra 2 0),(26,.bool (!a4))] (ai (Qdj (d := 9) K07 j1.fCtx) (ar 3 a2 (ai (Qdj (d := 14) I j1.fBudgets) (ar 3 a2 (ai (Qdj (d := 17) K07 j1.fCtx) (ar 2 a2 (ar 4 a3 (cq (Kjk _ _ a5) K6m (ar 2 a3 tv))))))))) ?_
  obtain rfl := os h
  exact Qcz.mk
 clear a1
 refine ic h (fun a6 h => ?_) fun a6 h => ?_
 ·refine rs0 hc 1 [(4,.bool false)] [] ?_
  refine rt ?_
  obtain rfl := os h
  exact rq [true]
 refine sk ?_
 refine sN ?_
 refine rss hc none [oN,oN,some (.eqv (.no) ⟨[(29,I (j1.fCtx.length : Int))],[],[]⟩),oN] [(2,.ra 1 0),(3,.ra 2 0),(28,sL j1.fCtx),(29,I (j1.fCtx.length : Int)),(30,I 0)] (ai (Qdj (d := 29) K07 j1.fCtx) tv) ?_
 refine bk 0 ?_
 obtain ⟨fl,a7,h⟩ := Qdd h
 have hL := Kk6 _ _ a7 c hc
 refine lp ?_
 rcases fl with ⟨⟩ | r
 ·refine WpL.into (e := (.exit 0)) (mkS [(2,.ra 1 0),(3,.ra 2 0)] [(1,K2d s0),(2,K2h j1)]) hL ?_
  refine Qcr ?_
  obtain ⟨a8,a9,h⟩ := Qdd h
  refine rs hc none [oN,oN,oN,oN,some (.eqv (.no) ⟨[(54,I (j1.fCtx.length : Int))],[],[]⟩),oN,oN,oN,oc (I a8),oN,oN] [(4,.bool (decide (a8 ≤ 400)))] [] (ad (Qdj (d := 54) K07 j1.fCtx) (Kk0 _ _ a9) K6u (Or.inr rfl : ([1] : List Nat) = [] ∨ noSh (I a8) = true) tv) ?_
  refine rt ?_
  obtain rfl := os h
  exact rq [true]
 refine WpL.mono hL ?_
 rintro _ _ ⟨rfl,hfin⟩
 obtain rfl := os h
 exact ⟨.inl rfl,hfin⟩
def Kka (c : Ctx) : (Unit) ⊕ (Bool) → Exit → Q0a → Prop
 | .inl _ => Qcz c (.exit 0) (mkS [] [])
 | .inr r => Qd8 TIx Tryz.f78 [] (.bool r)
def Kkb (p : (List Int) × (List Int) × Int) : Option ((Unit) ⊕ (Bool)) :=
 match p with
 | (s10,s21,a0) =>
  if (decide (a0 < (s10.length : Int))) = true then
  (idx s10 a0) >>= fun a1 =>
  (idx s21 a0) >>= fun a2 =>
  if (a1 != a2) = true then
  some (.inr false)
  else
  Kkb (s10,s21,(wr (a0 + 1)))
  else
  some (.inl ())
 partial_fixpoint
def Kkc (p : (List Int) × (List Int) × Int) (fl : (Unit) ⊕ (Bool)) : Prop :=
 match p with
 | (s10,s21,a0) => ∀ c : Ctx,c.nt = 26 → WpL Tryz.prog c (cl (cl (cr (cl (cr (cr B78)))))) (Kka c fl) (mkS [(0,sI s10),(1,sI s21),(12,I (s10.length : Int)),(13,I a0)] [])
theorem Kkd : ∀ p r,Kkb p = some r → Kkc p r := by
 refine Kkb.partial_correctness Kkc ?_
 rintro slices_Equal_int_l0_f slices_Equal_int_l0_ih ⟨s10,s21,a0⟩ r h
 intro c hc
 refine WpL.step ?_
 refine rs0 hc 1 [(0,sI s10),(1,sI s21),(12,I (s10.length : Int)),(13,I a0),(14,.bool (decide (a0 < (s10.length : Int))))] [] ?_
 refine sN ?_
 refine ic h (fun a1 h => ?_) fun a1 h => ?_
 ·refine sk ?_
  refine sN ?_
  refine bk 1 ?_
  refine rs0 hc 2 [(0,sI s10),(1,sI s21),(5,I a0),(12,I (s10.length : Int)),(13,I a0)] [] ?_
  obtain ⟨a2,a3,a4,a5,h⟩ := bq2 h
  refine rs hc (rx [[0],[0],[2],[3],[0],[0],[0,4,5],[0,4,5,6],[8]]) [oN,oN,some (.el (I a2)),oN,oN,oN,some (.el (I a4)),oN,oN] [(0,sI s10),(1,sI s21),(12,I (s10.length : Int)),(13,I a0),(24,.bool (a2 != a4))] [] (ab (ix a3) (ix a5) tv) ?_
  refine ic h (fun a6 h => ?_) fun a6 h => ?_
  ·refine rs0 hc 1 [(4,.bool false)] [] ?_
   refine rt ?_
   obtain rfl := os h
   exact re [true]
  refine sk ?_
  refine rg0 hc 2 [(0,sI s10),(1,sI s21),(12,I (s10.length : Int)),(13,I (wr (a0 + 1)))] [] ?_
  refine Qcv ?_
  exact (slices_Equal_int_l0_ih _ _ h c hc)
 refine xt 0 ?_
 refine Qcp ?_
 refine Qcw ?_
 obtain rfl := os h
 exact iv []
def Kke (p : (List Int) × (List Int)) : Option (Bool) :=
 match p with
 | (s10,s21) =>
  if ((s10.length : Int) != (s21.length : Int)) = true then
  some false
  else
  (Kkb (s10,s21,0)) >>= fun fl => match fl with
  | .inl () =>
   some true
  | .inr r =>
   some r
def Kkf (p : (List Int) × (List Int)) (r : Bool) : Prop :=
 match p with
 | (s10,s21) => Q71 Tryz.prog 78 [sI s10,sI s21] (.bool r) []
theorem Kkg : ∀ p r,Kke p = some r → Kkf p r := by
 rintro ⟨s10,s21⟩ r h
 unfold Kke at h
 refine b0 Tryz.f78 B78 26 [(0,sI s10),(1,sI s21)] fun c hc => ?_
 refine rs0 hc 1 [(0,sI s10),(1,sI s21)] [] ?_
 refine sN ?_
 refine rs hc none [oN,some (.eqv (.no) ⟨[(7,I (s10.length : Int))],[],[]⟩),oN,some (.eqv (.no) ⟨[(9,I (s21.length : Int))],[],[]⟩),oN] [(0,sI s10),(1,sI s21),(10,.bool ((s10.length : Int) != (s21.length : Int)))] [] (ab (Qdj (d := 7) I s10) (Qdj (d := 9) I s21) tv) ?_
 refine ic h (fun a0 h => ?_) fun a0 h => ?_
 ·refine rs0 hc 1 [(4,.bool false)] [] ?_
  refine rt ?_
  obtain rfl := os h
  exact rq [true]
 refine sk ?_
 refine sN ?_
 refine rs hc none [oN,some (.eqv (.no) ⟨[(12,I (s10.length : Int))],[],[]⟩),oN] [(0,sI s10),(1,sI s21),(12,I (s10.length : Int)),(13,I 0)] [] (ai (Qdj (d := 12) I s10) tv) ?_
 refine bk 0 ?_
 obtain ⟨fl,a1,h⟩ := Qdd h
 have hL := Kkd _ _ a1 c hc
 refine lp ?_
 rcases fl with ⟨⟩ | r
 ·refine WpL.into (e := (.exit 0)) (mkS [] []) hL ?_
  refine Qcr ?_
  refine rs0 hc 1 [(4,.bool true)] [] ?_
  refine rt ?_
  obtain rfl := os h
  exact rq [true]
 refine WpL.mono hL ?_
 rintro _ _ ⟨rfl,hfin⟩
 obtain rfl := os h
 exact ⟨.inl rfl,hfin⟩
def Kkh (c : Ctx) : (Unit) ⊕ (Bool) → Exit → Q0a → Prop
 | .inl _ => Qcz c (.exit 0) (mkS [] [])
 | .inr r => Qd8 TIx Tryz.f116 [] (.bool r)
mutual
def Kki (p : K01 × K01) : Option (Bool) :=
 match p with
 | (a0,b1) =>
  ((
  if (a0.fOp == b1.fOp) = true then
  if (a0.fN == b1.fN) = true then
  (Kke (a0.fType,b1.fType)) >>= fun a1 =>
  if a1 = true then
  (Kkj (a0.fKids,b1.fKids)) >>= fun a2 =>
  some (a2)
  else
  some (false)
  else
  some (false)
  else
  some (false)
  ) : Option (Bool)) >>= fun a3 =>
  some a3
 partial_fixpoint
def Kkj (p : (List K01) × (List K01)) : Option (Bool) :=
 match p with
 | (s10,s21) =>
  if ((s10.length : Int) != (s21.length : Int)) = true then
  some false
  else
  (Kkk (s10,s21,0)) >>= fun fl => match fl with
  | .inl () =>
   some true
  | .inr r =>
   some r
 partial_fixpoint
def Kkk (p : (List K01) × (List K01) × Int) : Option ((Unit) ⊕ (Bool)) :=
 match p with
 | (s10,s21,a0) =>
  if (decide (a0 < (s10.length : Int))) = true then
  (idx s10 a0) >>= fun a1 =>
  (idx s21 a0) >>= fun a2 =>
  (Kki (a1,a2)) >>= fun a3 =>
  if a3 = true then
  Kkk (s10,s21,(wr (a0 + 1)))
  else
  some (.inr false)
  else
  some (.inl ())
 partial_fixpoint
end
def Kkl (p : K01 × K01) (r : Bool) : Prop :=
 match p with
 | (a0,b1) => Q71 Tryz.prog 73 [K2g a0,K2g b1] (.bool r) []
def Kkm (p : (List K01) × (List K01)) (r : Bool) : Prop :=
 match p with
 | (s10,s21) => Q71 Tryz.prog 116 [.sl (List.map K0s s10),.sl (List.map K0s s21),.fn 73 []] (.bool r) []
def Kkn (p : (List K01) × (List K01) × Int) (fl : (Unit) ⊕ (Bool)) : Prop :=
 match p with
 | (s10,s21,a0) => ∀ c : Ctx,c.nt = 32 → WpL Tryz.prog c (cl (cl (cr (cl (cr (cr K6x)))))) (Kkh c fl) (mkS [(1,.sl (List.map K0s s21)),(2,.fn 73 []),(15,.sl (List.map K0s s10)),(16,I (s10.length : Int)),(17,I a0)] [])
theorem Kko : (∀ p r,Kki p = some r → Kkl p r) ∧ (∀ p r,Kkj p = some r → Kkm p r) ∧ (∀ p r,Kkk p = some r → Kkn p r) := by
 refine Kki.mutual_partial_correctness Kkl Kkm Kkn ?_ ?_ ?_
 ·rintro slices_EqualFunc_Term_Kimpl_same_f slices_EqualFunc_Term_Kimpl_same_ih ⟨a0,b1⟩ r h
  refine b0 Tryz.f73 B73 31 [(0,K2g a0),(1,K2g b1)] fun c hc => ?_
  refine rs hc none [some (.new 1),some (.new 2),oN] [(2,.ra 1 0),(3,.ra 2 0)] [(1,K2f a0),(2,K2f b1)] tv ?_
  refine sN ?_
  obtain ⟨a1,a2,h⟩ := Qdd h
  refine Wp.into (x := .normal) (mkS [(4,.bool a1)] []) ?_ ?_
  ·replace h := a2
   rcases is h with ⟨a3,h⟩ | ⟨a3,h⟩
   ·rcases is h with ⟨a4,h⟩ | ⟨a4,h⟩
    ·obtain ⟨a5,a6,h⟩ := Qdd h
     rcases is h with ⟨a7,h⟩ | ⟨a7,h⟩
     ·obtain ⟨a8,a9,h⟩ := Qdd h
      refine rg hc none [oN,oN,oN,oN,oN,oN,oN,oN,oN,oN,oN,oT,oN,oN,oN,oN,oN,oc (.bool a5),oT,oN,oN,oN,oN,oN,oc (.bool a8),oT,oN] [(4,.bool a8)] [] (ar 6 a3 (ar 5 a4 (cq (Kkg _ _ a6) K6w (ai a4 (ar 5 a7 (cq (slices_EqualFunc_Term_Kimpl_same_ih _ _ a9) K6y (ai a7 tv))))))) ?_
      obtain rfl := os h
      exact Qcz.mk
     refine rg hc none [oN,oN,oN,oN,oN,oN,oN,oN,oN,oN,oN,oT,oN,oN,oN,oN,oN,oc (.bool a5),oT,oN,o_,o_,o_,o_,o_,oF,oN] [(4,.bool false)] [] (ar 6 a3 (ar 5 a4 (cq (Kkg _ _ a6) K6w (ai a4 (ar 5 (neT a7) (ai a7 tv)))))) ?_
     obtain rfl := os h
     exact Qcz.mk
    refine rg hc none [oN,oN,oN,oN,oN,oN,oN,oN,oN,oN,oN,oT,oN,o_,o_,o_,o_,o_,oF,oN,o_,o_,o_,o_,o_,oF,oN] [(4,.bool false)] [] (ar 6 a3 (ar 5 (neT a4) (ai a4 (ar 5 (neT (rfl : false = false)) (ai (rfl : false = false) tv))))) ?_
    obtain rfl := os h
    exact Qcz.mk
   refine rg hc none [oN,oN,oN,oN,oN,oN,o_,o_,o_,o_,o_,oF,oN,o_,o_,o_,o_,o_,oF,oN,o_,o_,o_,o_,o_,oF,oN] [(4,.bool false)] [] (ar 5 (neT a3) (ai a3 (ar 5 (neT (rfl : false = false)) (ai (rfl : false = false) (ar 5 (neT (rfl : false = false)) (ai (rfl : false = false) tv)))))) ?_
   obtain rfl := os h
   exact Qcz.mk
  clear a2
  refine rt ?_
  obtain rfl := os h
  exact rq [true]
 ·rintro slices_EqualFunc_Term_Kimpl_same_l0_f slices_EqualFunc_Term_Kimpl_same_l0_ih ⟨s10,s21⟩ r h
  refine b0 Tryz.f116 K6x 32 [(0,.sl (List.map K0s s10)),(1,.sl (List.map K0s s21)),(2,.fn 73 [])] fun c hc => ?_
  refine rs0 hc 1 [(0,.sl (List.map K0s s10)),(1,.sl (List.map K0s s21)),(2,.fn 73 [])] [] ?_
  refine sN ?_
  refine rs hc none [oN,some (.eqv (.no) ⟨[(11,I (s10.length : Int))],[],[]⟩),oN,some (.eqv (.no) ⟨[(13,I (s21.length : Int))],[],[]⟩),oN] [(0,.sl (List.map K0s s10)),(1,.sl (List.map K0s s21)),(2,.fn 73 []),(14,.bool ((s10.length : Int) != (s21.length : Int)))] [] (ab (Qdj (d := 11) K0s s10) (Qdj (d := 13) K0s s21) tv) ?_
  refine ic h (fun b2 h => ?_) fun b2 h => ?_
  ·refine rs0 hc 1 [(6,.bool false)] [] ?_
   refine rt ?_
   obtain rfl := os h
   exact rq [true]
  refine sk ?_
  refine sN ?_
  refine rs hc none [oN,some (.eqv (.no) ⟨[(16,I (s10.length : Int))],[],[]⟩),oN] [(1,.sl (List.map K0s s21)),(2,.fn 73 []),(15,.sl (List.map K0s s10)),(16,I (s10.length : Int)),(17,I 0)] [] (ai (Qdj (d := 16) K0s s10) tv) ?_
  refine bk 0 ?_
  obtain ⟨fl,b3,h⟩ := Qdd h
  have hL := slices_EqualFunc_Term_Kimpl_same_l0_ih _ _ b3 c hc
  refine lp ?_
  rcases fl with ⟨⟩ | r
  ·refine WpL.into (e := (.exit 0)) (mkS [] []) hL ?_
   refine Qcr ?_
   refine rs0 hc 1 [(6,.bool true)] [] ?_
   refine rt ?_
   obtain rfl := os h
   exact rq [true]
  refine WpL.mono hL ?_
  rintro _ _ ⟨rfl,hfin⟩
  obtain rfl := os h
  exact ⟨.inl rfl,hfin⟩
 ·rintro impl_same_f slices_EqualFunc_Term_Kimpl_same_l0_f impl_same_ih slices_EqualFunc_Term_Kimpl_same_l0_ih ⟨s10,s21,b4⟩ r h
  intro c hc
  refine WpL.step ?_
  refine rs0 hc 1 [(1,.sl (List.map K0s s21)),(2,.fn 73 []),(15,.sl (List.map K0s s10)),(16,I (s10.length : Int)),(17,I b4),(18,.bool (decide (b4 < (s10.length : Int))))] [] ?_
  refine sN ?_
  refine ic h (fun b5 h => ?_) fun b5 h => ?_
  ·refine sk ?_
   refine sN ?_
   refine bk 1 ?_
   obtain ⟨b6,b7,h⟩ := Qdd h
   refine rs hc none [oN,some (.el (K2g b6)),oN,some (.new 3),oN,oN] [(1,.sl (List.map K0s s21)),(2,.fn 73 []),(7,I b4),(8,.ra 3 0),(15,.sl (List.map K0s s10)),(16,I (s10.length : Int)),(17,I b4)] [(3,K2f b6)] (ai (Qdh b7 (K0z b6)) tv) ?_
   obtain ⟨b8,b9,h⟩ := Qdd h
   refine rs hc none [oN,oN,some (.el (K2g b8)),oN,some (.new 4),oN] [(1,.sl (List.map K0s s21)),(2,.fn 73 []),(8,.ra 3 0),(9,.ra 4 0),(15,.sl (List.map K0s s10)),(16,I (s10.length : Int)),(17,I b4)] [(3,K2f b6),(4,K2f b8)] (ai (Qdh b9 (K0z b8)) tv) ?_
   obtain ⟨c0,c1,h⟩ := Qdd h
   refine rs hc none [oN,oN,oN,oc (.bool c0),oN] [(1,.sl (List.map K0s s21)),(2,.fn 73 []),(15,.sl (List.map K0s s10)),(16,I (s10.length : Int)),(17,I b4),(30,.bool (!c0))] [] (cq (impl_same_ih _ _ c1) K6z tv) ?_
   rcases is h with ⟨c2,h⟩ | ⟨c2,h⟩
   ·refine cF (!c0) (nF c2) ?_
    refine sk ?_
    refine rg0 hc 2 [(1,.sl (List.map K0s s21)),(2,.fn 73 []),(15,.sl (List.map K0s s10)),(16,I (s10.length : Int)),(17,I (wr (b4 + 1)))] [] ?_
    refine Qcv ?_
    exact (slices_EqualFunc_Term_Kimpl_same_l0_ih _ _ h c hc)
   refine cT (!c0) (nT c2) ?_
   refine rs0 hc 1 [(6,.bool false)] [] ?_
   refine rt ?_
   obtain rfl := os h
   exact re [true]
  refine xt 0 ?_
  refine Qcp ?_
  refine Qcw ?_
  obtain rfl := os h
  exact iv []
theorem Kkp : ∀ p r,Kki p = some r → Kkl p r := Kko.1
theorem Kkq : ∀ p r,Kkj p = some r → Kkm p r := Kko.2.1
theorem Kkr : ∀ p r,Kkk p = some r → Kkn p r := Kko.2.2
def Kks (c : Ctx) : LL → Exit → Q0a → Prop
 | a0 => Qcz c (.exit 0) (mkS [(3,.rs 3)] [(3,.arr (List.map K07 a0))])
def Kkt (p : (List Int) × LL × Int) : Option (LL) :=
 match p with
 | (ty0,a0,a1) =>
  if (decide (a1 < (ty0.length : Int))) = true then
  (Kj8 (ty0,a1)) >>= fun a2 =>
  (cut ty0 (some a1) (some a2) (some a2)) >>= fun a3 =>
  (Qdq (a0.length + [a3].length) 24) >>= fun _ =>
  Kkt (ty0,(a0 ++ [a3]),a2)
  else
  some (a0)
 partial_fixpoint
def Kku (p : (List Int) × LL × Int) (fl : LL) : Prop :=
 match p with
 | (ty0,a0,a1) => ∀ c : Ctx,c.nt = 23 → WpL Tryz.prog c (cl (cl (cr (cl (cr (cr B79)))))) (Kks c fl) (mkS [(0,sI ty0),(3,.rs 3),(4,I a1)] [(3,.arr (List.map K07 a0))])
theorem Kkv : ∀ p r,Kkt p = some r → Kku p r := by
 refine Kkt.partial_correctness Kku ?_
 rintro impl_parts_l0_f impl_parts_l0_ih ⟨ty0,a0,a1⟩ r h
 intro c hc
 refine WpL.step ?_
 refine sN ?_
 refine rss hc none [oN,oN,some (.eqv (.no) ⟨[(8,I (ty0.length : Int))],[],[]⟩),oN] [(0,sI ty0),(3,.rs 3),(4,I a1),(9,.bool (decide (a1 < (ty0.length : Int))))] (ai (Qdj (d := 8) I ty0) tv) ?_
 refine ic h (fun a2 h => ?_) fun a2 h => ?_
 ·refine sk ?_
  refine bk 1 ?_
  obtain ⟨a3,a4,h⟩ := Qdd h
  refine rss hc none [oN,oN,oc (I a3),oN] [(0,sI ty0),(3,.rs 3),(4,I a1),(5,I a3)] (cq (Kja _ _ a4) K6i tv) ?_
  obtain ⟨a5,a6,_,a7,h⟩ := bq2 h
  refine rs hc none [oN,oN,oN,oN,oN,some (.eqv (.no) ⟨[(18,sI a5)],[],[]⟩),some (.mk 6 false),some (.eqv (.mk 7 true) ⟨[(20,.rs 7)],[(7,some (.arr (List.map K07 (a0 ++ [a5])))),(3,none),(6,none)],[7]⟩),oN] [(0,sI ty0),(3,.rs 7),(5,I a3)] [(7,.arr (List.map K07 (a0 ++ [a5])))] (ad (Qdm (d := 18) I a6) (Qdl (enc := I) (sz := 1) Qdw a6) (congrArg (fun z => (⟨[(20,.rs 7)],[(7,some (.arr z)),(3,none),(6,none)],[7]⟩ : Wr)) ((List.map_append).symm : (List.map K07 a0) ++ (List.map K07 [a5]) = List.map K07 (a0 ++ [a5]))) (Qdr (enc1 := K07) (enc2 := K07) (e1 := a0) (e2 := [a5]) (sz := 1) K0a K0a a7) tv) ?_
  refine K8c hc 2 [(0,sI ty0),(3,.rs 7),(4,I a3)] ?_
  refine Qcv ?_
  exact WpL.view (fun a w hv => SRx.renL [(3,7)] hv (by kernel_rfl) (by kernel_rfl) (by kernel_rfl)) (impl_parts_l0_ih _ _ h c hc)
 refine xt 0 ?_
 refine Qcp ?_
 refine Qcw ?_
 obtain rfl := os h
 exact iv []
def Kkw (ty0 : (List Int)) : Option (LL) :=
 (Kkt (ty0,[],1)) >>= fun a0 =>
 some a0
def Kkx (ty0 : (List Int)) (r : LL) : Prop :=
 Q71 Tryz.prog 79 [sI ty0] (.osl (List.map K07 r)) []
theorem Kky : ∀ p r,Kkw p = some r → Kkx p r := by
 rintro ty0 r h
 unfold Kkw at h
 refine b0 Tryz.f79 B79 23 [(0,sI ty0)] fun c hc => ?_
 refine rs0 hc 1 [(0,sI ty0)] [] ?_
 refine rs0 hc 1 [(0,sI ty0),(3,.nils)] [] ?_
 refine sN ?_
 refine rs0 hc 1 [(0,sI ty0),(3,.nils),(4,I 1)] [] ?_
 refine bk 0 ?_
 obtain ⟨a0,a1,h⟩ := Qdd h
 have hL := Kkv _ _ a1 c hc
 refine Wp.loopN (by kernel_rfl) (WpL.view (fun a w hv => SRx.renL [(3,8)] (SRx.nilTL 3 8 hv (by kernel_rfl) (by kernel_rfl)) (by kernel_rfl) (by kernel_rfl) (by kernel_rfl)) (?_ : WpL _ c _ _ (mkS [(0,sI ty0),(3,.rs 3),(4,I 1)] [(3,.arr (List.map K07 []))])))
 refine WpL.into (e := (.exit 0)) (mkS [(3,.rs 3)] [(3,.arr (List.map K07 a0))]) hL ?_
 refine Qcr ?_
 refine K8d hc 2 [(2,.rs 3)] ?_
 refine rt ?_
 obtain rfl := os h
 exact rq [true]
def Kkz (p : K01 × Int × (List Int)) : Option (LL) :=
 match p with
 | (t0,kid1,first2) =>
  if (t0.fOp == 9) = true then
  some [t0.fType]
  else
  (Kjr (t0.fOp,kid1)) >>= fun a0 =>
  if (a0 == 0) = true then
  some []
  else
  (Kkw first2) >>= fun a1 =>
  if (t0.fOp == 5) = true then
  (idx a1 1) >>= fun a2 =>
  (idx a1 0) >>= fun a3 =>
  some [a2,a3]
  else
  if (t0.fOp == 8) = true then
  (idx a1 (wr (kid1 - 1))) >>= fun a4 =>
  some [a4]
  else
  some a1
def Kl0 (p : K01 × Int × (List Int)) (r : LL) : Prop :=
 match p with
 | (t0,kid1,first2) => Q71 Tryz.prog 74 [K2g t0,I kid1,sI first2] (.osl (List.map K07 r)) []
theorem Kl1 : ∀ p r,Kkz p = some r → Kl0 p r := by
 rintro ⟨t0,kid1,first2⟩ r h
 unfold Kkz at h
 refine b0 Tryz.f74 B74 43 [(0,K2g t0),(1,I kid1),(2,sI first2)] fun c hc => ?_
 refine rs hc none [some (.new 1),oN] [(1,I kid1),(2,sI first2),(3,.ra 1 0)] [(1,K2f t0)] tv ?_
 refine sN ?_
 refine bk 0 ?_
 refine K8d hc 4 [(1,I kid1),(2,sI first2),(3,.ra 1 0),(8,.bool (t0.fOp == 9))] ?_
 refine ic h (fun a0 h => ?_) fun a0 h => ?_
 ·refine rs hc none [oN,oN,some (.mk 2 false),oN] [(6,.rs 2)] [(2,.arr (List.map K07 [t0.fType]))] tv ?_
  refine rt ?_
  obtain rfl := os h
  exact rq [true]
 obtain ⟨a1,a2,h⟩ := Qdd h
 refine rss hc none [oN,oN,oN,oc (I a1),oN,oN] [(1,I kid1),(2,sI first2),(3,.ra 1 0),(15,.bool (a1 == 0))] (cq (Kjt _ _ a2) K6s tv) ?_
 refine ic h (fun a3 h => ?_) fun a3 h => ?_
 ·refine rs0 hc 1 [(6,.nils)] [] ?_
  refine rt ?_
  obtain rfl := os h
  exact rq [true]
 refine sk ?_
 obtain ⟨a4,a5,h⟩ := Qdd h
 refine rs hc none [oN,some (.call (.osl (List.map K07 a4)) [] 3),oN] [(1,I kid1),(3,.ra 1 0),(7,.rs 3)] [(1,K2f t0),(3,.arr (List.map K07 a4))] (cq (Kky _ _ a5) K70 tv) ?_
 refine sN ?_
 refine rs0 hc 2 [(1,I kid1),(7,.rs 3),(24,I t0.fOp)] [(3,.arr (List.map K07 a4))] ?_
 refine bk 1 ?_
 refine K8d hc 2 [(1,I kid1),(7,.rs 3),(24,I t0.fOp),(25,.bool (t0.fOp == 5))] ?_
 refine ic h (fun a6 h => ?_) fun a6 h => ?_
 ·obtain ⟨a7,a8,a9,b1,h⟩ := bq2 h
  refine rs hc (rx [[0],[1],[2],[0],[0,3],[0,3,4],[6],[7]]) [oN,oN,some (.el (sI a7)),oN,oN,some (.el (sI a9)),some (.mk 4 false),oN] [(6,.rs 4)] [(4,.arr (List.map K07 [a7,a9]))] (ad (Qdi (enc := K07) a8) (xL a8).2 (Qdi (enc := K07) b1) (xL b1).2 tv) ?_
  refine rt ?_
  obtain rfl := os h
  exact rq [true]
 refine K8d hc 2 [(1,I kid1),(7,.rs 3),(34,.bool (t0.fOp == 8))] ?_
 refine ic h (fun b2 h => ?_) fun b2 h => ?_
 ·obtain ⟨b3,b4,h⟩ := Qdd h
  refine rs hc none [oN,oN,oN,oN,some (.el (sI b3)),some (.mk 5 false),oN] [(6,.rs 5)] [(5,.arr (List.map K07 [b3]))] (ab (Qdi (enc := K07) b4) (xL b4).2 tv) ?_
  refine rt ?_
  obtain rfl := os h
  exact rq [true]
 refine sk ?_
 refine K8d hc 2 [(6,.rs 3)] ?_
 refine rt ?_
 obtain rfl := os h
 exact rq [true]
def Kl2 (n1 : Int) : Option (Unit) :=
 if (decide (n1 < 0)) = true then
 none
 else
 if (decide ((wr (n1 - (wr (0 - 0)))) > 0)) = true then
 (chk (0 ≤ (wr (n1 - (wr (0 - 0)))) ∧ (Int.toNat (wr (n1 - (wr (0 - 0))))) * 24 ≤ 140737488355328)) >>= fun _ =>
 some ()
 else
 some ()
def Kl3 (n1 : Int) (r : Unit) : Prop :=
 Q9v Tryz.prog 120 n1
theorem Kl4 : ∀ p r,Kl2 p = some r → Kl3 p r := by
 rintro n1 r h
 unfold Kl2 at h
 show Q9v Tryz.prog 120 n1
 refine Q9v.of_body K3q (fn := Tryz.f120) (code := K72) (by kernel_rfl) (by kernel_rfl) (nt := 27) (by kernel_rfl) (by kernel_rfl) (fun c hc => ?_)
 refine rs0 hc 1 [(0,.nils),(1,I n1)] [] ?_
 refine sN ?_
 refine rs0 hc 2 [(0,.nils),(1,I n1),(6,.bool (decide (n1 < 0)))] [] ?_
 refine ic h (fun a0 h => ?_) fun a0 h => ?_
 ·cases h
 refine sk ?_
 refine sN ?_
 refine rs0 hc 8 [(0,.nils),(1,I (wr (n1 - (wr (0 - 0)))))] [] ?_
 refine rs0 hc 2 [(0,.nils),(1,I (wr (n1 - (wr (0 - 0))))),(16,.bool (decide ((wr (n1 - (wr (0 - 0)))) > 0)))] [] ?_
 refine ic h (fun a1 h => ?_) fun a1 h => ?_
 ·obtain ⟨_,a2,h⟩ := Qdd h
  refine rg hc none [oN,oN,oN,oN,oN,some (.new 1),oN,oN,some (.new 2),oN] [(0,.rs 2)] [(2,.ary (List.map K07 []))] (ai (Qdf a2) tv) ?_
  refine K8d hc 2 [(4,.rs 2)] ?_
  refine rt ?_
  exact Qew.ret (by kernel_rfl)
 refine sk ?_
 refine rs0 hc 2 [(4,.nils)] [] ?_
 refine rt ?_
 exact Qew.ret (by kernel_rfl)
def Kl5 (c : Ctx) (slices0 : List LL) : Int → Exit → Q0a → Prop
 | a0 => Qcz c (.exit 0) (mkS [(0,.sl (List.map K28 slices0)),(3,I a0)] [])
def Kl6 (p : (List LL) × Int × Int) : Option (Int) :=
 match p with
 | (slices0,a0,a1) =>
  if (decide (a1 < (slices0.length : Int))) = true then
  (idx slices0 a1) >>= fun a2 =>
  ((
  if (decide ((wr (a0 + (a2.length : Int))) < 0)) = true then
  none
  else
  some (())
  ) : Option (Unit)) >>= fun () =>
  Kl6 (slices0,(wr (a0 + (a2.length : Int))),(wr (a1 + 1)))
  else
  some (a0)
 partial_fixpoint
def Kl7 (p : (List LL) × Int × Int) (fl : Int) : Prop :=
 match p with
 | (slices0,a0,a1) => ∀ c : Ctx,c.nt = 36 → WpL Tryz.prog c (cl (cl (cr (cl (cr (cr B76)))))) (Kl5 c slices0 fl) (mkS [(0,.sl (List.map K28 slices0)),(3,I a0),(9,.sl (List.map K28 slices0)),(10,I (slices0.length : Int)),(11,I a1)] [])
theorem Kl8 : ∀ p r,Kl6 p = some r → Kl7 p r := by
 refine Kl6.partial_correctness Kl7 ?_
 rintro slices_Concat_Lint_l0_f slices_Concat_Lint_l0_ih ⟨slices0,a0,a1⟩ r h
 intro c hc
 refine WpL.step ?_
 refine rs0 hc 1 [(0,.sl (List.map K28 slices0)),(3,I a0),(9,.sl (List.map K28 slices0)),(10,I (slices0.length : Int)),(11,I a1),(12,.bool (decide (a1 < (slices0.length : Int))))] [] ?_
 refine sN ?_
 refine ic h (fun a2 h => ?_) fun a2 h => ?_
 ·refine sk ?_
  refine sN ?_
  refine bk 1 ?_
  obtain ⟨a3,a4,h⟩ := Qdd h
  refine rs hc none [some (.el (sL a3)),oN,oN] [(0,.sl (List.map K28 slices0)),(3,I a0),(5,sL a3),(9,.sl (List.map K28 slices0)),(10,I (slices0.length : Int)),(11,I a1)] [] (ai (Qdh a4 (K29 a3)) tv) ?_
  refine rs hc none [oN,oN,some (.eqv (.no) ⟨[(17,I (a3.length : Int))],[],[]⟩),oN,oN] [(0,.sl (List.map K28 slices0)),(3,I (wr (a0 + (a3.length : Int)))),(9,.sl (List.map K28 slices0)),(10,I (slices0.length : Int)),(11,I a1)] [] (ai (Qdj (d := 17) K07 a3) tv) ?_
  refine rs0 hc 2 [(0,.sl (List.map K28 slices0)),(3,I (wr (a0 + (a3.length : Int)))),(9,.sl (List.map K28 slices0)),(10,I (slices0.length : Int)),(11,I a1),(20,.bool (decide ((wr (a0 + (a3.length : Int))) < 0)))] [] ?_
  obtain ⟨⟨⟩,a5,h⟩ := Qdd h
  refine Wp.into (x := .normal) (mkS [(0,.sl (List.map K28 slices0)),(3,I (wr (a0 + (a3.length : Int)))),(9,.sl (List.map K28 slices0)),(10,I (slices0.length : Int)),(11,I a1)] []) ?_ ?_
  ·replace h := a5
   refine ic h (fun a6 h => ?_) fun a6 h => ?_
   ·cases h
   refine sk ?_
   exact iv []
  clear a5
  refine rg0 hc 2 [(0,.sl (List.map K28 slices0)),(3,I (wr (a0 + (a3.length : Int)))),(9,.sl (List.map K28 slices0)),(10,I (slices0.length : Int)),(11,I (wr (a1 + 1)))] [] ?_
  refine Qcv ?_
  exact (slices_Concat_Lint_l0_ih _ _ h c hc)
 refine xt 0 ?_
 refine Qcp ?_
 refine Qcw ?_
 obtain rfl := os h
 exact iv []
def Kl9 (c : Ctx) : LL → Exit → Q0a → Prop
 | a0 => Qcz c (.exit 2) (mkS [(6,.rs 1)] [(1,.ary (List.map K07 a0))])
def Kla (p : (List LL) × LL × Int) : Option (LL) :=
 match p with
 | (slices0,a0,a1) =>
  if (decide (a1 < (slices0.length : Int))) = true then
  (idx slices0 a1) >>= fun a2 =>
  (Qdq (a0.length + a2.length) 24) >>= fun _ =>
  Kla (slices0,(a0 ++ a2),(wr (a1 + 1)))
  else
  some (a0)
 partial_fixpoint
def Klb (p : (List LL) × LL × Int) (fl : LL) : Prop :=
 match p with
 | (slices0,a0,a1) => ∀ c : Ctx,c.nt = 36 → WpL Tryz.prog c (cl (cl (cr (cl (cr (cr (cr (cr B76)))))))) (Kl9 c fl) (mkS [(6,.rs 1),(25,.sl (List.map K28 slices0)),(26,I (slices0.length : Int)),(27,I a1)] [(1,.ary (List.map K07 a0))])
theorem Klc : ∀ p r,Kla p = some r → Klb p r := by
 refine Kla.partial_correctness Klb ?_
 rintro slices_Concat_Lint_l1_f slices_Concat_Lint_l1_ih ⟨slices0,a0,a1⟩ r h
 intro c hc
 refine WpL.step ?_
 refine K8d hc 1 [(6,.rs 1),(25,.sl (List.map K28 slices0)),(26,I (slices0.length : Int)),(27,I a1),(28,.bool (decide (a1 < (slices0.length : Int))))] ?_
 refine sN ?_
 refine ic h (fun a2 h => ?_) fun a2 h => ?_
 ·refine sk ?_
  refine sN ?_
  refine bk 3 ?_
  obtain ⟨a3,a4,h⟩ := Qdd h
  refine rss hc none [some (.el (sL a3)),oN,oN] [(6,.rs 1),(8,sL a3),(25,.sl (List.map K28 slices0)),(26,I (slices0.length : Int)),(27,I a1)] (ai (Qdh a4 (K29 a3)) tv) ?_
  obtain ⟨_,a5,h⟩ := Qdd h
  refine rg hc none [oN,oN,some (.eqv (.new 3) ⟨[(33,.rs 3)],[(3,some (.ary (List.map K07 (a0 ++ a3)))),(1,none)],[3]⟩),oN] [(6,.rs 3),(25,.sl (List.map K28 slices0)),(26,I (slices0.length : Int)),(27,I a1)] [(3,.ary (List.map K07 (a0 ++ a3)))] (ab (congrArg (fun z => (⟨[(33,.rs 3)],[(3,some (.ary z)),(1,none)],[3]⟩ : Wr)) ((List.map_append).symm : (List.map K07 a0) ++ (List.map K07 a3) = List.map K07 (a0 ++ a3))) (Qez (enc := K07) (e1 := a0) (e2 := a3) (fun _ => rfl) a5) tv) ?_
  refine K8c hc 2 [(6,.rs 3),(25,.sl (List.map K28 slices0)),(26,I (slices0.length : Int)),(27,I (wr (a1 + 1)))] ?_
  refine Qcv ?_
  exact WpL.view (fun a w hv => SRx.renL [(1,3)] hv (by kernel_rfl) (by kernel_rfl) (by kernel_rfl)) (slices_Concat_Lint_l1_ih _ _ h c hc)
 refine xt 2 ?_
 refine Qcp ?_
 refine Qcw ?_
 obtain rfl := os h
 exact iv []
def Kld (slices0 : (List LL)) : Option (LL) :=
 (Kl6 (slices0,0,0)) >>= fun a0 =>
 (Kl2 a0) >>= fun _ =>
 (Kla (slices0,[],0)) >>= fun a1 =>
 some a1
def Kle (slices0 : (List LL)) (r : LL) : Prop :=
 Q71 Tryz.prog 76 [.sl (List.map K28 slices0)] (sL r) []
theorem Klf : ∀ p r,Kld p = some r → Kle p r := by
 rintro slices0 r h
 unfold Kld at h
 refine b0 Tryz.f76 B76 36 [(0,.sl (List.map K28 slices0))] fun c hc => ?_
 refine rs0 hc 1 [(0,.sl (List.map K28 slices0))] [] ?_
 refine rs0 hc 1 [(0,.sl (List.map K28 slices0)),(3,I 0)] [] ?_
 refine sN ?_
 refine rs hc none [oN,some (.eqv (.no) ⟨[(10,I (slices0.length : Int))],[],[]⟩),oN] [(0,.sl (List.map K28 slices0)),(3,I 0),(9,.sl (List.map K28 slices0)),(10,I (slices0.length : Int)),(11,I 0)] [] (ai (Qdj (d := 10) K28 slices0) tv) ?_
 refine bk 0 ?_
 obtain ⟨a0,a1,h⟩ := Qdd h
 have hL := Kl8 _ _ a1 c hc
 refine lp ?_
 refine WpL.into (e := (.exit 0)) (mkS [(0,.sl (List.map K28 slices0)),(3,I a0)] []) hL ?_
 refine Qcr ?_
 obtain ⟨_,a2,h⟩ := Qdd h
 refine rs hc none [oN,some (.new 1),oN] [(0,.sl (List.map K28 slices0)),(6,.rs 1)] [(1,.ary (List.map K07 []))] (ab (Kl4 _ _ a2) K73 tv) ?_
 refine sN ?_
 refine rss hc none [oN,some (.eqv (.no) ⟨[(26,I (slices0.length : Int))],[],[]⟩),oN] [(6,.rs 1),(25,.sl (List.map K28 slices0)),(26,I (slices0.length : Int)),(27,I 0)] (ai (Qdj (d := 26) K28 slices0) tv) ?_
 refine bk 2 ?_
 obtain ⟨a3,a4,h⟩ := Qdd h
 have hL := Klc _ _ a4 c hc
 refine lp ?_
 refine WpL.into (e := (.exit 2)) (mkS [(6,.rs 1)] [(1,.ary (List.map K07 a3))]) hL ?_
 refine Qcr ?_
 refine K8d hc 2 [(2,.rs 1)] ?_
 refine Wp.view (fun a w hv => SRx.frzYL 1 (xs := List.map K07 a3) hv (by kernel_rfl) (by kernel_rfl) (by kernel_rfl)) (?_ : Wp Tryz.prog c _ _ (mkS [(2,sL a3)] []))
 refine rt ?_
 obtain rfl := os h
 exact rq [false]
def Klg (p : (List Int) × (List Int)) : Option (Bool) :=
 match p with
 | (x0,y1) =>
  (Kke (x0,y1)) >>= fun a0 =>
  some a0
def Klh (p : (List Int) × (List Int)) (r : Bool) : Prop :=
 match p with
 | (x0,y1) => Q71 Tryz.prog 119 [sI x0,sI y1] (.bool r) []
theorem Kli : ∀ p r,Klg p = some r → Klh p r := by
 rintro ⟨x0,y1⟩ r h
 unfold Klg at h
 refine b0 Tryz.f119 K75 8 [(0,sI x0),(1,sI y1)] fun c hc => ?_
 refine rs0 hc 1 [(0,sI x0),(1,sI y1)] [] ?_
 obtain ⟨a0,a1,h⟩ := Qdd h
 refine rs hc none [oN,oN,oc (.bool a0),oN] [(4,.bool a0)] [] (cq (Kkg _ _ a1) K6w tv) ?_
 refine rt ?_
 obtain rfl := os h
 exact rq [true]
def Klj (c : Ctx) : (Unit) ⊕ (Bool) → Exit → Q0a → Prop
 | .inl _ => Qcz c (.exit 0) (mkS [] [])
 | .inr r => Qd8 TIx Tryz.f118 [] (.bool r)
def Klk (p : LL × LL × Int) : Option ((Unit) ⊕ (Bool)) :=
 match p with
 | (s10,s21,a0) =>
  if (decide (a0 < (s10.length : Int))) = true then
  (idx s10 a0) >>= fun a1 =>
  (idx s21 a0) >>= fun a2 =>
  (Klg (a1,a2)) >>= fun a3 =>
  if a3 = true then
  Klk (s10,s21,(wr (a0 + 1)))
  else
  some (.inr false)
  else
  some (.inl ())
 partial_fixpoint
def Kll (p : LL × LL × Int) (fl : (Unit) ⊕ (Bool)) : Prop :=
 match p with
 | (s10,s21,a0) => ∀ c : Ctx,c.nt = 32 → WpL Tryz.prog c (cl (cl (cr (cl (cr (cr K77)))))) (Klj c fl) (mkS [(1,sL s21),(2,.fn 119 []),(15,sL s10),(16,I (s10.length : Int)),(17,I a0)] [])
theorem Klm : ∀ p r,Klk p = some r → Kll p r := by
 refine Klk.partial_correctness Kll ?_
 rintro slices_EqualFunc_Lint_Kimpl_sameContexts_c1_l0_f slices_EqualFunc_Lint_Kimpl_sameContexts_c1_l0_ih ⟨s10,s21,a0⟩ r h
 intro c hc
 refine WpL.step ?_
 refine rs0 hc 1 [(1,sL s21),(2,.fn 119 []),(15,sL s10),(16,I (s10.length : Int)),(17,I a0),(18,.bool (decide (a0 < (s10.length : Int))))] [] ?_
 refine sN ?_
 refine ic h (fun a1 h => ?_) fun a1 h => ?_
 ·refine sk ?_
  refine sN ?_
  refine bk 1 ?_
  obtain ⟨a2,a3,h⟩ := Qdd h
  refine rs hc none [oN,some (.el (sI a2)),oN,oN,oN] [(1,sL s21),(2,.fn 119 []),(7,I a0),(8,sI a2),(15,sL s10),(16,I (s10.length : Int)),(17,I a0)] [] (ai (xL a3) tv) ?_
  obtain ⟨a4,a5,h⟩ := Qdd h
  refine rs hc none [oN,oN,some (.el (sI a4)),oN,oN] [(1,sL s21),(2,.fn 119 []),(8,sI a2),(9,sI a4),(15,sL s10),(16,I (s10.length : Int)),(17,I a0)] [] (ai (xL a5) tv) ?_
  obtain ⟨a6,a7,h⟩ := Qdd h
  refine rs hc none [oN,oN,oN,oc (.bool a6),oN] [(1,sL s21),(2,.fn 119 []),(15,sL s10),(16,I (s10.length : Int)),(17,I a0),(30,.bool (!a6))] [] (cq (Kli _ _ a7) K76 tv) ?_
  rcases is h with ⟨a8,h⟩ | ⟨a8,h⟩
  ·refine cF (!a6) (nF a8) ?_
   refine sk ?_
   refine rg0 hc 2 [(1,sL s21),(2,.fn 119 []),(15,sL s10),(16,I (s10.length : Int)),(17,I (wr (a0 + 1)))] [] ?_
   refine Qcv ?_
   exact (slices_EqualFunc_Lint_Kimpl_sameContexts_c1_l0_ih _ _ h c hc)
  refine cT (!a6) (nT a8) ?_
  refine rs0 hc 1 [(6,.bool false)] [] ?_
  refine rt ?_
  obtain rfl := os h
  exact re [true]
 refine xt 0 ?_
 refine Qcp ?_
 refine Qcw ?_
 obtain rfl := os h
 exact iv []
def Kln (p : LL × LL) : Option (Bool) :=
 match p with
 | (s10,s21) =>
  if ((s10.length : Int) != (s21.length : Int)) = true then
  some false
  else
  (Klk (s10,s21,0)) >>= fun fl => match fl with
  | .inl () =>
   some true
  | .inr r =>
   some r
def Klo (p : LL × LL) (r : Bool) : Prop :=
 match p with
 | (s10,s21) => Q71 Tryz.prog 118 [sL s10,sL s21,.fn 119 []] (.bool r) []
theorem Klp : ∀ p r,Kln p = some r → Klo p r := by
 rintro ⟨s10,s21⟩ r h
 unfold Kln at h
 refine b0 Tryz.f118 K77 32 [(0,sL s10),(1,sL s21),(2,.fn 119 [])] fun c hc => ?_
 refine rs0 hc 1 [(0,sL s10),(1,sL s21),(2,.fn 119 [])] [] ?_
 refine sN ?_
 refine rs hc none [oN,some (.eqv (.no) ⟨[(11,I (s10.length : Int))],[],[]⟩),oN,some (.eqv (.no) ⟨[(13,I (s21.length : Int))],[],[]⟩),oN] [(0,sL s10),(1,sL s21),(2,.fn 119 []),(14,.bool ((s10.length : Int) != (s21.length : Int)))] [] (ab (Qdj (d := 11) K07 s10) (Qdj (d := 13) K07 s21) tv) ?_
 refine ic h (fun a0 h => ?_) fun a0 h => ?_
 ·refine rs0 hc 1 [(6,.bool false)] [] ?_
  refine rt ?_
  obtain rfl := os h
  exact rq [true]
 refine sk ?_
 refine sN ?_
 refine rs hc none [oN,some (.eqv (.no) ⟨[(16,I (s10.length : Int))],[],[]⟩),oN] [(1,sL s21),(2,.fn 119 []),(15,sL s10),(16,I (s10.length : Int)),(17,I 0)] [] (ai (Qdj (d := 16) K07 s10) tv) ?_
 refine bk 0 ?_
 obtain ⟨fl,a1,h⟩ := Qdd h
 have hL := Klm _ _ a1 c hc
 refine lp ?_
 rcases fl with ⟨⟩ | r
 ·refine WpL.into (e := (.exit 0)) (mkS [] []) hL ?_
  refine Qcr ?_
  refine rs0 hc 1 [(6,.bool true)] [] ?_
  refine rt ?_
  obtain rfl := os h
  exact rq [true]
 refine WpL.mono hL ?_
 rintro _ _ ⟨rfl,hfin⟩
 obtain rfl := os h
 exact ⟨.inl rfl,hfin⟩
def Klq (p : LL × LL) : Option (Bool) :=
 match p with
 | (a0,b1) =>
  (Kln (a0,b1)) >>= fun a1 =>
  some a1
def Klr (p : LL × LL) (r : Bool) : Prop :=
 match p with
 | (a0,b1) => Q71 Tryz.prog 75 [sL a0,sL b1] (.bool r) []
theorem Kls : ∀ p r,Klq p = some r → Klr p r := by
 rintro ⟨a0,b1⟩ r h
 unfold Klq at h
 refine b0 Tryz.f75 B75 8 [(0,sL a0),(1,sL b1)] fun c hc => ?_
 refine rs0 hc 1 [(0,sL a0),(1,sL b1)] [] ?_
 obtain ⟨a1,a2,h⟩ := Qdd h
 refine rs hc none [oN,oN,oc (.bool a1),oN] [(4,.bool a1)] [] (cq (Klp _ _ a2) K78 tv) ?_
 refine rt ?_
 obtain rfl := os h
 exact rq [true]
def Klt : Option (List (List Nat)) := rx [[0],[0],[0],[0],[0],[0,3,4],[0,3,4,5],[0],[0],[0,7,8],[0,7,8,9],[0,2,3,4,5,6,7,8,9,10],[12],[13]]
def Klu (p : K06 × K01 × Int × (List Int)) : Option (Int) :=
 match p with
 | (p0,t1,kid2,ty3) =>
  (idx ty3 0) >>= fun a0 =>
  (Kj5 a0) >>= fun (a1,a2) =>
  ((
  if (t1.fOp == 2) = true then
  some ((t1.fOp == 2))
  else
  ((
  if (t1.fOp == 3) = true then
  some ((kid2 == 0))
  else
  some (false)
  ) : Option (Bool)) >>= fun a3 =>
  some (a3)
  ) : Option (Bool)) >>= fun a4 =>
  ((
  if a4 = true then
  some ((0,2))
  else
  ((
  if (t1.fOp == 5) = true then
  some ((kid2 == 0))
  else
  some (false)
  ) : Option (Bool)) >>= fun a5 =>
  ((
  if a5 = true then
  some ((1,4))
  else
  ((
  if (t1.fOp == 8) = true then
  some ((kid2 == 0))
  else
  some (false)
  ) : Option (Bool)) >>= fun a6 =>
  ((
  if a6 = true then
  some ((2,5))
  else
  ((
  if (t1.fOp == 10) = true then
  some ((kid2 == 0))
  else
  some (false)
  ) : Option (Bool)) >>= fun a7 =>
  ((
  if a7 = true then
  some ((3,6))
  else
  ((
  if (t1.fOp == 12) = true then
  some ((kid2 == 0))
  else
  some (false)
  ) : Option (Bool)) >>= fun a8 =>
  ((
  if a8 = true then
  some ((4,7))
  else
  some (((-1),0))
  ) : Option (Int × Int)) >>= fun (a9,b1) =>
  some ((a9,b1))
  ) : Option (Int × Int)) >>= fun (b2,b3) =>
  some ((b2,b3))
  ) : Option (Int × Int)) >>= fun (b4,b5) =>
  some ((b4,b5))
  ) : Option (Int × Int)) >>= fun (b6,b7) =>
  some ((b6,b7))
  ) : Option (Int × Int)) >>= fun (b8,b9) =>
  ((
  if (decide (b8 ≥ 0)) = true then
  some ((a1 != b8))
  else
  some (false)
  ) : Option (Bool)) >>= fun c0 =>
  if c0 = true then
  some b9
  else
  ((
  if (kid2 == 0) = true then
  if (t1.fOp == 5) = true then
  (Khz (p0.fs,1,t1.fN)) >>= fun c1 =>
  some ((!c1))
  else
  if (t1.fOp == 8) = true then
  (Khz (p0.fs,1,t1.fN)) >>= fun c1 =>
  some ((!c1))
  else
  if (t1.fOp == 12) = true then
  (Khz (p0.fs,1,t1.fN)) >>= fun c1 =>
  some ((!c1))
  else
  some (false)
  else
  some (false)
  ) : Option (Bool)) >>= fun c2 =>
  if c2 = true then
  some 8
  else
  some 0
def Klv (p : K06 × K01 × Int × (List Int)) (r : Int) : Prop :=
 match p with
 | (p0,t1,kid2,ty3) => Q71 Tryz.prog 77 [K2o p0,K2g t1,I kid2,sI ty3] (I r) []
theorem Klw : ∀ p r,Klu p = some r → Klv p r := by
 rintro ⟨p0,t1,kid2,ty3⟩ r h
 unfold Klu at h
 refine b0 Tryz.f77 B77 96 [(0,K2o p0),(1,K2g t1),(2,I kid2),(3,sI ty3)] fun c hc => ?_
 refine rs hc none [some (.new 1),some (.new 2),oN] [(2,I kid2),(3,sI ty3),(4,.ra 1 0),(5,.ra 2 0)] [(1,K2n p0),(2,K2f t1)] tv ?_
 obtain ⟨a0,a1,⟨a2,a3⟩,a4,h⟩ := bq2 h
 refine rss hc none [oN,some (.el (I a0)),oN,oc (.tup [I a2,I a3]),oN,oN,oN,oN,oN] [(2,I kid2),(4,.ra 1 0),(5,.ra 2 0),(9,I a2)] (ai (ix a1) (cq (Kj7 _ _ a4) K6g tv)) ?_
 refine K8d hc 2 [(2,I kid2),(4,.ra 1 0),(5,.ra 2 0),(9,I a2),(11,I (-1)),(12,I 0)] ?_
 refine sN ?_
 refine bk 0 ?_
 refine sN ?_
 refine K8d hc 4 [(2,I kid2),(4,.ra 1 0),(5,.ra 2 0),(9,I a2),(11,I (-1)),(12,I 0),(20,.bool (t1.fOp == 2))] ?_
 obtain ⟨a5,a6,h⟩ := Qdd h
 refine Wp.into (x := .normal) (mkS [(2,I kid2),(4,.ra 1 0),(5,.ra 2 0),(9,I a2),(11,I (-1)),(12,I 0),(20,.bool a5)] [(1,K2n p0),(2,K2f t1)]) ?_ ?_
 ·replace h := a6
  refine ic h (fun a7 h => ?_) fun a7 h => ?_
  ·refine sk ?_
   obtain rfl := os h
   exact Qcz.mk
  obtain ⟨a8,a9,h⟩ := Qdd h
  refine Wp.into (x := .normal) (mkS [(2,I kid2),(4,.ra 1 0),(5,.ra 2 0),(9,I a2),(11,I (-1)),(12,I 0),(20,.bool a8)] [(1,K2n p0),(2,K2f t1)]) ?_ ?_
  ·replace h := a9
   rcases is h with ⟨b1,h⟩ | ⟨b1,h⟩
   ·refine rgs hc none [oN,oN,oN,oN,oN,oN,oT,oN] [(2,I kid2),(4,.ra 1 0),(5,.ra 2 0),(9,I a2),(11,I (-1)),(12,I 0),(20,.bool (kid2 == 0))] (ar 3 b1 tv) ?_
    obtain rfl := os h
    exact Qcz.mk
   refine rgs hc none [oN,oN,oN,oN,o_,o_,oF,oN] [(2,I kid2),(4,.ra 1 0),(5,.ra 2 0),(9,I a2),(11,I (-1)),(12,I 0),(20,.bool false)] (ar 2 (neT b1) (ai b1 tv)) ?_
   obtain rfl := os h
   exact Qcz.mk
  clear a9
  obtain rfl := os h
  exact Qcz.mk
 clear a6
 obtain ⟨⟨b2,b3⟩,b4,h⟩ := Qdd h
 refine Wp.into (x := .normal) (mkS [(2,I kid2),(4,.ra 1 0),(5,.ra 2 0),(9,I a2),(11,I b2),(12,I b3)] [(1,K2n p0),(2,K2f t1)]) ?_ ?_
 ·replace h := b4
  refine ic h (fun b5 h => ?_) fun b5 h => ?_
  ·refine K8c hc 2 [(2,I kid2),(4,.ra 1 0),(5,.ra 2 0),(9,I a2),(11,I 0),(12,I 2)] ?_
   obtain ⟨rfl,rfl⟩ := Prod.mk.inj (Option.some.inj h)
   exact Qcz.mk
  refine sN ?_
  obtain ⟨b6,b7,h⟩ := Qdd h
  refine Wp.into (x := .normal) (mkS [(2,I kid2),(4,.ra 1 0),(5,.ra 2 0),(9,I a2),(11,I (-1)),(12,I 0),(31,.bool b6)] [(1,K2n p0),(2,K2f t1)]) ?_ ?_
  ·replace h := b7
   rcases is h with ⟨b8,h⟩ | ⟨b8,h⟩
   ·refine rgs hc none [oN,oN,oN,oN,oN,oN,oT,oN] [(2,I kid2),(4,.ra 1 0),(5,.ra 2 0),(9,I a2),(11,I (-1)),(12,I 0),(31,.bool (kid2 == 0))] (ar 3 b8 tv) ?_
    obtain rfl := os h
    exact Qcz.mk
   refine rgs hc none [oN,oN,oN,oN,o_,o_,oF,oN] [(2,I kid2),(4,.ra 1 0),(5,.ra 2 0),(9,I a2),(11,I (-1)),(12,I 0),(31,.bool false)] (ar 2 (neT b8) (ai b8 tv)) ?_
   obtain rfl := os h
   exact Qcz.mk
  clear b7
  obtain ⟨⟨b9,c0⟩,c1,h⟩ := Qdd h
  refine Wp.into (x := .normal) (mkS [(2,I kid2),(4,.ra 1 0),(5,.ra 2 0),(9,I a2),(11,I b9),(12,I c0)] [(1,K2n p0),(2,K2f t1)]) ?_ ?_
  ·replace h := c1
   refine ic h (fun c2 h => ?_) fun c2 h => ?_
   ·refine K8c hc 2 [(2,I kid2),(4,.ra 1 0),(5,.ra 2 0),(9,I a2),(11,I 1),(12,I 4)] ?_
    obtain ⟨rfl,rfl⟩ := Prod.mk.inj (Option.some.inj h)
    exact Qcz.mk
   refine sN ?_
   obtain ⟨c3,c4,h⟩ := Qdd h
   refine Wp.into (x := .normal) (mkS [(2,I kid2),(4,.ra 1 0),(5,.ra 2 0),(9,I a2),(11,I (-1)),(12,I 0),(39,.bool c3)] [(1,K2n p0),(2,K2f t1)]) ?_ ?_
   ·replace h := c4
    rcases is h with ⟨c5,h⟩ | ⟨c5,h⟩
    ·refine rgs hc none [oN,oN,oN,oN,oN,oN,oT,oN] [(2,I kid2),(4,.ra 1 0),(5,.ra 2 0),(9,I a2),(11,I (-1)),(12,I 0),(39,.bool (kid2 == 0))] (ar 3 c5 tv) ?_
     obtain rfl := os h
     exact Qcz.mk
    refine rgs hc none [oN,oN,oN,oN,o_,o_,oF,oN] [(2,I kid2),(4,.ra 1 0),(5,.ra 2 0),(9,I a2),(11,I (-1)),(12,I 0),(39,.bool false)] (ar 2 (neT c5) (ai c5 tv)) ?_
    obtain rfl := os h
    exact Qcz.mk
   clear c4
   obtain ⟨⟨c6,c7⟩,c8,h⟩ := Qdd h
   refine Wp.into (x := .normal) (mkS [(2,I kid2),(4,.ra 1 0),(5,.ra 2 0),(9,I a2),(11,I c6),(12,I c7)] [(1,K2n p0),(2,K2f t1)]) ?_ ?_
   ·replace h := c8
    refine ic h (fun c9 h => ?_) fun c9 h => ?_
    ·refine K8c hc 2 [(2,I kid2),(4,.ra 1 0),(5,.ra 2 0),(9,I a2),(11,I 2),(12,I 5)] ?_
     obtain ⟨rfl,rfl⟩ := Prod.mk.inj (Option.some.inj h)
     exact Qcz.mk
    refine sN ?_
    obtain ⟨d0,d1,h⟩ := Qdd h
    refine Wp.into (x := .normal) (mkS [(2,I kid2),(4,.ra 1 0),(5,.ra 2 0),(9,I a2),(11,I (-1)),(12,I 0),(47,.bool d0)] [(1,K2n p0),(2,K2f t1)]) ?_ ?_
    ·replace h := d1
     rcases is h with ⟨d2,h⟩ | ⟨d2,h⟩
     ·refine rgs hc none [oN,oN,oN,oN,oN,oN,oT,oN] [(2,I kid2),(4,.ra 1 0),(5,.ra 2 0),(9,I a2),(11,I (-1)),(12,I 0),(47,.bool (kid2 == 0))] (ar 3 d2 tv) ?_
      obtain rfl := os h
      exact Qcz.mk
     refine rgs hc none [oN,oN,oN,oN,o_,o_,oF,oN] [(2,I kid2),(4,.ra 1 0),(5,.ra 2 0),(9,I a2),(11,I (-1)),(12,I 0),(47,.bool false)] (ar 2 (neT d2) (ai d2 tv)) ?_
     obtain rfl := os h
     exact Qcz.mk
    clear d1
    obtain ⟨⟨d3,d4⟩,d5,h⟩ := Qdd h
    refine Wp.into (x := .normal) (mkS [(2,I kid2),(4,.ra 1 0),(5,.ra 2 0),(9,I a2),(11,I d3),(12,I d4)] [(1,K2n p0),(2,K2f t1)]) ?_ ?_
    ·replace h := d5
     refine ic h (fun d6 h => ?_) fun d6 h => ?_
     ·refine K8c hc 2 [(2,I kid2),(4,.ra 1 0),(5,.ra 2 0),(9,I a2),(11,I 3),(12,I 6)] ?_
      obtain ⟨rfl,rfl⟩ := Prod.mk.inj (Option.some.inj h)
      exact Qcz.mk
     refine sN ?_
     obtain ⟨d7,d8,h⟩ := Qdd h
     refine Wp.into (x := .normal) (mkS [(2,I kid2),(4,.ra 1 0),(5,.ra 2 0),(9,I a2),(11,I (-1)),(12,I 0),(55,.bool d7)] [(1,K2n p0),(2,K2f t1)]) ?_ ?_
     ·replace h := d8
      rcases is h with ⟨d9,h⟩ | ⟨d9,h⟩
      ·refine rgs hc none [oN,oN,oN,oN,oN,oN,oT,oN] [(2,I kid2),(4,.ra 1 0),(5,.ra 2 0),(9,I a2),(11,I (-1)),(12,I 0),(55,.bool (kid2 == 0))] (ar 3 d9 tv) ?_
       obtain rfl := os h
       exact Qcz.mk
      refine rgs hc none [oN,oN,oN,oN,o_,o_,oF,oN] [(2,I kid2),(4,.ra 1 0),(5,.ra 2 0),(9,I a2),(11,I (-1)),(12,I 0),(55,.bool false)] (ar 2 (neT d9) (ai d9 tv)) ?_
      obtain rfl := os h
      exact Qcz.mk
     clear d8
     obtain ⟨⟨e0,e1⟩,e2,h⟩ := Qdd h
     refine Wp.into (x := .normal) (mkS [(2,I kid2),(4,.ra 1 0),(5,.ra 2 0),(9,I a2),(11,I e0),(12,I e1)] [(1,K2n p0),(2,K2f t1)]) ?_ ?_
     ·replace h := e2
      refine ic h (fun e3 h => ?_) fun e3 h => ?_
      ·refine K8c hc 2 [(2,I kid2),(4,.ra 1 0),(5,.ra 2 0),(9,I a2),(11,I 4),(12,I 7)] ?_
       obtain ⟨rfl,rfl⟩ := Prod.mk.inj (Option.some.inj h)
       exact Qcz.mk
      refine sk ?_
      obtain ⟨rfl,rfl⟩ := Prod.mk.inj (Option.some.inj h)
      exact iv []
     clear e2
     obtain ⟨rfl,rfl⟩ := Prod.mk.inj (Option.some.inj h)
     exact Qcz.mk
    clear d5
    obtain ⟨rfl,rfl⟩ := Prod.mk.inj (Option.some.inj h)
    exact Qcz.mk
   clear c8
   obtain ⟨rfl,rfl⟩ := Prod.mk.inj (Option.some.inj h)
   exact Qcz.mk
  clear c1
  obtain ⟨rfl,rfl⟩ := Prod.mk.inj (Option.some.inj h)
  exact Qcz.mk
 clear b4
 refine sN ?_
 refine sN ?_
 obtain ⟨e4,e5,h⟩ := Qdd h
 refine Wp.into (x := .normal) (mkS [(2,I kid2),(4,.ra 1 0),(5,.ra 2 0),(12,I b3),(69,.bool e4)] [(1,K2n p0),(2,K2f t1)]) ?_ ?_
 ·replace h := e5
  rcases is h with ⟨e6,h⟩ | ⟨e6,h⟩
  ·refine rgs hc none [oN,oN,oN,oN,oN,oN,oT] [(2,I kid2),(4,.ra 1 0),(5,.ra 2 0),(12,I b3),(69,.bool (a2 != b2))] (ar 4 e6 tv) ?_
   obtain rfl := os h
   exact Qcz.mk
  refine rgs hc none [oN,oN,oN,o_,o_,o_,oF] [(2,I kid2),(4,.ra 1 0),(5,.ra 2 0),(12,I b3),(69,.bool false)] (ar 3 (neT e6) (ai e6 tv)) ?_
  obtain rfl := os h
  exact Qcz.mk
 clear e5
 refine ic h (fun e7 h => ?_) fun e7 h => ?_
 ·refine rs0 hc 2 [(8,I b3)] [] ?_
  refine rt ?_
  obtain rfl := os h
  exact rq [true]
 refine sk ?_
 refine sN ?_
 refine sN ?_
 obtain ⟨e8,e9,h⟩ := Qdd h
 refine Wp.into (x := .normal) (mkS [(95,.bool e8)] []) ?_ ?_
 ·replace h := e9
  rcases is h with ⟨f0,h⟩ | ⟨f0,h⟩
  ·rcases is h with ⟨f1,h⟩ | ⟨f1,h⟩
   ·obtain ⟨f2,f3,h⟩ := Qdd h
    refine rg hc none [oN,oN,oN,oN,oN,oN,oN,o_,o_,o_,oT,oN,o_,o_,o_,oT,oT,oN,oN,oN,oN,oN,oc (.bool f2),oN,oT] [(95,.bool (!f2))] [] (ar 4 f0 (ar 3 (neF f1) (ac f0 f1 f0 (ar 3 nf (ac f0 tt f0 (ar 5 tt (cq (Ki1 _ _ f3) K6b (ar 2 tt tv)))))))) ?_
    obtain rfl := os h
    exact Qcz.mk
   rcases is h with ⟨f4,h⟩ | ⟨f4,h⟩
   ·obtain ⟨f2,f3,h⟩ := Qdd h
    refine rg hc none [oN,oN,oN,oN,oN,oN,oN,oN,oN,oN,oF,oN,o_,o_,o_,oT,oT,oN,oN,oN,oN,oN,oc (.bool f2),oN,oT] [(95,.bool (!f2))] [] (ar 4 f0 (ar 3 f1 (ac f0 f1 f0 (ar 3 (neF f4) (ac f0 f4 f0 (ar 5 tt (cq (Ki1 _ _ f3) K6b (ar 2 tt tv)))))))) ?_
    obtain rfl := os h
    exact Qcz.mk
   rcases is h with ⟨f5,h⟩ | ⟨f5,h⟩
   ·obtain ⟨f2,f3,h⟩ := Qdd h
    refine rg hc none [oN,oN,oN,oN,oN,oN,oN,oN,oN,oN,oF,oN,oN,oN,oN,oF,oT,oN,oN,oN,oN,oN,oc (.bool f2),oN,oT] [(95,.bool (!f2))] [] (ar 4 f0 (ar 3 f1 (ac f0 f1 f0 (ar 3 f4 (ac f0 f4 f0 (ar 5 f5 (cq (Ki1 _ _ f3) K6b (ar 2 f5 tv)))))))) ?_
    obtain rfl := os h
    exact Qcz.mk
   refine rg hc none [oN,oN,oN,oN,oN,oN,oN,oN,oN,oN,oF,oN,oN,oN,oN,oF,oT,oN,o_,o_,o_,o_,o_,o_,oF] [(95,.bool false)] [] (ar 4 f0 (ar 3 f1 (ac f0 f1 f0 (ar 3 f4 (ac f0 f4 f0 (ar 6 (neT f5) (ai f5 tv))))))) ?_
   obtain rfl := os h
   exact Qcz.mk
  refine rg hc none [oN,oN,oN,o_,o_,o_,o_,o_,o_,o_,o_,o_,o_,o_,o_,o_,oF,oN,o_,o_,o_,o_,o_,o_,oF] [(95,.bool false)] [] (ar 7 (neT f0) (ai f0 (ar 6 (neT (rfl : false = false)) (ai (rfl : false = false) tv)))) ?_
  obtain rfl := os h
  exact Qcz.mk
 clear e9
 refine ic h (fun f6 h => ?_) fun f6 h => ?_
 ·refine rs0 hc 1 [(8,I 8)] [] ?_
  refine rt ?_
  obtain rfl := os h
  exact rq [true]
 refine sk ?_
 refine rs0 hc 1 [(8,I 0)] [] ?_
 refine rt ?_
 obtain rfl := os h
 exact rq [true]
def Klx (s0 : (List Int)) : Option ((List Int)) :=
 (Qdq (([] : List Int).length + s0.length) 8) >>= fun _ =>
 some s0
def Kly (s0 : (List Int)) (r : (List Int)) : Prop :=
 Q71 Tryz.prog 87 [sI s0] (oI r) []
theorem Klz : ∀ p r,Klx p = some r → Kly p r := by
 rintro s0 r h
 unfold Klx at h
 refine b0 Tryz.f87 B87 8 [(0,sI s0)] fun c hc => ?_
 refine rs0 hc 1 [(0,sI s0)] [] ?_
 refine sN ?_
 refine rs0 hc 2 [(0,sI s0),(4,.nilq (List.map I s0))] [] ?_
 refine Wp.condNil (xs := List.map I s0) (by kernel_rfl) (by kernel_rfl) (fun hn => ?_) ?_
 ·replace hn := List.map_eq_nil_iff.1 hn
  replace h : (some []) = some r := by rw [hn] at h; simpa [Qdq,chk] using h
  refine rs0 hc 1 [(2,.nils)] [] ?_
  refine rt ?_
  obtain rfl := os h
  exact rq [true]
 refine sk ?_
 obtain ⟨_,a0,h⟩ := Qdd h
 refine rs hc none [some (.mk 1 true),oN,some (.eqv (.mk 2 true) ⟨[(7,.rs 2)],[(2,some (rI s0)),(1,none)],[2]⟩),oN] [(2,.rs 2)] [(2,rI s0)] (ab (congrArg (fun z => (⟨[(7,.rs 2)],[(2,some (.arr z)),(1,none)],[2]⟩ : Wr)) (List.nil_append _ : [] ++ (List.map I s0) = List.map I s0)) (Qdr (enc1 := I) (enc2 := I) (e1 := []) (e2 := s0) (sz := 1) Qe0 Qe0 a0) tv) ?_
 refine rt ?_
 obtain rfl := os h
 exact rq [true]
def Km0 (c : Ctx) : (List Int) → Exit → Q0a → Prop
 | a0 => Qcz c (.exit 0) (mkS [(9,.rs 2)] [(2,rI a0)])
def Km1 (p : K00 × (List Int) × (List Int) × (List Int) × Int) : Option ((List Int)) :=
 match p with
 | (clo1_0,a2,b3,a0,a1) =>
  if (decide (a1 < (a2.length : Int))) = true then
  (idx a2 a1) >>= fun a3 =>
  (idx b3 a1) >>= fun a4 =>
  (Kht (clo1_0,a3,a4)) >>= fun a5 =>
  (idx a0 a1) >>= fun a6 =>
  Km1 (clo1_0,a2,b3,(List.set a0 (Int.toNat a1) a5),(wr (a1 + 1)))
  else
  some (a0)
 partial_fixpoint
def Km2 (p : K00 × (List Int) × (List Int) × (List Int) × Int) (fl : (List Int)) : Prop :=
 match p with
 | (clo1_0,a2,b3,a0,a1) => ∀ c : Ctx,c.nt = 34 → WpL Tryz.prog c (cl (cl (cr (cl (cr (cr K7c)))))) (Km0 c fl) (mkS [(1,.fnb 67 [K2e clo1_0]),(2,sI a2),(3,sI b3),(9,.rs 2),(15,I (a2.length : Int)),(16,I a1)] [(2,rI a0)])
theorem Km3 : ∀ p r,Km1 p = some r → Km2 p r := by
 refine Km1.partial_correctness Km2 ?_
 rintro impl_typerboth_Kimpl_Systemplus_l0_f impl_typerboth_Kimpl_Systemplus_l0_ih ⟨clo1_0,a2,b3,a0,a1⟩ r h
 intro c hc
 refine WpL.step ?_
 refine K8d hc 1 [(1,.fnb 67 [K2e clo1_0]),(2,sI a2),(3,sI b3),(9,.rs 2),(15,I (a2.length : Int)),(16,I a1),(17,.bool (decide (a1 < (a2.length : Int))))] ?_
 refine sN ?_
 refine ic h (fun a3 h => ?_) fun a3 h => ?_
 ·refine sk ?_
  refine sN ?_
  refine bk 1 ?_
  refine K8d hc 2 [(1,.fnb 67 [K2e clo1_0]),(2,sI a2),(3,sI b3),(9,.rs 2),(10,I a1),(15,I (a2.length : Int)),(16,I a1)] ?_
  obtain ⟨a4,a5,a6,a7,a8,a9,b1,b2,h⟩ := bq4 h
  refine rg hc Klt [oN,oN,oN,oN,oN,some (.el (I a4)),oN,oN,oN,some (.el (I a6)),oN,oc (I a8),oN,some (.eqv (.mk 0 true) ⟨[],[(2,some (.arr (List.map I (List.set a0 (Int.toNat a1) a8))))],[]⟩)] [(1,.fnb 67 [K2e clo1_0]),(2,sI a2),(3,sI b3),(9,.rs 2),(15,I (a2.length : Int)),(16,I a1)] [(2,.arr (List.map I (List.set a0 (Int.toNat a1) a8)))] (ab (ix a5) (ix a7) (cq (Khv _ _ a9) K69 (ac (Qdi (enc := I) b2) (congrArg (fun z => (⟨[],[(2,some (.arr z))],[]⟩ : Wr)) (Qeg (enc := I) (i := Int.toNat a1) (l := a0) (v := a8) (x := I a8) (Qds a8))) (Qeh (enc := I) (sz := 1) Qdw b2) tv))) ?_
  refine K8c hc 2 [(1,.fnb 67 [K2e clo1_0]),(2,sI a2),(3,sI b3),(9,.rs 2),(15,I (a2.length : Int)),(16,I (wr (a1 + 1)))] ?_
  refine Qcv ?_
  exact (impl_typerboth_Kimpl_Systemplus_l0_ih _ _ h c hc)
 refine xt 0 ?_
 refine Qcp ?_
 refine Qcw ?_
 obtain rfl := os h
 exact iv []
def Km4 (p : K06 × K00 × (List Int) × (List Int)) : Option ((List Int)) :=
 match p with
 | (p0,clo1_0,a2,b3) =>
  (chk (0 ≤ (a2.length : Int) ∧ (Int.toNat (a2.length : Int)) * 8 ≤ 140737488355328)) >>= fun _ =>
  (Km1 (clo1_0,a2,b3,(List.replicate (Int.toNat (a2.length : Int)) 0),0)) >>= fun a0 =>
  some a0
def Km5 (p : K06 × K00 × (List Int) × (List Int)) (r : (List Int)) : Prop :=
 match p with
 | (p0,clo1_0,a2,b3) => Q71 Tryz.prog 144 [K2o p0,.fnb 67 [K2e clo1_0],sI a2,sI b3] (oI r) []
theorem Km6 : ∀ p r,Km4 p = some r → Km5 p r := by
 rintro ⟨p0,clo1_0,a2,b3⟩ r h
 unfold Km4 at h
 refine b0 Tryz.f144 K7c 34 [(0,K2o p0),(1,.fnb 67 [K2e clo1_0]),(2,sI a2),(3,sI b3)] fun c hc => ?_
 refine rs hc none [some (.new 1),oN] [(1,.fnb 67 [K2e clo1_0]),(2,sI a2),(3,sI b3)] [] tv ?_
 obtain ⟨_,a0,h⟩ := Qdd h
 refine rs hc none [oN,some (.eqv (.no) ⟨[(12,I (a2.length : Int))],[],[]⟩),some (.eqv (.mk 2 true) ⟨[(13,.rs 2)],[(2,some (.arr (List.map I (List.replicate (Int.toNat (a2.length : Int)) 0))))],[2]⟩),oN] [(1,.fnb 67 [K2e clo1_0]),(2,sI a2),(3,sI b3),(9,.rs 2)] [(2,.arr (List.map I (List.replicate (Int.toNat (a2.length : Int)) 0)))] (ac (Qdj (d := 12) I a2) (congrArg (fun z => (⟨[(13,.rs 2)],[(2,some (.arr z))],[2]⟩ : Wr)) (Qei (enc := I) (n := Int.toNat (a2.length : Int)) (x := I 0) (Qds 0))) (And.intro (Eq.refl (a2.length : Int)) (Qdf a0)) tv) ?_
 refine sN ?_
 refine rss hc none [oN,some (.eqv (.no) ⟨[(15,I (a2.length : Int))],[],[]⟩),oN] [(1,.fnb 67 [K2e clo1_0]),(2,sI a2),(3,sI b3),(9,.rs 2),(15,I (a2.length : Int)),(16,I 0)] (ai (Qdj (d := 15) I a2) tv) ?_
 refine bk 0 ?_
 obtain ⟨a1,a3,h⟩ := Qdd h
 have hL := Km3 _ _ a3 c hc
 refine lp ?_
 refine WpL.into (e := (.exit 0)) (mkS [(9,.rs 2)] [(2,rI a1)]) hL ?_
 refine Qcr ?_
 refine K8d hc 2 [(8,.rs 2)] ?_
 refine rt ?_
 obtain rfl := os h
 exact rq [true]
def Km7 (p : K06 × (List Int) × (List Int)) : Option ((List Int)) :=
 match p with
 | (p0,a1,b2) =>
  (Km4 (p0,p0.fs,a1,b2)) >>= fun a0 =>
  some a0
def Km8 (p : K06 × (List Int) × (List Int)) (r : (List Int)) : Prop :=
 match p with
 | (p0,a1,b2) => Q71 Tryz.prog 124 [K2o p0,sI a1,sI b2] (oI r) []
theorem Km9 : ∀ p r,Km7 p = some r → Km8 p r := by
 rintro ⟨p0,a1,b2⟩ r h
 unfold Km7 at h
 refine b0 Tryz.f124 K7e 14 [(0,K2o p0),(1,sI a1),(2,sI b2)] fun c hc => ?_
 refine rs hc none [some (.new 1),oN] [(1,sI a1),(2,sI b2),(3,.ra 1 0)] [(1,K2n p0)] tv ?_
 obtain ⟨a0,a2,h⟩ := Qdd h
 refine rs hc none [oN,oN,oN,oN,oN,oN,some (.call (oI a0) [] 2),oN] [(6,.rs 2)] [(2,rI a0)] (cq (Km6 _ _ a2) K7d tv) ?_
 refine rt ?_
 obtain rfl := os h
 exact rq [true]
def Kma (p : Int × K05) : Option ((List Int)) :=
 match p with
 | (i0,cap0) =>
  (idx cap0.fkids i0) >>= fun a0 =>
  some a0.fty
def Kmb (p : Int × K05) (r : (List Int)) : Prop :=
 match p with
 | (i0,cap0) => Qa9 Tryz.prog 123 i0 [sI cap0.fty,sI cap0.fneeds,.sl (List.map K0i cap0.fkids),I cap0.ffault,sI cap0.fpath] (sI r)
theorem Kmc : ∀ p r,Kma p = some r → Kmb p r := by
 rintro ⟨i0,cap0⟩ r h
 unfold Kma at h
 show Qa9 Tryz.prog 123 i0 [sI cap0.fty,sI cap0.fneeds,.sl (List.map K0i cap0.fkids),I cap0.ffault,sI cap0.fpath] (sI r)
 refine Qa9.of_body K3q (fn := Tryz.f123) (code := K7g) (by kernel_rfl) (by kernel_rfl) rfl rfl (nt := 14) (by kernel_rfl) (by kernel_rfl) (fun c hc => ?_)
 refine K8d hc 1 [(0,I i0),(1,.ra 1000 0)] ?_
 obtain ⟨a0,a1,h⟩ := Qdd h
 refine rss hc none [oN,oN,oN,oN,oN,some (.el (.ptr [sI a0.fty,sI a0.fneeds,.sl (List.map K0i a0.fkids),I a0.ffault,sI a0.fpath] 0)),oN,oN,oN,oN,oN] [(3,sI a0.fty)] (ai (Qdh (enc := K0i) (x := .ptr [sI a0.fty,sI a0.fneeds,.sl (List.map K0i a0.fkids),I a0.ffault,sI a0.fpath] 0) a1 (K0l a0)) tv) ?_
 refine rt ?_
 obtain rfl := os h
 exact Qf0.ret (by kernel_rfl)
def Kmd (c : Ctx) : (List Int) → Exit → Q0a → Prop
 | a0 => Qcz c (.exit 0) (mkS [(9,.rs 2)] [(2,rI a0)])
def Kme (p : K00 × (List Int) × (List Int) × (List Int) × Int) : Option ((List Int)) :=
 match p with
 | (clo1_0,a2,b3,a0,a1) =>
  if (decide (a1 < (a2.length : Int))) = true then
  (idx a2 a1) >>= fun a3 =>
  (idx b3 a1) >>= fun a4 =>
  (Kib (clo1_0,a3,a4)) >>= fun a5 =>
  (idx a0 a1) >>= fun a6 =>
  Kme (clo1_0,a2,b3,(List.set a0 (Int.toNat a1) a5),(wr (a1 + 1)))
  else
  some (a0)
 partial_fixpoint
def Kmf (p : K00 × (List Int) × (List Int) × (List Int) × Int) (fl : (List Int)) : Prop :=
 match p with
 | (clo1_0,a2,b3,a0,a1) => ∀ c : Ctx,c.nt = 34 → WpL Tryz.prog c (cl (cl (cr (cl (cr (cr K7c)))))) (Kmd c fl) (mkS [(1,.fnb 70 [K2e clo1_0]),(2,sI a2),(3,sI b3),(9,.rs 2),(15,I (a2.length : Int)),(16,I a1)] [(2,rI a0)])
theorem Kmg : ∀ p r,Kme p = some r → Kmf p r := by
 refine Kme.partial_correctness Kmf ?_
 rintro impl_typerboth_Kimpl_Systemjoin_l0_f impl_typerboth_Kimpl_Systemjoin_l0_ih ⟨clo1_0,a2,b3,a0,a1⟩ r h
 intro c hc
 refine WpL.step ?_
 refine K8d hc 1 [(1,.fnb 70 [K2e clo1_0]),(2,sI a2),(3,sI b3),(9,.rs 2),(15,I (a2.length : Int)),(16,I a1),(17,.bool (decide (a1 < (a2.length : Int))))] ?_
 refine sN ?_
 refine ic h (fun a3 h => ?_) fun a3 h => ?_
 ·refine sk ?_
  refine sN ?_
  refine bk 1 ?_
  refine K8d hc 2 [(1,.fnb 70 [K2e clo1_0]),(2,sI a2),(3,sI b3),(9,.rs 2),(10,I a1),(15,I (a2.length : Int)),(16,I a1)] ?_
  obtain ⟨a4,a5,a6,a7,a8,a9,b1,b2,h⟩ := bq4 h
  refine rg hc Klt [oN,oN,oN,oN,oN,some (.el (I a4)),oN,oN,oN,some (.el (I a6)),oN,oc (I a8),oN,some (.eqv (.mk 0 true) ⟨[],[(2,some (.arr (List.map I (List.set a0 (Int.toNat a1) a8))))],[]⟩)] [(1,.fnb 70 [K2e clo1_0]),(2,sI a2),(3,sI b3),(9,.rs 2),(15,I (a2.length : Int)),(16,I a1)] [(2,.arr (List.map I (List.set a0 (Int.toNat a1) a8)))] (ab (ix a5) (ix a7) (cq (Kid _ _ a9) K6c (ac (Qdi (enc := I) b2) (congrArg (fun z => (⟨[],[(2,some (.arr z))],[]⟩ : Wr)) (Qeg (enc := I) (i := Int.toNat a1) (l := a0) (v := a8) (x := I a8) (Qds a8))) (Qeh (enc := I) (sz := 1) Qdw b2) tv))) ?_
  refine K8c hc 2 [(1,.fnb 70 [K2e clo1_0]),(2,sI a2),(3,sI b3),(9,.rs 2),(15,I (a2.length : Int)),(16,I (wr (a1 + 1)))] ?_
  refine Qcv ?_
  exact (impl_typerboth_Kimpl_Systemjoin_l0_ih _ _ h c hc)
 refine xt 0 ?_
 refine Qcp ?_
 refine Qcw ?_
 obtain rfl := os h
 exact iv []
def Kmh (p : K06 × K00 × (List Int) × (List Int)) : Option ((List Int)) :=
 match p with
 | (p0,clo1_0,a2,b3) =>
  (chk (0 ≤ (a2.length : Int) ∧ (Int.toNat (a2.length : Int)) * 8 ≤ 140737488355328)) >>= fun _ =>
  (Kme (clo1_0,a2,b3,(List.replicate (Int.toNat (a2.length : Int)) 0),0)) >>= fun a0 =>
  some a0
def Kmi (p : K06 × K00 × (List Int) × (List Int)) (r : (List Int)) : Prop :=
 match p with
 | (p0,clo1_0,a2,b3) => Q71 Tryz.prog 144 [K2o p0,.fnb 70 [K2e clo1_0],sI a2,sI b3] (oI r) []
theorem Kmj : ∀ p r,Kmh p = some r → Kmi p r := by
 rintro ⟨p0,clo1_0,a2,b3⟩ r h
 unfold Kmh at h
 refine b0 Tryz.f144 K7c 34 [(0,K2o p0),(1,.fnb 70 [K2e clo1_0]),(2,sI a2),(3,sI b3)] fun c hc => ?_
 refine rs hc none [some (.new 1),oN] [(1,.fnb 70 [K2e clo1_0]),(2,sI a2),(3,sI b3)] [] tv ?_
 obtain ⟨_,a0,h⟩ := Qdd h
 refine rs hc none [oN,some (.eqv (.no) ⟨[(12,I (a2.length : Int))],[],[]⟩),some (.eqv (.mk 2 true) ⟨[(13,.rs 2)],[(2,some (.arr (List.map I (List.replicate (Int.toNat (a2.length : Int)) 0))))],[2]⟩),oN] [(1,.fnb 70 [K2e clo1_0]),(2,sI a2),(3,sI b3),(9,.rs 2)] [(2,.arr (List.map I (List.replicate (Int.toNat (a2.length : Int)) 0)))] (ac (Qdj (d := 12) I a2) (congrArg (fun z => (⟨[(13,.rs 2)],[(2,some (.arr z))],[2]⟩ : Wr)) (Qei (enc := I) (n := Int.toNat (a2.length : Int)) (x := I 0) (Qds 0))) (And.intro (Eq.refl (a2.length : Int)) (Qdf a0)) tv) ?_
 refine sN ?_
 refine rss hc none [oN,some (.eqv (.no) ⟨[(15,I (a2.length : Int))],[],[]⟩),oN] [(1,.fnb 70 [K2e clo1_0]),(2,sI a2),(3,sI b3),(9,.rs 2),(15,I (a2.length : Int)),(16,I 0)] (ai (Qdj (d := 15) I a2) tv) ?_
 refine bk 0 ?_
 obtain ⟨a1,a3,h⟩ := Qdd h
 have hL := Kmg _ _ a3 c hc
 refine lp ?_
 refine WpL.into (e := (.exit 0)) (mkS [(9,.rs 2)] [(2,rI a1)]) hL ?_
 refine Qcr ?_
 refine K8d hc 2 [(8,.rs 2)] ?_
 refine rt ?_
 obtain rfl := os h
 exact rq [true]
def Kmk (p : K06 × (List Int) × (List Int)) : Option ((List Int)) :=
 match p with
 | (p0,a1,b2) =>
  (Kmh (p0,p0.fs,a1,b2)) >>= fun a0 =>
  some a0
def Kml (p : K06 × (List Int) × (List Int)) (r : (List Int)) : Prop :=
 match p with
 | (p0,a1,b2) => Q71 Tryz.prog 125 [K2o p0,sI a1,sI b2] (oI r) []
theorem Kmm : ∀ p r,Kmk p = some r → Kml p r := by
 rintro ⟨p0,a1,b2⟩ r h
 unfold Kmk at h
 refine b0 Tryz.f125 K7i 14 [(0,K2o p0),(1,sI a1),(2,sI b2)] fun c hc => ?_
 refine rs hc none [some (.new 1),oN] [(1,sI a1),(2,sI b2),(3,.ra 1 0)] [(1,K2n p0)] tv ?_
 obtain ⟨a0,a2,h⟩ := Qdd h
 refine rs hc none [oN,oN,oN,oN,oN,oN,some (.call (oI a0) [] 2),oN] [(6,.rs 2)] [(2,rI a0)] (cq (Kmj _ _ a2) K7d tv) ?_
 refine rt ?_
 obtain rfl := os h
 exact rq [true]
def Kmn (n1 : Int) : Option (Unit) :=
 if (decide (n1 < 0)) = true then
 none
 else
 if (decide ((wr (n1 - (wr (0 - 0)))) > 0)) = true then
 (chk (0 ≤ (wr (n1 - (wr (0 - 0)))) ∧ (Int.toNat (wr (n1 - (wr (0 - 0))))) * 8 ≤ 140737488355328)) >>= fun _ =>
 some ()
 else
 some ()
def Kmo (n1 : Int) (r : Unit) : Prop :=
 Q9v Tryz.prog 145 n1
theorem Kmp : ∀ p r,Kmn p = some r → Kmo p r := by
 rintro n1 r h
 unfold Kmn at h
 show Q9v Tryz.prog 145 n1
 refine Q9v.of_body K3q (fn := Tryz.f145) (code := K7k) (by kernel_rfl) (by kernel_rfl) (nt := 27) (by kernel_rfl) (by kernel_rfl) (fun c hc => ?_)
 refine rs0 hc 1 [(0,.nils),(1,I n1)] [] ?_
 refine sN ?_
 refine rs0 hc 2 [(0,.nils),(1,I n1),(6,.bool (decide (n1 < 0)))] [] ?_
 refine ic h (fun a0 h => ?_) fun a0 h => ?_
 ·cases h
 refine sk ?_
 refine sN ?_
 refine rs0 hc 8 [(0,.nils),(1,I (wr (n1 - (wr (0 - 0)))))] [] ?_
 refine rs0 hc 2 [(0,.nils),(1,I (wr (n1 - (wr (0 - 0))))),(16,.bool (decide ((wr (n1 - (wr (0 - 0)))) > 0)))] [] ?_
 refine ic h (fun a1 h => ?_) fun a1 h => ?_
 ·obtain ⟨_,a2,h⟩ := Qdd h
  refine rg hc none [oN,oN,oN,oN,oN,some (.new 1),oN,oN,some (.new 2),oN] [(0,.rs 2)] [(2,.ary (List.map I []))] (ai (Qdf a2) tv) ?_
  refine K8d hc 2 [(4,.rs 2)] ?_
  refine rt ?_
  exact Qew.ret (by kernel_rfl)
 refine sk ?_
 refine rs0 hc 2 [(4,.nils)] [] ?_
 refine rt ?_
 exact Qew.ret (by kernel_rfl)
def Kmq (c : Ctx) (slices0 : LL) : Int → Exit → Q0a → Prop
 | a0 => Qcz c (.exit 0) (mkS [(0,sL slices0),(3,I a0)] [])
def Kmr (p : LL × Int × Int) : Option (Int) :=
 match p with
 | (slices0,a0,a1) =>
  if (decide (a1 < (slices0.length : Int))) = true then
  (idx slices0 a1) >>= fun a2 =>
  ((
  if (decide ((wr (a0 + (a2.length : Int))) < 0)) = true then
  none
  else
  some (())
  ) : Option (Unit)) >>= fun () =>
  Kmr (slices0,(wr (a0 + (a2.length : Int))),(wr (a1 + 1)))
  else
  some (a0)
 partial_fixpoint
def Kms (p : LL × Int × Int) (fl : Int) : Prop :=
 match p with
 | (slices0,a0,a1) => ∀ c : Ctx,c.nt = 36 → WpL Tryz.prog c (cl (cl (cr (cl (cr (cr K7m)))))) (Kmq c slices0 fl) (mkS [(0,sL slices0),(3,I a0),(9,sL slices0),(10,I (slices0.length : Int)),(11,I a1)] [])
theorem Kmt : ∀ p r,Kmr p = some r → Kms p r := by
 refine Kmr.partial_correctness Kms ?_
 rintro slices_Concat_int_l0_f slices_Concat_int_l0_ih ⟨slices0,a0,a1⟩ r h
 intro c hc
 refine WpL.step ?_
 refine rs0 hc 1 [(0,sL slices0),(3,I a0),(9,sL slices0),(10,I (slices0.length : Int)),(11,I a1),(12,.bool (decide (a1 < (slices0.length : Int))))] [] ?_
 refine sN ?_
 refine ic h (fun a2 h => ?_) fun a2 h => ?_
 ·refine sk ?_
  refine sN ?_
  refine bk 1 ?_
  obtain ⟨a3,a4,h⟩ := Qdd h
  refine rs hc none [some (.el (sI a3)),oN,oN] [(0,sL slices0),(3,I a0),(5,sI a3),(9,sL slices0),(10,I (slices0.length : Int)),(11,I a1)] [] (ai (xL a4) tv) ?_
  refine rs hc none [oN,oN,some (.eqv (.no) ⟨[(17,I (a3.length : Int))],[],[]⟩),oN,oN] [(0,sL slices0),(3,I (wr (a0 + (a3.length : Int)))),(9,sL slices0),(10,I (slices0.length : Int)),(11,I a1)] [] (ai (Qdj (d := 17) I a3) tv) ?_
  refine rs0 hc 2 [(0,sL slices0),(3,I (wr (a0 + (a3.length : Int)))),(9,sL slices0),(10,I (slices0.length : Int)),(11,I a1),(20,.bool (decide ((wr (a0 + (a3.length : Int))) < 0)))] [] ?_
  obtain ⟨⟨⟩,a5,h⟩ := Qdd h
  refine Wp.into (x := .normal) (mkS [(0,sL slices0),(3,I (wr (a0 + (a3.length : Int)))),(9,sL slices0),(10,I (slices0.length : Int)),(11,I a1)] []) ?_ ?_
  ·replace h := a5
   refine ic h (fun a6 h => ?_) fun a6 h => ?_
   ·cases h
   refine sk ?_
   exact iv []
  clear a5
  refine rg0 hc 2 [(0,sL slices0),(3,I (wr (a0 + (a3.length : Int)))),(9,sL slices0),(10,I (slices0.length : Int)),(11,I (wr (a1 + 1)))] [] ?_
  refine Qcv ?_
  exact (slices_Concat_int_l0_ih _ _ h c hc)
 refine xt 0 ?_
 refine Qcp ?_
 refine Qcw ?_
 obtain rfl := os h
 exact iv []
def Kmu (c : Ctx) : (List Int) → Exit → Q0a → Prop
 | a0 => Qcz c (.exit 2) (mkS [(6,.rs 1)] [(1,.ary (List.map I a0))])
def Kmv (p : LL × (List Int) × Int) : Option ((List Int)) :=
 match p with
 | (slices0,a0,a1) =>
  if (decide (a1 < (slices0.length : Int))) = true then
  (idx slices0 a1) >>= fun a2 =>
  (Qdq (a0.length + a2.length) 8) >>= fun _ =>
  Kmv (slices0,(a0 ++ a2),(wr (a1 + 1)))
  else
  some (a0)
 partial_fixpoint
def Kmw (p : LL × (List Int) × Int) (fl : (List Int)) : Prop :=
 match p with
 | (slices0,a0,a1) => ∀ c : Ctx,c.nt = 36 → WpL Tryz.prog c (cl (cl (cr (cl (cr (cr (cr (cr K7m)))))))) (Kmu c fl) (mkS [(6,.rs 1),(25,sL slices0),(26,I (slices0.length : Int)),(27,I a1)] [(1,.ary (List.map I a0))])
theorem Kmx : ∀ p r,Kmv p = some r → Kmw p r := by
 refine Kmv.partial_correctness Kmw ?_
 rintro slices_Concat_int_l1_f slices_Concat_int_l1_ih ⟨slices0,a0,a1⟩ r h
 intro c hc
 refine WpL.step ?_
 refine K8d hc 1 [(6,.rs 1),(25,sL slices0),(26,I (slices0.length : Int)),(27,I a1),(28,.bool (decide (a1 < (slices0.length : Int))))] ?_
 refine sN ?_
 refine ic h (fun a2 h => ?_) fun a2 h => ?_
 ·refine sk ?_
  refine sN ?_
  refine bk 3 ?_
  obtain ⟨a3,a4,h⟩ := Qdd h
  refine rss hc none [some (.el (sI a3)),oN,oN] [(6,.rs 1),(8,sI a3),(25,sL slices0),(26,I (slices0.length : Int)),(27,I a1)] (ai (xL a4) tv) ?_
  obtain ⟨_,a5,h⟩ := Qdd h
  refine rg hc none [oN,oN,some (.eqv (.new 3) ⟨[(33,.rs 3)],[(3,some (.ary (List.map I (a0 ++ a3)))),(1,none)],[3]⟩),oN] [(6,.rs 3),(25,sL slices0),(26,I (slices0.length : Int)),(27,I a1)] [(3,.ary (List.map I (a0 ++ a3)))] (ab (congrArg (fun z => (⟨[(33,.rs 3)],[(3,some (.ary z)),(1,none)],[3]⟩ : Wr)) ((List.map_append).symm : (List.map I a0) ++ (List.map I a3) = List.map I (a0 ++ a3))) (Qez (enc := I) (e1 := a0) (e2 := a3) (fun _ => rfl) a5) tv) ?_
  refine K8c hc 2 [(6,.rs 3),(25,sL slices0),(26,I (slices0.length : Int)),(27,I (wr (a1 + 1)))] ?_
  refine Qcv ?_
  exact WpL.view (fun a w hv => SRx.renL [(1,3)] hv (by kernel_rfl) (by kernel_rfl) (by kernel_rfl)) (slices_Concat_int_l1_ih _ _ h c hc)
 refine xt 2 ?_
 refine Qcp ?_
 refine Qcw ?_
 obtain rfl := os h
 exact iv []
def Kmy (slices0 : LL) : Option ((List Int)) :=
 (Kmr (slices0,0,0)) >>= fun a0 =>
 (Kmn a0) >>= fun _ =>
 (Kmv (slices0,[],0)) >>= fun a1 =>
 some a1
def Kmz (slices0 : LL) (r : (List Int)) : Prop :=
 Q71 Tryz.prog 126 [sL slices0] (sI r) []
theorem Kn0 : ∀ p r,Kmy p = some r → Kmz p r := by
 rintro slices0 r h
 unfold Kmy at h
 refine b0 Tryz.f126 K7m 36 [(0,sL slices0)] fun c hc => ?_
 refine rs0 hc 1 [(0,sL slices0)] [] ?_
 refine rs0 hc 1 [(0,sL slices0),(3,I 0)] [] ?_
 refine sN ?_
 refine rs hc none [oN,some (.eqv (.no) ⟨[(10,I (slices0.length : Int))],[],[]⟩),oN] [(0,sL slices0),(3,I 0),(9,sL slices0),(10,I (slices0.length : Int)),(11,I 0)] [] (ai (Qdj (d := 10) K07 slices0) tv) ?_
 refine bk 0 ?_
 obtain ⟨a0,a1,h⟩ := Qdd h
 have hL := Kmt _ _ a1 c hc
 refine lp ?_
 refine WpL.into (e := (.exit 0)) (mkS [(0,sL slices0),(3,I a0)] []) hL ?_
 refine Qcr ?_
 obtain ⟨_,a2,h⟩ := Qdd h
 refine rs hc none [oN,some (.new 1),oN] [(0,sL slices0),(6,.rs 1)] [(1,.ary (List.map I []))] (ab (Kmp _ _ a2) K7l tv) ?_
 refine sN ?_
 refine rss hc none [oN,some (.eqv (.no) ⟨[(26,I (slices0.length : Int))],[],[]⟩),oN] [(6,.rs 1),(25,sL slices0),(26,I (slices0.length : Int)),(27,I 0)] (ai (Qdj (d := 26) K07 slices0) tv) ?_
 refine bk 2 ?_
 obtain ⟨a3,a4,h⟩ := Qdd h
 have hL := Kmx _ _ a4 c hc
 refine lp ?_
 refine WpL.into (e := (.exit 2)) (mkS [(6,.rs 1)] [(1,.ary (List.map I a3))]) hL ?_
 refine Qcr ?_
 refine K8d hc 2 [(2,.rs 1)] ?_
 refine Wp.view (fun a w hv => SRx.frzYL 1 (xs := List.map I a3) hv (by kernel_rfl) (by kernel_rfl) (by kernel_rfl)) (?_ : Wp Tryz.prog c _ _ (mkS [(2,sI a3)] []))
 refine rt ?_
 obtain rfl := os h
 exact rq [false]
def Kn1 (p : Int × K06 × Int) : Option (Bool) :=
 match p with
 | (u0,cap0,cap1) =>
  (Khz (cap0.fs,u0,cap1)) >>= fun a0 =>
  some (!a0)
def Kn2 (p : Int × K06 × Int) (r : Bool) : Prop :=
 match p with
 | (u0,cap0,cap1) => Q71 Tryz.prog 147 [I u0,.ptr [I cap0.fs.fSize,.sl (List.map I cap0.fs.fPlus),.sl (List.map I cap0.fs.fTimes),.sl (List.map AV.bool cap0.fs.fBelow)] 0,.ptr [I cap1] 0] (.bool r) []
theorem Kn3 : ∀ p r,Kn1 p = some r → Kn2 p r := by
 rintro ⟨u0,cap0,cap1⟩ r h
 unfold Kn1 at h
 refine b0 Tryz.f147 K7o 11 [(0,I u0),(1,.ptr [I cap0.fs.fSize,.sl (List.map I cap0.fs.fPlus),.sl (List.map I cap0.fs.fTimes),.sl (List.map AV.bool cap0.fs.fBelow)] 0),(2,.ptr [I cap1] 0)] fun c hc => ?_
 refine rs0 hc 1 [(0,I u0),(1,.ptr [I cap0.fs.fSize,.sl (List.map I cap0.fs.fPlus),.sl (List.map I cap0.fs.fTimes),.sl (List.map AV.bool cap0.fs.fBelow)] 0),(2,.ptr [I cap1] 0)] [] ?_
 obtain ⟨a0,a1,h⟩ := Qdd h
 refine rs hc none [oN,oN,oN,oN,oc (.bool a0),oN,oN] [(4,.bool (!a0))] [] (cq (Ki1 _ _ a1) K6b tv) ?_
 refine rt ?_
 obtain rfl := os h
 exact rq [true]
def Kn4 (c : Ctx) : (Unit) ⊕ (Int) → Exit → Q0a → Prop
 | .inl _ => Qcz c (.exit 0) (mkS [] [])
 | .inr r => Qd8 TIx Tryz.f152 [] (I r)
def Kn5 (p : (List Int) × K06 × Int × Int) : Option ((Unit) ⊕ (Int)) :=
 match p with
 | (s0,clo1_0,clo1_1,a0) =>
  if (decide (a0 < (s0.length : Int))) = true then
  (idx s0 a0) >>= fun a1 =>
  (Kn1 (a1,clo1_0,clo1_1)) >>= fun a2 =>
  if a2 = true then
  some (.inr a0)
  else
  Kn5 (s0,clo1_0,clo1_1,(wr (a0 + 1)))
  else
  some (.inl ())
 partial_fixpoint
def Kn6 (p : (List Int) × K06 × Int × Int) (fl : (Unit) ⊕ (Int)) : Prop :=
 match p with
 | (s0,clo1_0,clo1_1,a0) => ∀ c : Ctx,c.nt = 19 → WpL Tryz.prog c (cl (cl (cr (cl (cr K7q))))) (Kn4 c fl) (mkS [(0,sI s0),(1,.fn 147 [.ptr [I clo1_0.fs.fSize,.sl (List.map I clo1_0.fs.fPlus),.sl (List.map I clo1_0.fs.fTimes),.sl (List.map AV.bool clo1_0.fs.fBelow)] 0,.ptr [I clo1_1] 0]),(7,I (s0.length : Int)),(8,I a0)] [])
theorem Kn7 : ∀ p r,Kn5 p = some r → Kn6 p r := by
 refine Kn5.partial_correctness Kn6 ?_
 rintro slices_IndexFunc_int_Kimpl_typerusedOk_c1_l0_f slices_IndexFunc_int_Kimpl_typerusedOk_c1_l0_ih ⟨s0,clo1_0,clo1_1,a0⟩ r h
 intro c hc
 refine WpL.step ?_
 refine rs0 hc 1 [(0,sI s0),(1,.fn 147 [.ptr [I clo1_0.fs.fSize,.sl (List.map I clo1_0.fs.fPlus),.sl (List.map I clo1_0.fs.fTimes),.sl (List.map AV.bool clo1_0.fs.fBelow)] 0,.ptr [I clo1_1] 0]),(7,I (s0.length : Int)),(8,I a0),(9,.bool (decide (a0 < (s0.length : Int))))] [] ?_
 refine sN ?_
 refine ic h (fun a1 h => ?_) fun a1 h => ?_
 ·refine sk ?_
  refine sN ?_
  refine bk 1 ?_
  refine rs0 hc 2 [(0,sI s0),(1,.fn 147 [.ptr [I clo1_0.fs.fSize,.sl (List.map I clo1_0.fs.fPlus),.sl (List.map I clo1_0.fs.fTimes),.sl (List.map AV.bool clo1_0.fs.fBelow)] 0,.ptr [I clo1_1] 0]),(5,I a0),(7,I (s0.length : Int)),(8,I a0)] [] ?_
  obtain ⟨a2,a3,a4,a5,h⟩ := bq2 h
  refine rs hc none [oN,oN,oN,some (.el (I a2)),oN,oc (.bool a4)] [(0,sI s0),(1,.fn 147 [.ptr [I clo1_0.fs.fSize,.sl (List.map I clo1_0.fs.fPlus),.sl (List.map I clo1_0.fs.fTimes),.sl (List.map AV.bool clo1_0.fs.fBelow)] 0,.ptr [I clo1_1] 0]),(5,I a0),(7,I (s0.length : Int)),(8,I a0),(16,.bool a4)] [] (ai (ix a3) (cq (Kn3 _ _ a5) K7p tv)) ?_
  refine ic h (fun a6 h => ?_) fun a6 h => ?_
  ·refine rs0 hc 2 [(4,I a0)] [] ?_
   refine rt ?_
   obtain rfl := os h
   exact re [true]
  refine sk ?_
  refine rg0 hc 2 [(0,sI s0),(1,.fn 147 [.ptr [I clo1_0.fs.fSize,.sl (List.map I clo1_0.fs.fPlus),.sl (List.map I clo1_0.fs.fTimes),.sl (List.map AV.bool clo1_0.fs.fBelow)] 0,.ptr [I clo1_1] 0]),(7,I (s0.length : Int)),(8,I (wr (a0 + 1)))] [] ?_
  refine Qcv ?_
  exact (slices_IndexFunc_int_Kimpl_typerusedOk_c1_l0_ih _ _ h c hc)
 refine xt 0 ?_
 refine Qcp ?_
 refine Qcw ?_
 obtain rfl := os h
 exact iv []
def Kn8 (p : (List Int) × K06 × Int) : Option (Int) :=
 match p with
 | (s0,clo1_0,clo1_1) =>
  (Kn5 (s0,clo1_0,clo1_1,0)) >>= fun fl => match fl with
  | .inl () =>
   some (-1)
  | .inr r =>
   some r
def Kn9 (p : (List Int) × K06 × Int) (r : Int) : Prop :=
 match p with
 | (s0,clo1_0,clo1_1) => Q71 Tryz.prog 152 [sI s0,.fn 147 [.ptr [I clo1_0.fs.fSize,.sl (List.map I clo1_0.fs.fPlus),.sl (List.map I clo1_0.fs.fTimes),.sl (List.map AV.bool clo1_0.fs.fBelow)] 0,.ptr [I clo1_1] 0]] (I r) []
theorem Kna : ∀ p r,Kn8 p = some r → Kn9 p r := by
 rintro ⟨s0,clo1_0,clo1_1⟩ r h
 unfold Kn8 at h
 refine b0 Tryz.f152 K7q 19 [(0,sI s0),(1,.fn 147 [.ptr [I clo1_0.fs.fSize,.sl (List.map I clo1_0.fs.fPlus),.sl (List.map I clo1_0.fs.fTimes),.sl (List.map AV.bool clo1_0.fs.fBelow)] 0,.ptr [I clo1_1] 0])] fun c hc => ?_
 refine rs0 hc 1 [(0,sI s0),(1,.fn 147 [.ptr [I clo1_0.fs.fSize,.sl (List.map I clo1_0.fs.fPlus),.sl (List.map I clo1_0.fs.fTimes),.sl (List.map AV.bool clo1_0.fs.fBelow)] 0,.ptr [I clo1_1] 0])] [] ?_
 refine sN ?_
 refine rs hc none [oN,some (.eqv (.no) ⟨[(7,I (s0.length : Int))],[],[]⟩),oN] [(0,sI s0),(1,.fn 147 [.ptr [I clo1_0.fs.fSize,.sl (List.map I clo1_0.fs.fPlus),.sl (List.map I clo1_0.fs.fTimes),.sl (List.map AV.bool clo1_0.fs.fBelow)] 0,.ptr [I clo1_1] 0]),(7,I (s0.length : Int)),(8,I 0)] [] (ai (Qdj (d := 7) I s0) tv) ?_
 refine bk 0 ?_
 obtain ⟨fl,a0,h⟩ := Qdd h
 have hL := Kn7 _ _ a0 c hc
 refine lp ?_
 rcases fl with ⟨⟩ | r
 ·refine WpL.into (e := (.exit 0)) (mkS [] []) hL ?_
  refine Qcr ?_
  refine rs0 hc 1 [(4,I (-1))] [] ?_
  refine rt ?_
  obtain rfl := os h
  exact rq [true]
 refine WpL.mono hL ?_
 rintro _ _ ⟨rfl,hfin⟩
 obtain rfl := os h
 exact ⟨.inl rfl,hfin⟩
def Knb (p : (List Int) × K06 × Int) : Option (Bool) :=
 match p with
 | (s0,clo1_0,clo1_1) =>
  (Kn8 (s0,clo1_0,clo1_1)) >>= fun a0 =>
  some (decide (a0 ≥ 0))
def Knc (p : (List Int) × K06 × Int) (r : Bool) : Prop :=
 match p with
 | (s0,clo1_0,clo1_1) => Q71 Tryz.prog 146 [sI s0,.fn 147 [.ptr [I clo1_0.fs.fSize,.sl (List.map I clo1_0.fs.fPlus),.sl (List.map I clo1_0.fs.fTimes),.sl (List.map AV.bool clo1_0.fs.fBelow)] 0,.ptr [I clo1_1] 0]] (.bool r) []
theorem Knd : ∀ p r,Knb p = some r → Knc p r := by
 rintro ⟨s0,clo1_0,clo1_1⟩ r h
 unfold Knb at h
 refine b0 Tryz.f146 K7s 9 [(0,sI s0),(1,.fn 147 [.ptr [I clo1_0.fs.fSize,.sl (List.map I clo1_0.fs.fPlus),.sl (List.map I clo1_0.fs.fTimes),.sl (List.map AV.bool clo1_0.fs.fBelow)] 0,.ptr [I clo1_1] 0])] fun c hc => ?_
 refine rs0 hc 1 [(0,sI s0),(1,.fn 147 [.ptr [I clo1_0.fs.fSize,.sl (List.map I clo1_0.fs.fPlus),.sl (List.map I clo1_0.fs.fTimes),.sl (List.map AV.bool clo1_0.fs.fBelow)] 0,.ptr [I clo1_1] 0])] [] ?_
 obtain ⟨a0,a1,h⟩ := Qdd h
 refine rs hc none [oN,oN,oc (I a0),oN,oN] [(4,.bool (decide (a0 ≥ 0)))] [] (cq (Kna _ _ a1) K7r tv) ?_
 refine rt ?_
 obtain rfl := os h
 exact rq [true]
def Kne (p : K06 × (List Int) × Int) : Option (Bool) :=
 match p with
 | (p0,l1,g2) =>
  (Knb (l1,p0,g2)) >>= fun a0 =>
  some (!a0)
def Knf (p : K06 × (List Int) × Int) (r : Bool) : Prop :=
 match p with
 | (p0,l1,g2) => Q71 Tryz.prog 127 [K2o p0,sI l1,I g2] (.bool r) []
theorem Kng : ∀ p r,Kne p = some r → Knf p r := by
 rintro ⟨p0,l1,g2⟩ r h
 unfold Kne at h
 refine b0 Tryz.f127 K7u 11 [(0,K2o p0),(1,sI l1),(2,I g2)] fun c hc => ?_
 refine rs hc none [some (.new 1),some (.new 2),oN] [(1,sI l1),(3,.ra 1 0),(5,.ra 2 0)] [(1,K2n p0),(2,.box [I g2])] tv ?_
 obtain ⟨a0,a1,h⟩ := Qdd h
 refine rs hc none [oN,oN,oc (.bool a0),oN,oN] [(6,.bool (!a0))] [] (ac (Knd _ _ a1) K7t (Or.inr rfl : ([1,2] : List Nat) = [] ∨ noSh (.bool a0) = true) tv) ?_
 refine rt ?_
 obtain rfl := os h
 exact rq [true]
def Knh (c : Ctx) : (List Int) → Exit → Q0a → Prop
 | a0 => Qcz c (.exit 0) (mkS [(7,.rs 2)] [(2,rI a0)])
def Kni (p : K06 × Int × (List Int) × (List Int) × Int) : Option ((List Int)) :=
 match p with
 | (p0,g1,l2,a0,a1) =>
  if (decide (a1 < (l2.length : Int))) = true then
  (idx l2 a1) >>= fun a2 =>
  (Khw (p0.fs,g1,a2)) >>= fun a3 =>
  (idx a0 a1) >>= fun a4 =>
  Kni (p0,g1,l2,(List.set a0 (Int.toNat a1) a3),(wr (a1 + 1)))
  else
  some (a0)
 partial_fixpoint
def Knj (p : K06 × Int × (List Int) × (List Int) × Int) (fl : (List Int)) : Prop :=
 match p with
 | (p0,g1,l2,a0,a1) => ∀ c : Ctx,c.nt = 30 → WpL Tryz.prog c (cl (cl (cr (cl (cr (cr K7w)))))) (Knh c fl) (mkS [(1,I g1),(3,.ra 1 0),(7,.rs 2),(13,sI l2),(14,I (l2.length : Int)),(15,I a1)] [(1,K2n p0),(2,rI a0)])
theorem Knk : ∀ p r,Kni p = some r → Knj p r := by
 refine Kni.partial_correctness Knj ?_
 rintro impl_typerscaled_l0_f impl_typerscaled_l0_ih ⟨p0,g1,l2,a0,a1⟩ r h
 intro c hc
 refine WpL.step ?_
 refine K8d hc 1 [(1,I g1),(3,.ra 1 0),(7,.rs 2),(13,sI l2),(14,I (l2.length : Int)),(15,I a1),(16,.bool (decide (a1 < (l2.length : Int))))] ?_
 refine sN ?_
 refine ic h (fun a2 h => ?_) fun a2 h => ?_
 ·refine sk ?_
  refine sN ?_
  refine bk 1 ?_
  obtain ⟨a3,a4,h⟩ := Qdd h
  refine rss hc none [oN,some (.el (I a3)),oN,oN,oN] [(1,I g1),(3,.ra 1 0),(7,.rs 2),(8,I a1),(9,I a3),(13,sI l2),(14,I (l2.length : Int)),(15,I a1)] (ai (ix a4) tv) ?_
  obtain ⟨a5,a6,a7,a8,h⟩ := bq2 h
  refine rg hc none [oN,oN,oN,oN,oN,oN,oc (I a5),oN,some (.eqv (.mk 0 true) ⟨[],[(2,some (.arr (List.map I (List.set a0 (Int.toNat a1) a5))))],[]⟩)] [(1,I g1),(3,.ra 1 0),(7,.rs 2),(13,sI l2),(14,I (l2.length : Int)),(15,I a1)] [(1,K2n p0),(2,.arr (List.map I (List.set a0 (Int.toNat a1) a5)))] (cq (Khy _ _ a6) K6a (ac (Qdi (enc := I) a8) (congrArg (fun z => (⟨[],[(2,some (.arr z))],[]⟩ : Wr)) (Qeg (enc := I) (i := Int.toNat a1) (l := a0) (v := a5) (x := I a5) (Qds a5))) (Qeh (enc := I) (sz := 1) Qdw a8) tv)) ?_
  refine K8c hc 2 [(1,I g1),(3,.ra 1 0),(7,.rs 2),(13,sI l2),(14,I (l2.length : Int)),(15,I (wr (a1 + 1)))] ?_
  refine Qcv ?_
  exact (impl_typerscaled_l0_ih _ _ h c hc)
 refine xt 0 ?_
 refine Qcp ?_
 refine Qcw ?_
 obtain rfl := os h
 exact iv []
def Knl (p : K06 × Int × (List Int)) : Option ((List Int)) :=
 match p with
 | (p0,g1,l2) =>
  (chk (0 ≤ (l2.length : Int) ∧ (Int.toNat (l2.length : Int)) * 8 ≤ 140737488355328)) >>= fun _ =>
  (Kni (p0,g1,l2,(List.replicate (Int.toNat (l2.length : Int)) 0),0)) >>= fun a0 =>
  some a0
def Knm (p : K06 × Int × (List Int)) (r : (List Int)) : Prop :=
 match p with
 | (p0,g1,l2) => Q71 Tryz.prog 128 [K2o p0,I g1,sI l2] (oI r) []
theorem Knn : ∀ p r,Knl p = some r → Knm p r := by
 rintro ⟨p0,g1,l2⟩ r h
 unfold Knl at h
 refine b0 Tryz.f128 K7w 30 [(0,K2o p0),(1,I g1),(2,sI l2)] fun c hc => ?_
 refine rs hc none [some (.new 1),oN] [(1,I g1),(2,sI l2),(3,.ra 1 0)] [(1,K2n p0)] tv ?_
 obtain ⟨_,a0,h⟩ := Qdd h
 refine rs hc none [oN,some (.eqv (.no) ⟨[(11,I (l2.length : Int))],[],[]⟩),some (.eqv (.mk 2 true) ⟨[(12,.rs 2)],[(2,some (.arr (List.map I (List.replicate (Int.toNat (l2.length : Int)) 0))))],[2]⟩),oN] [(1,I g1),(2,sI l2),(3,.ra 1 0),(7,.rs 2)] [(1,K2n p0),(2,.arr (List.map I (List.replicate (Int.toNat (l2.length : Int)) 0)))] (ac (Qdj (d := 11) I l2) (congrArg (fun z => (⟨[(12,.rs 2)],[(2,some (.arr z))],[2]⟩ : Wr)) (Qei (enc := I) (n := Int.toNat (l2.length : Int)) (x := I 0) (Qds 0))) (And.intro (Eq.refl (l2.length : Int)) (Qdf a0)) tv) ?_
 refine sN ?_
 refine rss hc none [oN,some (.eqv (.no) ⟨[(14,I (l2.length : Int))],[],[]⟩),oN] [(1,I g1),(3,.ra 1 0),(7,.rs 2),(13,sI l2),(14,I (l2.length : Int)),(15,I 0)] (ai (Qdj (d := 14) I l2) tv) ?_
 refine bk 0 ?_
 obtain ⟨a1,a2,h⟩ := Qdd h
 have hL := Knk _ _ a2 c hc
 refine lp ?_
 refine WpL.into (e := (.exit 0)) (mkS [(7,.rs 2)] [(2,rI a1)]) hL ?_
 refine Qcr ?_
 refine K8d hc 2 [(6,.rs 2)] ?_
 refine rt ?_
 obtain rfl := os h
 exact rq [true]
def Kno (ty0 : (List Int)) : Option (Bool) :=
 some (decide ((ty0.length : Int) > 40))
def Knp (ty0 : (List Int)) (r : Bool) : Prop :=
 Q71 Tryz.prog 129 [sI ty0] (.bool r) []
theorem Knq : ∀ p r,Kno p = some r → Knp p r := by
 rintro ty0 r h
 unfold Kno at h
 refine b0 Tryz.f129 K7y 6 [(0,sI ty0)] fun c hc => ?_
 refine rs0 hc 1 [(0,sI ty0)] [] ?_
 refine rs hc none [oN,some (.eqv (.no) ⟨[(4,I (ty0.length : Int))],[],[]⟩),oN,oN] [(2,.bool (decide ((ty0.length : Int) > 40)))] [] (ai (Qdj (d := 4) I ty0) tv) ?_
 refine rt ?_
 obtain rfl := os h
 exact rq [true]
def Knr (c : Ctx) (p0 : K06) (out1 : K05) (ctx2 : LL) (t3 : K01) (needs4 : LL) (used5 : LL) : ((List Int) × (List Int)) ⊕ ((Int × K05)) → Exit → Q0a → Prop
 | .inl (a0,a1) => Qcz c .normal (mkS [(7,.ra 2 0)] [(2,.box [.ra 2000 0]),(36,rI a1),(2000,.box [sI a0,.rs 36,.sl (List.map K0i out1.fkids),I out1.ffault,sI out1.fpath])])
 | .inr r => Qdb TIx Tryz.f80 [K2o p0,.optr [oI out1.fty,oI out1.fneeds,.osl (List.map K0i out1.fkids),I out1.ffault,oI out1.fpath],sL ctx2,K2g t3,sL needs4,sL used5] (I r.1,[.undef,.optr [.sl (List.map I r.2.fty),.sl (List.map I r.2.fneeds),.sl (List.map K0i r.2.fkids),I r.2.ffault,.sl (List.map I r.2.fpath)],.undef,.undef,.undef,.undef])
def Kns (c : Ctx) (p0 : K06) (out1 : K05) (ctx2 : LL) (t3 : K01) (needs4 : LL) (used5 : LL) : ((List Int) × (List Int)) ⊕ ((Int × K05)) → Exit → Q0a → Prop
 | .inl (a0,a1) => Qcz c .normal (mkS [(7,.ra 2 0)] [(2,.box [.ra 2000 0]),(34,rI a1),(2000,.box [sI a0,.rs 34,.sl (List.map K0i out1.fkids),I out1.ffault,sI out1.fpath])])
 | .inr r => Qdb TIx Tryz.f80 [K2o p0,.optr [oI out1.fty,oI out1.fneeds,.osl (List.map K0i out1.fkids),I out1.ffault,oI out1.fpath],sL ctx2,K2g t3,sL needs4,sL used5] (I r.1,[.undef,.optr [.sl (List.map I r.2.fty),.sl (List.map I r.2.fneeds),.sl (List.map K0i r.2.fkids),I r.2.ffault,.sl (List.map I r.2.fpath)],.undef,.undef,.undef,.undef])
def Knt (c : Ctx) (p0 : K06) (out1 : K05) (ctx2 : LL) (t3 : K01) (needs4 : LL) (used5 : LL) : ((List Int) × (List Int)) ⊕ ((Int × K05)) → Exit → Q0a → Prop
 | .inl (a0,a1) => Qcz c .normal (mkS [(7,.ra 2 0)] [(2,.box [.ra 2000 0]),(30,rI a1),(2000,.box [sI a0,.rs 30,.sl (List.map K0i out1.fkids),I out1.ffault,sI out1.fpath])])
 | .inr r => Qdb TIx Tryz.f80 [K2o p0,.optr [oI out1.fty,oI out1.fneeds,.osl (List.map K0i out1.fkids),I out1.ffault,oI out1.fpath],sL ctx2,K2g t3,sL needs4,sL used5] (I r.1,[.undef,.optr [.sl (List.map I r.2.fty),.sl (List.map I r.2.fneeds),.sl (List.map K0i r.2.fkids),I r.2.ffault,.sl (List.map I r.2.fpath)],.undef,.undef,.undef,.undef])
def Knu (c : Ctx) (p0 : K06) (out1 : K05) (ctx2 : LL) (t3 : K01) (needs4 : LL) (used5 : LL) : ((List Int) × (List Int)) ⊕ ((Int × K05)) → Exit → Q0a → Prop
 | .inl (a0,a1) => Qcz c .normal (mkS [(7,.ra 2 0)] [(2,.box [.ra 2000 0]),(2000,.box [sI a0,sI a1,.sl (List.map K0i out1.fkids),I out1.ffault,sI out1.fpath])])
 | .inr r => Qdb TIx Tryz.f80 [K2o p0,.optr [oI out1.fty,oI out1.fneeds,.osl (List.map K0i out1.fkids),I out1.ffault,oI out1.fpath],sL ctx2,K2g t3,sL needs4,sL used5] (I r.1,[.undef,.optr [.sl (List.map I r.2.fty),.sl (List.map I r.2.fneeds),.sl (List.map K0i r.2.fkids),I r.2.ffault,.sl (List.map I r.2.fpath)],.undef,.undef,.undef,.undef])
def Knv (c : Ctx) (p0 : K06) (out1 : K05) (ctx2 : LL) (t3 : K01) (needs4 : LL) (used5 : LL) : ((List Int) × (List Int)) ⊕ ((Int × K05)) → Exit → Q0a → Prop
 | .inl (a0,a1) => Qcz c .normal (mkS [(7,.ra 2 0)] [(2,.box [.ra 2000 0]),(2000,.box [sI a0,sI a1,.sl (List.map K0i out1.fkids),I out1.ffault,sI out1.fpath])])
 | .inr r => Qdb TIx Tryz.f80 [K2o p0,.optr [oI out1.fty,oI out1.fneeds,.osl (List.map K0i out1.fkids),I out1.ffault,oI out1.fpath],sL ctx2,K2g t3,sL needs4,sL used5] (I r.1,[.undef,.optr [.sl (List.map I r.2.fty),.sl (List.map I r.2.fneeds),.sl (List.map K0i r.2.fkids),I r.2.ffault,.sl (List.map I r.2.fpath)],.undef,.undef,.undef,.undef])
def Knw (c : Ctx) (p0 : K06) (out1 : K05) (ctx2 : LL) (t3 : K01) (needs4 : LL) (used5 : LL) : ((List Int) × (List Int)) ⊕ ((Int × K05)) → Exit → Q0a → Prop
 | .inl (a0,a1) => Qcz c .normal (mkS [(7,.ra 2 0)] [(2,.box [.ra 2000 0]),(2000,.box [sI a0,sI a1,.sl (List.map K0i out1.fkids),I out1.ffault,sI out1.fpath])])
 | .inr r => Qdb TIx Tryz.f80 [K2o p0,.optr [oI out1.fty,oI out1.fneeds,.osl (List.map K0i out1.fkids),I out1.ffault,oI out1.fpath],sL ctx2,K2g t3,sL needs4,sL used5] (I r.1,[.undef,.optr [.sl (List.map I r.2.fty),.sl (List.map I r.2.fneeds),.sl (List.map K0i r.2.fkids),I r.2.ffault,.sl (List.map I r.2.fpath)],.undef,.undef,.undef,.undef])
def Knx (c : Ctx) (p0 : K06) (out1 : K05) (ctx2 : LL) (t3 : K01) (needs4 : LL) (used5 : LL) : ((List Int) × (List Int)) ⊕ ((Int × K05)) → Exit → Q0a → Prop
 | .inl (a0,a1) => Qcz c .normal (mkS [(7,.ra 2 0)] [(2,.box [.ra 2000 0]),(2000,.box [sI a0,sI a1,.sl (List.map K0i out1.fkids),I out1.ffault,sI out1.fpath])])
 | .inr r => Qdb TIx Tryz.f80 [K2o p0,.optr [oI out1.fty,oI out1.fneeds,.osl (List.map K0i out1.fkids),I out1.ffault,oI out1.fpath],sL ctx2,K2g t3,sL needs4,sL used5] (I r.1,[.undef,.optr [.sl (List.map I r.2.fty),.sl (List.map I r.2.fneeds),.sl (List.map K0i r.2.fkids),I r.2.ffault,.sl (List.map I r.2.fpath)],.undef,.undef,.undef,.undef])
def Kny (c : Ctx) (p0 : K06) (out1 : K05) (ctx2 : LL) (t3 : K01) (needs4 : LL) (used5 : LL) : ((List Int) × (List Int)) ⊕ ((Int × K05)) → Exit → Q0a → Prop
 | .inl (a0,a1) => Qcz c .normal (mkS [(7,.ra 2 0)] [(2,.box [.ra 2000 0]),(2000,.box [sI a0,sI a1,.sl (List.map K0i out1.fkids),I out1.ffault,sI out1.fpath])])
 | .inr r => Qdb TIx Tryz.f80 [K2o p0,.optr [oI out1.fty,oI out1.fneeds,.osl (List.map K0i out1.fkids),I out1.ffault,oI out1.fpath],sL ctx2,K2g t3,sL needs4,sL used5] (I r.1,[.undef,.optr [.sl (List.map I r.2.fty),.sl (List.map I r.2.fneeds),.sl (List.map K0i r.2.fkids),I r.2.ffault,.sl (List.map I r.2.fpath)],.undef,.undef,.undef,.undef])
def Knz (c : Ctx) (p0 : K06) (out1 : K05) (ctx2 : LL) (t3 : K01) (needs4 : LL) (used5 : LL) : ((List Int) × (List Int)) ⊕ ((Int × K05)) → Exit → Q0a → Prop
 | .inl (a0,a1) => Qcz c .normal (mkS [(7,.ra 2 0)] [(2,.box [.ra 2000 0]),(2000,.box [sI a0,sI a1,.sl (List.map K0i out1.fkids),I out1.ffault,sI out1.fpath])])
 | .inr r => Qdb TIx Tryz.f80 [K2o p0,.optr [oI out1.fty,oI out1.fneeds,.osl (List.map K0i out1.fkids),I out1.ffault,oI out1.fpath],sL ctx2,K2g t3,sL needs4,sL used5] (I r.1,[.undef,.optr [.sl (List.map I r.2.fty),.sl (List.map I r.2.fneeds),.sl (List.map K0i r.2.fkids),I r.2.ffault,.sl (List.map I r.2.fpath)],.undef,.undef,.undef,.undef])
def Ko0 (c : Ctx) (p0 : K06) (out1 : K05) (ctx2 : LL) (t3 : K01) (needs4 : LL) (used5 : LL) : ((List Int) × (List Int)) ⊕ ((Int × K05)) → Exit → Q0a → Prop
 | .inl (a0,a1) => Qcz c .normal (mkS [(7,.ra 2 0)] [(2,.box [.ra 2000 0]),(2000,.box [sI a0,sI a1,.sl (List.map K0i out1.fkids),I out1.ffault,sI out1.fpath])])
 | .inr r => Qdb TIx Tryz.f80 [K2o p0,.optr [oI out1.fty,oI out1.fneeds,.osl (List.map K0i out1.fkids),I out1.ffault,oI out1.fpath],sL ctx2,K2g t3,sL needs4,sL used5] (I r.1,[.undef,.optr [.sl (List.map I r.2.fty),.sl (List.map I r.2.fneeds),.sl (List.map K0i r.2.fkids),I r.2.ffault,.sl (List.map I r.2.fpath)],.undef,.undef,.undef,.undef])
def Ko1 (c : Ctx) (p0 : K06) (out1 : K05) (ctx2 : LL) (t3 : K01) (needs4 : LL) (used5 : LL) : ((List Int) × (List Int)) ⊕ ((Int × K05)) → Exit → Q0a → Prop
 | .inl (a0,a1) => Qcz c .normal (mkS [(7,.ra 2 0)] [(2,.box [.ra 2000 0]),(2000,.box [sI a0,sI a1,.sl (List.map K0i out1.fkids),I out1.ffault,sI out1.fpath])])
 | .inr r => Qdb TIx Tryz.f80 [K2o p0,.optr [oI out1.fty,oI out1.fneeds,.osl (List.map K0i out1.fkids),I out1.ffault,oI out1.fpath],sL ctx2,K2g t3,sL needs4,sL used5] (I r.1,[.undef,.optr [.sl (List.map I r.2.fty),.sl (List.map I r.2.fneeds),.sl (List.map K0i r.2.fkids),I r.2.ffault,.sl (List.map I r.2.fpath)],.undef,.undef,.undef,.undef])
def Ko2 (c : Ctx) (p0 : K06) (out1 : K05) (ctx2 : LL) (t3 : K01) (needs4 : LL) (used5 : LL) : ((List Int) × (List Int)) ⊕ ((Int × K05)) → Exit → Q0a → Prop
 | .inl (a0,a1) => Qcz c .normal (mkS [(7,.ra 2 0)] [(2,.box [.ra 2000 0]),(2000,.box [sI a0,sI a1,.sl (List.map K0i out1.fkids),I out1.ffault,sI out1.fpath])])
 | .inr r => Qdb TIx Tryz.f80 [K2o p0,.optr [oI out1.fty,oI out1.fneeds,.osl (List.map K0i out1.fkids),I out1.ffault,oI out1.fpath],sL ctx2,K2g t3,sL needs4,sL used5] (I r.1,[.undef,.optr [.sl (List.map I r.2.fty),.sl (List.map I r.2.fneeds),.sl (List.map K0i r.2.fkids),I r.2.ffault,.sl (List.map I r.2.fpath)],.undef,.undef,.undef,.undef])
def Ko3 (c : Ctx) (p0 : K06) (out1 : K05) (ctx2 : LL) (t3 : K01) (needs4 : LL) (used5 : LL) : ((List Int) × (List Int)) ⊕ ((Int × K05)) → Exit → Q0a → Prop
 | .inl (a0,a1) => Qcz c .normal (mkS [(7,.ra 2 0)] [(2,.box [.ra 2000 0]),(2000,.box [sI a0,sI a1,.sl (List.map K0i out1.fkids),I out1.ffault,sI out1.fpath])])
 | .inr r => Qdb TIx Tryz.f80 [K2o p0,.optr [oI out1.fty,oI out1.fneeds,.osl (List.map K0i out1.fkids),I out1.ffault,oI out1.fpath],sL ctx2,K2g t3,sL needs4,sL used5] (I r.1,[.undef,.optr [.sl (List.map I r.2.fty),.sl (List.map I r.2.fneeds),.sl (List.map K0i r.2.fkids),I r.2.ffault,.sl (List.map I r.2.fpath)],.undef,.undef,.undef,.undef])
end Go.Am
