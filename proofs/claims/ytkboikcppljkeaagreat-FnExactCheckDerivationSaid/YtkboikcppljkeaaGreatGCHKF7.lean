/- Functions of the program as pure functions,and that it computes them. Printed by a program of mine (gen.py). -/
import Derived.Test.YtkboikcppljkeaaGreatGCHKF5
set_option linter.unusedVariables false
set_option linter.unusedSimpArgs false
set_option maxRecDepth 100000
namespace Go.Am
open Go Go.Proofs
def Kgz : Option (List (List Nat)) := rx [[0],[0],[2],[3],[0],[0,4],[0,4,5],[7],[8],[9],[10],[10],[10],[10,11,12],[10,11,12,13],[10],[10],[10,15,16],[10,15,16,17],[19],[20],[21]]
def Kh0 : Option (List (List Nat)) := rx [[0],[0],[2],[3],[4],[5],[6],[5],[5,7],[5,7,8],[5],[5,7,8,9,10],[5,7,8,9,10,11],[13],[14],[15]]
def Kh1 : Option (List (List Nat)) := rx [[0],[1],[2],[3],[4],[3],[3,5],[3],[3,5,6,7],[9],[10],[11]]
def Kh2 : Option (List (List Nat)) := rx [[0],[0],[0,1],[0,1,2],[4],[5],[6],[7],[7],[7],[7,8,9],[7,8,9,10],[12],[13],[14],[15],[16],[16],[18],[19],[20],[21],[16],[16],[16,22,23],[16,22,23,24],[16,22,23,24,25],[16,22,23,24,25,26],[16,22,23,24,25,26,27],[29],[30]]
def Kh3 (p : K00 × (List Int) × (List Int) × Int) : Option ((Unit) ⊕ (Bool)) :=
 match p with
 | (s0,needs1,budgets2,a0) =>
  if (decide (a0 < (needs1.length : Int))) = true then
  ((
  (idx budgets2 a0) >>= fun a1 =>
  (Kaq (a1,0,(wr (s0.fSize - 1)))) >>= fun a2 =>
  if a2 = true then
  (idx needs1 a0) >>= fun a3 =>
  (idx budgets2 a0) >>= fun a4 =>
  (Kb6 (s0,a3,a4)) >>= fun a5 =>
  some ((!a5))
  else
  some (true)
  ) : Option (Bool)) >>= fun a6 =>
  if a6 = true then
  some (.inr false)
  else
  Kh3 (s0,needs1,budgets2,(wr (a0 + 1)))
  else
  some (.inl ())
 partial_fixpoint
def Kh4 (p : K00 × (List Int) × (List Int) × Int) (fl : (Unit) ⊕ (Bool)) : Prop :=
 match p with
 | (s0,needs1,budgets2,a0) => ∀ c : Ctx,c.nt = 41 → WpL Tryz.prog c (cl (cl (cr (cl (cr (cr B64)))))) (Kgy c fl) (mkS [(1,sI needs1),(2,sI budgets2),(3,.ra 1 0),(7,I a0)] [(1,K2d s0)])
theorem Kh5 : ∀ p r,Kh3 p = some r → Kh4 p r := by
 refine Kh3.partial_correctness Kh4 ?_
 rintro spec_l3Below_l0_f spec_l3Below_l0_ih ⟨s0,needs1,budgets2,a0⟩ r h
 intro c hc
 refine WpL.step ?_
 refine sN ?_
 refine rss hc none [oN,oN,some (.eqv (.no) ⟨[(15,I (needs1.length : Int))],[],[]⟩),oN] [(1,sI needs1),(2,sI budgets2),(3,.ra 1 0),(7,I a0),(16,.bool (decide (a0 < (needs1.length : Int))))] (ai (Qdj (d := 15) I needs1) tv) ?_
 refine ic h (fun a1 h => ?_) fun a1 h => ?_
 ·refine sk ?_
  refine sN ?_
  refine bk 1 ?_
  refine sN ?_
  obtain ⟨a2,a3,h⟩ := Qdd h
  refine Wp.into (x := .normal) (mkS [(1,sI needs1),(2,sI budgets2),(3,.ra 1 0),(7,I a0),(40,.bool a2)] [(1,K2d s0)]) ?_ ?_
  ·replace h := a3
   obtain ⟨a4,a5,a6,a7,h⟩ := bq2 h
   rcases is h with ⟨a8,h⟩ | ⟨a8,h⟩
   ·obtain ⟨a9,b1,b2,b3,b4,b5,h⟩ := bq3 h
    refine rgs hc Kgz [oN,oN,some (.el (I a4)),oN,oN,oN,oN,oc (.bool a6),oN,oN,oN,oN,oN,some (.el (I a9)),oN,oN,oN,some (.el (I b2)),oN,oc (.bool b4),oN,oF] [(1,sI needs1),(2,sI budgets2),(3,.ra 1 0),(7,I a0),(40,.bool (!b4))] (ai (ix a5) (cq (Kas _ _ a7) K47 (ar 4 (nF a8) (ai (ix b1) (ar 4 (nF a8) (ai (ix b3) (ar 2 (nF a8) (cq (Kb8 _ _ b5) K4e (ar 2 (nF a8) tv))))))))) ?_
    obtain rfl := os h
    exact Qcz.mk
   refine rgs hc Kgz [oN,oN,some (.el (I a4)),oN,oN,oN,oN,oc (.bool a6),oN,oN,o_,o_,o_,o_,o_,o_,o_,o_,o_,o_,o_,oT] [(1,sI needs1),(2,sI budgets2),(3,.ra 1 0),(7,I a0),(40,.bool true)] (ai (ix a5) (cq (Kas _ _ a7) K47 (ar 11 (neF (nT a8)) (ai (nT a8) tv)))) ?_
   obtain rfl := os h
   exact Qcz.mk
  clear a3
  refine ic h (fun b6 h => ?_) fun b6 h => ?_
  ·refine rs0 hc 1 [(6,.bool false)] [] ?_
   refine rt ?_
   obtain rfl := os h
   exact re [true]
  refine sk ?_
  refine K8c hc 3 [(1,sI needs1),(2,sI budgets2),(3,.ra 1 0),(7,I (wr (a0 + 1)))] ?_
  refine Qcv ?_
  exact (spec_l3Below_l0_ih _ _ h c hc)
 refine xt 0 ?_
 refine Qcp ?_
 refine Qcw ?_
 obtain rfl := os h
 exact iv []
def Kh6 (p : K00 × (List Int) × (List Int)) : Option (Bool) :=
 match p with
 | (s0,needs1,budgets2) =>
  if ((needs1.length : Int) != (budgets2.length : Int)) = true then
  some false
  else
  (Kh3 (s0,needs1,budgets2,0)) >>= fun fl => match fl with
  | .inl () =>
   some true
  | .inr r =>
   some r
def Kh7 (p : K00 × (List Int) × (List Int)) (r : Bool) : Prop :=
 match p with
 | (s0,needs1,budgets2) => Q71 Tryz.prog 64 [K2e s0,sI needs1,sI budgets2] (.bool r) []
theorem Kh8 : ∀ p r,Kh6 p = some r → Kh7 p r := by
 rintro ⟨s0,needs1,budgets2⟩ r h
 unfold Kh6 at h
 refine b0 Tryz.f64 B64 41 [(0,K2e s0),(1,sI needs1),(2,sI budgets2)] fun c hc => ?_
 refine rs hc none [some (.new 1),oN] [(1,sI needs1),(2,sI budgets2),(3,.ra 1 0)] [(1,K2d s0)] tv ?_
 refine sN ?_
 refine rss hc none [oN,some (.eqv (.no) ⟨[(9,I (needs1.length : Int))],[],[]⟩),oN,some (.eqv (.no) ⟨[(11,I (budgets2.length : Int))],[],[]⟩),oN] [(1,sI needs1),(2,sI budgets2),(3,.ra 1 0),(12,.bool ((needs1.length : Int) != (budgets2.length : Int)))] (ab (Qdj (d := 9) I needs1) (Qdj (d := 11) I budgets2) tv) ?_
 refine ic h (fun a0 h => ?_) fun a0 h => ?_
 ·refine rs0 hc 1 [(6,.bool false)] [] ?_
  refine rt ?_
  obtain rfl := os h
  exact rq [true]
 refine sk ?_
 refine sN ?_
 refine K8d hc 1 [(1,sI needs1),(2,sI budgets2),(3,.ra 1 0),(7,I 0)] ?_
 refine bk 0 ?_
 obtain ⟨fl,a1,h⟩ := Qdd h
 have hL := Kh5 _ _ a1 c hc
 refine lp ?_
 rcases fl with ⟨⟩ | r
 ·refine WpL.into (e := (.exit 0)) (mkS [] []) hL ?_
  refine Qcr ?_
  refine rs0 hc 1 [(6,.bool true)] [] ?_
  refine rt ?_
  obtain rfl := os h
  exact rq [true]
 refine WpL.mono hL ?_
 rintro _ _ ⟨rfl,hfin⟩
 obtain rfl := os h
 exact ⟨.inl rfl,hfin⟩
def Kh9 (c : Ctx) (s0 : K00) (a0 : K02) : ((List K03)) ⊕ (Bool) → Exit → Q0a → Prop
 | .inl a1 => Qcz c (.exit 0) (mkS [(3,.ra 1 0),(7,.ra 2 0),(8,.rs 3)] [(1,K2d s0),(2,K2h a0),(3,.arr (List.map K14 a1))])
 | .inr r => Qd8 TIx Tryz.f35 [] (.bool r)
def Kha (p : K00 × (List K02) × Int × K02 × (List K03) × Int) : Option (((List K03)) ⊕ (Bool)) :=
 match p with
 | (s0,l1,i2,a0,a1,a2) =>
  if (decide (a2 < (a0.fFrom.length : Int))) = true then
  (idx a0.fFrom a2) >>= fun a3 =>
  (Kaq (a3,0,(wr (i2 - 1)))) >>= fun a4 =>
  if a4 = true then
  (idx a0.fFrom a2) >>= fun a5 =>
  (idx l1 a5) >>= fun a6 =>
  ((
  (Keb (s0,a6)) >>= fun a7 =>
  if a7 = true then
  (idx a0.fTerm.fKids a2) >>= fun a8 =>
  (Kem (a6.fTerm,a8)) >>= fun a9 =>
  some ((!a9))
  else
  some (true)
  ) : Option (Bool)) >>= fun b1 =>
  if b1 = true then
  some (.inr false)
  else
  (Qdq (a1.length + [(K03.mk a6.fType a6.fBudgets 0 [])].length) 80) >>= fun _ =>
  (idx (a1 ++ [(K03.mk a6.fType a6.fBudgets 0 [])]) 0) >>= fun b2 =>
  (Kez (a0.fTerm,b2.fty,a2)) >>= fun (b3,b4) =>
  ((
  if b4 = true then
  (Kf2 (a0.fCtx,b3)) >>= fun b5 =>
  (Kf9 (a6.fCtx,b5)) >>= fun b6 =>
  some ((!b6))
  else
  some (true)
  ) : Option (Bool)) >>= fun b7 =>
  if b7 = true then
  some (.inr false)
  else
  Kha (s0,l1,i2,a0,(a1 ++ [(K03.mk a6.fType a6.fBudgets 0 [])]),(wr (a2 + 1)))
  else
  some (.inr false)
  else
  some (.inl a1)
 partial_fixpoint
def Khb (p : K00 × (List K02) × Int × K02 × (List K03) × Int) (fl : ((List K03)) ⊕ (Bool)) : Prop :=
 match p with
 | (s0,l1,i2,a0,a1,a2) => ∀ c : Ctx,c.nt = 146 → WpL Tryz.prog c (cl (cl (cr (cl (cr (cr (cr (cr B35)))))))) (Kh9 c s0 a0 fl) (mkS [(1,.sl (List.map K12 l1)),(2,I i2),(3,.ra 1 0),(7,.ra 2 0),(8,.rs 3),(9,I a2)] [(1,K2d s0),(2,K2h a0),(3,.arr (List.map K14 a1))])
theorem Khc : ∀ p r,Kha p = some r → Khb p r := by
 refine Kha.partial_correctness Khb ?_
 rintro spec_StepHolds_l0_f spec_StepHolds_l0_ih ⟨s0,l1,i2,a0,a1,a2⟩ r h
 intro c hc
 refine WpL.step ?_
 refine sN ?_
 refine rss hc none [oN,oN,oN,some (.eqv (.no) ⟨[(53,I (a0.fFrom.length : Int))],[],[]⟩),oN] [(1,.sl (List.map K12 l1)),(2,I i2),(3,.ra 1 0),(7,.ra 2 0),(8,.rs 3),(9,I a2),(54,.bool (decide (a2 < (a0.fFrom.length : Int))))] (ai (Qdj (d := 53) I a0.fFrom) tv) ?_
 refine ic h (fun a3 h => ?_) fun a3 h => ?_
 ·refine sk ?_
  refine sN ?_
  refine bk 1 ?_
  refine sN ?_
  obtain ⟨a4,a5,a6,a7,h⟩ := bq2 h
  refine rss hc none [oN,oN,oN,some (.el (I a4)),oN,oN,oN,oc (.bool a6),oN] [(1,.sl (List.map K12 l1)),(2,I i2),(3,.ra 1 0),(7,.ra 2 0),(8,.rs 3),(9,I a2),(65,.bool (!a6))] (ai (ix a5) (cq (Kas _ _ a7) K47 tv)) ?_
  rcases is h with ⟨a8,h⟩ | ⟨a8,h⟩
  ·refine cF (!a6) (nF a8) ?_
   refine sk ?_
   obtain ⟨a9,b1,b2,b3,h⟩ := bq2 h
   refine rs hc none [oN,oN,oN,oN,some (.el (I a9)),oN,some (.el (K2i b2)),oN,some (.new 8),oN] [(1,.sl (List.map K12 l1)),(2,I i2),(3,.ra 1 0),(7,.ra 2 0),(8,.rs 3),(9,I a2),(10,.ra 8 0)] [(1,K2d s0),(2,K2h a0),(3,.arr (List.map K14 a1)),(8,K2h b2)] (ab (ix b1) (Qdh b3 (K1e b2)) tv) ?_
   refine sN ?_
   refine sN ?_
   obtain ⟨b4,b5,h⟩ := Qdd h
   refine Wp.into (x := .normal) (mkS [(1,.sl (List.map K12 l1)),(2,I i2),(3,.ra 1 0),(7,.ra 2 0),(8,.rs 3),(9,I a2),(10,.ra 8 0),(89,.bool b4)] [(1,K2d s0),(2,K2h a0),(3,.arr (List.map K14 a1)),(8,K2h b2)]) ?_ ?_
   ·replace h := b5
    obtain ⟨b6,b7,h⟩ := Qdd h
    rcases is h with ⟨b8,h⟩ | ⟨b8,h⟩
    ·obtain ⟨b9,c0,c1,c2,h⟩ := bq2 h
     refine rgs hc Kh0 [oN,oN,oc (.bool b6),oN,oN,oN,oN,oN,oN,oN,oN,some (.el (K2g b9)),oN,oc (.bool c1),oN,oF] [(1,.sl (List.map K12 l1)),(2,I i2),(3,.ra 1 0),(7,.ra 2 0),(8,.rs 3),(9,I a2),(10,.ra 8 0),(89,.bool (!c1))] (cq (Ked _ _ b7) K5i (ar 7 (nF b8) (ai (Qdh c0 (K0z b9)) (ar 2 (nF b8) (cq (Ker _ _ c2) K5k (ar 2 (nF b8) tv)))))) ?_
     obtain rfl := os h
     exact Qcz.mk
    refine rgs hc Kh0 [oN,oN,oc (.bool b6),oN,oN,o_,o_,o_,o_,o_,o_,o_,o_,o_,o_,oT] [(1,.sl (List.map K12 l1)),(2,I i2),(3,.ra 1 0),(7,.ra 2 0),(8,.rs 3),(9,I a2),(10,.ra 8 0),(89,.bool true)] (cq (Ked _ _ b7) K5i (ar 10 (neF (nT b8)) (ai (nT b8) tv))) ?_
    obtain rfl := os h
    exact Qcz.mk
   clear b5
   refine ic h (fun c3 h => ?_) fun c3 h => ?_
   ·refine rs0 hc 1 [(6,.bool false)] [] ?_
    refine rt ?_
    obtain rfl := os h
    exact re [true]
   refine sk ?_
   obtain ⟨_,c4,h⟩ := Qdd h
   refine rs hc none [oN,oN,oN,oN,oN,oN,some (.mk 9 false),some (.eqv (.mk 10 true) ⟨[(97,.rs 10)],[(10,some (.arr (List.map K14 (a1 ++ [(K03.mk b2.fType b2.fBudgets 0 [])])))),(3,none),(9,none)],[10]⟩),oN] [(1,.sl (List.map K12 l1)),(2,I i2),(3,.ra 1 0),(7,.ra 2 0),(8,.rs 10),(9,I a2),(10,.ra 8 0)] [(1,K2d s0),(2,K2h a0),(8,K2h b2),(10,.arr (List.map K14 (a1 ++ [(K03.mk b2.fType b2.fBudgets 0 [])])))] (ab (congrArg (fun z => (⟨[(97,.rs 10)],[(10,some (.arr z)),(3,none),(9,none)],[10]⟩ : Wr)) ((List.map_append).symm : (List.map K14 a1) ++ (List.map K14 [(K03.mk b2.fType b2.fBudgets 0 [])]) = List.map K14 (a1 ++ [(K03.mk b2.fType b2.fBudgets 0 [])]))) (Qdr (enc1 := K14) (enc2 := K14) (e1 := a1) (e2 := [(K03.mk b2.fType b2.fBudgets 0 [])]) (sz := 4) K1z K1z c4) tv) ?_
   obtain ⟨c5,c6,⟨c7,c8⟩,c9,h⟩ := bq2 h
   refine rss hc (rx [[0],[1],[0],[0,2],[0,2,3],[0,2,3,4],[0],[7],[8],[9],[9],[10],[12]]) [oN,oN,oN,oN,oN,some (.el (K2k c5)),oN,oc (.tup [sL c7,.bool c8]),oN,oN,oN,oN,oN] [(1,.sl (List.map K12 l1)),(2,I i2),(3,.ra 1 0),(7,.ra 2 0),(8,.rs 10),(9,I a2),(10,.ra 8 0),(11,sL c7),(12,.bool c8)] (ab (Qdi (enc := K14) c6) (Qdh c6 (K1x c5)).2 (cq (Kf1 _ _ c9) K5o tv)) ?_
   refine sN ?_
   obtain ⟨d0,d1,h⟩ := Qdd h
   refine Wp.into (x := .normal) (mkS [(1,.sl (List.map K12 l1)),(2,I i2),(3,.ra 1 0),(7,.ra 2 0),(8,.rs 10),(9,I a2),(120,.bool d0)] [(1,K2d s0),(2,K2h a0),(10,.arr (List.map K14 (a1 ++ [(K03.mk b2.fType b2.fBudgets 0 [])])))]) ?_ ?_
   ·replace h := d1
    rcases is h with ⟨d2,h⟩ | ⟨d2,h⟩
    ·obtain ⟨d3,d4,d5,d6,h⟩ := bq2 h
     refine rg hc Kh1 [oN,oN,oN,oN,oN,oN,oN,oN,some (.call (.osl (List.map K07 d3)) [] 11),oc (.bool d5),oN,oF] [(1,.sl (List.map K12 l1)),(2,I i2),(3,.ra 1 0),(7,.ra 2 0),(8,.rs 10),(9,I a2),(120,.bool (!d5))] [(1,K2d s0),(2,K2h a0),(10,.arr (List.map K14 (a1 ++ [(K03.mk b2.fType b2.fBudgets 0 [])])))] (ar 6 (nF d2) (cq (Kf4 _ _ d4) K5p (ad (nF d2) (Q71.args (A1 := [sL b2.fCtx,.sl (Q02 (List.map K07 d3))]) (A2 := [sL b2.fCtx,sL d3]) (by simp only [List.map_nil,K0b]) (Kfb _ _ d6)) K5q (Or.inr rfl : ([11] : List Nat) = [] ∨ noSh (.bool d5) = true) (ar 2 (nF d2) tv)))) ?_
     obtain rfl := os h
     exact Qcz.mk
    refine rg hc Kh1 [oN,oN,oN,o_,o_,o_,o_,o_,o_,o_,o_,oT] [(1,.sl (List.map K12 l1)),(2,I i2),(3,.ra 1 0),(7,.ra 2 0),(8,.rs 10),(9,I a2),(120,.bool true)] [(1,K2d s0),(2,K2h a0),(10,.arr (List.map K14 (a1 ++ [(K03.mk b2.fType b2.fBudgets 0 [])])))] (ar 8 (neF (nT d2)) (ai (nT d2) tv)) ?_
    obtain rfl := os h
    exact Qcz.mk
   clear d1
   refine ic h (fun d7 h => ?_) fun d7 h => ?_
   ·refine rs0 hc 1 [(6,.bool false)] [] ?_
    refine rt ?_
    obtain rfl := os h
    exact re [true]
   refine sk ?_
   refine K8c hc 3 [(1,.sl (List.map K12 l1)),(2,I i2),(3,.ra 1 0),(7,.ra 2 0),(8,.rs 10),(9,I (wr (a2 + 1)))] ?_
   refine Qcv ?_
   exact WpL.view (fun a w hv => SRx.renL [(3,10)] hv (by kernel_rfl) (by kernel_rfl) (by kernel_rfl)) (spec_StepHolds_l0_ih _ _ h c hc)
  refine cT (!a6) (nT a8) ?_
  refine rs0 hc 1 [(6,.bool false)] [] ?_
  refine rt ?_
  obtain rfl := os h
  exact re [true]
 refine xt 0 ?_
 refine Qcp ?_
 refine Qcw ?_
 obtain rfl := os h
 exact iv []
def Khd (p : K00 × (List K02) × Int) : Option (Bool) :=
 match p with
 | (s0,l1,i2) =>
  ((
  (Kaq (i2,0,(wr ((l1.length : Int) - 1)))) >>= fun a0 =>
  if a0 = true then
   (idx l1 i2) >>= fun a1 =>
   (Keb (s0,a1)) >>= fun a2 =>
   if a2 = true then
   (idx l1 i2) >>= fun a3 =>
   (idx l1 i2) >>= fun a4 =>
   some (((a3.fFrom.length : Int) != (a4.fTerm.fKids.length : Int)))
   else
   some (true)
  else
   some (true)
  ) : Option (Bool)) >>= fun a5 =>
  if a5 = true then
  some false
  else
  (idx l1 i2) >>= fun a6 =>
  (Kha (s0,l1,i2,a6,[],0)) >>= fun fl => match fl with
  | .inl a7 =>
   (Kgv (s0,a6.fCtx,a6.fTerm,a7)) >>= fun a8 =>
   ((
   if (a8.ffault == 0) = true then
   (Kei (a8.fty,a6.fType)) >>= fun a9 =>
   if a9 = true then
   (Kh6 (s0,a8.fneeds,a6.fBudgets)) >>= fun b1 =>
   some (b1)
   else
   some (false)
   else
   some (false)
   ) : Option (Bool)) >>= fun b2 =>
   some b2
  | .inr r =>
   some r
def Khe (p : K00 × (List K02) × Int) (r : Bool) : Prop :=
 match p with
 | (s0,l1,i2) => Q71 Tryz.prog 35 [K2e s0,.sl (List.map K12 l1),I i2] (.bool r) []
theorem Khf : ∀ p r,Khd p = some r → Khe p r := by
 rintro ⟨s0,l1,i2⟩ r h
 unfold Khd at h
 refine b0 Tryz.f35 B35 146 [(0,K2e s0),(1,.sl (List.map K12 l1)),(2,I i2)] fun c hc => ?_
 refine rs hc none [some (.new 1),oN] [(1,.sl (List.map K12 l1)),(2,I i2),(3,.ra 1 0)] [(1,K2d s0)] tv ?_
 refine sN ?_
 refine sN ?_
 obtain ⟨a0,a1,h⟩ := Qdd h
 refine Wp.into (x := .normal) (mkS [(1,.sl (List.map K12 l1)),(2,I i2),(3,.ra 1 0),(44,.bool a0)] [(1,K2d s0)]) ?_ ?_
 ·replace h := a1
  obtain ⟨a2,a3,h⟩ := Qdd h
  rcases is h with ⟨a4,h⟩ | ⟨a4,h⟩
  ·obtain ⟨a5,a6,a7,a8,h⟩ := bq2 h
   rcases is h with ⟨a9,h⟩ | ⟨a9,h⟩
   ·obtain ⟨b1,b2,b3,b4,h⟩ := bq2 h
    refine rgs hc Kh2 [oN,oN,some (.eqv (.no) ⟨[(16,I (l1.length : Int))],[],[]⟩),oN,oc (.bool a2),oN,oN,oN,oN,oN,some (.el (K2i a5)),oN,oc (.bool a7),oN,oF,oN,oN,oN,some (.el (K2i b1)),oN,oN,some (.eqv (.no) ⟨[(35,I (b1.fFrom.length : Int))],[],[]⟩),oN,oN,some (.el (K2i b3)),oN,oN,oN,some (.eqv (.no) ⟨[(42,I (b3.fTerm.fKids.length : Int))],[],[]⟩),oN,oF] [(1,.sl (List.map K12 l1)),(2,I i2),(3,.ra 1 0),(44,.bool ((b1.fFrom.length : Int) != (b3.fTerm.fKids.length : Int)))] (ai (Qdj (d := 16) K12 l1) (cq (Kas _ _ a3) K47 (ar 4 (nF a4) (ai (Qdh a6 (K1e a5)) (ar 2 (nF a4) (cq (Ked _ _ a8) K5i (ar 2 (nF a4) (ar 3 (nF a9) (ai (Qdh b2 (K1e b1)) (ar 3 (nF a9) (ai (Qdj (d := 35) I b1.fFrom) (ar 3 (nF a9) (ai (Qdh b4 (K1e b3)) (ar 4 (nF a9) (ai (Qdj (d := 42) K0s b3.fTerm.fKids) (ar 2 (nF a9) tv)))))))))))))))) ?_
    obtain rfl := os h
    exact Qcz.mk
   refine rgs hc Kh2 [oN,oN,some (.eqv (.no) ⟨[(16,I (l1.length : Int))],[],[]⟩),oN,oc (.bool a2),oN,oN,oN,oN,oN,some (.el (K2i a5)),oN,oc (.bool a7),oN,oF,oN,o_,o_,o_,o_,o_,o_,o_,o_,o_,o_,o_,o_,o_,o_,oT] [(1,.sl (List.map K12 l1)),(2,I i2),(3,.ra 1 0),(44,.bool true)] (ai (Qdj (d := 16) K12 l1) (cq (Kas _ _ a3) K47 (ar 4 (nF a4) (ai (Qdh a6 (K1e a5)) (ar 2 (nF a4) (cq (Ked _ _ a8) K5i (ar 2 (nF a4) (ar 14 (neF (nT a9)) (ai (nT a9) tv))))))))) ?_
   obtain rfl := os h
   exact Qcz.mk
  refine rgs hc Kh2 [oN,oN,some (.eqv (.no) ⟨[(16,I (l1.length : Int))],[],[]⟩),oN,oc (.bool a2),oN,oN,o_,o_,o_,o_,o_,o_,o_,oT,oN,o_,o_,o_,o_,o_,o_,o_,o_,o_,o_,o_,o_,o_,o_,oT] [(1,.sl (List.map K12 l1)),(2,I i2),(3,.ra 1 0),(44,.bool true)] (ai (Qdj (d := 16) K12 l1) (cq (Kas _ _ a3) K47 (ar 7 (neF (nT a4)) (ai (nT a4) (ar 14 nf (ai tt tv)))))) ?_
  obtain rfl := os h
  exact Qcz.mk
 clear a1
 refine ic h (fun b5 h => ?_) fun b5 h => ?_
 ·refine rs0 hc 1 [(6,.bool false)] [] ?_
  refine rt ?_
  obtain rfl := os h
  exact rq [true]
 refine sk ?_
 obtain ⟨b6,b7,h⟩ := Qdd h
 refine rs hc none [oN,oN,some (.el (K2i b6)),oN,some (.new 2),oN] [(1,.sl (List.map K12 l1)),(2,I i2),(3,.ra 1 0),(7,.ra 2 0)] [(1,K2d s0),(2,K2h b6)] (ai (Qdh b7 (K1e b6)) tv) ?_
 refine rs hc none [some (.mk 3 true),oN] [(1,.sl (List.map K12 l1)),(2,I i2),(3,.ra 1 0),(7,.ra 2 0),(8,.rs 3)] [(1,K2d s0),(2,K2h b6),(3,.arr (List.map K15 []))] tv ?_
 refine sN ?_
 refine K8d hc 1 [(1,.sl (List.map K12 l1)),(2,I i2),(3,.ra 1 0),(7,.ra 2 0),(8,.rs 3),(9,I 0)] ?_
 refine bk 0 ?_
 obtain ⟨fl,b8,h⟩ := Qdd h
 have hL := Khc _ _ b8 c hc
 refine lp ?_
 rcases fl with b9 | r
 ·refine WpL.into (e := (.exit 0)) (mkS [(3,.ra 1 0),(7,.ra 2 0),(8,.rs 3)] [(1,K2d s0),(2,K2h b6),(3,.arr (List.map K14 b9))]) hL ?_
  refine Qcr ?_
  refine sN ?_
  refine vz 3 (K20 b9) [(3,.ra 1 0),(7,.ra 2 0),(8,.sl (List.map K14 b9))] [(1,K2d s0),(2,K2h b6)] ?_
  obtain ⟨c0,c1,h⟩ := Qdd h
  refine rg hc none [oN,oN,oN,oN,oN,oN,oc (K2k c0),some (.new 12),oN] [(3,.ra 1 0),(7,.ra 2 0),(13,.ra 12 0)] [(1,K2d s0),(2,K2h b6),(12,K2j c0)] (cq (Kgx _ _ c1) K63 tv) ?_
  refine sN ?_
  obtain ⟨c2,c3,h⟩ := Qdd h
  refine Wp.into (x := .normal) (mkS [(6,.bool c2)] []) ?_ ?_
  ·replace h := c3
   rcases is h with ⟨c4,h⟩ | ⟨c4,h⟩
   ·obtain ⟨c5,c6,h⟩ := Qdd h
    rcases is h with ⟨c7,h⟩ | ⟨c7,h⟩
    ·obtain ⟨c8,c9,h⟩ := Qdd h
     refine rg hc none [oN,oN,oN,oN,oN,oN,oN,oN,oc (.bool c5),oT,oN,oN,oN,oN,oN,oN,oc (.bool c8),oT,oN] [(6,.bool c8)] [] (ar 5 c4 (cq (Kek _ _ c6) K5j (ai c4 (ar 6 c7 (cq (Kh8 _ _ c9) K64 (ai c7 tv)))))) ?_
     obtain rfl := os h
     exact Qcz.mk
    refine rg hc none [oN,oN,oN,oN,oN,oN,oN,oN,oc (.bool c5),oT,oN,o_,o_,o_,o_,o_,o_,oF,oN] [(6,.bool false)] [] (ar 5 c4 (cq (Kek _ _ c6) K5j (ai c4 (ar 6 (neT c7) (ai c7 tv))))) ?_
    obtain rfl := os h
    exact Qcz.mk
   refine rg hc none [oN,oN,oN,oN,o_,o_,o_,o_,o_,oF,oN,o_,o_,o_,o_,o_,o_,oF,oN] [(6,.bool false)] [] (ar 5 (neT c4) (ai c4 (ar 6 (neT (rfl : false = false)) (ai (rfl : false = false) tv)))) ?_
   obtain rfl := os h
   exact Qcz.mk
  clear c3
  refine rt ?_
  obtain rfl := os h
  exact rq [true]
 refine WpL.mono hL ?_
 rintro _ _ ⟨rfl,hfin⟩
 obtain rfl := os h
 exact ⟨.inl rfl,hfin⟩
def Khg (c : Ctx) (l1 : List K02) : (Unit) ⊕ (Int) → Exit → Q0a → Prop
 | .inl _ => Qcz c (.exit 0) (mkS [(1,.sl (List.map K12 l1))] [])
 | .inr r => Qd8 TIx Tryz.f8 [] (I r)
def Khh (p : K00 × (List K02) × Int) : Option ((Unit) ⊕ (Int)) :=
 match p with
 | (s0,l1,a0) =>
  if (decide (a0 < (l1.length : Int))) = true then
  (Khd (s0,l1,a0)) >>= fun a1 =>
  if a1 = true then
  Khh (s0,l1,(wr (a0 + 1)))
  else
  some (.inr a0)
  else
  some (.inl ())
 partial_fixpoint
def Khi (p : K00 × (List K02) × Int) (fl : (Unit) ⊕ (Int)) : Prop :=
 match p with
 | (s0,l1,a0) => ∀ c : Ctx,c.nt = 21 → WpL Tryz.prog c (cl (cl (cr (cl (cr B8))))) (Khg c l1 fl) (mkS [(1,.sl (List.map K12 l1)),(2,.ra 1 0),(5,I a0)] [(1,K2d s0)])
theorem Khj : ∀ p r,Khh p = some r → Khi p r := by
 refine Khh.partial_correctness Khi ?_
 rintro spec_CheckDerivation_l0_f spec_CheckDerivation_l0_ih ⟨s0,l1,a0⟩ r h
 intro c hc
 refine WpL.step ?_
 refine sN ?_
 refine rss hc none [oN,oN,some (.eqv (.no) ⟨[(8,I (l1.length : Int))],[],[]⟩),oN] [(1,.sl (List.map K12 l1)),(2,.ra 1 0),(5,I a0),(9,.bool (decide (a0 < (l1.length : Int))))] (ai (Qdj (d := 8) K12 l1) tv) ?_
 refine ic h (fun a1 h => ?_) fun a1 h => ?_
 ·refine sk ?_
  refine sN ?_
  refine bk 1 ?_
  obtain ⟨a2,a3,h⟩ := Qdd h
  refine rss hc none [oN,oN,oN,oc (.bool a2),oN] [(1,.sl (List.map K12 l1)),(2,.ra 1 0),(5,I a0),(16,.bool (!a2))] (cq (Khf _ _ a3) K65 tv) ?_
  rcases is h with ⟨a4,h⟩ | ⟨a4,h⟩
  ·refine cF (!a2) (nF a4) ?_
   refine sk ?_
   refine K8c hc 3 [(1,.sl (List.map K12 l1)),(2,.ra 1 0),(5,I (wr (a0 + 1)))] ?_
   refine Qcv ?_
   exact (spec_CheckDerivation_l0_ih _ _ h c hc)
  refine cT (!a2) (nT a4) ?_
  refine rs0 hc 2 [(4,I a0)] [] ?_
  refine rt ?_
  obtain rfl := os h
  exact re [true]
 refine xt 0 ?_
 refine Qcp ?_
 refine Qcw ?_
 obtain rfl := os h
 exact iv []
def Khk (p : K00 × (List K02)) : Option (Int) :=
 match p with
 | (s0,l1) =>
  (Khh (s0,l1,0)) >>= fun fl => match fl with
  | .inl () =>
   if ((l1.length : Int) == 0) = true then
   some 0
   else
   some (-1)
  | .inr r =>
   some r
def Khl (p : K00 × (List K02)) (r : Int) : Prop :=
 match p with
 | (s0,l1) => Q71 Tryz.prog 8 [K2e s0,.sl (List.map K12 l1)] (I r) []
theorem Khm : ∀ p r,Khk p = some r → Khl p r := by
 rintro ⟨s0,l1⟩ r h
 unfold Khk at h
 refine b0 Tryz.f8 B8 21 [(0,K2e s0),(1,.sl (List.map K12 l1))] fun c hc => ?_
 refine rs hc none [some (.new 1),oN] [(1,.sl (List.map K12 l1)),(2,.ra 1 0)] [(1,K2d s0)] tv ?_
 refine sN ?_
 refine K8d hc 1 [(1,.sl (List.map K12 l1)),(2,.ra 1 0),(5,I 0)] ?_
 refine bk 0 ?_
 obtain ⟨fl,a0,h⟩ := Qdd h
 have hL := Khj _ _ a0 c hc
 refine lp ?_
 rcases fl with ⟨⟩ | r
 ·refine WpL.into (e := (.exit 0)) (mkS [(1,.sl (List.map K12 l1))] []) hL ?_
  refine Qcr ?_
  refine sN ?_
  refine rs hc none [oN,some (.eqv (.no) ⟨[(19,I (l1.length : Int))],[],[]⟩),oN] [(20,.bool ((l1.length : Int) == 0))] [] (ai (Qdj (d := 19) K12 l1) tv) ?_
  refine ic h (fun a1 h => ?_) fun a1 h => ?_
  ·refine rs0 hc 1 [(4,I 0)] [] ?_
   refine rt ?_
   obtain rfl := os h
   exact rq [true]
  refine sk ?_
  refine rs0 hc 1 [(4,I (-1))] [] ?_
  refine rt ?_
  obtain rfl := os h
  exact rq [true]
 refine WpL.mono hL ?_
 rintro _ _ ⟨rfl,hfin⟩
 obtain rfl := os h
 exact ⟨.inl rfl,hfin⟩
def Khn (p : Int × Int × Int) : Option (Bool) :=
 match p with
 | (n0,low1,high2) =>
  ((
  if (decide (n0 ≥ low1)) = true then
  some ((decide (n0 ≤ high2)))
  else
  some (false)
  ) : Option (Bool)) >>= fun a0 =>
  some a0
def Kho (p : Int × Int × Int) (r : Bool) : Prop :=
 match p with
 | (n0,low1,high2) => Q71 Tryz.prog 65 [I n0,I low1,I high2] (.bool r) []
theorem Khp : ∀ p r,Khn p = some r → Kho p r := by
 rintro ⟨n0,low1,high2⟩ r h
 unfold Khn at h
 refine b0 Tryz.f65 B65 15 [(0,I n0),(1,I low1),(2,I high2)] fun c hc => ?_
 refine rs0 hc 1 [(0,I n0),(1,I low1),(2,I high2)] [] ?_
 refine sN ?_
 obtain ⟨a0,a1,h⟩ := Qdd h
 refine Wp.into (x := .normal) (mkS [(6,.bool a0)] []) ?_ ?_
 ·replace h := a1
  rcases is h with ⟨a2,h⟩ | ⟨a2,h⟩
  ·refine rg hc none [oN,oN,oN,oN,oN,oN,oN,oT,oN] [(6,.bool (decide (n0 ≤ high2)))] [] (ar 4 a2 tv) ?_
   obtain rfl := os h
   exact Qcz.mk
  refine rg hc none [oN,oN,oN,oN,o_,o_,o_,oF,oN] [(6,.bool false)] [] (ar 3 (neT a2) (ai a2 tv)) ?_
  obtain rfl := os h
  exact Qcz.mk
 clear a1
 refine rt ?_
 obtain rfl := os h
 exact rq [true]
def Khq (p : K00 × Int) : Option (Bool) :=
 match p with
 | (s0,g1) =>
  (Khn (g1,0,(wr (s0.fSize - 1)))) >>= fun a0 =>
  some a0
def Khr (p : K00 × Int) (r : Bool) : Prop :=
 match p with
 | (s0,g1) => Q71 Tryz.prog 66 [K2e s0,I g1] (.bool r) []
theorem Khs : ∀ p r,Khq p = some r → Khr p r := by
 rintro ⟨s0,g1⟩ r h
 unfold Khq at h
 refine b0 Tryz.f66 B66 10 [(0,K2e s0),(1,I g1)] fun c hc => ?_
 refine rs hc none [some (.new 1),oN] [(1,I g1),(2,.ra 1 0)] [(1,K2d s0)] tv ?_
 obtain ⟨a0,a1,h⟩ := Qdd h
 refine rs hc none [oN,oN,oN,oN,oc (.bool a0),oN] [(4,.bool a0)] [] (cq (Khp _ _ a1) K67 tv) ?_
 refine rt ?_
 obtain rfl := os h
 exact rq [true]
def Kht (p : K00 × Int × Int) : Option (Int) :=
 match p with
 | (s0,a1,b2) =>
  (idx s0.fPlus (wr ((wr (a1 * s0.fSize)) + b2))) >>= fun a0 =>
  some a0
def Khu (p : K00 × Int × Int) (r : Int) : Prop :=
 match p with
 | (s0,a1,b2) => Q71 Tryz.prog 67 [K2e s0,I a1,I b2] (I r) []
theorem Khv : ∀ p r,Kht p = some r → Khu p r := by
 rintro ⟨s0,a1,b2⟩ r h
 unfold Kht at h
 refine b0 Tryz.f67 B67 17 [(0,K2e s0),(1,I a1),(2,I b2)] fun c hc => ?_
 refine rs hc none [some (.new 1),oN] [(1,I a1),(2,I b2),(3,.ra 1 0)] [(1,K2d s0)] tv ?_
 obtain ⟨a0,a2,h⟩ := Qdd h
 refine rs hc none [oN,oN,oN,oN,oN,oN,oN,oN,some (.el (I a0)),oN,oN] [(6,I a0)] [] (ai (ix a2) tv) ?_
 refine rt ?_
 obtain rfl := os h
 exact rq [true]
def Khw (p : K00 × Int × Int) : Option (Int) :=
 match p with
 | (s0,a1,b2) =>
  (idx s0.fTimes (wr ((wr (a1 * s0.fSize)) + b2))) >>= fun a0 =>
  some a0
def Khx (p : K00 × Int × Int) (r : Int) : Prop :=
 match p with
 | (s0,a1,b2) => Q71 Tryz.prog 68 [K2e s0,I a1,I b2] (I r) []
theorem Khy : ∀ p r,Khw p = some r → Khx p r := by
 rintro ⟨s0,a1,b2⟩ r h
 unfold Khw at h
 refine b0 Tryz.f68 B68 17 [(0,K2e s0),(1,I a1),(2,I b2)] fun c hc => ?_
 refine rs hc none [some (.new 1),oN] [(1,I a1),(2,I b2),(3,.ra 1 0)] [(1,K2d s0)] tv ?_
 obtain ⟨a0,a2,h⟩ := Qdd h
 refine rs hc none [oN,oN,oN,oN,oN,oN,oN,oN,some (.el (I a0)),oN,oN] [(6,I a0)] [] (ai (ix a2) tv) ?_
 refine rt ?_
 obtain rfl := os h
 exact rq [true]
def Khz (p : K00 × Int × Int) : Option (Bool) :=
 match p with
 | (s0,a1,b2) =>
  (idx s0.fBelow (wr ((wr (a1 * s0.fSize)) + b2))) >>= fun a0 =>
  some a0
def Ki0 (p : K00 × Int × Int) (r : Bool) : Prop :=
 match p with
 | (s0,a1,b2) => Q71 Tryz.prog 69 [K2e s0,I a1,I b2] (.bool r) []
theorem Ki1 : ∀ p r,Khz p = some r → Ki0 p r := by
 rintro ⟨s0,a1,b2⟩ r h
 unfold Khz at h
 refine b0 Tryz.f69 B69 17 [(0,K2e s0),(1,I a1),(2,I b2)] fun c hc => ?_
 refine rs hc none [some (.new 1),oN] [(1,I a1),(2,I b2),(3,.ra 1 0)] [(1,K2d s0)] tv ?_
 obtain ⟨a0,a2,h⟩ := Qdd h
 refine rs hc none [oN,oN,oN,oN,oN,oN,oN,oN,some (.el (.bool a0)),oN,oN] [(6,.bool a0)] [] (ai (Qdh (enc := AV.bool) (x := .bool a0) a2 (Qdu a0)) tv) ?_
 refine rt ?_
 obtain rfl := os h
 exact rq [true]
def Ki2 (c : Ctx) (s0 : K00) (a1 : Int) (b2 : Int) (a0 : Int) : Bool → Exit → Q0a → Prop
 | a2 => Qcz c (.exit 2) (mkS [(1,I a1),(2,I b2),(3,.ra 1 0),(7,I a0),(8,.bool a2)] [(1,K2d s0)])
def Ki3 (p : K00 × Int × Int × Int × Bool × Int) : Option (Bool) :=
 match p with
 | (s0,a1,b2,a0,a2,a3) =>
  if (decide (a3 < s0.fSize)) = true then
  ((
  if a2 = true then
  (Khz (s0,a1,a3)) >>= fun a4 =>
  if a4 = true then
  (Khz (s0,b2,a3)) >>= fun a5 =>
  if a5 = true then
  (Khz (s0,a0,a3)) >>= fun a6 =>
  some (a6)
  else
  some (true)
  else
  some (true)
  else
  some (false)
  ) : Option (Bool)) >>= fun a7 =>
  Ki3 (s0,a1,b2,a0,a7,(wr (a3 + 1)))
  else
  some (a2)
 partial_fixpoint
def Ki4 (p : K00 × Int × Int × Int × Bool × Int) (fl : Bool) : Prop :=
 match p with
 | (s0,a1,b2,a0,a2,a3) => ∀ c : Ctx,c.nt = 57 → WpL Tryz.prog c (cl (cl (cr (cl (cr (cr (cl (cl (cr (cl (cl (cr (cl (cr B70)))))))))))))) (Ki2 c s0 a1 b2 a0 fl) (mkS [(1,I a1),(2,I b2),(3,.ra 1 0),(7,I a0),(8,.bool a2),(9,I a3)] [(1,K2d s0)])
theorem Ki5 : ∀ p r,Ki3 p = some r → Ki4 p r := by
 refine Ki3.partial_correctness Ki4 ?_
 rintro impl_Systemjoin_l0_f impl_Systemjoin_l0_ih ⟨s0,a1,b2,a0,a2,a3⟩ r h
 intro c hc
 refine WpL.step ?_
 refine sN ?_
 refine K8d hc 4 [(1,I a1),(2,I b2),(3,.ra 1 0),(7,I a0),(8,.bool a2),(9,I a3),(31,.bool (decide (a3 < s0.fSize)))] ?_
 refine ic h (fun a4 h => ?_) fun a4 h => ?_
 ·refine sk ?_
  refine sN ?_
  refine bk 3 ?_
  obtain ⟨a5,a6,h⟩ := Qdd h
  refine Wp.into (x := .normal) (mkS [(1,I a1),(2,I b2),(3,.ra 1 0),(7,I a0),(8,.bool a5),(9,I a3)] [(1,K2d s0)]) ?_ ?_
  ·replace h := a6
   rcases is h with ⟨a7,h⟩ | ⟨a7,h⟩
   ·obtain ⟨a8,a9,h⟩ := Qdd h
    rcases is h with ⟨b1,h⟩ | ⟨b1,h⟩
    ·obtain ⟨b3,b4,h⟩ := Qdd h
     rcases is h with ⟨b5,h⟩ | ⟨b5,h⟩
     ·obtain ⟨b6,b7,h⟩ := Qdd h
      refine rgs hc none [oN,oN,oN,oN,oN,oc (.bool a8),oN,oN,oN,oN,oN,oc (.bool b3),oN,oF,oN,oN,oN,oN,oc (.bool b6),oF,oT,oN] [(1,I a1),(2,I b2),(3,.ra 1 0),(7,I a0),(8,.bool b6),(9,I a3)] (ar 4 a7 (cq (Ki1 _ _ a9) K6b (ar 2 a7 (ar 4 (nF b1) (cq (Ki1 _ _ b4) K6b (ad (nF b1) a7 (nF b1) a7 (ar 4 (nF b5) (cq (Ki1 _ _ b7) K6b (ac a7 (nF b5) a7 tv))))))))) ?_
      obtain rfl := os h
      exact Qcz.mk
     refine rgs hc none [oN,oN,oN,oN,oN,oc (.bool a8),oN,oN,oN,oN,oN,oc (.bool b3),oN,oF,oN,o_,o_,o_,o_,oT,oT,oN] [(1,I a1),(2,I b2),(3,.ra 1 0),(7,I a0),(8,.bool true),(9,I a3)] (ar 4 a7 (cq (Ki1 _ _ a9) K6b (ar 2 a7 (ar 4 (nF b1) (cq (Ki1 _ _ b4) K6b (ad (nF b1) a7 (nF b1) a7 (ar 4 (neF (nT b5)) (ac a7 (nT b5) a7 tv)))))))) ?_
     obtain rfl := os h
     exact Qcz.mk
    refine rgs hc none [oN,oN,oN,oN,oN,oc (.bool a8),oN,oN,o_,o_,o_,o_,o_,oT,oN,o_,o_,o_,o_,oT,oT,oN] [(1,I a1),(2,I b2),(3,.ra 1 0),(7,I a0),(8,.bool true),(9,I a3)] (ar 4 a7 (cq (Ki1 _ _ a9) K6b (ar 2 a7 (ar 5 (neF (nT b1)) (ac a7 (nT b1) a7 (ar 4 nf (ac a7 tt a7 tv))))))) ?_
    obtain rfl := os h
    exact Qcz.mk
   refine rgs hc none [oN,oN,o_,o_,o_,o_,o_,o_,o_,o_,o_,o_,o_,o_,o_,o_,o_,o_,o_,o_,oF,oN] [(1,I a1),(2,I b2),(3,.ra 1 0),(7,I a0),(8,.bool false),(9,I a3)] (ar 9 (neT a7) (ai a7 tv)) ?_
   obtain rfl := os h
   exact Qcz.mk
  clear a6
  refine K8c hc 3 [(1,I a1),(2,I b2),(3,.ra 1 0),(7,I a0),(8,.bool a5),(9,I (wr (a3 + 1)))] ?_
  refine Qcv ?_
  exact (impl_Systemjoin_l0_ih _ _ h c hc)
 refine xt 2 ?_
 refine Qcp ?_
 refine Qcw ?_
 obtain rfl := os h
 exact iv []
def Ki6 (c : Ctx) (s0 : K00) (a1 : Int) (b2 : Int) (a0 : Int) : (Unit) ⊕ (Int) → Exit → Q0a → Prop
 | .inl _ => Qcz c .normal (mkS [(1,I a1),(2,I b2),(3,.ra 1 0),(7,I a0)] [(1,K2d s0)])
 | .inr r => Qd8 TIx Tryz.f70 [] (I r)
def Ki7 (c : Ctx) : (Unit) ⊕ (Int) → Exit → Q0a → Prop
 | .inl _ => Qcz c (.exit 0) (mkS [] [])
 | .inr r => Qd8 TIx Tryz.f70 [] (I r)
def Ki8 (p : K00 × Int × Int × Int) : Option ((Unit) ⊕ (Int)) :=
 match p with
 | (s0,a1,b2,a0) =>
  if (decide (a0 < s0.fSize)) = true then
  ((
   ((
   (Khz (s0,a1,a0)) >>= fun a2 =>
   if a2 = true then
   (Khz (s0,b2,a0)) >>= fun a3 =>
   some ((!a3))
   else
   some (true)
   ) : Option (Bool)) >>= fun a4 =>
   if a4 = true then
   some (.inl ())
   else
   (Ki3 (s0,a1,b2,a0,true,0)) >>= fun a5 =>
   if a5 = true then
   some (.inr a0)
   else
   some (.inl ())) : Option ((Unit) ⊕ (Int))) >>= fun fl => match fl with
  | .inl () =>
   Ki8 (s0,a1,b2,(wr (a0 + 1)))
  | .inr r =>
   some (.inr r)
  else
  some (.inl ())
 partial_fixpoint
def Ki9 (p : K00 × Int × Int × Int) (fl : (Unit) ⊕ (Int)) : Prop :=
 match p with
 | (s0,a1,b2,a0) => ∀ c : Ctx,c.nt = 57 → WpL Tryz.prog c (cl (cl (cr (cl (cr B70))))) (Ki7 c fl) (mkS [(1,I a1),(2,I b2),(3,.ra 1 0),(7,I a0)] [(1,K2d s0)])
theorem Kia : ∀ p r,Ki8 p = some r → Ki9 p r := by
 refine Ki8.partial_correctness Ki9 ?_
 rintro impl_Systemjoin_l1_f impl_Systemjoin_l1_ih ⟨s0,a1,b2,a0⟩ r h
 intro c hc
 refine WpL.step ?_
 refine sN ?_
 refine K8d hc 4 [(1,I a1),(2,I b2),(3,.ra 1 0),(7,I a0),(13,.bool (decide (a0 < s0.fSize)))] ?_
 refine ic h (fun a2 h => ?_) fun a2 h => ?_
 ·refine sk ?_
  refine sN ?_
  obtain ⟨fl,a3,h⟩ := Qdd h
  refine flw (Ki6 c s0 a1 b2 a0 fl) ?_ (fun hF => ?_)
  ·replace h := a3
   refine bk 1 ?_
   refine sN ?_
   refine sN ?_
   obtain ⟨a4,a5,h⟩ := Qdd h
   refine Wp.into (x := .normal) (mkS [(1,I a1),(2,I b2),(3,.ra 1 0),(7,I a0),(27,.bool a4)] [(1,K2d s0)]) ?_ ?_
   ·replace h := a5
    obtain ⟨a6,a7,h⟩ := Qdd h
    rcases is h with ⟨a8,h⟩ | ⟨a8,h⟩
    ·obtain ⟨a9,b1,h⟩ := Qdd h
     refine rgs hc none [oN,oN,oN,oc (.bool a6),oN,oN,oN,oN,oN,oc (.bool a9),oN,oF] [(1,I a1),(2,I b2),(3,.ra 1 0),(7,I a0),(27,.bool (!a9))] (cq (Ki1 _ _ a7) K6b (ar 4 (nF a8) (cq (Ki1 _ _ b1) K6b (ar 2 (nF a8) tv)))) ?_
     obtain rfl := os h
     exact Qcz.mk
    refine rgs hc none [oN,oN,oN,oc (.bool a6),oN,oN,o_,o_,o_,o_,o_,oT] [(1,I a1),(2,I b2),(3,.ra 1 0),(7,I a0),(27,.bool true)] (cq (Ki1 _ _ a7) K6b (ar 5 (neF (nT a8)) (ai (nT a8) tv))) ?_
    obtain rfl := os h
    exact Qcz.mk
   clear a5
   refine ic h (fun b3 h => ?_) fun b3 h => ?_
   ·refine xt 1 ?_
    refine Qcp ?_
    refine Qcr ?_
    obtain rfl := os h
    exact iv []
   refine sk ?_
   refine K8d hc 1 [(1,I a1),(2,I b2),(3,.ra 1 0),(7,I a0),(8,.bool true)] ?_
   refine sN ?_
   refine K8d hc 1 [(1,I a1),(2,I b2),(3,.ra 1 0),(7,I a0),(8,.bool true),(9,I 0)] ?_
   refine bk 2 ?_
   obtain ⟨b4,b5,h⟩ := Qdd h
   have hL := Ki5 _ _ b5 c hc
   refine lp ?_
   refine WpL.into (e := (.exit 2)) (mkS [(1,I a1),(2,I b2),(3,.ra 1 0),(7,I a0),(8,.bool b4)] [(1,K2d s0)]) hL ?_
   refine Qcr ?_
   refine K8d hc 1 [(1,I a1),(2,I b2),(3,.ra 1 0),(7,I a0),(55,.bool b4)] ?_
   refine ic h (fun b6 h => ?_) fun b6 h => ?_
   ·refine rs0 hc 2 [(6,I a0)] [] ?_
    refine rt ?_
    obtain rfl := os h
    exact re [true]
   refine sk ?_
   obtain rfl := os h
   exact iv []
  rcases fl with ⟨⟩ | r
  ·refine Wp.into (x := .normal) (mkS [(1,I a1),(2,I b2),(3,.ra 1 0),(7,I a0)] [(1,K2d s0)]) hF ?_
   refine K8c hc 3 [(1,I a1),(2,I b2),(3,.ra 1 0),(7,I (wr (a0 + 1)))] ?_
   refine Qcv ?_
   exact (impl_Systemjoin_l1_ih _ _ h c hc)
  refine Wp.mono hF ?_
  rintro _ _ ⟨rfl,hfin⟩
  obtain rfl := os h
  exact ⟨rfl,hfin⟩
 refine xt 0 ?_
 refine Qcp ?_
 refine Qcw ?_
 obtain rfl := os h
 exact iv []
def Kib (p : K00 × Int × Int) : Option (Int) :=
 match p with
 | (s0,a1,b2) =>
  (Ki8 (s0,a1,b2,0)) >>= fun fl => match fl with
  | .inl () =>
   some (-1)
  | .inr r =>
   some r
def Kic (p : K00 × Int × Int) (r : Int) : Prop :=
 match p with
 | (s0,a1,b2) => Q71 Tryz.prog 70 [K2e s0,I a1,I b2] (I r) []
theorem Kid : ∀ p r,Kib p = some r → Kic p r := by
 rintro ⟨s0,a1,b2⟩ r h
 unfold Kib at h
 refine b0 Tryz.f70 B70 57 [(0,K2e s0),(1,I a1),(2,I b2)] fun c hc => ?_
 refine rs hc none [some (.new 1),oN] [(1,I a1),(2,I b2),(3,.ra 1 0)] [(1,K2d s0)] tv ?_
 refine sN ?_
 refine K8d hc 1 [(1,I a1),(2,I b2),(3,.ra 1 0),(7,I 0)] ?_
 refine bk 0 ?_
 obtain ⟨fl,a0,h⟩ := Qdd h
 have hL := Kia _ _ a0 c hc
 refine lp ?_
 rcases fl with ⟨⟩ | r
 ·refine WpL.into (e := (.exit 0)) (mkS [] []) hL ?_
  refine Qcr ?_
  refine rs0 hc 1 [(6,I (-1))] [] ?_
  refine rt ?_
  obtain rfl := os h
  exact rq [true]
 refine WpL.mono hL ?_
 rintro _ _ ⟨rfl,hfin⟩
 obtain rfl := os h
 exact ⟨.inl rfl,hfin⟩
def Kie : Option (List (List Nat)) := rx [[0],[0],[0],[0],[0,1,2,3],[0],[6],[0],[0],[0],[0],[0],[7,9,10,11],[13],[14],[15],[16],[16],[16],[16],[16,17,18,19],[16],[22],[16],[16],[16],[16],[16],[23,25,26,27],[29],[30],[31]]
def Kif : Option (List (List Nat)) := rx [[0],[0],[0],[0],[0],[0,2,3,4],[6],[0],[0],[0],[0],[7,8,9,10],[0],[0],[0],[7,8,9,10,11,12,13,14],[16],[17],[18],[19],[19],[19],[19],[19,20,21,22],[19],[25],[19],[19],[19],[19],[26,27,28,29],[19],[19],[19],[26,27,28,29,30,31,32,33],[35],[36],[37]]
def Kig : Option (List (List Nat)) := rx [[0],[0],[0],[3],[4],[5],[6],[6],[6],[6],[6,7,8,9],[6],[6],[6],[6,7,8,9,10,11,12,13],[15],[16],[17],[17],[17],[17],[17,18,19,20],[17],[17],[17],[17,18,19,20,21,22,23,24],[26],[27],[28],[29],[29],[29],[29],[29,30,31,32],[29],[29],[29],[29,30,31,32,33,34,35,36],[38],[39],[40],[41]]
def Kih : Option (List (List Nat)) := rx [[0],[0],[0,1],[0],[0,1,2,3],[0,1,2,3,4],[6],[7],[8],[9],[9],[9,10],[9],[9,10,11,12],[9,10,11,12,13],[15],[16],[17]]
def Kii : Option (List (List Nat)) := rh [0,0,0,3,0,0,0,7,8,9,10,10,12,13,14,14,14,17,18,19,20,20,20,23,24,25,26,27,27,27,30,31,32]
def Kij (p : K00 × Int × Int × Int) : Option (Bool) :=
 match p with
 | (s0,a1,b2,c3) =>
  ((
  (Kht (s0,a1,b2)) >>= fun a0 =>
  (Kht (s0,a0,c3)) >>= fun a2 =>
  (Kht (s0,b2,c3)) >>= fun a3 =>
  (Kht (s0,a1,a3)) >>= fun a4 =>
  if (a2 != a4) = true then
  some (true)
  else
  (Khw (s0,a1,b2)) >>= fun a5 =>
  (Khw (s0,a5,c3)) >>= fun a6 =>
  (Khw (s0,b2,c3)) >>= fun a7 =>
  (Khw (s0,a1,a7)) >>= fun a8 =>
  some ((a6 != a8))
  ) : Option (Bool)) >>= fun a9 =>
  if a9 = true then
  some false
  else
  ((
  (Kht (s0,b2,c3)) >>= fun b1 =>
  (Khw (s0,a1,b1)) >>= fun b3 =>
  (Khw (s0,a1,b2)) >>= fun b4 =>
  (Khw (s0,a1,c3)) >>= fun b5 =>
  (Kht (s0,b4,b5)) >>= fun b6 =>
  if (b3 != b6) = true then
  some (true)
  else
  (Kht (s0,a1,b2)) >>= fun b7 =>
  (Khw (s0,b7,c3)) >>= fun b8 =>
  (Khw (s0,a1,c3)) >>= fun b9 =>
  (Khw (s0,b2,c3)) >>= fun c0 =>
  (Kht (s0,b9,c0)) >>= fun c1 =>
  some ((b8 != c1))
  ) : Option (Bool)) >>= fun c2 =>
  if c2 = true then
  some false
  else
  ((
  (Khz (s0,a1,b2)) >>= fun c4 =>
  if c4 = true then
  (Khz (s0,b2,c3)) >>= fun c5 =>
  if c5 = true then
  (Khz (s0,a1,c3)) >>= fun c6 =>
  some ((!c6))
  else
  some (false)
  else
  some (false)
  ) : Option (Bool)) >>= fun c7 =>
  if c7 = true then
  some false
  else
  ((
  (Khz (s0,a1,b2)) >>= fun c8 =>
  if c8 = true then
  (Kht (s0,a1,c3)) >>= fun c9 =>
  (Kht (s0,b2,c3)) >>= fun d0 =>
  (Khz (s0,c9,d0)) >>= fun d1 =>
  if d1 = true then
  (Khw (s0,a1,c3)) >>= fun d2 =>
  (Khw (s0,b2,c3)) >>= fun d3 =>
  (Khz (s0,d2,d3)) >>= fun d4 =>
  if d4 = true then
  (Khw (s0,c3,a1)) >>= fun d5 =>
  (Khw (s0,c3,b2)) >>= fun d6 =>
  (Khz (s0,d5,d6)) >>= fun d7 =>
  some (d7)
  else
  some (false)
  else
  some (false)
  else
  some (true)
  ) : Option (Bool)) >>= fun d8 =>
  some d8
def Kik (p : K00 × Int × Int × Int) (r : Bool) : Prop :=
 match p with
 | (s0,a1,b2,c3) => Q71 Tryz.prog 71 [K2e s0,I a1,I b2,I c3] (.bool r) []
theorem Kil : ∀ p r,Kij p = some r → Kik p r := by
 rintro ⟨s0,a1,b2,c3⟩ r h
 unfold Kij at h
 refine b0 Tryz.f71 B71 137 [(0,K2e s0),(1,I a1),(2,I b2),(3,I c3)] fun c hc => ?_
 refine rs hc none [some (.new 1),oN] [(1,I a1),(2,I b2),(3,I c3),(4,.ra 1 0)] [(1,K2d s0)] tv ?_
 refine sN ?_
 refine sN ?_
 obtain ⟨a0,a2,h⟩ := Qdd h
 refine Wp.into (x := .normal) (mkS [(1,I a1),(2,I b2),(3,I c3),(4,.ra 1 0),(40,.bool a0)] [(1,K2d s0)]) ?_ ?_
 ·replace h := a2
  obtain ⟨a3,a4,a5,a6,a7,a8,a9,b1,h⟩ := bq4 h
  rcases is h with ⟨b3,h⟩ | ⟨b3,h⟩
  ·refine rgs hc Kie [oN,oN,oN,oN,oc (I a3),oN,oc (I a5),oN,oN,oN,oN,oN,oc (I a7),oc (I a9),oN,oN,o_,o_,o_,o_,o_,o_,o_,o_,o_,o_,o_,o_,o_,o_,o_,oT] [(1,I a1),(2,I b2),(3,I c3),(4,.ra 1 0),(40,.bool true)] (cq (Khv _ _ a4) K69 (cq (Khv _ _ a6) K69 (cq (Khv _ _ a8) K69 (cq (Khv _ _ b1) K69 (ar 15 (neF b3) (ai b3 tv)))))) ?_
   obtain rfl := os h
   exact Qcz.mk
  obtain ⟨b4,b5,b6,b7,b8,b9,c0,c1,h⟩ := bq4 h
  refine rgs hc Kie [oN,oN,oN,oN,oc (I a3),oN,oc (I a5),oN,oN,oN,oN,oN,oc (I a7),oc (I a9),oN,oN,oN,oN,oN,oN,oc (I b4),oN,oc (I b6),oN,oN,oN,oN,oN,oc (I b8),oc (I c0),oN,oF] [(1,I a1),(2,I b2),(3,I c3),(4,.ra 1 0),(40,.bool (b6 != c0))] (cq (Khv _ _ a4) K69 (cq (Khv _ _ a6) K69 (cq (Khv _ _ a8) K69 (cq (Khv _ _ b1) K69 (ar 5 b3 (cq (Khy _ _ b5) K6a (ar 2 b3 (cq (Khy _ _ b7) K6a (ar 6 b3 (cq (Khy _ _ b9) K6a (ai b3 (cq (Khy _ _ c1) K6a (ar 2 b3 tv))))))))))))) ?_
  obtain rfl := os h
  exact Qcz.mk
 clear a2
 refine ic h (fun c2 h => ?_) fun c2 h => ?_
 ·refine rs0 hc 1 [(8,.bool false)] [] ?_
  refine rt ?_
  obtain rfl := os h
  exact rq [true]
 refine sk ?_
 refine sN ?_
 refine sN ?_
 obtain ⟨c4,c5,h⟩ := Qdd h
 refine Wp.into (x := .normal) (mkS [(1,I a1),(2,I b2),(3,I c3),(4,.ra 1 0),(78,.bool c4)] [(1,K2d s0)]) ?_ ?_
 ·replace h := c5
  obtain ⟨c6,c7,c8,c9,d0,d1,d2,d3,h⟩ := bq4 h
  obtain ⟨d4,d5,h⟩ := Qdd h
  rcases is h with ⟨d6,h⟩ | ⟨d6,h⟩
  ·refine rgs hc Kif [oN,oN,oN,oN,oN,oc (I c6),oc (I c8),oN,oN,oN,oN,oc (I d0),oN,oN,oN,oc (I d2),oc (I d4),oN,oN,o_,o_,o_,o_,o_,o_,o_,o_,o_,o_,o_,o_,o_,o_,o_,o_,o_,o_,oT] [(1,I a1),(2,I b2),(3,I c3),(4,.ra 1 0),(78,.bool true)] (cq (Khv _ _ c7) K69 (cq (Khy _ _ c9) K6a (cq (Khy _ _ d1) K6a (cq (Khy _ _ d3) K6a (cq (Khv _ _ d5) K69 (ar 18 (neF d6) (ai d6 tv))))))) ?_
   obtain rfl := os h
   exact Qcz.mk
  obtain ⟨d7,d8,d9,e0,e1,e2,e3,e4,h⟩ := bq4 h
  obtain ⟨e5,e6,h⟩ := Qdd h
  refine rgs hc Kif [oN,oN,oN,oN,oN,oc (I c6),oc (I c8),oN,oN,oN,oN,oc (I d0),oN,oN,oN,oc (I d2),oc (I d4),oN,oN,oN,oN,oN,oN,oc (I d7),oN,oc (I d9),oN,oN,oN,oN,oc (I e1),oN,oN,oN,oc (I e3),oc (I e5),oN,oF] [(1,I a1),(2,I b2),(3,I c3),(4,.ra 1 0),(78,.bool (d9 != e5))] (cq (Khv _ _ c7) K69 (cq (Khy _ _ c9) K6a (cq (Khy _ _ d1) K6a (cq (Khy _ _ d3) K6a (cq (Khv _ _ d5) K69 (ar 5 d6 (cq (Khv _ _ d8) K69 (ar 2 d6 (cq (Khy _ _ e0) K6a (ar 5 d6 (cq (Khy _ _ e2) K6a (ar 4 d6 (cq (Khy _ _ e4) K6a (ai d6 (cq (Khv _ _ e6) K69 (ar 2 d6 tv)))))))))))))))) ?_
  obtain rfl := os h
  exact Qcz.mk
 clear c5
 refine ic h (fun e7 h => ?_) fun e7 h => ?_
 ·refine rs0 hc 1 [(8,.bool false)] [] ?_
  refine rt ?_
  obtain rfl := os h
  exact rq [true]
 refine sk ?_
 refine sN ?_
 refine sN ?_
 obtain ⟨e8,e9,h⟩ := Qdd h
 refine Wp.into (x := .normal) (mkS [(1,I a1),(2,I b2),(3,I c3),(4,.ra 1 0),(95,.bool e8)] [(1,K2d s0)]) ?_ ?_
 ·replace h := e9
  obtain ⟨f0,f1,h⟩ := Qdd h
  rcases is h with ⟨f2,h⟩ | ⟨f2,h⟩
  ·obtain ⟨f3,f4,h⟩ := Qdd h
   rcases is h with ⟨f5,h⟩ | ⟨f5,h⟩
   ·obtain ⟨f6,f7,h⟩ := Qdd h
    refine rgs hc none [oN,oN,oN,oc (.bool f0),oN,oN,oN,oN,oc (.bool f3),oT,oN,oN,oN,oN,oc (.bool f6),oN,oT] [(1,I a1),(2,I b2),(3,I c3),(4,.ra 1 0),(95,.bool (!f6))] (cq (Ki1 _ _ f1) K6b (ar 4 f2 (cq (Ki1 _ _ f4) K6b (ai f2 (ar 4 f5 (cq (Ki1 _ _ f7) K6b (ar 2 f5 tv))))))) ?_
    obtain rfl := os h
    exact Qcz.mk
   refine rgs hc none [oN,oN,oN,oc (.bool f0),oN,oN,oN,oN,oc (.bool f3),oT,oN,o_,o_,o_,o_,o_,oF] [(1,I a1),(2,I b2),(3,I c3),(4,.ra 1 0),(95,.bool false)] (cq (Ki1 _ _ f1) K6b (ar 4 f2 (cq (Ki1 _ _ f4) K6b (ai f2 (ar 5 (neT f5) (ai f5 tv)))))) ?_
   obtain rfl := os h
   exact Qcz.mk
  refine rgs hc none [oN,oN,oN,oc (.bool f0),oN,o_,o_,o_,o_,oF,oN,o_,o_,o_,o_,o_,oF] [(1,I a1),(2,I b2),(3,I c3),(4,.ra 1 0),(95,.bool false)] (cq (Ki1 _ _ f1) K6b (ar 4 (neT f2) (ai f2 (ar 5 (neT (rfl : false = false)) (ai (rfl : false = false) tv))))) ?_
  obtain rfl := os h
  exact Qcz.mk
 clear e9
 refine ic h (fun f8 h => ?_) fun f8 h => ?_
 ·refine rs0 hc 1 [(8,.bool false)] [] ?_
  refine rt ?_
  obtain rfl := os h
  exact rq [true]
 refine sk ?_
 refine sN ?_
 obtain ⟨f9,g0,h⟩ := Qdd h
 refine Wp.into (x := .normal) (mkS [(8,.bool f9)] []) ?_ ?_
 ·replace h := g0
  obtain ⟨g1,g2,h⟩ := Qdd h
  rcases is h with ⟨g3,h⟩ | ⟨g3,h⟩
  ·obtain ⟨g4,g5,g6,g7,g8,g9,h⟩ := bq3 h
   rcases is h with ⟨i0,h⟩ | ⟨i0,h⟩
   ·obtain ⟨i1,i2,i3,i4,i5,i6,h⟩ := bq3 h
    rcases is h with ⟨i7,h⟩ | ⟨i7,h⟩
    ·obtain ⟨i8,i9,j0,j8,j9,k0,h⟩ := bq3 h
     refine rg hc Kig [oN,oN,oN,oc (.bool g1),oN,oN,oN,oN,oN,oN,oc (I g4),oN,oN,oN,oc (I g6),oc (.bool g8),oN,oN,oN,oN,oN,oc (I i1),oN,oN,oN,oc (I i3),oc (.bool i5),oT,oN,oN,oN,oN,oN,oc (I i8),oN,oN,oN,oc (I j0),oc (.bool j9),oT,oF,oN] [(8,.bool j9)] [] (cq (Ki1 _ _ g2) K6b (ar 5 (nF g3) (cq (Khv _ _ g5) K69 (ar 4 (nF g3) (cq (Khv _ _ g7) K69 (ai (nF g3) (cq (Ki1 _ _ g9) K6b (ai (nF g3) (ar 5 i0 (cq (Khy _ _ i2) K6a (ar 4 i0 (cq (Khy _ _ i4) K6a (ai i0 (cq (Ki1 _ _ i6) K6b (ac (nF g3) i0 (nF g3) (ar 5 i7 (cq (Khy _ _ i9) K6a (ar 4 i7 (cq (Khy _ _ j8) K6a (ai i7 (cq (Ki1 _ _ k0) K6b (ac (nF g3) i7 (nF g3) tv)))))))))))))))))))))) ?_
     obtain rfl := os h
     exact Qcz.mk
    refine rg hc Kig [oN,oN,oN,oc (.bool g1),oN,oN,oN,oN,oN,oN,oc (I g4),oN,oN,oN,oc (I g6),oc (.bool g8),oN,oN,oN,oN,oN,oc (I i1),oN,oN,oN,oc (I i3),oc (.bool i5),oT,oN,o_,o_,o_,o_,o_,o_,o_,o_,o_,o_,oF,oF,oN] [(8,.bool false)] [] (cq (Ki1 _ _ g2) K6b (ar 5 (nF g3) (cq (Khv _ _ g5) K69 (ar 4 (nF g3) (cq (Khv _ _ g7) K69 (ai (nF g3) (cq (Ki1 _ _ g9) K6b (ai (nF g3) (ar 5 i0 (cq (Khy _ _ i2) K6a (ar 4 i0 (cq (Khy _ _ i4) K6a (ai i0 (cq (Ki1 _ _ i6) K6b (ac (nF g3) i0 (nF g3) (ar 10 (neT i7) (ac (nF g3) i7 (nF g3) tv))))))))))))))))) ?_
    obtain rfl := os h
    exact Qcz.mk
   refine rg hc Kig [oN,oN,oN,oc (.bool g1),oN,oN,oN,oN,oN,oN,oc (I g4),oN,oN,oN,oc (I g6),oc (.bool g8),oN,o_,o_,o_,o_,o_,o_,o_,o_,o_,o_,oF,oN,o_,o_,o_,o_,o_,o_,o_,o_,o_,o_,oF,oF,oN] [(8,.bool false)] [] (cq (Ki1 _ _ g2) K6b (ar 5 (nF g3) (cq (Khv _ _ g5) K69 (ar 4 (nF g3) (cq (Khv _ _ g7) K69 (ai (nF g3) (cq (Ki1 _ _ g9) K6b (ai (nF g3) (ar 10 (neT i0) (ac (nF g3) i0 (nF g3) (ar 10 (neT (rfl : false = false)) (ac (nF g3) (rfl : false = false) (nF g3) tv)))))))))))) ?_
   obtain rfl := os h
   exact Qcz.mk
  refine rg hc Kig [oN,oN,oN,oc (.bool g1),oN,oN,o_,o_,o_,o_,o_,o_,o_,o_,o_,o_,o_,o_,o_,o_,o_,o_,o_,o_,o_,o_,o_,o_,o_,o_,o_,o_,o_,o_,o_,o_,o_,o_,o_,o_,oT,oN] [(8,.bool true)] [] (cq (Ki1 _ _ g2) K6b (ar 14 (neF (nT g3)) (ai (nT g3) tv))) ?_
  obtain rfl := os h
  exact Qcz.mk
 clear g0
 refine rt ?_
 obtain rfl := os h
 exact rq [true]
def Kim (c : Ctx) (s0 : K00) : (Unit) ⊕ (Bool) → Exit → Q0a → Prop
 | .inl _ => Qcz c (.exit 0) (mkS [(1,.ra 1 0),(3,I s0.fSize)] [(1,K2d s0)])
 | .inr r => Qd8 TIx Tryz.f39 [] (.bool r)
def Kin (p : K00 × Int) : Option ((Unit) ⊕ (Bool)) :=
 match p with
 | (s0,a0) =>
  if (decide (a0 < (s0.fPlus.length : Int))) = true then
  ((
  (idx s0.fPlus a0) >>= fun a1 =>
  (Khq (s0,a1)) >>= fun a2 =>
  if a2 = true then
  (idx s0.fTimes a0) >>= fun a3 =>
  (Khq (s0,a3)) >>= fun a4 =>
  some ((!a4))
  else
  some (true)
  ) : Option (Bool)) >>= fun a5 =>
  if a5 = true then
  some (.inr false)
  else
  Kin (s0,(wr (a0 + 1)))
  else
  some (.inl ())
 partial_fixpoint
def Kio (p : K00 × Int) (fl : (Unit) ⊕ (Bool)) : Prop :=
 match p with
 | (s0,a0) => ∀ c : Ctx,c.nt = 157 → WpL Tryz.prog c (cl (cl (cr (cl (cr (cr (cr B39))))))) (Kim c s0 fl) (mkS [(1,.ra 1 0),(3,I s0.fSize),(42,I (s0.fPlus.length : Int)),(43,I a0)] [(1,K2d s0)])
theorem Kip : ∀ p r,Kin p = some r → Kio p r := by
 refine Kin.partial_correctness Kio ?_
 rintro impl_IsSystem_l0_f impl_IsSystem_l0_ih ⟨s0,a0⟩ r h
 intro c hc
 refine WpL.step ?_
 refine K8d hc 1 [(1,.ra 1 0),(3,I s0.fSize),(42,I (s0.fPlus.length : Int)),(43,I a0),(44,.bool (decide (a0 < (s0.fPlus.length : Int))))] ?_
 refine sN ?_
 refine ic h (fun a1 h => ?_) fun a1 h => ?_
 ·refine sk ?_
  refine sN ?_
  refine bk 1 ?_
  refine K8d hc 2 [(1,.ra 1 0),(3,I s0.fSize),(4,I a0),(42,I (s0.fPlus.length : Int)),(43,I a0)] ?_
  refine sN ?_
  obtain ⟨a2,a3,h⟩ := Qdd h
  refine Wp.into (x := .normal) (mkS [(1,.ra 1 0),(3,I s0.fSize),(42,I (s0.fPlus.length : Int)),(43,I a0),(63,.bool a2)] [(1,K2d s0)]) ?_ ?_
  ·replace h := a3
   obtain ⟨a4,a5,a6,a7,h⟩ := bq2 h
   rcases is h with ⟨a8,h⟩ | ⟨a8,h⟩
   ·obtain ⟨a9,b1,b2,b3,h⟩ := bq2 h
    refine rgs hc Kih [oN,oN,oN,oN,some (.el (I a4)),oN,oc (.bool a6),oN,oN,oN,oN,oN,oN,some (.el (I a9)),oN,oc (.bool b2),oN,oF] [(1,.ra 1 0),(3,I s0.fSize),(42,I (s0.fPlus.length : Int)),(43,I a0),(63,.bool (!b2))] (ai (ix a5) (cq (Khs _ _ a7) K68 (ar 5 (nF a8) (ai (ix b1) (ar 2 (nF a8) (cq (Khs _ _ b3) K68 (ar 2 (nF a8) tv))))))) ?_
    obtain rfl := os h
    exact Qcz.mk
   refine rgs hc Kih [oN,oN,oN,oN,some (.el (I a4)),oN,oc (.bool a6),oN,oN,o_,o_,o_,o_,o_,o_,o_,o_,oT] [(1,.ra 1 0),(3,I s0.fSize),(42,I (s0.fPlus.length : Int)),(43,I a0),(63,.bool true)] (ai (ix a5) (cq (Khs _ _ a7) K68 (ar 8 (neF (nT a8)) (ai (nT a8) tv)))) ?_
   obtain rfl := os h
   exact Qcz.mk
  clear a3
  refine ic h (fun b4 h => ?_) fun b4 h => ?_
  ·refine rs0 hc 1 [(2,.bool false)] [] ?_
   refine rt ?_
   obtain rfl := os h
   exact re [true]
  refine sk ?_
  refine K8c hc 2 [(1,.ra 1 0),(3,I s0.fSize),(42,I (s0.fPlus.length : Int)),(43,I (wr (a0 + 1)))] ?_
  refine Qcv ?_
  exact (impl_IsSystem_l0_ih _ _ h c hc)
 refine xt 0 ?_
 refine Qcp ?_
 refine Qcw ?_
 obtain rfl := os h
 exact iv []
def Kiq (c : Ctx) (s0 : K00) (a0 : Int) (a1 : Int) : (Unit) ⊕ (Bool) → Exit → Q0a → Prop
 | .inl _ => Qcz c (.exit 6) (mkS [(1,.ra 1 0),(3,I s0.fSize),(5,I a0),(6,I a1)] [(1,K2d s0)])
 | .inr r => Qd8 TIx Tryz.f39 [] (.bool r)
def Kir (p : K00 × Int × Int × Int) : Option ((Unit) ⊕ (Bool)) :=
 match p with
 | (s0,a0,a1,a2) =>
  if (decide (a2 < s0.fSize)) = true then
  (Kij (s0,a0,a1,a2)) >>= fun a3 =>
  if a3 = true then
  Kir (s0,a0,a1,(wr (a2 + 1)))
  else
  some (.inr false)
  else
  some (.inl ())
 partial_fixpoint
def Kis (p : K00 × Int × Int × Int) (fl : (Unit) ⊕ (Bool)) : Prop :=
 match p with
 | (s0,a0,a1,a2) => ∀ c : Ctx,c.nt = 157 → WpL Tryz.prog c (cl (cl (cr (cr (cl (cl (cr (cl (cl (cr (cr (cl (cl (cr (cl (cl (cr (cl (cr (cr (cr (cr B39)))))))))))))))))))))) (Kiq c s0 a0 a1 fl) (mkS [(1,.ra 1 0),(3,I s0.fSize),(5,I a0),(6,I a1),(7,I a2)] [(1,K2d s0)])
theorem Kit : ∀ p r,Kir p = some r → Kis p r := by
 refine Kir.partial_correctness Kis ?_
 rintro impl_IsSystem_l1_f impl_IsSystem_l1_ih ⟨s0,a0,a1,a2⟩ r h
 intro c hc
 refine WpL.step ?_
 refine sN ?_
 refine K8d hc 3 [(1,.ra 1 0),(3,I s0.fSize),(5,I a0),(6,I a1),(7,I a2),(148,.bool (decide (a2 < s0.fSize)))] ?_
 refine ic h (fun a3 h => ?_) fun a3 h => ?_
 ·refine sk ?_
  refine sN ?_
  refine bk 7 ?_
  obtain ⟨a4,a5,h⟩ := Qdd h
  refine rss hc none [oN,oN,oN,oN,oc (.bool a4),oN] [(1,.ra 1 0),(3,I s0.fSize),(5,I a0),(6,I a1),(7,I a2),(156,.bool (!a4))] (cq (Kil _ _ a5) K6d tv) ?_
  rcases is h with ⟨a6,h⟩ | ⟨a6,h⟩
  ·refine cF (!a4) (nF a6) ?_
   refine sk ?_
   refine K8c hc 3 [(1,.ra 1 0),(3,I s0.fSize),(5,I a0),(6,I a1),(7,I (wr (a2 + 1)))] ?_
   refine Qcv ?_
   exact (impl_IsSystem_l1_ih _ _ h c hc)
  refine cT (!a4) (nT a6) ?_
  refine rs0 hc 1 [(2,.bool false)] [] ?_
  refine rt ?_
  obtain rfl := os h
  exact re [true]
 refine xt 6 ?_
 refine Qcp ?_
 refine Qcw ?_
 obtain rfl := os h
 exact iv []
def Kiu (c : Ctx) (s0 : K00) (a0 : Int) : (Unit) ⊕ (Bool) → Exit → Q0a → Prop
 | .inl _ => Qcz c (.exit 4) (mkS [(1,.ra 1 0),(3,I s0.fSize),(5,I a0)] [(1,K2d s0)])
 | .inr r => Qd8 TIx Tryz.f39 [] (.bool r)
def Kiv (p : K00 × Int × Int) : Option ((Unit) ⊕ (Bool)) :=
 match p with
 | (s0,a0,a1) =>
  if (decide (a1 < s0.fSize)) = true then
  ((
  (Kht (s0,a0,a1)) >>= fun a2 =>
  (Kht (s0,a1,a0)) >>= fun a3 =>
  if (a2 != a3) = true then
   some (true)
  else
   if (a0 != a1) = true then
   (Khz (s0,a0,a1)) >>= fun a4 =>
   if a4 = true then
   (Khz (s0,a1,a0)) >>= fun a5 =>
   if a5 = true then
   some (true)
   else
   (Kib (s0,a0,a1)) >>= fun a6 =>
   some ((decide (a6 < 0)))
   else
   (Kib (s0,a0,a1)) >>= fun a6 =>
   some ((decide (a6 < 0)))
   else
   (Kib (s0,a0,a1)) >>= fun a6 =>
   some ((decide (a6 < 0)))
  ) : Option (Bool)) >>= fun a7 =>
  if a7 = true then
  some (.inr false)
  else
  (Kir (s0,a0,a1,0)) >>= fun fl => match fl with
  | .inl () =>
   Kiv (s0,a0,(wr (a1 + 1)))
  | .inr r =>
   some (.inr r)
  else
  some (.inl ())
 partial_fixpoint
def Kiw (p : K00 × Int × Int) (fl : (Unit) ⊕ (Bool)) : Prop :=
 match p with
 | (s0,a0,a1) => ∀ c : Ctx,c.nt = 157 → WpL Tryz.prog c (cl (cl (cr (cr (cl (cl (cr (cl (cl (cr (cl (cr (cr (cr (cr B39))))))))))))))) (Kiu c s0 a0 fl) (mkS [(1,.ra 1 0),(3,I s0.fSize),(5,I a0),(6,I a1)] [(1,K2d s0)])
theorem Kix : ∀ p r,Kiv p = some r → Kiw p r := by
 refine Kiv.partial_correctness Kiw ?_
 rintro impl_IsSystem_l2_f impl_IsSystem_l2_ih ⟨s0,a0,a1⟩ r h
 intro c hc
 refine WpL.step ?_
 refine sN ?_
 refine K8d hc 3 [(1,.ra 1 0),(3,I s0.fSize),(5,I a0),(6,I a1),(110,.bool (decide (a1 < s0.fSize)))] ?_
 refine ic h (fun a2 h => ?_) fun a2 h => ?_
 ·refine sk ?_
  refine sN ?_
  refine bk 5 ?_
  refine sN ?_
  refine sN ?_
  obtain ⟨a3,a4,h⟩ := Qdd h
  refine Wp.into (x := .normal) (mkS [(1,.ra 1 0),(3,I s0.fSize),(5,I a0),(6,I a1),(145,.bool a3)] [(1,K2d s0)]) ?_ ?_
  ·replace h := a4
   obtain ⟨a5,a6,a7,a8,h⟩ := bq2 h
   rcases is h with ⟨a9,h⟩ | ⟨a9,h⟩
   ·refine rgs hc Kii [oN,oN,oN,oc (I a5),oN,oN,oN,oc (I a7),oN,oN,o_,o_,o_,o_,o_,o_,o_,o_,o_,o_,o_,o_,o_,o_,o_,oT,oN,o_,o_,o_,o_,o_,oT] [(1,.ra 1 0),(3,I s0.fSize),(5,I a0),(6,I a1),(145,.bool true)] (cq (Khv _ _ a6) K69 (cq (Khv _ _ a8) K69 (ar 7 (neF a9) (ai a9 (ar 5 nf (ai tt tv)))))) ?_
    obtain rfl := os h
    exact Qcz.mk
   rcases is h with ⟨b1,h⟩ | ⟨b1,h⟩
   ·obtain ⟨b2,b3,h⟩ := Qdd h
    rcases is h with ⟨b4,h⟩ | ⟨b4,h⟩
    ·obtain ⟨b5,b6,h⟩ := Qdd h
     rcases is h with ⟨b7,h⟩ | ⟨b7,h⟩
     ·refine rgs hc Kii [oN,oN,oN,oc (I a5),oN,oN,oN,oc (I a7),oN,oN,oN,oN,oN,oN,oN,oN,oN,oc (.bool b2),oT,oN,oN,oN,oN,oc (.bool b5),oT,oF,oN,o_,o_,o_,o_,o_,oT] [(1,.ra 1 0),(3,I s0.fSize),(5,I a0),(6,I a1),(145,.bool true)] (cq (Khv _ _ a6) K69 (cq (Khv _ _ a8) K69 (ar 4 a9 (ar 4 b1 (cq (Ki1 _ _ b3) K6b (ac a9 b1 a9 (ar 4 b4 (cq (Ki1 _ _ b6) K6b (ac a9 b4 a9 (ar 5 (neF b7) (ai b7 tv))))))))))) ?_
      obtain rfl := os h
      exact Qcz.mk
     obtain ⟨b8,b9,h⟩ := Qdd h
     refine rgs hc Kii [oN,oN,oN,oc (I a5),oN,oN,oN,oc (I a7),oN,oN,oN,oN,oN,oN,oN,oN,oN,oc (.bool b2),oT,oN,oN,oN,oN,oc (.bool b5),oT,oF,oN,oN,oN,oN,oc (I b8),oN,oF] [(1,.ra 1 0),(3,I s0.fSize),(5,I a0),(6,I a1),(145,.bool (decide (b8 < 0)))] (cq (Khv _ _ a6) K69 (cq (Khv _ _ a8) K69 (ar 4 a9 (ar 4 b1 (cq (Ki1 _ _ b3) K6b (ac a9 b1 a9 (ar 4 b4 (cq (Ki1 _ _ b6) K6b (ac a9 b4 a9 (ar 4 b7 (cq (Kid _ _ b9) K6c (ar 2 b7 tv)))))))))))) ?_
     obtain rfl := os h
     exact Qcz.mk
    obtain ⟨b8,b9,h⟩ := Qdd h
    refine rgs hc Kii [oN,oN,oN,oc (I a5),oN,oN,oN,oc (I a7),oN,oN,oN,oN,oN,oN,oN,oN,oN,oc (.bool b2),oT,oN,o_,o_,o_,o_,oF,oF,oN,oN,oN,oN,oc (I b8),oN,oF] [(1,.ra 1 0),(3,I s0.fSize),(5,I a0),(6,I a1),(145,.bool (decide (b8 < 0)))] (cq (Khv _ _ a6) K69 (cq (Khv _ _ a8) K69 (ar 4 a9 (ar 4 b1 (cq (Ki1 _ _ b3) K6b (ac a9 b1 a9 (ar 4 (neT b4) (ac a9 b4 a9 (ar 4 (rfl : false = false) (cq (Kid _ _ b9) K6c (ar 2 (rfl : false = false) tv))))))))))) ?_
    obtain rfl := os h
    exact Qcz.mk
   obtain ⟨b8,b9,h⟩ := Qdd h
   refine rgs hc Kii [oN,oN,oN,oc (I a5),oN,oN,oN,oc (I a7),oN,oN,oN,oN,oN,oN,o_,o_,o_,o_,oF,oN,o_,o_,o_,o_,oF,oF,oN,oN,oN,oN,oc (I b8),oN,oF] [(1,.ra 1 0),(3,I s0.fSize),(5,I a0),(6,I a1),(145,.bool (decide (b8 < 0)))] (cq (Khv _ _ a6) K69 (cq (Khv _ _ a8) K69 (ar 4 a9 (ar 4 (neT b1) (ac a9 b1 a9 (ar 4 (neT (rfl : false = false)) (ac a9 (rfl : false = false) a9 (ar 4 (rfl : false = false) (cq (Kid _ _ b9) K6c (ar 2 (rfl : false = false) tv)))))))))) ?_
   obtain rfl := os h
   exact Qcz.mk
  clear a4
  refine ic h (fun c0 h => ?_) fun c0 h => ?_
  ·refine rs0 hc 1 [(2,.bool false)] [] ?_
   refine rt ?_
   obtain rfl := os h
   exact re [true]
  refine sk ?_
  refine K8d hc 1 [(1,.ra 1 0),(3,I s0.fSize),(5,I a0),(6,I a1),(7,I 0)] ?_
  refine bk 6 ?_
  obtain ⟨fl,c1,h⟩ := Qdd h
  have hL := Kit _ _ c1 c hc
  refine lp ?_
  rcases fl with ⟨⟩ | r
  ·refine WpL.into (e := (.exit 6)) (mkS [(1,.ra 1 0),(3,I s0.fSize),(5,I a0),(6,I a1)] [(1,K2d s0)]) hL ?_
   refine Qcr ?_
   refine K8c hc 3 [(1,.ra 1 0),(3,I s0.fSize),(5,I a0),(6,I (wr (a1 + 1)))] ?_
   refine Qcv ?_
   exact (impl_IsSystem_l2_ih _ _ h c hc)
  refine WpL.mono hL ?_
  rintro _ _ ⟨rfl,hfin⟩
  obtain rfl := os h
  exact ⟨rfl,hfin⟩
 refine xt 4 ?_
 refine Qcp ?_
 refine Qcw ?_
 obtain rfl := os h
 exact iv []
def Kiy (c : Ctx) : (Unit) ⊕ (Bool) → Exit → Q0a → Prop
 | .inl _ => Qcz c (.exit 2) (mkS [] [])
 | .inr r => Qd8 TIx Tryz.f39 [] (.bool r)
def Kiz (p : K00 × Int) : Option ((Unit) ⊕ (Bool)) :=
 match p with
 | (s0,a0) =>
  if (decide (a0 < s0.fSize)) = true then
  ((
  (Kht (s0,0,a0)) >>= fun a1 =>
  if (a1 != a0) = true then
   some (true)
  else
   (Khw (s0,1,a0)) >>= fun a2 =>
   if (a2 != a0) = true then
   some (true)
   else
   (Khw (s0,a0,1)) >>= fun a3 =>
   if (a3 != a0) = true then
   some (true)
   else
   (Khw (s0,0,a0)) >>= fun a4 =>
   if (a4 != 0) = true then
   some (true)
   else
   (Khw (s0,a0,0)) >>= fun a5 =>
   if (a5 != 0) = true then
   some (true)
   else
   (Khz (s0,a0,a0)) >>= fun a6 =>
   some ((!a6))
  ) : Option (Bool)) >>= fun a7 =>
  if a7 = true then
  some (.inr false)
  else
  (Kiv (s0,a0,0)) >>= fun fl => match fl with
  | .inl () =>
   Kiz (s0,(wr (a0 + 1)))
  | .inr r =>
   some (.inr r)
  else
  some (.inl ())
 partial_fixpoint
def Kj0 (p : K00 × Int) (fl : (Unit) ⊕ (Bool)) : Prop :=
 match p with
 | (s0,a0) => ∀ c : Ctx,c.nt = 157 → WpL Tryz.prog c (cl (cl (cr (cl (cr (cr (cr (cr B39)))))))) (Kiy c fl) (mkS [(1,.ra 1 0),(3,I s0.fSize),(5,I a0)] [(1,K2d s0)])
theorem Kj1 : ∀ p r,Kiz p = some r → Kj0 p r := by
 refine Kiz.partial_correctness Kj0 ?_
 rintro impl_IsSystem_l3_f impl_IsSystem_l3_ih ⟨s0,a0⟩ r h
 intro c hc
 refine WpL.step ?_
 refine sN ?_
 refine K8d hc 3 [(1,.ra 1 0),(3,I s0.fSize),(5,I a0),(67,.bool (decide (a0 < s0.fSize)))] ?_
 refine ic h (fun a1 h => ?_) fun a1 h => ?_
 ·refine sk ?_
  refine sN ?_
  refine bk 3 ?_
  refine sN ?_
  refine sN ?_
  obtain ⟨a2,a3,h⟩ := Qdd h
  refine Wp.into (x := .normal) (mkS [(1,.ra 1 0),(3,I s0.fSize),(5,I a0),(107,.bool a2)] [(1,K2d s0)]) ?_ ?_
  ·replace h := a3
   obtain ⟨a4,a5,h⟩ := Qdd h
   rcases is h with ⟨a6,h⟩ | ⟨a6,h⟩
   ·refine rgs hc none [oN,oN,oc (I a4),oN,oN,oN,o_,o_,o_,o_,o_,oT,oN,o_,o_,o_,o_,o_,oT,oN,o_,o_,o_,o_,oT,oN,o_,o_,o_,o_,oT,oN,o_,o_,o_,o_,o_,oT] [(1,.ra 1 0),(3,I s0.fSize),(5,I a0),(107,.bool true)] (cq (Khv _ _ a5) K69 (ar 5 (neF a6) (ai a6 (ar 5 nf (ai tt (ar 4 nf (ai tt (ar 4 nf (ai tt (ar 5 nf (ai tt tv))))))))))) ?_
    obtain rfl := os h
    exact Qcz.mk
   obtain ⟨a7,a8,h⟩ := Qdd h
   rcases is h with ⟨a9,h⟩ | ⟨a9,h⟩
   ·refine rgs hc none [oN,oN,oc (I a4),oN,oN,oN,oN,oN,oc (I a7),oN,oN,oF,oN,o_,o_,o_,o_,o_,oT,oN,o_,o_,o_,o_,oT,oN,o_,o_,o_,o_,oT,oN,o_,o_,o_,o_,o_,oT] [(1,.ra 1 0),(3,I s0.fSize),(5,I a0),(107,.bool true)] (cq (Khv _ _ a5) K69 (ar 3 a6 (cq (Khy _ _ a8) K6a (ar 3 a6 (ar 5 (neF a9) (ai a9 (ar 4 nf (ai tt (ar 4 nf (ai tt (ar 5 nf (ai tt tv)))))))))))) ?_
    obtain rfl := os h
    exact Qcz.mk
   obtain ⟨b1,b2,h⟩ := Qdd h
   rcases is h with ⟨b3,h⟩ | ⟨b3,h⟩
   ·refine rgs hc none [oN,oN,oc (I a4),oN,oN,oN,oN,oN,oc (I a7),oN,oN,oF,oN,oN,oN,oc (I b1),oN,oN,oF,oN,o_,o_,o_,o_,oT,oN,o_,o_,o_,o_,oT,oN,o_,o_,o_,o_,o_,oT] [(1,.ra 1 0),(3,I s0.fSize),(5,I a0),(107,.bool true)] (cq (Khv _ _ a5) K69 (ar 3 a6 (cq (Khy _ _ a8) K6a (ar 3 a6 (ar 3 a9 (cq (Khy _ _ b2) K6a (ar 3 a9 (ar 4 (neF b3) (ai b3 (ar 4 nf (ai tt (ar 5 nf (ai tt tv))))))))))))) ?_
    obtain rfl := os h
    exact Qcz.mk
   obtain ⟨b4,b5,h⟩ := Qdd h
   rcases is h with ⟨b6,h⟩ | ⟨b6,h⟩
   ·refine rgs hc none [oN,oN,oc (I a4),oN,oN,oN,oN,oN,oc (I a7),oN,oN,oF,oN,oN,oN,oc (I b1),oN,oN,oF,oN,oN,oN,oc (I b4),oN,oF,oN,o_,o_,o_,o_,oT,oN,o_,o_,o_,o_,o_,oT] [(1,.ra 1 0),(3,I s0.fSize),(5,I a0),(107,.bool true)] (cq (Khv _ _ a5) K69 (ar 3 a6 (cq (Khy _ _ a8) K6a (ar 3 a6 (ar 3 a9 (cq (Khy _ _ b2) K6a (ar 3 a9 (ar 3 b3 (cq (Khy _ _ b5) K6a (ar 2 b3 (ar 4 (neF b6) (ai b6 (ar 5 nf (ai tt tv)))))))))))))) ?_
    obtain rfl := os h
    exact Qcz.mk
   obtain ⟨b7,b8,h⟩ := Qdd h
   rcases is h with ⟨b9,h⟩ | ⟨b9,h⟩
   ·refine rgs hc none [oN,oN,oc (I a4),oN,oN,oN,oN,oN,oc (I a7),oN,oN,oF,oN,oN,oN,oc (I b1),oN,oN,oF,oN,oN,oN,oc (I b4),oN,oF,oN,oN,oN,oc (I b7),oN,oF,oN,o_,o_,o_,o_,o_,oT] [(1,.ra 1 0),(3,I s0.fSize),(5,I a0),(107,.bool true)] (cq (Khv _ _ a5) K69 (ar 3 a6 (cq (Khy _ _ a8) K6a (ar 3 a6 (ar 3 a9 (cq (Khy _ _ b2) K6a (ar 3 a9 (ar 3 b3 (cq (Khy _ _ b5) K6a (ar 2 b3 (ar 3 b6 (cq (Khy _ _ b8) K6a (ar 2 b6 (ar 5 (neF b9) (ai b9 tv))))))))))))))) ?_
    obtain rfl := os h
    exact Qcz.mk
   obtain ⟨c0,c1,h⟩ := Qdd h
   refine rgs hc none [oN,oN,oc (I a4),oN,oN,oN,oN,oN,oc (I a7),oN,oN,oF,oN,oN,oN,oc (I b1),oN,oN,oF,oN,oN,oN,oc (I b4),oN,oF,oN,oN,oN,oc (I b7),oN,oF,oN,oN,oN,oN,oc (.bool c0),oN,oF] [(1,.ra 1 0),(3,I s0.fSize),(5,I a0),(107,.bool (!c0))] (cq (Khv _ _ a5) K69 (ar 3 a6 (cq (Khy _ _ a8) K6a (ar 3 a6 (ar 3 a9 (cq (Khy _ _ b2) K6a (ar 3 a9 (ar 3 b3 (cq (Khy _ _ b5) K6a (ar 2 b3 (ar 3 b6 (cq (Khy _ _ b8) K6a (ar 2 b6 (ar 4 b9 (cq (Ki1 _ _ c1) K6b (ar 2 b9 tv)))))))))))))))) ?_
   obtain rfl := os h
   exact Qcz.mk
  clear a3
  refine ic h (fun c2 h => ?_) fun c2 h => ?_
  ·refine rs0 hc 1 [(2,.bool false)] [] ?_
   refine rt ?_
   obtain rfl := os h
   exact re [true]
  refine sk ?_
  refine K8d hc 1 [(1,.ra 1 0),(3,I s0.fSize),(5,I a0),(6,I 0)] ?_
  refine bk 4 ?_
  obtain ⟨fl,c3,h⟩ := Qdd h
  have hL := Kix _ _ c3 c hc
  refine lp ?_
  rcases fl with ⟨⟩ | r
  ·refine WpL.into (e := (.exit 4)) (mkS [(1,.ra 1 0),(3,I s0.fSize),(5,I a0)] [(1,K2d s0)]) hL ?_
   refine Qcr ?_
   refine K8c hc 3 [(1,.ra 1 0),(3,I s0.fSize),(5,I (wr (a0 + 1)))] ?_
   refine Qcv ?_
   exact (impl_IsSystem_l3_ih _ _ h c hc)
  refine WpL.mono hL ?_
  rintro _ _ ⟨rfl,hfin⟩
  obtain rfl := os h
  exact ⟨rfl,hfin⟩
 refine xt 2 ?_
 refine Qcp ?_
 refine Qcw ?_
 obtain rfl := os h
 exact iv []
def Kj2 (s0 : K00) : Option (Bool) :=
 ((
 (Khn (s0.fSize,2,16)) >>= fun a0 =>
 if a0 = true then
  if ((s0.fPlus.length : Int) != (wr (s0.fSize * s0.fSize))) = true then
   some (true)
  else
   if ((s0.fTimes.length : Int) != (wr (s0.fSize * s0.fSize))) = true then
   some (true)
   else
   some (((s0.fBelow.length : Int) != (wr (s0.fSize * s0.fSize))))
 else
  some (true)
 ) : Option (Bool)) >>= fun a1 =>
 if a1 = true then
 some false
 else
 (Kin (s0,0)) >>= fun fl => match fl with
 | .inl () =>
  (Kiz (s0,0)) >>= fun fl => match fl with
  | .inl () =>
   some true
  | .inr r =>
   some r
 | .inr r =>
  some r
def Kj3 (s0 : K00) (r : Bool) : Prop :=
 Q71 Tryz.prog 39 [K2e s0] (.bool r) []
theorem Kj4 : ∀ p r,Kj2 p = some r → Kj3 p r := by
 rintro s0 r h
 unfold Kj2 at h
 refine b0 Tryz.f39 B39 157 [(0,K2e s0)] fun c hc => ?_
 refine rs hc none [some (.new 1),oN] [(1,.ra 1 0)] [(1,K2d s0)] tv ?_
 refine K8d hc 3 [(1,.ra 1 0),(3,I s0.fSize)] ?_
 refine sN ?_
 refine sN ?_
 obtain ⟨a0,a1,h⟩ := Qdd h
 refine Wp.into (x := .normal) (mkS [(1,.ra 1 0),(3,I s0.fSize),(39,.bool a0)] [(1,K2d s0)]) ?_ ?_
 ·replace h := a1
  obtain ⟨a2,a3,h⟩ := Qdd h
  rcases is h with ⟨a4,h⟩ | ⟨a4,h⟩
  ·rcases is h with ⟨a5,h⟩ | ⟨a5,h⟩
   ·refine rgs hc none [oN,oc (.bool a2),oN,oN,oN,oN,some (.eqv (.no) ⟨[(16,I (s0.fPlus.length : Int))],[],[]⟩),oN,oN,oN,oN,oF,oN,o_,o_,o_,o_,o_,o_,o_,oT,oN,o_,o_,o_,o_,o_,o_,o_,oT] [(1,.ra 1 0),(3,I s0.fSize),(39,.bool true)] (cq (Khp _ _ a3) K67 (ar 3 (nF a4) (ai (Qdj (d := 16) I s0.fPlus) (ar 5 (nF a4) (ar 7 (neF a5) (ai a5 (ar 7 nf (ai tt tv)))))))) ?_
    obtain rfl := os h
    exact Qcz.mk
   rcases is h with ⟨a6,h⟩ | ⟨a6,h⟩
   ·refine rgs hc none [oN,oc (.bool a2),oN,oN,oN,oN,some (.eqv (.no) ⟨[(16,I (s0.fPlus.length : Int))],[],[]⟩),oN,oN,oN,oN,oF,oN,oN,oN,some (.eqv (.no) ⟨[(25,I (s0.fTimes.length : Int))],[],[]⟩),oN,oN,oN,oN,oF,oN,o_,o_,o_,o_,o_,o_,o_,oT] [(1,.ra 1 0),(3,I s0.fSize),(39,.bool true)] (cq (Khp _ _ a3) K67 (ar 3 (nF a4) (ai (Qdj (d := 16) I s0.fPlus) (ar 5 (nF a4) (ar 3 a5 (ai (Qdj (d := 25) I s0.fTimes) (ar 5 a5 (ar 7 (neF a6) (ai a6 tv))))))))) ?_
    obtain rfl := os h
    exact Qcz.mk
   refine rgs hc none [oN,oc (.bool a2),oN,oN,oN,oN,some (.eqv (.no) ⟨[(16,I (s0.fPlus.length : Int))],[],[]⟩),oN,oN,oN,oN,oF,oN,oN,oN,some (.eqv (.no) ⟨[(25,I (s0.fTimes.length : Int))],[],[]⟩),oN,oN,oN,oN,oF,oN,oN,oN,some (.eqv (.no) ⟨[(34,I (s0.fBelow.length : Int))],[],[]⟩),oN,oN,oN,oN,oF] [(1,.ra 1 0),(3,I s0.fSize),(39,.bool ((s0.fBelow.length : Int) != (wr (s0.fSize * s0.fSize))))] (cq (Khp _ _ a3) K67 (ar 3 (nF a4) (ai (Qdj (d := 16) I s0.fPlus) (ar 5 (nF a4) (ar 3 a5 (ai (Qdj (d := 25) I s0.fTimes) (ar 5 a5 (ar 3 a6 (ai (Qdj (d := 34) AV.bool s0.fBelow) (ar 5 a6 tv)))))))))) ?_
   obtain rfl := os h
   exact Qcz.mk
  refine rgs hc none [oN,oc (.bool a2),oN,oN,o_,o_,o_,o_,o_,o_,o_,oT,oN,o_,o_,o_,o_,o_,o_,o_,oT,oN,o_,o_,o_,o_,o_,o_,o_,oT] [(1,.ra 1 0),(3,I s0.fSize),(39,.bool true)] (cq (Khp _ _ a3) K67 (ar 7 (neF (nT a4)) (ai (nT a4) (ar 7 nf (ai tt (ar 7 nf (ai tt tv))))))) ?_
  obtain rfl := os h
  exact Qcz.mk
 clear a1
 refine ic h (fun a7 h => ?_) fun a7 h => ?_
 ·refine rs0 hc 1 [(2,.bool false)] [] ?_
  refine rt ?_
  obtain rfl := os h
  exact rq [true]
 refine sk ?_
 refine sN ?_
 refine rss hc none [oN,oN,some (.eqv (.no) ⟨[(42,I (s0.fPlus.length : Int))],[],[]⟩),oN] [(1,.ra 1 0),(3,I s0.fSize),(42,I (s0.fPlus.length : Int)),(43,I 0)] (ai (Qdj (d := 42) I s0.fPlus) tv) ?_
 refine bk 0 ?_
 obtain ⟨fl,a8,h⟩ := Qdd h
 have hL := Kip _ _ a8 c hc
 refine lp ?_
 rcases fl with ⟨⟩ | r
 ·refine WpL.into (e := (.exit 0)) (mkS [(1,.ra 1 0),(3,I s0.fSize)] [(1,K2d s0)]) hL ?_
  refine Qcr ?_
  refine sN ?_
  refine K8d hc 1 [(1,.ra 1 0),(3,I s0.fSize),(5,I 0)] ?_
  refine bk 2 ?_
  obtain ⟨fl,a9,h⟩ := Qdd h
  have hL := Kj1 _ _ a9 c hc
  refine lp ?_
  rcases fl with ⟨⟩ | r
  ·refine WpL.into (e := (.exit 2)) (mkS [] []) hL ?_
   refine Qcr ?_
   refine rs0 hc 1 [(2,.bool true)] [] ?_
   refine rt ?_
   obtain rfl := os h
   exact rq [true]
  refine WpL.mono hL ?_
  rintro _ _ ⟨rfl,hfin⟩
  obtain rfl := os h
  exact ⟨.inl rfl,hfin⟩
 refine WpL.mono hL ?_
 rintro _ _ ⟨rfl,hfin⟩
 obtain rfl := os h
 exact ⟨.inl rfl,hfin⟩
def Kj5 (code0 : Int) : Option (Int × Int) :=
 (Khn (code0,0,2)) >>= fun a0 =>
 if a0 = true then
 some (code0,(-1))
 else
 (Khn (code0,3,18)) >>= fun a1 =>
 if a1 = true then
 some (3,(wr (code0 - 3)))
 else
 (Khn (code0,19,34)) >>= fun a2 =>
 if a2 = true then
 some (4,(wr (code0 - 19)))
 else
 if (code0 == 35) = true then
 some (3,(-1))
 else
 if (code0 == 36) = true then
 some (4,(-1))
 else
 some (5,(-1))
def Kj6 (code0 : Int) (r : Int × Int) : Prop :=
 Q71 Tryz.prog 121 [I code0] (.tup [I r.1,I r.2]) []
theorem Kj7 : ∀ p r,Kj5 p = some r → Kj6 p r := by
 rintro code0 r h
 unfold Kj5 at h
 refine b0 Tryz.f121 K6f 24 [(0,I code0)] fun c hc => ?_
 refine rs0 hc 2 [(0,I code0)] [] ?_
 refine sN ?_
 refine bk 0 ?_
 obtain ⟨a0,a1,h⟩ := Qdd h
 refine rs hc none [oN,oc (.bool a0),oN] [(0,I code0),(4,.bool a0)] [] (cq (Khp _ _ a1) K67 tv) ?_
 refine ic h (fun a2 h => ?_) fun a2 h => ?_
 ·refine rs0 hc 3 [(2,I code0),(3,I (-1))] [] ?_
  refine rt ?_
  obtain rfl := os h
  exact rq [true,true]
 obtain ⟨a3,a4,h⟩ := Qdd h
 refine rs hc none [oN,oc (.bool a3),oN] [(0,I code0),(8,.bool a3)] [] (cq (Khp _ _ a4) K67 tv) ?_
 refine ic h (fun a5 h => ?_) fun a5 h => ?_
 ·refine rs0 hc 4 [(2,I 3),(3,I (wr (code0 - 3)))] [] ?_
  refine rt ?_
  obtain rfl := os h
  exact rq [true,true]
 obtain ⟨a6,a7,h⟩ := Qdd h
 refine rs hc none [oN,oc (.bool a6),oN] [(0,I code0),(13,.bool a6)] [] (cq (Khp _ _ a7) K67 tv) ?_
 refine ic h (fun a8 h => ?_) fun a8 h => ?_
 ·refine rs0 hc 4 [(2,I 4),(3,I (wr (code0 - 19)))] [] ?_
  refine rt ?_
  obtain rfl := os h
  exact rq [true,true]
 refine rs0 hc 3 [(0,I code0),(18,.bool (code0 == 35))] [] ?_
 refine ic h (fun a9 h => ?_) fun a9 h => ?_
 ·refine rs0 hc 2 [(2,I 3),(3,I (-1))] [] ?_
  refine rt ?_
  obtain rfl := os h
  exact rq [true,true]
 refine rs0 hc 3 [(21,.bool (code0 == 36))] [] ?_
 refine ic h (fun b1 h => ?_) fun b1 h => ?_
 ·refine rs0 hc 2 [(2,I 4),(3,I (-1))] [] ?_
  refine rt ?_
  obtain rfl := os h
  exact rq [true,true]
 refine sk ?_
 refine rs0 hc 2 [(2,I 5),(3,I (-1))] [] ?_
 refine rt ?_
 obtain rfl := os h
 exact rq [true,true]
def Kj8 (p : (List Int) × Int) : Option (Int) :=
 match p with
 | (ty0,at1) =>
  ((
  if (decide (at1 < 0)) = true then
  some (true)
  else
  some ((decide (at1 ≥ (ty0.length : Int))))
  ) : Option (Bool)) >>= fun a0 =>
  if a0 = true then
  some (-1)
  else
  (idx ty0 at1) >>= fun a1 =>
  (Kj5 a1) >>= fun (a2,a3) =>
  if (a2 == 0) = true then
  some (wr (at1 + 1))
  else
  if (a2 == 4) = true then
  (Kj8 (ty0,(wr (at1 + 1)))) >>= fun a4 =>
  some a4
  else
  if (a2 == 5) = true then
  some (-1)
  else
  (Kj8 (ty0,(wr (at1 + 1)))) >>= fun a5 =>
  (Kj8 (ty0,a5)) >>= fun a6 =>
  some a6
 partial_fixpoint
def Kj9 (p : (List Int) × Int) (r : Int) : Prop :=
 match p with
 | (ty0,at1) => Q71 Tryz.prog 122 [sI ty0,I at1] (I r) []
theorem Kja : ∀ p r,Kj8 p = some r → Kj9 p r := by
 refine Kj8.partial_correctness Kj9 ?_
 rintro impl_typeEnd_f impl_typeEnd_ih ⟨ty0,at1⟩ r h
 refine b0 Tryz.f122 K6h 42 [(0,sI ty0),(1,I at1)] fun c hc => ?_
 refine rs0 hc 1 [(0,sI ty0),(1,I at1)] [] ?_
 refine sN ?_
 refine sN ?_
 obtain ⟨a0,a1,h⟩ := Qdd h
 refine Wp.into (x := .normal) (mkS [(0,sI ty0),(1,I at1),(14,.bool a0)] []) ?_ ?_
 ·replace h := a1
  rcases is h with ⟨a2,h⟩ | ⟨a2,h⟩
  ·refine rg hc none [oN,oN,oN,o_,o_,o_,o_,oT] [(0,sI ty0),(1,I at1),(14,.bool true)] [] (ar 4 (neF a2) (ai a2 tv)) ?_
   obtain rfl := os h
   exact Qcz.mk
  refine rg hc none [oN,oN,oN,oN,oN,some (.eqv (.no) ⟨[(12,I (ty0.length : Int))],[],[]⟩),oN,oF] [(0,sI ty0),(1,I at1),(14,.bool (decide (at1 ≥ (ty0.length : Int))))] [] (ar 3 a2 (ai (Qdj (d := 12) I ty0) (ar 2 a2 tv))) ?_
  obtain rfl := os h
  exact Qcz.mk
 clear a1
 refine ic h (fun a3 h => ?_) fun a3 h => ?_
 ·refine rs0 hc 1 [(4,I (-1))] [] ?_
  refine rt ?_
  obtain rfl := os h
  exact rq [true]
 refine sk ?_
 obtain ⟨a4,a5,⟨a6,a7⟩,a8,h⟩ := bq2 h
 refine rs hc none [oN,oN,some (.el (I a4)),oN,oc (.tup [I a6,I a7]),oN,oN,oN,oN,oN] [(0,sI ty0),(1,I at1),(5,I a6)] [] (ai (ix a5) (cq (Kj7 _ _ a8) K6g tv)) ?_
 refine sN ?_
 refine rs0 hc 1 [(0,sI ty0),(1,I at1),(23,I a6)] [] ?_
 refine bk 0 ?_
 refine rs0 hc 2 [(0,sI ty0),(1,I at1),(23,I a6),(24,.bool (a6 == 0))] [] ?_
 refine ic h (fun a9 h => ?_) fun a9 h => ?_
 ·refine rs0 hc 3 [(4,I (wr (at1 + 1)))] [] ?_
  refine rt ?_
  obtain rfl := os h
  exact rq [true]
 refine rs0 hc 2 [(0,sI ty0),(1,I at1),(23,I a6),(28,.bool (a6 == 4))] [] ?_
 refine ic h (fun b1 h => ?_) fun b1 h => ?_
 ·obtain ⟨b2,b3,h⟩ := Qdd h
  refine rs hc none [oN,oN,oN,oc (I b2),oN] [(4,I b2)] [] (cq (impl_typeEnd_ih _ _ b3) K6i tv) ?_
  refine rt ?_
  obtain rfl := os h
  exact rq [true]
 refine rs0 hc 2 [(0,sI ty0),(1,I at1),(34,.bool (a6 == 5))] [] ?_
 refine ic h (fun b4 h => ?_) fun b4 h => ?_
 ·refine rs0 hc 1 [(4,I (-1))] [] ?_
  refine rt ?_
  obtain rfl := os h
  exact rq [true]
 refine sk ?_
 obtain ⟨b5,b6,b7,b8,h⟩ := bq2 h
 refine rs hc none [oN,oN,oN,oN,oc (I b5),oc (I b7),oN] [(4,I b7)] [] (cq (impl_typeEnd_ih _ _ b6) K6i (cq (impl_typeEnd_ih _ _ b8) K6i tv)) ?_
 refine rt ?_
 obtain rfl := os h
 exact rq [true]
def Kjb (ty0 : (List Int)) : Option (Bool) :=
 ((
 (Khn ((ty0.length : Int),1,40)) >>= fun a0 =>
 if a0 = true then
 (Kj8 (ty0,0)) >>= fun a1 =>
 some ((a1 == (ty0.length : Int)))
 else
 some (false)
 ) : Option (Bool)) >>= fun a2 =>
 some a2
def Kjc (ty0 : (List Int)) (r : Bool) : Prop :=
 Q71 Tryz.prog 142 [sI ty0] (.bool r) []
theorem Kjd : ∀ p r,Kjb p = some r → Kjc p r := by
 rintro ty0 r h
 unfold Kjb at h
 refine b0 Tryz.f142 K6j 13 [(0,sI ty0)] fun c hc => ?_
 refine rs0 hc 1 [(0,sI ty0)] [] ?_
 refine sN ?_
 obtain ⟨a0,a1,h⟩ := Qdd h
 refine Wp.into (x := .normal) (mkS [(2,.bool a0)] []) ?_ ?_
 ·replace h := a1
  obtain ⟨a2,a3,h⟩ := Qdd h
  rcases is h with ⟨a4,h⟩ | ⟨a4,h⟩
  ·obtain ⟨a5,a6,h⟩ := Qdd h
   refine rg hc none [oN,some (.eqv (.no) ⟨[(4,I (ty0.length : Int))],[],[]⟩),oc (.bool a2),oN,oN,oc (I a5),oN,some (.eqv (.no) ⟨[(10,I (ty0.length : Int))],[],[]⟩),oN,oT,oN] [(2,.bool (a5 == (ty0.length : Int)))] [] (ai (Qdj (d := 4) I ty0) (cq (Khp _ _ a3) K67 (ar 2 a4 (cq (Kja _ _ a6) K6i (ar 2 a4 (ai (Qdj (d := 10) I ty0) (ar 2 a4 tv))))))) ?_
   obtain rfl := os h
   exact Qcz.mk
  refine rg hc none [oN,some (.eqv (.no) ⟨[(4,I (ty0.length : Int))],[],[]⟩),oc (.bool a2),oN,o_,o_,o_,o_,o_,oF,oN] [(2,.bool false)] [] (ai (Qdj (d := 4) I ty0) (cq (Khp _ _ a3) K67 (ar 5 (neT a4) (ai a4 tv)))) ?_
  obtain rfl := os h
  exact Qcz.mk
 clear a1
 refine rt ?_
 obtain rfl := os h
 exact rq [true]
def Kje (c : Ctx) : (Unit) ⊕ (Bool) → Exit → Q0a → Prop
 | .inl _ => Qcz c (.exit 0) (mkS [] [])
 | .inr r => Qd8 TIx Tryz.f113 [] (.bool r)
def Kjf (p : K00 × (List Int) × Int) : Option ((Unit) ⊕ (Bool)) :=
 match p with
 | (s0,ty1,a0) =>
  if (decide (a0 < (ty1.length : Int))) = true then
  (idx ty1 a0) >>= fun a1 =>
  (Kj5 a1) >>= fun (a2,a3) =>
  ((
  if (a2 == 3) = true then
  (Khq (s0,a3)) >>= fun a4 =>
  some ((!a4))
  else
  if (a2 == 4) = true then
  (Khq (s0,a3)) >>= fun a4 =>
  some ((!a4))
  else
  some (false)
  ) : Option (Bool)) >>= fun a5 =>
  if a5 = true then
  some (.inr false)
  else
  Kjf (s0,ty1,(wr (a0 + 1)))
  else
  some (.inl ())
 partial_fixpoint
def Kjg (p : K00 × (List Int) × Int) (fl : (Unit) ⊕ (Bool)) : Prop :=
 match p with
 | (s0,ty1,a0) => ∀ c : Ctx,c.nt = 36 → WpL Tryz.prog c (cl (cl (cr (cl (cr (cr K6l)))))) (Kje c fl) (mkS [(2,.ra 1 0),(12,sI ty1),(13,I (ty1.length : Int)),(14,I a0)] [(1,K2d s0)])
theorem Kjh : ∀ p r,Kjf p = some r → Kjg p r := by
 refine Kjf.partial_correctness Kjg ?_
 rintro impl_isTypeOf_l0_f impl_isTypeOf_l0_ih ⟨s0,ty1,a0⟩ r h
 intro c hc
 refine WpL.step ?_
 refine K8d hc 1 [(2,.ra 1 0),(12,sI ty1),(13,I (ty1.length : Int)),(14,I a0),(15,.bool (decide (a0 < (ty1.length : Int))))] ?_
 refine sN ?_
 refine ic h (fun a1 h => ?_) fun a1 h => ?_
 ·refine sk ?_
  refine sN ?_
  refine bk 1 ?_
  obtain ⟨a2,a3,h⟩ := Qdd h
  refine rss hc none [some (.el (I a2)),oN,oN] [(2,.ra 1 0),(6,I a2),(12,sI ty1),(13,I (ty1.length : Int)),(14,I a0)] (ai (ix a3) tv) ?_
  obtain ⟨⟨a4,a5⟩,a6,h⟩ := Qdd h
  refine rss hc none [oN,oc (.tup [I a4,I a5]),oN,oN,oN,oN,oN] [(2,.ra 1 0),(7,I a4),(8,I a5),(12,sI ty1),(13,I (ty1.length : Int)),(14,I a0)] (cq (Kj7 _ _ a6) K6g tv) ?_
  refine sN ?_
  obtain ⟨a7,a8,h⟩ := Qdd h
  refine Wp.into (x := .normal) (mkS [(2,.ra 1 0),(12,sI ty1),(13,I (ty1.length : Int)),(14,I a0),(34,.bool a7)] [(1,K2d s0)]) ?_ ?_
  ·replace h := a8
   rcases is h with ⟨a9,h⟩ | ⟨a9,h⟩
   ·obtain ⟨b1,b2,h⟩ := Qdd h
    refine rgs hc none [oN,oN,oN,o_,o_,oT,oN,oN,oN,oc (.bool b1),oN,oT] [(2,.ra 1 0),(12,sI ty1),(13,I (ty1.length : Int)),(14,I a0),(34,.bool (!b1))] (ar 2 (neF a9) (ai a9 (ar 3 tt (cq (Khs _ _ b2) K68 (ar 2 tt tv))))) ?_
    obtain rfl := os h
    exact Qcz.mk
   rcases is h with ⟨b3,h⟩ | ⟨b3,h⟩
   ·obtain ⟨b1,b2,h⟩ := Qdd h
    refine rgs hc none [oN,oN,oN,oN,oN,oF,oN,oN,oN,oc (.bool b1),oN,oT] [(2,.ra 1 0),(12,sI ty1),(13,I (ty1.length : Int)),(14,I a0),(34,.bool (!b1))] (ar 3 a9 (ar 3 b3 (cq (Khs _ _ b2) K68 (ar 2 b3 tv)))) ?_
    obtain rfl := os h
    exact Qcz.mk
   refine rgs hc none [oN,oN,oN,oN,oN,oF,oN,o_,o_,o_,o_,oF] [(2,.ra 1 0),(12,sI ty1),(13,I (ty1.length : Int)),(14,I a0),(34,.bool false)] (ar 3 a9 (ar 4 (neT b3) (ai b3 tv))) ?_
   obtain rfl := os h
   exact Qcz.mk
  clear a8
  refine ic h (fun b4 h => ?_) fun b4 h => ?_
  ·refine rs0 hc 1 [(4,.bool false)] [] ?_
   refine rt ?_
   obtain rfl := os h
   exact re [true]
  refine sk ?_
  refine K8c hc 2 [(2,.ra 1 0),(12,sI ty1),(13,I (ty1.length : Int)),(14,I (wr (a0 + 1)))] ?_
  refine Qcv ?_
  exact (impl_isTypeOf_l0_ih _ _ h c hc)
 refine xt 0 ?_
 refine Qcp ?_
 refine Qcw ?_
 obtain rfl := os h
 exact iv []
def Kji (p : K00 × (List Int)) : Option (Bool) :=
 match p with
 | (s0,ty1) =>
  (Kjb ty1) >>= fun a0 =>
  if a0 = true then
  (Kjf (s0,ty1,0)) >>= fun fl => match fl with
  | .inl () =>
   some true
  | .inr r =>
   some r
  else
  some false
def Kjj (p : K00 × (List Int)) (r : Bool) : Prop :=
 match p with
 | (s0,ty1) => Q71 Tryz.prog 113 [K2e s0,sI ty1] (.bool r) []
theorem Kjk : ∀ p r,Kji p = some r → Kjj p r := by
 rintro ⟨s0,ty1⟩ r h
 unfold Kji at h
 refine b0 Tryz.f113 K6l 36 [(0,K2e s0),(1,sI ty1)] fun c hc => ?_
 refine rs hc none [some (.new 1),oN] [(1,sI ty1),(2,.ra 1 0)] [(1,K2d s0)] tv ?_
 refine sN ?_
 obtain ⟨a0,a1,h⟩ := Qdd h
 refine rss hc none [oN,oc (.bool a0),oN] [(1,sI ty1),(2,.ra 1 0),(11,.bool (!a0))] (cq (Kjd _ _ a1) K6k tv) ?_
 rcases is h with ⟨a2,h⟩ | ⟨a2,h⟩
 ·refine cF (!a0) (nF a2) ?_
  refine sk ?_
  refine sN ?_
  refine rss hc none [oN,some (.eqv (.no) ⟨[(13,I (ty1.length : Int))],[],[]⟩),oN] [(2,.ra 1 0),(12,sI ty1),(13,I (ty1.length : Int)),(14,I 0)] (ai (Qdj (d := 13) I ty1) tv) ?_
  refine bk 0 ?_
  obtain ⟨fl,a3,h⟩ := Qdd h
  have hL := Kjh _ _ a3 c hc
  refine lp ?_
  rcases fl with ⟨⟩ | r
  ·refine WpL.into (e := (.exit 0)) (mkS [] []) hL ?_
   refine Qcr ?_
   refine rs0 hc 1 [(4,.bool true)] [] ?_
   refine rt ?_
   obtain rfl := os h
   exact rq [true]
  refine WpL.mono hL ?_
  rintro _ _ ⟨rfl,hfin⟩
  obtain rfl := os h
  exact ⟨.inl rfl,hfin⟩
 refine cT (!a0) (nT a2) ?_
 refine rs0 hc 1 [(4,.bool false)] [] ?_
 refine rt ?_
 obtain rfl := os h
 exact rq [true]
def Kjl (op0 : Int) : Option (K04 × Bool) :=
 (Khn (op0,0,12)) >>= fun a0 =>
 if a0 = true then
 (idx [(K04.mk (ByteArray.mk #[120]) 0 false false),(K04.mk ByteArray.empty 0 false false),(K04.mk (ByteArray.mk #[97,100,100]) 2 false false),(K04.mk (ByteArray.mk #[105,102]) 3 false false),(K04.mk (ByteArray.mk #[112,97,105,114]) 2 false false),(K04.mk (ByteArray.mk #[115,112,108,105,116]) 2 true false),(K04.mk (ByteArray.mk #[108,101,102,116]) 1 false true),(K04.mk (ByteArray.mk #[114,105,103,104,116]) 1 false true),(K04.mk (ByteArray.mk #[99,97,115,101]) 3 true false),(K04.mk (ByteArray.mk #[102,117,110]) 1 true true),(K04.mk (ByteArray.mk #[97,112,112]) 2 false false),(K04.mk (ByteArray.mk #[98,111,120]) 1 true false),(K04.mk (ByteArray.mk #[111,112,101,110]) 2 true false)] op0) >>= fun a1 =>
 some (a1,true)
 else
 some ((K04.mk ByteArray.empty 0 false false),false)
def Kjm (op0 : Int) (r : K04 × Bool) : Prop :=
 Q71 Tryz.prog 143 [I op0] (.tup [.agg [.str r.1.fword,I r.1.fkids,.bool r.1.fgrade,.bool r.1.ftyped],.bool r.2]) []
theorem Kjn : ∀ p r,Kjl p = some r → Kjm p r := by
 rintro op0 r h
 unfold Kjl at h
 refine b0 Tryz.f143 K6n 25 [(0,I op0)] fun c hc => ?_
 refine rs hc none [some (.new 1),oN] [(0,I op0),(2,.ra 1 0)] [(1,.box [.str ByteArray.empty,I 0,.bool false,.bool false])] tv ?_
 refine sN ?_
 obtain ⟨a0,a1,h⟩ := Qdd h
 refine rss hc none [oN,oc (.bool a0),oN] [(0,I op0),(2,.ra 1 0),(6,.bool (!a0))] (cq (Khp _ _ a1) K67 tv) ?_
 rcases is h with ⟨a2,h⟩ | ⟨a2,h⟩
 ·refine cF (!a0) (nF a2) ?_
  refine sk ?_
  obtain ⟨a3,a4,h⟩ := Qdd h
  refine rs hc none [oN,oN,oN,oN,oN,oN,oN,oN,oN,oN,oN,oN,oN,some (.mk 2 true),oN,oN,some (.el (.agg [.str a3.fword,I a3.fkids,.bool a3.fgrade,.bool a3.ftyped])),oN,oN] [(2,.ra 1 0),(3,.bool true)] [(1,.box [.str a3.fword,I a3.fkids,.bool a3.fgrade,.bool a3.ftyped])] (ab (Qdi (enc := K16) a4) (Qdh (enc := K16) (x := .agg [.str a3.fword,I a3.fkids,.bool a3.fgrade,.bool a3.ftyped]) a4 (K23 a3)).2 tv) ?_
  refine rt ?_
  obtain rfl := os h
  exact rq [true,true]
 refine cT (!a0) (nT a2) ?_
 refine K8d hc 3 [(2,.ra 1 0),(3,.bool false)] ?_
 refine rt ?_
 obtain rfl := os h
 exact rq [true,true]
def Kjo (p : (List Int) × K00) : Option (Bool) :=
 match p with
 | (ty0,cap0) =>
  (Kji (cap0,ty0)) >>= fun a0 =>
  some a0
def Kjp (p : (List Int) × K00) (r : Bool) : Prop :=
 match p with
 | (ty0,cap0) => Q71 Tryz.prog 115 [sI ty0,.ptr [I cap0.fSize,sI cap0.fPlus,sI cap0.fTimes,sB cap0.fBelow] 0] (.bool r) []
theorem Kjq : ∀ p r,Kjo p = some r → Kjp p r := by
 rintro ⟨ty0,cap0⟩ r h
 unfold Kjo at h
 refine b0 Tryz.f115 K6p 7 [(0,sI ty0),(1,.ptr [I cap0.fSize,sI cap0.fPlus,sI cap0.fTimes,sB cap0.fBelow] 0)] fun c hc => ?_
 refine rs0 hc 1 [(0,sI ty0),(1,.ptr [I cap0.fSize,sI cap0.fPlus,sI cap0.fTimes,sB cap0.fBelow] 0)] [] ?_
 obtain ⟨a0,a1,h⟩ := Qdd h
 refine rs hc none [oN,oN,oc (.bool a0),oN] [(3,.bool a0)] [] (cq (Kjk _ _ a1) K6m tv) ?_
 refine rt ?_
 obtain rfl := os h
 exact rq [true]
def Kjr (p : Int × Int) : Option (Int) :=
 match p with
 | (op0,kid1) =>
  ((
  if (op0 == 5) = true then
  some ((kid1 == 1))
  else
  some (false)
  ) : Option (Bool)) >>= fun a0 =>
  if a0 = true then
  some 2
  else
  ((
  if (op0 == 8) = true then
  some ((decide (kid1 > 0)))
  else
  some (false)
  ) : Option (Bool)) >>= fun a1 =>
  ((
  if a1 = true then
  some (a1)
  else
  ((
  if (op0 == 9) = true then
  some ((op0 == 9))
  else
  ((
  if (op0 == 12) = true then
  some ((kid1 == 1))
  else
  some (false)
  ) : Option (Bool)) >>= fun a2 =>
  some (a2)
  ) : Option (Bool)) >>= fun a3 =>
  some (a3)
  ) : Option (Bool)) >>= fun a4 =>
  if a4 = true then
  some 1
  else
  some 0
def Kjs (p : Int × Int) (r : Int) : Prop :=
 match p with
 | (op0,kid1) => Q71 Tryz.prog 117 [I op0,I kid1] (I r) []
theorem Kjt : ∀ p r,Kjr p = some r → Kjs p r := by
 rintro ⟨op0,kid1⟩ r h
 unfold Kjr at h
 refine b0 Tryz.f117 K6r 27 [(0,I op0),(1,I kid1)] fun c hc => ?_
 refine rs0 hc 1 [(0,I op0),(1,I kid1)] [] ?_
 refine sN ?_
 refine bk 0 ?_
 refine sN ?_
 obtain ⟨a0,a1,h⟩ := Qdd h
 refine Wp.into (x := .normal) (mkS [(0,I op0),(1,I kid1),(5,.bool a0)] []) ?_ ?_
 ·replace h := a1
  rcases is h with ⟨a2,h⟩ | ⟨a2,h⟩
  ·refine rg hc none [oN,oN,oN,oN,oN,oT,oN] [(0,I op0),(1,I kid1),(5,.bool (kid1 == 1))] [] (ar 3 a2 tv) ?_
   obtain rfl := os h
   exact Qcz.mk
  refine rg hc none [oN,oN,oN,o_,o_,oF,oN] [(0,I op0),(1,I kid1),(5,.bool false)] [] (ar 2 (neT a2) (ai a2 tv)) ?_
  obtain rfl := os h
  exact Qcz.mk
 clear a1
 refine ic h (fun a3 h => ?_) fun a3 h => ?_
 ·refine rs0 hc 1 [(4,I 2)] [] ?_
  refine rt ?_
  obtain rfl := os h
  exact rq [true]
 refine sN ?_
 refine sN ?_
 obtain ⟨a4,a5,h⟩ := Qdd h
 refine Wp.into (x := .normal) (mkS [(0,I op0),(1,I kid1),(12,.bool a4)] []) ?_ ?_
 ·replace h := a5
  rcases is h with ⟨a6,h⟩ | ⟨a6,h⟩
  ·refine rg hc none [oN,oN,oN,oN,oN,oT,oN] [(0,I op0),(1,I kid1),(12,.bool (decide (kid1 > 0)))] [] (ar 3 a6 tv) ?_
   obtain rfl := os h
   exact Qcz.mk
  refine rg hc none [oN,oN,oN,o_,o_,oF,oN] [(0,I op0),(1,I kid1),(12,.bool false)] [] (ar 2 (neT a6) (ai a6 tv)) ?_
  obtain rfl := os h
  exact Qcz.mk
 clear a5
 obtain ⟨a7,a8,h⟩ := Qdd h
 refine Wp.into (x := .normal) (mkS [(12,.bool a7)] []) ?_ ?_
 ·replace h := a8
  refine ic h (fun a9 h => ?_) fun a9 h => ?_
  ·refine sk ?_
   obtain rfl := os h
   exact iv []
  refine rs0 hc 3 [(0,I op0),(1,I kid1),(12,.bool (op0 == 9))] [] ?_
  obtain ⟨b1,b2,h⟩ := Qdd h
  refine Wp.into (x := .normal) (mkS [(12,.bool b1)] []) ?_ ?_
  ·replace h := b2
   refine ic h (fun b3 h => ?_) fun b3 h => ?_
   ·refine sk ?_
    obtain rfl := os h
    exact iv []
   obtain ⟨b4,b5,h⟩ := Qdd h
   refine Wp.into (x := .normal) (mkS [(12,.bool b4)] []) ?_ ?_
   ·replace h := b5
    rcases is h with ⟨b6,h⟩ | ⟨b6,h⟩
    ·refine rg hc none [oN,oN,oN,oN,oN,oT,oN] [(12,.bool (kid1 == 1))] [] (ar 3 b6 tv) ?_
     obtain rfl := os h
     exact Qcz.mk
    refine rg hc none [oN,oN,oN,o_,o_,oF,oN] [(12,.bool false)] [] (ar 2 (neT b6) (ai b6 tv)) ?_
    obtain rfl := os h
    exact Qcz.mk
   clear b5
   obtain rfl := os h
   exact Qcz.mk
  clear b2
  obtain rfl := os h
  exact Qcz.mk
 clear a8
 refine ic h (fun b7 h => ?_) fun b7 h => ?_
 ·refine rs0 hc 1 [(4,I 1)] [] ?_
  refine rt ?_
  obtain rfl := os h
  exact rq [true]
 refine sk ?_
 refine rs0 hc 1 [(4,I 0)] [] ?_
 refine rt ?_
 obtain rfl := os h
 exact rq [true]
def Kju (c : Ctx) : (Int) ⊕ (Int) → Exit → Q0a → Prop
 | .inl a0 => Qcz c (.exit 1) (mkS [(4,I a0)] [])
 | .inr r => Qd8 TIx Tryz.f114 [] (I r)
mutual
def Kjv (p : K01 × Int × K00 × K00 × Int) : Option (Int) :=
 match p with
 | (t0,n1,clo2_0,clo3_0,nodes4) =>
  (Kjl t0.fOp) >>= fun (a0,a1) =>
  ((
  if a1 = true then
  if (decide ((wr (nodes4 + 1)) > 400)) = true then
   some (true)
  else
   some (((t0.fKids.length : Int) != a0.fkids))
  else
  some (true)
  ) : Option (Bool)) >>= fun a2 =>
  if a2 = true then
  some 401
  else
  ((
  if (t0.fOp == 0) = true then
   (Khn (t0.fN,0,(wr (n1 - 1)))) >>= fun a3 =>
   some (a3)
  else
   ((
   if (t0.fOp == 1) = true then
   (Khn (t0.fN,0,2)) >>= fun a4 =>
   some (a4)
   else
   ((
   if a0.fgrade = true then
   (Khq (clo2_0,t0.fN)) >>= fun a5 =>
   some (a5)
   else
   some ((t0.fN == 0))
   ) : Option (Bool)) >>= fun a6 =>
   some (a6)
   ) : Option (Bool)) >>= fun a7 =>
   some (a7)
  ) : Option (Bool)) >>= fun a8 =>
  ((
  if a0.ftyped = true then
   ((
   if a8 = true then
   (Kjo (t0.fType,clo3_0)) >>= fun a9 =>
   some (a9)
   else
   some (false)
   ) : Option (Bool)) >>= fun b1 =>
   some (b1)
  else
   ((
   if a8 = true then
   some (((t0.fType.length : Int) == 0))
   else
   some (false)
   ) : Option (Bool)) >>= fun b2 =>
   some (b2)
  ) : Option (Bool)) >>= fun b3 =>
  if b3 = true then
  (Kjw (t0,n1,clo2_0,clo3_0,(wr (nodes4 + 1)),0)) >>= fun fl => match fl with
  | .inl b4 =>
   some b4
  | .inr r =>
   some r
  else
  some 401
 partial_fixpoint
def Kjw (p : K01 × Int × K00 × K00 × Int × Int) : Option ((Int) ⊕ (Int)) :=
 match p with
 | (t0,n1,clo2_0,clo3_0,a0,a1) =>
  if (decide (a1 < (t0.fKids.length : Int))) = true then
  (idx t0.fKids a1) >>= fun a2 =>
  (Kjr (t0.fOp,a1)) >>= fun a3 =>
  (Kjv (a2,(wr (n1 + a3)),clo2_0,clo3_0,a0)) >>= fun a4 =>
  if (decide (a4 > 400)) = true then
  some (.inr 401)
  else
  Kjw (t0,n1,clo2_0,clo3_0,a4,(wr (a1 + 1)))
  else
  some (.inl a0)
 partial_fixpoint
end
def Kjx (p : K01 × Int × K00 × K00 × Int) (r : Int) : Prop :=
 match p with
 | (t0,n1,clo2_0,clo3_0,nodes4) => Q71 Tryz.prog 114 [K2g t0,I n1,.fnb 66 [K2e clo2_0],.fn 115 [.ptr [I clo3_0.fSize,sI clo3_0.fPlus,sI clo3_0.fTimes,sB clo3_0.fBelow] 0],I nodes4] (I r) []
def Kjy (p : K01 × Int × K00 × K00 × Int × Int) (fl : (Int) ⊕ (Int)) : Prop :=
 match p with
 | (t0,n1,clo2_0,clo3_0,a0,a1) => ∀ c : Ctx,c.nt = 104 → WpL Tryz.prog c (cl (cl (cr (cl (cr (cr (cr (cr (cr (cr (cr K6t))))))))))) (Kju c fl) (mkS [(1,I n1),(2,.fnb 66 [K2e clo2_0]),(3,.fn 115 [.ptr [I clo3_0.fSize,sI clo3_0.fPlus,sI clo3_0.fTimes,sB clo3_0.fBelow] 0]),(4,I a0),(5,.ra 1 0),(82,.sl (List.map K0s t0.fKids)),(83,I (t0.fKids.length : Int)),(84,I a1)] [(1,K2f t0)])
theorem Kjz : (∀ p r,Kjv p = some r → Kjx p r) ∧ (∀ p r,Kjw p = some r → Kjy p r) := by
 refine Kjv.mutual_partial_correctness Kjx Kjy ?_ ?_
 ·rintro impl_check_Kimpl_Systemhas_Kimpl_isJudgment_c1_l0_f impl_check_Kimpl_Systemhas_Kimpl_isJudgment_c1_l0_ih ⟨t0,n1,clo2_0,clo3_0,nodes4⟩ r h
  refine b0 Tryz.f114 K6t 104 [(0,K2g t0),(1,I n1),(2,.fnb 66 [K2e clo2_0]),(3,.fn 115 [.ptr [I clo3_0.fSize,sI clo3_0.fPlus,sI clo3_0.fTimes,sB clo3_0.fBelow] 0]),(4,I nodes4)] fun c hc => ?_
  refine rs hc none [some (.new 1),oN] [(1,I n1),(2,.fnb 66 [K2e clo2_0]),(3,.fn 115 [.ptr [I clo3_0.fSize,sI clo3_0.fPlus,sI clo3_0.fTimes,sB clo3_0.fBelow] 0]),(4,I nodes4),(5,.ra 1 0)] [(1,K2f t0)] tv ?_
  refine K8d hc 3 [(1,I n1),(2,.fnb 66 [K2e clo2_0]),(3,.fn 115 [.ptr [I clo3_0.fSize,sI clo3_0.fPlus,sI clo3_0.fTimes,sB clo3_0.fBelow] 0]),(4,I (wr (nodes4 + 1))),(5,.ra 1 0)] ?_
  obtain ⟨⟨a0,a1⟩,a2,h⟩ := Qdd h
  refine rs hc none [oN,oN,oc (.tup [.agg [.str a0.fword,I a0.fkids,.bool a0.fgrade,.bool a0.ftyped],.bool a1]),oN,oN,oN,some (.new 2),oN,oN] [(1,I n1),(2,.fnb 66 [K2e clo2_0]),(3,.fn 115 [.ptr [I clo3_0.fSize,sI clo3_0.fPlus,sI clo3_0.fTimes,sB clo3_0.fBelow] 0]),(4,I (wr (nodes4 + 1))),(5,.ra 1 0),(11,.ra 2 0),(12,.bool a1)] [(1,K2f t0),(2,.box [.str a0.fword,I a0.fkids,.bool a0.fgrade,.bool a0.ftyped])] (cq (Kjn _ _ a2) K6o tv) ?_
  refine sN ?_
  refine sN ?_
  obtain ⟨a3,a4,h⟩ := Qdd h
  refine Wp.into (x := .normal) (mkS [(1,I n1),(2,.fnb 66 [K2e clo2_0]),(3,.fn 115 [.ptr [I clo3_0.fSize,sI clo3_0.fPlus,sI clo3_0.fTimes,sB clo3_0.fBelow] 0]),(4,I (wr (nodes4 + 1))),(5,.ra 1 0),(11,.ra 2 0),(36,.bool a3)] [(1,K2f t0),(2,.box [.str a0.fword,I a0.fkids,.bool a0.fgrade,.bool a0.ftyped])]) ?_ ?_
  ·replace h := a4
   rcases is h with ⟨a5,h⟩ | ⟨a5,h⟩
   ·rcases is h with ⟨a6,h⟩ | ⟨a6,h⟩
    ·refine rgs hc none [oN,oN,oN,oN,oN,oF,oN,o_,o_,o_,o_,o_,o_,oT] [(1,I n1),(2,.fnb 66 [K2e clo2_0]),(3,.fn 115 [.ptr [I clo3_0.fSize,sI clo3_0.fPlus,sI clo3_0.fTimes,sB clo3_0.fBelow] 0]),(4,I (wr (nodes4 + 1))),(5,.ra 1 0),(11,.ra 2 0),(36,.bool true)] (ar 3 (nF a5) (ar 6 (neF a6) (ai a6 tv))) ?_
     obtain rfl := os h
     exact Qcz.mk
    refine rgs hc none [oN,oN,oN,oN,oN,oF,oN,oN,oN,some (.eqv (.no) ⟨[(32,I (t0.fKids.length : Int))],[],[]⟩),oN,oN,oN,oF] [(1,I n1),(2,.fnb 66 [K2e clo2_0]),(3,.fn 115 [.ptr [I clo3_0.fSize,sI clo3_0.fPlus,sI clo3_0.fTimes,sB clo3_0.fBelow] 0]),(4,I (wr (nodes4 + 1))),(5,.ra 1 0),(11,.ra 2 0),(36,.bool ((t0.fKids.length : Int) != a0.fkids))] (ar 3 (nF a5) (ar 3 a6 (ai (Qdj (d := 32) K0s t0.fKids) (ar 4 a6 tv)))) ?_
    obtain rfl := os h
    exact Qcz.mk
   refine rgs hc none [oN,oN,oN,o_,o_,oT,oN,o_,o_,o_,o_,o_,o_,oT] [(1,I n1),(2,.fnb 66 [K2e clo2_0]),(3,.fn 115 [.ptr [I clo3_0.fSize,sI clo3_0.fPlus,sI clo3_0.fTimes,sB clo3_0.fBelow] 0]),(4,I (wr (nodes4 + 1))),(5,.ra 1 0),(11,.ra 2 0),(36,.bool true)] (ar 2 (neF (nT a5)) (ai (nT a5) (ar 6 nf (ai tt tv)))) ?_
   obtain rfl := os h
   exact Qcz.mk
  clear a4
  refine ic h (fun a7 h => ?_) fun a7 h => ?_
  ·refine rs0 hc 1 [(10,I 401)] [] ?_
   refine rt ?_
   obtain rfl := os h
   exact rq [true]
  refine sk ?_
  refine sN ?_
  refine bk 0 ?_
  refine K8d hc 4 [(1,I n1),(2,.fnb 66 [K2e clo2_0]),(3,.fn 115 [.ptr [I clo3_0.fSize,sI clo3_0.fPlus,sI clo3_0.fTimes,sB clo3_0.fBelow] 0]),(4,I (wr (nodes4 + 1))),(5,.ra 1 0),(11,.ra 2 0),(40,.bool (t0.fOp == 0))] ?_
  obtain ⟨a8,a9,h⟩ := Qdd h
  refine Wp.into (x := .normal) (mkS [(1,I n1),(2,.fnb 66 [K2e clo2_0]),(3,.fn 115 [.ptr [I clo3_0.fSize,sI clo3_0.fPlus,sI clo3_0.fTimes,sB clo3_0.fBelow] 0]),(4,I (wr (nodes4 + 1))),(5,.ra 1 0),(11,.ra 2 0),(12,.bool a8)] [(1,K2f t0),(2,.box [.str a0.fword,I a0.fkids,.bool a0.fgrade,.bool a0.ftyped])]) ?_ ?_
  ·replace h := a9
   refine ic h (fun b1 h => ?_) fun b1 h => ?_
   ·obtain ⟨b2,b3,h⟩ := Qdd h
    refine rgs hc none [oN,oN,oN,oN,oc (.bool b2),oN] [(1,I n1),(2,.fnb 66 [K2e clo2_0]),(3,.fn 115 [.ptr [I clo3_0.fSize,sI clo3_0.fPlus,sI clo3_0.fTimes,sB clo3_0.fBelow] 0]),(4,I (wr (nodes4 + 1))),(5,.ra 1 0),(11,.ra 2 0),(12,.bool b2)] (cq (Khp _ _ b3) K67 tv) ?_
    obtain rfl := os h
    exact Qcz.mk
   refine K8d hc 4 [(1,I n1),(2,.fnb 66 [K2e clo2_0]),(3,.fn 115 [.ptr [I clo3_0.fSize,sI clo3_0.fPlus,sI clo3_0.fTimes,sB clo3_0.fBelow] 0]),(4,I (wr (nodes4 + 1))),(5,.ra 1 0),(11,.ra 2 0),(49,.bool (t0.fOp == 1))] ?_
   obtain ⟨b4,b5,h⟩ := Qdd h
   refine Wp.into (x := .normal) (mkS [(1,I n1),(2,.fnb 66 [K2e clo2_0]),(3,.fn 115 [.ptr [I clo3_0.fSize,sI clo3_0.fPlus,sI clo3_0.fTimes,sB clo3_0.fBelow] 0]),(4,I (wr (nodes4 + 1))),(5,.ra 1 0),(11,.ra 2 0),(12,.bool b4)] [(1,K2f t0),(2,.box [.str a0.fword,I a0.fkids,.bool a0.fgrade,.bool a0.ftyped])]) ?_ ?_
   ·replace h := b5
    refine ic h (fun b6 h => ?_) fun b6 h => ?_
    ·obtain ⟨b7,b8,h⟩ := Qdd h
     refine rgs hc none [oN,oN,oc (.bool b7),oN] [(1,I n1),(2,.fnb 66 [K2e clo2_0]),(3,.fn 115 [.ptr [I clo3_0.fSize,sI clo3_0.fPlus,sI clo3_0.fTimes,sB clo3_0.fBelow] 0]),(4,I (wr (nodes4 + 1))),(5,.ra 1 0),(11,.ra 2 0),(12,.bool b7)] (cq (Khp _ _ b8) K67 tv) ?_
     obtain rfl := os h
     exact Qcz.mk
    refine K8d hc 3 [(1,I n1),(2,.fnb 66 [K2e clo2_0]),(3,.fn 115 [.ptr [I clo3_0.fSize,sI clo3_0.fPlus,sI clo3_0.fTimes,sB clo3_0.fBelow] 0]),(4,I (wr (nodes4 + 1))),(5,.ra 1 0),(11,.ra 2 0),(56,.bool a0.fgrade)] ?_
    obtain ⟨b9,c0,h⟩ := Qdd h
    refine Wp.into (x := .normal) (mkS [(1,I n1),(2,.fnb 66 [K2e clo2_0]),(3,.fn 115 [.ptr [I clo3_0.fSize,sI clo3_0.fPlus,sI clo3_0.fTimes,sB clo3_0.fBelow] 0]),(4,I (wr (nodes4 + 1))),(5,.ra 1 0),(11,.ra 2 0),(12,.bool b9)] [(1,K2f t0),(2,.box [.str a0.fword,I a0.fkids,.bool a0.fgrade,.bool a0.ftyped])]) ?_ ?_
    ·replace h := c0
     refine ic h (fun c1 h => ?_) fun c1 h => ?_
     ·obtain ⟨c2,c3,h⟩ := Qdd h
      refine rgs hc none [oN,oN,oN,oc (.bool c2),oN] [(1,I n1),(2,.fnb 66 [K2e clo2_0]),(3,.fn 115 [.ptr [I clo3_0.fSize,sI clo3_0.fPlus,sI clo3_0.fTimes,sB clo3_0.fBelow] 0]),(4,I (wr (nodes4 + 1))),(5,.ra 1 0),(11,.ra 2 0),(12,.bool c2)] (cq (Khs _ _ c3) K68 tv) ?_
      obtain rfl := os h
      exact Qcz.mk
     refine K8c hc 4 [(1,I n1),(2,.fnb 66 [K2e clo2_0]),(3,.fn 115 [.ptr [I clo3_0.fSize,sI clo3_0.fPlus,sI clo3_0.fTimes,sB clo3_0.fBelow] 0]),(4,I (wr (nodes4 + 1))),(5,.ra 1 0),(11,.ra 2 0),(12,.bool (t0.fN == 0))] ?_
     obtain rfl := os h
     exact Qcz.mk
    clear c0
    obtain rfl := os h
    exact Qcz.mk
   clear b5
   obtain rfl := os h
   exact Qcz.mk
  clear a9
  refine sN ?_
  refine rs0 hc 2 [(1,I n1),(2,.fnb 66 [K2e clo2_0]),(3,.fn 115 [.ptr [I clo3_0.fSize,sI clo3_0.fPlus,sI clo3_0.fTimes,sB clo3_0.fBelow] 0]),(4,I (wr (nodes4 + 1))),(5,.ra 1 0),(12,.bool a8),(64,.bool a0.ftyped)] [(1,K2f t0)] ?_
  obtain ⟨c4,c5,h⟩ := Qdd h
  refine Wp.into (x := .normal) (mkS [(1,I n1),(2,.fnb 66 [K2e clo2_0]),(3,.fn 115 [.ptr [I clo3_0.fSize,sI clo3_0.fPlus,sI clo3_0.fTimes,sB clo3_0.fBelow] 0]),(4,I (wr (nodes4 + 1))),(5,.ra 1 0),(12,.bool c4)] [(1,K2f t0)]) ?_ ?_
  ·replace h := c5
   refine ic h (fun c6 h => ?_) fun c6 h => ?_
   ·obtain ⟨c7,c8,h⟩ := Qdd h
    refine Wp.into (x := .normal) (mkS [(1,I n1),(2,.fnb 66 [K2e clo2_0]),(3,.fn 115 [.ptr [I clo3_0.fSize,sI clo3_0.fPlus,sI clo3_0.fTimes,sB clo3_0.fBelow] 0]),(4,I (wr (nodes4 + 1))),(5,.ra 1 0),(12,.bool c7)] [(1,K2f t0)]) ?_ ?_
    ·replace h := c8
     rcases is h with ⟨c9,h⟩ | ⟨c9,h⟩
     ·obtain ⟨d0,d1,h⟩ := Qdd h
      refine rgs hc none [oN,oN,oN,oN,oN,oc (.bool d0),oT,oN] [(1,I n1),(2,.fnb 66 [K2e clo2_0]),(3,.fn 115 [.ptr [I clo3_0.fSize,sI clo3_0.fPlus,sI clo3_0.fTimes,sB clo3_0.fBelow] 0]),(4,I (wr (nodes4 + 1))),(5,.ra 1 0),(12,.bool d0)] (ar 4 c9 (cq (Kjq _ _ d1) K6q (ai c9 tv))) ?_
      obtain rfl := os h
      exact Qcz.mk
     refine rgs hc none [oN,oN,o_,o_,o_,o_,oF,oN] [(1,I n1),(2,.fnb 66 [K2e clo2_0]),(3,.fn 115 [.ptr [I clo3_0.fSize,sI clo3_0.fPlus,sI clo3_0.fTimes,sB clo3_0.fBelow] 0]),(4,I (wr (nodes4 + 1))),(5,.ra 1 0),(12,.bool false)] (ar 4 (neT c9) (ai c9 tv)) ?_
     obtain rfl := os h
     exact Qcz.mk
    clear c8
    obtain rfl := os h
    exact Qcz.mk
   obtain ⟨d2,d3,h⟩ := Qdd h
   refine Wp.into (x := .normal) (mkS [(1,I n1),(2,.fnb 66 [K2e clo2_0]),(3,.fn 115 [.ptr [I clo3_0.fSize,sI clo3_0.fPlus,sI clo3_0.fTimes,sB clo3_0.fBelow] 0]),(4,I (wr (nodes4 + 1))),(5,.ra 1 0),(12,.bool d2)] [(1,K2f t0)]) ?_ ?_
   ·replace h := d3
    rcases is h with ⟨d4,h⟩ | ⟨d4,h⟩
    ·refine rgs hc none [oN,oN,oN,oN,some (.eqv (.no) ⟨[(76,I (t0.fType.length : Int))],[],[]⟩),oN,oT,oN] [(1,I n1),(2,.fnb 66 [K2e clo2_0]),(3,.fn 115 [.ptr [I clo3_0.fSize,sI clo3_0.fPlus,sI clo3_0.fTimes,sB clo3_0.fBelow] 0]),(4,I (wr (nodes4 + 1))),(5,.ra 1 0),(12,.bool ((t0.fType.length : Int) == 0))] (ar 3 d4 (ai (Qdj (d := 76) I t0.fType) (ar 2 d4 tv))) ?_
     obtain rfl := os h
     exact Qcz.mk
    refine rgs hc none [oN,oN,o_,o_,o_,o_,oF,oN] [(1,I n1),(2,.fnb 66 [K2e clo2_0]),(3,.fn 115 [.ptr [I clo3_0.fSize,sI clo3_0.fPlus,sI clo3_0.fTimes,sB clo3_0.fBelow] 0]),(4,I (wr (nodes4 + 1))),(5,.ra 1 0),(12,.bool false)] (ar 4 (neT d4) (ai d4 tv)) ?_
    obtain rfl := os h
    exact Qcz.mk
   clear d3
   obtain rfl := os h
   exact Qcz.mk
  clear c5
  refine sN ?_
  refine K8d hc 2 [(1,I n1),(2,.fnb 66 [K2e clo2_0]),(3,.fn 115 [.ptr [I clo3_0.fSize,sI clo3_0.fPlus,sI clo3_0.fTimes,sB clo3_0.fBelow] 0]),(4,I (wr (nodes4 + 1))),(5,.ra 1 0),(80,.bool (!c4))] ?_
  rcases is h with ⟨d5,h⟩ | ⟨d5,h⟩
  ·refine cF (!c4) (nF d5) ?_
   refine sk ?_
   refine sN ?_
   refine rss hc none [oN,oN,some (.eqv (.no) ⟨[(83,I (t0.fKids.length : Int))],[],[]⟩),oN] [(1,I n1),(2,.fnb 66 [K2e clo2_0]),(3,.fn 115 [.ptr [I clo3_0.fSize,sI clo3_0.fPlus,sI clo3_0.fTimes,sB clo3_0.fBelow] 0]),(4,I (wr (nodes4 + 1))),(5,.ra 1 0),(82,.sl (List.map K0s t0.fKids)),(83,I (t0.fKids.length : Int)),(84,I 0)] (ai (Qdj (d := 83) K0s t0.fKids) tv) ?_
   refine bk 1 ?_
   obtain ⟨fl,d6,h⟩ := Qdd h
   have hL := impl_check_Kimpl_Systemhas_Kimpl_isJudgment_c1_l0_ih _ _ d6 c hc
   refine lp ?_
   rcases fl with d7 | r
   ·refine WpL.into (e := (.exit 1)) (mkS [(4,I d7)] []) hL ?_
    refine Qcr ?_
    refine rs0 hc 2 [(10,I d7)] [] ?_
    refine rt ?_
    obtain rfl := os h
    exact rq [true]
   refine WpL.mono hL ?_
   rintro _ _ ⟨rfl,hfin⟩
   obtain rfl := os h
   exact ⟨.inl rfl,hfin⟩
  refine cT (!c4) (nT d5) ?_
  refine rs0 hc 1 [(10,I 401)] [] ?_
  refine rt ?_
  obtain rfl := os h
  exact rq [true]
 ·rintro impl_check_Kimpl_Systemhas_Kimpl_isJudgment_c1_f impl_check_Kimpl_Systemhas_Kimpl_isJudgment_c1_l0_f impl_check_Kimpl_Systemhas_Kimpl_isJudgment_c1_ih impl_check_Kimpl_Systemhas_Kimpl_isJudgment_c1_l0_ih ⟨t0,n1,clo2_0,clo3_0,d8,d9⟩ r h
  intro c hc
  refine WpL.step ?_
  refine K8d hc 1 [(1,I n1),(2,.fnb 66 [K2e clo2_0]),(3,.fn 115 [.ptr [I clo3_0.fSize,sI clo3_0.fPlus,sI clo3_0.fTimes,sB clo3_0.fBelow] 0]),(4,I d8),(5,.ra 1 0),(82,.sl (List.map K0s t0.fKids)),(83,I (t0.fKids.length : Int)),(84,I d9),(85,.bool (decide (d9 < (t0.fKids.length : Int))))] ?_
  refine sN ?_
  refine ic h (fun e0 h => ?_) fun e0 h => ?_
  ·refine sk ?_
   refine sN ?_
   refine bk 2 ?_
   obtain ⟨e1,e2,h⟩ := Qdd h
   refine rs hc none [oN,some (.el (K2g e1)),oN,some (.new 4),oN,oN] [(1,I n1),(2,.fnb 66 [K2e clo2_0]),(3,.fn 115 [.ptr [I clo3_0.fSize,sI clo3_0.fPlus,sI clo3_0.fTimes,sB clo3_0.fBelow] 0]),(4,I d8),(5,.ra 1 0),(13,I d9),(14,.ra 4 0),(82,.sl (List.map K0s t0.fKids)),(83,I (t0.fKids.length : Int)),(84,I d9)] [(1,K2f t0),(4,K2f e1)] (ai (Qdh e2 (K0z e1)) tv) ?_
   obtain ⟨e3,e4,e5,e6,h⟩ := bq2 h
   refine rs hc (rx [[0],[0],[0],[0,2],[0],[0,2,3,4],[0,1,2,3,4,5],[0],[0],[0],[10],[11]]) [oN,oN,oN,oN,oN,oc (I e3),oN,oN,oN,oN,oc (I e5),oN] [(1,I n1),(2,.fnb 66 [K2e clo2_0]),(3,.fn 115 [.ptr [I clo3_0.fSize,sI clo3_0.fPlus,sI clo3_0.fTimes,sB clo3_0.fBelow] 0]),(4,I e5),(5,.ra 1 0),(82,.sl (List.map K0s t0.fKids)),(83,I (t0.fKids.length : Int)),(84,I d9)] [(1,K2f t0)] (cq (Kjt _ _ e4) K6s (cq (impl_check_Kimpl_Systemhas_Kimpl_isJudgment_c1_ih _ _ e6) K6u tv)) ?_
   refine K8d hc 2 [(1,I n1),(2,.fnb 66 [K2e clo2_0]),(3,.fn 115 [.ptr [I clo3_0.fSize,sI clo3_0.fPlus,sI clo3_0.fTimes,sB clo3_0.fBelow] 0]),(4,I e5),(5,.ra 1 0),(82,.sl (List.map K0s t0.fKids)),(83,I (t0.fKids.length : Int)),(84,I d9),(101,.bool (decide (e5 > 400)))] ?_
   refine ic h (fun e7 h => ?_) fun e7 h => ?_
   ·refine rs0 hc 1 [(10,I 401)] [] ?_
    refine rt ?_
    obtain rfl := os h
    exact re [true]
   refine sk ?_
   refine K8c hc 2 [(1,I n1),(2,.fnb 66 [K2e clo2_0]),(3,.fn 115 [.ptr [I clo3_0.fSize,sI clo3_0.fPlus,sI clo3_0.fTimes,sB clo3_0.fBelow] 0]),(4,I e5),(5,.ra 1 0),(82,.sl (List.map K0s t0.fKids)),(83,I (t0.fKids.length : Int)),(84,I (wr (d9 + 1)))] ?_
   refine Qcv ?_
   exact (impl_check_Kimpl_Systemhas_Kimpl_isJudgment_c1_l0_ih _ _ h c hc)
  refine xt 1 ?_
  refine Qcp ?_
  refine Qcw ?_
  obtain rfl := os h
  exact iv []
theorem Kk0 : ∀ p r,Kjv p = some r → Kjx p r := Kjz.1
theorem Kk1 : ∀ p r,Kjw p = some r → Kjy p r := Kjz.2
def Kk2 (c : Ctx) (s0 : K00) (j1 : K02) : (Unit) ⊕ (Bool) → Exit → Q0a → Prop
 | .inl _ => Qcz c (.exit 0) (mkS [(2,.ra 1 0),(3,.ra 2 0)] [(1,K2d s0),(2,K2h j1)])
 | .inr r => Qd8 TIx Tryz.f72 [] (.bool r)
end Go.Am
