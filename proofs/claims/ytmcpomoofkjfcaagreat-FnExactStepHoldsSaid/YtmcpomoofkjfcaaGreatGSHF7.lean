/- Functions of the program as pure functions,and that it computes them. Printed by a program of mine (gen.py). -/
import Derived.Test.YtmcpomoofkjfcaaGreatGSHF5
set_option linter.unusedVariables false
set_option linter.unusedSimpArgs false
set_option maxRecDepth 100000
namespace Go.Am
open Go Go.Proofs
def Khv : Option (List (List Nat)) := rx [[0],[0],[2],[3],[0],[0,4],[0,4,5],[7],[8],[9],[10],[10],[10],[10,11,12],[10,11,12,13],[10],[10],[10,15,16],[10,15,16,17],[19],[20],[21]]
def Khw : Option (List (List Nat)) := rx [[0],[0],[2],[3],[4],[5],[6],[5],[5,7],[5,7,8],[5],[5,7,8,9,10],[5,7,8,9,10,11],[13],[14],[15]]
def Khx : Option (List (List Nat)) := rx [[0],[1],[2],[3],[4],[3],[3,5],[3],[3,5,6,7],[9],[10],[11]]
def Khy : Option (List (List Nat)) := rx [[0],[0],[0,1],[0,1,2],[4],[5],[6],[7],[7],[7],[7,8,9],[7,8,9,10],[12],[13],[14],[15],[16],[16],[18],[19],[20],[21],[16],[16],[16,22,23],[16,22,23,24],[16,22,23,24,25],[16,22,23,24,25,26],[16,22,23,24,25,26,27],[29],[30]]
def Khz (p : K00 × (List Int) × (List Int) × Int) : Option ((Unit) ⊕ (Bool)) :=
 match p with
 | (s0,needs1,budgets2,a0) =>
  if (decide (a0 < (needs1.length : Int))) = true then
  ((
  (idx budgets2 a0) >>= fun a1 =>
  (Kbm (a1,0,(wr (s0.fSize - 1)))) >>= fun a2 =>
  if a2 = true then
  (idx needs1 a0) >>= fun a3 =>
  (idx budgets2 a0) >>= fun a4 =>
  (Kc2 (s0,a3,a4)) >>= fun a5 =>
  some ((!a5))
  else
  some (true)
  ) : Option (Bool)) >>= fun a6 =>
  if a6 = true then
  some (.inr false)
  else
  Khz (s0,needs1,budgets2,(wr (a0 + 1)))
  else
  some (.inl ())
 partial_fixpoint
def Ki0 (p : K00 × (List Int) × (List Int) × Int) (fl : (Unit) ⊕ (Bool)) : Prop :=
 match p with
 | (s0,needs1,budgets2,a0) => ∀ c : Ctx,c.nt = 41 → WpL Tryz.prog c (cl (cl (cr (cl (cr (cr B83)))))) (Khu c fl) (mkS [(1,sI needs1),(2,sI budgets2),(3,.ra 1 0),(7,I a0)] [(1,K2d s0)])
theorem Ki1 : ∀ p r,Khz p = some r → Ki0 p r := by
 refine Khz.partial_correctness Ki0 ?_
 rintro spec_l3Below_l0_f spec_l3Below_l0_ih ⟨s0,needs1,budgets2,a0⟩ r h
 intro c hc
 refine WpL.step ?_
 refine sN ?_
 refine rss hc none [oN,oN,some (.eqv (.no) ⟨[(15,I (needs1.length : Int))],[],[]⟩),oN] [(1,sI needs1),(2,sI budgets2),(3,.ra 1 0),(7,I a0),(16,.bool (decide (a0 < (needs1.length : Int))))] (ai (Qcz (d := 15) I needs1) tv) ?_
 refine ic h (fun a1 h => ?_) fun a1 h => ?_
 ·refine sk ?_
  refine sN ?_
  refine bk 1 ?_
  refine sN ?_
  obtain ⟨a2,a3,h⟩ := Qct h
  refine Wp.into (x := .normal) (mkS [(1,sI needs1),(2,sI budgets2),(3,.ra 1 0),(7,I a0),(40,.bool a2)] [(1,K2d s0)]) ?_ ?_
  ·replace h := a3
   obtain ⟨a4,a5,a6,a7,h⟩ := bq2 h
   rcases is h with ⟨a8,h⟩ | ⟨a8,h⟩
   ·obtain ⟨a9,b1,b2,b3,b4,b5,h⟩ := bq3 h
    refine rgs hc Khv [oN,oN,some (.el (I a4)),oN,oN,oN,oN,oc (.bool a6),oN,oN,oN,oN,oN,some (.el (I a9)),oN,oN,oN,some (.el (I b2)),oN,oc (.bool b4),oN,oF] [(1,sI needs1),(2,sI budgets2),(3,.ra 1 0),(7,I a0),(40,.bool (!b4))] (ai (ix a5) (cq (Kbo _ _ a7) K49 (ar 4 (nF a8) (ai (ix b1) (ar 4 (nF a8) (ai (ix b3) (ar 2 (nF a8) (cq (Kc4 _ _ b5) K4h (ar 2 (nF a8) tv))))))))) ?_
    obtain rfl := os h
    exact Qcf.mk
   refine rgs hc Khv [oN,oN,some (.el (I a4)),oN,oN,oN,oN,oc (.bool a6),oN,oN,o_,o_,o_,o_,o_,o_,o_,o_,o_,o_,o_,oT] [(1,sI needs1),(2,sI budgets2),(3,.ra 1 0),(7,I a0),(40,.bool true)] (ai (ix a5) (cq (Kbo _ _ a7) K49 (ar 11 (neF (nT a8)) (ai (nT a8) tv)))) ?_
   obtain rfl := os h
   exact Qcf.mk
  clear a3
  refine ic h (fun b6 h => ?_) fun b6 h => ?_
  ·refine rs0 hc 1 [(6,.bool false)] [] ?_
   refine rt ?_
   obtain rfl := os h
   exact re [true]
  refine sk ?_
  refine K98 hc 3 [(1,sI needs1),(2,sI budgets2),(3,.ra 1 0),(7,I (wr (a0 + 1)))] ?_
  refine Qcb ?_
  exact (spec_l3Below_l0_ih _ _ h c hc)
 refine xt 0 ?_
 refine Qc5 ?_
 refine Qcc ?_
 obtain rfl := os h
 exact iv []
def Ki2 (p : K00 × (List Int) × (List Int)) : Option (Bool) :=
 match p with
 | (s0,needs1,budgets2) =>
  if ((needs1.length : Int) != (budgets2.length : Int)) = true then
  some false
  else
  (Khz (s0,needs1,budgets2,0)) >>= fun fl => match fl with
  | .inl () =>
   some true
  | .inr r =>
   some r
def Ki3 (p : K00 × (List Int) × (List Int)) (r : Bool) : Prop :=
 match p with
 | (s0,needs1,budgets2) => Q71 Tryz.prog 83 [K2e s0,sI needs1,sI budgets2] (.bool r) []
theorem Ki4 : ∀ p r,Ki2 p = some r → Ki3 p r := by
 rintro ⟨s0,needs1,budgets2⟩ r h
 unfold Ki2 at h
 refine b0 Tryz.f83 B83 41 [(0,K2e s0),(1,sI needs1),(2,sI budgets2)] fun c hc => ?_
 refine rs hc none [some (.new 1),oN] [(1,sI needs1),(2,sI budgets2),(3,.ra 1 0)] [(1,K2d s0)] tv ?_
 refine sN ?_
 refine rss hc none [oN,some (.eqv (.no) ⟨[(9,I (needs1.length : Int))],[],[]⟩),oN,some (.eqv (.no) ⟨[(11,I (budgets2.length : Int))],[],[]⟩),oN] [(1,sI needs1),(2,sI budgets2),(3,.ra 1 0),(12,.bool ((needs1.length : Int) != (budgets2.length : Int)))] (ab (Qcz (d := 9) I needs1) (Qcz (d := 11) I budgets2) tv) ?_
 refine ic h (fun a0 h => ?_) fun a0 h => ?_
 ·refine rs0 hc 1 [(6,.bool false)] [] ?_
  refine rt ?_
  obtain rfl := os h
  exact rq [true]
 refine sk ?_
 refine sN ?_
 refine K99 hc 1 [(1,sI needs1),(2,sI budgets2),(3,.ra 1 0),(7,I 0)] ?_
 refine bk 0 ?_
 obtain ⟨fl,a1,h⟩ := Qct h
 have hL := Ki1 _ _ a1 c hc
 refine lp ?_
 rcases fl with ⟨⟩ | r
 ·refine WpL.into (e := (.exit 0)) (mkS [] []) hL ?_
  refine Qc7 ?_
  refine rs0 hc 1 [(6,.bool true)] [] ?_
  refine rt ?_
  obtain rfl := os h
  exact rq [true]
 refine WpL.mono hL ?_
 rintro _ _ ⟨rfl,hfin⟩
 obtain rfl := os h
 exact ⟨.inl rfl,hfin⟩
def Ki5 (c : Ctx) (s0 : K00) (a0 : K02) : ((List K03)) ⊕ (Bool) → Exit → Q0a → Prop
 | .inl a1 => Qcf c (.exit 0) (mkS [(3,.ra 1 0),(7,.ra 2 0),(8,.rs 3)] [(1,K2d s0),(2,K2h a0),(3,.arr (List.map K14 a1))])
 | .inr r => Qco TIx Tryz.f46 [] (.bool r)
def Ki6 (p : K00 × (List K02) × Int × K02 × (List K03) × Int) : Option (((List K03)) ⊕ (Bool)) :=
 match p with
 | (s0,l1,i2,a0,a1,a2) =>
  if (decide (a2 < (a0.fFrom.length : Int))) = true then
  (idx a0.fFrom a2) >>= fun a3 =>
  (Kbm (a3,0,(wr (i2 - 1)))) >>= fun a4 =>
  if a4 = true then
  (idx a0.fFrom a2) >>= fun a5 =>
  (idx l1 a5) >>= fun a6 =>
  ((
  (Kf7 (s0,a6)) >>= fun a7 =>
  if a7 = true then
  (idx a0.fTerm.fKids a2) >>= fun a8 =>
  (Kfi (a6.fTerm,a8)) >>= fun a9 =>
  some ((!a9))
  else
  some (true)
  ) : Option (Bool)) >>= fun b1 =>
  if b1 = true then
  some (.inr false)
  else
  (Qd6 (a1.length + [(K03.mk a6.fType a6.fBudgets 0 [])].length) 80) >>= fun _ =>
  (idx (a1 ++ [(K03.mk a6.fType a6.fBudgets 0 [])]) 0) >>= fun b2 =>
  (Kfv (a0.fTerm,b2.fty,a2)) >>= fun (b3,b4) =>
  ((
  if b4 = true then
  (Kfy (a0.fCtx,b3)) >>= fun b5 =>
  (Kg5 (a6.fCtx,b5)) >>= fun b6 =>
  some ((!b6))
  else
  some (true)
  ) : Option (Bool)) >>= fun b7 =>
  if b7 = true then
  some (.inr false)
  else
  Ki6 (s0,l1,i2,a0,(a1 ++ [(K03.mk a6.fType a6.fBudgets 0 [])]),(wr (a2 + 1)))
  else
  some (.inr false)
  else
  some (.inl a1)
 partial_fixpoint
def Ki7 (p : K00 × (List K02) × Int × K02 × (List K03) × Int) (fl : ((List K03)) ⊕ (Bool)) : Prop :=
 match p with
 | (s0,l1,i2,a0,a1,a2) => ∀ c : Ctx,c.nt = 146 → WpL Tryz.prog c (cl (cl (cr (cl (cr (cr (cr (cr B46)))))))) (Ki5 c s0 a0 fl) (mkS [(1,.sl (List.map K12 l1)),(2,I i2),(3,.ra 1 0),(7,.ra 2 0),(8,.rs 3),(9,I a2)] [(1,K2d s0),(2,K2h a0),(3,.arr (List.map K14 a1))])
theorem Ki8 : ∀ p r,Ki6 p = some r → Ki7 p r := by
 refine Ki6.partial_correctness Ki7 ?_
 rintro spec_StepHolds_l0_f spec_StepHolds_l0_ih ⟨s0,l1,i2,a0,a1,a2⟩ r h
 intro c hc
 refine WpL.step ?_
 refine sN ?_
 refine rss hc none [oN,oN,oN,some (.eqv (.no) ⟨[(53,I (a0.fFrom.length : Int))],[],[]⟩),oN] [(1,.sl (List.map K12 l1)),(2,I i2),(3,.ra 1 0),(7,.ra 2 0),(8,.rs 3),(9,I a2),(54,.bool (decide (a2 < (a0.fFrom.length : Int))))] (ai (Qcz (d := 53) I a0.fFrom) tv) ?_
 refine ic h (fun a3 h => ?_) fun a3 h => ?_
 ·refine sk ?_
  refine sN ?_
  refine bk 1 ?_
  refine sN ?_
  obtain ⟨a4,a5,a6,a7,h⟩ := bq2 h
  refine rss hc none [oN,oN,oN,some (.el (I a4)),oN,oN,oN,oc (.bool a6),oN] [(1,.sl (List.map K12 l1)),(2,I i2),(3,.ra 1 0),(7,.ra 2 0),(8,.rs 3),(9,I a2),(65,.bool (!a6))] (ai (ix a5) (cq (Kbo _ _ a7) K49 tv)) ?_
  rcases is h with ⟨a8,h⟩ | ⟨a8,h⟩
  ·refine cF (!a6) (nF a8) ?_
   refine sk ?_
   obtain ⟨a9,b1,b2,b3,h⟩ := bq2 h
   refine rs hc none [oN,oN,oN,oN,some (.el (I a9)),oN,some (.el (K2i b2)),oN,some (.new 8),oN] [(1,.sl (List.map K12 l1)),(2,I i2),(3,.ra 1 0),(7,.ra 2 0),(8,.rs 3),(9,I a2),(10,.ra 8 0)] [(1,K2d s0),(2,K2h a0),(3,.arr (List.map K14 a1)),(8,K2h b2)] (ab (ix b1) (Qcx b3 (K1e b2)) tv) ?_
   refine sN ?_
   refine sN ?_
   obtain ⟨b4,b5,h⟩ := Qct h
   refine Wp.into (x := .normal) (mkS [(1,.sl (List.map K12 l1)),(2,I i2),(3,.ra 1 0),(7,.ra 2 0),(8,.rs 3),(9,I a2),(10,.ra 8 0),(89,.bool b4)] [(1,K2d s0),(2,K2h a0),(3,.arr (List.map K14 a1)),(8,K2h b2)]) ?_ ?_
   ·replace h := b5
    obtain ⟨b6,b7,h⟩ := Qct h
    rcases is h with ⟨b8,h⟩ | ⟨b8,h⟩
    ·obtain ⟨b9,c0,c1,c2,h⟩ := bq2 h
     refine rgs hc Khw [oN,oN,oc (.bool b6),oN,oN,oN,oN,oN,oN,oN,oN,some (.el (K2g b9)),oN,oc (.bool c1),oN,oF] [(1,.sl (List.map K12 l1)),(2,I i2),(3,.ra 1 0),(7,.ra 2 0),(8,.rs 3),(9,I a2),(10,.ra 8 0),(89,.bool (!c1))] (cq (Kf9 _ _ b7) K5n (ar 7 (nF b8) (ai (Qcx c0 (K0z b9)) (ar 2 (nF b8) (cq (Kfn _ _ c2) K5q (ar 2 (nF b8) tv)))))) ?_
     obtain rfl := os h
     exact Qcf.mk
    refine rgs hc Khw [oN,oN,oc (.bool b6),oN,oN,o_,o_,o_,o_,o_,o_,o_,o_,o_,o_,oT] [(1,.sl (List.map K12 l1)),(2,I i2),(3,.ra 1 0),(7,.ra 2 0),(8,.rs 3),(9,I a2),(10,.ra 8 0),(89,.bool true)] (cq (Kf9 _ _ b7) K5n (ar 10 (neF (nT b8)) (ai (nT b8) tv))) ?_
    obtain rfl := os h
    exact Qcf.mk
   clear b5
   refine ic h (fun c3 h => ?_) fun c3 h => ?_
   ·refine rs0 hc 1 [(6,.bool false)] [] ?_
    refine rt ?_
    obtain rfl := os h
    exact re [true]
   refine sk ?_
   obtain ⟨_,c4,h⟩ := Qct h
   refine rs hc none [oN,oN,oN,oN,oN,oN,some (.mk 9 false),some (.eqv (.mk 10 true) ⟨[(97,.rs 10)],[(10,some (.arr (List.map K14 (a1 ++ [(K03.mk b2.fType b2.fBudgets 0 [])])))),(3,none),(9,none)],[10]⟩),oN] [(1,.sl (List.map K12 l1)),(2,I i2),(3,.ra 1 0),(7,.ra 2 0),(8,.rs 10),(9,I a2),(10,.ra 8 0)] [(1,K2d s0),(2,K2h a0),(8,K2h b2),(10,.arr (List.map K14 (a1 ++ [(K03.mk b2.fType b2.fBudgets 0 [])])))] (ab (congrArg (fun z => (⟨[(97,.rs 10)],[(10,some (.arr z)),(3,none),(9,none)],[10]⟩ : Wr)) ((List.map_append).symm : (List.map K14 a1) ++ (List.map K14 [(K03.mk b2.fType b2.fBudgets 0 [])]) = List.map K14 (a1 ++ [(K03.mk b2.fType b2.fBudgets 0 [])]))) (Qd7 (enc1 := K14) (enc2 := K14) (e1 := a1) (e2 := [(K03.mk b2.fType b2.fBudgets 0 [])]) (sz := 4) K1z K1z c4) tv) ?_
   obtain ⟨c5,c6,⟨c7,c8⟩,c9,h⟩ := bq2 h
   refine rss hc (rx [[0],[1],[0],[0,2],[0,2,3],[0,2,3,4],[0],[7],[8],[9],[9],[10],[12]]) [oN,oN,oN,oN,oN,some (.el (K2k c5)),oN,oc (.tup [sL c7,.bool c8]),oN,oN,oN,oN,oN] [(1,.sl (List.map K12 l1)),(2,I i2),(3,.ra 1 0),(7,.ra 2 0),(8,.rs 10),(9,I a2),(10,.ra 8 0),(11,sL c7),(12,.bool c8)] (ab (Qcy (enc := K14) c6) (Qcx c6 (K1x c5)).2 (cq (Kfx _ _ c9) K5v tv)) ?_
   refine sN ?_
   obtain ⟨d0,d1,h⟩ := Qct h
   refine Wp.into (x := .normal) (mkS [(1,.sl (List.map K12 l1)),(2,I i2),(3,.ra 1 0),(7,.ra 2 0),(8,.rs 10),(9,I a2),(120,.bool d0)] [(1,K2d s0),(2,K2h a0),(10,.arr (List.map K14 (a1 ++ [(K03.mk b2.fType b2.fBudgets 0 [])])))]) ?_ ?_
   ·replace h := d1
    rcases is h with ⟨d2,h⟩ | ⟨d2,h⟩
    ·obtain ⟨d3,d4,d5,d6,h⟩ := bq2 h
     refine rg hc Khx [oN,oN,oN,oN,oN,oN,oN,oN,some (.call (.osl (List.map K07 d3)) [] 11),oc (.bool d5),oN,oF] [(1,.sl (List.map K12 l1)),(2,I i2),(3,.ra 1 0),(7,.ra 2 0),(8,.rs 10),(9,I a2),(120,.bool (!d5))] [(1,K2d s0),(2,K2h a0),(10,.arr (List.map K14 (a1 ++ [(K03.mk b2.fType b2.fBudgets 0 [])])))] (ar 6 (nF d2) (cq (Kg0 _ _ d4) K5x (ad (nF d2) (Q71.args (A1 := [sL b2.fCtx,.sl (Q02 (List.map K07 d3))]) (A2 := [sL b2.fCtx,sL d3]) (by simp only [List.map_nil,K0b]) (Kg7 _ _ d6)) K5z (Or.inr rfl : ([11] : List Nat) = [] ∨ noSh (.bool d5) = true) (ar 2 (nF d2) tv)))) ?_
     obtain rfl := os h
     exact Qcf.mk
    refine rg hc Khx [oN,oN,oN,o_,o_,o_,o_,o_,o_,o_,o_,oT] [(1,.sl (List.map K12 l1)),(2,I i2),(3,.ra 1 0),(7,.ra 2 0),(8,.rs 10),(9,I a2),(120,.bool true)] [(1,K2d s0),(2,K2h a0),(10,.arr (List.map K14 (a1 ++ [(K03.mk b2.fType b2.fBudgets 0 [])])))] (ar 8 (neF (nT d2)) (ai (nT d2) tv)) ?_
    obtain rfl := os h
    exact Qcf.mk
   clear d1
   refine ic h (fun d7 h => ?_) fun d7 h => ?_
   ·refine rs0 hc 1 [(6,.bool false)] [] ?_
    refine rt ?_
    obtain rfl := os h
    exact re [true]
   refine sk ?_
   refine K98 hc 3 [(1,.sl (List.map K12 l1)),(2,I i2),(3,.ra 1 0),(7,.ra 2 0),(8,.rs 10),(9,I (wr (a2 + 1)))] ?_
   refine Qcb ?_
   exact WpL.view (fun a w hv => SRx.renL [(3,10)] hv (by kernel_rfl) (by kernel_rfl) (by kernel_rfl)) (spec_StepHolds_l0_ih _ _ h c hc)
  refine cT (!a6) (nT a8) ?_
  refine rs0 hc 1 [(6,.bool false)] [] ?_
  refine rt ?_
  obtain rfl := os h
  exact re [true]
 refine xt 0 ?_
 refine Qc5 ?_
 refine Qcc ?_
 obtain rfl := os h
 exact iv []
def Ki9 (p : K00 × (List K02) × Int) : Option (Bool) :=
 match p with
 | (s0,l1,i2) =>
  ((
  (Kbm (i2,0,(wr ((l1.length : Int) - 1)))) >>= fun a0 =>
  if a0 = true then
   (idx l1 i2) >>= fun a1 =>
   (Kf7 (s0,a1)) >>= fun a2 =>
   if a2 = true then
   (idx l1 i2) >>= fun a3 =>
   (idx l1 i2) >>= fun a4 =>
   some (((a3.fFrom.length : Int) != (a4.fTerm.fKids.length : Int)))
   else
   some (true)
  else
   some (true)
  ) : Option (Bool)) >>= fun a5 =>
  if a5 = true then
  some false
  else
  (idx l1 i2) >>= fun a6 =>
  (Ki6 (s0,l1,i2,a6,[],0)) >>= fun fl => match fl with
  | .inl a7 =>
   (Khr (s0,a6.fCtx,a6.fTerm,a7)) >>= fun a8 =>
   ((
   if (a8.ffault == 0) = true then
   (Kfe (a8.fty,a6.fType)) >>= fun a9 =>
   if a9 = true then
   (Ki2 (s0,a8.fneeds,a6.fBudgets)) >>= fun b1 =>
   some (b1)
   else
   some (false)
   else
   some (false)
   ) : Option (Bool)) >>= fun b2 =>
   some b2
  | .inr r =>
   some r
def Kia (p : K00 × (List K02) × Int) (r : Bool) : Prop :=
 match p with
 | (s0,l1,i2) => Q71 Tryz.prog 46 [K2e s0,.sl (List.map K12 l1),I i2] (.bool r) []
theorem Kib : ∀ p r,Ki9 p = some r → Kia p r := by
 rintro ⟨s0,l1,i2⟩ r h
 unfold Ki9 at h
 refine b0 Tryz.f46 B46 146 [(0,K2e s0),(1,.sl (List.map K12 l1)),(2,I i2)] fun c hc => ?_
 refine rs hc none [some (.new 1),oN] [(1,.sl (List.map K12 l1)),(2,I i2),(3,.ra 1 0)] [(1,K2d s0)] tv ?_
 refine sN ?_
 refine sN ?_
 obtain ⟨a0,a1,h⟩ := Qct h
 refine Wp.into (x := .normal) (mkS [(1,.sl (List.map K12 l1)),(2,I i2),(3,.ra 1 0),(44,.bool a0)] [(1,K2d s0)]) ?_ ?_
 ·replace h := a1
  obtain ⟨a2,a3,h⟩ := Qct h
  rcases is h with ⟨a4,h⟩ | ⟨a4,h⟩
  ·obtain ⟨a5,a6,a7,a8,h⟩ := bq2 h
   rcases is h with ⟨a9,h⟩ | ⟨a9,h⟩
   ·obtain ⟨b1,b2,b3,b4,h⟩ := bq2 h
    refine rgs hc Khy [oN,oN,some (.eqv (.no) ⟨[(16,I (l1.length : Int))],[],[]⟩),oN,oc (.bool a2),oN,oN,oN,oN,oN,some (.el (K2i a5)),oN,oc (.bool a7),oN,oF,oN,oN,oN,some (.el (K2i b1)),oN,oN,some (.eqv (.no) ⟨[(35,I (b1.fFrom.length : Int))],[],[]⟩),oN,oN,some (.el (K2i b3)),oN,oN,oN,some (.eqv (.no) ⟨[(42,I (b3.fTerm.fKids.length : Int))],[],[]⟩),oN,oF] [(1,.sl (List.map K12 l1)),(2,I i2),(3,.ra 1 0),(44,.bool ((b1.fFrom.length : Int) != (b3.fTerm.fKids.length : Int)))] (ai (Qcz (d := 16) K12 l1) (cq (Kbo _ _ a3) K49 (ar 4 (nF a4) (ai (Qcx a6 (K1e a5)) (ar 2 (nF a4) (cq (Kf9 _ _ a8) K5n (ar 2 (nF a4) (ar 3 (nF a9) (ai (Qcx b2 (K1e b1)) (ar 3 (nF a9) (ai (Qcz (d := 35) I b1.fFrom) (ar 3 (nF a9) (ai (Qcx b4 (K1e b3)) (ar 4 (nF a9) (ai (Qcz (d := 42) K0s b3.fTerm.fKids) (ar 2 (nF a9) tv)))))))))))))))) ?_
    obtain rfl := os h
    exact Qcf.mk
   refine rgs hc Khy [oN,oN,some (.eqv (.no) ⟨[(16,I (l1.length : Int))],[],[]⟩),oN,oc (.bool a2),oN,oN,oN,oN,oN,some (.el (K2i a5)),oN,oc (.bool a7),oN,oF,oN,o_,o_,o_,o_,o_,o_,o_,o_,o_,o_,o_,o_,o_,o_,oT] [(1,.sl (List.map K12 l1)),(2,I i2),(3,.ra 1 0),(44,.bool true)] (ai (Qcz (d := 16) K12 l1) (cq (Kbo _ _ a3) K49 (ar 4 (nF a4) (ai (Qcx a6 (K1e a5)) (ar 2 (nF a4) (cq (Kf9 _ _ a8) K5n (ar 2 (nF a4) (ar 14 (neF (nT a9)) (ai (nT a9) tv))))))))) ?_
   obtain rfl := os h
   exact Qcf.mk
  refine rgs hc Khy [oN,oN,some (.eqv (.no) ⟨[(16,I (l1.length : Int))],[],[]⟩),oN,oc (.bool a2),oN,oN,o_,o_,o_,o_,o_,o_,o_,oT,oN,o_,o_,o_,o_,o_,o_,o_,o_,o_,o_,o_,o_,o_,o_,oT] [(1,.sl (List.map K12 l1)),(2,I i2),(3,.ra 1 0),(44,.bool true)] (ai (Qcz (d := 16) K12 l1) (cq (Kbo _ _ a3) K49 (ar 7 (neF (nT a4)) (ai (nT a4) (ar 14 nf (ai tt tv)))))) ?_
  obtain rfl := os h
  exact Qcf.mk
 clear a1
 refine ic h (fun b5 h => ?_) fun b5 h => ?_
 ·refine rs0 hc 1 [(6,.bool false)] [] ?_
  refine rt ?_
  obtain rfl := os h
  exact rq [true]
 refine sk ?_
 obtain ⟨b6,b7,h⟩ := Qct h
 refine rs hc none [oN,oN,some (.el (K2i b6)),oN,some (.new 2),oN] [(1,.sl (List.map K12 l1)),(2,I i2),(3,.ra 1 0),(7,.ra 2 0)] [(1,K2d s0),(2,K2h b6)] (ai (Qcx b7 (K1e b6)) tv) ?_
 refine rs hc none [some (.mk 3 true),oN] [(1,.sl (List.map K12 l1)),(2,I i2),(3,.ra 1 0),(7,.ra 2 0),(8,.rs 3)] [(1,K2d s0),(2,K2h b6),(3,.arr (List.map K15 []))] tv ?_
 refine sN ?_
 refine K99 hc 1 [(1,.sl (List.map K12 l1)),(2,I i2),(3,.ra 1 0),(7,.ra 2 0),(8,.rs 3),(9,I 0)] ?_
 refine bk 0 ?_
 obtain ⟨fl,b8,h⟩ := Qct h
 have hL := Ki8 _ _ b8 c hc
 refine lp ?_
 rcases fl with b9 | r
 ·refine WpL.into (e := (.exit 0)) (mkS [(3,.ra 1 0),(7,.ra 2 0),(8,.rs 3)] [(1,K2d s0),(2,K2h b6),(3,.arr (List.map K14 b9))]) hL ?_
  refine Qc7 ?_
  refine sN ?_
  refine vz 3 (K20 b9) [(3,.ra 1 0),(7,.ra 2 0),(8,.sl (List.map K14 b9))] [(1,K2d s0),(2,K2h b6)] ?_
  obtain ⟨c0,c1,h⟩ := Qct h
  refine rg hc none [oN,oN,oN,oN,oN,oN,oc (K2k c0),some (.new 12),oN] [(3,.ra 1 0),(7,.ra 2 0),(13,.ra 12 0)] [(1,K2d s0),(2,K2h b6),(12,K2j c0)] (cq (Kht _ _ c1) K6k tv) ?_
  refine sN ?_
  obtain ⟨c2,c3,h⟩ := Qct h
  refine Wp.into (x := .normal) (mkS [(6,.bool c2)] []) ?_ ?_
  ·replace h := c3
   rcases is h with ⟨c4,h⟩ | ⟨c4,h⟩
   ·obtain ⟨c5,c6,h⟩ := Qct h
    rcases is h with ⟨c7,h⟩ | ⟨c7,h⟩
    ·obtain ⟨c8,c9,h⟩ := Qct h
     refine rg hc none [oN,oN,oN,oN,oN,oN,oN,oN,oc (.bool c5),oT,oN,oN,oN,oN,oN,oN,oc (.bool c8),oT,oN] [(6,.bool c8)] [] (ar 5 c4 (cq (Kfg _ _ c6) K5o (ai c4 (ar 6 c7 (cq (Ki4 _ _ c9) K6l (ai c7 tv)))))) ?_
     obtain rfl := os h
     exact Qcf.mk
    refine rg hc none [oN,oN,oN,oN,oN,oN,oN,oN,oc (.bool c5),oT,oN,o_,o_,o_,o_,o_,o_,oF,oN] [(6,.bool false)] [] (ar 5 c4 (cq (Kfg _ _ c6) K5o (ai c4 (ar 6 (neT c7) (ai c7 tv))))) ?_
    obtain rfl := os h
    exact Qcf.mk
   refine rg hc none [oN,oN,oN,oN,o_,o_,o_,o_,o_,oF,oN,o_,o_,o_,o_,o_,o_,oF,oN] [(6,.bool false)] [] (ar 5 (neT c4) (ai c4 (ar 6 (neT (rfl : false = false)) (ai (rfl : false = false) tv)))) ?_
   obtain rfl := os h
   exact Qcf.mk
  clear c3
  refine rt ?_
  obtain rfl := os h
  exact rq [true]
 refine WpL.mono hL ?_
 rintro _ _ ⟨rfl,hfin⟩
 obtain rfl := os h
 exact ⟨.inl rfl,hfin⟩
def Kic (p : Int × Int × Int) : Option (Bool) :=
 match p with
 | (n0,low1,high2) =>
  ((
  if (decide (n0 ≥ low1)) = true then
  some ((decide (n0 ≤ high2)))
  else
  some (false)
  ) : Option (Bool)) >>= fun a0 =>
  some a0
def Kid (p : Int × Int × Int) (r : Bool) : Prop :=
 match p with
 | (n0,low1,high2) => Q71 Tryz.prog 108 [I n0,I low1,I high2] (.bool r) []
theorem Kie : ∀ p r,Kic p = some r → Kid p r := by
 rintro ⟨n0,low1,high2⟩ r h
 unfold Kic at h
 refine b0 Tryz.f108 K6n 15 [(0,I n0),(1,I low1),(2,I high2)] fun c hc => ?_
 refine rs0 hc 1 [(0,I n0),(1,I low1),(2,I high2)] [] ?_
 refine sN ?_
 obtain ⟨a0,a1,h⟩ := Qct h
 refine Wp.into (x := .normal) (mkS [(6,.bool a0)] []) ?_ ?_
 ·replace h := a1
  rcases is h with ⟨a2,h⟩ | ⟨a2,h⟩
  ·refine rg hc none [oN,oN,oN,oN,oN,oN,oN,oT,oN] [(6,.bool (decide (n0 ≤ high2)))] [] (ar 4 a2 tv) ?_
   obtain rfl := os h
   exact Qcf.mk
  refine rg hc none [oN,oN,oN,oN,o_,o_,o_,oF,oN] [(6,.bool false)] [] (ar 3 (neT a2) (ai a2 tv)) ?_
  obtain rfl := os h
  exact Qcf.mk
 clear a1
 refine rt ?_
 obtain rfl := os h
 exact rq [true]
def Kif (p : K00 × Int) : Option (Bool) :=
 match p with
 | (s0,g1) =>
  (Kic (g1,0,(wr (s0.fSize - 1)))) >>= fun a0 =>
  some a0
def Kig (p : K00 × Int) (r : Bool) : Prop :=
 match p with
 | (s0,g1) => Q71 Tryz.prog 85 [K2e s0,I g1] (.bool r) []
theorem Kih : ∀ p r,Kif p = some r → Kig p r := by
 rintro ⟨s0,g1⟩ r h
 unfold Kif at h
 refine b0 Tryz.f85 B85 10 [(0,K2e s0),(1,I g1)] fun c hc => ?_
 refine rs hc none [some (.new 1),oN] [(1,I g1),(2,.ra 1 0)] [(1,K2d s0)] tv ?_
 obtain ⟨a0,a1,h⟩ := Qct h
 refine rs hc none [oN,oN,oN,oN,oc (.bool a0),oN] [(4,.bool a0)] [] (cq (Kie _ _ a1) K6o tv) ?_
 refine rt ?_
 obtain rfl := os h
 exact rq [true]
def Kii (p : K00 × Int × Int) : Option (Int) :=
 match p with
 | (s0,a1,b2) =>
  (idx s0.fPlus (wr ((wr (a1 * s0.fSize)) + b2))) >>= fun a0 =>
  some a0
def Kij (p : K00 × Int × Int) (r : Int) : Prop :=
 match p with
 | (s0,a1,b2) => Q71 Tryz.prog 169 [K2e s0,I a1,I b2] (I r) []
theorem Kik : ∀ p r,Kii p = some r → Kij p r := by
 rintro ⟨s0,a1,b2⟩ r h
 unfold Kii at h
 refine b0 Tryz.f169 K6q 17 [(0,K2e s0),(1,I a1),(2,I b2)] fun c hc => ?_
 refine rs hc none [some (.new 1),oN] [(1,I a1),(2,I b2),(3,.ra 1 0)] [(1,K2d s0)] tv ?_
 obtain ⟨a0,a2,h⟩ := Qct h
 refine rs hc none [oN,oN,oN,oN,oN,oN,oN,oN,some (.el (I a0)),oN,oN] [(6,I a0)] [] (ai (ix a2) tv) ?_
 refine rt ?_
 obtain rfl := os h
 exact rq [true]
def Kil (p : K00 × Int × Int) : Option (Int) :=
 match p with
 | (s0,a1,b2) =>
  (idx s0.fTimes (wr ((wr (a1 * s0.fSize)) + b2))) >>= fun a0 =>
  some a0
def Kim (p : K00 × Int × Int) (r : Int) : Prop :=
 match p with
 | (s0,a1,b2) => Q71 Tryz.prog 170 [K2e s0,I a1,I b2] (I r) []
theorem Kin : ∀ p r,Kil p = some r → Kim p r := by
 rintro ⟨s0,a1,b2⟩ r h
 unfold Kil at h
 refine b0 Tryz.f170 K6s 17 [(0,K2e s0),(1,I a1),(2,I b2)] fun c hc => ?_
 refine rs hc none [some (.new 1),oN] [(1,I a1),(2,I b2),(3,.ra 1 0)] [(1,K2d s0)] tv ?_
 obtain ⟨a0,a2,h⟩ := Qct h
 refine rs hc none [oN,oN,oN,oN,oN,oN,oN,oN,some (.el (I a0)),oN,oN] [(6,I a0)] [] (ai (ix a2) tv) ?_
 refine rt ?_
 obtain rfl := os h
 exact rq [true]
def Kio (p : K00 × Int × Int) : Option (Bool) :=
 match p with
 | (s0,a1,b2) =>
  (idx s0.fBelow (wr ((wr (a1 * s0.fSize)) + b2))) >>= fun a0 =>
  some a0
def Kip (p : K00 × Int × Int) (r : Bool) : Prop :=
 match p with
 | (s0,a1,b2) => Q71 Tryz.prog 86 [K2e s0,I a1,I b2] (.bool r) []
theorem Kiq : ∀ p r,Kio p = some r → Kip p r := by
 rintro ⟨s0,a1,b2⟩ r h
 unfold Kio at h
 refine b0 Tryz.f86 B86 17 [(0,K2e s0),(1,I a1),(2,I b2)] fun c hc => ?_
 refine rs hc none [some (.new 1),oN] [(1,I a1),(2,I b2),(3,.ra 1 0)] [(1,K2d s0)] tv ?_
 obtain ⟨a0,a2,h⟩ := Qct h
 refine rs hc none [oN,oN,oN,oN,oN,oN,oN,oN,some (.el (.bool a0)),oN,oN] [(6,.bool a0)] [] (ai (Qcx (enc := AV.bool) (x := .bool a0) a2 (Qda a0)) tv) ?_
 refine rt ?_
 obtain rfl := os h
 exact rq [true]
def Kir (c : Ctx) (s0 : K00) (a1 : Int) (b2 : Int) (a0 : Int) : Bool → Exit → Q0a → Prop
 | a2 => Qcf c (.exit 2) (mkS [(1,I a1),(2,I b2),(3,.ra 1 0),(7,I a0),(8,.bool a2)] [(1,K2d s0)])
def Kis (p : K00 × Int × Int × Int × Bool × Int) : Option (Bool) :=
 match p with
 | (s0,a1,b2,a0,a2,a3) =>
  if (decide (a3 < s0.fSize)) = true then
  ((
  if a2 = true then
  (Kio (s0,a1,a3)) >>= fun a4 =>
  if a4 = true then
  (Kio (s0,b2,a3)) >>= fun a5 =>
  if a5 = true then
  (Kio (s0,a0,a3)) >>= fun a6 =>
  some (a6)
  else
  some (true)
  else
  some (true)
  else
  some (false)
  ) : Option (Bool)) >>= fun a7 =>
  Kis (s0,a1,b2,a0,a7,(wr (a3 + 1)))
  else
  some (a2)
 partial_fixpoint
def Kit (p : K00 × Int × Int × Int × Bool × Int) (fl : Bool) : Prop :=
 match p with
 | (s0,a1,b2,a0,a2,a3) => ∀ c : Ctx,c.nt = 57 → WpL Tryz.prog c (cl (cl (cr (cl (cr (cr (cl (cl (cr (cl (cl (cr (cl (cr K6v)))))))))))))) (Kir c s0 a1 b2 a0 fl) (mkS [(1,I a1),(2,I b2),(3,.ra 1 0),(7,I a0),(8,.bool a2),(9,I a3)] [(1,K2d s0)])
theorem Kiu : ∀ p r,Kis p = some r → Kit p r := by
 refine Kis.partial_correctness Kit ?_
 rintro impl_Systemjoin_l0_f impl_Systemjoin_l0_ih ⟨s0,a1,b2,a0,a2,a3⟩ r h
 intro c hc
 refine WpL.step ?_
 refine sN ?_
 refine K99 hc 4 [(1,I a1),(2,I b2),(3,.ra 1 0),(7,I a0),(8,.bool a2),(9,I a3),(31,.bool (decide (a3 < s0.fSize)))] ?_
 refine ic h (fun a4 h => ?_) fun a4 h => ?_
 ·refine sk ?_
  refine sN ?_
  refine bk 3 ?_
  obtain ⟨a5,a6,h⟩ := Qct h
  refine Wp.into (x := .normal) (mkS [(1,I a1),(2,I b2),(3,.ra 1 0),(7,I a0),(8,.bool a5),(9,I a3)] [(1,K2d s0)]) ?_ ?_
  ·replace h := a6
   rcases is h with ⟨a7,h⟩ | ⟨a7,h⟩
   ·obtain ⟨a8,a9,h⟩ := Qct h
    rcases is h with ⟨b1,h⟩ | ⟨b1,h⟩
    ·obtain ⟨b3,b4,h⟩ := Qct h
     rcases is h with ⟨b5,h⟩ | ⟨b5,h⟩
     ·obtain ⟨b6,b7,h⟩ := Qct h
      refine rgs hc none [oN,oN,oN,oN,oN,oc (.bool a8),oN,oN,oN,oN,oN,oc (.bool b3),oN,oF,oN,oN,oN,oN,oc (.bool b6),oF,oT,oN] [(1,I a1),(2,I b2),(3,.ra 1 0),(7,I a0),(8,.bool b6),(9,I a3)] (ar 4 a7 (cq (Kiq _ _ a9) K6u (ar 2 a7 (ar 4 (nF b1) (cq (Kiq _ _ b4) K6u (ad (nF b1) a7 (nF b1) a7 (ar 4 (nF b5) (cq (Kiq _ _ b7) K6u (ac a7 (nF b5) a7 tv))))))))) ?_
      obtain rfl := os h
      exact Qcf.mk
     refine rgs hc none [oN,oN,oN,oN,oN,oc (.bool a8),oN,oN,oN,oN,oN,oc (.bool b3),oN,oF,oN,o_,o_,o_,o_,oT,oT,oN] [(1,I a1),(2,I b2),(3,.ra 1 0),(7,I a0),(8,.bool true),(9,I a3)] (ar 4 a7 (cq (Kiq _ _ a9) K6u (ar 2 a7 (ar 4 (nF b1) (cq (Kiq _ _ b4) K6u (ad (nF b1) a7 (nF b1) a7 (ar 4 (neF (nT b5)) (ac a7 (nT b5) a7 tv)))))))) ?_
     obtain rfl := os h
     exact Qcf.mk
    refine rgs hc none [oN,oN,oN,oN,oN,oc (.bool a8),oN,oN,o_,o_,o_,o_,o_,oT,oN,o_,o_,o_,o_,oT,oT,oN] [(1,I a1),(2,I b2),(3,.ra 1 0),(7,I a0),(8,.bool true),(9,I a3)] (ar 4 a7 (cq (Kiq _ _ a9) K6u (ar 2 a7 (ar 5 (neF (nT b1)) (ac a7 (nT b1) a7 (ar 4 nf (ac a7 tt a7 tv))))))) ?_
    obtain rfl := os h
    exact Qcf.mk
   refine rgs hc none [oN,oN,o_,o_,o_,o_,o_,o_,o_,o_,o_,o_,o_,o_,o_,o_,o_,o_,o_,o_,oF,oN] [(1,I a1),(2,I b2),(3,.ra 1 0),(7,I a0),(8,.bool false),(9,I a3)] (ar 9 (neT a7) (ai a7 tv)) ?_
   obtain rfl := os h
   exact Qcf.mk
  clear a6
  refine K98 hc 3 [(1,I a1),(2,I b2),(3,.ra 1 0),(7,I a0),(8,.bool a5),(9,I (wr (a3 + 1)))] ?_
  refine Qcb ?_
  exact (impl_Systemjoin_l0_ih _ _ h c hc)
 refine xt 2 ?_
 refine Qc5 ?_
 refine Qcc ?_
 obtain rfl := os h
 exact iv []
def Kiv (c : Ctx) (s0 : K00) (a1 : Int) (b2 : Int) (a0 : Int) : (Unit) ⊕ (Int) → Exit → Q0a → Prop
 | .inl _ => Qcf c .normal (mkS [(1,I a1),(2,I b2),(3,.ra 1 0),(7,I a0)] [(1,K2d s0)])
 | .inr r => Qco TIx Tryz.f171 [] (I r)
def Kiw (c : Ctx) : (Unit) ⊕ (Int) → Exit → Q0a → Prop
 | .inl _ => Qcf c (.exit 0) (mkS [] [])
 | .inr r => Qco TIx Tryz.f171 [] (I r)
def Kix (p : K00 × Int × Int × Int) : Option ((Unit) ⊕ (Int)) :=
 match p with
 | (s0,a1,b2,a0) =>
  if (decide (a0 < s0.fSize)) = true then
  ((
   ((
   (Kio (s0,a1,a0)) >>= fun a2 =>
   if a2 = true then
   (Kio (s0,b2,a0)) >>= fun a3 =>
   some ((!a3))
   else
   some (true)
   ) : Option (Bool)) >>= fun a4 =>
   if a4 = true then
   some (.inl ())
   else
   (Kis (s0,a1,b2,a0,true,0)) >>= fun a5 =>
   if a5 = true then
   some (.inr a0)
   else
   some (.inl ())) : Option ((Unit) ⊕ (Int))) >>= fun fl => match fl with
  | .inl () =>
   Kix (s0,a1,b2,(wr (a0 + 1)))
  | .inr r =>
   some (.inr r)
  else
  some (.inl ())
 partial_fixpoint
def Kiy (p : K00 × Int × Int × Int) (fl : (Unit) ⊕ (Int)) : Prop :=
 match p with
 | (s0,a1,b2,a0) => ∀ c : Ctx,c.nt = 57 → WpL Tryz.prog c (cl (cl (cr (cl (cr K6v))))) (Kiw c fl) (mkS [(1,I a1),(2,I b2),(3,.ra 1 0),(7,I a0)] [(1,K2d s0)])
theorem Kiz : ∀ p r,Kix p = some r → Kiy p r := by
 refine Kix.partial_correctness Kiy ?_
 rintro impl_Systemjoin_l1_f impl_Systemjoin_l1_ih ⟨s0,a1,b2,a0⟩ r h
 intro c hc
 refine WpL.step ?_
 refine sN ?_
 refine K99 hc 4 [(1,I a1),(2,I b2),(3,.ra 1 0),(7,I a0),(13,.bool (decide (a0 < s0.fSize)))] ?_
 refine ic h (fun a2 h => ?_) fun a2 h => ?_
 ·refine sk ?_
  refine sN ?_
  obtain ⟨fl,a3,h⟩ := Qct h
  refine flw (Kiv c s0 a1 b2 a0 fl) ?_ (fun hF => ?_)
  ·replace h := a3
   refine bk 1 ?_
   refine sN ?_
   refine sN ?_
   obtain ⟨a4,a5,h⟩ := Qct h
   refine Wp.into (x := .normal) (mkS [(1,I a1),(2,I b2),(3,.ra 1 0),(7,I a0),(27,.bool a4)] [(1,K2d s0)]) ?_ ?_
   ·replace h := a5
    obtain ⟨a6,a7,h⟩ := Qct h
    rcases is h with ⟨a8,h⟩ | ⟨a8,h⟩
    ·obtain ⟨a9,b1,h⟩ := Qct h
     refine rgs hc none [oN,oN,oN,oc (.bool a6),oN,oN,oN,oN,oN,oc (.bool a9),oN,oF] [(1,I a1),(2,I b2),(3,.ra 1 0),(7,I a0),(27,.bool (!a9))] (cq (Kiq _ _ a7) K6u (ar 4 (nF a8) (cq (Kiq _ _ b1) K6u (ar 2 (nF a8) tv)))) ?_
     obtain rfl := os h
     exact Qcf.mk
    refine rgs hc none [oN,oN,oN,oc (.bool a6),oN,oN,o_,o_,o_,o_,o_,oT] [(1,I a1),(2,I b2),(3,.ra 1 0),(7,I a0),(27,.bool true)] (cq (Kiq _ _ a7) K6u (ar 5 (neF (nT a8)) (ai (nT a8) tv))) ?_
    obtain rfl := os h
    exact Qcf.mk
   clear a5
   refine ic h (fun b3 h => ?_) fun b3 h => ?_
   ·refine xt 1 ?_
    refine Qc5 ?_
    refine Qc7 ?_
    obtain rfl := os h
    exact iv []
   refine sk ?_
   refine K99 hc 1 [(1,I a1),(2,I b2),(3,.ra 1 0),(7,I a0),(8,.bool true)] ?_
   refine sN ?_
   refine K99 hc 1 [(1,I a1),(2,I b2),(3,.ra 1 0),(7,I a0),(8,.bool true),(9,I 0)] ?_
   refine bk 2 ?_
   obtain ⟨b4,b5,h⟩ := Qct h
   have hL := Kiu _ _ b5 c hc
   refine lp ?_
   refine WpL.into (e := (.exit 2)) (mkS [(1,I a1),(2,I b2),(3,.ra 1 0),(7,I a0),(8,.bool b4)] [(1,K2d s0)]) hL ?_
   refine Qc7 ?_
   refine K99 hc 1 [(1,I a1),(2,I b2),(3,.ra 1 0),(7,I a0),(55,.bool b4)] ?_
   refine ic h (fun b6 h => ?_) fun b6 h => ?_
   ·refine rs0 hc 2 [(6,I a0)] [] ?_
    refine rt ?_
    obtain rfl := os h
    exact re [true]
   refine sk ?_
   obtain rfl := os h
   exact iv []
  rcases fl with ⟨⟩ | r
  ·refine Wp.into (x := .normal) (mkS [(1,I a1),(2,I b2),(3,.ra 1 0),(7,I a0)] [(1,K2d s0)]) hF ?_
   refine K98 hc 3 [(1,I a1),(2,I b2),(3,.ra 1 0),(7,I (wr (a0 + 1)))] ?_
   refine Qcb ?_
   exact (impl_Systemjoin_l1_ih _ _ h c hc)
  refine Wp.mono hF ?_
  rintro _ _ ⟨rfl,hfin⟩
  obtain rfl := os h
  exact ⟨rfl,hfin⟩
 refine xt 0 ?_
 refine Qc5 ?_
 refine Qcc ?_
 obtain rfl := os h
 exact iv []
def Kj0 (p : K00 × Int × Int) : Option (Int) :=
 match p with
 | (s0,a1,b2) =>
  (Kix (s0,a1,b2,0)) >>= fun fl => match fl with
  | .inl () =>
   some (-1)
  | .inr r =>
   some r
def Kj1 (p : K00 × Int × Int) (r : Int) : Prop :=
 match p with
 | (s0,a1,b2) => Q71 Tryz.prog 171 [K2e s0,I a1,I b2] (I r) []
theorem Kj2 : ∀ p r,Kj0 p = some r → Kj1 p r := by
 rintro ⟨s0,a1,b2⟩ r h
 unfold Kj0 at h
 refine b0 Tryz.f171 K6v 57 [(0,K2e s0),(1,I a1),(2,I b2)] fun c hc => ?_
 refine rs hc none [some (.new 1),oN] [(1,I a1),(2,I b2),(3,.ra 1 0)] [(1,K2d s0)] tv ?_
 refine sN ?_
 refine K99 hc 1 [(1,I a1),(2,I b2),(3,.ra 1 0),(7,I 0)] ?_
 refine bk 0 ?_
 obtain ⟨fl,a0,h⟩ := Qct h
 have hL := Kiz _ _ a0 c hc
 refine lp ?_
 rcases fl with ⟨⟩ | r
 ·refine WpL.into (e := (.exit 0)) (mkS [] []) hL ?_
  refine Qc7 ?_
  refine rs0 hc 1 [(6,I (-1))] [] ?_
  refine rt ?_
  obtain rfl := os h
  exact rq [true]
 refine WpL.mono hL ?_
 rintro _ _ ⟨rfl,hfin⟩
 obtain rfl := os h
 exact ⟨.inl rfl,hfin⟩
def Kj3 : Option (List (List Nat)) := rx [[0],[0],[0],[0],[0,1,2,3],[0],[6],[0],[0],[0],[0],[0],[7,9,10,11],[13],[14],[15],[16],[16],[16],[16],[16,17,18,19],[16],[22],[16],[16],[16],[16],[16],[23,25,26,27],[29],[30],[31]]
def Kj4 : Option (List (List Nat)) := rx [[0],[0],[0],[0],[0],[0,2,3,4],[6],[0],[0],[0],[0],[7,8,9,10],[0],[0],[0],[7,8,9,10,11,12,13,14],[16],[17],[18],[19],[19],[19],[19],[19,20,21,22],[19],[25],[19],[19],[19],[19],[26,27,28,29],[19],[19],[19],[26,27,28,29,30,31,32,33],[35],[36],[37]]
def Kj5 : Option (List (List Nat)) := rx [[0],[0],[0],[3],[4],[5],[6],[6],[6],[6],[6,7,8,9],[6],[6],[6],[6,7,8,9,10,11,12,13],[15],[16],[17],[17],[17],[17],[17,18,19,20],[17],[17],[17],[17,18,19,20,21,22,23,24],[26],[27],[28],[29],[29],[29],[29],[29,30,31,32],[29],[29],[29],[29,30,31,32,33,34,35,36],[38],[39],[40],[41]]
def Kj6 : Option (List (List Nat)) := rx [[0],[0],[0,1],[0],[0,1,2,3],[0,1,2,3,4],[6],[7],[8],[9],[9],[9,10],[9],[9,10,11,12],[9,10,11,12,13],[15],[16],[17]]
def Kj7 : Option (List (List Nat)) := rh [0,0,0,3,0,0,0,7,8,9,10,10,12,13,14,14,14,17,18,19,20,20,20,23,24,25,26,27,27,27,30,31,32]
def Kj8 (p : K00 × Int × Int × Int) : Option (Bool) :=
 match p with
 | (s0,a1,b2,c3) =>
  ((
  (Kii (s0,a1,b2)) >>= fun a0 =>
  (Kii (s0,a0,c3)) >>= fun a2 =>
  (Kii (s0,b2,c3)) >>= fun a3 =>
  (Kii (s0,a1,a3)) >>= fun a4 =>
  if (a2 != a4) = true then
  some (true)
  else
  (Kil (s0,a1,b2)) >>= fun a5 =>
  (Kil (s0,a5,c3)) >>= fun a6 =>
  (Kil (s0,b2,c3)) >>= fun a7 =>
  (Kil (s0,a1,a7)) >>= fun a8 =>
  some ((a6 != a8))
  ) : Option (Bool)) >>= fun a9 =>
  if a9 = true then
  some false
  else
  ((
  (Kii (s0,b2,c3)) >>= fun b1 =>
  (Kil (s0,a1,b1)) >>= fun b3 =>
  (Kil (s0,a1,b2)) >>= fun b4 =>
  (Kil (s0,a1,c3)) >>= fun b5 =>
  (Kii (s0,b4,b5)) >>= fun b6 =>
  if (b3 != b6) = true then
  some (true)
  else
  (Kii (s0,a1,b2)) >>= fun b7 =>
  (Kil (s0,b7,c3)) >>= fun b8 =>
  (Kil (s0,a1,c3)) >>= fun b9 =>
  (Kil (s0,b2,c3)) >>= fun c0 =>
  (Kii (s0,b9,c0)) >>= fun c1 =>
  some ((b8 != c1))
  ) : Option (Bool)) >>= fun c2 =>
  if c2 = true then
  some false
  else
  ((
  (Kio (s0,a1,b2)) >>= fun c4 =>
  if c4 = true then
  (Kio (s0,b2,c3)) >>= fun c5 =>
  if c5 = true then
  (Kio (s0,a1,c3)) >>= fun c6 =>
  some ((!c6))
  else
  some (false)
  else
  some (false)
  ) : Option (Bool)) >>= fun c7 =>
  if c7 = true then
  some false
  else
  ((
  (Kio (s0,a1,b2)) >>= fun c8 =>
  if c8 = true then
  (Kii (s0,a1,c3)) >>= fun c9 =>
  (Kii (s0,b2,c3)) >>= fun d0 =>
  (Kio (s0,c9,d0)) >>= fun d1 =>
  if d1 = true then
  (Kil (s0,a1,c3)) >>= fun d2 =>
  (Kil (s0,b2,c3)) >>= fun d3 =>
  (Kio (s0,d2,d3)) >>= fun d4 =>
  if d4 = true then
  (Kil (s0,c3,a1)) >>= fun d5 =>
  (Kil (s0,c3,b2)) >>= fun d6 =>
  (Kio (s0,d5,d6)) >>= fun d7 =>
  some (d7)
  else
  some (false)
  else
  some (false)
  else
  some (true)
  ) : Option (Bool)) >>= fun d8 =>
  some d8
def Kj9 (p : K00 × Int × Int × Int) (r : Bool) : Prop :=
 match p with
 | (s0,a1,b2,c3) => Q71 Tryz.prog 172 [K2e s0,I a1,I b2,I c3] (.bool r) []
theorem Kja : ∀ p r,Kj8 p = some r → Kj9 p r := by
 rintro ⟨s0,a1,b2,c3⟩ r h
 unfold Kj8 at h
 refine b0 Tryz.f172 K6x 137 [(0,K2e s0),(1,I a1),(2,I b2),(3,I c3)] fun c hc => ?_
 refine rs hc none [some (.new 1),oN] [(1,I a1),(2,I b2),(3,I c3),(4,.ra 1 0)] [(1,K2d s0)] tv ?_
 refine sN ?_
 refine sN ?_
 obtain ⟨a0,a2,h⟩ := Qct h
 refine Wp.into (x := .normal) (mkS [(1,I a1),(2,I b2),(3,I c3),(4,.ra 1 0),(40,.bool a0)] [(1,K2d s0)]) ?_ ?_
 ·replace h := a2
  obtain ⟨a3,a4,a5,a6,a7,a8,a9,b1,h⟩ := bq4 h
  rcases is h with ⟨b3,h⟩ | ⟨b3,h⟩
  ·refine rgs hc Kj3 [oN,oN,oN,oN,oc (I a3),oN,oc (I a5),oN,oN,oN,oN,oN,oc (I a7),oc (I a9),oN,oN,o_,o_,o_,o_,o_,o_,o_,o_,o_,o_,o_,o_,o_,o_,o_,oT] [(1,I a1),(2,I b2),(3,I c3),(4,.ra 1 0),(40,.bool true)] (cq (Kik _ _ a4) K6r (cq (Kik _ _ a6) K6r (cq (Kik _ _ a8) K6r (cq (Kik _ _ b1) K6r (ar 15 (neF b3) (ai b3 tv)))))) ?_
   obtain rfl := os h
   exact Qcf.mk
  obtain ⟨b4,b5,b6,b7,b8,b9,c0,c1,h⟩ := bq4 h
  refine rgs hc Kj3 [oN,oN,oN,oN,oc (I a3),oN,oc (I a5),oN,oN,oN,oN,oN,oc (I a7),oc (I a9),oN,oN,oN,oN,oN,oN,oc (I b4),oN,oc (I b6),oN,oN,oN,oN,oN,oc (I b8),oc (I c0),oN,oF] [(1,I a1),(2,I b2),(3,I c3),(4,.ra 1 0),(40,.bool (b6 != c0))] (cq (Kik _ _ a4) K6r (cq (Kik _ _ a6) K6r (cq (Kik _ _ a8) K6r (cq (Kik _ _ b1) K6r (ar 5 b3 (cq (Kin _ _ b5) K6t (ar 2 b3 (cq (Kin _ _ b7) K6t (ar 6 b3 (cq (Kin _ _ b9) K6t (ai b3 (cq (Kin _ _ c1) K6t (ar 2 b3 tv))))))))))))) ?_
  obtain rfl := os h
  exact Qcf.mk
 clear a2
 refine ic h (fun c2 h => ?_) fun c2 h => ?_
 ·refine rs0 hc 1 [(8,.bool false)] [] ?_
  refine rt ?_
  obtain rfl := os h
  exact rq [true]
 refine sk ?_
 refine sN ?_
 refine sN ?_
 obtain ⟨c4,c5,h⟩ := Qct h
 refine Wp.into (x := .normal) (mkS [(1,I a1),(2,I b2),(3,I c3),(4,.ra 1 0),(78,.bool c4)] [(1,K2d s0)]) ?_ ?_
 ·replace h := c5
  obtain ⟨c6,c7,c8,c9,d0,d1,d2,d3,h⟩ := bq4 h
  obtain ⟨d4,d5,h⟩ := Qct h
  rcases is h with ⟨d6,h⟩ | ⟨d6,h⟩
  ·refine rgs hc Kj4 [oN,oN,oN,oN,oN,oc (I c6),oc (I c8),oN,oN,oN,oN,oc (I d0),oN,oN,oN,oc (I d2),oc (I d4),oN,oN,o_,o_,o_,o_,o_,o_,o_,o_,o_,o_,o_,o_,o_,o_,o_,o_,o_,o_,oT] [(1,I a1),(2,I b2),(3,I c3),(4,.ra 1 0),(78,.bool true)] (cq (Kik _ _ c7) K6r (cq (Kin _ _ c9) K6t (cq (Kin _ _ d1) K6t (cq (Kin _ _ d3) K6t (cq (Kik _ _ d5) K6r (ar 18 (neF d6) (ai d6 tv))))))) ?_
   obtain rfl := os h
   exact Qcf.mk
  obtain ⟨d7,d8,d9,e0,e1,e2,e3,e4,h⟩ := bq4 h
  obtain ⟨e5,e6,h⟩ := Qct h
  refine rgs hc Kj4 [oN,oN,oN,oN,oN,oc (I c6),oc (I c8),oN,oN,oN,oN,oc (I d0),oN,oN,oN,oc (I d2),oc (I d4),oN,oN,oN,oN,oN,oN,oc (I d7),oN,oc (I d9),oN,oN,oN,oN,oc (I e1),oN,oN,oN,oc (I e3),oc (I e5),oN,oF] [(1,I a1),(2,I b2),(3,I c3),(4,.ra 1 0),(78,.bool (d9 != e5))] (cq (Kik _ _ c7) K6r (cq (Kin _ _ c9) K6t (cq (Kin _ _ d1) K6t (cq (Kin _ _ d3) K6t (cq (Kik _ _ d5) K6r (ar 5 d6 (cq (Kik _ _ d8) K6r (ar 2 d6 (cq (Kin _ _ e0) K6t (ar 5 d6 (cq (Kin _ _ e2) K6t (ar 4 d6 (cq (Kin _ _ e4) K6t (ai d6 (cq (Kik _ _ e6) K6r (ar 2 d6 tv)))))))))))))))) ?_
  obtain rfl := os h
  exact Qcf.mk
 clear c5
 refine ic h (fun e7 h => ?_) fun e7 h => ?_
 ·refine rs0 hc 1 [(8,.bool false)] [] ?_
  refine rt ?_
  obtain rfl := os h
  exact rq [true]
 refine sk ?_
 refine sN ?_
 refine sN ?_
 obtain ⟨e8,e9,h⟩ := Qct h
 refine Wp.into (x := .normal) (mkS [(1,I a1),(2,I b2),(3,I c3),(4,.ra 1 0),(95,.bool e8)] [(1,K2d s0)]) ?_ ?_
 ·replace h := e9
  obtain ⟨f0,f1,h⟩ := Qct h
  rcases is h with ⟨f2,h⟩ | ⟨f2,h⟩
  ·obtain ⟨f3,f4,h⟩ := Qct h
   rcases is h with ⟨f5,h⟩ | ⟨f5,h⟩
   ·obtain ⟨f6,f7,h⟩ := Qct h
    refine rgs hc none [oN,oN,oN,oc (.bool f0),oN,oN,oN,oN,oc (.bool f3),oT,oN,oN,oN,oN,oc (.bool f6),oN,oT] [(1,I a1),(2,I b2),(3,I c3),(4,.ra 1 0),(95,.bool (!f6))] (cq (Kiq _ _ f1) K6u (ar 4 f2 (cq (Kiq _ _ f4) K6u (ai f2 (ar 4 f5 (cq (Kiq _ _ f7) K6u (ar 2 f5 tv))))))) ?_
    obtain rfl := os h
    exact Qcf.mk
   refine rgs hc none [oN,oN,oN,oc (.bool f0),oN,oN,oN,oN,oc (.bool f3),oT,oN,o_,o_,o_,o_,o_,oF] [(1,I a1),(2,I b2),(3,I c3),(4,.ra 1 0),(95,.bool false)] (cq (Kiq _ _ f1) K6u (ar 4 f2 (cq (Kiq _ _ f4) K6u (ai f2 (ar 5 (neT f5) (ai f5 tv)))))) ?_
   obtain rfl := os h
   exact Qcf.mk
  refine rgs hc none [oN,oN,oN,oc (.bool f0),oN,o_,o_,o_,o_,oF,oN,o_,o_,o_,o_,o_,oF] [(1,I a1),(2,I b2),(3,I c3),(4,.ra 1 0),(95,.bool false)] (cq (Kiq _ _ f1) K6u (ar 4 (neT f2) (ai f2 (ar 5 (neT (rfl : false = false)) (ai (rfl : false = false) tv))))) ?_
  obtain rfl := os h
  exact Qcf.mk
 clear e9
 refine ic h (fun f8 h => ?_) fun f8 h => ?_
 ·refine rs0 hc 1 [(8,.bool false)] [] ?_
  refine rt ?_
  obtain rfl := os h
  exact rq [true]
 refine sk ?_
 refine sN ?_
 obtain ⟨f9,g0,h⟩ := Qct h
 refine Wp.into (x := .normal) (mkS [(8,.bool f9)] []) ?_ ?_
 ·replace h := g0
  obtain ⟨g1,g2,h⟩ := Qct h
  rcases is h with ⟨g3,h⟩ | ⟨g3,h⟩
  ·obtain ⟨g4,g5,g6,g7,g8,g9,h⟩ := bq3 h
   rcases is h with ⟨i0,h⟩ | ⟨i0,h⟩
   ·obtain ⟨i1,i2,i3,i4,i5,i6,h⟩ := bq3 h
    rcases is h with ⟨i7,h⟩ | ⟨i7,h⟩
    ·obtain ⟨i8,i9,j0,j8,j9,k0,h⟩ := bq3 h
     refine rg hc Kj5 [oN,oN,oN,oc (.bool g1),oN,oN,oN,oN,oN,oN,oc (I g4),oN,oN,oN,oc (I g6),oc (.bool g8),oN,oN,oN,oN,oN,oc (I i1),oN,oN,oN,oc (I i3),oc (.bool i5),oT,oN,oN,oN,oN,oN,oc (I i8),oN,oN,oN,oc (I j0),oc (.bool j9),oT,oF,oN] [(8,.bool j9)] [] (cq (Kiq _ _ g2) K6u (ar 5 (nF g3) (cq (Kik _ _ g5) K6r (ar 4 (nF g3) (cq (Kik _ _ g7) K6r (ai (nF g3) (cq (Kiq _ _ g9) K6u (ai (nF g3) (ar 5 i0 (cq (Kin _ _ i2) K6t (ar 4 i0 (cq (Kin _ _ i4) K6t (ai i0 (cq (Kiq _ _ i6) K6u (ac (nF g3) i0 (nF g3) (ar 5 i7 (cq (Kin _ _ i9) K6t (ar 4 i7 (cq (Kin _ _ j8) K6t (ai i7 (cq (Kiq _ _ k0) K6u (ac (nF g3) i7 (nF g3) tv)))))))))))))))))))))) ?_
     obtain rfl := os h
     exact Qcf.mk
    refine rg hc Kj5 [oN,oN,oN,oc (.bool g1),oN,oN,oN,oN,oN,oN,oc (I g4),oN,oN,oN,oc (I g6),oc (.bool g8),oN,oN,oN,oN,oN,oc (I i1),oN,oN,oN,oc (I i3),oc (.bool i5),oT,oN,o_,o_,o_,o_,o_,o_,o_,o_,o_,o_,oF,oF,oN] [(8,.bool false)] [] (cq (Kiq _ _ g2) K6u (ar 5 (nF g3) (cq (Kik _ _ g5) K6r (ar 4 (nF g3) (cq (Kik _ _ g7) K6r (ai (nF g3) (cq (Kiq _ _ g9) K6u (ai (nF g3) (ar 5 i0 (cq (Kin _ _ i2) K6t (ar 4 i0 (cq (Kin _ _ i4) K6t (ai i0 (cq (Kiq _ _ i6) K6u (ac (nF g3) i0 (nF g3) (ar 10 (neT i7) (ac (nF g3) i7 (nF g3) tv))))))))))))))))) ?_
    obtain rfl := os h
    exact Qcf.mk
   refine rg hc Kj5 [oN,oN,oN,oc (.bool g1),oN,oN,oN,oN,oN,oN,oc (I g4),oN,oN,oN,oc (I g6),oc (.bool g8),oN,o_,o_,o_,o_,o_,o_,o_,o_,o_,o_,oF,oN,o_,o_,o_,o_,o_,o_,o_,o_,o_,o_,oF,oF,oN] [(8,.bool false)] [] (cq (Kiq _ _ g2) K6u (ar 5 (nF g3) (cq (Kik _ _ g5) K6r (ar 4 (nF g3) (cq (Kik _ _ g7) K6r (ai (nF g3) (cq (Kiq _ _ g9) K6u (ai (nF g3) (ar 10 (neT i0) (ac (nF g3) i0 (nF g3) (ar 10 (neT (rfl : false = false)) (ac (nF g3) (rfl : false = false) (nF g3) tv)))))))))))) ?_
   obtain rfl := os h
   exact Qcf.mk
  refine rg hc Kj5 [oN,oN,oN,oc (.bool g1),oN,oN,o_,o_,o_,o_,o_,o_,o_,o_,o_,o_,o_,o_,o_,o_,o_,o_,o_,o_,o_,o_,o_,o_,o_,o_,o_,o_,o_,o_,o_,o_,o_,o_,o_,o_,oT,oN] [(8,.bool true)] [] (cq (Kiq _ _ g2) K6u (ar 14 (neF (nT g3)) (ai (nT g3) tv))) ?_
  obtain rfl := os h
  exact Qcf.mk
 clear g0
 refine rt ?_
 obtain rfl := os h
 exact rq [true]
def Kjb (c : Ctx) (s0 : K00) : (Unit) ⊕ (Bool) → Exit → Q0a → Prop
 | .inl _ => Qcf c (.exit 0) (mkS [(1,.ra 1 0),(3,I s0.fSize)] [(1,K2d s0)])
 | .inr r => Qco TIx Tryz.f109 [] (.bool r)
def Kjc (p : K00 × Int) : Option ((Unit) ⊕ (Bool)) :=
 match p with
 | (s0,a0) =>
  if (decide (a0 < (s0.fPlus.length : Int))) = true then
  ((
  (idx s0.fPlus a0) >>= fun a1 =>
  (Kif (s0,a1)) >>= fun a2 =>
  if a2 = true then
  (idx s0.fTimes a0) >>= fun a3 =>
  (Kif (s0,a3)) >>= fun a4 =>
  some ((!a4))
  else
  some (true)
  ) : Option (Bool)) >>= fun a5 =>
  if a5 = true then
  some (.inr false)
  else
  Kjc (s0,(wr (a0 + 1)))
  else
  some (.inl ())
 partial_fixpoint
def Kjd (p : K00 × Int) (fl : (Unit) ⊕ (Bool)) : Prop :=
 match p with
 | (s0,a0) => ∀ c : Ctx,c.nt = 157 → WpL Tryz.prog c (cl (cl (cr (cl (cr (cr (cr K6z))))))) (Kjb c s0 fl) (mkS [(1,.ra 1 0),(3,I s0.fSize),(42,I (s0.fPlus.length : Int)),(43,I a0)] [(1,K2d s0)])
theorem Kje : ∀ p r,Kjc p = some r → Kjd p r := by
 refine Kjc.partial_correctness Kjd ?_
 rintro impl_IsSystem_l0_f impl_IsSystem_l0_ih ⟨s0,a0⟩ r h
 intro c hc
 refine WpL.step ?_
 refine K99 hc 1 [(1,.ra 1 0),(3,I s0.fSize),(42,I (s0.fPlus.length : Int)),(43,I a0),(44,.bool (decide (a0 < (s0.fPlus.length : Int))))] ?_
 refine sN ?_
 refine ic h (fun a1 h => ?_) fun a1 h => ?_
 ·refine sk ?_
  refine sN ?_
  refine bk 1 ?_
  refine K99 hc 2 [(1,.ra 1 0),(3,I s0.fSize),(4,I a0),(42,I (s0.fPlus.length : Int)),(43,I a0)] ?_
  refine sN ?_
  obtain ⟨a2,a3,h⟩ := Qct h
  refine Wp.into (x := .normal) (mkS [(1,.ra 1 0),(3,I s0.fSize),(42,I (s0.fPlus.length : Int)),(43,I a0),(63,.bool a2)] [(1,K2d s0)]) ?_ ?_
  ·replace h := a3
   obtain ⟨a4,a5,a6,a7,h⟩ := bq2 h
   rcases is h with ⟨a8,h⟩ | ⟨a8,h⟩
   ·obtain ⟨a9,b1,b2,b3,h⟩ := bq2 h
    refine rgs hc Kj6 [oN,oN,oN,oN,some (.el (I a4)),oN,oc (.bool a6),oN,oN,oN,oN,oN,oN,some (.el (I a9)),oN,oc (.bool b2),oN,oF] [(1,.ra 1 0),(3,I s0.fSize),(42,I (s0.fPlus.length : Int)),(43,I a0),(63,.bool (!b2))] (ai (ix a5) (cq (Kih _ _ a7) K6p (ar 5 (nF a8) (ai (ix b1) (ar 2 (nF a8) (cq (Kih _ _ b3) K6p (ar 2 (nF a8) tv))))))) ?_
    obtain rfl := os h
    exact Qcf.mk
   refine rgs hc Kj6 [oN,oN,oN,oN,some (.el (I a4)),oN,oc (.bool a6),oN,oN,o_,o_,o_,o_,o_,o_,o_,o_,oT] [(1,.ra 1 0),(3,I s0.fSize),(42,I (s0.fPlus.length : Int)),(43,I a0),(63,.bool true)] (ai (ix a5) (cq (Kih _ _ a7) K6p (ar 8 (neF (nT a8)) (ai (nT a8) tv)))) ?_
   obtain rfl := os h
   exact Qcf.mk
  clear a3
  refine ic h (fun b4 h => ?_) fun b4 h => ?_
  ·refine rs0 hc 1 [(2,.bool false)] [] ?_
   refine rt ?_
   obtain rfl := os h
   exact re [true]
  refine sk ?_
  refine K98 hc 2 [(1,.ra 1 0),(3,I s0.fSize),(42,I (s0.fPlus.length : Int)),(43,I (wr (a0 + 1)))] ?_
  refine Qcb ?_
  exact (impl_IsSystem_l0_ih _ _ h c hc)
 refine xt 0 ?_
 refine Qc5 ?_
 refine Qcc ?_
 obtain rfl := os h
 exact iv []
def Kjf (c : Ctx) (s0 : K00) (a0 : Int) (a1 : Int) : (Unit) ⊕ (Bool) → Exit → Q0a → Prop
 | .inl _ => Qcf c (.exit 6) (mkS [(1,.ra 1 0),(3,I s0.fSize),(5,I a0),(6,I a1)] [(1,K2d s0)])
 | .inr r => Qco TIx Tryz.f109 [] (.bool r)
def Kjg (p : K00 × Int × Int × Int) : Option ((Unit) ⊕ (Bool)) :=
 match p with
 | (s0,a0,a1,a2) =>
  if (decide (a2 < s0.fSize)) = true then
  (Kj8 (s0,a0,a1,a2)) >>= fun a3 =>
  if a3 = true then
  Kjg (s0,a0,a1,(wr (a2 + 1)))
  else
  some (.inr false)
  else
  some (.inl ())
 partial_fixpoint
def Kjh (p : K00 × Int × Int × Int) (fl : (Unit) ⊕ (Bool)) : Prop :=
 match p with
 | (s0,a0,a1,a2) => ∀ c : Ctx,c.nt = 157 → WpL Tryz.prog c (cl (cl (cr (cr (cl (cl (cr (cl (cl (cr (cr (cl (cl (cr (cl (cl (cr (cl (cr (cr (cr (cr K6z)))))))))))))))))))))) (Kjf c s0 a0 a1 fl) (mkS [(1,.ra 1 0),(3,I s0.fSize),(5,I a0),(6,I a1),(7,I a2)] [(1,K2d s0)])
theorem Kji : ∀ p r,Kjg p = some r → Kjh p r := by
 refine Kjg.partial_correctness Kjh ?_
 rintro impl_IsSystem_l1_f impl_IsSystem_l1_ih ⟨s0,a0,a1,a2⟩ r h
 intro c hc
 refine WpL.step ?_
 refine sN ?_
 refine K99 hc 3 [(1,.ra 1 0),(3,I s0.fSize),(5,I a0),(6,I a1),(7,I a2),(148,.bool (decide (a2 < s0.fSize)))] ?_
 refine ic h (fun a3 h => ?_) fun a3 h => ?_
 ·refine sk ?_
  refine sN ?_
  refine bk 7 ?_
  obtain ⟨a4,a5,h⟩ := Qct h
  refine rss hc none [oN,oN,oN,oN,oc (.bool a4),oN] [(1,.ra 1 0),(3,I s0.fSize),(5,I a0),(6,I a1),(7,I a2),(156,.bool (!a4))] (cq (Kja _ _ a5) K6y tv) ?_
  rcases is h with ⟨a6,h⟩ | ⟨a6,h⟩
  ·refine cF (!a4) (nF a6) ?_
   refine sk ?_
   refine K98 hc 3 [(1,.ra 1 0),(3,I s0.fSize),(5,I a0),(6,I a1),(7,I (wr (a2 + 1)))] ?_
   refine Qcb ?_
   exact (impl_IsSystem_l1_ih _ _ h c hc)
  refine cT (!a4) (nT a6) ?_
  refine rs0 hc 1 [(2,.bool false)] [] ?_
  refine rt ?_
  obtain rfl := os h
  exact re [true]
 refine xt 6 ?_
 refine Qc5 ?_
 refine Qcc ?_
 obtain rfl := os h
 exact iv []
def Kjj (c : Ctx) (s0 : K00) (a0 : Int) : (Unit) ⊕ (Bool) → Exit → Q0a → Prop
 | .inl _ => Qcf c (.exit 4) (mkS [(1,.ra 1 0),(3,I s0.fSize),(5,I a0)] [(1,K2d s0)])
 | .inr r => Qco TIx Tryz.f109 [] (.bool r)
def Kjk (p : K00 × Int × Int) : Option ((Unit) ⊕ (Bool)) :=
 match p with
 | (s0,a0,a1) =>
  if (decide (a1 < s0.fSize)) = true then
  ((
  (Kii (s0,a0,a1)) >>= fun a2 =>
  (Kii (s0,a1,a0)) >>= fun a3 =>
  if (a2 != a3) = true then
   some (true)
  else
   if (a0 != a1) = true then
   (Kio (s0,a0,a1)) >>= fun a4 =>
   if a4 = true then
   (Kio (s0,a1,a0)) >>= fun a5 =>
   if a5 = true then
   some (true)
   else
   (Kj0 (s0,a0,a1)) >>= fun a6 =>
   some ((decide (a6 < 0)))
   else
   (Kj0 (s0,a0,a1)) >>= fun a6 =>
   some ((decide (a6 < 0)))
   else
   (Kj0 (s0,a0,a1)) >>= fun a6 =>
   some ((decide (a6 < 0)))
  ) : Option (Bool)) >>= fun a7 =>
  if a7 = true then
  some (.inr false)
  else
  (Kjg (s0,a0,a1,0)) >>= fun fl => match fl with
  | .inl () =>
   Kjk (s0,a0,(wr (a1 + 1)))
  | .inr r =>
   some (.inr r)
  else
  some (.inl ())
 partial_fixpoint
def Kjl (p : K00 × Int × Int) (fl : (Unit) ⊕ (Bool)) : Prop :=
 match p with
 | (s0,a0,a1) => ∀ c : Ctx,c.nt = 157 → WpL Tryz.prog c (cl (cl (cr (cr (cl (cl (cr (cl (cl (cr (cl (cr (cr (cr (cr K6z))))))))))))))) (Kjj c s0 a0 fl) (mkS [(1,.ra 1 0),(3,I s0.fSize),(5,I a0),(6,I a1)] [(1,K2d s0)])
theorem Kjm : ∀ p r,Kjk p = some r → Kjl p r := by
 refine Kjk.partial_correctness Kjl ?_
 rintro impl_IsSystem_l2_f impl_IsSystem_l2_ih ⟨s0,a0,a1⟩ r h
 intro c hc
 refine WpL.step ?_
 refine sN ?_
 refine K99 hc 3 [(1,.ra 1 0),(3,I s0.fSize),(5,I a0),(6,I a1),(110,.bool (decide (a1 < s0.fSize)))] ?_
 refine ic h (fun a2 h => ?_) fun a2 h => ?_
 ·refine sk ?_
  refine sN ?_
  refine bk 5 ?_
  refine sN ?_
  refine sN ?_
  obtain ⟨a3,a4,h⟩ := Qct h
  refine Wp.into (x := .normal) (mkS [(1,.ra 1 0),(3,I s0.fSize),(5,I a0),(6,I a1),(145,.bool a3)] [(1,K2d s0)]) ?_ ?_
  ·replace h := a4
   obtain ⟨a5,a6,a7,a8,h⟩ := bq2 h
   rcases is h with ⟨a9,h⟩ | ⟨a9,h⟩
   ·refine rgs hc Kj7 [oN,oN,oN,oc (I a5),oN,oN,oN,oc (I a7),oN,oN,o_,o_,o_,o_,o_,o_,o_,o_,o_,o_,o_,o_,o_,o_,o_,oT,oN,o_,o_,o_,o_,o_,oT] [(1,.ra 1 0),(3,I s0.fSize),(5,I a0),(6,I a1),(145,.bool true)] (cq (Kik _ _ a6) K6r (cq (Kik _ _ a8) K6r (ar 7 (neF a9) (ai a9 (ar 5 nf (ai tt tv)))))) ?_
    obtain rfl := os h
    exact Qcf.mk
   rcases is h with ⟨b1,h⟩ | ⟨b1,h⟩
   ·obtain ⟨b2,b3,h⟩ := Qct h
    rcases is h with ⟨b4,h⟩ | ⟨b4,h⟩
    ·obtain ⟨b5,b6,h⟩ := Qct h
     rcases is h with ⟨b7,h⟩ | ⟨b7,h⟩
     ·refine rgs hc Kj7 [oN,oN,oN,oc (I a5),oN,oN,oN,oc (I a7),oN,oN,oN,oN,oN,oN,oN,oN,oN,oc (.bool b2),oT,oN,oN,oN,oN,oc (.bool b5),oT,oF,oN,o_,o_,o_,o_,o_,oT] [(1,.ra 1 0),(3,I s0.fSize),(5,I a0),(6,I a1),(145,.bool true)] (cq (Kik _ _ a6) K6r (cq (Kik _ _ a8) K6r (ar 4 a9 (ar 4 b1 (cq (Kiq _ _ b3) K6u (ac a9 b1 a9 (ar 4 b4 (cq (Kiq _ _ b6) K6u (ac a9 b4 a9 (ar 5 (neF b7) (ai b7 tv))))))))))) ?_
      obtain rfl := os h
      exact Qcf.mk
     obtain ⟨b8,b9,h⟩ := Qct h
     refine rgs hc Kj7 [oN,oN,oN,oc (I a5),oN,oN,oN,oc (I a7),oN,oN,oN,oN,oN,oN,oN,oN,oN,oc (.bool b2),oT,oN,oN,oN,oN,oc (.bool b5),oT,oF,oN,oN,oN,oN,oc (I b8),oN,oF] [(1,.ra 1 0),(3,I s0.fSize),(5,I a0),(6,I a1),(145,.bool (decide (b8 < 0)))] (cq (Kik _ _ a6) K6r (cq (Kik _ _ a8) K6r (ar 4 a9 (ar 4 b1 (cq (Kiq _ _ b3) K6u (ac a9 b1 a9 (ar 4 b4 (cq (Kiq _ _ b6) K6u (ac a9 b4 a9 (ar 4 b7 (cq (Kj2 _ _ b9) K6w (ar 2 b7 tv)))))))))))) ?_
     obtain rfl := os h
     exact Qcf.mk
    obtain ⟨b8,b9,h⟩ := Qct h
    refine rgs hc Kj7 [oN,oN,oN,oc (I a5),oN,oN,oN,oc (I a7),oN,oN,oN,oN,oN,oN,oN,oN,oN,oc (.bool b2),oT,oN,o_,o_,o_,o_,oF,oF,oN,oN,oN,oN,oc (I b8),oN,oF] [(1,.ra 1 0),(3,I s0.fSize),(5,I a0),(6,I a1),(145,.bool (decide (b8 < 0)))] (cq (Kik _ _ a6) K6r (cq (Kik _ _ a8) K6r (ar 4 a9 (ar 4 b1 (cq (Kiq _ _ b3) K6u (ac a9 b1 a9 (ar 4 (neT b4) (ac a9 b4 a9 (ar 4 (rfl : false = false) (cq (Kj2 _ _ b9) K6w (ar 2 (rfl : false = false) tv))))))))))) ?_
    obtain rfl := os h
    exact Qcf.mk
   obtain ⟨b8,b9,h⟩ := Qct h
   refine rgs hc Kj7 [oN,oN,oN,oc (I a5),oN,oN,oN,oc (I a7),oN,oN,oN,oN,oN,oN,o_,o_,o_,o_,oF,oN,o_,o_,o_,o_,oF,oF,oN,oN,oN,oN,oc (I b8),oN,oF] [(1,.ra 1 0),(3,I s0.fSize),(5,I a0),(6,I a1),(145,.bool (decide (b8 < 0)))] (cq (Kik _ _ a6) K6r (cq (Kik _ _ a8) K6r (ar 4 a9 (ar 4 (neT b1) (ac a9 b1 a9 (ar 4 (neT (rfl : false = false)) (ac a9 (rfl : false = false) a9 (ar 4 (rfl : false = false) (cq (Kj2 _ _ b9) K6w (ar 2 (rfl : false = false) tv)))))))))) ?_
   obtain rfl := os h
   exact Qcf.mk
  clear a4
  refine ic h (fun c0 h => ?_) fun c0 h => ?_
  ·refine rs0 hc 1 [(2,.bool false)] [] ?_
   refine rt ?_
   obtain rfl := os h
   exact re [true]
  refine sk ?_
  refine K99 hc 1 [(1,.ra 1 0),(3,I s0.fSize),(5,I a0),(6,I a1),(7,I 0)] ?_
  refine bk 6 ?_
  obtain ⟨fl,c1,h⟩ := Qct h
  have hL := Kji _ _ c1 c hc
  refine lp ?_
  rcases fl with ⟨⟩ | r
  ·refine WpL.into (e := (.exit 6)) (mkS [(1,.ra 1 0),(3,I s0.fSize),(5,I a0),(6,I a1)] [(1,K2d s0)]) hL ?_
   refine Qc7 ?_
   refine K98 hc 3 [(1,.ra 1 0),(3,I s0.fSize),(5,I a0),(6,I (wr (a1 + 1)))] ?_
   refine Qcb ?_
   exact (impl_IsSystem_l2_ih _ _ h c hc)
  refine WpL.mono hL ?_
  rintro _ _ ⟨rfl,hfin⟩
  obtain rfl := os h
  exact ⟨rfl,hfin⟩
 refine xt 4 ?_
 refine Qc5 ?_
 refine Qcc ?_
 obtain rfl := os h
 exact iv []
def Kjn (c : Ctx) : (Unit) ⊕ (Bool) → Exit → Q0a → Prop
 | .inl _ => Qcf c (.exit 2) (mkS [] [])
 | .inr r => Qco TIx Tryz.f109 [] (.bool r)
def Kjo (p : K00 × Int) : Option ((Unit) ⊕ (Bool)) :=
 match p with
 | (s0,a0) =>
  if (decide (a0 < s0.fSize)) = true then
  ((
  (Kii (s0,0,a0)) >>= fun a1 =>
  if (a1 != a0) = true then
   some (true)
  else
   (Kil (s0,1,a0)) >>= fun a2 =>
   if (a2 != a0) = true then
   some (true)
   else
   (Kil (s0,a0,1)) >>= fun a3 =>
   if (a3 != a0) = true then
   some (true)
   else
   (Kil (s0,0,a0)) >>= fun a4 =>
   if (a4 != 0) = true then
   some (true)
   else
   (Kil (s0,a0,0)) >>= fun a5 =>
   if (a5 != 0) = true then
   some (true)
   else
   (Kio (s0,a0,a0)) >>= fun a6 =>
   some ((!a6))
  ) : Option (Bool)) >>= fun a7 =>
  if a7 = true then
  some (.inr false)
  else
  (Kjk (s0,a0,0)) >>= fun fl => match fl with
  | .inl () =>
   Kjo (s0,(wr (a0 + 1)))
  | .inr r =>
   some (.inr r)
  else
  some (.inl ())
 partial_fixpoint
def Kjp (p : K00 × Int) (fl : (Unit) ⊕ (Bool)) : Prop :=
 match p with
 | (s0,a0) => ∀ c : Ctx,c.nt = 157 → WpL Tryz.prog c (cl (cl (cr (cl (cr (cr (cr (cr K6z)))))))) (Kjn c fl) (mkS [(1,.ra 1 0),(3,I s0.fSize),(5,I a0)] [(1,K2d s0)])
theorem Kjq : ∀ p r,Kjo p = some r → Kjp p r := by
 refine Kjo.partial_correctness Kjp ?_
 rintro impl_IsSystem_l3_f impl_IsSystem_l3_ih ⟨s0,a0⟩ r h
 intro c hc
 refine WpL.step ?_
 refine sN ?_
 refine K99 hc 3 [(1,.ra 1 0),(3,I s0.fSize),(5,I a0),(67,.bool (decide (a0 < s0.fSize)))] ?_
 refine ic h (fun a1 h => ?_) fun a1 h => ?_
 ·refine sk ?_
  refine sN ?_
  refine bk 3 ?_
  refine sN ?_
  refine sN ?_
  obtain ⟨a2,a3,h⟩ := Qct h
  refine Wp.into (x := .normal) (mkS [(1,.ra 1 0),(3,I s0.fSize),(5,I a0),(107,.bool a2)] [(1,K2d s0)]) ?_ ?_
  ·replace h := a3
   obtain ⟨a4,a5,h⟩ := Qct h
   rcases is h with ⟨a6,h⟩ | ⟨a6,h⟩
   ·refine rgs hc none [oN,oN,oc (I a4),oN,oN,oN,o_,o_,o_,o_,o_,oT,oN,o_,o_,o_,o_,o_,oT,oN,o_,o_,o_,o_,oT,oN,o_,o_,o_,o_,oT,oN,o_,o_,o_,o_,o_,oT] [(1,.ra 1 0),(3,I s0.fSize),(5,I a0),(107,.bool true)] (cq (Kik _ _ a5) K6r (ar 5 (neF a6) (ai a6 (ar 5 nf (ai tt (ar 4 nf (ai tt (ar 4 nf (ai tt (ar 5 nf (ai tt tv))))))))))) ?_
    obtain rfl := os h
    exact Qcf.mk
   obtain ⟨a7,a8,h⟩ := Qct h
   rcases is h with ⟨a9,h⟩ | ⟨a9,h⟩
   ·refine rgs hc none [oN,oN,oc (I a4),oN,oN,oN,oN,oN,oc (I a7),oN,oN,oF,oN,o_,o_,o_,o_,o_,oT,oN,o_,o_,o_,o_,oT,oN,o_,o_,o_,o_,oT,oN,o_,o_,o_,o_,o_,oT] [(1,.ra 1 0),(3,I s0.fSize),(5,I a0),(107,.bool true)] (cq (Kik _ _ a5) K6r (ar 3 a6 (cq (Kin _ _ a8) K6t (ar 3 a6 (ar 5 (neF a9) (ai a9 (ar 4 nf (ai tt (ar 4 nf (ai tt (ar 5 nf (ai tt tv)))))))))))) ?_
    obtain rfl := os h
    exact Qcf.mk
   obtain ⟨b1,b2,h⟩ := Qct h
   rcases is h with ⟨b3,h⟩ | ⟨b3,h⟩
   ·refine rgs hc none [oN,oN,oc (I a4),oN,oN,oN,oN,oN,oc (I a7),oN,oN,oF,oN,oN,oN,oc (I b1),oN,oN,oF,oN,o_,o_,o_,o_,oT,oN,o_,o_,o_,o_,oT,oN,o_,o_,o_,o_,o_,oT] [(1,.ra 1 0),(3,I s0.fSize),(5,I a0),(107,.bool true)] (cq (Kik _ _ a5) K6r (ar 3 a6 (cq (Kin _ _ a8) K6t (ar 3 a6 (ar 3 a9 (cq (Kin _ _ b2) K6t (ar 3 a9 (ar 4 (neF b3) (ai b3 (ar 4 nf (ai tt (ar 5 nf (ai tt tv))))))))))))) ?_
    obtain rfl := os h
    exact Qcf.mk
   obtain ⟨b4,b5,h⟩ := Qct h
   rcases is h with ⟨b6,h⟩ | ⟨b6,h⟩
   ·refine rgs hc none [oN,oN,oc (I a4),oN,oN,oN,oN,oN,oc (I a7),oN,oN,oF,oN,oN,oN,oc (I b1),oN,oN,oF,oN,oN,oN,oc (I b4),oN,oF,oN,o_,o_,o_,o_,oT,oN,o_,o_,o_,o_,o_,oT] [(1,.ra 1 0),(3,I s0.fSize),(5,I a0),(107,.bool true)] (cq (Kik _ _ a5) K6r (ar 3 a6 (cq (Kin _ _ a8) K6t (ar 3 a6 (ar 3 a9 (cq (Kin _ _ b2) K6t (ar 3 a9 (ar 3 b3 (cq (Kin _ _ b5) K6t (ar 2 b3 (ar 4 (neF b6) (ai b6 (ar 5 nf (ai tt tv)))))))))))))) ?_
    obtain rfl := os h
    exact Qcf.mk
   obtain ⟨b7,b8,h⟩ := Qct h
   rcases is h with ⟨b9,h⟩ | ⟨b9,h⟩
   ·refine rgs hc none [oN,oN,oc (I a4),oN,oN,oN,oN,oN,oc (I a7),oN,oN,oF,oN,oN,oN,oc (I b1),oN,oN,oF,oN,oN,oN,oc (I b4),oN,oF,oN,oN,oN,oc (I b7),oN,oF,oN,o_,o_,o_,o_,o_,oT] [(1,.ra 1 0),(3,I s0.fSize),(5,I a0),(107,.bool true)] (cq (Kik _ _ a5) K6r (ar 3 a6 (cq (Kin _ _ a8) K6t (ar 3 a6 (ar 3 a9 (cq (Kin _ _ b2) K6t (ar 3 a9 (ar 3 b3 (cq (Kin _ _ b5) K6t (ar 2 b3 (ar 3 b6 (cq (Kin _ _ b8) K6t (ar 2 b6 (ar 5 (neF b9) (ai b9 tv))))))))))))))) ?_
    obtain rfl := os h
    exact Qcf.mk
   obtain ⟨c0,c1,h⟩ := Qct h
   refine rgs hc none [oN,oN,oc (I a4),oN,oN,oN,oN,oN,oc (I a7),oN,oN,oF,oN,oN,oN,oc (I b1),oN,oN,oF,oN,oN,oN,oc (I b4),oN,oF,oN,oN,oN,oc (I b7),oN,oF,oN,oN,oN,oN,oc (.bool c0),oN,oF] [(1,.ra 1 0),(3,I s0.fSize),(5,I a0),(107,.bool (!c0))] (cq (Kik _ _ a5) K6r (ar 3 a6 (cq (Kin _ _ a8) K6t (ar 3 a6 (ar 3 a9 (cq (Kin _ _ b2) K6t (ar 3 a9 (ar 3 b3 (cq (Kin _ _ b5) K6t (ar 2 b3 (ar 3 b6 (cq (Kin _ _ b8) K6t (ar 2 b6 (ar 4 b9 (cq (Kiq _ _ c1) K6u (ar 2 b9 tv)))))))))))))))) ?_
   obtain rfl := os h
   exact Qcf.mk
  clear a3
  refine ic h (fun c2 h => ?_) fun c2 h => ?_
  ·refine rs0 hc 1 [(2,.bool false)] [] ?_
   refine rt ?_
   obtain rfl := os h
   exact re [true]
  refine sk ?_
  refine K99 hc 1 [(1,.ra 1 0),(3,I s0.fSize),(5,I a0),(6,I 0)] ?_
  refine bk 4 ?_
  obtain ⟨fl,c3,h⟩ := Qct h
  have hL := Kjm _ _ c3 c hc
  refine lp ?_
  rcases fl with ⟨⟩ | r
  ·refine WpL.into (e := (.exit 4)) (mkS [(1,.ra 1 0),(3,I s0.fSize),(5,I a0)] [(1,K2d s0)]) hL ?_
   refine Qc7 ?_
   refine K98 hc 3 [(1,.ra 1 0),(3,I s0.fSize),(5,I (wr (a0 + 1)))] ?_
   refine Qcb ?_
   exact (impl_IsSystem_l3_ih _ _ h c hc)
  refine WpL.mono hL ?_
  rintro _ _ ⟨rfl,hfin⟩
  obtain rfl := os h
  exact ⟨rfl,hfin⟩
 refine xt 2 ?_
 refine Qc5 ?_
 refine Qcc ?_
 obtain rfl := os h
 exact iv []
def Kjr (s0 : K00) : Option (Bool) :=
 ((
 (Kic (s0.fSize,2,16)) >>= fun a0 =>
 if a0 = true then
  if ((s0.fPlus.length : Int) != (wr (s0.fSize * s0.fSize))) = true then
   some (true)
  else
   if ((s0.fTimes.length : Int) != (wr (s0.fSize * s0.fSize))) = true then
   some (true)
   else
   some (((s0.fBelow.length : Int) != (wr (s0.fSize * s0.fSize))))
 else
  some (true)
 ) : Option (Bool)) >>= fun a1 =>
 if a1 = true then
 some false
 else
 (Kjc (s0,0)) >>= fun fl => match fl with
 | .inl () =>
  (Kjo (s0,0)) >>= fun fl => match fl with
  | .inl () =>
   some true
  | .inr r =>
   some r
 | .inr r =>
  some r
def Kjs (s0 : K00) (r : Bool) : Prop :=
 Q71 Tryz.prog 109 [K2e s0] (.bool r) []
theorem Kjt : ∀ p r,Kjr p = some r → Kjs p r := by
 rintro s0 r h
 unfold Kjr at h
 refine b0 Tryz.f109 K6z 157 [(0,K2e s0)] fun c hc => ?_
 refine rs hc none [some (.new 1),oN] [(1,.ra 1 0)] [(1,K2d s0)] tv ?_
 refine K99 hc 3 [(1,.ra 1 0),(3,I s0.fSize)] ?_
 refine sN ?_
 refine sN ?_
 obtain ⟨a0,a1,h⟩ := Qct h
 refine Wp.into (x := .normal) (mkS [(1,.ra 1 0),(3,I s0.fSize),(39,.bool a0)] [(1,K2d s0)]) ?_ ?_
 ·replace h := a1
  obtain ⟨a2,a3,h⟩ := Qct h
  rcases is h with ⟨a4,h⟩ | ⟨a4,h⟩
  ·rcases is h with ⟨a5,h⟩ | ⟨a5,h⟩
   ·refine rgs hc none [oN,oc (.bool a2),oN,oN,oN,oN,some (.eqv (.no) ⟨[(16,I (s0.fPlus.length : Int))],[],[]⟩),oN,oN,oN,oN,oF,oN,o_,o_,o_,o_,o_,o_,o_,oT,oN,o_,o_,o_,o_,o_,o_,o_,oT] [(1,.ra 1 0),(3,I s0.fSize),(39,.bool true)] (cq (Kie _ _ a3) K6o (ar 3 (nF a4) (ai (Qcz (d := 16) I s0.fPlus) (ar 5 (nF a4) (ar 7 (neF a5) (ai a5 (ar 7 nf (ai tt tv)))))))) ?_
    obtain rfl := os h
    exact Qcf.mk
   rcases is h with ⟨a6,h⟩ | ⟨a6,h⟩
   ·refine rgs hc none [oN,oc (.bool a2),oN,oN,oN,oN,some (.eqv (.no) ⟨[(16,I (s0.fPlus.length : Int))],[],[]⟩),oN,oN,oN,oN,oF,oN,oN,oN,some (.eqv (.no) ⟨[(25,I (s0.fTimes.length : Int))],[],[]⟩),oN,oN,oN,oN,oF,oN,o_,o_,o_,o_,o_,o_,o_,oT] [(1,.ra 1 0),(3,I s0.fSize),(39,.bool true)] (cq (Kie _ _ a3) K6o (ar 3 (nF a4) (ai (Qcz (d := 16) I s0.fPlus) (ar 5 (nF a4) (ar 3 a5 (ai (Qcz (d := 25) I s0.fTimes) (ar 5 a5 (ar 7 (neF a6) (ai a6 tv))))))))) ?_
    obtain rfl := os h
    exact Qcf.mk
   refine rgs hc none [oN,oc (.bool a2),oN,oN,oN,oN,some (.eqv (.no) ⟨[(16,I (s0.fPlus.length : Int))],[],[]⟩),oN,oN,oN,oN,oF,oN,oN,oN,some (.eqv (.no) ⟨[(25,I (s0.fTimes.length : Int))],[],[]⟩),oN,oN,oN,oN,oF,oN,oN,oN,some (.eqv (.no) ⟨[(34,I (s0.fBelow.length : Int))],[],[]⟩),oN,oN,oN,oN,oF] [(1,.ra 1 0),(3,I s0.fSize),(39,.bool ((s0.fBelow.length : Int) != (wr (s0.fSize * s0.fSize))))] (cq (Kie _ _ a3) K6o (ar 3 (nF a4) (ai (Qcz (d := 16) I s0.fPlus) (ar 5 (nF a4) (ar 3 a5 (ai (Qcz (d := 25) I s0.fTimes) (ar 5 a5 (ar 3 a6 (ai (Qcz (d := 34) AV.bool s0.fBelow) (ar 5 a6 tv)))))))))) ?_
   obtain rfl := os h
   exact Qcf.mk
  refine rgs hc none [oN,oc (.bool a2),oN,oN,o_,o_,o_,o_,o_,o_,o_,oT,oN,o_,o_,o_,o_,o_,o_,o_,oT,oN,o_,o_,o_,o_,o_,o_,o_,oT] [(1,.ra 1 0),(3,I s0.fSize),(39,.bool true)] (cq (Kie _ _ a3) K6o (ar 7 (neF (nT a4)) (ai (nT a4) (ar 7 nf (ai tt (ar 7 nf (ai tt tv))))))) ?_
  obtain rfl := os h
  exact Qcf.mk
 clear a1
 refine ic h (fun a7 h => ?_) fun a7 h => ?_
 ·refine rs0 hc 1 [(2,.bool false)] [] ?_
  refine rt ?_
  obtain rfl := os h
  exact rq [true]
 refine sk ?_
 refine sN ?_
 refine rss hc none [oN,oN,some (.eqv (.no) ⟨[(42,I (s0.fPlus.length : Int))],[],[]⟩),oN] [(1,.ra 1 0),(3,I s0.fSize),(42,I (s0.fPlus.length : Int)),(43,I 0)] (ai (Qcz (d := 42) I s0.fPlus) tv) ?_
 refine bk 0 ?_
 obtain ⟨fl,a8,h⟩ := Qct h
 have hL := Kje _ _ a8 c hc
 refine lp ?_
 rcases fl with ⟨⟩ | r
 ·refine WpL.into (e := (.exit 0)) (mkS [(1,.ra 1 0),(3,I s0.fSize)] [(1,K2d s0)]) hL ?_
  refine Qc7 ?_
  refine sN ?_
  refine K99 hc 1 [(1,.ra 1 0),(3,I s0.fSize),(5,I 0)] ?_
  refine bk 2 ?_
  obtain ⟨fl,a9,h⟩ := Qct h
  have hL := Kjq _ _ a9 c hc
  refine lp ?_
  rcases fl with ⟨⟩ | r
  ·refine WpL.into (e := (.exit 2)) (mkS [] []) hL ?_
   refine Qc7 ?_
   refine rs0 hc 1 [(2,.bool true)] [] ?_
   refine rt ?_
   obtain rfl := os h
   exact rq [true]
  refine WpL.mono hL ?_
  rintro _ _ ⟨rfl,hfin⟩
  obtain rfl := os h
  exact ⟨.inl rfl,hfin⟩
 refine WpL.mono hL ?_
 rintro _ _ ⟨rfl,hfin⟩
 obtain rfl := os h
 exact ⟨.inl rfl,hfin⟩
def Kju (code0 : Int) : Option (Int × Int) :=
 (Kic (code0,0,2)) >>= fun a0 =>
 if a0 = true then
 some (code0,(-1))
 else
 (Kic (code0,3,18)) >>= fun a1 =>
 if a1 = true then
 some (3,(wr (code0 - 3)))
 else
 (Kic (code0,19,34)) >>= fun a2 =>
 if a2 = true then
 some (4,(wr (code0 - 19)))
 else
 if (code0 == 35) = true then
 some (3,(-1))
 else
 if (code0 == 36) = true then
 some (4,(-1))
 else
 some (5,(-1))
def Kjv (code0 : Int) (r : Int × Int) : Prop :=
 Q71 Tryz.prog 182 [I code0] (.tup [I r.1,I r.2]) []
theorem Kjw : ∀ p r,Kju p = some r → Kjv p r := by
 rintro code0 r h
 unfold Kju at h
 refine b0 Tryz.f182 K71 24 [(0,I code0)] fun c hc => ?_
 refine rs0 hc 2 [(0,I code0)] [] ?_
 refine sN ?_
 refine bk 0 ?_
 obtain ⟨a0,a1,h⟩ := Qct h
 refine rs hc none [oN,oc (.bool a0),oN] [(0,I code0),(4,.bool a0)] [] (cq (Kie _ _ a1) K6o tv) ?_
 refine ic h (fun a2 h => ?_) fun a2 h => ?_
 ·refine rs0 hc 3 [(2,I code0),(3,I (-1))] [] ?_
  refine rt ?_
  obtain rfl := os h
  exact rq [true,true]
 obtain ⟨a3,a4,h⟩ := Qct h
 refine rs hc none [oN,oc (.bool a3),oN] [(0,I code0),(8,.bool a3)] [] (cq (Kie _ _ a4) K6o tv) ?_
 refine ic h (fun a5 h => ?_) fun a5 h => ?_
 ·refine rs0 hc 4 [(2,I 3),(3,I (wr (code0 - 3)))] [] ?_
  refine rt ?_
  obtain rfl := os h
  exact rq [true,true]
 obtain ⟨a6,a7,h⟩ := Qct h
 refine rs hc none [oN,oc (.bool a6),oN] [(0,I code0),(13,.bool a6)] [] (cq (Kie _ _ a7) K6o tv) ?_
 refine ic h (fun a8 h => ?_) fun a8 h => ?_
 ·refine rs0 hc 4 [(2,I 4),(3,I (wr (code0 - 19)))] [] ?_
  refine rt ?_
  obtain rfl := os h
  exact rq [true,true]
 refine rs0 hc 3 [(0,I code0),(18,.bool (code0 == 35))] [] ?_
 refine ic h (fun a9 h => ?_) fun a9 h => ?_
 ·refine rs0 hc 2 [(2,I 3),(3,I (-1))] [] ?_
  refine rt ?_
  obtain rfl := os h
  exact rq [true,true]
 refine rs0 hc 3 [(21,.bool (code0 == 36))] [] ?_
 refine ic h (fun b1 h => ?_) fun b1 h => ?_
 ·refine rs0 hc 2 [(2,I 4),(3,I (-1))] [] ?_
  refine rt ?_
  obtain rfl := os h
  exact rq [true,true]
 refine sk ?_
 refine rs0 hc 2 [(2,I 5),(3,I (-1))] [] ?_
 refine rt ?_
 obtain rfl := os h
 exact rq [true,true]
def Kjx (p : (List Int) × Int) : Option (Int) :=
 match p with
 | (ty0,at1) =>
  ((
  if (decide (at1 < 0)) = true then
  some (true)
  else
  some ((decide (at1 ≥ (ty0.length : Int))))
  ) : Option (Bool)) >>= fun a0 =>
  if a0 = true then
  some (-1)
  else
  (idx ty0 at1) >>= fun a1 =>
  (Kju a1) >>= fun (a2,a3) =>
  if (a2 == 0) = true then
  some (wr (at1 + 1))
  else
  if (a2 == 4) = true then
  (Kjx (ty0,(wr (at1 + 1)))) >>= fun a4 =>
  some a4
  else
  if (a2 == 5) = true then
  some (-1)
  else
  (Kjx (ty0,(wr (at1 + 1)))) >>= fun a5 =>
  (Kjx (ty0,a5)) >>= fun a6 =>
  some a6
 partial_fixpoint
def Kjy (p : (List Int) × Int) (r : Int) : Prop :=
 match p with
 | (ty0,at1) => Q71 Tryz.prog 186 [sI ty0,I at1] (I r) []
theorem Kjz : ∀ p r,Kjx p = some r → Kjy p r := by
 refine Kjx.partial_correctness Kjy ?_
 rintro impl_typeEnd_f impl_typeEnd_ih ⟨ty0,at1⟩ r h
 refine b0 Tryz.f186 K73 42 [(0,sI ty0),(1,I at1)] fun c hc => ?_
 refine rs0 hc 1 [(0,sI ty0),(1,I at1)] [] ?_
 refine sN ?_
 refine sN ?_
 obtain ⟨a0,a1,h⟩ := Qct h
 refine Wp.into (x := .normal) (mkS [(0,sI ty0),(1,I at1),(14,.bool a0)] []) ?_ ?_
 ·replace h := a1
  rcases is h with ⟨a2,h⟩ | ⟨a2,h⟩
  ·refine rg hc none [oN,oN,oN,o_,o_,o_,o_,oT] [(0,sI ty0),(1,I at1),(14,.bool true)] [] (ar 4 (neF a2) (ai a2 tv)) ?_
   obtain rfl := os h
   exact Qcf.mk
  refine rg hc none [oN,oN,oN,oN,oN,some (.eqv (.no) ⟨[(12,I (ty0.length : Int))],[],[]⟩),oN,oF] [(0,sI ty0),(1,I at1),(14,.bool (decide (at1 ≥ (ty0.length : Int))))] [] (ar 3 a2 (ai (Qcz (d := 12) I ty0) (ar 2 a2 tv))) ?_
  obtain rfl := os h
  exact Qcf.mk
 clear a1
 refine ic h (fun a3 h => ?_) fun a3 h => ?_
 ·refine rs0 hc 1 [(4,I (-1))] [] ?_
  refine rt ?_
  obtain rfl := os h
  exact rq [true]
 refine sk ?_
 obtain ⟨a4,a5,⟨a6,a7⟩,a8,h⟩ := bq2 h
 refine rs hc none [oN,oN,some (.el (I a4)),oN,oc (.tup [I a6,I a7]),oN,oN,oN,oN,oN] [(0,sI ty0),(1,I at1),(5,I a6)] [] (ai (ix a5) (cq (Kjw _ _ a8) K72 tv)) ?_
 refine sN ?_
 refine rs0 hc 1 [(0,sI ty0),(1,I at1),(23,I a6)] [] ?_
 refine bk 0 ?_
 refine rs0 hc 2 [(0,sI ty0),(1,I at1),(23,I a6),(24,.bool (a6 == 0))] [] ?_
 refine ic h (fun a9 h => ?_) fun a9 h => ?_
 ·refine rs0 hc 3 [(4,I (wr (at1 + 1)))] [] ?_
  refine rt ?_
  obtain rfl := os h
  exact rq [true]
 refine rs0 hc 2 [(0,sI ty0),(1,I at1),(23,I a6),(28,.bool (a6 == 4))] [] ?_
 refine ic h (fun b1 h => ?_) fun b1 h => ?_
 ·obtain ⟨b2,b3,h⟩ := Qct h
  refine rs hc none [oN,oN,oN,oc (I b2),oN] [(4,I b2)] [] (cq (impl_typeEnd_ih _ _ b3) K74 tv) ?_
  refine rt ?_
  obtain rfl := os h
  exact rq [true]
 refine rs0 hc 2 [(0,sI ty0),(1,I at1),(34,.bool (a6 == 5))] [] ?_
 refine ic h (fun b4 h => ?_) fun b4 h => ?_
 ·refine rs0 hc 1 [(4,I (-1))] [] ?_
  refine rt ?_
  obtain rfl := os h
  exact rq [true]
 refine sk ?_
 obtain ⟨b5,b6,b7,b8,h⟩ := bq2 h
 refine rs hc none [oN,oN,oN,oN,oc (I b5),oc (I b7),oN] [(4,I b7)] [] (cq (impl_typeEnd_ih _ _ b6) K74 (cq (impl_typeEnd_ih _ _ b8) K74 tv)) ?_
 refine rt ?_
 obtain rfl := os h
 exact rq [true]
def Kk0 (ty0 : (List Int)) : Option (Bool) :=
 ((
 (Kic ((ty0.length : Int),1,40)) >>= fun a0 =>
 if a0 = true then
 (Kjx (ty0,0)) >>= fun a1 =>
 some ((a1 == (ty0.length : Int)))
 else
 some (false)
 ) : Option (Bool)) >>= fun a2 =>
 some a2
def Kk1 (ty0 : (List Int)) (r : Bool) : Prop :=
 Q71 Tryz.prog 118 [sI ty0] (.bool r) []
theorem Kk2 : ∀ p r,Kk0 p = some r → Kk1 p r := by
 rintro ty0 r h
 unfold Kk0 at h
 refine b0 Tryz.f118 K75 13 [(0,sI ty0)] fun c hc => ?_
 refine rs0 hc 1 [(0,sI ty0)] [] ?_
 refine sN ?_
 obtain ⟨a0,a1,h⟩ := Qct h
 refine Wp.into (x := .normal) (mkS [(2,.bool a0)] []) ?_ ?_
 ·replace h := a1
  obtain ⟨a2,a3,h⟩ := Qct h
  rcases is h with ⟨a4,h⟩ | ⟨a4,h⟩
  ·obtain ⟨a5,a6,h⟩ := Qct h
   refine rg hc none [oN,some (.eqv (.no) ⟨[(4,I (ty0.length : Int))],[],[]⟩),oc (.bool a2),oN,oN,oc (I a5),oN,some (.eqv (.no) ⟨[(10,I (ty0.length : Int))],[],[]⟩),oN,oT,oN] [(2,.bool (a5 == (ty0.length : Int)))] [] (ai (Qcz (d := 4) I ty0) (cq (Kie _ _ a3) K6o (ar 2 a4 (cq (Kjz _ _ a6) K74 (ar 2 a4 (ai (Qcz (d := 10) I ty0) (ar 2 a4 tv))))))) ?_
   obtain rfl := os h
   exact Qcf.mk
  refine rg hc none [oN,some (.eqv (.no) ⟨[(4,I (ty0.length : Int))],[],[]⟩),oc (.bool a2),oN,o_,o_,o_,o_,o_,oF,oN] [(2,.bool false)] [] (ai (Qcz (d := 4) I ty0) (cq (Kie _ _ a3) K6o (ar 5 (neT a4) (ai a4 tv)))) ?_
  obtain rfl := os h
  exact Qcf.mk
 clear a1
 refine rt ?_
 obtain rfl := os h
 exact rq [true]
def Kk3 (c : Ctx) : (Unit) ⊕ (Bool) → Exit → Q0a → Prop
 | .inl _ => Qcf c (.exit 0) (mkS [] [])
 | .inr r => Qco TIx Tryz.f210 [] (.bool r)
def Kk4 (p : K00 × (List Int) × Int) : Option ((Unit) ⊕ (Bool)) :=
 match p with
 | (s0,ty1,a0) =>
  if (decide (a0 < (ty1.length : Int))) = true then
  (idx ty1 a0) >>= fun a1 =>
  (Kju a1) >>= fun (a2,a3) =>
  ((
  if (a2 == 3) = true then
  (Kif (s0,a3)) >>= fun a4 =>
  some ((!a4))
  else
  if (a2 == 4) = true then
  (Kif (s0,a3)) >>= fun a4 =>
  some ((!a4))
  else
  some (false)
  ) : Option (Bool)) >>= fun a5 =>
  if a5 = true then
  some (.inr false)
  else
  Kk4 (s0,ty1,(wr (a0 + 1)))
  else
  some (.inl ())
 partial_fixpoint
def Kk5 (p : K00 × (List Int) × Int) (fl : (Unit) ⊕ (Bool)) : Prop :=
 match p with
 | (s0,ty1,a0) => ∀ c : Ctx,c.nt = 36 → WpL Tryz.prog c (cl (cl (cr (cl (cr (cr K77)))))) (Kk3 c fl) (mkS [(2,.ra 1 0),(12,sI ty1),(13,I (ty1.length : Int)),(14,I a0)] [(1,K2d s0)])
theorem Kk6 : ∀ p r,Kk4 p = some r → Kk5 p r := by
 refine Kk4.partial_correctness Kk5 ?_
 rintro impl_isTypeOf_l0_f impl_isTypeOf_l0_ih ⟨s0,ty1,a0⟩ r h
 intro c hc
 refine WpL.step ?_
 refine K99 hc 1 [(2,.ra 1 0),(12,sI ty1),(13,I (ty1.length : Int)),(14,I a0),(15,.bool (decide (a0 < (ty1.length : Int))))] ?_
 refine sN ?_
 refine ic h (fun a1 h => ?_) fun a1 h => ?_
 ·refine sk ?_
  refine sN ?_
  refine bk 1 ?_
  obtain ⟨a2,a3,h⟩ := Qct h
  refine rss hc none [some (.el (I a2)),oN,oN] [(2,.ra 1 0),(6,I a2),(12,sI ty1),(13,I (ty1.length : Int)),(14,I a0)] (ai (ix a3) tv) ?_
  obtain ⟨⟨a4,a5⟩,a6,h⟩ := Qct h
  refine rss hc none [oN,oc (.tup [I a4,I a5]),oN,oN,oN,oN,oN] [(2,.ra 1 0),(7,I a4),(8,I a5),(12,sI ty1),(13,I (ty1.length : Int)),(14,I a0)] (cq (Kjw _ _ a6) K72 tv) ?_
  refine sN ?_
  obtain ⟨a7,a8,h⟩ := Qct h
  refine Wp.into (x := .normal) (mkS [(2,.ra 1 0),(12,sI ty1),(13,I (ty1.length : Int)),(14,I a0),(34,.bool a7)] [(1,K2d s0)]) ?_ ?_
  ·replace h := a8
   rcases is h with ⟨a9,h⟩ | ⟨a9,h⟩
   ·obtain ⟨b1,b2,h⟩ := Qct h
    refine rgs hc none [oN,oN,oN,o_,o_,oT,oN,oN,oN,oc (.bool b1),oN,oT] [(2,.ra 1 0),(12,sI ty1),(13,I (ty1.length : Int)),(14,I a0),(34,.bool (!b1))] (ar 2 (neF a9) (ai a9 (ar 3 tt (cq (Kih _ _ b2) K6p (ar 2 tt tv))))) ?_
    obtain rfl := os h
    exact Qcf.mk
   rcases is h with ⟨b3,h⟩ | ⟨b3,h⟩
   ·obtain ⟨b1,b2,h⟩ := Qct h
    refine rgs hc none [oN,oN,oN,oN,oN,oF,oN,oN,oN,oc (.bool b1),oN,oT] [(2,.ra 1 0),(12,sI ty1),(13,I (ty1.length : Int)),(14,I a0),(34,.bool (!b1))] (ar 3 a9 (ar 3 b3 (cq (Kih _ _ b2) K6p (ar 2 b3 tv)))) ?_
    obtain rfl := os h
    exact Qcf.mk
   refine rgs hc none [oN,oN,oN,oN,oN,oF,oN,o_,o_,o_,o_,oF] [(2,.ra 1 0),(12,sI ty1),(13,I (ty1.length : Int)),(14,I a0),(34,.bool false)] (ar 3 a9 (ar 4 (neT b3) (ai b3 tv))) ?_
   obtain rfl := os h
   exact Qcf.mk
  clear a8
  refine ic h (fun b4 h => ?_) fun b4 h => ?_
  ·refine rs0 hc 1 [(4,.bool false)] [] ?_
   refine rt ?_
   obtain rfl := os h
   exact re [true]
  refine sk ?_
  refine K98 hc 2 [(2,.ra 1 0),(12,sI ty1),(13,I (ty1.length : Int)),(14,I (wr (a0 + 1)))] ?_
  refine Qcb ?_
  exact (impl_isTypeOf_l0_ih _ _ h c hc)
 refine xt 0 ?_
 refine Qc5 ?_
 refine Qcc ?_
 obtain rfl := os h
 exact iv []
def Kk7 (p : K00 × (List Int)) : Option (Bool) :=
 match p with
 | (s0,ty1) =>
  (Kk0 ty1) >>= fun a0 =>
  if a0 = true then
  (Kk4 (s0,ty1,0)) >>= fun fl => match fl with
  | .inl () =>
   some true
  | .inr r =>
   some r
  else
  some false
def Kk8 (p : K00 × (List Int)) (r : Bool) : Prop :=
 match p with
 | (s0,ty1) => Q71 Tryz.prog 210 [K2e s0,sI ty1] (.bool r) []
theorem Kk9 : ∀ p r,Kk7 p = some r → Kk8 p r := by
 rintro ⟨s0,ty1⟩ r h
 unfold Kk7 at h
 refine b0 Tryz.f210 K77 36 [(0,K2e s0),(1,sI ty1)] fun c hc => ?_
 refine rs hc none [some (.new 1),oN] [(1,sI ty1),(2,.ra 1 0)] [(1,K2d s0)] tv ?_
 refine sN ?_
 obtain ⟨a0,a1,h⟩ := Qct h
 refine rss hc none [oN,oc (.bool a0),oN] [(1,sI ty1),(2,.ra 1 0),(11,.bool (!a0))] (cq (Kk2 _ _ a1) K76 tv) ?_
 rcases is h with ⟨a2,h⟩ | ⟨a2,h⟩
 ·refine cF (!a0) (nF a2) ?_
  refine sk ?_
  refine sN ?_
  refine rss hc none [oN,some (.eqv (.no) ⟨[(13,I (ty1.length : Int))],[],[]⟩),oN] [(2,.ra 1 0),(12,sI ty1),(13,I (ty1.length : Int)),(14,I 0)] (ai (Qcz (d := 13) I ty1) tv) ?_
  refine bk 0 ?_
  obtain ⟨fl,a3,h⟩ := Qct h
  have hL := Kk6 _ _ a3 c hc
  refine lp ?_
  rcases fl with ⟨⟩ | r
  ·refine WpL.into (e := (.exit 0)) (mkS [] []) hL ?_
   refine Qc7 ?_
   refine rs0 hc 1 [(4,.bool true)] [] ?_
   refine rt ?_
   obtain rfl := os h
   exact rq [true]
  refine WpL.mono hL ?_
  rintro _ _ ⟨rfl,hfin⟩
  obtain rfl := os h
  exact ⟨.inl rfl,hfin⟩
 refine cT (!a0) (nT a2) ?_
 refine rs0 hc 1 [(4,.bool false)] [] ?_
 refine rt ?_
 obtain rfl := os h
 exact rq [true]
def Kka (op0 : Int) : Option (K04 × Bool) :=
 (Kic (op0,0,12)) >>= fun a0 =>
 if a0 = true then
 (idx [(K04.mk (ByteArray.mk #[120]) 0 false false),(K04.mk ByteArray.empty 0 false false),(K04.mk (ByteArray.mk #[97,100,100]) 2 false false),(K04.mk (ByteArray.mk #[105,102]) 3 false false),(K04.mk (ByteArray.mk #[112,97,105,114]) 2 false false),(K04.mk (ByteArray.mk #[115,112,108,105,116]) 2 true false),(K04.mk (ByteArray.mk #[108,101,102,116]) 1 false true),(K04.mk (ByteArray.mk #[114,105,103,104,116]) 1 false true),(K04.mk (ByteArray.mk #[99,97,115,101]) 3 true false),(K04.mk (ByteArray.mk #[102,117,110]) 1 true true),(K04.mk (ByteArray.mk #[97,112,112]) 2 false false),(K04.mk (ByteArray.mk #[98,111,120]) 1 true false),(K04.mk (ByteArray.mk #[111,112,101,110]) 2 true false)] op0) >>= fun a1 =>
 some (a1,true)
 else
 some ((K04.mk ByteArray.empty 0 false false),false)
def Kkb (op0 : Int) (r : K04 × Bool) : Prop :=
 Q71 Tryz.prog 184 [I op0] (.tup [.agg [.str r.1.fword,I r.1.fkids,.bool r.1.fgrade,.bool r.1.ftyped],.bool r.2]) []
theorem Kkc : ∀ p r,Kka p = some r → Kkb p r := by
 rintro op0 r h
 unfold Kka at h
 refine b0 Tryz.f184 K79 25 [(0,I op0)] fun c hc => ?_
 refine rs hc none [some (.new 1),oN] [(0,I op0),(2,.ra 1 0)] [(1,.box [.str ByteArray.empty,I 0,.bool false,.bool false])] tv ?_
 refine sN ?_
 obtain ⟨a0,a1,h⟩ := Qct h
 refine rss hc none [oN,oc (.bool a0),oN] [(0,I op0),(2,.ra 1 0),(6,.bool (!a0))] (cq (Kie _ _ a1) K6o tv) ?_
 rcases is h with ⟨a2,h⟩ | ⟨a2,h⟩
 ·refine cF (!a0) (nF a2) ?_
  refine sk ?_
  obtain ⟨a3,a4,h⟩ := Qct h
  refine rs hc none [oN,oN,oN,oN,oN,oN,oN,oN,oN,oN,oN,oN,oN,some (.mk 2 true),oN,oN,some (.el (.agg [.str a3.fword,I a3.fkids,.bool a3.fgrade,.bool a3.ftyped])),oN,oN] [(2,.ra 1 0),(3,.bool true)] [(1,.box [.str a3.fword,I a3.fkids,.bool a3.fgrade,.bool a3.ftyped])] (ab (Qcy (enc := K16) a4) (Qcx (enc := K16) (x := .agg [.str a3.fword,I a3.fkids,.bool a3.fgrade,.bool a3.ftyped]) a4 (K23 a3)).2 tv) ?_
  refine rt ?_
  obtain rfl := os h
  exact rq [true,true]
 refine cT (!a0) (nT a2) ?_
 refine K99 hc 3 [(2,.ra 1 0),(3,.bool false)] ?_
 refine rt ?_
 obtain rfl := os h
 exact rq [true,true]
def Kkd (p : (List Int) × K00) : Option (Bool) :=
 match p with
 | (ty0,cap0) =>
  (Kk7 (cap0,ty0)) >>= fun a0 =>
  some a0
def Kke (p : (List Int) × K00) (r : Bool) : Prop :=
 match p with
 | (ty0,cap0) => Q71 Tryz.prog 216 [sI ty0,.ptr [I cap0.fSize,sI cap0.fPlus,sI cap0.fTimes,sB cap0.fBelow] 0] (.bool r) []
theorem Kkf : ∀ p r,Kkd p = some r → Kke p r := by
 rintro ⟨ty0,cap0⟩ r h
 unfold Kkd at h
 refine b0 Tryz.f216 K7b 7 [(0,sI ty0),(1,.ptr [I cap0.fSize,sI cap0.fPlus,sI cap0.fTimes,sB cap0.fBelow] 0)] fun c hc => ?_
 refine rs0 hc 1 [(0,sI ty0),(1,.ptr [I cap0.fSize,sI cap0.fPlus,sI cap0.fTimes,sB cap0.fBelow] 0)] [] ?_
 obtain ⟨a0,a1,h⟩ := Qct h
 refine rs hc none [oN,oN,oc (.bool a0),oN] [(3,.bool a0)] [] (cq (Kk9 _ _ a1) K78 tv) ?_
 refine rt ?_
 obtain rfl := os h
 exact rq [true]
def Kkg (p : Int × Int) : Option (Int) :=
 match p with
 | (op0,kid1) =>
  ((
  if (op0 == 5) = true then
  some ((kid1 == 1))
  else
  some (false)
  ) : Option (Bool)) >>= fun a0 =>
  if a0 = true then
  some 2
  else
  ((
  if (op0 == 8) = true then
  some ((decide (kid1 > 0)))
  else
  some (false)
  ) : Option (Bool)) >>= fun a1 =>
  ((
  if a1 = true then
  some (a1)
  else
  ((
  if (op0 == 9) = true then
  some ((op0 == 9))
  else
  ((
  if (op0 == 12) = true then
  some ((kid1 == 1))
  else
  some (false)
  ) : Option (Bool)) >>= fun a2 =>
  some (a2)
  ) : Option (Bool)) >>= fun a3 =>
  some (a3)
  ) : Option (Bool)) >>= fun a4 =>
  if a4 = true then
  some 1
  else
  some 0
def Kkh (p : Int × Int) (r : Int) : Prop :=
 match p with
 | (op0,kid1) => Q71 Tryz.prog 185 [I op0,I kid1] (I r) []
theorem Kki : ∀ p r,Kkg p = some r → Kkh p r := by
 rintro ⟨op0,kid1⟩ r h
 unfold Kkg at h
 refine b0 Tryz.f185 K7d 27 [(0,I op0),(1,I kid1)] fun c hc => ?_
 refine rs0 hc 1 [(0,I op0),(1,I kid1)] [] ?_
 refine sN ?_
 refine bk 0 ?_
 refine sN ?_
 obtain ⟨a0,a1,h⟩ := Qct h
 refine Wp.into (x := .normal) (mkS [(0,I op0),(1,I kid1),(5,.bool a0)] []) ?_ ?_
 ·replace h := a1
  rcases is h with ⟨a2,h⟩ | ⟨a2,h⟩
  ·refine rg hc none [oN,oN,oN,oN,oN,oT,oN] [(0,I op0),(1,I kid1),(5,.bool (kid1 == 1))] [] (ar 3 a2 tv) ?_
   obtain rfl := os h
   exact Qcf.mk
  refine rg hc none [oN,oN,oN,o_,o_,oF,oN] [(0,I op0),(1,I kid1),(5,.bool false)] [] (ar 2 (neT a2) (ai a2 tv)) ?_
  obtain rfl := os h
  exact Qcf.mk
 clear a1
 refine ic h (fun a3 h => ?_) fun a3 h => ?_
 ·refine rs0 hc 1 [(4,I 2)] [] ?_
  refine rt ?_
  obtain rfl := os h
  exact rq [true]
 refine sN ?_
 refine sN ?_
 obtain ⟨a4,a5,h⟩ := Qct h
 refine Wp.into (x := .normal) (mkS [(0,I op0),(1,I kid1),(12,.bool a4)] []) ?_ ?_
 ·replace h := a5
  rcases is h with ⟨a6,h⟩ | ⟨a6,h⟩
  ·refine rg hc none [oN,oN,oN,oN,oN,oT,oN] [(0,I op0),(1,I kid1),(12,.bool (decide (kid1 > 0)))] [] (ar 3 a6 tv) ?_
   obtain rfl := os h
   exact Qcf.mk
  refine rg hc none [oN,oN,oN,o_,o_,oF,oN] [(0,I op0),(1,I kid1),(12,.bool false)] [] (ar 2 (neT a6) (ai a6 tv)) ?_
  obtain rfl := os h
  exact Qcf.mk
 clear a5
 obtain ⟨a7,a8,h⟩ := Qct h
 refine Wp.into (x := .normal) (mkS [(12,.bool a7)] []) ?_ ?_
 ·replace h := a8
  refine ic h (fun a9 h => ?_) fun a9 h => ?_
  ·refine sk ?_
   obtain rfl := os h
   exact iv []
  refine rs0 hc 3 [(0,I op0),(1,I kid1),(12,.bool (op0 == 9))] [] ?_
  obtain ⟨b1,b2,h⟩ := Qct h
  refine Wp.into (x := .normal) (mkS [(12,.bool b1)] []) ?_ ?_
  ·replace h := b2
   refine ic h (fun b3 h => ?_) fun b3 h => ?_
   ·refine sk ?_
    obtain rfl := os h
    exact iv []
   obtain ⟨b4,b5,h⟩ := Qct h
   refine Wp.into (x := .normal) (mkS [(12,.bool b4)] []) ?_ ?_
   ·replace h := b5
    rcases is h with ⟨b6,h⟩ | ⟨b6,h⟩
    ·refine rg hc none [oN,oN,oN,oN,oN,oT,oN] [(12,.bool (kid1 == 1))] [] (ar 3 b6 tv) ?_
     obtain rfl := os h
     exact Qcf.mk
    refine rg hc none [oN,oN,oN,o_,o_,oF,oN] [(12,.bool false)] [] (ar 2 (neT b6) (ai b6 tv)) ?_
    obtain rfl := os h
    exact Qcf.mk
   clear b5
   obtain rfl := os h
   exact Qcf.mk
  clear b2
  obtain rfl := os h
  exact Qcf.mk
 clear a8
 refine ic h (fun b7 h => ?_) fun b7 h => ?_
 ·refine rs0 hc 1 [(4,I 1)] [] ?_
  refine rt ?_
  obtain rfl := os h
  exact rq [true]
 refine sk ?_
 refine rs0 hc 1 [(4,I 0)] [] ?_
 refine rt ?_
 obtain rfl := os h
 exact rq [true]
def Kkj (c : Ctx) : (Int) ⊕ (Int) → Exit → Q0a → Prop
 | .inl a0 => Qcf c (.exit 1) (mkS [(4,I a0)] [])
 | .inr r => Qco TIx Tryz.f117 [] (I r)
mutual
def Kkk (p : K01 × Int × K00 × K00 × Int) : Option (Int) :=
 match p with
 | (t0,n1,clo2_0,clo3_0,nodes4) =>
  (Kka t0.fOp) >>= fun (a0,a1) =>
  ((
  if a1 = true then
  if (decide ((wr (nodes4 + 1)) > 400)) = true then
   some (true)
  else
   some (((t0.fKids.length : Int) != a0.fkids))
  else
  some (true)
  ) : Option (Bool)) >>= fun a2 =>
  if a2 = true then
  some 401
  else
  ((
  if (t0.fOp == 0) = true then
   (Kic (t0.fN,0,(wr (n1 - 1)))) >>= fun a3 =>
   some (a3)
  else
   ((
   if (t0.fOp == 1) = true then
   (Kic (t0.fN,0,2)) >>= fun a4 =>
   some (a4)
   else
   ((
   if a0.fgrade = true then
   (Kif (clo2_0,t0.fN)) >>= fun a5 =>
   some (a5)
   else
   some ((t0.fN == 0))
   ) : Option (Bool)) >>= fun a6 =>
   some (a6)
   ) : Option (Bool)) >>= fun a7 =>
   some (a7)
  ) : Option (Bool)) >>= fun a8 =>
  ((
  if a0.ftyped = true then
   ((
   if a8 = true then
   (Kkd (t0.fType,clo3_0)) >>= fun a9 =>
   some (a9)
   else
   some (false)
   ) : Option (Bool)) >>= fun b1 =>
   some (b1)
  else
   ((
   if a8 = true then
   some (((t0.fType.length : Int) == 0))
   else
   some (false)
   ) : Option (Bool)) >>= fun b2 =>
   some (b2)
  ) : Option (Bool)) >>= fun b3 =>
  if b3 = true then
  (Kkl (t0,n1,clo2_0,clo3_0,(wr (nodes4 + 1)),0)) >>= fun fl => match fl with
  | .inl b4 =>
   some b4
  | .inr r =>
   some r
  else
  some 401
 partial_fixpoint
def Kkl (p : K01 × Int × K00 × K00 × Int × Int) : Option ((Int) ⊕ (Int)) :=
 match p with
 | (t0,n1,clo2_0,clo3_0,a0,a1) =>
  if (decide (a1 < (t0.fKids.length : Int))) = true then
  (idx t0.fKids a1) >>= fun a2 =>
  (Kkg (t0.fOp,a1)) >>= fun a3 =>
  (Kkk (a2,(wr (n1 + a3)),clo2_0,clo3_0,a0)) >>= fun a4 =>
  if (decide (a4 > 400)) = true then
  some (.inr 401)
  else
  Kkl (t0,n1,clo2_0,clo3_0,a4,(wr (a1 + 1)))
  else
  some (.inl a0)
 partial_fixpoint
end
def Kkm (p : K01 × Int × K00 × K00 × Int) (r : Int) : Prop :=
 match p with
 | (t0,n1,clo2_0,clo3_0,nodes4) => Q71 Tryz.prog 117 [K2g t0,I n1,.fnb 85 [K2e clo2_0],.fn 216 [.ptr [I clo3_0.fSize,sI clo3_0.fPlus,sI clo3_0.fTimes,sB clo3_0.fBelow] 0],I nodes4] (I r) []
def Kkn (p : K01 × Int × K00 × K00 × Int × Int) (fl : (Int) ⊕ (Int)) : Prop :=
 match p with
 | (t0,n1,clo2_0,clo3_0,a0,a1) => ∀ c : Ctx,c.nt = 104 → WpL Tryz.prog c (cl (cl (cr (cl (cr (cr (cr (cr (cr (cr (cr K7f))))))))))) (Kkj c fl) (mkS [(1,I n1),(2,.fnb 85 [K2e clo2_0]),(3,.fn 216 [.ptr [I clo3_0.fSize,sI clo3_0.fPlus,sI clo3_0.fTimes,sB clo3_0.fBelow] 0]),(4,I a0),(5,.ra 1 0),(82,.sl (List.map K0s t0.fKids)),(83,I (t0.fKids.length : Int)),(84,I a1)] [(1,K2f t0)])
theorem Kko : (∀ p r,Kkk p = some r → Kkm p r) ∧ (∀ p r,Kkl p = some r → Kkn p r) := by
 refine Kkk.mutual_partial_correctness Kkm Kkn ?_ ?_
 ·rintro impl_check_Kimpl_Systemhas_Kimpl_isJudgment_c1_l0_f impl_check_Kimpl_Systemhas_Kimpl_isJudgment_c1_l0_ih ⟨t0,n1,clo2_0,clo3_0,nodes4⟩ r h
  refine b0 Tryz.f117 K7f 104 [(0,K2g t0),(1,I n1),(2,.fnb 85 [K2e clo2_0]),(3,.fn 216 [.ptr [I clo3_0.fSize,sI clo3_0.fPlus,sI clo3_0.fTimes,sB clo3_0.fBelow] 0]),(4,I nodes4)] fun c hc => ?_
  refine rs hc none [some (.new 1),oN] [(1,I n1),(2,.fnb 85 [K2e clo2_0]),(3,.fn 216 [.ptr [I clo3_0.fSize,sI clo3_0.fPlus,sI clo3_0.fTimes,sB clo3_0.fBelow] 0]),(4,I nodes4),(5,.ra 1 0)] [(1,K2f t0)] tv ?_
  refine K99 hc 3 [(1,I n1),(2,.fnb 85 [K2e clo2_0]),(3,.fn 216 [.ptr [I clo3_0.fSize,sI clo3_0.fPlus,sI clo3_0.fTimes,sB clo3_0.fBelow] 0]),(4,I (wr (nodes4 + 1))),(5,.ra 1 0)] ?_
  obtain ⟨⟨a0,a1⟩,a2,h⟩ := Qct h
  refine rs hc none [oN,oN,oc (.tup [.agg [.str a0.fword,I a0.fkids,.bool a0.fgrade,.bool a0.ftyped],.bool a1]),oN,oN,oN,some (.new 2),oN,oN] [(1,I n1),(2,.fnb 85 [K2e clo2_0]),(3,.fn 216 [.ptr [I clo3_0.fSize,sI clo3_0.fPlus,sI clo3_0.fTimes,sB clo3_0.fBelow] 0]),(4,I (wr (nodes4 + 1))),(5,.ra 1 0),(11,.ra 2 0),(12,.bool a1)] [(1,K2f t0),(2,.box [.str a0.fword,I a0.fkids,.bool a0.fgrade,.bool a0.ftyped])] (cq (Kkc _ _ a2) K7a tv) ?_
  refine sN ?_
  refine sN ?_
  obtain ⟨a3,a4,h⟩ := Qct h
  refine Wp.into (x := .normal) (mkS [(1,I n1),(2,.fnb 85 [K2e clo2_0]),(3,.fn 216 [.ptr [I clo3_0.fSize,sI clo3_0.fPlus,sI clo3_0.fTimes,sB clo3_0.fBelow] 0]),(4,I (wr (nodes4 + 1))),(5,.ra 1 0),(11,.ra 2 0),(36,.bool a3)] [(1,K2f t0),(2,.box [.str a0.fword,I a0.fkids,.bool a0.fgrade,.bool a0.ftyped])]) ?_ ?_
  ·replace h := a4
   rcases is h with ⟨a5,h⟩ | ⟨a5,h⟩
   ·rcases is h with ⟨a6,h⟩ | ⟨a6,h⟩
    ·refine rgs hc none [oN,oN,oN,oN,oN,oF,oN,o_,o_,o_,o_,o_,o_,oT] [(1,I n1),(2,.fnb 85 [K2e clo2_0]),(3,.fn 216 [.ptr [I clo3_0.fSize,sI clo3_0.fPlus,sI clo3_0.fTimes,sB clo3_0.fBelow] 0]),(4,I (wr (nodes4 + 1))),(5,.ra 1 0),(11,.ra 2 0),(36,.bool true)] (ar 3 (nF a5) (ar 6 (neF a6) (ai a6 tv))) ?_
     obtain rfl := os h
     exact Qcf.mk
    refine rgs hc none [oN,oN,oN,oN,oN,oF,oN,oN,oN,some (.eqv (.no) ⟨[(32,I (t0.fKids.length : Int))],[],[]⟩),oN,oN,oN,oF] [(1,I n1),(2,.fnb 85 [K2e clo2_0]),(3,.fn 216 [.ptr [I clo3_0.fSize,sI clo3_0.fPlus,sI clo3_0.fTimes,sB clo3_0.fBelow] 0]),(4,I (wr (nodes4 + 1))),(5,.ra 1 0),(11,.ra 2 0),(36,.bool ((t0.fKids.length : Int) != a0.fkids))] (ar 3 (nF a5) (ar 3 a6 (ai (Qcz (d := 32) K0s t0.fKids) (ar 4 a6 tv)))) ?_
    obtain rfl := os h
    exact Qcf.mk
   refine rgs hc none [oN,oN,oN,o_,o_,oT,oN,o_,o_,o_,o_,o_,o_,oT] [(1,I n1),(2,.fnb 85 [K2e clo2_0]),(3,.fn 216 [.ptr [I clo3_0.fSize,sI clo3_0.fPlus,sI clo3_0.fTimes,sB clo3_0.fBelow] 0]),(4,I (wr (nodes4 + 1))),(5,.ra 1 0),(11,.ra 2 0),(36,.bool true)] (ar 2 (neF (nT a5)) (ai (nT a5) (ar 6 nf (ai tt tv)))) ?_
   obtain rfl := os h
   exact Qcf.mk
  clear a4
  refine ic h (fun a7 h => ?_) fun a7 h => ?_
  ·refine rs0 hc 1 [(10,I 401)] [] ?_
   refine rt ?_
   obtain rfl := os h
   exact rq [true]
  refine sk ?_
  refine sN ?_
  refine bk 0 ?_
  refine K99 hc 4 [(1,I n1),(2,.fnb 85 [K2e clo2_0]),(3,.fn 216 [.ptr [I clo3_0.fSize,sI clo3_0.fPlus,sI clo3_0.fTimes,sB clo3_0.fBelow] 0]),(4,I (wr (nodes4 + 1))),(5,.ra 1 0),(11,.ra 2 0),(40,.bool (t0.fOp == 0))] ?_
  obtain ⟨a8,a9,h⟩ := Qct h
  refine Wp.into (x := .normal) (mkS [(1,I n1),(2,.fnb 85 [K2e clo2_0]),(3,.fn 216 [.ptr [I clo3_0.fSize,sI clo3_0.fPlus,sI clo3_0.fTimes,sB clo3_0.fBelow] 0]),(4,I (wr (nodes4 + 1))),(5,.ra 1 0),(11,.ra 2 0),(12,.bool a8)] [(1,K2f t0),(2,.box [.str a0.fword,I a0.fkids,.bool a0.fgrade,.bool a0.ftyped])]) ?_ ?_
  ·replace h := a9
   refine ic h (fun b1 h => ?_) fun b1 h => ?_
   ·obtain ⟨b2,b3,h⟩ := Qct h
    refine rgs hc none [oN,oN,oN,oN,oc (.bool b2),oN] [(1,I n1),(2,.fnb 85 [K2e clo2_0]),(3,.fn 216 [.ptr [I clo3_0.fSize,sI clo3_0.fPlus,sI clo3_0.fTimes,sB clo3_0.fBelow] 0]),(4,I (wr (nodes4 + 1))),(5,.ra 1 0),(11,.ra 2 0),(12,.bool b2)] (cq (Kie _ _ b3) K6o tv) ?_
    obtain rfl := os h
    exact Qcf.mk
   refine K99 hc 4 [(1,I n1),(2,.fnb 85 [K2e clo2_0]),(3,.fn 216 [.ptr [I clo3_0.fSize,sI clo3_0.fPlus,sI clo3_0.fTimes,sB clo3_0.fBelow] 0]),(4,I (wr (nodes4 + 1))),(5,.ra 1 0),(11,.ra 2 0),(49,.bool (t0.fOp == 1))] ?_
   obtain ⟨b4,b5,h⟩ := Qct h
   refine Wp.into (x := .normal) (mkS [(1,I n1),(2,.fnb 85 [K2e clo2_0]),(3,.fn 216 [.ptr [I clo3_0.fSize,sI clo3_0.fPlus,sI clo3_0.fTimes,sB clo3_0.fBelow] 0]),(4,I (wr (nodes4 + 1))),(5,.ra 1 0),(11,.ra 2 0),(12,.bool b4)] [(1,K2f t0),(2,.box [.str a0.fword,I a0.fkids,.bool a0.fgrade,.bool a0.ftyped])]) ?_ ?_
   ·replace h := b5
    refine ic h (fun b6 h => ?_) fun b6 h => ?_
    ·obtain ⟨b7,b8,h⟩ := Qct h
     refine rgs hc none [oN,oN,oc (.bool b7),oN] [(1,I n1),(2,.fnb 85 [K2e clo2_0]),(3,.fn 216 [.ptr [I clo3_0.fSize,sI clo3_0.fPlus,sI clo3_0.fTimes,sB clo3_0.fBelow] 0]),(4,I (wr (nodes4 + 1))),(5,.ra 1 0),(11,.ra 2 0),(12,.bool b7)] (cq (Kie _ _ b8) K6o tv) ?_
     obtain rfl := os h
     exact Qcf.mk
    refine K99 hc 3 [(1,I n1),(2,.fnb 85 [K2e clo2_0]),(3,.fn 216 [.ptr [I clo3_0.fSize,sI clo3_0.fPlus,sI clo3_0.fTimes,sB clo3_0.fBelow] 0]),(4,I (wr (nodes4 + 1))),(5,.ra 1 0),(11,.ra 2 0),(56,.bool a0.fgrade)] ?_
    obtain ⟨b9,c0,h⟩ := Qct h
    refine Wp.into (x := .normal) (mkS [(1,I n1),(2,.fnb 85 [K2e clo2_0]),(3,.fn 216 [.ptr [I clo3_0.fSize,sI clo3_0.fPlus,sI clo3_0.fTimes,sB clo3_0.fBelow] 0]),(4,I (wr (nodes4 + 1))),(5,.ra 1 0),(11,.ra 2 0),(12,.bool b9)] [(1,K2f t0),(2,.box [.str a0.fword,I a0.fkids,.bool a0.fgrade,.bool a0.ftyped])]) ?_ ?_
    ·replace h := c0
     refine ic h (fun c1 h => ?_) fun c1 h => ?_
     ·obtain ⟨c2,c3,h⟩ := Qct h
      refine rgs hc none [oN,oN,oN,oc (.bool c2),oN] [(1,I n1),(2,.fnb 85 [K2e clo2_0]),(3,.fn 216 [.ptr [I clo3_0.fSize,sI clo3_0.fPlus,sI clo3_0.fTimes,sB clo3_0.fBelow] 0]),(4,I (wr (nodes4 + 1))),(5,.ra 1 0),(11,.ra 2 0),(12,.bool c2)] (cq (Kih _ _ c3) K6p tv) ?_
      obtain rfl := os h
      exact Qcf.mk
     refine K98 hc 4 [(1,I n1),(2,.fnb 85 [K2e clo2_0]),(3,.fn 216 [.ptr [I clo3_0.fSize,sI clo3_0.fPlus,sI clo3_0.fTimes,sB clo3_0.fBelow] 0]),(4,I (wr (nodes4 + 1))),(5,.ra 1 0),(11,.ra 2 0),(12,.bool (t0.fN == 0))] ?_
     obtain rfl := os h
     exact Qcf.mk
    clear c0
    obtain rfl := os h
    exact Qcf.mk
   clear b5
   obtain rfl := os h
   exact Qcf.mk
  clear a9
  refine sN ?_
  refine rs0 hc 2 [(1,I n1),(2,.fnb 85 [K2e clo2_0]),(3,.fn 216 [.ptr [I clo3_0.fSize,sI clo3_0.fPlus,sI clo3_0.fTimes,sB clo3_0.fBelow] 0]),(4,I (wr (nodes4 + 1))),(5,.ra 1 0),(12,.bool a8),(64,.bool a0.ftyped)] [(1,K2f t0)] ?_
  obtain ⟨c4,c5,h⟩ := Qct h
  refine Wp.into (x := .normal) (mkS [(1,I n1),(2,.fnb 85 [K2e clo2_0]),(3,.fn 216 [.ptr [I clo3_0.fSize,sI clo3_0.fPlus,sI clo3_0.fTimes,sB clo3_0.fBelow] 0]),(4,I (wr (nodes4 + 1))),(5,.ra 1 0),(12,.bool c4)] [(1,K2f t0)]) ?_ ?_
  ·replace h := c5
   refine ic h (fun c6 h => ?_) fun c6 h => ?_
   ·obtain ⟨c7,c8,h⟩ := Qct h
    refine Wp.into (x := .normal) (mkS [(1,I n1),(2,.fnb 85 [K2e clo2_0]),(3,.fn 216 [.ptr [I clo3_0.fSize,sI clo3_0.fPlus,sI clo3_0.fTimes,sB clo3_0.fBelow] 0]),(4,I (wr (nodes4 + 1))),(5,.ra 1 0),(12,.bool c7)] [(1,K2f t0)]) ?_ ?_
    ·replace h := c8
     rcases is h with ⟨c9,h⟩ | ⟨c9,h⟩
     ·obtain ⟨d0,d1,h⟩ := Qct h
      refine rgs hc none [oN,oN,oN,oN,oN,oc (.bool d0),oT,oN] [(1,I n1),(2,.fnb 85 [K2e clo2_0]),(3,.fn 216 [.ptr [I clo3_0.fSize,sI clo3_0.fPlus,sI clo3_0.fTimes,sB clo3_0.fBelow] 0]),(4,I (wr (nodes4 + 1))),(5,.ra 1 0),(12,.bool d0)] (ar 4 c9 (cq (Kkf _ _ d1) K7c (ai c9 tv))) ?_
      obtain rfl := os h
      exact Qcf.mk
     refine rgs hc none [oN,oN,o_,o_,o_,o_,oF,oN] [(1,I n1),(2,.fnb 85 [K2e clo2_0]),(3,.fn 216 [.ptr [I clo3_0.fSize,sI clo3_0.fPlus,sI clo3_0.fTimes,sB clo3_0.fBelow] 0]),(4,I (wr (nodes4 + 1))),(5,.ra 1 0),(12,.bool false)] (ar 4 (neT c9) (ai c9 tv)) ?_
     obtain rfl := os h
     exact Qcf.mk
    clear c8
    obtain rfl := os h
    exact Qcf.mk
   obtain ⟨d2,d3,h⟩ := Qct h
   refine Wp.into (x := .normal) (mkS [(1,I n1),(2,.fnb 85 [K2e clo2_0]),(3,.fn 216 [.ptr [I clo3_0.fSize,sI clo3_0.fPlus,sI clo3_0.fTimes,sB clo3_0.fBelow] 0]),(4,I (wr (nodes4 + 1))),(5,.ra 1 0),(12,.bool d2)] [(1,K2f t0)]) ?_ ?_
   ·replace h := d3
    rcases is h with ⟨d4,h⟩ | ⟨d4,h⟩
    ·refine rgs hc none [oN,oN,oN,oN,some (.eqv (.no) ⟨[(76,I (t0.fType.length : Int))],[],[]⟩),oN,oT,oN] [(1,I n1),(2,.fnb 85 [K2e clo2_0]),(3,.fn 216 [.ptr [I clo3_0.fSize,sI clo3_0.fPlus,sI clo3_0.fTimes,sB clo3_0.fBelow] 0]),(4,I (wr (nodes4 + 1))),(5,.ra 1 0),(12,.bool ((t0.fType.length : Int) == 0))] (ar 3 d4 (ai (Qcz (d := 76) I t0.fType) (ar 2 d4 tv))) ?_
     obtain rfl := os h
     exact Qcf.mk
    refine rgs hc none [oN,oN,o_,o_,o_,o_,oF,oN] [(1,I n1),(2,.fnb 85 [K2e clo2_0]),(3,.fn 216 [.ptr [I clo3_0.fSize,sI clo3_0.fPlus,sI clo3_0.fTimes,sB clo3_0.fBelow] 0]),(4,I (wr (nodes4 + 1))),(5,.ra 1 0),(12,.bool false)] (ar 4 (neT d4) (ai d4 tv)) ?_
    obtain rfl := os h
    exact Qcf.mk
   clear d3
   obtain rfl := os h
   exact Qcf.mk
  clear c5
  refine sN ?_
  refine K99 hc 2 [(1,I n1),(2,.fnb 85 [K2e clo2_0]),(3,.fn 216 [.ptr [I clo3_0.fSize,sI clo3_0.fPlus,sI clo3_0.fTimes,sB clo3_0.fBelow] 0]),(4,I (wr (nodes4 + 1))),(5,.ra 1 0),(80,.bool (!c4))] ?_
  rcases is h with ⟨d5,h⟩ | ⟨d5,h⟩
  ·refine cF (!c4) (nF d5) ?_
   refine sk ?_
   refine sN ?_
   refine rss hc none [oN,oN,some (.eqv (.no) ⟨[(83,I (t0.fKids.length : Int))],[],[]⟩),oN] [(1,I n1),(2,.fnb 85 [K2e clo2_0]),(3,.fn 216 [.ptr [I clo3_0.fSize,sI clo3_0.fPlus,sI clo3_0.fTimes,sB clo3_0.fBelow] 0]),(4,I (wr (nodes4 + 1))),(5,.ra 1 0),(82,.sl (List.map K0s t0.fKids)),(83,I (t0.fKids.length : Int)),(84,I 0)] (ai (Qcz (d := 83) K0s t0.fKids) tv) ?_
   refine bk 1 ?_
   obtain ⟨fl,d6,h⟩ := Qct h
   have hL := impl_check_Kimpl_Systemhas_Kimpl_isJudgment_c1_l0_ih _ _ d6 c hc
   refine lp ?_
   rcases fl with d7 | r
   ·refine WpL.into (e := (.exit 1)) (mkS [(4,I d7)] []) hL ?_
    refine Qc7 ?_
    refine rs0 hc 2 [(10,I d7)] [] ?_
    refine rt ?_
    obtain rfl := os h
    exact rq [true]
   refine WpL.mono hL ?_
   rintro _ _ ⟨rfl,hfin⟩
   obtain rfl := os h
   exact ⟨.inl rfl,hfin⟩
  refine cT (!c4) (nT d5) ?_
  refine rs0 hc 1 [(10,I 401)] [] ?_
  refine rt ?_
  obtain rfl := os h
  exact rq [true]
 ·rintro impl_check_Kimpl_Systemhas_Kimpl_isJudgment_c1_f impl_check_Kimpl_Systemhas_Kimpl_isJudgment_c1_l0_f impl_check_Kimpl_Systemhas_Kimpl_isJudgment_c1_ih impl_check_Kimpl_Systemhas_Kimpl_isJudgment_c1_l0_ih ⟨t0,n1,clo2_0,clo3_0,d8,d9⟩ r h
  intro c hc
  refine WpL.step ?_
  refine K99 hc 1 [(1,I n1),(2,.fnb 85 [K2e clo2_0]),(3,.fn 216 [.ptr [I clo3_0.fSize,sI clo3_0.fPlus,sI clo3_0.fTimes,sB clo3_0.fBelow] 0]),(4,I d8),(5,.ra 1 0),(82,.sl (List.map K0s t0.fKids)),(83,I (t0.fKids.length : Int)),(84,I d9),(85,.bool (decide (d9 < (t0.fKids.length : Int))))] ?_
  refine sN ?_
  refine ic h (fun e0 h => ?_) fun e0 h => ?_
  ·refine sk ?_
   refine sN ?_
   refine bk 2 ?_
   obtain ⟨e1,e2,h⟩ := Qct h
   refine rs hc none [oN,some (.el (K2g e1)),oN,some (.new 4),oN,oN] [(1,I n1),(2,.fnb 85 [K2e clo2_0]),(3,.fn 216 [.ptr [I clo3_0.fSize,sI clo3_0.fPlus,sI clo3_0.fTimes,sB clo3_0.fBelow] 0]),(4,I d8),(5,.ra 1 0),(13,I d9),(14,.ra 4 0),(82,.sl (List.map K0s t0.fKids)),(83,I (t0.fKids.length : Int)),(84,I d9)] [(1,K2f t0),(4,K2f e1)] (ai (Qcx e2 (K0z e1)) tv) ?_
   obtain ⟨e3,e4,e5,e6,h⟩ := bq2 h
   refine rs hc (rx [[0],[0],[0],[0,2],[0],[0,2,3,4],[0,1,2,3,4,5],[0],[0],[0],[10],[11]]) [oN,oN,oN,oN,oN,oc (I e3),oN,oN,oN,oN,oc (I e5),oN] [(1,I n1),(2,.fnb 85 [K2e clo2_0]),(3,.fn 216 [.ptr [I clo3_0.fSize,sI clo3_0.fPlus,sI clo3_0.fTimes,sB clo3_0.fBelow] 0]),(4,I e5),(5,.ra 1 0),(82,.sl (List.map K0s t0.fKids)),(83,I (t0.fKids.length : Int)),(84,I d9)] [(1,K2f t0)] (cq (Kki _ _ e4) K7e (cq (impl_check_Kimpl_Systemhas_Kimpl_isJudgment_c1_ih _ _ e6) K7g tv)) ?_
   refine K99 hc 2 [(1,I n1),(2,.fnb 85 [K2e clo2_0]),(3,.fn 216 [.ptr [I clo3_0.fSize,sI clo3_0.fPlus,sI clo3_0.fTimes,sB clo3_0.fBelow] 0]),(4,I e5),(5,.ra 1 0),(82,.sl (List.map K0s t0.fKids)),(83,I (t0.fKids.length : Int)),(84,I d9),(101,.bool (decide (e5 > 400)))] ?_
   refine ic h (fun e7 h => ?_) fun e7 h => ?_
   ·refine rs0 hc 1 [(10,I 401)] [] ?_
    refine rt ?_
    obtain rfl := os h
    exact re [true]
   refine sk ?_
   refine K98 hc 2 [(1,I n1),(2,.fnb 85 [K2e clo2_0]),(3,.fn 216 [.ptr [I clo3_0.fSize,sI clo3_0.fPlus,sI clo3_0.fTimes,sB clo3_0.fBelow] 0]),(4,I e5),(5,.ra 1 0),(82,.sl (List.map K0s t0.fKids)),(83,I (t0.fKids.length : Int)),(84,I (wr (d9 + 1)))] ?_
   refine Qcb ?_
   exact (impl_check_Kimpl_Systemhas_Kimpl_isJudgment_c1_l0_ih _ _ h c hc)
  refine xt 1 ?_
  refine Qc5 ?_
  refine Qcc ?_
  obtain rfl := os h
  exact iv []
theorem Kkp : ∀ p r,Kkk p = some r → Kkm p r := Kko.1
theorem Kkq : ∀ p r,Kkl p = some r → Kkn p r := Kko.2
def Kkr (c : Ctx) (s0 : K00) (j1 : K02) : (Unit) ⊕ (Bool) → Exit → Q0a → Prop
 | .inl _ => Qcf c (.exit 0) (mkS [(2,.ra 1 0),(3,.ra 2 0)] [(1,K2d s0),(2,K2h j1)])
 | .inr r => Qco TIx Tryz.f173 [] (.bool r)
end Go.Am
