/- Walks, printed. -/
import Derived.Test.YtckgdfakjjdodaaGreatGPUTF8
set_option linter.unusedVariables false
set_option linter.unusedSimpArgs false
set_option maxRecDepth 100000
namespace Go.Am
open Go Go.Proofs
def Kjf : Option (List (List Nat)) := rx [[0],[1],[0],[0,2],[0],[0,4],[0,4,5],[7],[0],[9]]
def Kjg : Option (List (List Nat)) := rx [[0],[1],[0],[0],[0],[0,4],[0],[0,4,5,6],[0,3,4,5,6,7],[0],[0,2,3,4,5,6,7,8,9],[0,2,3,4,5,6,7,8,9,10],[12],[13],[14]]
mutual
def Kjh (t0 : K00) : Option (K00) :=
 (Kjb t0.fType) >>= fun a0 =>
 (Kji (t0,a0,[],0)) >>= fun a1 =>
 some (K00.mk t0.fOp t0.fN a0 a1)
 partial_fixpoint
def Kji (p : K00 × (List Int) × (List K00) × Int) : Option ((List K00)) :=
 match p with
 | (t0,a0,a1,a2) =>
  if (decide (a2 < (t0.fKids.length : Int))) = true then
  (idx t0.fKids a2) >>= fun a3 =>
  (Kjh a3) >>= fun a4 =>
  (Qdw (a1.length + [a4].length) 64) >>= fun _ =>
  Kji (t0,a0,(a1 ++ [a4]),(wr (a2 + 1)))
  else
  some (a1)
 partial_fixpoint
end
def Kjj (t0 : K00) (r : K00) : Prop :=
 Q75 Tryz.prog 131 [K1d t0] (K1k r) []
def Kjk (p : K00 × (List Int) × (List K00) × Int) (fl : (List K00)) : Prop :=
 match p with
 | (t0,a0,a1,a2) => ∀ c : Ctx,c.nt = 30 → WpL Tryz.prog c (cl (cl (cr (cl (cr (cr K6o)))))) (Kje c t0 a0 fl) (mkS [(2,.ra 2 0),(3,.ra 4 0),(15,.sl (List.map K05 t0.fKids)),(16,I (t0.fKids.length : Int)),(17,I a2)] [(2,.box [I 0,I 0,.nils,.nils]),(3,rI a0),(4,.box [I t0.fOp,I t0.fN,.rs 3,.rs 10]),(10,.arr (List.map K08 a1))])
theorem Kjl : (∀ p r,Kjh p = some r → Kjj p r) ∧ (∀ p r,Kji p = some r → Kjk p r) := by
 refine Kjh.mutual_partial_correctness Kjj Kjk ?_ ?_
 ·rintro impl_copyTerm_l0_f impl_copyTerm_l0_ih t0 r h
  refine b0 Tryz.f131 K6o 30 [(0,K1d t0)] fun c hc => ?_
  refine rs hc none [some (.new 1),some (.new 2)] [(1,.ra 1 0),(2,.ra 2 0)] [(1,K1c t0),(2,.box [I 0,I 0,.nils,.nils])] tv ?_
  obtain ⟨a0,a1,h⟩ := Qdj h
  refine rs hc Kjf [oN,oN,oN,oN,oN,oN,some (.call (oI a0) [] 3),oN,some (.new 4),oN] [(1,.ra 1 0),(2,.ra 2 0),(3,.ra 4 0)] [(1,K1c t0),(2,.box [I 0,I 0,.nils,.nils]),(3,rI a0),(4,.box [I t0.fOp,I t0.fN,.rs 3,.nils])] (cq (Kjd _ _ a1) K6n tv) ?_
  refine sN ?_
  refine rs hc none [oN,oN,some (.eqv (.no) ⟨[(16,I (t0.fKids.length : Int))],[],[]⟩),oN] [(2,.ra 2 0),(3,.ra 4 0),(15,.sl (List.map K05 t0.fKids)),(16,I (t0.fKids.length : Int)),(17,I 0)] [(2,.box [I 0,I 0,.nils,.nils]),(3,rI a0),(4,.box [I t0.fOp,I t0.fN,.rs 3,.nils])] (ai (Qdp (d := 16) K05 t0.fKids) tv) ?_
  refine bk 0 ?_
  obtain ⟨a2,a3,h⟩ := Qdj h
  have hL := impl_copyTerm_l0_ih _ _ a3 c hc
  refine Wp.loopN (by kernel_rfl) (WpL.view (fun a w hv => SRx.renL [(10,21)] (SRx.nilBL 4 3 21 [I t0.fOp,I t0.fN,.rs 3,.nils] hv (by kernel_rfl) (by kernel_rfl) (by kernel_rfl)) (by kernel_rfl) (by kernel_rfl) (by kernel_rfl)) (?_ : WpL _ c _ _ (mkS [(2,.ra 2 0),(3,.ra 4 0),(15,.sl (List.map K05 t0.fKids)),(16,I (t0.fKids.length : Int)),(17,I 0)] [(2,.box [I 0,I 0,.nils,.nils]),(3,rI a0),(4,.box [I t0.fOp,I t0.fN,.rs 3,.rs 10]),(10,.arr (List.map K08 []))])))
  refine WpL.into (e := (.exit 0)) (mkS [(2,.ra 2 0),(3,.ra 4 0)] [(2,.box [I 0,I 0,.nils,.nils]),(3,rI a0),(4,.box [I t0.fOp,I t0.fN,.rs 3,.rs 10]),(10,.arr (List.map K08 a2))]) hL ?_
  refine Qcx ?_
  refine rs0 hc 2 [(2,.ra 2 0)] [(2,.box [I t0.fOp,I t0.fN,.rs 3,.rs 10]),(3,rI a0),(10,.arr (List.map K08 a2))] ?_
  refine rt ?_
  obtain rfl := os h
  exact rq [true]
 ·rintro impl_copyTerm_f impl_copyTerm_l0_f impl_copyTerm_ih impl_copyTerm_l0_ih ⟨t0,a0,a4,a5⟩ r h
  intro c hc
  refine WpL.step ?_
  refine K7p hc 1 [(2,.ra 2 0),(3,.ra 4 0),(15,.sl (List.map K05 t0.fKids)),(16,I (t0.fKids.length : Int)),(17,I a5),(18,.bool (decide (a5 < (t0.fKids.length : Int))))] ?_
  refine sN ?_
  refine ic h (fun a6 h => ?_) fun a6 h => ?_
  ·refine sk ?_
   refine sN ?_
   refine bk 1 ?_
   obtain ⟨a7,a8,h⟩ := Qdj h
   refine rs hc none [some (.el (K1d a7)),oN,some (.new 16),oN] [(2,.ra 2 0),(3,.ra 4 0),(5,.ra 16 0),(15,.sl (List.map K05 t0.fKids)),(16,I (t0.fKids.length : Int)),(17,I a5)] [(2,.box [I 0,I 0,.nils,.nils]),(3,rI a0),(4,.box [I t0.fOp,I t0.fN,.rs 3,.rs 10]),(10,.arr (List.map K08 a4)),(16,K1c a7)] (ai (Qdn a8 (K0c a7)) tv) ?_
   obtain ⟨a9,b1,_,b2,h⟩ := bq2 h
   refine rg hc (rx [[0],[1],[0],[0,2],[0,2,3],[5],[6],[7]]) [oN,oN,oN,some (.call (K1k a9) [] 17),some (.eqv (.mk 19 true) ⟨[(25,.rs 19)],[(19,some (.arr (List.map K08 [a9]))),(17,none),(18,none)],[19]⟩),some (.eqv (.mk 20 true) ⟨[(26,.rs 20)],[(20,some (.arr (List.map K08 (a4 ++ [a9])))),(10,none),(19,none)],[20]⟩),oN,oN] [(2,.ra 2 0),(3,.ra 4 0),(15,.sl (List.map K05 t0.fKids)),(16,I (t0.fKids.length : Int)),(17,I a5)] [(2,.box [I 0,I 0,.nils,.nils]),(3,rI a0),(4,.box [I t0.fOp,I t0.fN,.rs 3,.rs 20]),(20,.arr (List.map K08 (a4 ++ [a9])))] (cq (impl_copyTerm_ih _ _ b1) K6p (ac (congrArg (fun z => (⟨[(25,.rs 19)],[(19,some (.arr z)),(17,none),(18,none)],[19]⟩ : Wr)) ((Qeq (K0e a9) Qep) : [AV.agg [I a9.fOp,I a9.fN,oI a9.fType,AV.osl (List.map K08 a9.fKids)]] = List.map K08 [a9])) (congrArg (fun z => (⟨[(26,.rs 20)],[(20,some (.arr z)),(10,none),(19,none)],[20]⟩ : Wr)) ((List.map_append).symm : (List.map K08 a4) ++ (List.map K08 [a9]) = List.map K08 (a4 ++ [a9]))) (Qdx (enc1 := K08) (enc2 := K08) (e1 := a4) (e2 := [a9]) (sz := 4) K11 K11 b2) tv)) ?_
   refine K7o hc 2 [(2,.ra 2 0),(3,.ra 4 0),(15,.sl (List.map K05 t0.fKids)),(16,I (t0.fKids.length : Int)),(17,I (wr (a5 + 1)))] ?_
   refine Qd1 ?_
   exact WpL.view (fun a w hv => SRx.renL [(10,20)] hv (by kernel_rfl) (by kernel_rfl) (by kernel_rfl)) (impl_copyTerm_l0_ih _ _ h c hc)
  refine xt 0 ?_
  refine Qcv ?_
  refine Qd2 ?_
  obtain rfl := os h
  exact iv []
theorem Kjm : ∀ p r,Kjh p = some r → Kjj p r := Kjl.1
theorem Kjn : ∀ p r,Kji p = some r → Kjk p r := Kjl.2
def Kjo (p : K00 × Int × Int × Int) : Option (K00) :=
 match p with
 | (v0,deep1,cap0,cap1) =>
  ((
  if (decide ((wr (v0.fN - deep1)) ≥ cap0)) = true then
  some ((wr (v0.fN + cap1)))
  else
  some (v0.fN)
  ) : Option (Int)) >>= fun a0 =>
  (Kjh (K00.mk v0.fOp a0 v0.fType v0.fKids)) >>= fun a1 =>
  some a1
def Kjp (p : K00 × Int × Int × Int) (r : K00) : Prop :=
 match p with
 | (v0,deep1,cap0,cap1) => Q75 Tryz.prog 229 [K1d v0,I deep1,.ptr [I cap0] 0,.ptr [I cap1] 0] (K1k r) []
theorem Kjq : ∀ p r,Kjo p = some r → Kjp p r := by
 rintro ⟨v0,deep1,cap0,cap1⟩ r h
 unfold Kjo at h
 refine b0 Tryz.f229 K6q 20 [(0,K1d v0),(1,I deep1),(2,.ptr [I cap0] 0),(3,.ptr [I cap1] 0)] fun c hc => ?_
 refine rs hc none [some (.new 1),some (.new 2)] [(1,I deep1),(2,.ptr [I cap0] 0),(3,.ptr [I cap1] 0),(4,.ra 1 0),(6,.ra 2 0)] [(1,K1c v0),(2,.box [I 0,I 0,.nils,.nils])] tv ?_
 refine sN ?_
 refine K7p hc 6 [(3,.ptr [I cap1] 0),(4,.ra 1 0),(6,.ra 2 0),(12,.bool (decide ((wr (v0.fN - deep1)) ≥ cap0)))] ?_
 obtain ⟨a0,a1,h⟩ := Qdj h
 refine Wp.into (x := .normal) (mkS [(4,.ra 1 0),(6,.ra 2 0)] [(1,.box [I v0.fOp,I a0,sI v0.fType,.sl (List.map K05 v0.fKids)]),(2,.box [I 0,I 0,.nils,.nils])]) ?_ ?_
 ·replace h := a1
  refine ic h (fun a2 h => ?_) fun a2 h => ?_
  ·refine rg0 hc 6 [(4,.ra 1 0),(6,.ra 2 0)] [(1,.box [I v0.fOp,I (wr (v0.fN + cap1)),sI v0.fType,.sl (List.map K05 v0.fKids)]),(2,.box [I 0,I 0,.nils,.nils])] ?_
   obtain rfl := os h
   exact Qd5.mk
  refine sk ?_
  obtain rfl := os h
  exact iv []
 clear a1
 obtain ⟨a3,a4,h⟩ := Qdj h
 refine rs hc none [oN,some (.call (K1k a3) [] 3),oN] [(6,.ra 2 0)] [(2,.box [I a3.fOp,I a3.fN,.rs 3,.rs 4]),(3,rI a3.fType),(4,.arr (List.map K08 a3.fKids))] (cq (Kjm _ _ a4) K6p tv) ?_
 refine rt ?_
 obtain rfl := os h
 exact rq [true]
def Kjr (c : Ctx) (t0 : K00) (a0 : List Int) : (List K00) → Exit → Q0a → Prop
 | a1 => Qd5 c (.exit 0) (mkS [(6,.ra 2 0),(7,.ra 6 0)] [(2,.box [I 0,I 0,.nils,.nils]),(5,rI a0),(6,.box [I t0.fOp,I t0.fN,.rs 5,.rs 12]),(12,.arr (List.map K08 a1))])
mutual
def Kjs (p : K00 × Int × Int × Int) : Option (K00) :=
 match p with
 | (t0,deep1,clo2_0,clo2_1) =>
  if (t0.fOp == 0) = true then
  (Kjo (t0,deep1,clo2_0,clo2_1)) >>= fun a0 =>
  some a0
  else
  (Kjb t0.fType) >>= fun a1 =>
  (Kjt (t0,deep1,clo2_0,clo2_1,a1,[],0)) >>= fun a2 =>
  some (K00.mk t0.fOp t0.fN a1 a2)
 partial_fixpoint
def Kjt (p : K00 × Int × Int × Int × (List Int) × (List K00) × Int) : Option ((List K00)) :=
 match p with
 | (t0,deep1,clo2_0,clo2_1,a0,a1,a2) =>
  if (decide (a2 < (t0.fKids.length : Int))) = true then
  (idx t0.fKids a2) >>= fun a3 =>
  (Kiu (t0.fOp,a2)) >>= fun a4 =>
  (Kjs (a3,(wr (deep1 + a4)),clo2_0,clo2_1)) >>= fun a5 =>
  (Qdw (a1.length + [a5].length) 64) >>= fun _ =>
  Kjt (t0,deep1,clo2_0,clo2_1,a0,(a1 ++ [a5]),(wr (a2 + 1)))
  else
  some (a1)
 partial_fixpoint
end
def Kju (p : K00 × Int × Int × Int) (r : K00) : Prop :=
 match p with
 | (t0,deep1,clo2_0,clo2_1) => Q75 Tryz.prog 194 [K1d t0,I deep1,.fn 229 [.ptr [I clo2_0] 0,.ptr [I clo2_1] 0]] (K1k r) []
def Kjv (p : K00 × Int × Int × Int × (List Int) × (List K00) × Int) (fl : (List K00)) : Prop :=
 match p with
 | (t0,deep1,clo2_0,clo2_1,a0,a1,a2) => ∀ c : Ctx,c.nt = 49 → WpL Tryz.prog c (cl (cl (cr (cl (cr (cr (cr K6s))))))) (Kjr c t0 a0 fl) (mkS [(1,I deep1),(2,.fn 229 [.ptr [I clo2_0] 0,.ptr [I clo2_1] 0]),(3,.ra 1 0),(6,.ra 2 0),(7,.ra 6 0),(26,.sl (List.map K05 t0.fKids)),(27,I (t0.fKids.length : Int)),(28,I a2)] [(1,K1c t0),(2,.box [I 0,I 0,.nils,.nils]),(5,rI a0),(6,.box [I t0.fOp,I t0.fN,.rs 5,.rs 12]),(12,.arr (List.map K08 a1))])
theorem Kjw : (∀ p r,Kjs p = some r → Kju p r) ∧ (∀ p r,Kjt p = some r → Kjv p r) := by
 refine Kjs.mutual_partial_correctness Kju Kjv ?_ ?_
 ·rintro impl_renamed_Kimpl_shifted_c1_l0_f impl_renamed_Kimpl_shifted_c1_l0_ih ⟨t0,deep1,clo2_0,clo2_1⟩ r h
  refine b0 Tryz.f194 K6s 49 [(0,K1d t0),(1,I deep1),(2,.fn 229 [.ptr [I clo2_0] 0,.ptr [I clo2_1] 0])] fun c hc => ?_
  refine rs hc none [some (.new 1),some (.new 2)] [(1,I deep1),(2,.fn 229 [.ptr [I clo2_0] 0,.ptr [I clo2_1] 0]),(3,.ra 1 0),(6,.ra 2 0)] [(1,K1c t0),(2,.box [I 0,I 0,.nils,.nils])] tv ?_
  refine sN ?_
  refine K7p hc 3 [(1,I deep1),(2,.fn 229 [.ptr [I clo2_0] 0,.ptr [I clo2_1] 0]),(3,.ra 1 0),(6,.ra 2 0),(12,.bool (t0.fOp == 0))] ?_
  refine ic h (fun a0 h => ?_) fun a0 h => ?_
  ·obtain ⟨a1,a2,h⟩ := Qdj h
   refine rs hc none [oN,oN,oN,some (.call (K1k a1) [] 3),oN] [(6,.ra 2 0)] [(2,.box [I a1.fOp,I a1.fN,.rs 3,.rs 4]),(3,rI a1.fType),(4,.arr (List.map K08 a1.fKids))] (cq (Kjq _ _ a2) K6r tv) ?_
   refine rt ?_
   obtain rfl := os h
   exact rq [true]
  refine sk ?_
  obtain ⟨a3,a4,h⟩ := Qdj h
  refine rs hc Kjf [oN,oN,oN,oN,oN,oN,some (.call (oI a3) [] 5),oN,some (.new 6),oN] [(1,I deep1),(2,.fn 229 [.ptr [I clo2_0] 0,.ptr [I clo2_1] 0]),(3,.ra 1 0),(6,.ra 2 0),(7,.ra 6 0)] [(1,K1c t0),(2,.box [I 0,I 0,.nils,.nils]),(5,rI a3),(6,.box [I t0.fOp,I t0.fN,.rs 5,.nils])] (cq (Kjd _ _ a4) K6n tv) ?_
  refine sN ?_
  refine rss hc none [oN,oN,some (.eqv (.no) ⟨[(27,I (t0.fKids.length : Int))],[],[]⟩),oN] [(1,I deep1),(2,.fn 229 [.ptr [I clo2_0] 0,.ptr [I clo2_1] 0]),(3,.ra 1 0),(6,.ra 2 0),(7,.ra 6 0),(26,.sl (List.map K05 t0.fKids)),(27,I (t0.fKids.length : Int)),(28,I 0)] (ai (Qdp (d := 27) K05 t0.fKids) tv) ?_
  refine bk 0 ?_
  obtain ⟨a5,a6,h⟩ := Qdj h
  have hL := impl_renamed_Kimpl_shifted_c1_l0_ih _ _ a6 c hc
  refine Wp.loopN (by kernel_rfl) (WpL.view (fun a w hv => SRx.renL [(12,23)] (SRx.nilBL 6 3 23 [I t0.fOp,I t0.fN,.rs 5,.nils] hv (by kernel_rfl) (by kernel_rfl) (by kernel_rfl)) (by kernel_rfl) (by kernel_rfl) (by kernel_rfl)) (?_ : WpL _ c _ _ (mkS [(1,I deep1),(2,.fn 229 [.ptr [I clo2_0] 0,.ptr [I clo2_1] 0]),(3,.ra 1 0),(6,.ra 2 0),(7,.ra 6 0),(26,.sl (List.map K05 t0.fKids)),(27,I (t0.fKids.length : Int)),(28,I 0)] [(1,K1c t0),(2,.box [I 0,I 0,.nils,.nils]),(5,rI a3),(6,.box [I t0.fOp,I t0.fN,.rs 5,.rs 12]),(12,.arr (List.map K08 []))])))
  refine WpL.into (e := (.exit 0)) (mkS [(6,.ra 2 0),(7,.ra 6 0)] [(2,.box [I 0,I 0,.nils,.nils]),(5,rI a3),(6,.box [I t0.fOp,I t0.fN,.rs 5,.rs 12]),(12,.arr (List.map K08 a5))]) hL ?_
  refine Qcx ?_
  refine rs0 hc 2 [(6,.ra 2 0)] [(2,.box [I t0.fOp,I t0.fN,.rs 5,.rs 12]),(5,rI a3),(12,.arr (List.map K08 a5))] ?_
  refine rt ?_
  obtain rfl := os h
  exact rq [true]
 ·rintro impl_renamed_Kimpl_shifted_c1_f impl_renamed_Kimpl_shifted_c1_l0_f impl_renamed_Kimpl_shifted_c1_ih impl_renamed_Kimpl_shifted_c1_l0_ih ⟨t0,deep1,clo2_0,clo2_1,a3,a7,a8⟩ r h
  intro c hc
  refine WpL.step ?_
  refine K7p hc 1 [(1,I deep1),(2,.fn 229 [.ptr [I clo2_0] 0,.ptr [I clo2_1] 0]),(3,.ra 1 0),(6,.ra 2 0),(7,.ra 6 0),(26,.sl (List.map K05 t0.fKids)),(27,I (t0.fKids.length : Int)),(28,I a8),(29,.bool (decide (a8 < (t0.fKids.length : Int))))] ?_
  refine sN ?_
  refine ic h (fun a9 h => ?_) fun a9 h => ?_
  ·refine sk ?_
   refine sN ?_
   refine bk 1 ?_
   obtain ⟨b1,b2,h⟩ := Qdj h
   refine rs hc none [oN,some (.el (K1d b1)),oN,some (.new 18),oN,oN] [(1,I deep1),(2,.fn 229 [.ptr [I clo2_0] 0,.ptr [I clo2_1] 0]),(3,.ra 1 0),(6,.ra 2 0),(7,.ra 6 0),(8,I a8),(9,.ra 18 0),(26,.sl (List.map K05 t0.fKids)),(27,I (t0.fKids.length : Int)),(28,I a8)] [(1,K1c t0),(2,.box [I 0,I 0,.nils,.nils]),(5,rI a3),(6,.box [I t0.fOp,I t0.fN,.rs 5,.rs 12]),(12,.arr (List.map K08 a7)),(18,K1c b1)] (ai (Qdn b2 (K0c b1)) tv) ?_
   obtain ⟨b3,b4,b5,b6,_,b7,h⟩ := bq3 h
   refine rg hc Kjg [oN,oN,oN,oN,oN,oN,oN,oc (I b3),oN,oN,some (.call (K1k b5) [] 19),some (.eqv (.mk 21 true) ⟨[(44,.rs 21)],[(21,some (.arr (List.map K08 [b5]))),(19,none),(20,none)],[21]⟩),some (.eqv (.mk 22 true) ⟨[(45,.rs 22)],[(22,some (.arr (List.map K08 (a7 ++ [b5])))),(12,none),(21,none)],[22]⟩),oN,oN] [(1,I deep1),(2,.fn 229 [.ptr [I clo2_0] 0,.ptr [I clo2_1] 0]),(3,.ra 1 0),(6,.ra 2 0),(7,.ra 6 0),(26,.sl (List.map K05 t0.fKids)),(27,I (t0.fKids.length : Int)),(28,I a8)] [(1,K1c t0),(2,.box [I 0,I 0,.nils,.nils]),(5,rI a3),(6,.box [I t0.fOp,I t0.fN,.rs 5,.rs 22]),(22,.arr (List.map K08 (a7 ++ [b5])))] (cq (Kiw _ _ b4) K6h (cq (impl_renamed_Kimpl_shifted_c1_ih _ _ b6) K6t (ac (congrArg (fun z => (⟨[(44,.rs 21)],[(21,some (.arr z)),(19,none),(20,none)],[21]⟩ : Wr)) ((Qeq (K0e b5) Qep) : [AV.agg [I b5.fOp,I b5.fN,oI b5.fType,AV.osl (List.map K08 b5.fKids)]] = List.map K08 [b5])) (congrArg (fun z => (⟨[(45,.rs 22)],[(22,some (.arr z)),(12,none),(21,none)],[22]⟩ : Wr)) ((List.map_append).symm : (List.map K08 a7) ++ (List.map K08 [b5]) = List.map K08 (a7 ++ [b5]))) (Qdx (enc1 := K08) (enc2 := K08) (e1 := a7) (e2 := [b5]) (sz := 4) K11 K11 b7) tv))) ?_
   refine K7o hc 2 [(1,I deep1),(2,.fn 229 [.ptr [I clo2_0] 0,.ptr [I clo2_1] 0]),(3,.ra 1 0),(6,.ra 2 0),(7,.ra 6 0),(26,.sl (List.map K05 t0.fKids)),(27,I (t0.fKids.length : Int)),(28,I (wr (a8 + 1)))] ?_
   refine Qd1 ?_
   exact WpL.view (fun a w hv => SRx.renL [(12,22)] hv (by kernel_rfl) (by kernel_rfl) (by kernel_rfl)) (impl_renamed_Kimpl_shifted_c1_l0_ih _ _ h c hc)
  refine xt 0 ?_
  refine Qcv ?_
  refine Qd2 ?_
  obtain rfl := os h
  exact iv []
theorem Kjx : ∀ p r,Kjs p = some r → Kju p r := Kjw.1
theorem Kjy : ∀ p r,Kjt p = some r → Kjv p r := Kjw.2
def Kjz (p : K00 × Int × Int) : Option (K00) :=
 match p with
 | (t0,by1,from2) =>
  (Kjs (t0,0,from2,by1)) >>= fun a0 =>
  some a0
def Kk0 (p : K00 × Int × Int) (r : K00) : Prop :=
 match p with
 | (t0,by1,from2) => Q75 Tryz.prog 196 [K1d t0,I by1,I from2] (K1k r) []
theorem Kk1 : ∀ p r,Kjz p = some r → Kk0 p r := by
 rintro ⟨t0,by1,from2⟩ r h
 unfold Kjz at h
 refine b0 Tryz.f196 K6u 10 [(0,K1d t0),(1,I by1),(2,I from2)] fun c hc => ?_
 refine rs hc none [some (.new 1),some (.new 2),some (.new 3),some (.new 4)] [(3,.ra 1 0),(4,.ra 2 0),(5,.ra 3 0),(6,.ra 4 0)] [(1,K1c t0),(2,.box [I by1]),(3,.box [I from2]),(4,.box [I 0,I 0,.nils,.nils])] tv ?_
 obtain ⟨a0,a1,h⟩ := Qdj h
 refine rs hc none [oN,oN,some (.call (K1k a0) [] 5),oN] [(6,.ra 4 0)] [(4,.box [I a0.fOp,I a0.fN,.rs 5,.rs 6]),(5,rI a0.fType),(6,.arr (List.map K08 a0.fKids))] (ac (Kjx _ _ a1) K6t (Or.inr (Qel rfl (Qel rfl (Qel (Qej Qef a0.fType) (Qel (Qej K15 a0.fKids) rfl)))) : ([3,2] : List Nat) = [] ∨ noSh (K1k a0) = true) tv) ?_
 refine rt ?_
 obtain rfl := os h
 exact rq [true]
def Kk2 (p : K00 × Int × Int × K00) : Option (K00) :=
 match p with
 | (v0,deep1,cap0,cap1) =>
  if ((wr (v0.fN - deep1)) == cap0) = true then
  (Kjz (cap1,deep1,0)) >>= fun a0 =>
  some a0
  else
  ((
  if (decide ((wr (v0.fN - deep1)) > cap0)) = true then
  some ((wr (v0.fN - 1)))
  else
  some (v0.fN)
  ) : Option (Int)) >>= fun a1 =>
  (Kjh (K00.mk v0.fOp a1 v0.fType v0.fKids)) >>= fun a2 =>
  some a2
def Kk3 (p : K00 × Int × Int × K00) (r : K00) : Prop :=
 match p with
 | (v0,deep1,cap0,cap1) => Q75 Tryz.prog 195 [K1d v0,I deep1,.ptr [I cap0] 0,.ptr [I cap1.fOp,I cap1.fN,sI cap1.fType,.sl (List.map K05 cap1.fKids)] 0] (K1k r) []
theorem Kk4 : ∀ p r,Kk2 p = some r → Kk3 p r := by
 rintro ⟨v0,deep1,cap0,cap1⟩ r h
 unfold Kk2 at h
 refine b0 Tryz.f195 K6w 29 [(0,K1d v0),(1,I deep1),(2,.ptr [I cap0] 0),(3,.ptr [I cap1.fOp,I cap1.fN,sI cap1.fType,.sl (List.map K05 cap1.fKids)] 0)] fun c hc => ?_
 refine rs hc none [some (.new 1),some (.new 2)] [(1,I deep1),(2,.ptr [I cap0] 0),(3,.ptr [I cap1.fOp,I cap1.fN,sI cap1.fType,.sl (List.map K05 cap1.fKids)] 0),(4,.ra 1 0),(6,.ra 2 0)] [(1,K1c v0),(2,.box [I 0,I 0,.nils,.nils])] tv ?_
 refine sN ?_
 refine K7p hc 5 [(1,I deep1),(2,.ptr [I cap0] 0),(3,.ptr [I cap1.fOp,I cap1.fN,sI cap1.fType,.sl (List.map K05 cap1.fKids)] 0),(4,.ra 1 0),(6,.ra 2 0),(7,I (wr (v0.fN - deep1)))] ?_
 refine bk 0 ?_
 refine K7p hc 4 [(1,I deep1),(2,.ptr [I cap0] 0),(3,.ptr [I cap1.fOp,I cap1.fN,sI cap1.fType,.sl (List.map K05 cap1.fKids)] 0),(4,.ra 1 0),(6,.ra 2 0),(7,I (wr (v0.fN - deep1))),(12,.bool ((wr (v0.fN - deep1)) == cap0))] ?_
 refine ic h (fun a0 h => ?_) fun a0 h => ?_
 ·obtain ⟨a1,a2,h⟩ := Qdj h
  refine rs hc none [oN,oN,some (.call (K1k a1) [] 3),oN] [(6,.ra 2 0)] [(2,.box [I a1.fOp,I a1.fN,.rs 3,.rs 4]),(3,rI a1.fType),(4,.arr (List.map K08 a1.fKids))] (cq (Kk1 _ _ a2) K6v tv) ?_
  refine rt ?_
  obtain rfl := os h
  exact rq [true]
 refine K7p hc 4 [(4,.ra 1 0),(6,.ra 2 0),(19,.bool (decide ((wr (v0.fN - deep1)) > cap0)))] ?_
 obtain ⟨a3,a4,h⟩ := Qdj h
 refine Wp.into (x := .normal) (mkS [(4,.ra 1 0),(6,.ra 2 0)] [(1,.box [I v0.fOp,I a3,sI v0.fType,.sl (List.map K05 v0.fKids)]),(2,.box [I 0,I 0,.nils,.nils])]) ?_ ?_
 ·replace h := a4
  refine ic h (fun a5 h => ?_) fun a5 h => ?_
  ·refine rg0 hc 5 [(4,.ra 1 0),(6,.ra 2 0)] [(1,.box [I v0.fOp,I (wr (v0.fN - 1)),sI v0.fType,.sl (List.map K05 v0.fKids)]),(2,.box [I 0,I 0,.nils,.nils])] ?_
   obtain rfl := os h
   exact Qd5.mk
  refine sk ?_
  obtain rfl := os h
  exact iv []
 clear a4
 obtain ⟨a6,a7,h⟩ := Qdj h
 refine rs hc none [oN,some (.call (K1k a6) [] 5),oN] [(6,.ra 2 0)] [(2,.box [I a6.fOp,I a6.fN,.rs 5,.rs 6]),(5,rI a6.fType),(6,.arr (List.map K08 a6.fKids))] (cq (Kjm _ _ a7) K6p tv) ?_
 refine rt ?_
 obtain rfl := os h
 exact rq [true]
def Kk5 (c : Ctx) (t0 : K00) (a0 : List Int) : (List K00) → Exit → Q0a → Prop
 | a1 => Qd5 c (.exit 0) (mkS [(6,.ra 2 0),(7,.ra 6 0)] [(2,.box [I 0,I 0,.nils,.nils]),(5,rI a0),(6,.box [I t0.fOp,I t0.fN,.rs 5,.rs 12]),(12,.arr (List.map K08 a1))])
mutual
def Kk6 (p : K00 × Int × Int × K00) : Option (K00) :=
 match p with
 | (t0,deep1,clo2_0,clo2_1) =>
  if (t0.fOp == 0) = true then
  (Kk2 (t0,deep1,clo2_0,clo2_1)) >>= fun a0 =>
  some a0
  else
  (Kjb t0.fType) >>= fun a1 =>
  (Kk7 (t0,deep1,clo2_0,clo2_1,a1,[],0)) >>= fun a2 =>
  some (K00.mk t0.fOp t0.fN a1 a2)
 partial_fixpoint
def Kk7 (p : K00 × Int × Int × K00 × (List Int) × (List K00) × Int) : Option ((List K00)) :=
 match p with
 | (t0,deep1,clo2_0,clo2_1,a0,a1,a2) =>
  if (decide (a2 < (t0.fKids.length : Int))) = true then
  (idx t0.fKids a2) >>= fun a3 =>
  (Kiu (t0.fOp,a2)) >>= fun a4 =>
  (Kk6 (a3,(wr (deep1 + a4)),clo2_0,clo2_1)) >>= fun a5 =>
  (Qdw (a1.length + [a5].length) 64) >>= fun _ =>
  Kk7 (t0,deep1,clo2_0,clo2_1,a0,(a1 ++ [a5]),(wr (a2 + 1)))
  else
  some (a1)
 partial_fixpoint
end
def Kk8 (p : K00 × Int × Int × K00) (r : K00) : Prop :=
 match p with
 | (t0,deep1,clo2_0,clo2_1) => Q75 Tryz.prog 194 [K1d t0,I deep1,.fn 195 [.ptr [I clo2_0] 0,.ptr [I clo2_1.fOp,I clo2_1.fN,sI clo2_1.fType,.sl (List.map K05 clo2_1.fKids)] 0]] (K1k r) []
def Kk9 (p : K00 × Int × Int × K00 × (List Int) × (List K00) × Int) (fl : (List K00)) : Prop :=
 match p with
 | (t0,deep1,clo2_0,clo2_1,a0,a1,a2) => ∀ c : Ctx,c.nt = 49 → WpL Tryz.prog c (cl (cl (cr (cl (cr (cr (cr K6s))))))) (Kk5 c t0 a0 fl) (mkS [(1,I deep1),(2,.fn 195 [.ptr [I clo2_0] 0,.ptr [I clo2_1.fOp,I clo2_1.fN,sI clo2_1.fType,.sl (List.map K05 clo2_1.fKids)] 0]),(3,.ra 1 0),(6,.ra 2 0),(7,.ra 6 0),(26,.sl (List.map K05 t0.fKids)),(27,I (t0.fKids.length : Int)),(28,I a2)] [(1,K1c t0),(2,.box [I 0,I 0,.nils,.nils]),(5,rI a0),(6,.box [I t0.fOp,I t0.fN,.rs 5,.rs 12]),(12,.arr (List.map K08 a1))])
theorem Kka : (∀ p r,Kk6 p = some r → Kk8 p r) ∧ (∀ p r,Kk7 p = some r → Kk9 p r) := by
 refine Kk6.mutual_partial_correctness Kk8 Kk9 ?_ ?_
 ·rintro impl_renamed_Kimpl_substituted_c1_l0_f impl_renamed_Kimpl_substituted_c1_l0_ih ⟨t0,deep1,clo2_0,clo2_1⟩ r h
  refine b0 Tryz.f194 K6s 49 [(0,K1d t0),(1,I deep1),(2,.fn 195 [.ptr [I clo2_0] 0,.ptr [I clo2_1.fOp,I clo2_1.fN,sI clo2_1.fType,.sl (List.map K05 clo2_1.fKids)] 0])] fun c hc => ?_
  refine rs hc none [some (.new 1),some (.new 2)] [(1,I deep1),(2,.fn 195 [.ptr [I clo2_0] 0,.ptr [I clo2_1.fOp,I clo2_1.fN,sI clo2_1.fType,.sl (List.map K05 clo2_1.fKids)] 0]),(3,.ra 1 0),(6,.ra 2 0)] [(1,K1c t0),(2,.box [I 0,I 0,.nils,.nils])] tv ?_
  refine sN ?_
  refine K7p hc 3 [(1,I deep1),(2,.fn 195 [.ptr [I clo2_0] 0,.ptr [I clo2_1.fOp,I clo2_1.fN,sI clo2_1.fType,.sl (List.map K05 clo2_1.fKids)] 0]),(3,.ra 1 0),(6,.ra 2 0),(12,.bool (t0.fOp == 0))] ?_
  refine ic h (fun a0 h => ?_) fun a0 h => ?_
  ·obtain ⟨a1,a2,h⟩ := Qdj h
   refine rs hc none [oN,oN,oN,some (.call (K1k a1) [] 3),oN] [(6,.ra 2 0)] [(2,.box [I a1.fOp,I a1.fN,.rs 3,.rs 4]),(3,rI a1.fType),(4,.arr (List.map K08 a1.fKids))] (cq (Kk4 _ _ a2) K6x tv) ?_
   refine rt ?_
   obtain rfl := os h
   exact rq [true]
  refine sk ?_
  obtain ⟨a3,a4,h⟩ := Qdj h
  refine rs hc Kjf [oN,oN,oN,oN,oN,oN,some (.call (oI a3) [] 5),oN,some (.new 6),oN] [(1,I deep1),(2,.fn 195 [.ptr [I clo2_0] 0,.ptr [I clo2_1.fOp,I clo2_1.fN,sI clo2_1.fType,.sl (List.map K05 clo2_1.fKids)] 0]),(3,.ra 1 0),(6,.ra 2 0),(7,.ra 6 0)] [(1,K1c t0),(2,.box [I 0,I 0,.nils,.nils]),(5,rI a3),(6,.box [I t0.fOp,I t0.fN,.rs 5,.nils])] (cq (Kjd _ _ a4) K6n tv) ?_
  refine sN ?_
  refine rss hc none [oN,oN,some (.eqv (.no) ⟨[(27,I (t0.fKids.length : Int))],[],[]⟩),oN] [(1,I deep1),(2,.fn 195 [.ptr [I clo2_0] 0,.ptr [I clo2_1.fOp,I clo2_1.fN,sI clo2_1.fType,.sl (List.map K05 clo2_1.fKids)] 0]),(3,.ra 1 0),(6,.ra 2 0),(7,.ra 6 0),(26,.sl (List.map K05 t0.fKids)),(27,I (t0.fKids.length : Int)),(28,I 0)] (ai (Qdp (d := 27) K05 t0.fKids) tv) ?_
  refine bk 0 ?_
  obtain ⟨a5,a6,h⟩ := Qdj h
  have hL := impl_renamed_Kimpl_substituted_c1_l0_ih _ _ a6 c hc
  refine Wp.loopN (by kernel_rfl) (WpL.view (fun a w hv => SRx.renL [(12,23)] (SRx.nilBL 6 3 23 [I t0.fOp,I t0.fN,.rs 5,.nils] hv (by kernel_rfl) (by kernel_rfl) (by kernel_rfl)) (by kernel_rfl) (by kernel_rfl) (by kernel_rfl)) (?_ : WpL _ c _ _ (mkS [(1,I deep1),(2,.fn 195 [.ptr [I clo2_0] 0,.ptr [I clo2_1.fOp,I clo2_1.fN,sI clo2_1.fType,.sl (List.map K05 clo2_1.fKids)] 0]),(3,.ra 1 0),(6,.ra 2 0),(7,.ra 6 0),(26,.sl (List.map K05 t0.fKids)),(27,I (t0.fKids.length : Int)),(28,I 0)] [(1,K1c t0),(2,.box [I 0,I 0,.nils,.nils]),(5,rI a3),(6,.box [I t0.fOp,I t0.fN,.rs 5,.rs 12]),(12,.arr (List.map K08 []))])))
  refine WpL.into (e := (.exit 0)) (mkS [(6,.ra 2 0),(7,.ra 6 0)] [(2,.box [I 0,I 0,.nils,.nils]),(5,rI a3),(6,.box [I t0.fOp,I t0.fN,.rs 5,.rs 12]),(12,.arr (List.map K08 a5))]) hL ?_
  refine Qcx ?_
  refine rs0 hc 2 [(6,.ra 2 0)] [(2,.box [I t0.fOp,I t0.fN,.rs 5,.rs 12]),(5,rI a3),(12,.arr (List.map K08 a5))] ?_
  refine rt ?_
  obtain rfl := os h
  exact rq [true]
 ·rintro impl_renamed_Kimpl_substituted_c1_f impl_renamed_Kimpl_substituted_c1_l0_f impl_renamed_Kimpl_substituted_c1_ih impl_renamed_Kimpl_substituted_c1_l0_ih ⟨t0,deep1,clo2_0,clo2_1,a3,a7,a8⟩ r h
  intro c hc
  refine WpL.step ?_
  refine K7p hc 1 [(1,I deep1),(2,.fn 195 [.ptr [I clo2_0] 0,.ptr [I clo2_1.fOp,I clo2_1.fN,sI clo2_1.fType,.sl (List.map K05 clo2_1.fKids)] 0]),(3,.ra 1 0),(6,.ra 2 0),(7,.ra 6 0),(26,.sl (List.map K05 t0.fKids)),(27,I (t0.fKids.length : Int)),(28,I a8),(29,.bool (decide (a8 < (t0.fKids.length : Int))))] ?_
  refine sN ?_
  refine ic h (fun a9 h => ?_) fun a9 h => ?_
  ·refine sk ?_
   refine sN ?_
   refine bk 1 ?_
   obtain ⟨b1,b2,h⟩ := Qdj h
   refine rs hc none [oN,some (.el (K1d b1)),oN,some (.new 18),oN,oN] [(1,I deep1),(2,.fn 195 [.ptr [I clo2_0] 0,.ptr [I clo2_1.fOp,I clo2_1.fN,sI clo2_1.fType,.sl (List.map K05 clo2_1.fKids)] 0]),(3,.ra 1 0),(6,.ra 2 0),(7,.ra 6 0),(8,I a8),(9,.ra 18 0),(26,.sl (List.map K05 t0.fKids)),(27,I (t0.fKids.length : Int)),(28,I a8)] [(1,K1c t0),(2,.box [I 0,I 0,.nils,.nils]),(5,rI a3),(6,.box [I t0.fOp,I t0.fN,.rs 5,.rs 12]),(12,.arr (List.map K08 a7)),(18,K1c b1)] (ai (Qdn b2 (K0c b1)) tv) ?_
   obtain ⟨b3,b4,b5,b6,_,b7,h⟩ := bq3 h
   refine rg hc Kjg [oN,oN,oN,oN,oN,oN,oN,oc (I b3),oN,oN,some (.call (K1k b5) [] 19),some (.eqv (.mk 21 true) ⟨[(44,.rs 21)],[(21,some (.arr (List.map K08 [b5]))),(19,none),(20,none)],[21]⟩),some (.eqv (.mk 22 true) ⟨[(45,.rs 22)],[(22,some (.arr (List.map K08 (a7 ++ [b5])))),(12,none),(21,none)],[22]⟩),oN,oN] [(1,I deep1),(2,.fn 195 [.ptr [I clo2_0] 0,.ptr [I clo2_1.fOp,I clo2_1.fN,sI clo2_1.fType,.sl (List.map K05 clo2_1.fKids)] 0]),(3,.ra 1 0),(6,.ra 2 0),(7,.ra 6 0),(26,.sl (List.map K05 t0.fKids)),(27,I (t0.fKids.length : Int)),(28,I a8)] [(1,K1c t0),(2,.box [I 0,I 0,.nils,.nils]),(5,rI a3),(6,.box [I t0.fOp,I t0.fN,.rs 5,.rs 22]),(22,.arr (List.map K08 (a7 ++ [b5])))] (cq (Kiw _ _ b4) K6h (cq (impl_renamed_Kimpl_substituted_c1_ih _ _ b6) K6t (ac (congrArg (fun z => (⟨[(44,.rs 21)],[(21,some (.arr z)),(19,none),(20,none)],[21]⟩ : Wr)) ((Qeq (K0e b5) Qep) : [AV.agg [I b5.fOp,I b5.fN,oI b5.fType,AV.osl (List.map K08 b5.fKids)]] = List.map K08 [b5])) (congrArg (fun z => (⟨[(45,.rs 22)],[(22,some (.arr z)),(12,none),(21,none)],[22]⟩ : Wr)) ((List.map_append).symm : (List.map K08 a7) ++ (List.map K08 [b5]) = List.map K08 (a7 ++ [b5]))) (Qdx (enc1 := K08) (enc2 := K08) (e1 := a7) (e2 := [b5]) (sz := 4) K11 K11 b7) tv))) ?_
   refine K7o hc 2 [(1,I deep1),(2,.fn 195 [.ptr [I clo2_0] 0,.ptr [I clo2_1.fOp,I clo2_1.fN,sI clo2_1.fType,.sl (List.map K05 clo2_1.fKids)] 0]),(3,.ra 1 0),(6,.ra 2 0),(7,.ra 6 0),(26,.sl (List.map K05 t0.fKids)),(27,I (t0.fKids.length : Int)),(28,I (wr (a8 + 1)))] ?_
   refine Qd1 ?_
   exact WpL.view (fun a w hv => SRx.renL [(12,22)] hv (by kernel_rfl) (by kernel_rfl) (by kernel_rfl)) (impl_renamed_Kimpl_substituted_c1_l0_ih _ _ h c hc)
  refine xt 0 ?_
  refine Qcv ?_
  refine Qd2 ?_
  obtain rfl := os h
  exact iv []
theorem Kkb : ∀ p r,Kk6 p = some r → Kk8 p r := Kka.1
theorem Kkc : ∀ p r,Kk7 p = some r → Kk9 p r := Kka.2
def Kkd (p : K00 × Int × K00) : Option (K00) :=
 match p with
 | (t0,i1,u2) =>
  (Kk6 (t0,0,i1,u2)) >>= fun a0 =>
  some a0
def Kke (p : K00 × Int × K00) (r : K00) : Prop :=
 match p with
 | (t0,i1,u2) => Q75 Tryz.prog 122 [K1d t0,I i1,K1d u2] (K1k r) []
theorem Kkf : ∀ p r,Kkd p = some r → Kke p r := by
 rintro ⟨t0,i1,u2⟩ r h
 unfold Kkd at h
 refine b0 Tryz.f122 K6y 10 [(0,K1d t0),(1,I i1),(2,K1d u2)] fun c hc => ?_
 refine rs hc none [some (.new 1),some (.new 2),some (.new 3),some (.new 4)] [(3,.ra 1 0),(4,.ra 2 0),(5,.ra 3 0),(6,.ra 4 0)] [(1,K1c t0),(2,.box [I i1]),(3,K1c u2),(4,.box [I 0,I 0,.nils,.nils])] tv ?_
 obtain ⟨a0,a1,h⟩ := Qdj h
 refine rs hc none [oN,oN,some (.call (K1k a0) [] 5),oN] [(6,.ra 4 0)] [(4,.box [I a0.fOp,I a0.fN,.rs 5,.rs 6]),(5,rI a0.fType),(6,.arr (List.map K08 a0.fKids))] (ac (Kkb _ _ a1) K6t (Or.inr (Qel rfl (Qel rfl (Qel (Qej Qef a0.fType) (Qel (Qej K15 a0.fKids) rfl)))) : ([2,3] : List Nat) = [] ∨ noSh (K1k a0) = true) tv) ?_
 refine rt ?_
 obtain rfl := os h
 exact rq [true]
def Kkg (p : K00 × Int × K00) : Option (K00 × Bool) :=
 match p with
 | (t0,i1,u2) =>
  ((
  (Kj8 t0) >>= fun a0 =>
  if a0 = true then
  (Kj8 u2) >>= fun a1 =>
  if a1 = true then
  some ((decide (i1 < 0)))
  else
  some (true)
  else
  some (true)
  ) : Option (Bool)) >>= fun a2 =>
  if a2 = true then
  some ((K00.mk 0 0 [] []),false)
  else
  (Kkd (t0,i1,u2)) >>= fun a3 =>
  (Kj8 a3) >>= fun a4 =>
  if a4 = true then
  some (a3,true)
  else
  some ((K00.mk 0 0 [] []),false)
def Kkh (p : K00 × Int × K00) (r : K00 × Bool) : Prop :=
 match p with
 | (t0,i1,u2) => Q75 Tryz.prog 49 [K1d t0,I i1,K1d u2] (.tup [.agg [I r.1.fOp,I r.1.fN,.osl (List.map I r.1.fType),.osl (List.map K08 r.1.fKids)],.bool r.2]) []
theorem Kki : ∀ p r,Kkg p = some r → Kkh p r := by
 rintro ⟨t0,i1,u2⟩ r h
 unfold Kkg at h
 refine b0 Tryz.f49 B49 31 [(0,K1d t0),(1,I i1),(2,K1d u2)] fun c hc => ?_
 refine rs hc none [some (.new 1),some (.new 2),some (.new 3),oN] [(1,I i1),(3,.ra 1 0),(5,.ra 2 0),(6,.ra 3 0)] [(1,K1c t0),(2,K1c u2),(3,.box [I 0,I 0,.nils,.nils])] tv ?_
 refine sN ?_
 refine sN ?_
 obtain ⟨a0,a1,h⟩ := Qdj h
 refine Wp.into (x := .normal) (mkS [(1,I i1),(3,.ra 1 0),(5,.ra 2 0),(6,.ra 3 0),(20,.bool a0)] [(1,K1c t0),(2,K1c u2),(3,.box [I 0,I 0,.nils,.nils])]) ?_ ?_
 ·replace h := a1
  obtain ⟨a2,a3,h⟩ := Qdj h
  rcases is h with ⟨a4,h⟩ | ⟨a4,h⟩
  ·obtain ⟨a5,a6,h⟩ := Qdj h
   rcases is h with ⟨a7,h⟩ | ⟨a7,h⟩
   ·refine rgs hc none [oN,oc (.bool a2),oN,oN,oN,oc (.bool a5),oN,oF,oN,oN,oN,oF] [(1,I i1),(3,.ra 1 0),(5,.ra 2 0),(6,.ra 3 0),(20,.bool (decide (i1 < 0)))] (cq (Kja _ _ a3) K6m (ar 2 (nF a4) (cq (Kja _ _ a6) K6m (ar 2 (nF a4) (ar 3 (nF a7) tv))))) ?_
    obtain rfl := os h
    exact Qd5.mk
   refine rgs hc none [oN,oc (.bool a2),oN,oN,oN,oc (.bool a5),oN,oF,oN,o_,o_,oT] [(1,I i1),(3,.ra 1 0),(5,.ra 2 0),(6,.ra 3 0),(20,.bool true)] (cq (Kja _ _ a3) K6m (ar 2 (nF a4) (cq (Kja _ _ a6) K6m (ar 2 (nF a4) (ar 2 (neF (nT a7)) (ai (nT a7) tv)))))) ?_
   obtain rfl := os h
   exact Qd5.mk
  refine rgs hc none [oN,oc (.bool a2),oN,oN,o_,o_,o_,oT,oN,o_,o_,oT] [(1,I i1),(3,.ra 1 0),(5,.ra 2 0),(6,.ra 3 0),(20,.bool true)] (cq (Kja _ _ a3) K6m (ar 3 (neF (nT a4)) (ai (nT a4) (ar 2 nf (ai tt tv))))) ?_
  obtain rfl := os h
  exact Qd5.mk
 clear a1
 refine ic h (fun a8 h => ?_) fun a8 h => ?_
 ·refine rs0 hc 3 [(6,.ra 3 0),(7,.bool false)] [(3,.box [I 0,I 0,.nils,.nils])] ?_
  refine rt ?_
  obtain rfl := os h
  exact rq [true,true]
 refine sk ?_
 obtain ⟨a9,b1,h⟩ := Qdj h
 refine rs hc none [oN,oN,oN,some (.call (K1k a9) [] 4),some (.new 6),oN] [(6,.ra 3 0),(8,.ra 6 0)] [(3,.box [I 0,I 0,.nils,.nils]),(4,rI a9.fType),(5,.arr (List.map K08 a9.fKids)),(6,.box [I a9.fOp,I a9.fN,.rs 4,.rs 5])] (cq (Kkf _ _ b1) K6z tv) ?_
 refine sN ?_
 obtain ⟨b2,b3,h⟩ := Qdj h
 refine rss hc none [oN,oc (.bool b2),oN] [(6,.ra 3 0),(8,.ra 6 0),(28,.bool (!b2))] (ac (Q75.args (A1 := [K1l a9]) (A2 := [K1d a9]) (by simp only [K1l,List.map_nil,K14,Qeb]) (Kja _ _ b3)) K6m (Or.inr rfl : ([4,5] : List Nat) = [] ∨ noSh (.bool b2) = true) tv) ?_
 rcases is h with ⟨b4,h⟩ | ⟨b4,h⟩
 ·refine cF (!b2) (nF b4) ?_
  refine sk ?_
  refine rs0 hc 3 [(6,.ra 3 0),(7,.bool true)] [(3,.box [I a9.fOp,I a9.fN,.rs 4,.rs 5]),(4,rI a9.fType),(5,.arr (List.map K08 a9.fKids))] ?_
  refine rt ?_
  obtain rfl := os h
  exact rq [true,true]
 refine cT (!b2) (nT b4) ?_
 refine rs0 hc 3 [(6,.ra 3 0),(7,.bool false)] [(3,.box [I 0,I 0,.nils,.nils])] ?_
 refine rt ?_
 obtain rfl := os h
 exact rq [true,true]
def Kkj (op0 : Int) : Option (Int) :=
 (K8g (op0,0,12)) >>= fun a0 =>
 if a0 = true then
 (idx [0,0,2,3,2,2,1,1,3,1,2,1,2] op0) >>= fun a1 =>
 some a1
 else
 some (-1)
def Kkk (op0 : Int) (r : Int) : Prop :=
 Q75 Tryz.prog 227 [I op0] (I r) []
theorem Kkl : ∀ p r,Kkj p = some r → Kkk p r := by
 rintro op0 r h
 unfold Kkj at h
 refine b0 Tryz.f227 K71 10 [(0,I op0)] fun c hc => ?_
 refine rs0 hc 1 [(0,I op0)] [] ?_
 refine sN ?_
 obtain ⟨a0,a1,h⟩ := Qdj h
 refine rs hc none [oN,oc (.bool a0),oN] [(0,I op0),(5,.bool (!a0))] [] (cq (K8i _ _ a1) K2k tv) ?_
 rcases is h with ⟨a2,h⟩ | ⟨a2,h⟩
 ·refine cF (!a0) (nF a2) ?_
  refine sk ?_
  obtain ⟨a3,a4,h⟩ := Qdj h
  refine rs hc none [some (.mk 1 true),oN,oN,some (.el (I a3)),oN] [(2,I a3)] [] (ab (Qdo (enc := I) a4) (ix a4).2 tv) ?_
  refine rt ?_
  obtain rfl := os h
  exact rq [true]
 refine cT (!a0) (nT a2) ?_
 refine rs0 hc 1 [(2,I (-1))] [] ?_
 refine rt ?_
 obtain rfl := os h
 exact rq [true]
def Kkm (op0 : Int) : Option (Bool) :=
 ((
 if (op0 == 6) = true then
 some (true)
 else
 if (op0 == 7) = true then
 some (true)
 else
 some ((op0 == 9))
 ) : Option (Bool)) >>= fun a0 =>
 some a0
def Kkn (op0 : Int) (r : Bool) : Prop :=
 Q75 Tryz.prog 228 [I op0] (.bool r) []
theorem Kko : ∀ p r,Kkm p = some r → Kkn p r := by
 rintro op0 r h
 unfold Kkm at h
 refine b0 Tryz.f228 K73 13 [(0,I op0)] fun c hc => ?_
 refine rs0 hc 1 [(0,I op0)] [] ?_
 refine sN ?_
 obtain ⟨a0,a1,h⟩ := Qdj h
 refine Wp.into (x := .normal) (mkS [(2,.bool a0)] []) ?_ ?_
 ·replace h := a1
  rcases is h with ⟨a2,h⟩ | ⟨a2,h⟩
  ·refine rg hc none [oN,oN,oN,o_,o_,oT,oN,o_,o_,oT,oN] [(2,.bool true)] [] (ar 2 (neF a2) (ai a2 (ar 2 nf (ai tt tv)))) ?_
   obtain rfl := os h
   exact Qd5.mk
  rcases is h with ⟨a3,h⟩ | ⟨a3,h⟩
  ·refine rg hc none [oN,oN,oN,oN,oN,oF,oN,o_,o_,oT,oN] [(2,.bool true)] [] (ar 3 a2 (ar 2 (neF a3) (ai a3 tv))) ?_
   obtain rfl := os h
   exact Qd5.mk
  refine rg hc none [oN,oN,oN,oN,oN,oF,oN,oN,oN,oF,oN] [(2,.bool (op0 == 9))] [] (ar 3 a2 (ar 3 a3 tv)) ?_
  obtain rfl := os h
  exact Qd5.mk
 clear a1
 refine rt ?_
 obtain rfl := os h
 exact rq [true]
def Kkp (c : Ctx) (t0 : K00) (size2 : Int) (closed3 : Bool) : (Unit) ⊕ (Bool) → Exit → Q0a → Prop
 | .inl _ => Qd5 c .normal (mkS [(2,I size2),(3,.bool closed3),(4,.ra 1 0)] [(1,K1c t0)])
 | .inr r => Qde TIx Tryz.f190 [] (.bool r)
def Kkq (c : Ctx) (t0 : K00) (size2 : Int) (closed3 : Bool) : (Unit) ⊕ (Bool) → Exit → Q0a → Prop
 | .inl _ => Qd5 c .normal (mkS [(2,I size2),(3,.bool closed3),(4,.ra 1 0)] [(1,K1c t0)])
 | .inr r => Qde TIx Tryz.f190 [] (.bool r)
def Kkr (c : Ctx) (t0 : K00) (size2 : Int) (closed3 : Bool) : (Unit) ⊕ (Bool) → Exit → Q0a → Prop
 | .inl _ => Qd5 c .normal (mkS [(2,I size2),(3,.bool closed3),(4,.ra 1 0)] [(1,K1c t0)])
 | .inr r => Qde TIx Tryz.f190 [] (.bool r)
def Kks (p : K00 × Int × Int × Bool) : Option (Bool) :=
 match p with
 | (t0,n1,size2,closed3) =>
  (Kkj t0.fOp) >>= fun a0 =>
  if ((t0.fKids.length : Int) != a0) = true then
  some false
  else
  ((
   if (t0.fOp == 0) = true then
   (K8g (t0.fN,0,(wr (n1 - 1)))) >>= fun a1 =>
   if a1 = true then
    some (.inl ())
   else
    some (.inr false)
   else
   ((
    if (t0.fOp == 1) = true then
    (K8g (t0.fN,0,2)) >>= fun a2 =>
    if a2 = true then
     some (.inl ())
    else
     some (.inr false)
    else
    (Kg6 t0.fOp) >>= fun a3 =>
    ((
     if a3 = true then
     ((
     if (decide (t0.fN ≥ size2)) = true then
     some (true)
     else
     if (decide (t0.fN < (-1))) = true then
     some (true)
     else
     if closed3 = true then
     some ((decide (t0.fN < 0)))
     else
     some (false)
     ) : Option (Bool)) >>= fun a4 =>
     if a4 = true then
     some (.inr false)
     else
     some (.inl ())
     else
     if (t0.fN != 0) = true then
     some (.inr false)
     else
     some (.inl ())) : Option ((Unit) ⊕ (Bool))) >>= fun fl => match fl with
    | .inl () =>
     some (.inl ())
    | .inr r =>
     some (.inr r)) : Option ((Unit) ⊕ (Bool))) >>= fun fl => match fl with
   | .inl () =>
    some (.inl ())
   | .inr r =>
    some (.inr r)) : Option ((Unit) ⊕ (Bool))) >>= fun fl => match fl with
  | .inl () =>
   (Kkm t0.fOp) >>= fun a5 =>
   if a5 = true then
   ((
    (Khc t0.fType) >>= fun a6 =>
    if a6 = true then
    (Khk (t0.fType,size2,closed3)) >>= fun a7 =>
    some (a7)
    else
    some (false)
   ) : Option (Bool)) >>= fun a8 =>
   some a8
   else
   some ((t0.fType.length : Int) == 0)
  | .inr r =>
   some r
def Kkt (p : K00 × Int × Int × Bool) (r : Bool) : Prop :=
 match p with
 | (t0,n1,size2,closed3) => Q75 Tryz.prog 190 [K1d t0,I n1,I size2,.bool closed3] (.bool r) []
theorem Kku : ∀ p r,Kks p = some r → Kkt p r := by
 rintro ⟨t0,n1,size2,closed3⟩ r h
 unfold Kks at h
 refine b0 Tryz.f190 K75 76 [(0,K1d t0),(1,I n1),(2,I size2),(3,.bool closed3)] fun c hc => ?_
 refine rs hc none [some (.new 1),oN] [(1,I n1),(2,I size2),(3,.bool closed3),(4,.ra 1 0)] [(1,K1c t0)] tv ?_
 refine sN ?_
 obtain ⟨a0,a1,h⟩ := Qdj h
 refine rss hc (rx [[0],[1],[2],[0],[0,3],[0,3,4],[6]]) [oN,oN,some (.eqv (.no) ⟨[(11,I (t0.fKids.length : Int))],[],[]⟩),oN,oN,oc (I a0),oN] [(1,I n1),(2,I size2),(3,.bool closed3),(4,.ra 1 0),(15,.bool ((t0.fKids.length : Int) != a0))] (ai (Qdp (d := 11) K05 t0.fKids) (cq (Kkl _ _ a1) K72 tv)) ?_
 refine ic h (fun a2 h => ?_) fun a2 h => ?_
 ·refine rs0 hc 1 [(8,.bool false)] [] ?_
  refine rt ?_
  obtain rfl := os h
  exact rq [true]
 refine sk ?_
 refine sN ?_
 refine bk 0 ?_
 refine K7p hc 4 [(1,I n1),(2,I size2),(3,.bool closed3),(4,.ra 1 0),(19,.bool (t0.fOp == 0))] ?_
 obtain ⟨fl,a3,h⟩ := Qdj h
 refine flw (Kkr c t0 size2 closed3 fl) ?_ (fun hF => ?_)
 ·replace h := a3
  refine ic h (fun a4 h => ?_) fun a4 h => ?_
  ·obtain ⟨a5,a6,h⟩ := Qdj h
   refine rss hc none [oN,oN,oN,oN,oc (.bool a5),oN] [(2,I size2),(3,.bool closed3),(4,.ra 1 0),(28,.bool (!a5))] (cq (K8i _ _ a6) K2k tv) ?_
   rcases is h with ⟨a7,h⟩ | ⟨a7,h⟩
   ·refine cF (!a5) (nF a7) ?_
    refine sk ?_
    obtain rfl := os h
    exact iv []
   refine cT (!a5) (nT a7) ?_
   refine rs0 hc 1 [(8,.bool false)] [] ?_
   refine rt ?_
   obtain rfl := os h
   exact re [true]
  refine K7p hc 4 [(2,I size2),(3,.bool closed3),(4,.ra 1 0),(29,.bool (t0.fOp == 1))] ?_
  obtain ⟨fl,a8,h⟩ := Qdj h
  refine flw (Kkq c t0 size2 closed3 fl) ?_ (fun hF => ?_)
  ·replace h := a8
   refine ic h (fun a9 h => ?_) fun a9 h => ?_
   ·obtain ⟨b1,b2,h⟩ := Qdj h
    refine rss hc none [oN,oN,oc (.bool b1),oN] [(2,I size2),(3,.bool closed3),(4,.ra 1 0),(36,.bool (!b1))] (cq (K8i _ _ b2) K2k tv) ?_
    rcases is h with ⟨b3,h⟩ | ⟨b3,h⟩
    ·refine cF (!b1) (nF b3) ?_
     refine sk ?_
     obtain rfl := os h
     exact iv []
    refine cT (!b1) (nT b3) ?_
    refine rs0 hc 1 [(8,.bool false)] [] ?_
    refine rt ?_
    obtain rfl := os h
    exact re [true]
   obtain ⟨b4,b5,h⟩ := Qdj h
   refine rss hc none [oN,oN,oc (.bool b4),oN] [(2,I size2),(3,.bool closed3),(4,.ra 1 0),(37,.bool b4)] (cq (Kg8 _ _ b5) K5e tv) ?_
   obtain ⟨fl,b6,h⟩ := Qdj h
   refine flw (Kkp c t0 size2 closed3 fl) ?_ (fun hF => ?_)
   ·replace h := b6
    refine ic h (fun b7 h => ?_) fun b7 h => ?_
    ·refine sN ?_
     obtain ⟨b8,b9,h⟩ := Qdj h
     refine Wp.into (x := .normal) (mkS [(2,I size2),(3,.bool closed3),(4,.ra 1 0),(57,.bool b8)] [(1,K1c t0)]) ?_ ?_
     ·replace h := b9
      rcases is h with ⟨c0,h⟩ | ⟨c0,h⟩
      ·refine rgs hc none [oN,oN,oN,oN,oN,o_,o_,o_,oT,oN,o_,o_,o_,o_,o_,o_,oT] [(2,I size2),(3,.bool closed3),(4,.ra 1 0),(57,.bool true)] (ar 3 (neF c0) (ai c0 (ar 3 nf (ai tt tv)))) ?_
       obtain rfl := os h
       exact Qd5.mk
      rcases is h with ⟨c1,h⟩ | ⟨c1,h⟩
      ·refine rgs hc none [oN,oN,oN,oN,oN,oN,oN,oN,oF,oN,o_,o_,o_,o_,o_,o_,oT] [(2,I size2),(3,.bool closed3),(4,.ra 1 0),(57,.bool true)] (ar 4 c0 (ar 3 (neF c1) (ai c1 tv))) ?_
       obtain rfl := os h
       exact Qd5.mk
      rcases is h with ⟨c2,h⟩ | ⟨c2,h⟩
      ·refine rgs hc none [oN,oN,oN,oN,oN,oN,oN,oN,oF,oN,oN,oN,oN,oN,oN,oT,oF] [(2,I size2),(3,.bool closed3),(4,.ra 1 0),(57,.bool (decide (t0.fN < 0)))] (ar 4 c0 (ar 2 c1 (ar 3 c2 (ac c1 c2 c1 tv)))) ?_
       obtain rfl := os h
       exact Qd5.mk
      refine rgs hc none [oN,oN,oN,oN,oN,oN,oN,oN,oF,oN,oN,oN,o_,o_,o_,oF,oF] [(2,I size2),(3,.bool closed3),(4,.ra 1 0),(57,.bool false)] (ar 4 c0 (ar 2 c1 (ar 3 (neT c2) (ac c1 c2 c1 tv)))) ?_
      obtain rfl := os h
      exact Qd5.mk
     clear b9
     refine ic h (fun c3 h => ?_) fun c3 h => ?_
     ·refine rs0 hc 1 [(8,.bool false)] [] ?_
      refine rt ?_
      obtain rfl := os h
      exact re [true]
     refine sk ?_
     obtain rfl := os h
     exact iv []
    refine K7p hc 3 [(2,I size2),(3,.bool closed3),(4,.ra 1 0),(18,.bool (t0.fN != 0))] ?_
    refine ic h (fun c4 h => ?_) fun c4 h => ?_
    ·refine rs0 hc 1 [(8,.bool false)] [] ?_
     refine rt ?_
     obtain rfl := os h
     exact re [true]
    refine sk ?_
    obtain rfl := os h
    exact iv []
   rcases fl with ⟨⟩ | r
   ·refine Wp.into (x := .normal) (mkS [(2,I size2),(3,.bool closed3),(4,.ra 1 0)] [(1,K1c t0)]) hF ?_
    obtain rfl := os h
    exact Qd5.mk
   refine Wp.mono hF ?_
   rintro _ _ ⟨rfl,hfin⟩
   obtain rfl := os h
   exact ⟨rfl,hfin⟩
  rcases fl with ⟨⟩ | r
  ·refine Wp.into (x := .normal) (mkS [(2,I size2),(3,.bool closed3),(4,.ra 1 0)] [(1,K1c t0)]) hF ?_
   obtain rfl := os h
   exact Qd5.mk
  refine Wp.mono hF ?_
  rintro _ _ ⟨rfl,hfin⟩
  obtain rfl := os h
  exact ⟨rfl,hfin⟩
 rcases fl with ⟨⟩ | r
 ·refine Wp.into (x := .normal) (mkS [(2,I size2),(3,.bool closed3),(4,.ra 1 0)] [(1,K1c t0)]) hF ?_
  refine sN ?_
  obtain ⟨c5,c6,h⟩ := Qdj h
  refine rss hc none [oN,oN,oc (.bool c5),oN] [(2,I size2),(3,.bool closed3),(4,.ra 1 0),(61,.bool (!c5))] (cq (Kko _ _ c6) K74 tv) ?_
  rcases is h with ⟨c7,h⟩ | ⟨c7,h⟩
  ·refine cF (!c5) (nF c7) ?_
   refine sk ?_
   refine sN ?_
   obtain ⟨c8,c9,h⟩ := Qdj h
   refine Wp.into (x := .normal) (mkS [(8,.bool c8)] []) ?_ ?_
   ·replace h := c9
    obtain ⟨d0,d1,h⟩ := Qdj h
    rcases is h with ⟨d2,h⟩ | ⟨d2,h⟩
    ·obtain ⟨d3,d4,h⟩ := Qdj h
     refine rg hc none [oN,oN,oc (.bool d0),oN,oN,oN,oN,oN,oc (.bool d3),oT,oN] [(8,.bool d3)] [] (cq (Khe _ _ d1) K5s (ar 5 d2 (cq (Khm _ _ d4) K5t (ai d2 tv)))) ?_
     obtain rfl := os h
     exact Qd5.mk
    refine rg hc none [oN,oN,oc (.bool d0),oN,o_,o_,o_,o_,o_,oF,oN] [(8,.bool false)] [] (cq (Khe _ _ d1) K5s (ar 5 (neT d2) (ai d2 tv))) ?_
    obtain rfl := os h
    exact Qd5.mk
   clear c9
   refine rt ?_
   obtain rfl := os h
   exact rq [true]
  refine cT (!c5) (nT c7) ?_
  refine rs hc none [oN,oN,some (.eqv (.no) ⟨[(64,I (t0.fType.length : Int))],[],[]⟩),oN,oN] [(8,.bool ((t0.fType.length : Int) == 0))] [] (ai (Qdp (d := 64) I t0.fType) tv) ?_
  refine rt ?_
  obtain rfl := os h
  exact rq [true]
 refine Wp.mono hF ?_
 rintro _ _ ⟨rfl,hfin⟩
 obtain rfl := os h
 exact ⟨.inl rfl,hfin⟩
def Kkv (c : Ctx) : (Unit) ⊕ (Bool) → Exit → Q0a → Prop
 | .inl _ => Qd5 c (.exit 0) (mkS [] [])
 | .inr r => Qde TIx Tryz.f114 [] (.bool r)
mutual
def Kkw (p : K00 × Int × Int × Bool) : Option (Bool) :=
 match p with
 | (t0,n1,size2,closed3) =>
  (Kks (t0,n1,size2,closed3)) >>= fun a0 =>
  if a0 = true then
  (Kkx (t0,n1,size2,closed3,0)) >>= fun fl => match fl with
  | .inl () =>
   some true
  | .inr r =>
   some r
  else
  some false
 partial_fixpoint
def Kkx (p : K00 × Int × Int × Bool × Int) : Option ((Unit) ⊕ (Bool)) :=
 match p with
 | (t0,n1,size2,closed3,a0) =>
  if (decide (a0 < (t0.fKids.length : Int))) = true then
  (idx t0.fKids a0) >>= fun a1 =>
  (Keo (t0.fOp,a0)) >>= fun a2 =>
  (Kkw (a1,(wr (n1 + a2)),size2,closed3)) >>= fun a3 =>
  if a3 = true then
  Kkx (t0,n1,size2,closed3,(wr (a0 + 1)))
  else
  some (.inr false)
  else
  some (.inl ())
 partial_fixpoint
end
def Kky (p : K00 × Int × Int × Bool) (r : Bool) : Prop :=
 match p with
 | (t0,n1,size2,closed3) => Q75 Tryz.prog 114 [K1d t0,I n1,I size2,.bool closed3] (.bool r) []
def Kkz (p : K00 × Int × Int × Bool × Int) (fl : (Unit) ⊕ (Bool)) : Prop :=
 match p with
 | (t0,n1,size2,closed3,a0) => ∀ c : Ctx,c.nt = 38 → WpL Tryz.prog c (cl (cl (cr (cl (cr (cr K77)))))) (Kkv c fl) (mkS [(1,I n1),(2,I size2),(3,.bool closed3),(4,.ra 1 0),(9,I a0)] [(1,K1c t0)])
theorem Kl0 : (∀ p r,Kkw p = some r → Kky p r) ∧ (∀ p r,Kkx p = some r → Kkz p r) := by
 refine Kkw.mutual_partial_correctness Kky Kkz ?_ ?_
 ·rintro spec_l2Term_l0_f spec_l2Term_l0_ih ⟨t0,n1,size2,closed3⟩ r h
  refine b0 Tryz.f114 K77 38 [(0,K1d t0),(1,I n1),(2,I size2),(3,.bool closed3)] fun c hc => ?_
  refine rs hc none [some (.new 1),oN] [(1,I n1),(2,I size2),(3,.bool closed3),(4,.ra 1 0)] [(1,K1c t0)] tv ?_
  refine sN ?_
  obtain ⟨a0,a1,h⟩ := Qdj h
  refine rss hc none [oN,oN,oN,oN,oc (.bool a0),oN] [(1,I n1),(2,I size2),(3,.bool closed3),(4,.ra 1 0),(15,.bool (!a0))] (cq (Kku _ _ a1) K76 tv) ?_
  rcases is h with ⟨a2,h⟩ | ⟨a2,h⟩
  ·refine cF (!a0) (nF a2) ?_
   refine sk ?_
   refine sN ?_
   refine K7p hc 1 [(1,I n1),(2,I size2),(3,.bool closed3),(4,.ra 1 0),(9,I 0)] ?_
   refine bk 0 ?_
   obtain ⟨fl,a3,h⟩ := Qdj h
   have hL := spec_l2Term_l0_ih _ _ a3 c hc
   refine lp ?_
   rcases fl with ⟨⟩ | r
   ·refine WpL.into (e := (.exit 0)) (mkS [] []) hL ?_
    refine Qcx ?_
    refine rs0 hc 1 [(8,.bool true)] [] ?_
    refine rt ?_
    obtain rfl := os h
    exact rq [true]
   refine WpL.mono hL ?_
   rintro _ _ ⟨rfl,hfin⟩
   obtain rfl := os h
   exact ⟨.inl rfl,hfin⟩
  refine cT (!a0) (nT a2) ?_
  refine rs0 hc 1 [(8,.bool false)] [] ?_
  refine rt ?_
  obtain rfl := os h
  exact rq [true]
 ·rintro spec_l2Term_f spec_l2Term_l0_f spec_l2Term_ih spec_l2Term_l0_ih ⟨t0,n1,size2,closed3,a4⟩ r h
  intro c hc
  refine WpL.step ?_
  refine sN ?_
  refine rss hc none [oN,oN,oN,some (.eqv (.no) ⟨[(19,I (t0.fKids.length : Int))],[],[]⟩),oN] [(1,I n1),(2,I size2),(3,.bool closed3),(4,.ra 1 0),(9,I a4),(20,.bool (decide (a4 < (t0.fKids.length : Int))))] (ai (Qdp (d := 19) K05 t0.fKids) tv) ?_
  refine ic h (fun a5 h => ?_) fun a5 h => ?_
  ·refine sk ?_
   refine sN ?_
   refine bk 1 ?_
   obtain ⟨a6,a7,a8,a9,b1,b2,h⟩ := bq3 h
   refine rss hc (rx [[0],[1],[0],[3],[4],[0],[0],[0,6],[0],[0,6,7,8],[0,5,6,7,8,9],[0],[0],[13],[14]]) [oN,oN,oN,some (.el (K1d a6)),oN,oN,oN,oN,oN,oc (I a8),oN,oN,oN,oc (.bool b1),oN] [(1,I n1),(2,I size2),(3,.bool closed3),(4,.ra 1 0),(9,I a4),(37,.bool (!b1))] (ai (Qdn a7 (K0c a6)) (cq (Keq _ _ a9) K54 (cq (spec_l2Term_ih _ _ b2) K78 tv))) ?_
   rcases is h with ⟨b3,h⟩ | ⟨b3,h⟩
   ·refine cF (!b1) (nF b3) ?_
    refine sk ?_
    refine K7o hc 3 [(1,I n1),(2,I size2),(3,.bool closed3),(4,.ra 1 0),(9,I (wr (a4 + 1)))] ?_
    refine Qd1 ?_
    exact (spec_l2Term_l0_ih _ _ h c hc)
   refine cT (!b1) (nT b3) ?_
   refine rs0 hc 1 [(8,.bool false)] [] ?_
   refine rt ?_
   obtain rfl := os h
   exact re [true]
  refine xt 0 ?_
  refine Qcv ?_
  refine Qd2 ?_
  obtain rfl := os h
  exact iv []
theorem Kl1 : ∀ p r,Kkw p = some r → Kky p r := Kl0.1
theorem Kl2 : ∀ p r,Kkx p = some r → Kkz p r := Kl0.2
def Kl3 (t0 : K00) : Option (Bool) :=
 ((
 (Kfp (t0,400)) >>= fun a0 =>
 if (decide (a0 ≥ 0)) = true then
 (Kkw (t0,8,16,false)) >>= fun a1 =>
 some (a1)
 else
 some (false)
 ) : Option (Bool)) >>= fun a2 =>
 some a2
def Kl4 (t0 : K00) (r : Bool) : Prop :=
 Q75 Tryz.prog 41 [K1d t0] (.bool r) []
theorem Kl5 : ∀ p r,Kl3 p = some r → Kl4 p r := by
 rintro t0 r h
 unfold Kl3 at h
 refine b0 Tryz.f41 B41 10 [(0,K1d t0)] fun c hc => ?_
 refine rs hc none [some (.new 1),oN] [(1,.ra 1 0)] [(1,K1c t0)] tv ?_
 refine sN ?_
 obtain ⟨a0,a1,h⟩ := Qdj h
 refine Wp.into (x := .normal) (mkS [(2,.bool a0)] []) ?_ ?_
 ·replace h := a1
  obtain ⟨a2,a3,h⟩ := Qdj h
  rcases is h with ⟨a4,h⟩ | ⟨a4,h⟩
  ·obtain ⟨a5,a6,h⟩ := Qdj h
   refine rg hc none [oN,oc (I a2),oN,oN,oN,oc (.bool a5),oT,oN] [(2,.bool a5)] [] (cq (Kfu _ _ a3) K58 (ar 2 a4 (cq (Kl1 _ _ a6) K78 (ai a4 tv)))) ?_
   obtain rfl := os h
   exact Qd5.mk
  refine rg hc none [oN,oc (I a2),oN,oN,o_,o_,oF,oN] [(2,.bool false)] [] (cq (Kfu _ _ a3) K58 (ar 2 (neT a4) (ai a4 tv))) ?_
  obtain rfl := os h
  exact Qd5.mk
 clear a1
 refine rt ?_
 obtain rfl := os h
 exact rq [true]
def Kl6 (c : Ctx) : Int → Exit → Q0a → Prop
 | a0 => Qd5 c (.exit 0) (mkS [(5,I a0)] [])
mutual
def Kl7 (p : K00 × Int) : Option (Int) :=
 match p with
 | (t0,i1) =>
  if (t0.fOp == 0) = true then
  if (t0.fN == i1) = true then
  some 1
  else
  some 0
  else
  (Kl8 (t0,i1,0,0)) >>= fun a0 =>
  some a0
 partial_fixpoint
def Kl8 (p : K00 × Int × Int × Int) : Option (Int) :=
 match p with
 | (t0,i1,a0,a1) =>
  if (decide (a1 < (t0.fKids.length : Int))) = true then
  (idx t0.fKids a1) >>= fun a2 =>
  (Keo (t0.fOp,a1)) >>= fun a3 =>
  (Kl7 (a2,(wr (i1 + a3)))) >>= fun a4 =>
  Kl8 (t0,i1,(wr (a0 + a4)),(wr (a1 + 1)))
  else
  some (a0)
 partial_fixpoint
end
def Kl9 (p : K00 × Int) (r : Int) : Prop :=
 match p with
 | (t0,i1) => Q75 Tryz.prog 197 [K1d t0,I i1] (I r) []
def Kla (p : K00 × Int × Int × Int) (fl : Int) : Prop :=
 match p with
 | (t0,i1,a0,a1) => ∀ c : Ctx,c.nt = 36 → WpL Tryz.prog c (cl (cl (cr (cl (cr (cr (cr K7a))))))) (Kl6 c fl) (mkS [(1,I i1),(2,.ra 1 0),(5,I a0),(6,I a1)] [(1,K1c t0)])
theorem Klb : (∀ p r,Kl7 p = some r → Kl9 p r) ∧ (∀ p r,Kl8 p = some r → Kla p r) := by
 refine Kl7.mutual_partial_correctness Kl9 Kla ?_ ?_
 ·rintro spec_l2Uses_l0_f spec_l2Uses_l0_ih ⟨t0,i1⟩ r h
  refine b0 Tryz.f197 K7a 36 [(0,K1d t0),(1,I i1)] fun c hc => ?_
  refine rs hc none [some (.new 1),oN] [(1,I i1),(2,.ra 1 0)] [(1,K1c t0)] tv ?_
  refine sN ?_
  refine K7p hc 3 [(1,I i1),(2,.ra 1 0),(9,.bool (t0.fOp == 0))] ?_
  refine ic h (fun a0 h => ?_) fun a0 h => ?_
  ·refine sN ?_
   refine rs0 hc 4 [(13,.bool (t0.fN == i1))] [] ?_
   refine ic h (fun a1 h => ?_) fun a1 h => ?_
   ·refine rs0 hc 1 [(4,I 1)] [] ?_
    refine rt ?_
    obtain rfl := os h
    exact rq [true]
   refine sk ?_
   refine rs0 hc 1 [(4,I 0)] [] ?_
   refine rt ?_
   obtain rfl := os h
   exact rq [true]
  refine sk ?_
  refine K7p hc 1 [(1,I i1),(2,.ra 1 0),(5,I 0)] ?_
  refine sN ?_
  refine K7p hc 1 [(1,I i1),(2,.ra 1 0),(5,I 0),(6,I 0)] ?_
  refine bk 0 ?_
  obtain ⟨a2,a3,h⟩ := Qdj h
  have hL := spec_l2Uses_l0_ih _ _ a3 c hc
  refine lp ?_
  refine WpL.into (e := (.exit 0)) (mkS [(5,I a2)] []) hL ?_
  refine Qcx ?_
  refine rs0 hc 2 [(4,I a2)] [] ?_
  refine rt ?_
  obtain rfl := os h
  exact rq [true]
 ·rintro spec_l2Uses_f spec_l2Uses_l0_f spec_l2Uses_ih spec_l2Uses_l0_ih ⟨t0,i1,a4,a5⟩ r h
  intro c hc
  refine WpL.step ?_
  refine sN ?_
  refine rss hc none [oN,oN,oN,some (.eqv (.no) ⟨[(17,I (t0.fKids.length : Int))],[],[]⟩),oN] [(1,I i1),(2,.ra 1 0),(5,I a4),(6,I a5),(18,.bool (decide (a5 < (t0.fKids.length : Int))))] (ai (Qdp (d := 17) K05 t0.fKids) tv) ?_
  refine ic h (fun a6 h => ?_) fun a6 h => ?_
  ·refine sk ?_
   refine sN ?_
   refine bk 1 ?_
   obtain ⟨a7,a8,a9,b1,b2,b3,h⟩ := bq3 h
   refine rgs hc (rx [[0],[0],[0,1],[0],[0,1,2,3],[0,1,2,3,4],[0],[0],[0,7],[0],[0,7,8,9],[0,6,7,8,9,10],[0,1,2,3,4,5,6,7,8,9,10,11],[13],[14]]) [oN,oN,oN,oN,some (.el (K1d a7)),oN,oN,oN,oN,oN,oc (I a9),oN,oc (I b2),oN,oN] [(1,I i1),(2,.ra 1 0),(5,I (wr (a4 + b2))),(6,I a5)] (ai (Qdn a8 (K0c a7)) (cq (Keq _ _ b1) K54 (cq (spec_l2Uses_ih _ _ b3) K7b tv))) ?_
   refine K7o hc 3 [(1,I i1),(2,.ra 1 0),(5,I (wr (a4 + b2))),(6,I (wr (a5 + 1)))] ?_
   refine Qd1 ?_
   exact (spec_l2Uses_l0_ih _ _ h c hc)
  refine xt 0 ?_
  refine Qcv ?_
  refine Qd2 ?_
  obtain rfl := os h
  exact iv []
theorem Klc : ∀ p r,Kl7 p = some r → Kl9 p r := Klb.1
theorem Kld : ∀ p r,Kl8 p = some r → Kla p r := Klb.2
def Kle (p : K00 × Int × K00) : Option (Bool) :=
 match p with
 | (t0,i1,u2) =>
  (Kfp (t0,400)) >>= fun a0 =>
  (Kl7 (t0,i1)) >>= fun a1 =>
  (Kfp (u2,400)) >>= fun a2 =>
  some (decide ((wr ((wr (400 - a0)) + (wr (a1 * (wr ((wr (400 - a2)) - 1)))))) ≤ 400))
def Klf (p : K00 × Int × K00) (r : Bool) : Prop :=
 match p with
 | (t0,i1,u2) => Q75 Tryz.prog 124 [K1d t0,I i1,K1d u2] (.bool r) []
theorem Klg : ∀ p r,Kle p = some r → Klf p r := by
 rintro ⟨t0,i1,u2⟩ r h
 unfold Kle at h
 refine b0 Tryz.f124 K7c 20 [(0,K1d t0),(1,I i1),(2,K1d u2)] fun c hc => ?_
 refine rs hc none [some (.new 1),some (.new 2),oN] [(1,I i1),(3,.ra 1 0),(5,.ra 2 0)] [(1,K1c t0),(2,K1c u2)] tv ?_
 obtain ⟨a0,a1,a2,a3,a4,a5,h⟩ := bq3 h
 refine rs hc (rx [[0],[1],[2],[0],[0],[2,3,4],[0],[2,3,4,5,6],[2,3,4,5,6,7],[2,3,4,5,6,7,8],[2,3,4,5,6,7,8,9],[11],[12],[13]]) [oN,oc (I a0),oN,oN,oN,oc (I a2),oN,oc (I a4),oN,oN,oN,oN,oN,oN] [(6,.bool (decide ((wr ((wr (400 - a0)) + (wr (a2 * (wr ((wr (400 - a4)) - 1)))))) ≤ 400)))] [] (cq (Kfu _ _ a1) K58 (cq (Klc _ _ a3) K7b (cq (Kfu _ _ a5) K58 tv))) ?_
 refine rt ?_
 obtain rfl := os h
 exact rq [true]
def Klh (c : Ctx) (t0 : K00) (a0 : List Int) (a1 : Int) : (List K00) → Exit → Q0a → Prop
 | a2 => Qd5 c (.exit 0) (mkS [(8,.ra 3 0),(9,.ra 5 0)] [(3,.box [I 0,I 0,.nils,.nils]),(4,rI a0),(5,.box [I t0.fOp,I a1,.rs 4,.rs 12]),(12,.arr (List.map K08 a2))])
def Kli (c : Ctx) (t0 : K00) (i1 : Int) (u2 : K00) (deep3 : Int) (a0 : List Int) : (Int) ⊕ (K00) → Exit → Q0a → Prop
 | .inl a1 => Qd5 c .normal (mkS [(1,I i1),(3,I deep3),(4,.ra 1 0),(6,.ra 2 0),(8,.ra 3 0),(9,.ra 5 0)] [(1,K1c t0),(2,K1c u2),(3,.box [I 0,I 0,.nils,.nils]),(4,rI a0),(5,.box [I t0.fOp,I a1,.rs 4,.nils])])
 | .inr r => Qde TIx Tryz.f125 [] (K1k r)
mutual
def Klj (p : K00 × Int × K00 × Int) : Option (K00) :=
 match p with
 | (t0,i1,u2,deep3) =>
  (Kcw t0.fType) >>= fun a0 =>
  ((
   if (t0.fOp == 0) = true then
   if (t0.fN == (wr (i1 + deep3))) = true then
   (Kes (u2,deep3,0)) >>= fun a1 =>
   some (.inr a1)
   else
   ((
   if (decide (t0.fN > (wr (i1 + deep3)))) = true then
   some ((wr (t0.fN - 1)))
   else
   some (t0.fN)
   ) : Option (Int)) >>= fun a2 =>
   some (.inl a2)
   else
   some (.inl t0.fN)) : Option ((Int) ⊕ (K00))) >>= fun fl => match fl with
  | .inl a3 =>
   (Klk (t0,i1,u2,deep3,a0,a3,[],0)) >>= fun a4 =>
   some (K00.mk t0.fOp a3 a0 a4)
  | .inr r =>
   some r
 partial_fixpoint
def Klk (p : K00 × Int × K00 × Int × (List Int) × Int × (List K00) × Int) : Option ((List K00)) :=
 match p with
 | (t0,i1,u2,deep3,a0,a1,a2,a3) =>
  if (decide (a3 < (t0.fKids.length : Int))) = true then
  (idx t0.fKids a3) >>= fun a4 =>
  (Keo (t0.fOp,a3)) >>= fun a5 =>
  (Klj (a4,i1,u2,(wr (deep3 + a5)))) >>= fun a6 =>
  (Qdw (a2.length + [a6].length) 64) >>= fun _ =>
  Klk (t0,i1,u2,deep3,a0,a1,(a2 ++ [a6]),(wr (a3 + 1)))
  else
  some (a2)
 partial_fixpoint
end
def Kll (p : K00 × Int × K00 × Int) (r : K00) : Prop :=
 match p with
 | (t0,i1,u2,deep3) => Q75 Tryz.prog 125 [K1d t0,I i1,K1d u2,I deep3] (K1k r) []
def Klm (p : K00 × Int × K00 × Int × (List Int) × Int × (List K00) × Int) (fl : (List K00)) : Prop :=
 match p with
 | (t0,i1,u2,deep3,a0,a1,a2,a3) => ∀ c : Ctx,c.nt = 68 → WpL Tryz.prog c (cl (cl (cr (cl (cr (cr (cr K7e))))))) (Klh c t0 a0 a1 fl) (mkS [(1,I i1),(3,I deep3),(4,.ra 1 0),(6,.ra 2 0),(8,.ra 3 0),(9,.ra 5 0),(10,I a3)] [(1,K1c t0),(2,K1c u2),(3,.box [I 0,I 0,.nils,.nils]),(4,rI a0),(5,.box [I t0.fOp,I a1,.rs 4,.rs 12]),(12,.arr (List.map K08 a2))])
theorem Kln : (∀ p r,Klj p = some r → Kll p r) ∧ (∀ p r,Klk p = some r → Klm p r) := by
 refine Klj.mutual_partial_correctness Kll Klm ?_ ?_
 ·rintro spec_l2Put_l0_f spec_l2Put_l0_ih ⟨t0,i1,u2,deep3⟩ r h
  refine b0 Tryz.f125 K7e 68 [(0,K1d t0),(1,I i1),(2,K1d u2),(3,I deep3)] fun c hc => ?_
  refine rs hc none [some (.new 1),some (.new 2),some (.new 3)] [(1,I i1),(3,I deep3),(4,.ra 1 0),(6,.ra 2 0),(8,.ra 3 0)] [(1,K1c t0),(2,K1c u2),(3,.box [I 0,I 0,.nils,.nils])] tv ?_
  obtain ⟨a0,a1,h⟩ := Qdj h
  refine rs hc (rx [[0],[1],[0],[0,2],[0],[0,4],[0,4,5],[7],[0],[9]]) [oN,oN,oN,oN,oN,oN,some (.call (oI a0) [] 4),oN,some (.new 5),oN] [(1,I i1),(3,I deep3),(4,.ra 1 0),(6,.ra 2 0),(8,.ra 3 0),(9,.ra 5 0)] [(1,K1c t0),(2,K1c u2),(3,.box [I 0,I 0,.nils,.nils]),(4,rI a0),(5,.box [I t0.fOp,I t0.fN,.rs 4,.nils])] (cq (Kcy _ _ a1) K48 tv) ?_
  refine sN ?_
  refine K7p hc 3 [(1,I i1),(3,I deep3),(4,.ra 1 0),(6,.ra 2 0),(8,.ra 3 0),(9,.ra 5 0),(21,.bool (t0.fOp == 0))] ?_
  obtain ⟨fl,a2,h⟩ := Qdj h
  refine flw (Kli c t0 i1 u2 deep3 a0 fl) ?_ (fun hF => ?_)
  ·replace h := a2
   refine ic h (fun a3 h => ?_) fun a3 h => ?_
   ·refine sN ?_
    refine K7p hc 6 [(1,I i1),(3,I deep3),(4,.ra 1 0),(6,.ra 2 0),(8,.ra 3 0),(9,.ra 5 0),(27,.bool (t0.fN == (wr (i1 + deep3))))] ?_
    refine ic h (fun a4 h => ?_) fun a4 h => ?_
    ·obtain ⟨a5,a6,h⟩ := Qdj h
     refine rs hc none [oN,oN,some (.call (K1k a5) [] 6),oN] [(8,.ra 3 0)] [(3,.box [I a5.fOp,I a5.fN,.rs 6,.rs 7]),(6,rI a5.fType),(7,.arr (List.map K08 a5.fKids))] (cq (Kex _ _ a6) K56 tv) ?_
     refine rt ?_
     obtain rfl := os h
     exact re [true]
    refine sk ?_
    refine K7p hc 6 [(1,I i1),(3,I deep3),(4,.ra 1 0),(6,.ra 2 0),(8,.ra 3 0),(9,.ra 5 0),(36,.bool (decide (t0.fN > (wr (i1 + deep3)))))] ?_
    obtain ⟨a7,a8,h⟩ := Qdj h
    refine Wp.into (x := .normal) (mkS [(1,I i1),(3,I deep3),(4,.ra 1 0),(6,.ra 2 0),(8,.ra 3 0),(9,.ra 5 0)] [(1,K1c t0),(2,K1c u2),(3,.box [I 0,I 0,.nils,.nils]),(4,rI a0),(5,.box [I t0.fOp,I a7,.rs 4,.nils])]) ?_ ?_
    ·replace h := a8
     refine ic h (fun a9 h => ?_) fun a9 h => ?_
     ·refine rg0 hc 5 [(1,I i1),(3,I deep3),(4,.ra 1 0),(6,.ra 2 0),(8,.ra 3 0),(9,.ra 5 0)] [(1,K1c t0),(2,K1c u2),(3,.box [I 0,I 0,.nils,.nils]),(4,rI a0),(5,.box [I t0.fOp,I (wr (t0.fN - 1)),.rs 4,.nils])] ?_
      obtain rfl := os h
      exact Qd5.mk
     refine sk ?_
     obtain rfl := os h
     exact iv []
    clear a8
    obtain rfl := os h
    exact Qd5.mk
   refine sk ?_
   obtain rfl := os h
   exact iv []
  rcases fl with b1 | r
  ·refine Wp.into (x := .normal) (mkS [(1,I i1),(3,I deep3),(4,.ra 1 0),(6,.ra 2 0),(8,.ra 3 0),(9,.ra 5 0)] [(1,K1c t0),(2,K1c u2),(3,.box [I 0,I 0,.nils,.nils]),(4,rI a0),(5,.box [I t0.fOp,I b1,.rs 4,.nils])]) hF ?_
   refine sN ?_
   refine K7p hc 1 [(1,I i1),(3,I deep3),(4,.ra 1 0),(6,.ra 2 0),(8,.ra 3 0),(9,.ra 5 0),(10,I 0)] ?_
   refine bk 0 ?_
   obtain ⟨b2,b3,h⟩ := Qdj h
   have hL := spec_l2Put_l0_ih _ _ b3 c hc
   refine Wp.loopN (by kernel_rfl) (WpL.view (fun a w hv => SRx.renL [(12,21)] (SRx.nilBL 5 3 21 [I t0.fOp,I b1,.rs 4,.nils] hv (by kernel_rfl) (by kernel_rfl) (by kernel_rfl)) (by kernel_rfl) (by kernel_rfl) (by kernel_rfl)) (?_ : WpL _ c _ _ (mkS [(1,I i1),(3,I deep3),(4,.ra 1 0),(6,.ra 2 0),(8,.ra 3 0),(9,.ra 5 0),(10,I 0)] [(1,K1c t0),(2,K1c u2),(3,.box [I 0,I 0,.nils,.nils]),(4,rI a0),(5,.box [I t0.fOp,I b1,.rs 4,.rs 12]),(12,.arr (List.map K08 []))])))
   refine WpL.into (e := (.exit 0)) (mkS [(8,.ra 3 0),(9,.ra 5 0)] [(3,.box [I 0,I 0,.nils,.nils]),(4,rI a0),(5,.box [I t0.fOp,I b1,.rs 4,.rs 12]),(12,.arr (List.map K08 b2))]) hL ?_
   refine Qcx ?_
   refine rs0 hc 2 [(8,.ra 3 0)] [(3,.box [I t0.fOp,I b1,.rs 4,.rs 12]),(4,rI a0),(12,.arr (List.map K08 b2))] ?_
   refine rt ?_
   obtain rfl := os h
   exact rq [true]
  refine Wp.mono hF ?_
  rintro _ _ ⟨rfl,hfin⟩
  obtain rfl := os h
  exact ⟨.inl rfl,hfin⟩
 ·rintro spec_l2Put_f spec_l2Put_l0_f spec_l2Put_ih spec_l2Put_l0_ih ⟨t0,i1,u2,deep3,a0,b1,b4,b5⟩ r h
  intro c hc
  refine WpL.step ?_
  refine sN ?_
  refine rss hc none [oN,oN,oN,some (.eqv (.no) ⟨[(44,I (t0.fKids.length : Int))],[],[]⟩),oN] [(1,I i1),(3,I deep3),(4,.ra 1 0),(6,.ra 2 0),(8,.ra 3 0),(9,.ra 5 0),(10,I b5),(45,.bool (decide (b5 < (t0.fKids.length : Int))))] (ai (Qdp (d := 44) K05 t0.fKids) tv) ?_
  refine ic h (fun b6 h => ?_) fun b6 h => ?_
  ·refine sk ?_
   refine sN ?_
   refine bk 1 ?_
   obtain ⟨b7,b8,b9,c0,c1,c2,_,c3,h⟩ := bq4 h
   refine rg hc (rx [[0],[1],[0],[0,2],[0],[0,2,3,4],[0,2,3,4,5],[0],[0],[0],[0],[0,10],[0],[0,10,11,12],[0,9,10,11,12,13],[0,2,3,4,5,6,7,8,9,10,11,12,13,14],[0,2,3,4,5,6,7,8,9,10,11,12,13,14,15],[17],[18],[19]]) [oN,oN,oN,oN,oN,some (.el (K1d b7)),oN,oN,oN,oN,oN,oN,oN,oc (I b9),oN,some (.call (K1k c1) [] 17),some (.eqv (.mk 19 true) ⟨[(64,.rs 19)],[(19,some (.arr (List.map K08 [c1]))),(17,none),(18,none)],[19]⟩),some (.eqv (.mk 20 true) ⟨[(65,.rs 20)],[(20,some (.arr (List.map K08 (b4 ++ [c1])))),(12,none),(19,none)],[20]⟩),oN,oN] [(1,I i1),(3,I deep3),(4,.ra 1 0),(6,.ra 2 0),(8,.ra 3 0),(9,.ra 5 0),(10,I b5)] [(1,K1c t0),(2,K1c u2),(3,.box [I 0,I 0,.nils,.nils]),(4,rI a0),(5,.box [I t0.fOp,I b1,.rs 4,.rs 20]),(20,.arr (List.map K08 (b4 ++ [c1])))] (ai (Qdn b8 (K0c b7)) (cq (Keq _ _ c0) K54 (cq (spec_l2Put_ih _ _ c2) K7f (ac (congrArg (fun z => (⟨[(64,.rs 19)],[(19,some (.arr z)),(17,none),(18,none)],[19]⟩ : Wr)) ((Qeq (K0e c1) Qep) : [AV.agg [I c1.fOp,I c1.fN,oI c1.fType,AV.osl (List.map K08 c1.fKids)]] = List.map K08 [c1])) (congrArg (fun z => (⟨[(65,.rs 20)],[(20,some (.arr z)),(12,none),(19,none)],[20]⟩ : Wr)) ((List.map_append).symm : (List.map K08 b4) ++ (List.map K08 [c1]) = List.map K08 (b4 ++ [c1]))) (Qdx (enc1 := K08) (enc2 := K08) (e1 := b4) (e2 := [c1]) (sz := 4) K11 K11 c3) tv)))) ?_
   refine K7o hc 3 [(1,I i1),(3,I deep3),(4,.ra 1 0),(6,.ra 2 0),(8,.ra 3 0),(9,.ra 5 0),(10,I (wr (b5 + 1)))] ?_
   refine Qd1 ?_
   exact WpL.view (fun a w hv => SRx.renL [(12,20)] hv (by kernel_rfl) (by kernel_rfl) (by kernel_rfl)) (spec_l2Put_l0_ih _ _ h c hc)
  refine xt 0 ?_
  refine Qcv ?_
  refine Qd2 ?_
  obtain rfl := os h
  exact iv []
theorem Klo : ∀ p r,Klj p = some r → Kll p r := Kln.1
theorem Klp : ∀ p r,Klk p = some r → Klm p r := Kln.2
def Klq (p : K00 × Int × K00) : Option (K00 × Bool) :=
 match p with
 | (t0,i1,u2) =>
  ((
  (Kl3 t0) >>= fun a0 =>
  if a0 = true then
  (Kl3 u2) >>= fun a1 =>
  if a1 = true then
  some ((decide (i1 < 0)))
  else
  some (true)
  else
  some (true)
  ) : Option (Bool)) >>= fun a2 =>
  if a2 = true then
  some ((K00.mk 0 0 [] []),false)
  else
  (K81 (i1,8)) >>= fun a3 =>
  (Kle (t0,a3,u2)) >>= fun a4 =>
  if a4 = true then
  (Klj (t0,a3,u2,0)) >>= fun a5 =>
  (Kl3 a5) >>= fun a6 =>
  if a6 = true then
  some (a5,true)
  else
  some ((K00.mk 0 0 [] []),false)
  else
  some ((K00.mk 0 0 [] []),false)
def Klr (p : K00 × Int × K00) (r : K00 × Bool) : Prop :=
 match p with
 | (t0,i1,u2) => Q75 Tryz.prog 50 [K1d t0,I i1,K1d u2] (.tup [.agg [I r.1.fOp,I r.1.fN,.osl (List.map I r.1.fType),.osl (List.map K08 r.1.fKids)],.bool r.2]) []
theorem Kls : ∀ p r,Klq p = some r → Klr p r := by
 rintro ⟨t0,i1,u2⟩ r h
 unfold Klq at h
 refine b0 Tryz.f50 B50 39 [(0,K1d t0),(1,I i1),(2,K1d u2)] fun c hc => ?_
 refine rs hc none [some (.new 1),some (.new 2),some (.new 3),oN] [(1,I i1),(3,.ra 1 0),(5,.ra 2 0),(6,.ra 3 0)] [(1,K1c t0),(2,K1c u2),(3,.box [I 0,I 0,.nils,.nils])] tv ?_
 refine sN ?_
 refine sN ?_
 obtain ⟨a0,a1,h⟩ := Qdj h
 refine Wp.into (x := .normal) (mkS [(1,I i1),(3,.ra 1 0),(5,.ra 2 0),(6,.ra 3 0),(20,.bool a0)] [(1,K1c t0),(2,K1c u2),(3,.box [I 0,I 0,.nils,.nils])]) ?_ ?_
 ·replace h := a1
  obtain ⟨a2,a3,h⟩ := Qdj h
  rcases is h with ⟨a4,h⟩ | ⟨a4,h⟩
  ·obtain ⟨a5,a6,h⟩ := Qdj h
   rcases is h with ⟨a7,h⟩ | ⟨a7,h⟩
   ·refine rgs hc none [oN,oc (.bool a2),oN,oN,oN,oc (.bool a5),oN,oF,oN,oN,oN,oF] [(1,I i1),(3,.ra 1 0),(5,.ra 2 0),(6,.ra 3 0),(20,.bool (decide (i1 < 0)))] (cq (Kl5 _ _ a3) K79 (ar 2 (nF a4) (cq (Kl5 _ _ a6) K79 (ar 2 (nF a4) (ar 3 (nF a7) tv))))) ?_
    obtain rfl := os h
    exact Qd5.mk
   refine rgs hc none [oN,oc (.bool a2),oN,oN,oN,oc (.bool a5),oN,oF,oN,o_,o_,oT] [(1,I i1),(3,.ra 1 0),(5,.ra 2 0),(6,.ra 3 0),(20,.bool true)] (cq (Kl5 _ _ a3) K79 (ar 2 (nF a4) (cq (Kl5 _ _ a6) K79 (ar 2 (nF a4) (ar 2 (neF (nT a7)) (ai (nT a7) tv)))))) ?_
   obtain rfl := os h
   exact Qd5.mk
  refine rgs hc none [oN,oc (.bool a2),oN,oN,o_,o_,o_,oT,oN,o_,o_,oT] [(1,I i1),(3,.ra 1 0),(5,.ra 2 0),(6,.ra 3 0),(20,.bool true)] (cq (Kl5 _ _ a3) K79 (ar 3 (neF (nT a4)) (ai (nT a4) (ar 2 nf (ai tt tv))))) ?_
  obtain rfl := os h
  exact Qd5.mk
 clear a1
 refine ic h (fun a8 h => ?_) fun a8 h => ?_
 ·refine rs0 hc 3 [(6,.ra 3 0),(7,.bool false)] [(3,.box [I 0,I 0,.nils,.nils])] ?_
  refine rt ?_
  obtain rfl := os h
  exact rq [true,true]
 refine sk ?_
 obtain ⟨a9,b1,h⟩ := Qdj h
 refine rss hc none [oN,oc (I a9),oN] [(1,I a9),(3,.ra 1 0),(5,.ra 2 0),(6,.ra 3 0)] (cq (K83 _ _ b1) K2c tv) ?_
 refine sN ?_
 obtain ⟨b2,b3,h⟩ := Qdj h
 refine rss hc none [oN,oN,oN,oc (.bool b2),oN] [(1,I a9),(3,.ra 1 0),(5,.ra 2 0),(6,.ra 3 0),(28,.bool (!b2))] (cq (Klg _ _ b3) K7d tv) ?_
 rcases is h with ⟨b4,h⟩ | ⟨b4,h⟩
 ·refine cF (!b2) (nF b4) ?_
  refine sk ?_
  obtain ⟨b5,b6,h⟩ := Qdj h
  refine rs hc none [oN,oN,oN,some (.call (K1k b5) [] 4),some (.new 6),oN] [(6,.ra 3 0),(8,.ra 6 0)] [(3,.box [I 0,I 0,.nils,.nils]),(4,rI b5.fType),(5,.arr (List.map K08 b5.fKids)),(6,.box [I b5.fOp,I b5.fN,.rs 4,.rs 5])] (cq (Klo _ _ b6) K7f tv) ?_
  refine sN ?_
  obtain ⟨b7,b8,h⟩ := Qdj h
  refine rss hc none [oN,oc (.bool b7),oN] [(6,.ra 3 0),(8,.ra 6 0),(36,.bool (!b7))] (ac (Q75.args (A1 := [K1l b5]) (A2 := [K1d b5]) (by simp only [K1l,List.map_nil,K14,Qeb]) (Kl5 _ _ b8)) K79 (Or.inr rfl : ([4,5] : List Nat) = [] ∨ noSh (.bool b7) = true) tv) ?_
  rcases is h with ⟨b9,h⟩ | ⟨b9,h⟩
  ·refine cF (!b7) (nF b9) ?_
   refine sk ?_
   refine rs0 hc 3 [(6,.ra 3 0),(7,.bool true)] [(3,.box [I b5.fOp,I b5.fN,.rs 4,.rs 5]),(4,rI b5.fType),(5,.arr (List.map K08 b5.fKids))] ?_
   refine rt ?_
   obtain rfl := os h
   exact rq [true,true]
  refine cT (!b7) (nT b9) ?_
  refine rs0 hc 3 [(6,.ra 3 0),(7,.bool false)] [(3,.box [I 0,I 0,.nils,.nils])] ?_
  refine rt ?_
  obtain rfl := os h
  exact rq [true,true]
 refine cT (!b2) (nT b4) ?_
 refine rs0 hc 3 [(6,.ra 3 0),(7,.bool false)] [(3,.box [I 0,I 0,.nils,.nils])] ?_
 refine rt ?_
 obtain rfl := os h
 exact rq [true,true]
def Klt (c : Ctx) : (Unit) ⊕ (Bool) → Exit → Q0a → Prop
 | .inl _ => Qd5 c (.exit 0) (mkS [] [])
 | .inr r => Qde TIx Tryz.f144 [] (.bool r)
def Klu (p : (List Int) × (List Int) × Int) : Option ((Unit) ⊕ (Bool)) :=
 match p with
 | (s10,s21,a0) =>
  if (decide (a0 < (s10.length : Int))) = true then
  (idx s10 a0) >>= fun a1 =>
  (idx s21 a0) >>= fun a2 =>
  if (a1 != a2) = true then
  some (.inr false)
  else
  Klu (s10,s21,(wr (a0 + 1)))
  else
  some (.inl ())
 partial_fixpoint
def Klv (p : (List Int) × (List Int) × Int) (fl : (Unit) ⊕ (Bool)) : Prop :=
 match p with
 | (s10,s21,a0) => ∀ c : Ctx,c.nt = 26 → WpL Tryz.prog c (cl (cl (cr (cl (cr (cr K7h)))))) (Klt c fl) (mkS [(0,sI s10),(1,sI s21),(12,I (s10.length : Int)),(13,I a0)] [])
theorem Klw : ∀ p r,Klu p = some r → Klv p r := by
 refine Klu.partial_correctness Klv ?_
 rintro slices_Equal_int_l0_f slices_Equal_int_l0_ih ⟨s10,s21,a0⟩ r h
 intro c hc
 refine WpL.step ?_
 refine rs0 hc 1 [(0,sI s10),(1,sI s21),(12,I (s10.length : Int)),(13,I a0),(14,.bool (decide (a0 < (s10.length : Int))))] [] ?_
 refine sN ?_
 refine ic h (fun a1 h => ?_) fun a1 h => ?_
 ·refine sk ?_
  refine sN ?_
  refine bk 1 ?_
  refine rs0 hc 2 [(0,sI s10),(1,sI s21),(5,I a0),(12,I (s10.length : Int)),(13,I a0)] [] ?_
  obtain ⟨a2,a3,a4,a5,h⟩ := bq2 h
  refine rs hc (rx [[0],[0],[2],[3],[0],[0],[0,4,5],[0,4,5,6],[8]]) [oN,oN,some (.el (I a2)),oN,oN,oN,some (.el (I a4)),oN,oN] [(0,sI s10),(1,sI s21),(12,I (s10.length : Int)),(13,I a0),(24,.bool (a2 != a4))] [] (ab (ix a3) (ix a5) tv) ?_
  refine ic h (fun a6 h => ?_) fun a6 h => ?_
  ·refine rs0 hc 1 [(4,.bool false)] [] ?_
   refine rt ?_
   obtain rfl := os h
   exact re [true]
  refine sk ?_
  refine rg0 hc 2 [(0,sI s10),(1,sI s21),(12,I (s10.length : Int)),(13,I (wr (a0 + 1)))] [] ?_
  refine Qd1 ?_
  exact (slices_Equal_int_l0_ih _ _ h c hc)
 refine xt 0 ?_
 refine Qcv ?_
 refine Qd2 ?_
 obtain rfl := os h
 exact iv []
def Klx (p : (List Int) × (List Int)) : Option (Bool) :=
 match p with
 | (s10,s21) =>
  if ((s10.length : Int) != (s21.length : Int)) = true then
  some false
  else
  (Klu (s10,s21,0)) >>= fun fl => match fl with
  | .inl () =>
   some true
  | .inr r =>
   some r
def Kly (p : (List Int) × (List Int)) (r : Bool) : Prop :=
 match p with
 | (s10,s21) => Q75 Tryz.prog 144 [sI s10,sI s21] (.bool r) []
theorem Klz : ∀ p r,Klx p = some r → Kly p r := by
 rintro ⟨s10,s21⟩ r h
 unfold Klx at h
 refine b0 Tryz.f144 K7h 26 [(0,sI s10),(1,sI s21)] fun c hc => ?_
 refine rs0 hc 1 [(0,sI s10),(1,sI s21)] [] ?_
 refine sN ?_
 refine rs hc none [oN,some (.eqv (.no) ⟨[(7,I (s10.length : Int))],[],[]⟩),oN,some (.eqv (.no) ⟨[(9,I (s21.length : Int))],[],[]⟩),oN] [(0,sI s10),(1,sI s21),(10,.bool ((s10.length : Int) != (s21.length : Int)))] [] (ab (Qdp (d := 7) I s10) (Qdp (d := 9) I s21) tv) ?_
 refine ic h (fun a0 h => ?_) fun a0 h => ?_
 ·refine rs0 hc 1 [(4,.bool false)] [] ?_
  refine rt ?_
  obtain rfl := os h
  exact rq [true]
 refine sk ?_
 refine sN ?_
 refine rs hc none [oN,some (.eqv (.no) ⟨[(12,I (s10.length : Int))],[],[]⟩),oN] [(0,sI s10),(1,sI s21),(12,I (s10.length : Int)),(13,I 0)] [] (ai (Qdp (d := 12) I s10) tv) ?_
 refine bk 0 ?_
 obtain ⟨fl,a1,h⟩ := Qdj h
 have hL := Klw _ _ a1 c hc
 refine lp ?_
 rcases fl with ⟨⟩ | r
 ·refine WpL.into (e := (.exit 0)) (mkS [] []) hL ?_
  refine Qcx ?_
  refine rs0 hc 1 [(4,.bool true)] [] ?_
  refine rt ?_
  obtain rfl := os h
  exact rq [true]
 refine WpL.mono hL ?_
 rintro _ _ ⟨rfl,hfin⟩
 obtain rfl := os h
 exact ⟨.inl rfl,hfin⟩
def Km0 (c : Ctx) : (Unit) ⊕ (Bool) → Exit → Q0a → Prop
 | .inl _ => Qd5 c (.exit 0) (mkS [] [])
 | .inr r => Qde TIx Tryz.f180 [] (.bool r)
mutual
def Km1 (p : K00 × K00) : Option (Bool) :=
 match p with
 | (a0,b1) =>
  ((
  if (a0.fOp == b1.fOp) = true then
  if (a0.fN == b1.fN) = true then
  (Klx (a0.fType,b1.fType)) >>= fun a1 =>
  if a1 = true then
  (Km2 (a0.fKids,b1.fKids)) >>= fun a2 =>
  some (a2)
  else
  some (false)
  else
  some (false)
  else
  some (false)
  ) : Option (Bool)) >>= fun a3 =>
  some a3
 partial_fixpoint
def Km2 (p : (List K00) × (List K00)) : Option (Bool) :=
 match p with
 | (s10,s21) =>
  if ((s10.length : Int) != (s21.length : Int)) = true then
  some false
  else
  (Km3 (s10,s21,0)) >>= fun fl => match fl with
  | .inl () =>
   some true
  | .inr r =>
   some r
 partial_fixpoint
def Km3 (p : (List K00) × (List K00) × Int) : Option ((Unit) ⊕ (Bool)) :=
 match p with
 | (s10,s21,a0) =>
  if (decide (a0 < (s10.length : Int))) = true then
  (idx s10 a0) >>= fun a1 =>
  (idx s21 a0) >>= fun a2 =>
  (Km1 (a1,a2)) >>= fun a3 =>
  if a3 = true then
  Km3 (s10,s21,(wr (a0 + 1)))
  else
  some (.inr false)
  else
  some (.inl ())
 partial_fixpoint
end
def Km4 (p : K00 × K00) (r : Bool) : Prop :=
 match p with
 | (a0,b1) => Q75 Tryz.prog 98 [K1d a0,K1d b1] (.bool r) []
def Km5 (p : (List K00) × (List K00)) (r : Bool) : Prop :=
 match p with
 | (s10,s21) => Q75 Tryz.prog 180 [.sl (List.map K05 s10),.sl (List.map K05 s21),.fn 98 []] (.bool r) []
def Km6 (p : (List K00) × (List K00) × Int) (fl : (Unit) ⊕ (Bool)) : Prop :=
 match p with
 | (s10,s21,a0) => ∀ c : Ctx,c.nt = 32 → WpL Tryz.prog c (cl (cl (cr (cl (cr (cr K7j)))))) (Km0 c fl) (mkS [(1,.sl (List.map K05 s21)),(2,.fn 98 []),(15,.sl (List.map K05 s10)),(16,I (s10.length : Int)),(17,I a0)] [])
theorem Km7 : (∀ p r,Km1 p = some r → Km4 p r) ∧ (∀ p r,Km2 p = some r → Km5 p r) ∧ (∀ p r,Km3 p = some r → Km6 p r) := by
 refine Km1.mutual_partial_correctness Km4 Km5 Km6 ?_ ?_ ?_
 ·rintro slices_EqualFunc_Term_Kimpl_same_f slices_EqualFunc_Term_Kimpl_same_ih ⟨a0,b1⟩ r h
  refine b0 Tryz.f98 B98 31 [(0,K1d a0),(1,K1d b1)] fun c hc => ?_
  refine rs hc none [some (.new 1),some (.new 2),oN] [(2,.ra 1 0),(3,.ra 2 0)] [(1,K1c a0),(2,K1c b1)] tv ?_
  refine sN ?_
  obtain ⟨a1,a2,h⟩ := Qdj h
  refine Wp.into (x := .normal) (mkS [(4,.bool a1)] []) ?_ ?_
  ·replace h := a2
   rcases is h with ⟨a3,h⟩ | ⟨a3,h⟩
   ·rcases is h with ⟨a4,h⟩ | ⟨a4,h⟩
    ·obtain ⟨a5,a6,h⟩ := Qdj h
     rcases is h with ⟨a7,h⟩ | ⟨a7,h⟩
     ·obtain ⟨a8,a9,h⟩ := Qdj h
      refine rg hc none [oN,oN,oN,oN,oN,oN,oN,oN,oN,oN,oN,oT,oN,oN,oN,oN,oN,oc (.bool a5),oT,oN,oN,oN,oN,oN,oc (.bool a8),oT,oN] [(4,.bool a8)] [] (ar 6 a3 (ar 5 a4 (cq (Klz _ _ a6) K7i (ai a4 (ar 5 a7 (cq (slices_EqualFunc_Term_Kimpl_same_ih _ _ a9) K7k (ai a7 tv))))))) ?_
      obtain rfl := os h
      exact Qd5.mk
     refine rg hc none [oN,oN,oN,oN,oN,oN,oN,oN,oN,oN,oN,oT,oN,oN,oN,oN,oN,oc (.bool a5),oT,oN,o_,o_,o_,o_,o_,oF,oN] [(4,.bool false)] [] (ar 6 a3 (ar 5 a4 (cq (Klz _ _ a6) K7i (ai a4 (ar 5 (neT a7) (ai a7 tv)))))) ?_
     obtain rfl := os h
     exact Qd5.mk
    refine rg hc none [oN,oN,oN,oN,oN,oN,oN,oN,oN,oN,oN,oT,oN,o_,o_,o_,o_,o_,oF,oN,o_,o_,o_,o_,o_,oF,oN] [(4,.bool false)] [] (ar 6 a3 (ar 5 (neT a4) (ai a4 (ar 5 (neT (rfl : false = false)) (ai (rfl : false = false) tv))))) ?_
    obtain rfl := os h
    exact Qd5.mk
   refine rg hc none [oN,oN,oN,oN,oN,oN,o_,o_,o_,o_,o_,oF,oN,o_,o_,o_,o_,o_,oF,oN,o_,o_,o_,o_,o_,oF,oN] [(4,.bool false)] [] (ar 5 (neT a3) (ai a3 (ar 5 (neT (rfl : false = false)) (ai (rfl : false = false) (ar 5 (neT (rfl : false = false)) (ai (rfl : false = false) tv)))))) ?_
   obtain rfl := os h
   exact Qd5.mk
  clear a2
  refine rt ?_
  obtain rfl := os h
  exact rq [true]
 ·rintro slices_EqualFunc_Term_Kimpl_same_l0_f slices_EqualFunc_Term_Kimpl_same_l0_ih ⟨s10,s21⟩ r h
  refine b0 Tryz.f180 K7j 32 [(0,.sl (List.map K05 s10)),(1,.sl (List.map K05 s21)),(2,.fn 98 [])] fun c hc => ?_
  refine rs0 hc 1 [(0,.sl (List.map K05 s10)),(1,.sl (List.map K05 s21)),(2,.fn 98 [])] [] ?_
  refine sN ?_
  refine rs hc none [oN,some (.eqv (.no) ⟨[(11,I (s10.length : Int))],[],[]⟩),oN,some (.eqv (.no) ⟨[(13,I (s21.length : Int))],[],[]⟩),oN] [(0,.sl (List.map K05 s10)),(1,.sl (List.map K05 s21)),(2,.fn 98 []),(14,.bool ((s10.length : Int) != (s21.length : Int)))] [] (ab (Qdp (d := 11) K05 s10) (Qdp (d := 13) K05 s21) tv) ?_
  refine ic h (fun b2 h => ?_) fun b2 h => ?_
  ·refine rs0 hc 1 [(6,.bool false)] [] ?_
   refine rt ?_
   obtain rfl := os h
   exact rq [true]
  refine sk ?_
  refine sN ?_
  refine rs hc none [oN,some (.eqv (.no) ⟨[(16,I (s10.length : Int))],[],[]⟩),oN] [(1,.sl (List.map K05 s21)),(2,.fn 98 []),(15,.sl (List.map K05 s10)),(16,I (s10.length : Int)),(17,I 0)] [] (ai (Qdp (d := 16) K05 s10) tv) ?_
  refine bk 0 ?_
  obtain ⟨fl,b3,h⟩ := Qdj h
  have hL := slices_EqualFunc_Term_Kimpl_same_l0_ih _ _ b3 c hc
  refine lp ?_
  rcases fl with ⟨⟩ | r
  ·refine WpL.into (e := (.exit 0)) (mkS [] []) hL ?_
   refine Qcx ?_
   refine rs0 hc 1 [(6,.bool true)] [] ?_
   refine rt ?_
   obtain rfl := os h
   exact rq [true]
  refine WpL.mono hL ?_
  rintro _ _ ⟨rfl,hfin⟩
  obtain rfl := os h
  exact ⟨.inl rfl,hfin⟩
 ·rintro impl_same_f slices_EqualFunc_Term_Kimpl_same_l0_f impl_same_ih slices_EqualFunc_Term_Kimpl_same_l0_ih ⟨s10,s21,b4⟩ r h
  intro c hc
  refine WpL.step ?_
  refine rs0 hc 1 [(1,.sl (List.map K05 s21)),(2,.fn 98 []),(15,.sl (List.map K05 s10)),(16,I (s10.length : Int)),(17,I b4),(18,.bool (decide (b4 < (s10.length : Int))))] [] ?_
  refine sN ?_
  refine ic h (fun b5 h => ?_) fun b5 h => ?_
  ·refine sk ?_
   refine sN ?_
   refine bk 1 ?_
   obtain ⟨b6,b7,h⟩ := Qdj h
   refine rs hc none [oN,some (.el (K1d b6)),oN,some (.new 3),oN,oN] [(1,.sl (List.map K05 s21)),(2,.fn 98 []),(7,I b4),(8,.ra 3 0),(15,.sl (List.map K05 s10)),(16,I (s10.length : Int)),(17,I b4)] [(3,K1c b6)] (ai (Qdn b7 (K0c b6)) tv) ?_
   obtain ⟨b8,b9,h⟩ := Qdj h
   refine rs hc none [oN,oN,some (.el (K1d b8)),oN,some (.new 4),oN] [(1,.sl (List.map K05 s21)),(2,.fn 98 []),(8,.ra 3 0),(9,.ra 4 0),(15,.sl (List.map K05 s10)),(16,I (s10.length : Int)),(17,I b4)] [(3,K1c b6),(4,K1c b8)] (ai (Qdn b9 (K0c b8)) tv) ?_
   obtain ⟨c0,c1,h⟩ := Qdj h
   refine rs hc none [oN,oN,oN,oc (.bool c0),oN] [(1,.sl (List.map K05 s21)),(2,.fn 98 []),(15,.sl (List.map K05 s10)),(16,I (s10.length : Int)),(17,I b4),(30,.bool (!c0))] [] (cq (impl_same_ih _ _ c1) K7l tv) ?_
   rcases is h with ⟨c2,h⟩ | ⟨c2,h⟩
   ·refine cF (!c0) (nF c2) ?_
    refine sk ?_
    refine rg0 hc 2 [(1,.sl (List.map K05 s21)),(2,.fn 98 []),(15,.sl (List.map K05 s10)),(16,I (s10.length : Int)),(17,I (wr (b4 + 1)))] [] ?_
    refine Qd1 ?_
    exact (slices_EqualFunc_Term_Kimpl_same_l0_ih _ _ h c hc)
   refine cT (!c0) (nT c2) ?_
   refine rs0 hc 1 [(6,.bool false)] [] ?_
   refine rt ?_
   obtain rfl := os h
   exact re [true]
  refine xt 0 ?_
  refine Qcv ?_
  refine Qd2 ?_
  obtain rfl := os h
  exact iv []
theorem Km8 : ∀ p r,Km1 p = some r → Km4 p r := Km7.1
theorem Km9 : ∀ p r,Km2 p = some r → Km5 p r := Km7.2.1
theorem Kma : ∀ p r,Km3 p = some r → Km6 p r := Km7.2.2
def Kmb (p : K00 × K00) : Option (Bool) :=
 match p with
 | (a0,b1) =>
  ((
  (Kj8 a0) >>= fun a1 =>
  if a1 = true then
  (Kj8 b1) >>= fun a2 =>
  if a2 = true then
  (Km1 (a0,b1)) >>= fun a3 =>
  some (a3)
  else
  some (false)
  else
  some (false)
  ) : Option (Bool)) >>= fun a4 =>
  some a4
def Kmc (p : K00 × K00) (r : Bool) : Prop :=
 match p with
 | (a0,b1) => Q75 Tryz.prog 31 [K1d a0,K1d b1] (.bool r) []
theorem Kmd : ∀ p r,Kmb p = some r → Kmc p r := by
 rintro ⟨a0,b1⟩ r h
 unfold Kmb at h
 refine b0 Tryz.f31 B31 16 [(0,K1d a0),(1,K1d b1)] fun c hc => ?_
 refine rs hc none [some (.new 1),some (.new 2),oN] [(2,.ra 1 0),(3,.ra 2 0)] [(1,K1c a0),(2,K1c b1)] tv ?_
 refine sN ?_
 obtain ⟨a1,a2,h⟩ := Qdj h
 refine Wp.into (x := .normal) (mkS [(4,.bool a1)] []) ?_ ?_
 ·replace h := a2
  obtain ⟨a3,a4,h⟩ := Qdj h
  rcases is h with ⟨a5,h⟩ | ⟨a5,h⟩
  ·obtain ⟨a6,a7,h⟩ := Qdj h
   rcases is h with ⟨a8,h⟩ | ⟨a8,h⟩
   ·obtain ⟨a9,b2,h⟩ := Qdj h
    refine rg hc none [oN,oc (.bool a3),oN,oN,oc (.bool a6),oT,oN,oN,oN,oc (.bool a9),oT,oN] [(4,.bool a9)] [] (cq (Kja _ _ a4) K6m (ar 2 a5 (cq (Kja _ _ a7) K6m (ai a5 (ar 3 a8 (cq (Km8 _ _ b2) K7l (ai a8 tv))))))) ?_
    obtain rfl := os h
    exact Qd5.mk
   refine rg hc none [oN,oc (.bool a3),oN,oN,oc (.bool a6),oT,oN,o_,o_,o_,oF,oN] [(4,.bool false)] [] (cq (Kja _ _ a4) K6m (ar 2 a5 (cq (Kja _ _ a7) K6m (ai a5 (ar 3 (neT a8) (ai a8 tv)))))) ?_
   obtain rfl := os h
   exact Qd5.mk
  refine rg hc none [oN,oc (.bool a3),oN,o_,o_,oF,oN,o_,o_,o_,oF,oN] [(4,.bool false)] [] (cq (Kja _ _ a4) K6m (ar 2 (neT a5) (ai a5 (ar 3 (neT (rfl : false = false)) (ai (rfl : false = false) tv))))) ?_
  obtain rfl := os h
  exact Qd5.mk
 clear a2
 refine rt ?_
 obtain rfl := os h
 exact rq [true]
def Kme (code0 : (List Int)) : Option (Bool) :=
 (K7r code0) >>= fun a0 =>
 if a0 = true then
 some true
 else
 (Kh6 code0) >>= fun (a1,a2,a3) =>
 (K8x 1) >>= fun a4 =>
 (Kh9 (code0,0)) >>= fun a5 =>
 (Ki9 (a4,[1,0,0],(Int.tmod a5 9))) >>= fun (a6,a7) =>
 (K8x 1) >>= fun a8 =>
 (Kh9 (code0,1)) >>= fun a9 =>
 (Ki9 (a8,[0],(Int.tmod a9 3))) >>= fun (b1,b2) =>
 (Kkg (a1,1,b1)) >>= fun (b3,b4) =>
 (Kkg (a1,0,a6)) >>= fun (b5,b6) =>
 ((
 if b4 = true then
 some ((!b6))
 else
 some (true)
 ) : Option (Bool)) >>= fun b7 =>
 if b7 = true then
 (Klq (a1,1,b1)) >>= fun (b8,b9) =>
 (Klq (a1,0,a6)) >>= fun (c0,c1) =>
 ((
 if b9 = true then
 some ((!c1))
 else
 some (true)
 ) : Option (Bool)) >>= fun c2 =>
 some c2
 else
 (Kkg (b3,0,a6)) >>= fun (c3,c4) =>
 (Kkg (b5,0,b1)) >>= fun (c5,c6) =>
 ((
 if (c4 == c6) = true then
 if c4 = true then
 (Kmb (c3,c5)) >>= fun c7 =>
 some (c7)
 else
 some (true)
 else
 some (false)
 ) : Option (Bool)) >>= fun c8 =>
 some c8
def Kmf (code0 : (List Int)) (r : Bool) : Prop :=
 Q75 Tryz.prog 8 [.sl (List.map U8 code0)] (.bool r) []
theorem Kmg : ∀ p r,Kme p = some r → Kmf p r := by
 rintro code0 r h
 unfold Kme at h
 refine b0 Tryz.f8 B8 108 [(0,.sl (List.map U8 code0))] fun c hc => ?_
 refine rs0 hc 1 [(0,.sl (List.map U8 code0))] [] ?_
 refine sN ?_
 obtain ⟨a0,a1,h⟩ := Qdj h
 refine rs hc none [oN,oc (.bool a0)] [(0,.sl (List.map U8 code0)),(23,.bool a0)] [] (cq (K7t _ _ a1) K29 tv) ?_
 refine ic h (fun a2 h => ?_) fun a2 h => ?_
 ·refine rs0 hc 1 [(2,.bool true)] [] ?_
  refine rt ?_
  obtain rfl := os h
  exact rq [true]
 refine sk ?_
 obtain ⟨⟨a3,a4,a5⟩,a6,h⟩ := Qdj h
 refine rs hc none [oN,oc (.tup [K1d a3,I a4,K1d a5]),oN,oN,oN,oN,some (.new 1),some (.new 2),oN,oN,oN] [(0,.sl (List.map U8 code0)),(3,.ra 1 0)] [(1,K1c a3)] (cq (Kh8 _ _ a6) K5q tv) ?_
 obtain ⟨a7,a8,a9,b1,⟨b2,b3⟩,b4,h⟩ := bq3 h
 refine rs hc none [some (.call (K1o a7) [] 3),some (.mk 6 true),oN,oc (I a9),oN,some (.call (.tup [K1k b2,.bool b3]) [] 7),oN,oN,oN,some (.new 9),oN,oN] [(0,.sl (List.map U8 code0)),(3,.ra 1 0),(6,.ra 9 0)] [(1,K1c a3),(7,rI b2.fType),(8,.arr (List.map K08 b2.fKids)),(9,.box [I b2.fOp,I b2.fN,.rs 7,.rs 8])] (cq (K8z _ _ a8) K2p (cq (Khb _ _ b1) K5r (ad ((by decide) : (9 : Int) ≠ 0) (Q75.args (A1 := [K1p a7,.sl (Q02 (List.map I [1,0,0])),I (Int.tmod a9 9)]) (A2 := [K1h a7,.sl (List.map I [1,0,0]),I (Int.tmod a9 9)]) (by simp only [K1p,List.map_nil,Qed,Qeb]) (Kib _ _ b4)) K64 (Or.inr (Qel (Qel rfl (Qel rfl (Qel (Qej Qef b2.fType) (Qel (Qej K15 b2.fKids) rfl)))) (Qel rfl rfl)) : ([3,4,5,6] : List Nat) = [] ∨ noSh (.tup [K1k b2,.bool b3]) = true) tv))) ?_
 obtain ⟨b5,b6,b7,b8,⟨b9,c0⟩,c1,h⟩ := bq3 h
 refine rs hc none [some (.call (K1o b5) [] 10),some (.mk 13 true),oN,oc (I b7),oN,some (.call (.tup [K1k b9,.bool c0]) [] 14),oN,oN,oN,some (.new 16),oN,oN] [(3,.ra 1 0),(6,.ra 9 0),(8,.ra 16 0)] [(1,K1c a3),(7,rI b2.fType),(8,.arr (List.map K08 b2.fKids)),(9,.box [I b2.fOp,I b2.fN,.rs 7,.rs 8]),(14,rI b9.fType),(15,.arr (List.map K08 b9.fKids)),(16,.box [I b9.fOp,I b9.fN,.rs 14,.rs 15])] (cq (K8z _ _ b6) K2p (cq (Khb _ _ b8) K5r (ad ((by decide) : (3 : Int) ≠ 0) (Q75.args (A1 := [K1p b5,.sl (Q02 (List.map I [0])),I (Int.tmod b7 3)]) (A2 := [K1h b5,.sl (List.map I [0]),I (Int.tmod b7 3)]) (by simp only [K1p,List.map_nil,Qed,Qeb]) (Kib _ _ c1)) K64 (Or.inr (Qel (Qel rfl (Qel rfl (Qel (Qej Qef b9.fType) (Qel (Qej K15 b9.fKids) rfl)))) (Qel rfl rfl)) : ([10,11,12,13] : List Nat) = [] ∨ noSh (.tup [K1k b9,.bool c0]) = true) tv))) ?_
 obtain ⟨⟨c2,c3⟩,c4,h⟩ := Qdj h
 refine rs hc none [oN,oN,some (.call (.tup [K1k c2,.bool c3]) [] 17),oN,oN,oN,some (.new 19),oN,oN] [(3,.ra 1 0),(6,.ra 9 0),(8,.ra 16 0),(10,.ra 19 0),(11,.bool c3)] [(1,K1c a3),(7,rI b2.fType),(8,.arr (List.map K08 b2.fKids)),(9,.box [I b2.fOp,I b2.fN,.rs 7,.rs 8]),(14,rI b9.fType),(15,.arr (List.map K08 b9.fKids)),(16,.box [I b9.fOp,I b9.fN,.rs 14,.rs 15]),(17,rI c2.fType),(18,.arr (List.map K08 c2.fKids)),(19,.box [I c2.fOp,I c2.fN,.rs 17,.rs 18])] (ac (Q75.args (A1 := [K1d a3,I 1,K1l b9]) (A2 := [K1d a3,I 1,K1d b9]) (by simp only [K1l,List.map_nil,K14,Qeb]) (Kki _ _ c4)) K70 (Or.inr (Qel (Qel rfl (Qel rfl (Qel (Qej Qef c2.fType) (Qel (Qej K15 c2.fKids) rfl)))) (Qel rfl rfl)) : ([14,15] : List Nat) = [] ∨ noSh (.tup [K1k c2,.bool c3]) = true) tv) ?_
 obtain ⟨⟨c5,c6⟩,c7,h⟩ := Qdj h
 refine rs hc none [oN,oN,some (.call (.tup [K1k c5,.bool c6]) [] 20),oN,oN,oN,some (.new 22),oN,oN] [(3,.ra 1 0),(6,.ra 9 0),(8,.ra 16 0),(10,.ra 19 0),(11,.bool c3),(12,.ra 22 0),(13,.bool c6)] [(1,K1c a3),(7,rI b2.fType),(8,.arr (List.map K08 b2.fKids)),(9,.box [I b2.fOp,I b2.fN,.rs 7,.rs 8]),(14,rI b9.fType),(15,.arr (List.map K08 b9.fKids)),(16,.box [I b9.fOp,I b9.fN,.rs 14,.rs 15]),(17,rI c2.fType),(18,.arr (List.map K08 c2.fKids)),(19,.box [I c2.fOp,I c2.fN,.rs 17,.rs 18]),(20,rI c5.fType),(21,.arr (List.map K08 c5.fKids)),(22,.box [I c5.fOp,I c5.fN,.rs 20,.rs 21])] (ac (Q75.args (A1 := [K1d a3,I 0,K1l b2]) (A2 := [K1d a3,I 0,K1d b2]) (by simp only [K1l,List.map_nil,K14,Qeb]) (Kki _ _ c7)) K70 (Or.inr (Qel (Qel rfl (Qel rfl (Qel (Qej Qef c5.fType) (Qel (Qej K15 c5.fKids) rfl)))) (Qel rfl rfl)) : ([7,8] : List Nat) = [] ∨ noSh (.tup [K1k c5,.bool c6]) = true) tv) ?_
 refine sN ?_
 refine sN ?_
 obtain ⟨c8,c9,h⟩ := Qdj h
 refine Wp.into (x := .normal) (mkS [(3,.ra 1 0),(6,.ra 9 0),(8,.ra 16 0),(10,.ra 19 0),(12,.ra 22 0),(65,.bool c8)] [(1,K1c a3),(7,rI b2.fType),(8,.arr (List.map K08 b2.fKids)),(9,.box [I b2.fOp,I b2.fN,.rs 7,.rs 8]),(14,rI b9.fType),(15,.arr (List.map K08 b9.fKids)),(16,.box [I b9.fOp,I b9.fN,.rs 14,.rs 15]),(17,rI c2.fType),(18,.arr (List.map K08 c2.fKids)),(19,.box [I c2.fOp,I c2.fN,.rs 17,.rs 18]),(20,rI c5.fType),(21,.arr (List.map K08 c5.fKids)),(22,.box [I c5.fOp,I c5.fN,.rs 20,.rs 21])]) ?_ ?_
 ·replace h := c9
  rcases is h with ⟨d0,h⟩ | ⟨d0,h⟩
  ·refine rgs hc none [oN,oN,oN,oN,oN,oF] [(3,.ra 1 0),(6,.ra 9 0),(8,.ra 16 0),(10,.ra 19 0),(12,.ra 22 0),(65,.bool (!c6))] (ar 3 (nF d0) tv) ?_
   obtain rfl := os h
   exact Qd5.mk
  refine rgs hc none [oN,oN,oN,o_,o_,oT] [(3,.ra 1 0),(6,.ra 9 0),(8,.ra 16 0),(10,.ra 19 0),(12,.ra 22 0),(65,.bool true)] (ar 2 (neF (nT d0)) (ai (nT d0) tv)) ?_
  obtain rfl := os h
  exact Qd5.mk
 clear c9
 refine ic h (fun d1 h => ?_) fun d1 h => ?_
 ·obtain ⟨⟨d2,d3⟩,d4,h⟩ := Qdj h
  refine rs hc none [oN,oN,some (.call (.tup [K1k d2,.bool d3]) [] 23),oN,oN,oN,some (.new 25),oN,oN] [(3,.ra 1 0),(6,.ra 9 0),(15,.bool d3)] [(1,K1c a3),(7,rI b2.fType),(8,.arr (List.map K08 b2.fKids)),(9,.box [I b2.fOp,I b2.fN,.rs 7,.rs 8])] (ac (Q75.args (A1 := [K1d a3,I 1,K1l b9]) (A2 := [K1d a3,I 1,K1d b9]) (by simp only [K1l,List.map_nil,K14,Qeb]) (Kls _ _ d4)) K7g (Or.inr (Qel (Qel rfl (Qel rfl (Qel (Qej Qef d2.fType) (Qel (Qej K15 d2.fKids) rfl)))) (Qel rfl rfl)) : ([14,15] : List Nat) = [] ∨ noSh (.tup [K1k d2,.bool d3]) = true) tv) ?_
  obtain ⟨⟨d5,d6⟩,d7,h⟩ := Qdj h
  refine rs hc none [oN,oN,some (.call (.tup [K1k d5,.bool d6]) [] 26),oN,oN,oN,some (.new 28),oN,oN] [(15,.bool d3),(17,.bool d6)] [] (ac (Q75.args (A1 := [K1d a3,I 0,K1l b2]) (A2 := [K1d a3,I 0,K1d b2]) (by simp only [K1l,List.map_nil,K14,Qeb]) (Kls _ _ d7)) K7g (Or.inr (Qel (Qel rfl (Qel rfl (Qel (Qej Qef d5.fType) (Qel (Qej K15 d5.fKids) rfl)))) (Qel rfl rfl)) : ([7,8] : List Nat) = [] ∨ noSh (.tup [K1k d5,.bool d6]) = true) tv) ?_
  refine sN ?_
  obtain ⟨d8,d9,h⟩ := Qdj h
  refine Wp.into (x := .normal) (mkS [(2,.bool d8)] []) ?_ ?_
  ·replace h := d9
   rcases is h with ⟨e0,h⟩ | ⟨e0,h⟩
   ·refine rg hc none [oN,oN,oN,oN,oN,oF,oN] [(2,.bool (!d6))] [] (ar 3 (nF e0) tv) ?_
    obtain rfl := os h
    exact Qd5.mk
   refine rg hc none [oN,oN,oN,o_,o_,oT,oN] [(2,.bool true)] [] (ar 2 (neF (nT e0)) (ai (nT e0) tv)) ?_
   obtain rfl := os h
   exact Qd5.mk
  clear d9
  refine rt ?_
  obtain rfl := os h
  exact rq [true]
 refine sk ?_
 obtain ⟨⟨e1,e2⟩,e3,h⟩ := Qdj h
 refine rs hc none [oN,oN,some (.call (.tup [K1k e1,.bool e2]) [] 29),oN,oN,oN,some (.new 31),oN,oN] [(8,.ra 16 0),(12,.ra 22 0),(18,.ra 31 0),(19,.bool e2)] [(14,rI b9.fType),(15,.arr (List.map K08 b9.fKids)),(16,.box [I b9.fOp,I b9.fN,.rs 14,.rs 15]),(20,rI c5.fType),(21,.arr (List.map K08 c5.fKids)),(22,.box [I c5.fOp,I c5.fN,.rs 20,.rs 21]),(29,rI e1.fType),(30,.arr (List.map K08 e1.fKids)),(31,.box [I e1.fOp,I e1.fN,.rs 29,.rs 30])] (ac (Q75.args (A1 := [K1l c2,I 0,K1l b2]) (A2 := [K1d c2,I 0,K1d b2]) (by simp only [K1l,List.map_nil,K14,Qeb]) (Kki _ _ e3)) K70 (Or.inr (Qel (Qel rfl (Qel rfl (Qel (Qej Qef e1.fType) (Qel (Qej K15 e1.fKids) rfl)))) (Qel rfl rfl)) : ([17,18,7,8] : List Nat) = [] ∨ noSh (.tup [K1k e1,.bool e2]) = true) tv) ?_
 obtain ⟨⟨e4,e5⟩,e6,h⟩ := Qdj h
 refine rs hc none [oN,oN,some (.call (.tup [K1k e4,.bool e5]) [] 32),oN,oN,oN,some (.new 34),oN,oN] [(18,.ra 31 0),(19,.bool e2),(20,.ra 34 0),(21,.bool e5)] [(29,rI e1.fType),(30,.arr (List.map K08 e1.fKids)),(31,.box [I e1.fOp,I e1.fN,.rs 29,.rs 30]),(32,rI e4.fType),(33,.arr (List.map K08 e4.fKids)),(34,.box [I e4.fOp,I e4.fN,.rs 32,.rs 33])] (ac (Q75.args (A1 := [K1l c5,I 0,K1l b9]) (A2 := [K1d c5,I 0,K1d b9]) (by simp only [K1l,List.map_nil,K14,Qeb]) (Kki _ _ e6)) K70 (Or.inr (Qel (Qel rfl (Qel rfl (Qel (Qej Qef e4.fType) (Qel (Qej K15 e4.fKids) rfl)))) (Qel rfl rfl)) : ([20,21,14,15] : List Nat) = [] ∨ noSh (.tup [K1k e4,.bool e5]) = true) tv) ?_
 refine sN ?_
 obtain ⟨e7,e8,h⟩ := Qdj h
 refine Wp.into (x := .normal) (mkS [(2,.bool e7)] []) ?_ ?_
 ·replace h := e8
  rcases is h with ⟨e9,h⟩ | ⟨e9,h⟩
  ·rcases is h with ⟨f0,h⟩ | ⟨f0,h⟩
   ·obtain ⟨f1,f2,h⟩ := Qdj h
    refine rg hc none [oN,oN,oN,oN,oN,oN,oN,oN,oN,oc (.bool f1),oF,oT,oN] [(2,.bool f1)] [] (ar 3 e9 (ar 3 (nF f0) (ad (Q75.args (A1 := [K1l e1,K1l e4]) (A2 := [K1d e1,K1d e4]) (by simp only [K1l,List.map_nil,K14,Qeb]) (Kmd _ _ f2)) K7m (Or.inr rfl : ([29,30,32,33] : List Nat) = [] ∨ noSh (.bool f1) = true) e9 (ab (nF f0) e9 tv)))) ?_
    obtain rfl := os h
    exact Qd5.mk
   refine rg hc none [oN,oN,oN,oN,oN,oN,oN,o_,o_,o_,oT,oT,oN] [(2,.bool true)] [] (ar 3 e9 (ar 3 (neF (nT f0)) (ac e9 (nT f0) e9 tv))) ?_
   obtain rfl := os h
   exact Qd5.mk
  refine rg hc none [oN,oN,oN,oN,o_,o_,o_,o_,o_,o_,o_,oF,oN] [(2,.bool false)] [] (ar 4 (neT e9) (ai e9 tv)) ?_
  obtain rfl := os h
  exact Qd5.mk
 clear e8
 refine rt ?_
 obtain rfl := os h
 exact rq [true]
end Go.Am
