/- Functions of the program as pure functions,and that it computes them. Printed by a program of mine (gen.py). -/
import Derived.Test.YtmcpomoofkjfcaaGreatGETF16
set_option linter.unusedVariables false
set_option linter.unusedSimpArgs false
set_option maxRecDepth 100000
namespace Go.Am
open Go Go.Proofs
def Ks1 : Option (List (List Nat)) := rx [[0],[1],[0],[3],[0],[5],[0],[7],[8],[9],[10],[10],[0],[11,12],[14]]
def Ks2 : Option (List (List Nat)) := rx [[0],[0],[0,1],[3],[4]]
def Ks3 (p : K00 × (List Int) × LL × K01) : Option (Bool) :=
 match p with
 | (aS0,aView1,aCtx2,aT3) =>
  if (decide ((aView1.length : Int) > 1048576)) = true then
  some true
  else
  (K90 (aS0,1048576)) >>= fun a0 =>
  if (decide (a0 < 0)) = true then
  some true
  else
  (K97 (aCtx2,a0)) >>= fun a1 =>
  if (decide (a1 < 0)) = true then
  some true
  else
  (K9b (aT3,a1)) >>= fun a2 =>
  if (decide (a2 < 0)) = true then
  some true
  else
  (K9z aS0) >>= fun a3 =>
  (K9p aView1) >>= fun a4 =>
  (Ka6 aCtx2) >>= fun a5 =>
  (Kaa aT3) >>= fun a6 =>
  (Khd (a3,a4,a5,a6)) >>= fun (a7,a8) =>
  (K9z aS0) >>= fun a9 =>
  (K9p aView1) >>= fun b1 =>
  (Ka6 aCtx2) >>= fun b2 =>
  (Kaa aT3) >>= fun b3 =>
  (Kpi (a9,b1,b2,b3)) >>= fun (b4,b5) =>
  ((
  (Kpt (b4,a7)) >>= fun b6 =>
  if b6 = true then
  some ((!(b5 == a8)))
  else
  some (true)
  ) : Option (Bool)) >>= fun b7 =>
  if b7 = true then
  some false
  else
  (K9z aS0) >>= fun b8 =>
  (Kqa (a9,b8)) >>= fun b9 =>
  if b9 = true then
  (K9p aView1) >>= fun c0 =>
  (Kpp (b1,c0)) >>= fun c1 =>
  if c1 = true then
  (Ka6 aCtx2) >>= fun c2 =>
  (Kqh (b2,c2)) >>= fun c3 =>
  if c3 = true then
  (Kaa aT3) >>= fun c4 =>
  (Kpt (b3,c4)) >>= fun c5 =>
  if c5 = true then
  (Kqy (a9,1)) >>= fun (c6,c7) =>
  (Kqo (b1,c6)) >>= fun (c8,c9) =>
  (Kr5 (b2,c8)) >>= fun (d0,d1) =>
  (Krg (b3,d0)) >>= fun (d2,d3) =>
  ((
  if (decide (d2 < 0)) = true then
  some (true)
  else
  (Kpt (b4,a7)) >>= fun d4 =>
  if d4 = true then
  some ((!(b5 == a8)))
  else
  some (true)
  ) : Option (Bool)) >>= fun d5 =>
  if d5 = true then
  some false
  else
  (Krg (b4,1)) >>= fun (d6,d7) =>
  (Kry ((K01.mk b4.fOp b4.fN d7.fType d7.fKids),1)) >>= fun d8 =>
  if (decide (d8 < 0)) = true then
  some false
  else
  if (d8 != d6) = true then
  some false
  else
  (K9z aS0) >>= fun d9 =>
  (K9p aView1) >>= fun e0 =>
  (Ka6 aCtx2) >>= fun e1 =>
  (Kaa aT3) >>= fun e2 =>
  (Kpi (d9,e0,e1,e2)) >>= fun (e3,e4) =>
  ((
  (Kpt (e3,a7)) >>= fun e5 =>
  if e5 = true then
  some ((!(e4 == a8)))
  else
  some (true)
  ) : Option (Bool)) >>= fun e6 =>
  if e6 = true then
  some false
  else
  (Kry ((K01.mk b4.fOp b4.fN d7.fType d7.fKids),1)) >>= fun e7 =>
  if (decide (e7 < 0)) = true then
  some false
  else
  if (e7 != d6) = true then
  some false
  else
  some true
  else
  some false
  else
  some false
  else
  some false
  else
  some false
def Ks4 (p : K00 × (List Int) × LL × K01) (r : Bool) : Prop :=
 match p with
 | (aS0,aView1,aCtx2,aT3) => Q71 Tryz.prog 12 [K1t aS0,sI aView1,sL aCtx2,K1v aT3] (.bool r) []
theorem Ks5 : ∀ p r,Ks3 p = some r → Ks4 p r := by
 rintro ⟨aS0,aView1,aCtx2,aT3⟩ r h
 unfold Ks3 at h
 refine b0 Tryz.f12 B12 163 [(0,K1t aS0),(1,sI aView1),(2,sL aCtx2),(3,K1v aT3)] fun c hc => ?_
 refine rs hc none [some (.new 1),some (.new 2),oN] [(1,sI aView1),(2,sL aCtx2),(4,.ra 1 0),(7,.ra 2 0)] [(1,K1s aS0),(2,K1u aT3)] tv ?_
 refine sN ?_
 refine rss hc none [oN,some (.eqv (.no) ⟨[(24,I (aView1.length : Int))],[],[]⟩),oN] [(1,sI aView1),(2,sL aCtx2),(4,.ra 1 0),(7,.ra 2 0),(25,.bool (decide ((aView1.length : Int) > 1048576)))] (ai (Qcz (d := 24) I aView1) tv) ?_
 refine ic h (fun a0 h => ?_) fun a0 h => ?_
 ·refine rs0 hc 1 [(8,.bool true)] [] ?_
  refine rt ?_
  obtain rfl := os h
  exact rq [true]
 refine sk ?_
 refine K8s hc 1 [(1,sI aView1),(2,sL aCtx2),(4,.ra 1 0),(7,.ra 2 0),(9,I 1048576)] ?_
 obtain ⟨a1,a2,h⟩ := Qct h
 refine rss hc none [oN,oN,oc (I a1),oN] [(1,sI aView1),(2,sL aCtx2),(4,.ra 1 0),(7,.ra 2 0),(9,I a1)] (cq (K92 _ _ a2) K2z tv) ?_
 refine sN ?_
 refine K8s hc 2 [(1,sI aView1),(2,sL aCtx2),(4,.ra 1 0),(7,.ra 2 0),(9,I a1),(30,.bool (decide (a1 < 0)))] ?_
 refine ic h (fun a3 h => ?_) fun a3 h => ?_
 ·refine rs0 hc 1 [(8,.bool true)] [] ?_
  refine rt ?_
  obtain rfl := os h
  exact rq [true]
 refine sk ?_
 obtain ⟨a4,a5,h⟩ := Qct h
 refine rss hc none [oN,oN,oc (I a4),oN] [(1,sI aView1),(2,sL aCtx2),(4,.ra 1 0),(7,.ra 2 0),(9,I a4)] (cq (K99 _ _ a5) K30 tv) ?_
 refine sN ?_
 refine K8s hc 2 [(1,sI aView1),(2,sL aCtx2),(4,.ra 1 0),(7,.ra 2 0),(9,I a4),(35,.bool (decide (a4 < 0)))] ?_
 refine ic h (fun a6 h => ?_) fun a6 h => ?_
 ·refine rs0 hc 1 [(8,.bool true)] [] ?_
  refine rt ?_
  obtain rfl := os h
  exact rq [true]
 refine sk ?_
 obtain ⟨a7,a8,h⟩ := Qct h
 refine rss hc none [oN,oN,oc (I a7),oN] [(1,sI aView1),(2,sL aCtx2),(4,.ra 1 0),(7,.ra 2 0),(9,I a7)] (cq (K9i _ _ a8) K32 tv) ?_
 refine sN ?_
 refine K8s hc 2 [(1,sI aView1),(2,sL aCtx2),(4,.ra 1 0),(7,.ra 2 0),(40,.bool (decide (a7 < 0)))] ?_
 refine ic h (fun a9 h => ?_) fun a9 h => ?_
 ·refine rs0 hc 1 [(8,.bool true)] [] ?_
  refine rt ?_
  obtain rfl := os h
  exact rq [true]
 refine sk ?_
 obtain ⟨b1,b2,b3,b4,b5,b6,b7,b8,h⟩ := bq4 h
 obtain ⟨⟨b9,c0⟩,c1,h⟩ := Qct h
 refine rs hc Ks1 [oN,some (.call (K22 b1) [] 3),oN,some (.call (oI b3) [] 6),oN,some (.call (.osl (List.map K15 b5)) [] 7),oN,some (.call (K24 b7) [] 8),some (.call (.tup [K24 b9,.bool c0]) [] 10),oN,oN,oN,some (.new 12),oN,oN] [(1,sI aView1),(2,sL aCtx2),(4,.ra 1 0),(7,.ra 2 0),(10,.ra 12 0),(11,.bool c0)] [(1,K1s aS0),(2,K1u aT3),(10,rI b9.fType),(11,.arr (List.map K0j b9.fKids)),(12,.box [I b9.fOp,I b9.fN,.rs 10,.rs 11])] (cq (Ka1 _ _ b2) K35 (cq (K9r _ _ b4) K33 (cq (Ka8 _ _ b6) K36 (cq (Kah _ _ b8) K38 (ac (Q71.args (A1 := [K23 b1,.sl (Q02 (List.map I b3)),.sl (Q02 (List.map K15 b5)),K25 b7]) (A2 := [K1t b1,sI b3,sL b5,K1v b7]) (by simp only [K23,K25,List.map_nil,Qdn,K1f,Qdl,K19]) (Khf _ _ c1)) K5q (Or.inr (Qdv (Qdv rfl (Qdv rfl (Qdv (Qdt Qdp b9.fType) (Qdv (Qdt K1g b9.fKids) rfl)))) (Qdv rfl rfl)) : ([3,4,5,6,7,8,9] : List Nat) = [] ∨ noSh (.tup [K24 b9,.bool c0]) = true) tv))))) ?_
 obtain ⟨c2,c3,h⟩ := Qct h
 refine rs hc none [oN,some (.call (K22 c2) [] 13),some (.new 16),oN] [(1,sI aView1),(2,sL aCtx2),(4,.ra 1 0),(7,.ra 2 0),(10,.ra 12 0),(11,.bool c0),(12,.ra 16 0)] [(1,K1s aS0),(2,K1u aT3),(10,rI b9.fType),(11,.arr (List.map K0j b9.fKids)),(12,.box [I b9.fOp,I b9.fN,.rs 10,.rs 11]),(13,rI c2.fPlus),(14,rI c2.fTimes),(15,.arr (List.map AV.bool c2.fBelow)),(16,.box [I c2.fSize,.rs 13,.rs 14,.rs 15])] (cq (Ka1 _ _ c3) K35 tv) ?_
 obtain ⟨c4,c5,h⟩ := Qct h
 refine rs hc none [oN,some (.call (oI c4) [] 17),oN] [(1,sI aView1),(2,sL aCtx2),(4,.ra 1 0),(7,.ra 2 0),(10,.ra 12 0),(11,.bool c0),(12,.ra 16 0),(13,.rs 17)] [(1,K1s aS0),(2,K1u aT3),(10,rI b9.fType),(11,.arr (List.map K0j b9.fKids)),(12,.box [I b9.fOp,I b9.fN,.rs 10,.rs 11]),(13,rI c2.fPlus),(14,rI c2.fTimes),(15,.arr (List.map AV.bool c2.fBelow)),(16,.box [I c2.fSize,.rs 13,.rs 14,.rs 15]),(17,rI c4)] (cq (K9r _ _ c5) K33 tv) ?_
 obtain ⟨c6,c7,h⟩ := Qct h
 refine rs hc none [oN,some (.call (.osl (List.map K15 c6)) [] 18),oN] [(1,sI aView1),(2,sL aCtx2),(4,.ra 1 0),(7,.ra 2 0),(10,.ra 12 0),(11,.bool c0),(12,.ra 16 0),(13,.rs 17),(14,.rs 18)] [(1,K1s aS0),(2,K1u aT3),(10,rI b9.fType),(11,.arr (List.map K0j b9.fKids)),(12,.box [I b9.fOp,I b9.fN,.rs 10,.rs 11]),(13,rI c2.fPlus),(14,rI c2.fTimes),(15,.arr (List.map AV.bool c2.fBelow)),(16,.box [I c2.fSize,.rs 13,.rs 14,.rs 15]),(17,rI c4),(18,.arr (List.map K15 c6))] (cq (Ka8 _ _ c7) K36 tv) ?_
 obtain ⟨c8,c9,h⟩ := Qct h
 refine rs hc none [oN,some (.call (K24 c8) [] 19),some (.new 21),oN] [(1,sI aView1),(2,sL aCtx2),(4,.ra 1 0),(7,.ra 2 0),(10,.ra 12 0),(11,.bool c0),(12,.ra 16 0),(13,.rs 17),(14,.rs 18),(15,.ra 21 0)] [(1,K1s aS0),(2,K1u aT3),(10,rI b9.fType),(11,.arr (List.map K0j b9.fKids)),(12,.box [I b9.fOp,I b9.fN,.rs 10,.rs 11]),(13,rI c2.fPlus),(14,rI c2.fTimes),(15,.arr (List.map AV.bool c2.fBelow)),(16,.box [I c2.fSize,.rs 13,.rs 14,.rs 15]),(17,rI c4),(18,.arr (List.map K15 c6)),(19,rI c8.fType),(20,.arr (List.map K0j c8.fKids)),(21,.box [I c8.fOp,I c8.fN,.rs 19,.rs 20])] (cq (Kah _ _ c9) K38 tv) ?_
 obtain ⟨⟨d0,d1⟩,d2,h⟩ := Qct h
 refine rs hc none [oN,oN,oN,oN,some (.call (.tup [K24 d0,.bool d1]) [] 22),oN,oN,oN,some (.new 24),oN,oN] [(1,sI aView1),(2,sL aCtx2),(4,.ra 1 0),(7,.ra 2 0),(10,.ra 12 0),(11,.bool c0),(12,.ra 16 0),(13,.rs 17),(14,.rs 18),(15,.ra 21 0),(16,.ra 24 0),(17,.bool d1)] [(1,K1s aS0),(2,K1u aT3),(10,rI b9.fType),(11,.arr (List.map K0j b9.fKids)),(12,.box [I b9.fOp,I b9.fN,.rs 10,.rs 11]),(13,rI c2.fPlus),(14,rI c2.fTimes),(15,.arr (List.map AV.bool c2.fBelow)),(16,.box [I c2.fSize,.rs 13,.rs 14,.rs 15]),(17,rI c4),(18,.arr (List.map K15 c6)),(19,rI c8.fType),(20,.arr (List.map K0j c8.fKids)),(21,.box [I c8.fOp,I c8.fN,.rs 19,.rs 20]),(22,rI d0.fType),(23,.arr (List.map K0j d0.fKids)),(24,.box [I d0.fOp,I d0.fN,.rs 22,.rs 23])] (ac (Q71.args (A1 := [K23 c2,.sl (Q02 (List.map I c4)),.sl (Q02 (List.map K15 c6)),K25 c8]) (A2 := [K1t c2,sI c4,sL c6,K1v c8]) (by simp only [K23,K25,List.map_nil,Qdn,K1f,Qdl,K19]) (Kpk _ _ d2)) K8a (Or.inr (Qdv (Qdv rfl (Qdv rfl (Qdv (Qdt Qdp d0.fType) (Qdv (Qdt K1g d0.fKids) rfl)))) (Qdv rfl rfl)) : ([13,14,15,17,18,19,20] : List Nat) = [] ∨ noSh (.tup [K24 d0,.bool d1]) = true) tv) ?_
 refine sN ?_
 refine sN ?_
 obtain ⟨d3,d4,h⟩ := Qct h
 refine Wp.into (x := .normal) (mkS [(1,sI aView1),(2,sL aCtx2),(4,.ra 1 0),(7,.ra 2 0),(10,.ra 12 0),(11,.bool c0),(12,.ra 16 0),(13,.rs 17),(14,.rs 18),(15,.ra 21 0),(16,.ra 24 0),(17,.bool d1),(77,.bool d3)] [(1,K1s aS0),(2,K1u aT3),(10,rI b9.fType),(11,.arr (List.map K0j b9.fKids)),(12,.box [I b9.fOp,I b9.fN,.rs 10,.rs 11]),(13,rI c2.fPlus),(14,rI c2.fTimes),(15,.arr (List.map AV.bool c2.fBelow)),(16,.box [I c2.fSize,.rs 13,.rs 14,.rs 15]),(17,rI c4),(18,.arr (List.map K15 c6)),(19,rI c8.fType),(20,.arr (List.map K0j c8.fKids)),(21,.box [I c8.fOp,I c8.fN,.rs 19,.rs 20]),(22,rI d0.fType),(23,.arr (List.map K0j d0.fKids)),(24,.box [I d0.fOp,I d0.fN,.rs 22,.rs 23])]) ?_ ?_
 ·replace h := d4
  obtain ⟨d5,d6,h⟩ := Qct h
  rcases is h with ⟨d7,h⟩ | ⟨d7,h⟩
  ·refine rgs hc none [oN,oN,oc (.bool d5),oN,oN,oN,oN,oN,oF] [(1,sI aView1),(2,sL aCtx2),(4,.ra 1 0),(7,.ra 2 0),(10,.ra 12 0),(11,.bool c0),(12,.ra 16 0),(13,.rs 17),(14,.rs 18),(15,.ra 21 0),(16,.ra 24 0),(17,.bool d1),(77,.bool (!(d1 == c0)))] (ac (Q71.args (A1 := [K25 d0,K25 b9]) (A2 := [K1v d0,K1v b9]) (by simp only [K25,List.map_nil,K1f,Qdl]) (Kq0 _ _ d6)) K8d (Or.inr rfl : ([22,23,10,11] : List Nat) = [] ∨ noSh (.bool d5) = true) (ar 4 (nF d7) tv)) ?_
   obtain rfl := os h
   exact Qcf.mk
  refine rgs hc none [oN,oN,oc (.bool d5),oN,oN,o_,o_,o_,oT] [(1,sI aView1),(2,sL aCtx2),(4,.ra 1 0),(7,.ra 2 0),(10,.ra 12 0),(11,.bool c0),(12,.ra 16 0),(13,.rs 17),(14,.rs 18),(15,.ra 21 0),(16,.ra 24 0),(17,.bool d1),(77,.bool true)] (ac (Q71.args (A1 := [K25 d0,K25 b9]) (A2 := [K1v d0,K1v b9]) (by simp only [K25,List.map_nil,K1f,Qdl]) (Kq0 _ _ d6)) K8d (Or.inr rfl : ([22,23,10,11] : List Nat) = [] ∨ noSh (.bool d5) = true) (ar 3 (neF (nT d7)) (ai (nT d7) tv))) ?_
  obtain rfl := os h
  exact Qcf.mk
 clear d4
 refine ic h (fun d8 h => ?_) fun d8 h => ?_
 ·refine rs0 hc 1 [(8,.bool false)] [] ?_
  refine rt ?_
  obtain rfl := os h
  exact rq [true]
 refine sk ?_
 refine sN ?_
 obtain ⟨d9,e0,e1,e2,h⟩ := bq2 h
 refine rss hc Ks2 [oN,oN,some (.call (K22 d9) [] 25),oc (.bool e1),oN] [(1,sI aView1),(2,sL aCtx2),(4,.ra 1 0),(7,.ra 2 0),(10,.ra 12 0),(11,.bool c0),(12,.ra 16 0),(13,.rs 17),(14,.rs 18),(15,.ra 21 0),(16,.ra 24 0),(17,.bool d1),(82,.bool (!e1))] (cq (Ka1 _ _ e0) K35 (ac (Q71.args (A1 := [K23 c2,K23 d9]) (A2 := [K1t c2,K1t d9]) (by simp only [K23,List.map_nil,Qdn,Qdl]) (Kqc _ _ e2)) K8f (Or.inr rfl : ([13,14,15,25,26,27] : List Nat) = [] ∨ noSh (.bool e1) = true) tv)) ?_
 rcases is h with ⟨e3,h⟩ | ⟨e3,h⟩
 ·refine cF (!e1) (nF e3) ?_
  refine sk ?_
  refine sN ?_
  obtain ⟨e4,e5,e6,e7,h⟩ := bq2 h
  refine rss hc none [oN,oN,some (.call (oI e4) [] 28),oc (.bool e6),oN] [(1,sI aView1),(2,sL aCtx2),(4,.ra 1 0),(7,.ra 2 0),(10,.ra 12 0),(11,.bool c0),(12,.ra 16 0),(13,.rs 17),(14,.rs 18),(15,.ra 21 0),(16,.ra 24 0),(17,.bool d1),(87,.bool (!e6))] (cq (K9r _ _ e5) K33 (ac (Q71.args (A1 := [.sl (Q02 (List.map I c4)),.sl (Q02 (List.map I e4))]) (A2 := [sI c4,sI e4]) (by simp only [List.map_nil,Qdl]) (Kpr _ _ e7)) K8b (Or.inr rfl : ([17,28] : List Nat) = [] ∨ noSh (.bool e6) = true) tv)) ?_
  rcases is h with ⟨e8,h⟩ | ⟨e8,h⟩
  ·refine cF (!e6) (nF e8) ?_
   refine sk ?_
   refine sN ?_
   obtain ⟨e9,f0,f1,f2,h⟩ := bq2 h
   refine rss hc none [oN,oN,some (.call (.osl (List.map K15 e9)) [] 29),oc (.bool f1),oN] [(1,sI aView1),(2,sL aCtx2),(4,.ra 1 0),(7,.ra 2 0),(10,.ra 12 0),(11,.bool c0),(12,.ra 16 0),(13,.rs 17),(14,.rs 18),(15,.ra 21 0),(16,.ra 24 0),(17,.bool d1),(92,.bool (!f1))] (cq (Ka8 _ _ f0) K36 (ac (Q71.args (A1 := [.sl (Q02 (List.map K15 c6)),.sl (Q02 (List.map K15 e9))]) (A2 := [sL c6,sL e9]) (by simp only [List.map_nil,K19]) (Kqj _ _ f2)) K8g (Or.inr rfl : ([18,29] : List Nat) = [] ∨ noSh (.bool f1) = true) tv)) ?_
   rcases is h with ⟨f3,h⟩ | ⟨f3,h⟩
   ·refine cF (!f1) (nF f3) ?_
    refine sk ?_
    refine sN ?_
    obtain ⟨f4,f5,f6,f7,h⟩ := bq2 h
    refine rss hc Ks2 [oN,oN,some (.call (K24 f4) [] 30),oc (.bool f6),oN] [(1,sI aView1),(2,sL aCtx2),(4,.ra 1 0),(7,.ra 2 0),(10,.ra 12 0),(11,.bool c0),(12,.ra 16 0),(13,.rs 17),(14,.rs 18),(15,.ra 21 0),(16,.ra 24 0),(17,.bool d1),(97,.bool (!f6))] (cq (Kah _ _ f5) K38 (ac (Q71.args (A1 := [K25 c8,K25 f4]) (A2 := [K1v c8,K1v f4]) (by simp only [K25,List.map_nil,K1f,Qdl]) (Kq0 _ _ f7)) K8d (Or.inr rfl : ([19,20,30,31] : List Nat) = [] ∨ noSh (.bool f6) = true) tv)) ?_
    rcases is h with ⟨f8,h⟩ | ⟨f8,h⟩
    ·refine cF (!f6) (nF f8) ?_
     refine sk ?_
     refine K8s hc 1 [(1,sI aView1),(2,sL aCtx2),(4,.ra 1 0),(7,.ra 2 0),(10,.ra 12 0),(11,.bool c0),(12,.ra 16 0),(13,.rs 17),(14,.rs 18),(15,.ra 21 0),(16,.ra 24 0),(17,.bool d1),(18,I 1)] ?_
     obtain ⟨⟨f9,g0⟩,g1,h⟩ := Qct h
     refine rs hc none [oN,oN,some (.call (I f9) [.agg [.undef,oI g0.fPlus,oI g0.fTimes,.osl (List.map AV.bool g0.fBelow)],.undef] 1),oN] [(1,sI aView1),(2,sL aCtx2),(4,.ra 1 0),(7,.ra 2 0),(10,.ra 12 0),(11,.bool c0),(13,.rs 17),(14,.rs 18),(15,.ra 21 0),(16,.ra 24 0),(17,.bool d1),(18,I f9)] [(1,K1s aS0),(2,K1u aT3),(10,rI b9.fType),(11,.arr (List.map K0j b9.fKids)),(12,.box [I b9.fOp,I b9.fN,.rs 10,.rs 11]),(17,rI c4),(18,.arr (List.map K15 c6)),(19,rI c8.fType),(20,.arr (List.map K0j c8.fKids)),(21,.box [I c8.fOp,I c8.fN,.rs 19,.rs 20]),(22,rI d0.fType),(23,.arr (List.map K0j d0.fKids)),(24,.box [I d0.fOp,I d0.fN,.rs 22,.rs 23])] (ab (Kr0 _ _ g1) K8j tv) ?_
     obtain ⟨⟨g2,g3⟩,g4,h⟩ := Qct h
     refine rs hc none [oN,oN,some (.call (I g2) [oI g3,.undef] 1),oN] [(1,sI aView1),(2,sL aCtx2),(4,.ra 1 0),(7,.ra 2 0),(10,.ra 12 0),(11,.bool c0),(14,.rs 18),(15,.ra 21 0),(16,.ra 24 0),(17,.bool d1),(18,I g2)] [(1,K1s aS0),(2,K1u aT3),(10,rI b9.fType),(11,.arr (List.map K0j b9.fKids)),(12,.box [I b9.fOp,I b9.fN,.rs 10,.rs 11]),(18,.arr (List.map K15 c6)),(19,rI c8.fType),(20,.arr (List.map K0j c8.fKids)),(21,.box [I c8.fOp,I c8.fN,.rs 19,.rs 20]),(22,rI d0.fType),(23,.arr (List.map K0j d0.fKids)),(24,.box [I d0.fOp,I d0.fN,.rs 22,.rs 23])] (ab (Kqq _ _ g4) K8h tv) ?_
     obtain ⟨⟨g5,g6⟩,g7,h⟩ := Qct h
     refine rs hc none [oN,oN,some (.call (I g5) [.osl (List.map K15 g6),.undef] 1),oN] [(1,sI aView1),(2,sL aCtx2),(4,.ra 1 0),(7,.ra 2 0),(10,.ra 12 0),(11,.bool c0),(15,.ra 21 0),(16,.ra 24 0),(17,.bool d1),(18,I g5)] [(1,K1s aS0),(2,K1u aT3),(10,rI b9.fType),(11,.arr (List.map K0j b9.fKids)),(12,.box [I b9.fOp,I b9.fN,.rs 10,.rs 11]),(19,rI c8.fType),(20,.arr (List.map K0j c8.fKids)),(21,.box [I c8.fOp,I c8.fN,.rs 19,.rs 20]),(22,rI d0.fType),(23,.arr (List.map K0j d0.fKids)),(24,.box [I d0.fOp,I d0.fN,.rs 22,.rs 23])] (ab (Kr7 _ _ g7) K8k tv) ?_
     obtain ⟨⟨g8,g9⟩,i0,h⟩ := Qct h
     refine rs hc none [oN,oN,some (.call (I g8) [.agg [.undef,.undef,oI g9.fType,.osl (List.map K0j g9.fKids)],.undef] 1),oN] [(1,sI aView1),(2,sL aCtx2),(4,.ra 1 0),(7,.ra 2 0),(10,.ra 12 0),(11,.bool c0),(16,.ra 24 0),(17,.bool d1),(18,I g8)] [(1,K1s aS0),(2,K1u aT3),(10,rI b9.fType),(11,.arr (List.map K0j b9.fKids)),(12,.box [I b9.fOp,I b9.fN,.rs 10,.rs 11]),(22,rI d0.fType),(23,.arr (List.map K0j d0.fKids)),(24,.box [I d0.fOp,I d0.fN,.rs 22,.rs 23])] (ab (Kri _ _ i0) K8m tv) ?_
     refine sN ?_
     refine sN ?_
     obtain ⟨i1,i2,h⟩ := Qct h
     refine Wp.into (x := .normal) (mkS [(1,sI aView1),(2,sL aCtx2),(4,.ra 1 0),(7,.ra 2 0),(10,.ra 12 0),(11,.bool c0),(16,.ra 24 0),(122,.bool i1)] [(1,K1s aS0),(2,K1u aT3),(10,rI b9.fType),(11,.arr (List.map K0j b9.fKids)),(12,.box [I b9.fOp,I b9.fN,.rs 10,.rs 11]),(22,rI d0.fType),(23,.arr (List.map K0j d0.fKids)),(24,.box [I d0.fOp,I d0.fN,.rs 22,.rs 23])]) ?_ ?_
     ·replace h := i2
      rcases is h with ⟨i3,h⟩ | ⟨i3,h⟩
      ·refine rgs hc none [oN,oN,oN,o_,o_,o_,o_,oT,oN,o_,o_,o_,oT] [(1,sI aView1),(2,sL aCtx2),(4,.ra 1 0),(7,.ra 2 0),(10,.ra 12 0),(11,.bool c0),(16,.ra 24 0),(122,.bool true)] (ar 4 (neF i3) (ai i3 (ar 3 nf (ai tt tv)))) ?_
       obtain rfl := os h
       exact Qcf.mk
      obtain ⟨i4,i5,h⟩ := Qct h
      rcases is h with ⟨i6,h⟩ | ⟨i6,h⟩
      ·refine rgs hc none [oN,oN,oN,oN,oN,oc (.bool i4),oN,oF,oN,oN,oN,oN,oF] [(1,sI aView1),(2,sL aCtx2),(4,.ra 1 0),(7,.ra 2 0),(10,.ra 12 0),(11,.bool c0),(16,.ra 24 0),(122,.bool (!(d1 == c0)))] (ar 3 i3 (ac (Q71.args (A1 := [K25 d0,K25 b9]) (A2 := [K1v d0,K1v b9]) (by simp only [K25,List.map_nil,K1f,Qdl]) (Kq0 _ _ i5)) K8d (Or.inr rfl : ([22,23,10,11] : List Nat) = [] ∨ noSh (.bool i4) = true) (ar 2 i3 (ar 4 (nF i6) tv)))) ?_
       obtain rfl := os h
       exact Qcf.mk
      refine rgs hc none [oN,oN,oN,oN,oN,oc (.bool i4),oN,oF,oN,o_,o_,o_,oT] [(1,sI aView1),(2,sL aCtx2),(4,.ra 1 0),(7,.ra 2 0),(10,.ra 12 0),(11,.bool c0),(16,.ra 24 0),(122,.bool true)] (ar 3 i3 (ac (Q71.args (A1 := [K25 d0,K25 b9]) (A2 := [K1v d0,K1v b9]) (by simp only [K25,List.map_nil,K1f,Qdl]) (Kq0 _ _ i5)) K8d (Or.inr rfl : ([22,23,10,11] : List Nat) = [] ∨ noSh (.bool i4) = true) (ar 2 i3 (ar 3 (neF (nT i6)) (ai (nT i6) tv))))) ?_
      obtain rfl := os h
      exact Qcf.mk
     clear i2
     refine ic h (fun i7 h => ?_) fun i7 h => ?_
     ·refine rs0 hc 1 [(8,.bool false)] [] ?_
      refine rt ?_
      obtain rfl := os h
      exact rq [true]
     refine sk ?_
     refine K8s hc 1 [(1,sI aView1),(2,sL aCtx2),(4,.ra 1 0),(7,.ra 2 0),(10,.ra 12 0),(11,.bool c0),(16,.ra 24 0),(19,I 1)] ?_
     obtain ⟨⟨i8,i9⟩,j0,h⟩ := Qct h
     refine rs hc none [oN,oN,some (.call (I i8) [.agg [.undef,.undef,oI i9.fType,.osl (List.map K0j i9.fKids)],.undef] 1),oN] [(1,sI aView1),(2,sL aCtx2),(4,.ra 1 0),(7,.ra 2 0),(10,.ra 12 0),(11,.bool c0),(16,.ra 24 0),(19,I i8)] [(1,K1s aS0),(2,K1u aT3),(10,rI b9.fType),(11,.arr (List.map K0j b9.fKids)),(12,.box [I b9.fOp,I b9.fN,.rs 10,.rs 11]),(22,rI i9.fType),(23,.arr (List.map K0j i9.fKids)),(24,.box [I d0.fOp,I d0.fN,.rs 22,.rs 23])] (ab (Kri _ _ j0) K8m tv) ?_
     refine K8s hc 1 [(1,sI aView1),(2,sL aCtx2),(4,.ra 1 0),(7,.ra 2 0),(10,.ra 12 0),(11,.bool c0),(16,.ra 24 0),(19,I i8),(20,I 1)] ?_
     obtain ⟨j8,j9,h⟩ := Qct h
     refine rss hc none [oN,oN,oc (I j8),oN] [(1,sI aView1),(2,sL aCtx2),(4,.ra 1 0),(7,.ra 2 0),(10,.ra 12 0),(11,.bool c0),(16,.ra 24 0),(19,I i8),(20,I j8)] (ac (Q71.args (A1 := [.agg [I d0.fOp,I d0.fN,.sl (Q02 (List.map I i9.fType)),.sl (Q02 (List.map K0j i9.fKids))],I 1]) (A2 := [.agg [I d0.fOp,I d0.fN,sI i9.fType,.sl (List.map K0g i9.fKids)],I 1]) (by simp only [List.map_nil,K1f,Qdl]) (Ks0 _ _ j9)) K8p (Or.inr rfl : ([22,23] : List Nat) = [] ∨ noSh (I j8) = true) tv) ?_
     refine sN ?_
     refine K8s hc 2 [(1,sI aView1),(2,sL aCtx2),(4,.ra 1 0),(7,.ra 2 0),(10,.ra 12 0),(11,.bool c0),(16,.ra 24 0),(19,I i8),(20,I j8),(130,.bool (decide (j8 < 0)))] ?_
     refine ic h (fun k0 h => ?_) fun k0 h => ?_
     ·refine rs0 hc 1 [(8,.bool false)] [] ?_
      refine rt ?_
      obtain rfl := os h
      exact rq [true]
     refine sk ?_
     refine sN ?_
     refine K8s hc 3 [(1,sI aView1),(2,sL aCtx2),(4,.ra 1 0),(7,.ra 2 0),(10,.ra 12 0),(11,.bool c0),(16,.ra 24 0),(19,I i8),(133,.bool (j8 != i8))] ?_
     refine ic h (fun k1 h => ?_) fun k1 h => ?_
     ·refine rs0 hc 1 [(8,.bool false)] [] ?_
      refine rt ?_
      obtain rfl := os h
      exact rq [true]
     refine sk ?_
     obtain ⟨k2,k3,k4,k5,k6,k7,k8,k9,h⟩ := bq4 h
     obtain ⟨⟨l0,l1⟩,l2,h⟩ := Qct h
     refine rs hc Ks1 [oN,some (.call (K22 k2) [] 32),oN,some (.call (oI k4) [] 35),oN,some (.call (.osl (List.map K15 k6)) [] 36),oN,some (.call (K24 k8) [] 37),some (.call (.tup [K24 l0,.bool l1]) [] 39),oN,oN,oN,some (.new 41),oN,oN] [(10,.ra 12 0),(11,.bool c0),(16,.ra 24 0),(19,I i8),(21,.ra 41 0),(22,.bool l1)] [(10,rI b9.fType),(11,.arr (List.map K0j b9.fKids)),(12,.box [I b9.fOp,I b9.fN,.rs 10,.rs 11]),(22,rI i9.fType),(23,.arr (List.map K0j i9.fKids)),(24,.box [I d0.fOp,I d0.fN,.rs 22,.rs 23]),(39,rI l0.fType),(40,.arr (List.map K0j l0.fKids)),(41,.box [I l0.fOp,I l0.fN,.rs 39,.rs 40])] (cq (Ka1 _ _ k3) K35 (cq (K9r _ _ k5) K33 (cq (Ka8 _ _ k7) K36 (cq (Kah _ _ k9) K38 (ac (Q71.args (A1 := [K23 k2,.sl (Q02 (List.map I k4)),.sl (Q02 (List.map K15 k6)),K25 k8]) (A2 := [K1t k2,sI k4,sL k6,K1v k8]) (by simp only [K23,K25,List.map_nil,Qdn,K1f,Qdl,K19]) (Kpk _ _ l2)) K8a (Or.inr (Qdv (Qdv rfl (Qdv rfl (Qdv (Qdt Qdp l0.fType) (Qdv (Qdt K1g l0.fKids) rfl)))) (Qdv rfl rfl)) : ([32,33,34,35,36,37,38] : List Nat) = [] ∨ noSh (.tup [K24 l0,.bool l1]) = true) tv))))) ?_
     refine sN ?_
     refine sN ?_
     obtain ⟨l3,l4,h⟩ := Qct h
     refine Wp.into (x := .normal) (mkS [(16,.ra 24 0),(19,I i8),(154,.bool l3)] [(22,rI i9.fType),(23,.arr (List.map K0j i9.fKids)),(24,.box [I d0.fOp,I d0.fN,.rs 22,.rs 23])]) ?_ ?_
     ·replace h := l4
      obtain ⟨l5,l6,h⟩ := Qct h
      rcases is h with ⟨l7,h⟩ | ⟨l7,h⟩
      ·refine rg hc none [oN,oN,oc (.bool l5),oN,oN,oN,oN,oN,oF] [(16,.ra 24 0),(19,I i8),(154,.bool (!(l1 == c0)))] [(22,rI i9.fType),(23,.arr (List.map K0j i9.fKids)),(24,.box [I d0.fOp,I d0.fN,.rs 22,.rs 23])] (ac (Q71.args (A1 := [K25 l0,K25 b9]) (A2 := [K1v l0,K1v b9]) (by simp only [K25,List.map_nil,K1f,Qdl]) (Kq0 _ _ l6)) K8d (Or.inr rfl : ([39,40,10,11] : List Nat) = [] ∨ noSh (.bool l5) = true) (ar 4 (nF l7) tv)) ?_
       obtain rfl := os h
       exact Qcf.mk
      refine rg hc none [oN,oN,oc (.bool l5),oN,oN,o_,o_,o_,oT] [(16,.ra 24 0),(19,I i8),(154,.bool true)] [(22,rI i9.fType),(23,.arr (List.map K0j i9.fKids)),(24,.box [I d0.fOp,I d0.fN,.rs 22,.rs 23])] (ac (Q71.args (A1 := [K25 l0,K25 b9]) (A2 := [K1v l0,K1v b9]) (by simp only [K25,List.map_nil,K1f,Qdl]) (Kq0 _ _ l6)) K8d (Or.inr rfl : ([39,40,10,11] : List Nat) = [] ∨ noSh (.bool l5) = true) (ar 3 (neF (nT l7)) (ai (nT l7) tv))) ?_
      obtain rfl := os h
      exact Qcf.mk
     clear l4
     refine ic h (fun l8 h => ?_) fun l8 h => ?_
     ·refine rs0 hc 1 [(8,.bool false)] [] ?_
      refine rt ?_
      obtain rfl := os h
      exact rq [true]
     refine sk ?_
     refine K8s hc 1 [(16,.ra 24 0),(19,I i8),(20,I 1)] ?_
     obtain ⟨l9,m0,h⟩ := Qct h
     refine rs hc none [oN,oN,oc (I l9),oN] [(19,I i8),(20,I l9)] [] (ac (Q71.args (A1 := [.agg [I d0.fOp,I d0.fN,.sl (Q02 (List.map I i9.fType)),.sl (Q02 (List.map K0j i9.fKids))],I 1]) (A2 := [.agg [I d0.fOp,I d0.fN,sI i9.fType,.sl (List.map K0g i9.fKids)],I 1]) (by simp only [List.map_nil,K1f,Qdl]) (Ks0 _ _ m0)) K8p (Or.inr rfl : ([22,23] : List Nat) = [] ∨ noSh (I l9) = true) tv) ?_
     refine sN ?_
     refine rs0 hc 2 [(19,I i8),(20,I l9),(159,.bool (decide (l9 < 0)))] [] ?_
     refine ic h (fun m1 h => ?_) fun m1 h => ?_
     ·refine rs0 hc 1 [(8,.bool false)] [] ?_
      refine rt ?_
      obtain rfl := os h
      exact rq [true]
     refine sk ?_
     refine sN ?_
     refine rs0 hc 3 [(162,.bool (l9 != i8))] [] ?_
     refine ic h (fun m2 h => ?_) fun m2 h => ?_
     ·refine rs0 hc 1 [(8,.bool false)] [] ?_
      refine rt ?_
      obtain rfl := os h
      exact rq [true]
     refine sk ?_
     refine rs0 hc 1 [(8,.bool true)] [] ?_
     refine rt ?_
     obtain rfl := os h
     exact rq [true]
    refine cT (!f6) (nT f8) ?_
    refine rs0 hc 1 [(8,.bool false)] [] ?_
    refine rt ?_
    obtain rfl := os h
    exact rq [true]
   refine cT (!f1) (nT f3) ?_
   refine rs0 hc 1 [(8,.bool false)] [] ?_
   refine rt ?_
   obtain rfl := os h
   exact rq [true]
  refine cT (!e6) (nT e8) ?_
  refine rs0 hc 1 [(8,.bool false)] [] ?_
  refine rt ?_
  obtain rfl := os h
  exact rq [true]
 refine cT (!e1) (nT e3) ?_
 refine rs0 hc 1 [(8,.bool false)] [] ?_
 refine rt ?_
 obtain rfl := os h
 exact rq [true]
end Go.Am
