/- Functions of the program as pure functions,and that it computes them. Printed by a program of mine (gen.py). -/
import Derived.Test.YtckgdfakjjdodaaGreatGVALF2
set_option linter.unusedVariables false
set_option linter.unusedSimpArgs false
set_option maxRecDepth 100000
namespace Go.Am
open Go Go.Proofs
def Ke2 (p : K00 × (List Int)) : Option (Int) :=
 match p with
 | (s0,ty1) =>
  ((
  (Kdq (s0,ty1)) >>= fun a0 =>
  if a0 = true then
  (Kdz ty1) >>= fun a1 =>
  some ((decide (a1 > 300)))
  else
  some (true)
  ) : Option (Bool)) >>= fun a2 =>
  if a2 = true then
  some (-1)
  else
  (Kdz ty1) >>= fun a3 =>
  some a3
def Ke3 (p : K00 × (List Int)) (r : Int) : Prop :=
 match p with
 | (s0,ty1) => Q71 Tryz.prog 33 [K1t s0,sI ty1] (I r) []
theorem Ke4 : ∀ p r,Ke2 p = some r → Ke3 p r := by
 rintro ⟨s0,ty1⟩ r h
 unfold Ke2 at h
 refine b0 Tryz.f33 B33 16 [(0,K1t s0),(1,sI ty1)] fun c hc => ?_
 refine rs hc none [some (.new 1),oN] [(1,sI ty1),(2,.ra 1 0)] [(1,K1s s0)] tv ?_
 refine sN ?_
 refine sN ?_
 obtain ⟨a0,a1,h⟩ := Qdd h
 refine Wp.into (x := .normal) (mkS [(1,sI ty1),(13,.bool a0)] []) ?_ ?_
 ·replace h := a1
  obtain ⟨a2,a3,h⟩ := Qdd h
  rcases is h with ⟨a4,h⟩ | ⟨a4,h⟩
  ·obtain ⟨a5,a6,h⟩ := Qdd h
   refine rg hc none [oN,oN,oc (.bool a2),oN,oN,oN,oc (I a5),oN,oF] [(1,sI ty1),(13,.bool (decide (a5 > 300)))] [] (cq (Kds _ _ a3) K4v (ar 2 (nF a4) (cq (Ke1 _ _ a6) K51 (ar 2 (nF a4) tv)))) ?_
   obtain rfl := os h
   exact Qcz.mk
  refine rg hc none [oN,oN,oc (.bool a2),oN,oN,o_,o_,o_,oT] [(1,sI ty1),(13,.bool true)] [] (cq (Kds _ _ a3) K4v (ar 3 (neF (nT a4)) (ai (nT a4) tv))) ?_
  obtain rfl := os h
  exact Qcz.mk
 clear a1
 refine ic h (fun a7 h => ?_) fun a7 h => ?_
 ·refine rs0 hc 1 [(4,I (-1))] [] ?_
  refine rt ?_
  obtain rfl := os h
  exact rq [true]
 refine sk ?_
 obtain ⟨a8,a9,h⟩ := Qdd h
 refine rs hc none [oN,oc (I a8),oN] [(4,I a8)] [] (cq (Ke1 _ _ a9) K51 tv) ?_
 refine rt ?_
 obtain rfl := os h
 exact rq [true]
def Ke5 (code0 : (List Int)) : Option (K00 × (List Int) × Int) :=
 (K8b code0) >>= fun a0 =>
 (Kbt a0) >>= fun (a1,a2) =>
 (Kc3 (a2,a1,3,true)) >>= fun (a3,a4) =>
 (Kc6 (a4,8)) >>= fun (a5,a6) =>
 if a5 = true then
 (Kcg (a6,a1)) >>= fun (a7,a8) =>
 (Kcj a8) >>= fun (a9,b1) =>
 some (a1,a7,a9)
 else
 (Ke2 (a1,a3)) >>= fun b2 =>
 (K97 (b2,0)) >>= fun b3 =>
 (K8h (a6,(wr (b3 + 2)))) >>= fun (b4,b5) =>
 some (a1,a3,b4)
def Ke6 (code0 : (List Int)) (r : K00 × (List Int) × Int) : Prop :=
 Q71 Tryz.prog 32 [.sl (List.map U8 code0)] (.tup [.agg [I r.1.fSize,.sl (List.map I r.1.fPlus),.sl (List.map I r.1.fTimes),.sl (List.map AV.bool r.1.fBelow)],.sl (List.map I r.2.1),I r.2.2]) []
theorem Ke7 : ∀ p r,Ke5 p = some r → Ke6 p r := by
 rintro code0 r h
 unfold Ke5 at h
 refine b0 Tryz.f32 B32 32 [(0,.sl (List.map U8 code0))] fun c hc => ?_
 refine rs hc none [some (.new 1),oN,oN] [(0,.sl (List.map U8 code0)),(2,.ra 1 0)] [(1,.box [I 0,.nils,.nils,.nils])] tv ?_
 obtain ⟨a0,a1,h⟩ := Qdd h
 refine rs hc none [oN,some (.call (.optr [.sl (List.map U8 a0.fb),I a0.fi,I a0.fh]) [.tup []] 2),oN] [(2,.ra 1 0),(5,.ra 2 0)] [(1,.box [I 0,.nils,.nils,.nils]),(2,K1u a0)] (ab (K8d _ _ a1) K2y tv) ?_
 obtain ⟨⟨a2,a3⟩,a4,h⟩ := Qdd h
 refine rs hc none [oN,some (.call (K22 a2) [.optr [.sl (List.map U8 a3.fb),I a3.fi,I a3.fh]] 3),some (.new 6),oN] [(2,.ra 1 0),(5,.ra 2 0),(6,.ra 6 0)] [(1,.box [I 0,.nils,.nils,.nils]),(2,K1u a3),(3,rI a2.fPlus),(4,rI a2.fTimes),(5,.arr (List.map AV.bool a2.fBelow)),(6,.box [I a2.fSize,.rs 3,.rs 4,.rs 5])] (ab (Kbv _ _ a4) K46 tv) ?_
 refine sN ?_
 refine vz 3 (Qe5 a2.fPlus) [(2,.ra 1 0),(5,.ra 2 0),(6,.ra 6 0)] [(1,.box [I 0,.nils,.nils,.nils]),(2,K1u a3),(4,rI a2.fTimes),(5,.arr (List.map AV.bool a2.fBelow)),(6,.box [I a2.fSize,sI a2.fPlus,.rs 4,.rs 5])] ?_
 refine vz 4 (Qe5 a2.fTimes) [(2,.ra 1 0),(5,.ra 2 0),(6,.ra 6 0)] [(1,.box [I 0,.nils,.nils,.nils]),(2,K1u a3),(5,.arr (List.map AV.bool a2.fBelow)),(6,.box [I a2.fSize,sI a2.fPlus,sI a2.fTimes,.rs 5])] ?_
 refine vz 5 (Qe7 a2.fBelow) [(2,.ra 1 0),(5,.ra 2 0),(6,.ra 6 0)] [(1,.box [I 0,.nils,.nils,.nils]),(2,K1u a3),(6,K1s a2)] ?_
 obtain ⟨⟨a5,a6⟩,a7,h⟩ := Qdd h
 refine rg hc none [oN,oN,some (.call (oI a5) [.optr [.sl (List.map U8 a6.fb),I a6.fi,I a6.fh],.undef,.undef,.undef] 7),oN] [(2,.ra 1 0),(5,.ra 2 0),(6,.ra 6 0),(7,.rs 7)] [(1,.box [I 0,.nils,.nils,.nils]),(2,K1u a6),(6,K1s a2),(7,rI a5)] (ab (Kc5 _ _ a7) K47 tv) ?_
 refine sN ?_
 obtain ⟨⟨a8,a9⟩,b1,h⟩ := Qdd h
 refine rs hc none [oN,some (.call (.bool a8) [.optr [.sl (List.map U8 a9.fb),I a9.fi,I a9.fh],.undef] 1)] [(2,.ra 1 0),(5,.ra 2 0),(6,.ra 6 0),(7,.rs 7),(16,.bool a8)] [(1,.box [I 0,.nils,.nils,.nils]),(2,K1u a9),(6,K1s a2),(7,rI a5)] (ab (Kc8 _ _ b1) K4a tv) ?_
 refine ic h (fun b2 h => ?_) fun b2 h => ?_
 ·obtain ⟨⟨b3,b4⟩,b5,h⟩ := Qdd h
  obtain ⟨⟨b6,b7⟩,b8,h⟩ := Qdd h
  refine rs hc (rx [[0],[0],[0],[0,1,2],[0],[0,1,2,3,4],[6],[7],[8]]) [oN,oN,oN,some (.call (sI b3) [.optr [.sl (List.map U8 b4.fb),I b4.fi,I b4.fh],.undef] 1),oN,some (.call (I b6) [.optr [.sl (List.map U8 b7.fb),I b7.fi,I b7.fh]] 1),oN,oN,oN] [(2,.ra 1 0),(3,sI b3),(4,I b6)] [(1,K1s a2)] (ad (Kci _ _ b5) K4d (Kcl _ _ b8) K4e tv) ?_
  refine rt ?_
  obtain rfl := os h
  exact rq [false,false,true]
 refine sk ?_
 obtain ⟨b9,c0,c1,c2,⟨c3,c4⟩,c5,h⟩ := bq3 h
 refine rs hc (rx [[0],[0],[0],[0],[0],[0,3,4],[0,3,4,5],[0,3,4,5,6],[0,2,3,4,5,6,7],[1,2,3,4,5,6,7,8],[10],[11]]) [oN,oN,oN,oN,oN,oc (I b9),oc (I c1),oN,some (.call (I c3) [.optr [.sl (List.map U8 c4.fb),I c4.fi,I c4.fh],.undef] 1),oN,oN,oN] [(2,.ra 1 0),(3,.rs 7),(4,I c3)] [(1,K1s a2),(7,rI a5)] (ac (Q71.args (A1 := [K1t a2,.sl (Q02 (List.map I a5))]) (A2 := [K1t a2,sI a5]) (by simp only [List.map_nil,Qe5]) (Ke4 _ _ c0)) K52 (Or.inr rfl : ([7] : List Nat) = [] ∨ noSh (I b9) = true) (cq (K99 _ _ c2) K3c (ab (K8j _ _ c5) K31 tv))) ?_
 refine vz 7 (Qe5 a5) [(2,.ra 1 0),(3,sI a5),(4,I c3)] [(1,K1s a2)] ?_
 refine rt ?_
 obtain rfl := os h
 exact rq [false,false,true]
def Ke8 (p : Int × Int × Int) : Option (Bool) :=
 match p with
 | (n0,low1,high2) =>
  ((
  if (decide (n0 ≥ low1)) = true then
  some ((decide (n0 ≤ high2)))
  else
  some (false)
  ) : Option (Bool)) >>= fun a0 =>
  some a0
def Ke9 (p : Int × Int × Int) (r : Bool) : Prop :=
 match p with
 | (n0,low1,high2) => Q71 Tryz.prog 95 [I n0,I low1,I high2] (.bool r) []
theorem Kea : ∀ p r,Ke8 p = some r → Ke9 p r := by
 rintro ⟨n0,low1,high2⟩ r h
 unfold Ke8 at h
 refine b0 Tryz.f95 B95 15 [(0,I n0),(1,I low1),(2,I high2)] fun c hc => ?_
 refine rs0 hc 1 [(0,I n0),(1,I low1),(2,I high2)] [] ?_
 refine sN ?_
 obtain ⟨a0,a1,h⟩ := Qdd h
 refine Wp.into (x := .normal) (mkS [(6,.bool a0)] []) ?_ ?_
 ·replace h := a1
  rcases is h with ⟨a2,h⟩ | ⟨a2,h⟩
  ·refine rg hc none [oN,oN,oN,oN,oN,oN,oN,oT,oN] [(6,.bool (decide (n0 ≤ high2)))] [] (ar 4 a2 tv) ?_
   obtain rfl := os h
   exact Qcz.mk
  refine rg hc none [oN,oN,oN,oN,o_,o_,o_,oF,oN] [(6,.bool false)] [] (ar 3 (neT a2) (ai a2 tv)) ?_
  obtain rfl := os h
  exact Qcz.mk
 clear a1
 refine rt ?_
 obtain rfl := os h
 exact rq [true]
def Keb (code0 : Int) : Option (Int × Int) :=
 (Ke8 (code0,0,2)) >>= fun a0 =>
 if a0 = true then
 some (code0,(-1))
 else
 (Ke8 (code0,3,18)) >>= fun a1 =>
 if a1 = true then
 some (3,(wr (code0 - 3)))
 else
 (Ke8 (code0,19,34)) >>= fun a2 =>
 if a2 = true then
 some (4,(wr (code0 - 19)))
 else
 if (code0 == 35) = true then
 some (3,(-1))
 else
 if (code0 == 36) = true then
 some (4,(-1))
 else
 some (5,(-1))
def Kec (code0 : Int) (r : Int × Int) : Prop :=
 Q71 Tryz.prog 157 [I code0] (.tup [I r.1,I r.2]) []
theorem Ked : ∀ p r,Keb p = some r → Kec p r := by
 rintro code0 r h
 unfold Keb at h
 refine b0 Tryz.f157 K55 24 [(0,I code0)] fun c hc => ?_
 refine rs0 hc 2 [(0,I code0)] [] ?_
 refine sN ?_
 refine bk 0 ?_
 obtain ⟨a0,a1,h⟩ := Qdd h
 refine rs hc none [oN,oc (.bool a0),oN] [(0,I code0),(4,.bool a0)] [] (cq (Kea _ _ a1) K54 tv) ?_
 refine ic h (fun a2 h => ?_) fun a2 h => ?_
 ·refine rs0 hc 3 [(2,I code0),(3,I (-1))] [] ?_
  refine rt ?_
  obtain rfl := os h
  exact rq [true,true]
 obtain ⟨a3,a4,h⟩ := Qdd h
 refine rs hc none [oN,oc (.bool a3),oN] [(0,I code0),(8,.bool a3)] [] (cq (Kea _ _ a4) K54 tv) ?_
 refine ic h (fun a5 h => ?_) fun a5 h => ?_
 ·refine rs0 hc 4 [(2,I 3),(3,I (wr (code0 - 3)))] [] ?_
  refine rt ?_
  obtain rfl := os h
  exact rq [true,true]
 obtain ⟨a6,a7,h⟩ := Qdd h
 refine rs hc none [oN,oc (.bool a6),oN] [(0,I code0),(13,.bool a6)] [] (cq (Kea _ _ a7) K54 tv) ?_
 refine ic h (fun a8 h => ?_) fun a8 h => ?_
 ·refine rs0 hc 4 [(2,I 4),(3,I (wr (code0 - 19)))] [] ?_
  refine rt ?_
  obtain rfl := os h
  exact rq [true,true]
 refine rs0 hc 3 [(0,I code0),(18,.bool (code0 == 35))] [] ?_
 refine ic h (fun a9 h => ?_) fun a9 h => ?_
 ·refine rs0 hc 2 [(2,I 3),(3,I (-1))] [] ?_
  refine rt ?_
  obtain rfl := os h
  exact rq [true,true]
 refine rs0 hc 3 [(21,.bool (code0 == 36))] [] ?_
 refine ic h (fun b1 h => ?_) fun b1 h => ?_
 ·refine rs0 hc 2 [(2,I 4),(3,I (-1))] [] ?_
  refine rt ?_
  obtain rfl := os h
  exact rq [true,true]
 refine sk ?_
 refine rs0 hc 2 [(2,I 5),(3,I (-1))] [] ?_
 refine rt ?_
 obtain rfl := os h
 exact rq [true,true]
def Kee (p : (List Int) × Int) : Option (Int) :=
 match p with
 | (ty0,at1) =>
  ((
  if (decide (at1 < 0)) = true then
  some (true)
  else
  some ((decide (at1 ≥ (ty0.length : Int))))
  ) : Option (Bool)) >>= fun a0 =>
  if a0 = true then
  some (-1)
  else
  (idx ty0 at1) >>= fun a1 =>
  (Keb a1) >>= fun (a2,a3) =>
  if (a2 == 0) = true then
  some (wr (at1 + 1))
  else
  if (a2 == 4) = true then
  (Kee (ty0,(wr (at1 + 1)))) >>= fun a4 =>
  some a4
  else
  if (a2 == 5) = true then
  some (-1)
  else
  (Kee (ty0,(wr (at1 + 1)))) >>= fun a5 =>
  (Kee (ty0,a5)) >>= fun a6 =>
  some a6
 partial_fixpoint
def Kef (p : (List Int) × Int) (r : Int) : Prop :=
 match p with
 | (ty0,at1) => Q71 Tryz.prog 213 [sI ty0,I at1] (I r) []
theorem Keg : ∀ p r,Kee p = some r → Kef p r := by
 refine Kee.partial_correctness Kef ?_
 rintro impl_typeEnd_f impl_typeEnd_ih ⟨ty0,at1⟩ r h
 refine b0 Tryz.f213 K57 42 [(0,sI ty0),(1,I at1)] fun c hc => ?_
 refine rs0 hc 1 [(0,sI ty0),(1,I at1)] [] ?_
 refine sN ?_
 refine sN ?_
 obtain ⟨a0,a1,h⟩ := Qdd h
 refine Wp.into (x := .normal) (mkS [(0,sI ty0),(1,I at1),(14,.bool a0)] []) ?_ ?_
 ·replace h := a1
  rcases is h with ⟨a2,h⟩ | ⟨a2,h⟩
  ·refine rg hc none [oN,oN,oN,o_,o_,o_,o_,oT] [(0,sI ty0),(1,I at1),(14,.bool true)] [] (ar 4 (neF a2) (ai a2 tv)) ?_
   obtain rfl := os h
   exact Qcz.mk
  refine rg hc none [oN,oN,oN,oN,oN,some (.eqv (.no) ⟨[(12,I (ty0.length : Int))],[],[]⟩),oN,oF] [(0,sI ty0),(1,I at1),(14,.bool (decide (at1 ≥ (ty0.length : Int))))] [] (ar 3 a2 (ai (Qdj (d := 12) I ty0) (ar 2 a2 tv))) ?_
  obtain rfl := os h
  exact Qcz.mk
 clear a1
 refine ic h (fun a3 h => ?_) fun a3 h => ?_
 ·refine rs0 hc 1 [(4,I (-1))] [] ?_
  refine rt ?_
  obtain rfl := os h
  exact rq [true]
 refine sk ?_
 obtain ⟨a4,a5,⟨a6,a7⟩,a8,h⟩ := bq2 h
 refine rs hc none [oN,oN,some (.el (I a4)),oN,oc (.tup [I a6,I a7]),oN,oN,oN,oN,oN] [(0,sI ty0),(1,I at1),(5,I a6)] [] (ai (ix a5) (cq (Ked _ _ a8) K56 tv)) ?_
 refine sN ?_
 refine rs0 hc 1 [(0,sI ty0),(1,I at1),(23,I a6)] [] ?_
 refine bk 0 ?_
 refine rs0 hc 2 [(0,sI ty0),(1,I at1),(23,I a6),(24,.bool (a6 == 0))] [] ?_
 refine ic h (fun a9 h => ?_) fun a9 h => ?_
 ·refine rs0 hc 3 [(4,I (wr (at1 + 1)))] [] ?_
  refine rt ?_
  obtain rfl := os h
  exact rq [true]
 refine rs0 hc 2 [(0,sI ty0),(1,I at1),(23,I a6),(28,.bool (a6 == 4))] [] ?_
 refine ic h (fun b1 h => ?_) fun b1 h => ?_
 ·obtain ⟨b2,b3,h⟩ := Qdd h
  refine rs hc none [oN,oN,oN,oc (I b2),oN] [(4,I b2)] [] (cq (impl_typeEnd_ih _ _ b3) K58 tv) ?_
  refine rt ?_
  obtain rfl := os h
  exact rq [true]
 refine rs0 hc 2 [(0,sI ty0),(1,I at1),(34,.bool (a6 == 5))] [] ?_
 refine ic h (fun b4 h => ?_) fun b4 h => ?_
 ·refine rs0 hc 1 [(4,I (-1))] [] ?_
  refine rt ?_
  obtain rfl := os h
  exact rq [true]
 refine sk ?_
 obtain ⟨b5,b6,b7,b8,h⟩ := bq2 h
 refine rs hc none [oN,oN,oN,oN,oc (I b5),oc (I b7),oN] [(4,I b7)] [] (cq (impl_typeEnd_ih _ _ b6) K58 (cq (impl_typeEnd_ih _ _ b8) K58 tv)) ?_
 refine rt ?_
 obtain rfl := os h
 exact rq [true]
def Keh (ty0 : (List Int)) : Option (Bool) :=
 ((
 (Ke8 ((ty0.length : Int),1,40)) >>= fun a0 =>
 if a0 = true then
 (Kee (ty0,0)) >>= fun a1 =>
 some ((a1 == (ty0.length : Int)))
 else
 some (false)
 ) : Option (Bool)) >>= fun a2 =>
 some a2
def Kei (ty0 : (List Int)) (r : Bool) : Prop :=
 Q71 Tryz.prog 159 [sI ty0] (.bool r) []
theorem Kej : ∀ p r,Keh p = some r → Kei p r := by
 rintro ty0 r h
 unfold Keh at h
 refine b0 Tryz.f159 K59 13 [(0,sI ty0)] fun c hc => ?_
 refine rs0 hc 1 [(0,sI ty0)] [] ?_
 refine sN ?_
 obtain ⟨a0,a1,h⟩ := Qdd h
 refine Wp.into (x := .normal) (mkS [(2,.bool a0)] []) ?_ ?_
 ·replace h := a1
  obtain ⟨a2,a3,h⟩ := Qdd h
  rcases is h with ⟨a4,h⟩ | ⟨a4,h⟩
  ·obtain ⟨a5,a6,h⟩ := Qdd h
   refine rg hc none [oN,some (.eqv (.no) ⟨[(4,I (ty0.length : Int))],[],[]⟩),oc (.bool a2),oN,oN,oc (I a5),oN,some (.eqv (.no) ⟨[(10,I (ty0.length : Int))],[],[]⟩),oN,oT,oN] [(2,.bool (a5 == (ty0.length : Int)))] [] (ai (Qdj (d := 4) I ty0) (cq (Kea _ _ a3) K54 (ar 2 a4 (cq (Keg _ _ a6) K58 (ar 2 a4 (ai (Qdj (d := 10) I ty0) (ar 2 a4 tv))))))) ?_
   obtain rfl := os h
   exact Qcz.mk
  refine rg hc none [oN,some (.eqv (.no) ⟨[(4,I (ty0.length : Int))],[],[]⟩),oc (.bool a2),oN,o_,o_,o_,o_,o_,oF,oN] [(2,.bool false)] [] (ai (Qdj (d := 4) I ty0) (cq (Kea _ _ a3) K54 (ar 5 (neT a4) (ai a4 tv)))) ?_
  obtain rfl := os h
  exact Qcz.mk
 clear a1
 refine rt ?_
 obtain rfl := os h
 exact rq [true]
def Kek (p : K00 × Int) : Option (Bool) :=
 match p with
 | (s0,g1) =>
  (Ke8 (g1,0,(wr (s0.fSize - 1)))) >>= fun a0 =>
  some a0
def Kel (p : K00 × Int) (r : Bool) : Prop :=
 match p with
 | (s0,g1) => Q71 Tryz.prog 145 [K1t s0,I g1] (.bool r) []
theorem Kem : ∀ p r,Kek p = some r → Kel p r := by
 rintro ⟨s0,g1⟩ r h
 unfold Kek at h
 refine b0 Tryz.f145 K5b 10 [(0,K1t s0),(1,I g1)] fun c hc => ?_
 refine rs hc none [some (.new 1),oN] [(1,I g1),(2,.ra 1 0)] [(1,K1s s0)] tv ?_
 obtain ⟨a0,a1,h⟩ := Qdd h
 refine rs hc none [oN,oN,oN,oN,oc (.bool a0),oN] [(4,.bool a0)] [] (cq (Kea _ _ a1) K54 tv) ?_
 refine rt ?_
 obtain rfl := os h
 exact rq [true]
def Ken (c : Ctx) : (Unit) ⊕ (Bool) → Exit → Q0a → Prop
 | .inl _ => Qcz c (.exit 0) (mkS [] [])
 | .inr r => Qd8 TIx Tryz.f78 [] (.bool r)
def Keo (p : K00 × (List Int) × Int) : Option ((Unit) ⊕ (Bool)) :=
 match p with
 | (s0,ty1,a0) =>
  if (decide (a0 < (ty1.length : Int))) = true then
  (idx ty1 a0) >>= fun a1 =>
  (Keb a1) >>= fun (a2,a3) =>
  ((
  if (a2 == 3) = true then
  (Kek (s0,a3)) >>= fun a4 =>
  some ((!a4))
  else
  if (a2 == 4) = true then
  (Kek (s0,a3)) >>= fun a4 =>
  some ((!a4))
  else
  some (false)
  ) : Option (Bool)) >>= fun a5 =>
  if a5 = true then
  some (.inr false)
  else
  Keo (s0,ty1,(wr (a0 + 1)))
  else
  some (.inl ())
 partial_fixpoint
def Kep (p : K00 × (List Int) × Int) (fl : (Unit) ⊕ (Bool)) : Prop :=
 match p with
 | (s0,ty1,a0) => ∀ c : Ctx,c.nt = 36 → WpL Tryz.prog c (cl (cl (cr (cl (cr (cr B78)))))) (Ken c fl) (mkS [(2,.ra 1 0),(12,sI ty1),(13,I (ty1.length : Int)),(14,I a0)] [(1,K1s s0)])
theorem Keq : ∀ p r,Keo p = some r → Kep p r := by
 refine Keo.partial_correctness Kep ?_
 rintro impl_isTypeOf_l0_f impl_isTypeOf_l0_ih ⟨s0,ty1,a0⟩ r h
 intro c hc
 refine WpL.step ?_
 refine K82 hc 1 [(2,.ra 1 0),(12,sI ty1),(13,I (ty1.length : Int)),(14,I a0),(15,.bool (decide (a0 < (ty1.length : Int))))] ?_
 refine sN ?_
 refine ic h (fun a1 h => ?_) fun a1 h => ?_
 ·refine sk ?_
  refine sN ?_
  refine bk 1 ?_
  obtain ⟨a2,a3,h⟩ := Qdd h
  refine rss hc none [some (.el (I a2)),oN,oN] [(2,.ra 1 0),(6,I a2),(12,sI ty1),(13,I (ty1.length : Int)),(14,I a0)] (ai (ix a3) tv) ?_
  obtain ⟨⟨a4,a5⟩,a6,h⟩ := Qdd h
  refine rss hc none [oN,oc (.tup [I a4,I a5]),oN,oN,oN,oN,oN] [(2,.ra 1 0),(7,I a4),(8,I a5),(12,sI ty1),(13,I (ty1.length : Int)),(14,I a0)] (cq (Ked _ _ a6) K56 tv) ?_
  refine sN ?_
  obtain ⟨a7,a8,h⟩ := Qdd h
  refine Wp.into (x := .normal) (mkS [(2,.ra 1 0),(12,sI ty1),(13,I (ty1.length : Int)),(14,I a0),(34,.bool a7)] [(1,K1s s0)]) ?_ ?_
  ·replace h := a8
   rcases is h with ⟨a9,h⟩ | ⟨a9,h⟩
   ·obtain ⟨b1,b2,h⟩ := Qdd h
    refine rgs hc none [oN,oN,oN,o_,o_,oT,oN,oN,oN,oc (.bool b1),oN,oT] [(2,.ra 1 0),(12,sI ty1),(13,I (ty1.length : Int)),(14,I a0),(34,.bool (!b1))] (ar 2 (neF a9) (ai a9 (ar 3 tt (cq (Kem _ _ b2) K5c (ar 2 tt tv))))) ?_
    obtain rfl := os h
    exact Qcz.mk
   rcases is h with ⟨b3,h⟩ | ⟨b3,h⟩
   ·obtain ⟨b1,b2,h⟩ := Qdd h
    refine rgs hc none [oN,oN,oN,oN,oN,oF,oN,oN,oN,oc (.bool b1),oN,oT] [(2,.ra 1 0),(12,sI ty1),(13,I (ty1.length : Int)),(14,I a0),(34,.bool (!b1))] (ar 3 a9 (ar 3 b3 (cq (Kem _ _ b2) K5c (ar 2 b3 tv)))) ?_
    obtain rfl := os h
    exact Qcz.mk
   refine rgs hc none [oN,oN,oN,oN,oN,oF,oN,o_,o_,o_,o_,oF] [(2,.ra 1 0),(12,sI ty1),(13,I (ty1.length : Int)),(14,I a0),(34,.bool false)] (ar 3 a9 (ar 4 (neT b3) (ai b3 tv))) ?_
   obtain rfl := os h
   exact Qcz.mk
  clear a8
  refine ic h (fun b4 h => ?_) fun b4 h => ?_
  ·refine rs0 hc 1 [(4,.bool false)] [] ?_
   refine rt ?_
   obtain rfl := os h
   exact re [true]
  refine sk ?_
  refine K81 hc 2 [(2,.ra 1 0),(12,sI ty1),(13,I (ty1.length : Int)),(14,I (wr (a0 + 1)))] ?_
  refine Qcv ?_
  exact (impl_isTypeOf_l0_ih _ _ h c hc)
 refine xt 0 ?_
 refine Qcp ?_
 refine Qcw ?_
 obtain rfl := os h
 exact iv []
def Ker (p : K00 × (List Int)) : Option (Bool) :=
 match p with
 | (s0,ty1) =>
  (Keh ty1) >>= fun a0 =>
  if a0 = true then
  (Keo (s0,ty1,0)) >>= fun fl => match fl with
  | .inl () =>
   some true
  | .inr r =>
   some r
  else
  some false
def Kes (p : K00 × (List Int)) (r : Bool) : Prop :=
 match p with
 | (s0,ty1) => Q71 Tryz.prog 78 [K1t s0,sI ty1] (.bool r) []
theorem Ket : ∀ p r,Ker p = some r → Kes p r := by
 rintro ⟨s0,ty1⟩ r h
 unfold Ker at h
 refine b0 Tryz.f78 B78 36 [(0,K1t s0),(1,sI ty1)] fun c hc => ?_
 refine rs hc none [some (.new 1),oN] [(1,sI ty1),(2,.ra 1 0)] [(1,K1s s0)] tv ?_
 refine sN ?_
 obtain ⟨a0,a1,h⟩ := Qdd h
 refine rss hc none [oN,oc (.bool a0),oN] [(1,sI ty1),(2,.ra 1 0),(11,.bool (!a0))] (cq (Kej _ _ a1) K5a tv) ?_
 rcases is h with ⟨a2,h⟩ | ⟨a2,h⟩
 ·refine cF (!a0) (nF a2) ?_
  refine sk ?_
  refine sN ?_
  refine rss hc none [oN,some (.eqv (.no) ⟨[(13,I (ty1.length : Int))],[],[]⟩),oN] [(2,.ra 1 0),(12,sI ty1),(13,I (ty1.length : Int)),(14,I 0)] (ai (Qdj (d := 13) I ty1) tv) ?_
  refine bk 0 ?_
  obtain ⟨fl,a3,h⟩ := Qdd h
  have hL := Keq _ _ a3 c hc
  refine lp ?_
  rcases fl with ⟨⟩ | r
  ·refine WpL.into (e := (.exit 0)) (mkS [] []) hL ?_
   refine Qcr ?_
   refine rs0 hc 1 [(4,.bool true)] [] ?_
   refine rt ?_
   obtain rfl := os h
   exact rq [true]
  refine WpL.mono hL ?_
  rintro _ _ ⟨rfl,hfin⟩
  obtain rfl := os h
  exact ⟨.inl rfl,hfin⟩
 refine cT (!a0) (nT a2) ?_
 refine rs0 hc 1 [(4,.bool false)] [] ?_
 refine rt ?_
 obtain rfl := os h
 exact rq [true]
def Keu (c0 : Int) : Option (Bool) :=
 (Keb c0) >>= fun (a0,a1) =>
 some (a0 == 3)
def Kev (c0 : Int) (r : Bool) : Prop :=
 Q71 Tryz.prog 170 [I c0] (.bool r) []
theorem Kew : ∀ p r,Keu p = some r → Kev p r := by
 rintro c0 r h
 unfold Keu at h
 refine b0 Tryz.f170 K5e 12 [(0,I c0)] fun c hc => ?_
 refine rs0 hc 1 [(0,I c0)] [] ?_
 obtain ⟨⟨a0,a1⟩,a2,h⟩ := Qdd h
 refine rs hc none [oN,oc (.tup [I a0,I a1]),oN,oN,oN,oN,oN] [(3,I a0)] [] (cq (Ked _ _ a2) K56 tv) ?_
 refine rs0 hc 3 [(2,.bool (a0 == 3))] [] ?_
 refine rt ?_
 obtain rfl := os h
 exact rq [true]
def Kex (c : Ctx) : (Unit) ⊕ (Int) → Exit → Q0a → Prop
 | .inl _ => Qcz c (.exit 0) (mkS [] [])
 | .inr r => Qd8 TIx Tryz.f193 [] (I r)
def Key (p : (List Int) × Int) : Option ((Unit) ⊕ (Int)) :=
 match p with
 | (s0,a0) =>
  if (decide (a0 < (s0.length : Int))) = true then
  (idx s0 a0) >>= fun a1 =>
  (Keu a1) >>= fun a2 =>
  if a2 = true then
  some (.inr a0)
  else
  Key (s0,(wr (a0 + 1)))
  else
  some (.inl ())
 partial_fixpoint
def Kez (p : (List Int) × Int) (fl : (Unit) ⊕ (Int)) : Prop :=
 match p with
 | (s0,a0) => ∀ c : Ctx,c.nt = 19 → WpL Tryz.prog c (cl (cl (cr (cl (cr K5g))))) (Kex c fl) (mkS [(0,sI s0),(1,.fn 170 []),(7,I (s0.length : Int)),(8,I a0)] [])
theorem Kf0 : ∀ p r,Key p = some r → Kez p r := by
 refine Key.partial_correctness Kez ?_
 rintro slices_IndexFunc_int_Kimpl_isDataOf_c1_l0_f slices_IndexFunc_int_Kimpl_isDataOf_c1_l0_ih ⟨s0,a0⟩ r h
 intro c hc
 refine WpL.step ?_
 refine rs0 hc 1 [(0,sI s0),(1,.fn 170 []),(7,I (s0.length : Int)),(8,I a0),(9,.bool (decide (a0 < (s0.length : Int))))] [] ?_
 refine sN ?_
 refine ic h (fun a1 h => ?_) fun a1 h => ?_
 ·refine sk ?_
  refine sN ?_
  refine bk 1 ?_
  refine rs0 hc 2 [(0,sI s0),(1,.fn 170 []),(5,I a0),(7,I (s0.length : Int)),(8,I a0)] [] ?_
  obtain ⟨a2,a3,a4,a5,h⟩ := bq2 h
  refine rs hc none [oN,oN,oN,some (.el (I a2)),oN,oc (.bool a4)] [(0,sI s0),(1,.fn 170 []),(5,I a0),(7,I (s0.length : Int)),(8,I a0),(16,.bool a4)] [] (ai (ix a3) (cq (Kew _ _ a5) K5f tv)) ?_
  refine ic h (fun a6 h => ?_) fun a6 h => ?_
  ·refine rs0 hc 2 [(4,I a0)] [] ?_
   refine rt ?_
   obtain rfl := os h
   exact re [true]
  refine sk ?_
  refine rg0 hc 2 [(0,sI s0),(1,.fn 170 []),(7,I (s0.length : Int)),(8,I (wr (a0 + 1)))] [] ?_
  refine Qcv ?_
  exact (slices_IndexFunc_int_Kimpl_isDataOf_c1_l0_ih _ _ h c hc)
 refine xt 0 ?_
 refine Qcp ?_
 refine Qcw ?_
 obtain rfl := os h
 exact iv []
def Kf1 (s0 : (List Int)) : Option (Int) :=
 (Key (s0,0)) >>= fun fl => match fl with
 | .inl () =>
  some (-1)
 | .inr r =>
  some r
def Kf2 (s0 : (List Int)) (r : Int) : Prop :=
 Q71 Tryz.prog 193 [sI s0,.fn 170 []] (I r) []
theorem Kf3 : ∀ p r,Kf1 p = some r → Kf2 p r := by
 rintro s0 r h
 unfold Kf1 at h
 refine b0 Tryz.f193 K5g 19 [(0,sI s0),(1,.fn 170 [])] fun c hc => ?_
 refine rs0 hc 1 [(0,sI s0),(1,.fn 170 [])] [] ?_
 refine sN ?_
 refine rs hc none [oN,some (.eqv (.no) ⟨[(7,I (s0.length : Int))],[],[]⟩),oN] [(0,sI s0),(1,.fn 170 []),(7,I (s0.length : Int)),(8,I 0)] [] (ai (Qdj (d := 7) I s0) tv) ?_
 refine bk 0 ?_
 obtain ⟨fl,a0,h⟩ := Qdd h
 have hL := Kf0 _ _ a0 c hc
 refine lp ?_
 rcases fl with ⟨⟩ | r
 ·refine WpL.into (e := (.exit 0)) (mkS [] []) hL ?_
  refine Qcr ?_
  refine rs0 hc 1 [(4,I (-1))] [] ?_
  refine rt ?_
  obtain rfl := os h
  exact rq [true]
 refine WpL.mono hL ?_
 rintro _ _ ⟨rfl,hfin⟩
 obtain rfl := os h
 exact ⟨.inl rfl,hfin⟩
def Kf4 (s0 : (List Int)) : Option (Bool) :=
 (Kf1 s0) >>= fun a0 =>
 some (decide (a0 ≥ 0))
def Kf5 (s0 : (List Int)) (r : Bool) : Prop :=
 Q71 Tryz.prog 116 [sI s0,.fn 170 []] (.bool r) []
theorem Kf6 : ∀ p r,Kf4 p = some r → Kf5 p r := by
 rintro s0 r h
 unfold Kf4 at h
 refine b0 Tryz.f116 K5i 9 [(0,sI s0),(1,.fn 170 [])] fun c hc => ?_
 refine rs0 hc 1 [(0,sI s0),(1,.fn 170 [])] [] ?_
 obtain ⟨a0,a1,h⟩ := Qdd h
 refine rs hc none [oN,oN,oc (I a0),oN,oN] [(4,.bool (decide (a0 ≥ 0)))] [] (cq (Kf3 _ _ a1) K5h tv) ?_
 refine rt ?_
 obtain rfl := os h
 exact rq [true]
def Kf7 (p : K00 × (List Int)) : Option (Bool) :=
 match p with
 | (s0,ty1) =>
  ((
  (Ker (s0,ty1)) >>= fun a0 =>
  if a0 = true then
  (Kf4 ty1) >>= fun a1 =>
  some ((!a1))
  else
  some (false)
  ) : Option (Bool)) >>= fun a2 =>
  some a2
def Kf8 (p : K00 × (List Int)) (r : Bool) : Prop :=
 match p with
 | (s0,ty1) => Q71 Tryz.prog 83 [K1t s0,sI ty1] (.bool r) []
theorem Kf9 : ∀ p r,Kf7 p = some r → Kf8 p r := by
 rintro ⟨s0,ty1⟩ r h
 unfold Kf7 at h
 refine b0 Tryz.f83 B83 13 [(0,K1t s0),(1,sI ty1)] fun c hc => ?_
 refine rs hc none [some (.new 1),oN] [(1,sI ty1),(2,.ra 1 0)] [(1,K1s s0)] tv ?_
 refine sN ?_
 obtain ⟨a0,a1,h⟩ := Qdd h
 refine Wp.into (x := .normal) (mkS [(4,.bool a0)] []) ?_ ?_
 ·replace h := a1
  obtain ⟨a2,a3,h⟩ := Qdd h
  rcases is h with ⟨a4,h⟩ | ⟨a4,h⟩
  ·obtain ⟨a5,a6,h⟩ := Qdd h
   refine rg hc none [oN,oN,oc (.bool a2),oN,oN,oc (.bool a5),oN,oT,oN] [(4,.bool (!a5))] [] (cq (Ket _ _ a3) K5d (ar 2 a4 (cq (Kf6 _ _ a6) K5j (ar 2 a4 tv)))) ?_
   obtain rfl := os h
   exact Qcz.mk
  refine rg hc none [oN,oN,oc (.bool a2),oN,o_,o_,o_,oF,oN] [(4,.bool false)] [] (cq (Ket _ _ a3) K5d (ar 3 (neT a4) (ai a4 tv))) ?_
  obtain rfl := os h
  exact Qcz.mk
 clear a1
 refine rt ?_
 obtain rfl := os h
 exact rq [true]
def Kfa (p : K00 × Int × Int) : Option (Int) :=
 match p with
 | (s0,a1,b2) =>
  (idx s0.fPlus (wr ((wr (a1 * s0.fSize)) + b2))) >>= fun a0 =>
  some a0
def Kfb (p : K00 × Int × Int) (r : Int) : Prop :=
 match p with
 | (s0,a1,b2) => Q71 Tryz.prog 160 [K1t s0,I a1,I b2] (I r) []
theorem Kfc : ∀ p r,Kfa p = some r → Kfb p r := by
 rintro ⟨s0,a1,b2⟩ r h
 unfold Kfa at h
 refine b0 Tryz.f160 K5l 17 [(0,K1t s0),(1,I a1),(2,I b2)] fun c hc => ?_
 refine rs hc none [some (.new 1),oN] [(1,I a1),(2,I b2),(3,.ra 1 0)] [(1,K1s s0)] tv ?_
 obtain ⟨a0,a2,h⟩ := Qdd h
 refine rs hc none [oN,oN,oN,oN,oN,oN,oN,oN,some (.el (I a0)),oN,oN] [(6,I a0)] [] (ai (ix a2) tv) ?_
 refine rt ?_
 obtain rfl := os h
 exact rq [true]
def Kfd (p : K00 × Int × Int) : Option (Int) :=
 match p with
 | (s0,a1,b2) =>
  (idx s0.fTimes (wr ((wr (a1 * s0.fSize)) + b2))) >>= fun a0 =>
  some a0
def Kfe (p : K00 × Int × Int) (r : Int) : Prop :=
 match p with
 | (s0,a1,b2) => Q71 Tryz.prog 161 [K1t s0,I a1,I b2] (I r) []
theorem Kff : ∀ p r,Kfd p = some r → Kfe p r := by
 rintro ⟨s0,a1,b2⟩ r h
 unfold Kfd at h
 refine b0 Tryz.f161 K5n 17 [(0,K1t s0),(1,I a1),(2,I b2)] fun c hc => ?_
 refine rs hc none [some (.new 1),oN] [(1,I a1),(2,I b2),(3,.ra 1 0)] [(1,K1s s0)] tv ?_
 obtain ⟨a0,a2,h⟩ := Qdd h
 refine rs hc none [oN,oN,oN,oN,oN,oN,oN,oN,some (.el (I a0)),oN,oN] [(6,I a0)] [] (ai (ix a2) tv) ?_
 refine rt ?_
 obtain rfl := os h
 exact rq [true]
def Kfg (p : K00 × Int × Int) : Option (Bool) :=
 match p with
 | (s0,a1,b2) =>
  (idx s0.fBelow (wr ((wr (a1 * s0.fSize)) + b2))) >>= fun a0 =>
  some a0
def Kfh (p : K00 × Int × Int) (r : Bool) : Prop :=
 match p with
 | (s0,a1,b2) => Q71 Tryz.prog 89 [K1t s0,I a1,I b2] (.bool r) []
theorem Kfi : ∀ p r,Kfg p = some r → Kfh p r := by
 rintro ⟨s0,a1,b2⟩ r h
 unfold Kfg at h
 refine b0 Tryz.f89 B89 17 [(0,K1t s0),(1,I a1),(2,I b2)] fun c hc => ?_
 refine rs hc none [some (.new 1),oN] [(1,I a1),(2,I b2),(3,.ra 1 0)] [(1,K1s s0)] tv ?_
 obtain ⟨a0,a2,h⟩ := Qdd h
 refine rs hc none [oN,oN,oN,oN,oN,oN,oN,oN,some (.el (.bool a0)),oN,oN] [(6,.bool a0)] [] (ai (Qdh (enc := AV.bool) (x := .bool a0) a2 (Qdu a0)) tv) ?_
 refine rt ?_
 obtain rfl := os h
 exact rq [true]
def Kfj (c : Ctx) (s0 : K00) (a1 : Int) (b2 : Int) (a0 : Int) : Bool → Exit → Q0a → Prop
 | a2 => Qcz c (.exit 2) (mkS [(1,I a1),(2,I b2),(3,.ra 1 0),(7,I a0),(8,.bool a2)] [(1,K1s s0)])
def Kfk (p : K00 × Int × Int × Int × Bool × Int) : Option (Bool) :=
 match p with
 | (s0,a1,b2,a0,a2,a3) =>
  if (decide (a3 < s0.fSize)) = true then
  ((
  if a2 = true then
  (Kfg (s0,a1,a3)) >>= fun a4 =>
  if a4 = true then
  (Kfg (s0,b2,a3)) >>= fun a5 =>
  if a5 = true then
  (Kfg (s0,a0,a3)) >>= fun a6 =>
  some (a6)
  else
  some (true)
  else
  some (true)
  else
  some (false)
  ) : Option (Bool)) >>= fun a7 =>
  Kfk (s0,a1,b2,a0,a7,(wr (a3 + 1)))
  else
  some (a2)
 partial_fixpoint
def Kfl (p : K00 × Int × Int × Int × Bool × Int) (fl : Bool) : Prop :=
 match p with
 | (s0,a1,b2,a0,a2,a3) => ∀ c : Ctx,c.nt = 57 → WpL Tryz.prog c (cl (cl (cr (cl (cr (cr (cl (cl (cr (cl (cl (cr (cl (cr K5q)))))))))))))) (Kfj c s0 a1 b2 a0 fl) (mkS [(1,I a1),(2,I b2),(3,.ra 1 0),(7,I a0),(8,.bool a2),(9,I a3)] [(1,K1s s0)])
theorem Kfm : ∀ p r,Kfk p = some r → Kfl p r := by
 refine Kfk.partial_correctness Kfl ?_
 rintro impl_Systemjoin_l0_f impl_Systemjoin_l0_ih ⟨s0,a1,b2,a0,a2,a3⟩ r h
 intro c hc
 refine WpL.step ?_
 refine sN ?_
 refine K82 hc 4 [(1,I a1),(2,I b2),(3,.ra 1 0),(7,I a0),(8,.bool a2),(9,I a3),(31,.bool (decide (a3 < s0.fSize)))] ?_
 refine ic h (fun a4 h => ?_) fun a4 h => ?_
 ·refine sk ?_
  refine sN ?_
  refine bk 3 ?_
  obtain ⟨a5,a6,h⟩ := Qdd h
  refine Wp.into (x := .normal) (mkS [(1,I a1),(2,I b2),(3,.ra 1 0),(7,I a0),(8,.bool a5),(9,I a3)] [(1,K1s s0)]) ?_ ?_
  ·replace h := a6
   rcases is h with ⟨a7,h⟩ | ⟨a7,h⟩
   ·obtain ⟨a8,a9,h⟩ := Qdd h
    rcases is h with ⟨b1,h⟩ | ⟨b1,h⟩
    ·obtain ⟨b3,b4,h⟩ := Qdd h
     rcases is h with ⟨b5,h⟩ | ⟨b5,h⟩
     ·obtain ⟨b6,b7,h⟩ := Qdd h
      refine rgs hc none [oN,oN,oN,oN,oN,oc (.bool a8),oN,oN,oN,oN,oN,oc (.bool b3),oN,oF,oN,oN,oN,oN,oc (.bool b6),oF,oT,oN] [(1,I a1),(2,I b2),(3,.ra 1 0),(7,I a0),(8,.bool b6),(9,I a3)] (ar 4 a7 (cq (Kfi _ _ a9) K5p (ar 2 a7 (ar 4 (nF b1) (cq (Kfi _ _ b4) K5p (ad (nF b1) a7 (nF b1) a7 (ar 4 (nF b5) (cq (Kfi _ _ b7) K5p (ac a7 (nF b5) a7 tv))))))))) ?_
      obtain rfl := os h
      exact Qcz.mk
     refine rgs hc none [oN,oN,oN,oN,oN,oc (.bool a8),oN,oN,oN,oN,oN,oc (.bool b3),oN,oF,oN,o_,o_,o_,o_,oT,oT,oN] [(1,I a1),(2,I b2),(3,.ra 1 0),(7,I a0),(8,.bool true),(9,I a3)] (ar 4 a7 (cq (Kfi _ _ a9) K5p (ar 2 a7 (ar 4 (nF b1) (cq (Kfi _ _ b4) K5p (ad (nF b1) a7 (nF b1) a7 (ar 4 (neF (nT b5)) (ac a7 (nT b5) a7 tv)))))))) ?_
     obtain rfl := os h
     exact Qcz.mk
    refine rgs hc none [oN,oN,oN,oN,oN,oc (.bool a8),oN,oN,o_,o_,o_,o_,o_,oT,oN,o_,o_,o_,o_,oT,oT,oN] [(1,I a1),(2,I b2),(3,.ra 1 0),(7,I a0),(8,.bool true),(9,I a3)] (ar 4 a7 (cq (Kfi _ _ a9) K5p (ar 2 a7 (ar 5 (neF (nT b1)) (ac a7 (nT b1) a7 (ar 4 nf (ac a7 tt a7 tv))))))) ?_
    obtain rfl := os h
    exact Qcz.mk
   refine rgs hc none [oN,oN,o_,o_,o_,o_,o_,o_,o_,o_,o_,o_,o_,o_,o_,o_,o_,o_,o_,o_,oF,oN] [(1,I a1),(2,I b2),(3,.ra 1 0),(7,I a0),(8,.bool false),(9,I a3)] (ar 9 (neT a7) (ai a7 tv)) ?_
   obtain rfl := os h
   exact Qcz.mk
  clear a6
  refine K81 hc 3 [(1,I a1),(2,I b2),(3,.ra 1 0),(7,I a0),(8,.bool a5),(9,I (wr (a3 + 1)))] ?_
  refine Qcv ?_
  exact (impl_Systemjoin_l0_ih _ _ h c hc)
 refine xt 2 ?_
 refine Qcp ?_
 refine Qcw ?_
 obtain rfl := os h
 exact iv []
def Kfn (c : Ctx) (s0 : K00) (a1 : Int) (b2 : Int) (a0 : Int) : (Unit) ⊕ (Int) → Exit → Q0a → Prop
 | .inl _ => Qcz c .normal (mkS [(1,I a1),(2,I b2),(3,.ra 1 0),(7,I a0)] [(1,K1s s0)])
 | .inr r => Qd8 TIx Tryz.f149 [] (I r)
def Kfo (c : Ctx) : (Unit) ⊕ (Int) → Exit → Q0a → Prop
 | .inl _ => Qcz c (.exit 0) (mkS [] [])
 | .inr r => Qd8 TIx Tryz.f149 [] (I r)
def Kfp (p : K00 × Int × Int × Int) : Option ((Unit) ⊕ (Int)) :=
 match p with
 | (s0,a1,b2,a0) =>
  if (decide (a0 < s0.fSize)) = true then
  ((
   ((
   (Kfg (s0,a1,a0)) >>= fun a2 =>
   if a2 = true then
   (Kfg (s0,b2,a0)) >>= fun a3 =>
   some ((!a3))
   else
   some (true)
   ) : Option (Bool)) >>= fun a4 =>
   if a4 = true then
   some (.inl ())
   else
   (Kfk (s0,a1,b2,a0,true,0)) >>= fun a5 =>
   if a5 = true then
   some (.inr a0)
   else
   some (.inl ())) : Option ((Unit) ⊕ (Int))) >>= fun fl => match fl with
  | .inl () =>
   Kfp (s0,a1,b2,(wr (a0 + 1)))
  | .inr r =>
   some (.inr r)
  else
  some (.inl ())
 partial_fixpoint
def Kfq (p : K00 × Int × Int × Int) (fl : (Unit) ⊕ (Int)) : Prop :=
 match p with
 | (s0,a1,b2,a0) => ∀ c : Ctx,c.nt = 57 → WpL Tryz.prog c (cl (cl (cr (cl (cr K5q))))) (Kfo c fl) (mkS [(1,I a1),(2,I b2),(3,.ra 1 0),(7,I a0)] [(1,K1s s0)])
theorem Kfr : ∀ p r,Kfp p = some r → Kfq p r := by
 refine Kfp.partial_correctness Kfq ?_
 rintro impl_Systemjoin_l1_f impl_Systemjoin_l1_ih ⟨s0,a1,b2,a0⟩ r h
 intro c hc
 refine WpL.step ?_
 refine sN ?_
 refine K82 hc 4 [(1,I a1),(2,I b2),(3,.ra 1 0),(7,I a0),(13,.bool (decide (a0 < s0.fSize)))] ?_
 refine ic h (fun a2 h => ?_) fun a2 h => ?_
 ·refine sk ?_
  refine sN ?_
  obtain ⟨fl,a3,h⟩ := Qdd h
  refine flw (Kfn c s0 a1 b2 a0 fl) ?_ (fun hF => ?_)
  ·replace h := a3
   refine bk 1 ?_
   refine sN ?_
   refine sN ?_
   obtain ⟨a4,a5,h⟩ := Qdd h
   refine Wp.into (x := .normal) (mkS [(1,I a1),(2,I b2),(3,.ra 1 0),(7,I a0),(27,.bool a4)] [(1,K1s s0)]) ?_ ?_
   ·replace h := a5
    obtain ⟨a6,a7,h⟩ := Qdd h
    rcases is h with ⟨a8,h⟩ | ⟨a8,h⟩
    ·obtain ⟨a9,b1,h⟩ := Qdd h
     refine rgs hc none [oN,oN,oN,oc (.bool a6),oN,oN,oN,oN,oN,oc (.bool a9),oN,oF] [(1,I a1),(2,I b2),(3,.ra 1 0),(7,I a0),(27,.bool (!a9))] (cq (Kfi _ _ a7) K5p (ar 4 (nF a8) (cq (Kfi _ _ b1) K5p (ar 2 (nF a8) tv)))) ?_
     obtain rfl := os h
     exact Qcz.mk
    refine rgs hc none [oN,oN,oN,oc (.bool a6),oN,oN,o_,o_,o_,o_,o_,oT] [(1,I a1),(2,I b2),(3,.ra 1 0),(7,I a0),(27,.bool true)] (cq (Kfi _ _ a7) K5p (ar 5 (neF (nT a8)) (ai (nT a8) tv))) ?_
    obtain rfl := os h
    exact Qcz.mk
   clear a5
   refine ic h (fun b3 h => ?_) fun b3 h => ?_
   ·refine xt 1 ?_
    refine Qcp ?_
    refine Qcr ?_
    obtain rfl := os h
    exact iv []
   refine sk ?_
   refine K82 hc 1 [(1,I a1),(2,I b2),(3,.ra 1 0),(7,I a0),(8,.bool true)] ?_
   refine sN ?_
   refine K82 hc 1 [(1,I a1),(2,I b2),(3,.ra 1 0),(7,I a0),(8,.bool true),(9,I 0)] ?_
   refine bk 2 ?_
   obtain ⟨b4,b5,h⟩ := Qdd h
   have hL := Kfm _ _ b5 c hc
   refine lp ?_
   refine WpL.into (e := (.exit 2)) (mkS [(1,I a1),(2,I b2),(3,.ra 1 0),(7,I a0),(8,.bool b4)] [(1,K1s s0)]) hL ?_
   refine Qcr ?_
   refine K82 hc 1 [(1,I a1),(2,I b2),(3,.ra 1 0),(7,I a0),(55,.bool b4)] ?_
   refine ic h (fun b6 h => ?_) fun b6 h => ?_
   ·refine rs0 hc 2 [(6,I a0)] [] ?_
    refine rt ?_
    obtain rfl := os h
    exact re [true]
   refine sk ?_
   obtain rfl := os h
   exact iv []
  rcases fl with ⟨⟩ | r
  ·refine Wp.into (x := .normal) (mkS [(1,I a1),(2,I b2),(3,.ra 1 0),(7,I a0)] [(1,K1s s0)]) hF ?_
   refine K81 hc 3 [(1,I a1),(2,I b2),(3,.ra 1 0),(7,I (wr (a0 + 1)))] ?_
   refine Qcv ?_
   exact (impl_Systemjoin_l1_ih _ _ h c hc)
  refine Wp.mono hF ?_
  rintro _ _ ⟨rfl,hfin⟩
  obtain rfl := os h
  exact ⟨rfl,hfin⟩
 refine xt 0 ?_
 refine Qcp ?_
 refine Qcw ?_
 obtain rfl := os h
 exact iv []
def Kfs (p : K00 × Int × Int) : Option (Int) :=
 match p with
 | (s0,a1,b2) =>
  (Kfp (s0,a1,b2,0)) >>= fun fl => match fl with
  | .inl () =>
   some (-1)
  | .inr r =>
   some r
def Kft (p : K00 × Int × Int) (r : Int) : Prop :=
 match p with
 | (s0,a1,b2) => Q71 Tryz.prog 149 [K1t s0,I a1,I b2] (I r) []
theorem Kfu : ∀ p r,Kfs p = some r → Kft p r := by
 rintro ⟨s0,a1,b2⟩ r h
 unfold Kfs at h
 refine b0 Tryz.f149 K5q 57 [(0,K1t s0),(1,I a1),(2,I b2)] fun c hc => ?_
 refine rs hc none [some (.new 1),oN] [(1,I a1),(2,I b2),(3,.ra 1 0)] [(1,K1s s0)] tv ?_
 refine sN ?_
 refine K82 hc 1 [(1,I a1),(2,I b2),(3,.ra 1 0),(7,I 0)] ?_
 refine bk 0 ?_
 obtain ⟨fl,a0,h⟩ := Qdd h
 have hL := Kfr _ _ a0 c hc
 refine lp ?_
 rcases fl with ⟨⟩ | r
 ·refine WpL.into (e := (.exit 0)) (mkS [] []) hL ?_
  refine Qcr ?_
  refine rs0 hc 1 [(6,I (-1))] [] ?_
  refine rt ?_
  obtain rfl := os h
  exact rq [true]
 refine WpL.mono hL ?_
 rintro _ _ ⟨rfl,hfin⟩
 obtain rfl := os h
 exact ⟨.inl rfl,hfin⟩
def Kfv : Option (List (List Nat)) := rx [[0],[0],[0],[0],[0,1,2,3],[0],[6],[0],[0],[0],[0],[0],[7,9,10,11],[13],[14],[15],[16],[16],[16],[16],[16,17,18,19],[16],[22],[16],[16],[16],[16],[16],[23,25,26,27],[29],[30],[31]]
def Kfw : Option (List (List Nat)) := rx [[0],[0],[0],[0],[0],[0,2,3,4],[6],[0],[0],[0],[0],[7,8,9,10],[0],[0],[0],[7,8,9,10,11,12,13,14],[16],[17],[18],[19],[19],[19],[19],[19,20,21,22],[19],[25],[19],[19],[19],[19],[26,27,28,29],[19],[19],[19],[26,27,28,29,30,31,32,33],[35],[36],[37]]
def Kfx : Option (List (List Nat)) := rx [[0],[0],[0],[3],[4],[5],[6],[6],[6],[6],[6,7,8,9],[6],[6],[6],[6,7,8,9,10,11,12,13],[15],[16],[17],[17],[17],[17],[17,18,19,20],[17],[17],[17],[17,18,19,20,21,22,23,24],[26],[27],[28],[29],[29],[29],[29],[29,30,31,32],[29],[29],[29],[29,30,31,32,33,34,35,36],[38],[39],[40],[41]]
def Kfy : Option (List (List Nat)) := rx [[0],[0],[0,1],[0],[0,1,2,3],[0,1,2,3,4],[6],[7],[8],[9],[9],[9,10],[9],[9,10,11,12],[9,10,11,12,13],[15],[16],[17]]
def Kfz : Option (List (List Nat)) := rh [0,0,0,3,0,0,0,7,8,9,10,10,12,13,14,14,14,17,18,19,20,20,20,23,24,25,26,27,27,27,30,31,32]
def Kg0 (p : K00 × Int × Int × Int) : Option (Bool) :=
 match p with
 | (s0,a1,b2,c3) =>
  ((
  (Kfa (s0,a1,b2)) >>= fun a0 =>
  (Kfa (s0,a0,c3)) >>= fun a2 =>
  (Kfa (s0,b2,c3)) >>= fun a3 =>
  (Kfa (s0,a1,a3)) >>= fun a4 =>
  if (a2 != a4) = true then
  some (true)
  else
  (Kfd (s0,a1,b2)) >>= fun a5 =>
  (Kfd (s0,a5,c3)) >>= fun a6 =>
  (Kfd (s0,b2,c3)) >>= fun a7 =>
  (Kfd (s0,a1,a7)) >>= fun a8 =>
  some ((a6 != a8))
  ) : Option (Bool)) >>= fun a9 =>
  if a9 = true then
  some false
  else
  ((
  (Kfa (s0,b2,c3)) >>= fun b1 =>
  (Kfd (s0,a1,b1)) >>= fun b3 =>
  (Kfd (s0,a1,b2)) >>= fun b4 =>
  (Kfd (s0,a1,c3)) >>= fun b5 =>
  (Kfa (s0,b4,b5)) >>= fun b6 =>
  if (b3 != b6) = true then
  some (true)
  else
  (Kfa (s0,a1,b2)) >>= fun b7 =>
  (Kfd (s0,b7,c3)) >>= fun b8 =>
  (Kfd (s0,a1,c3)) >>= fun b9 =>
  (Kfd (s0,b2,c3)) >>= fun c0 =>
  (Kfa (s0,b9,c0)) >>= fun c1 =>
  some ((b8 != c1))
  ) : Option (Bool)) >>= fun c2 =>
  if c2 = true then
  some false
  else
  ((
  (Kfg (s0,a1,b2)) >>= fun c4 =>
  if c4 = true then
  (Kfg (s0,b2,c3)) >>= fun c5 =>
  if c5 = true then
  (Kfg (s0,a1,c3)) >>= fun c6 =>
  some ((!c6))
  else
  some (false)
  else
  some (false)
  ) : Option (Bool)) >>= fun c7 =>
  if c7 = true then
  some false
  else
  ((
  (Kfg (s0,a1,b2)) >>= fun c8 =>
  if c8 = true then
  (Kfa (s0,a1,c3)) >>= fun c9 =>
  (Kfa (s0,b2,c3)) >>= fun d0 =>
  (Kfg (s0,c9,d0)) >>= fun d1 =>
  if d1 = true then
  (Kfd (s0,a1,c3)) >>= fun d2 =>
  (Kfd (s0,b2,c3)) >>= fun d3 =>
  (Kfg (s0,d2,d3)) >>= fun d4 =>
  if d4 = true then
  (Kfd (s0,c3,a1)) >>= fun d5 =>
  (Kfd (s0,c3,b2)) >>= fun d6 =>
  (Kfg (s0,d5,d6)) >>= fun d7 =>
  some (d7)
  else
  some (false)
  else
  some (false)
  else
  some (true)
  ) : Option (Bool)) >>= fun d8 =>
  some d8
def Kg1 (p : K00 × Int × Int × Int) (r : Bool) : Prop :=
 match p with
 | (s0,a1,b2,c3) => Q71 Tryz.prog 162 [K1t s0,I a1,I b2,I c3] (.bool r) []
theorem Kg2 : ∀ p r,Kg0 p = some r → Kg1 p r := by
 rintro ⟨s0,a1,b2,c3⟩ r h
 unfold Kg0 at h
 refine b0 Tryz.f162 K5s 137 [(0,K1t s0),(1,I a1),(2,I b2),(3,I c3)] fun c hc => ?_
 refine rs hc none [some (.new 1),oN] [(1,I a1),(2,I b2),(3,I c3),(4,.ra 1 0)] [(1,K1s s0)] tv ?_
 refine sN ?_
 refine sN ?_
 obtain ⟨a0,a2,h⟩ := Qdd h
 refine Wp.into (x := .normal) (mkS [(1,I a1),(2,I b2),(3,I c3),(4,.ra 1 0),(40,.bool a0)] [(1,K1s s0)]) ?_ ?_
 ·replace h := a2
  obtain ⟨a3,a4,a5,a6,a7,a8,a9,b1,h⟩ := bq4 h
  rcases is h with ⟨b3,h⟩ | ⟨b3,h⟩
  ·refine rgs hc Kfv [oN,oN,oN,oN,oc (I a3),oN,oc (I a5),oN,oN,oN,oN,oN,oc (I a7),oc (I a9),oN,oN,o_,o_,o_,o_,o_,o_,o_,o_,o_,o_,o_,o_,o_,o_,o_,oT] [(1,I a1),(2,I b2),(3,I c3),(4,.ra 1 0),(40,.bool true)] (cq (Kfc _ _ a4) K5m (cq (Kfc _ _ a6) K5m (cq (Kfc _ _ a8) K5m (cq (Kfc _ _ b1) K5m (ar 15 (neF b3) (ai b3 tv)))))) ?_
   obtain rfl := os h
   exact Qcz.mk
  obtain ⟨b4,b5,b6,b7,b8,b9,c0,c1,h⟩ := bq4 h
  refine rgs hc Kfv [oN,oN,oN,oN,oc (I a3),oN,oc (I a5),oN,oN,oN,oN,oN,oc (I a7),oc (I a9),oN,oN,oN,oN,oN,oN,oc (I b4),oN,oc (I b6),oN,oN,oN,oN,oN,oc (I b8),oc (I c0),oN,oF] [(1,I a1),(2,I b2),(3,I c3),(4,.ra 1 0),(40,.bool (b6 != c0))] (cq (Kfc _ _ a4) K5m (cq (Kfc _ _ a6) K5m (cq (Kfc _ _ a8) K5m (cq (Kfc _ _ b1) K5m (ar 5 b3 (cq (Kff _ _ b5) K5o (ar 2 b3 (cq (Kff _ _ b7) K5o (ar 6 b3 (cq (Kff _ _ b9) K5o (ai b3 (cq (Kff _ _ c1) K5o (ar 2 b3 tv))))))))))))) ?_
  obtain rfl := os h
  exact Qcz.mk
 clear a2
 refine ic h (fun c2 h => ?_) fun c2 h => ?_
 ·refine rs0 hc 1 [(8,.bool false)] [] ?_
  refine rt ?_
  obtain rfl := os h
  exact rq [true]
 refine sk ?_
 refine sN ?_
 refine sN ?_
 obtain ⟨c4,c5,h⟩ := Qdd h
 refine Wp.into (x := .normal) (mkS [(1,I a1),(2,I b2),(3,I c3),(4,.ra 1 0),(78,.bool c4)] [(1,K1s s0)]) ?_ ?_
 ·replace h := c5
  obtain ⟨c6,c7,c8,c9,d0,d1,d2,d3,h⟩ := bq4 h
  obtain ⟨d4,d5,h⟩ := Qdd h
  rcases is h with ⟨d6,h⟩ | ⟨d6,h⟩
  ·refine rgs hc Kfw [oN,oN,oN,oN,oN,oc (I c6),oc (I c8),oN,oN,oN,oN,oc (I d0),oN,oN,oN,oc (I d2),oc (I d4),oN,oN,o_,o_,o_,o_,o_,o_,o_,o_,o_,o_,o_,o_,o_,o_,o_,o_,o_,o_,oT] [(1,I a1),(2,I b2),(3,I c3),(4,.ra 1 0),(78,.bool true)] (cq (Kfc _ _ c7) K5m (cq (Kff _ _ c9) K5o (cq (Kff _ _ d1) K5o (cq (Kff _ _ d3) K5o (cq (Kfc _ _ d5) K5m (ar 18 (neF d6) (ai d6 tv))))))) ?_
   obtain rfl := os h
   exact Qcz.mk
  obtain ⟨d7,d8,d9,e0,e1,e2,e3,e4,h⟩ := bq4 h
  obtain ⟨e5,e6,h⟩ := Qdd h
  refine rgs hc Kfw [oN,oN,oN,oN,oN,oc (I c6),oc (I c8),oN,oN,oN,oN,oc (I d0),oN,oN,oN,oc (I d2),oc (I d4),oN,oN,oN,oN,oN,oN,oc (I d7),oN,oc (I d9),oN,oN,oN,oN,oc (I e1),oN,oN,oN,oc (I e3),oc (I e5),oN,oF] [(1,I a1),(2,I b2),(3,I c3),(4,.ra 1 0),(78,.bool (d9 != e5))] (cq (Kfc _ _ c7) K5m (cq (Kff _ _ c9) K5o (cq (Kff _ _ d1) K5o (cq (Kff _ _ d3) K5o (cq (Kfc _ _ d5) K5m (ar 5 d6 (cq (Kfc _ _ d8) K5m (ar 2 d6 (cq (Kff _ _ e0) K5o (ar 5 d6 (cq (Kff _ _ e2) K5o (ar 4 d6 (cq (Kff _ _ e4) K5o (ai d6 (cq (Kfc _ _ e6) K5m (ar 2 d6 tv)))))))))))))))) ?_
  obtain rfl := os h
  exact Qcz.mk
 clear c5
 refine ic h (fun e7 h => ?_) fun e7 h => ?_
 ·refine rs0 hc 1 [(8,.bool false)] [] ?_
  refine rt ?_
  obtain rfl := os h
  exact rq [true]
 refine sk ?_
 refine sN ?_
 refine sN ?_
 obtain ⟨e8,e9,h⟩ := Qdd h
 refine Wp.into (x := .normal) (mkS [(1,I a1),(2,I b2),(3,I c3),(4,.ra 1 0),(95,.bool e8)] [(1,K1s s0)]) ?_ ?_
 ·replace h := e9
  obtain ⟨f0,f1,h⟩ := Qdd h
  rcases is h with ⟨f2,h⟩ | ⟨f2,h⟩
  ·obtain ⟨f3,f4,h⟩ := Qdd h
   rcases is h with ⟨f5,h⟩ | ⟨f5,h⟩
   ·obtain ⟨f6,f7,h⟩ := Qdd h
    refine rgs hc none [oN,oN,oN,oc (.bool f0),oN,oN,oN,oN,oc (.bool f3),oT,oN,oN,oN,oN,oc (.bool f6),oN,oT] [(1,I a1),(2,I b2),(3,I c3),(4,.ra 1 0),(95,.bool (!f6))] (cq (Kfi _ _ f1) K5p (ar 4 f2 (cq (Kfi _ _ f4) K5p (ai f2 (ar 4 f5 (cq (Kfi _ _ f7) K5p (ar 2 f5 tv))))))) ?_
    obtain rfl := os h
    exact Qcz.mk
   refine rgs hc none [oN,oN,oN,oc (.bool f0),oN,oN,oN,oN,oc (.bool f3),oT,oN,o_,o_,o_,o_,o_,oF] [(1,I a1),(2,I b2),(3,I c3),(4,.ra 1 0),(95,.bool false)] (cq (Kfi _ _ f1) K5p (ar 4 f2 (cq (Kfi _ _ f4) K5p (ai f2 (ar 5 (neT f5) (ai f5 tv)))))) ?_
   obtain rfl := os h
   exact Qcz.mk
  refine rgs hc none [oN,oN,oN,oc (.bool f0),oN,o_,o_,o_,o_,oF,oN,o_,o_,o_,o_,o_,oF] [(1,I a1),(2,I b2),(3,I c3),(4,.ra 1 0),(95,.bool false)] (cq (Kfi _ _ f1) K5p (ar 4 (neT f2) (ai f2 (ar 5 (neT (rfl : false = false)) (ai (rfl : false = false) tv))))) ?_
  obtain rfl := os h
  exact Qcz.mk
 clear e9
 refine ic h (fun f8 h => ?_) fun f8 h => ?_
 ·refine rs0 hc 1 [(8,.bool false)] [] ?_
  refine rt ?_
  obtain rfl := os h
  exact rq [true]
 refine sk ?_
 refine sN ?_
 obtain ⟨f9,g0,h⟩ := Qdd h
 refine Wp.into (x := .normal) (mkS [(8,.bool f9)] []) ?_ ?_
 ·replace h := g0
  obtain ⟨g1,g2,h⟩ := Qdd h
  rcases is h with ⟨g3,h⟩ | ⟨g3,h⟩
  ·obtain ⟨g4,g5,g6,g7,g8,g9,h⟩ := bq3 h
   rcases is h with ⟨i0,h⟩ | ⟨i0,h⟩
   ·obtain ⟨i1,i2,i3,i4,i5,i6,h⟩ := bq3 h
    rcases is h with ⟨i7,h⟩ | ⟨i7,h⟩
    ·obtain ⟨i8,i9,j0,j8,j9,k0,h⟩ := bq3 h
     refine rg hc Kfx [oN,oN,oN,oc (.bool g1),oN,oN,oN,oN,oN,oN,oc (I g4),oN,oN,oN,oc (I g6),oc (.bool g8),oN,oN,oN,oN,oN,oc (I i1),oN,oN,oN,oc (I i3),oc (.bool i5),oT,oN,oN,oN,oN,oN,oc (I i8),oN,oN,oN,oc (I j0),oc (.bool j9),oT,oF,oN] [(8,.bool j9)] [] (cq (Kfi _ _ g2) K5p (ar 5 (nF g3) (cq (Kfc _ _ g5) K5m (ar 4 (nF g3) (cq (Kfc _ _ g7) K5m (ai (nF g3) (cq (Kfi _ _ g9) K5p (ai (nF g3) (ar 5 i0 (cq (Kff _ _ i2) K5o (ar 4 i0 (cq (Kff _ _ i4) K5o (ai i0 (cq (Kfi _ _ i6) K5p (ac (nF g3) i0 (nF g3) (ar 5 i7 (cq (Kff _ _ i9) K5o (ar 4 i7 (cq (Kff _ _ j8) K5o (ai i7 (cq (Kfi _ _ k0) K5p (ac (nF g3) i7 (nF g3) tv)))))))))))))))))))))) ?_
     obtain rfl := os h
     exact Qcz.mk
    refine rg hc Kfx [oN,oN,oN,oc (.bool g1),oN,oN,oN,oN,oN,oN,oc (I g4),oN,oN,oN,oc (I g6),oc (.bool g8),oN,oN,oN,oN,oN,oc (I i1),oN,oN,oN,oc (I i3),oc (.bool i5),oT,oN,o_,o_,o_,o_,o_,o_,o_,o_,o_,o_,oF,oF,oN] [(8,.bool false)] [] (cq (Kfi _ _ g2) K5p (ar 5 (nF g3) (cq (Kfc _ _ g5) K5m (ar 4 (nF g3) (cq (Kfc _ _ g7) K5m (ai (nF g3) (cq (Kfi _ _ g9) K5p (ai (nF g3) (ar 5 i0 (cq (Kff _ _ i2) K5o (ar 4 i0 (cq (Kff _ _ i4) K5o (ai i0 (cq (Kfi _ _ i6) K5p (ac (nF g3) i0 (nF g3) (ar 10 (neT i7) (ac (nF g3) i7 (nF g3) tv))))))))))))))))) ?_
    obtain rfl := os h
    exact Qcz.mk
   refine rg hc Kfx [oN,oN,oN,oc (.bool g1),oN,oN,oN,oN,oN,oN,oc (I g4),oN,oN,oN,oc (I g6),oc (.bool g8),oN,o_,o_,o_,o_,o_,o_,o_,o_,o_,o_,oF,oN,o_,o_,o_,o_,o_,o_,o_,o_,o_,o_,oF,oF,oN] [(8,.bool false)] [] (cq (Kfi _ _ g2) K5p (ar 5 (nF g3) (cq (Kfc _ _ g5) K5m (ar 4 (nF g3) (cq (Kfc _ _ g7) K5m (ai (nF g3) (cq (Kfi _ _ g9) K5p (ai (nF g3) (ar 10 (neT i0) (ac (nF g3) i0 (nF g3) (ar 10 (neT (rfl : false = false)) (ac (nF g3) (rfl : false = false) (nF g3) tv)))))))))))) ?_
   obtain rfl := os h
   exact Qcz.mk
  refine rg hc Kfx [oN,oN,oN,oc (.bool g1),oN,oN,o_,o_,o_,o_,o_,o_,o_,o_,o_,o_,o_,o_,o_,o_,o_,o_,o_,o_,o_,o_,o_,o_,o_,o_,o_,o_,o_,o_,o_,o_,o_,o_,o_,o_,oT,oN] [(8,.bool true)] [] (cq (Kfi _ _ g2) K5p (ar 14 (neF (nT g3)) (ai (nT g3) tv))) ?_
  obtain rfl := os h
  exact Qcz.mk
 clear g0
 refine rt ?_
 obtain rfl := os h
 exact rq [true]
def Kg3 (c : Ctx) (s0 : K00) : (Unit) ⊕ (Bool) → Exit → Q0a → Prop
 | .inl _ => Qcz c (.exit 0) (mkS [(1,.ra 1 0),(3,I s0.fSize)] [(1,K1s s0)])
 | .inr r => Qd8 TIx Tryz.f79 [] (.bool r)
def Kg4 (p : K00 × Int) : Option ((Unit) ⊕ (Bool)) :=
 match p with
 | (s0,a0) =>
  if (decide (a0 < (s0.fPlus.length : Int))) = true then
  ((
  (idx s0.fPlus a0) >>= fun a1 =>
  (Kek (s0,a1)) >>= fun a2 =>
  if a2 = true then
  (idx s0.fTimes a0) >>= fun a3 =>
  (Kek (s0,a3)) >>= fun a4 =>
  some ((!a4))
  else
  some (true)
  ) : Option (Bool)) >>= fun a5 =>
  if a5 = true then
  some (.inr false)
  else
  Kg4 (s0,(wr (a0 + 1)))
  else
  some (.inl ())
 partial_fixpoint
def Kg5 (p : K00 × Int) (fl : (Unit) ⊕ (Bool)) : Prop :=
 match p with
 | (s0,a0) => ∀ c : Ctx,c.nt = 157 → WpL Tryz.prog c (cl (cl (cr (cl (cr (cr (cr B79))))))) (Kg3 c s0 fl) (mkS [(1,.ra 1 0),(3,I s0.fSize),(42,I (s0.fPlus.length : Int)),(43,I a0)] [(1,K1s s0)])
theorem Kg6 : ∀ p r,Kg4 p = some r → Kg5 p r := by
 refine Kg4.partial_correctness Kg5 ?_
 rintro impl_IsSystem_l0_f impl_IsSystem_l0_ih ⟨s0,a0⟩ r h
 intro c hc
 refine WpL.step ?_
 refine K82 hc 1 [(1,.ra 1 0),(3,I s0.fSize),(42,I (s0.fPlus.length : Int)),(43,I a0),(44,.bool (decide (a0 < (s0.fPlus.length : Int))))] ?_
 refine sN ?_
 refine ic h (fun a1 h => ?_) fun a1 h => ?_
 ·refine sk ?_
  refine sN ?_
  refine bk 1 ?_
  refine K82 hc 2 [(1,.ra 1 0),(3,I s0.fSize),(4,I a0),(42,I (s0.fPlus.length : Int)),(43,I a0)] ?_
  refine sN ?_
  obtain ⟨a2,a3,h⟩ := Qdd h
  refine Wp.into (x := .normal) (mkS [(1,.ra 1 0),(3,I s0.fSize),(42,I (s0.fPlus.length : Int)),(43,I a0),(63,.bool a2)] [(1,K1s s0)]) ?_ ?_
  ·replace h := a3
   obtain ⟨a4,a5,a6,a7,h⟩ := bq2 h
   rcases is h with ⟨a8,h⟩ | ⟨a8,h⟩
   ·obtain ⟨a9,b1,b2,b3,h⟩ := bq2 h
    refine rgs hc Kfy [oN,oN,oN,oN,some (.el (I a4)),oN,oc (.bool a6),oN,oN,oN,oN,oN,oN,some (.el (I a9)),oN,oc (.bool b2),oN,oF] [(1,.ra 1 0),(3,I s0.fSize),(42,I (s0.fPlus.length : Int)),(43,I a0),(63,.bool (!b2))] (ai (ix a5) (cq (Kem _ _ a7) K5c (ar 5 (nF a8) (ai (ix b1) (ar 2 (nF a8) (cq (Kem _ _ b3) K5c (ar 2 (nF a8) tv))))))) ?_
    obtain rfl := os h
    exact Qcz.mk
   refine rgs hc Kfy [oN,oN,oN,oN,some (.el (I a4)),oN,oc (.bool a6),oN,oN,o_,o_,o_,o_,o_,o_,o_,o_,oT] [(1,.ra 1 0),(3,I s0.fSize),(42,I (s0.fPlus.length : Int)),(43,I a0),(63,.bool true)] (ai (ix a5) (cq (Kem _ _ a7) K5c (ar 8 (neF (nT a8)) (ai (nT a8) tv)))) ?_
   obtain rfl := os h
   exact Qcz.mk
  clear a3
  refine ic h (fun b4 h => ?_) fun b4 h => ?_
  ·refine rs0 hc 1 [(2,.bool false)] [] ?_
   refine rt ?_
   obtain rfl := os h
   exact re [true]
  refine sk ?_
  refine K81 hc 2 [(1,.ra 1 0),(3,I s0.fSize),(42,I (s0.fPlus.length : Int)),(43,I (wr (a0 + 1)))] ?_
  refine Qcv ?_
  exact (impl_IsSystem_l0_ih _ _ h c hc)
 refine xt 0 ?_
 refine Qcp ?_
 refine Qcw ?_
 obtain rfl := os h
 exact iv []
def Kg7 (c : Ctx) (s0 : K00) (a0 : Int) (a1 : Int) : (Unit) ⊕ (Bool) → Exit → Q0a → Prop
 | .inl _ => Qcz c (.exit 6) (mkS [(1,.ra 1 0),(3,I s0.fSize),(5,I a0),(6,I a1)] [(1,K1s s0)])
 | .inr r => Qd8 TIx Tryz.f79 [] (.bool r)
def Kg8 (p : K00 × Int × Int × Int) : Option ((Unit) ⊕ (Bool)) :=
 match p with
 | (s0,a0,a1,a2) =>
  if (decide (a2 < s0.fSize)) = true then
  (Kg0 (s0,a0,a1,a2)) >>= fun a3 =>
  if a3 = true then
  Kg8 (s0,a0,a1,(wr (a2 + 1)))
  else
  some (.inr false)
  else
  some (.inl ())
 partial_fixpoint
def Kg9 (p : K00 × Int × Int × Int) (fl : (Unit) ⊕ (Bool)) : Prop :=
 match p with
 | (s0,a0,a1,a2) => ∀ c : Ctx,c.nt = 157 → WpL Tryz.prog c (cl (cl (cr (cr (cl (cl (cr (cl (cl (cr (cr (cl (cl (cr (cl (cl (cr (cl (cr (cr (cr (cr B79)))))))))))))))))))))) (Kg7 c s0 a0 a1 fl) (mkS [(1,.ra 1 0),(3,I s0.fSize),(5,I a0),(6,I a1),(7,I a2)] [(1,K1s s0)])
theorem Kga : ∀ p r,Kg8 p = some r → Kg9 p r := by
 refine Kg8.partial_correctness Kg9 ?_
 rintro impl_IsSystem_l1_f impl_IsSystem_l1_ih ⟨s0,a0,a1,a2⟩ r h
 intro c hc
 refine WpL.step ?_
 refine sN ?_
 refine K82 hc 3 [(1,.ra 1 0),(3,I s0.fSize),(5,I a0),(6,I a1),(7,I a2),(148,.bool (decide (a2 < s0.fSize)))] ?_
 refine ic h (fun a3 h => ?_) fun a3 h => ?_
 ·refine sk ?_
  refine sN ?_
  refine bk 7 ?_
  obtain ⟨a4,a5,h⟩ := Qdd h
  refine rss hc none [oN,oN,oN,oN,oc (.bool a4),oN] [(1,.ra 1 0),(3,I s0.fSize),(5,I a0),(6,I a1),(7,I a2),(156,.bool (!a4))] (cq (Kg2 _ _ a5) K5t tv) ?_
  rcases is h with ⟨a6,h⟩ | ⟨a6,h⟩
  ·refine cF (!a4) (nF a6) ?_
   refine sk ?_
   refine K81 hc 3 [(1,.ra 1 0),(3,I s0.fSize),(5,I a0),(6,I a1),(7,I (wr (a2 + 1)))] ?_
   refine Qcv ?_
   exact (impl_IsSystem_l1_ih _ _ h c hc)
  refine cT (!a4) (nT a6) ?_
  refine rs0 hc 1 [(2,.bool false)] [] ?_
  refine rt ?_
  obtain rfl := os h
  exact re [true]
 refine xt 6 ?_
 refine Qcp ?_
 refine Qcw ?_
 obtain rfl := os h
 exact iv []
def Kgb (c : Ctx) (s0 : K00) (a0 : Int) : (Unit) ⊕ (Bool) → Exit → Q0a → Prop
 | .inl _ => Qcz c (.exit 4) (mkS [(1,.ra 1 0),(3,I s0.fSize),(5,I a0)] [(1,K1s s0)])
 | .inr r => Qd8 TIx Tryz.f79 [] (.bool r)
def Kgc (p : K00 × Int × Int) : Option ((Unit) ⊕ (Bool)) :=
 match p with
 | (s0,a0,a1) =>
  if (decide (a1 < s0.fSize)) = true then
  ((
  (Kfa (s0,a0,a1)) >>= fun a2 =>
  (Kfa (s0,a1,a0)) >>= fun a3 =>
  if (a2 != a3) = true then
   some (true)
  else
   if (a0 != a1) = true then
   (Kfg (s0,a0,a1)) >>= fun a4 =>
   if a4 = true then
   (Kfg (s0,a1,a0)) >>= fun a5 =>
   if a5 = true then
   some (true)
   else
   (Kfs (s0,a0,a1)) >>= fun a6 =>
   some ((decide (a6 < 0)))
   else
   (Kfs (s0,a0,a1)) >>= fun a6 =>
   some ((decide (a6 < 0)))
   else
   (Kfs (s0,a0,a1)) >>= fun a6 =>
   some ((decide (a6 < 0)))
  ) : Option (Bool)) >>= fun a7 =>
  if a7 = true then
  some (.inr false)
  else
  (Kg8 (s0,a0,a1,0)) >>= fun fl => match fl with
  | .inl () =>
   Kgc (s0,a0,(wr (a1 + 1)))
  | .inr r =>
   some (.inr r)
  else
  some (.inl ())
 partial_fixpoint
def Kgd (p : K00 × Int × Int) (fl : (Unit) ⊕ (Bool)) : Prop :=
 match p with
 | (s0,a0,a1) => ∀ c : Ctx,c.nt = 157 → WpL Tryz.prog c (cl (cl (cr (cr (cl (cl (cr (cl (cl (cr (cl (cr (cr (cr (cr B79))))))))))))))) (Kgb c s0 a0 fl) (mkS [(1,.ra 1 0),(3,I s0.fSize),(5,I a0),(6,I a1)] [(1,K1s s0)])
theorem Kge : ∀ p r,Kgc p = some r → Kgd p r := by
 refine Kgc.partial_correctness Kgd ?_
 rintro impl_IsSystem_l2_f impl_IsSystem_l2_ih ⟨s0,a0,a1⟩ r h
 intro c hc
 refine WpL.step ?_
 refine sN ?_
 refine K82 hc 3 [(1,.ra 1 0),(3,I s0.fSize),(5,I a0),(6,I a1),(110,.bool (decide (a1 < s0.fSize)))] ?_
 refine ic h (fun a2 h => ?_) fun a2 h => ?_
 ·refine sk ?_
  refine sN ?_
  refine bk 5 ?_
  refine sN ?_
  refine sN ?_
  obtain ⟨a3,a4,h⟩ := Qdd h
  refine Wp.into (x := .normal) (mkS [(1,.ra 1 0),(3,I s0.fSize),(5,I a0),(6,I a1),(145,.bool a3)] [(1,K1s s0)]) ?_ ?_
  ·replace h := a4
   obtain ⟨a5,a6,a7,a8,h⟩ := bq2 h
   rcases is h with ⟨a9,h⟩ | ⟨a9,h⟩
   ·refine rgs hc Kfz [oN,oN,oN,oc (I a5),oN,oN,oN,oc (I a7),oN,oN,o_,o_,o_,o_,o_,o_,o_,o_,o_,o_,o_,o_,o_,o_,o_,oT,oN,o_,o_,o_,o_,o_,oT] [(1,.ra 1 0),(3,I s0.fSize),(5,I a0),(6,I a1),(145,.bool true)] (cq (Kfc _ _ a6) K5m (cq (Kfc _ _ a8) K5m (ar 7 (neF a9) (ai a9 (ar 5 nf (ai tt tv)))))) ?_
    obtain rfl := os h
    exact Qcz.mk
   rcases is h with ⟨b1,h⟩ | ⟨b1,h⟩
   ·obtain ⟨b2,b3,h⟩ := Qdd h
    rcases is h with ⟨b4,h⟩ | ⟨b4,h⟩
    ·obtain ⟨b5,b6,h⟩ := Qdd h
     rcases is h with ⟨b7,h⟩ | ⟨b7,h⟩
     ·refine rgs hc Kfz [oN,oN,oN,oc (I a5),oN,oN,oN,oc (I a7),oN,oN,oN,oN,oN,oN,oN,oN,oN,oc (.bool b2),oT,oN,oN,oN,oN,oc (.bool b5),oT,oF,oN,o_,o_,o_,o_,o_,oT] [(1,.ra 1 0),(3,I s0.fSize),(5,I a0),(6,I a1),(145,.bool true)] (cq (Kfc _ _ a6) K5m (cq (Kfc _ _ a8) K5m (ar 4 a9 (ar 4 b1 (cq (Kfi _ _ b3) K5p (ac a9 b1 a9 (ar 4 b4 (cq (Kfi _ _ b6) K5p (ac a9 b4 a9 (ar 5 (neF b7) (ai b7 tv))))))))))) ?_
      obtain rfl := os h
      exact Qcz.mk
     obtain ⟨b8,b9,h⟩ := Qdd h
     refine rgs hc Kfz [oN,oN,oN,oc (I a5),oN,oN,oN,oc (I a7),oN,oN,oN,oN,oN,oN,oN,oN,oN,oc (.bool b2),oT,oN,oN,oN,oN,oc (.bool b5),oT,oF,oN,oN,oN,oN,oc (I b8),oN,oF] [(1,.ra 1 0),(3,I s0.fSize),(5,I a0),(6,I a1),(145,.bool (decide (b8 < 0)))] (cq (Kfc _ _ a6) K5m (cq (Kfc _ _ a8) K5m (ar 4 a9 (ar 4 b1 (cq (Kfi _ _ b3) K5p (ac a9 b1 a9 (ar 4 b4 (cq (Kfi _ _ b6) K5p (ac a9 b4 a9 (ar 4 b7 (cq (Kfu _ _ b9) K5r (ar 2 b7 tv)))))))))))) ?_
     obtain rfl := os h
     exact Qcz.mk
    obtain ⟨b8,b9,h⟩ := Qdd h
    refine rgs hc Kfz [oN,oN,oN,oc (I a5),oN,oN,oN,oc (I a7),oN,oN,oN,oN,oN,oN,oN,oN,oN,oc (.bool b2),oT,oN,o_,o_,o_,o_,oF,oF,oN,oN,oN,oN,oc (I b8),oN,oF] [(1,.ra 1 0),(3,I s0.fSize),(5,I a0),(6,I a1),(145,.bool (decide (b8 < 0)))] (cq (Kfc _ _ a6) K5m (cq (Kfc _ _ a8) K5m (ar 4 a9 (ar 4 b1 (cq (Kfi _ _ b3) K5p (ac a9 b1 a9 (ar 4 (neT b4) (ac a9 b4 a9 (ar 4 (rfl : false = false) (cq (Kfu _ _ b9) K5r (ar 2 (rfl : false = false) tv))))))))))) ?_
    obtain rfl := os h
    exact Qcz.mk
   obtain ⟨b8,b9,h⟩ := Qdd h
   refine rgs hc Kfz [oN,oN,oN,oc (I a5),oN,oN,oN,oc (I a7),oN,oN,oN,oN,oN,oN,o_,o_,o_,o_,oF,oN,o_,o_,o_,o_,oF,oF,oN,oN,oN,oN,oc (I b8),oN,oF] [(1,.ra 1 0),(3,I s0.fSize),(5,I a0),(6,I a1),(145,.bool (decide (b8 < 0)))] (cq (Kfc _ _ a6) K5m (cq (Kfc _ _ a8) K5m (ar 4 a9 (ar 4 (neT b1) (ac a9 b1 a9 (ar 4 (neT (rfl : false = false)) (ac a9 (rfl : false = false) a9 (ar 4 (rfl : false = false) (cq (Kfu _ _ b9) K5r (ar 2 (rfl : false = false) tv)))))))))) ?_
   obtain rfl := os h
   exact Qcz.mk
  clear a4
  refine ic h (fun c0 h => ?_) fun c0 h => ?_
  ·refine rs0 hc 1 [(2,.bool false)] [] ?_
   refine rt ?_
   obtain rfl := os h
   exact re [true]
  refine sk ?_
  refine K82 hc 1 [(1,.ra 1 0),(3,I s0.fSize),(5,I a0),(6,I a1),(7,I 0)] ?_
  refine bk 6 ?_
  obtain ⟨fl,c1,h⟩ := Qdd h
  have hL := Kga _ _ c1 c hc
  refine lp ?_
  rcases fl with ⟨⟩ | r
  ·refine WpL.into (e := (.exit 6)) (mkS [(1,.ra 1 0),(3,I s0.fSize),(5,I a0),(6,I a1)] [(1,K1s s0)]) hL ?_
   refine Qcr ?_
   refine K81 hc 3 [(1,.ra 1 0),(3,I s0.fSize),(5,I a0),(6,I (wr (a1 + 1)))] ?_
   refine Qcv ?_
   exact (impl_IsSystem_l2_ih _ _ h c hc)
  refine WpL.mono hL ?_
  rintro _ _ ⟨rfl,hfin⟩
  obtain rfl := os h
  exact ⟨rfl,hfin⟩
 refine xt 4 ?_
 refine Qcp ?_
 refine Qcw ?_
 obtain rfl := os h
 exact iv []
def Kgf (c : Ctx) : (Unit) ⊕ (Bool) → Exit → Q0a → Prop
 | .inl _ => Qcz c (.exit 2) (mkS [] [])
 | .inr r => Qd8 TIx Tryz.f79 [] (.bool r)
def Kgg (p : K00 × Int) : Option ((Unit) ⊕ (Bool)) :=
 match p with
 | (s0,a0) =>
  if (decide (a0 < s0.fSize)) = true then
  ((
  (Kfa (s0,0,a0)) >>= fun a1 =>
  if (a1 != a0) = true then
   some (true)
  else
   (Kfd (s0,1,a0)) >>= fun a2 =>
   if (a2 != a0) = true then
   some (true)
   else
   (Kfd (s0,a0,1)) >>= fun a3 =>
   if (a3 != a0) = true then
   some (true)
   else
   (Kfd (s0,0,a0)) >>= fun a4 =>
   if (a4 != 0) = true then
   some (true)
   else
   (Kfd (s0,a0,0)) >>= fun a5 =>
   if (a5 != 0) = true then
   some (true)
   else
   (Kfg (s0,a0,a0)) >>= fun a6 =>
   some ((!a6))
  ) : Option (Bool)) >>= fun a7 =>
  if a7 = true then
  some (.inr false)
  else
  (Kgc (s0,a0,0)) >>= fun fl => match fl with
  | .inl () =>
   Kgg (s0,(wr (a0 + 1)))
  | .inr r =>
   some (.inr r)
  else
  some (.inl ())
 partial_fixpoint
def Kgh (p : K00 × Int) (fl : (Unit) ⊕ (Bool)) : Prop :=
 match p with
 | (s0,a0) => ∀ c : Ctx,c.nt = 157 → WpL Tryz.prog c (cl (cl (cr (cl (cr (cr (cr (cr B79)))))))) (Kgf c fl) (mkS [(1,.ra 1 0),(3,I s0.fSize),(5,I a0)] [(1,K1s s0)])
theorem Kgi : ∀ p r,Kgg p = some r → Kgh p r := by
 refine Kgg.partial_correctness Kgh ?_
 rintro impl_IsSystem_l3_f impl_IsSystem_l3_ih ⟨s0,a0⟩ r h
 intro c hc
 refine WpL.step ?_
 refine sN ?_
 refine K82 hc 3 [(1,.ra 1 0),(3,I s0.fSize),(5,I a0),(67,.bool (decide (a0 < s0.fSize)))] ?_
 refine ic h (fun a1 h => ?_) fun a1 h => ?_
 ·refine sk ?_
  refine sN ?_
  refine bk 3 ?_
  refine sN ?_
  refine sN ?_
  obtain ⟨a2,a3,h⟩ := Qdd h
  refine Wp.into (x := .normal) (mkS [(1,.ra 1 0),(3,I s0.fSize),(5,I a0),(107,.bool a2)] [(1,K1s s0)]) ?_ ?_
  ·replace h := a3
   obtain ⟨a4,a5,h⟩ := Qdd h
   rcases is h with ⟨a6,h⟩ | ⟨a6,h⟩
   ·refine rgs hc none [oN,oN,oc (I a4),oN,oN,oN,o_,o_,o_,o_,o_,oT,oN,o_,o_,o_,o_,o_,oT,oN,o_,o_,o_,o_,oT,oN,o_,o_,o_,o_,oT,oN,o_,o_,o_,o_,o_,oT] [(1,.ra 1 0),(3,I s0.fSize),(5,I a0),(107,.bool true)] (cq (Kfc _ _ a5) K5m (ar 5 (neF a6) (ai a6 (ar 5 nf (ai tt (ar 4 nf (ai tt (ar 4 nf (ai tt (ar 5 nf (ai tt tv))))))))))) ?_
    obtain rfl := os h
    exact Qcz.mk
   obtain ⟨a7,a8,h⟩ := Qdd h
   rcases is h with ⟨a9,h⟩ | ⟨a9,h⟩
   ·refine rgs hc none [oN,oN,oc (I a4),oN,oN,oN,oN,oN,oc (I a7),oN,oN,oF,oN,o_,o_,o_,o_,o_,oT,oN,o_,o_,o_,o_,oT,oN,o_,o_,o_,o_,oT,oN,o_,o_,o_,o_,o_,oT] [(1,.ra 1 0),(3,I s0.fSize),(5,I a0),(107,.bool true)] (cq (Kfc _ _ a5) K5m (ar 3 a6 (cq (Kff _ _ a8) K5o (ar 3 a6 (ar 5 (neF a9) (ai a9 (ar 4 nf (ai tt (ar 4 nf (ai tt (ar 5 nf (ai tt tv)))))))))))) ?_
    obtain rfl := os h
    exact Qcz.mk
   obtain ⟨b1,b2,h⟩ := Qdd h
   rcases is h with ⟨b3,h⟩ | ⟨b3,h⟩
   ·refine rgs hc none [oN,oN,oc (I a4),oN,oN,oN,oN,oN,oc (I a7),oN,oN,oF,oN,oN,oN,oc (I b1),oN,oN,oF,oN,o_,o_,o_,o_,oT,oN,o_,o_,o_,o_,oT,oN,o_,o_,o_,o_,o_,oT] [(1,.ra 1 0),(3,I s0.fSize),(5,I a0),(107,.bool true)] (cq (Kfc _ _ a5) K5m (ar 3 a6 (cq (Kff _ _ a8) K5o (ar 3 a6 (ar 3 a9 (cq (Kff _ _ b2) K5o (ar 3 a9 (ar 4 (neF b3) (ai b3 (ar 4 nf (ai tt (ar 5 nf (ai tt tv))))))))))))) ?_
    obtain rfl := os h
    exact Qcz.mk
   obtain ⟨b4,b5,h⟩ := Qdd h
   rcases is h with ⟨b6,h⟩ | ⟨b6,h⟩
   ·refine rgs hc none [oN,oN,oc (I a4),oN,oN,oN,oN,oN,oc (I a7),oN,oN,oF,oN,oN,oN,oc (I b1),oN,oN,oF,oN,oN,oN,oc (I b4),oN,oF,oN,o_,o_,o_,o_,oT,oN,o_,o_,o_,o_,o_,oT] [(1,.ra 1 0),(3,I s0.fSize),(5,I a0),(107,.bool true)] (cq (Kfc _ _ a5) K5m (ar 3 a6 (cq (Kff _ _ a8) K5o (ar 3 a6 (ar 3 a9 (cq (Kff _ _ b2) K5o (ar 3 a9 (ar 3 b3 (cq (Kff _ _ b5) K5o (ar 2 b3 (ar 4 (neF b6) (ai b6 (ar 5 nf (ai tt tv)))))))))))))) ?_
    obtain rfl := os h
    exact Qcz.mk
   obtain ⟨b7,b8,h⟩ := Qdd h
   rcases is h with ⟨b9,h⟩ | ⟨b9,h⟩
   ·refine rgs hc none [oN,oN,oc (I a4),oN,oN,oN,oN,oN,oc (I a7),oN,oN,oF,oN,oN,oN,oc (I b1),oN,oN,oF,oN,oN,oN,oc (I b4),oN,oF,oN,oN,oN,oc (I b7),oN,oF,oN,o_,o_,o_,o_,o_,oT] [(1,.ra 1 0),(3,I s0.fSize),(5,I a0),(107,.bool true)] (cq (Kfc _ _ a5) K5m (ar 3 a6 (cq (Kff _ _ a8) K5o (ar 3 a6 (ar 3 a9 (cq (Kff _ _ b2) K5o (ar 3 a9 (ar 3 b3 (cq (Kff _ _ b5) K5o (ar 2 b3 (ar 3 b6 (cq (Kff _ _ b8) K5o (ar 2 b6 (ar 5 (neF b9) (ai b9 tv))))))))))))))) ?_
    obtain rfl := os h
    exact Qcz.mk
   obtain ⟨c0,c1,h⟩ := Qdd h
   refine rgs hc none [oN,oN,oc (I a4),oN,oN,oN,oN,oN,oc (I a7),oN,oN,oF,oN,oN,oN,oc (I b1),oN,oN,oF,oN,oN,oN,oc (I b4),oN,oF,oN,oN,oN,oc (I b7),oN,oF,oN,oN,oN,oN,oc (.bool c0),oN,oF] [(1,.ra 1 0),(3,I s0.fSize),(5,I a0),(107,.bool (!c0))] (cq (Kfc _ _ a5) K5m (ar 3 a6 (cq (Kff _ _ a8) K5o (ar 3 a6 (ar 3 a9 (cq (Kff _ _ b2) K5o (ar 3 a9 (ar 3 b3 (cq (Kff _ _ b5) K5o (ar 2 b3 (ar 3 b6 (cq (Kff _ _ b8) K5o (ar 2 b6 (ar 4 b9 (cq (Kfi _ _ c1) K5p (ar 2 b9 tv)))))))))))))))) ?_
   obtain rfl := os h
   exact Qcz.mk
  clear a3
  refine ic h (fun c2 h => ?_) fun c2 h => ?_
  ·refine rs0 hc 1 [(2,.bool false)] [] ?_
   refine rt ?_
   obtain rfl := os h
   exact re [true]
  refine sk ?_
  refine K82 hc 1 [(1,.ra 1 0),(3,I s0.fSize),(5,I a0),(6,I 0)] ?_
  refine bk 4 ?_
  obtain ⟨fl,c3,h⟩ := Qdd h
  have hL := Kge _ _ c3 c hc
  refine lp ?_
  rcases fl with ⟨⟩ | r
  ·refine WpL.into (e := (.exit 4)) (mkS [(1,.ra 1 0),(3,I s0.fSize),(5,I a0)] [(1,K1s s0)]) hL ?_
   refine Qcr ?_
   refine K81 hc 3 [(1,.ra 1 0),(3,I s0.fSize),(5,I (wr (a0 + 1)))] ?_
   refine Qcv ?_
   exact (impl_IsSystem_l3_ih _ _ h c hc)
  refine WpL.mono hL ?_
  rintro _ _ ⟨rfl,hfin⟩
  obtain rfl := os h
  exact ⟨rfl,hfin⟩
 refine xt 2 ?_
 refine Qcp ?_
 refine Qcw ?_
 obtain rfl := os h
 exact iv []
def Kgj : Option (List (List Nat)) := rx [[0],[1],[2],[3],[0],[0,4],[0,4,5],[7],[8],[9]]
def Kgk (s0 : K00) : Option (Bool) :=
 ((
 (Ke8 (s0.fSize,2,16)) >>= fun a0 =>
 if a0 = true then
  if ((s0.fPlus.length : Int) != (wr (s0.fSize * s0.fSize))) = true then
   some (true)
  else
   if ((s0.fTimes.length : Int) != (wr (s0.fSize * s0.fSize))) = true then
   some (true)
   else
   some (((s0.fBelow.length : Int) != (wr (s0.fSize * s0.fSize))))
 else
  some (true)
 ) : Option (Bool)) >>= fun a1 =>
 if a1 = true then
 some false
 else
 (Kg4 (s0,0)) >>= fun fl => match fl with
 | .inl () =>
  (Kgg (s0,0)) >>= fun fl => match fl with
  | .inl () =>
   some true
  | .inr r =>
   some r
 | .inr r =>
  some r
def Kgl (s0 : K00) (r : Bool) : Prop :=
 Q71 Tryz.prog 79 [K1t s0] (.bool r) []
theorem Kgm : ∀ p r,Kgk p = some r → Kgl p r := by
 rintro s0 r h
 unfold Kgk at h
 refine b0 Tryz.f79 B79 157 [(0,K1t s0)] fun c hc => ?_
 refine rs hc none [some (.new 1),oN] [(1,.ra 1 0)] [(1,K1s s0)] tv ?_
 refine K82 hc 3 [(1,.ra 1 0),(3,I s0.fSize)] ?_
 refine sN ?_
 refine sN ?_
 obtain ⟨a0,a1,h⟩ := Qdd h
 refine Wp.into (x := .normal) (mkS [(1,.ra 1 0),(3,I s0.fSize),(39,.bool a0)] [(1,K1s s0)]) ?_ ?_
 ·replace h := a1
  obtain ⟨a2,a3,h⟩ := Qdd h
  rcases is h with ⟨a4,h⟩ | ⟨a4,h⟩
  ·rcases is h with ⟨a5,h⟩ | ⟨a5,h⟩
   ·refine rgs hc none [oN,oc (.bool a2),oN,oN,oN,oN,some (.eqv (.no) ⟨[(16,I (s0.fPlus.length : Int))],[],[]⟩),oN,oN,oN,oN,oF,oN,o_,o_,o_,o_,o_,o_,o_,oT,oN,o_,o_,o_,o_,o_,o_,o_,oT] [(1,.ra 1 0),(3,I s0.fSize),(39,.bool true)] (cq (Kea _ _ a3) K54 (ar 3 (nF a4) (ai (Qdj (d := 16) I s0.fPlus) (ar 5 (nF a4) (ar 7 (neF a5) (ai a5 (ar 7 nf (ai tt tv)))))))) ?_
    obtain rfl := os h
    exact Qcz.mk
   rcases is h with ⟨a6,h⟩ | ⟨a6,h⟩
   ·refine rgs hc none [oN,oc (.bool a2),oN,oN,oN,oN,some (.eqv (.no) ⟨[(16,I (s0.fPlus.length : Int))],[],[]⟩),oN,oN,oN,oN,oF,oN,oN,oN,some (.eqv (.no) ⟨[(25,I (s0.fTimes.length : Int))],[],[]⟩),oN,oN,oN,oN,oF,oN,o_,o_,o_,o_,o_,o_,o_,oT] [(1,.ra 1 0),(3,I s0.fSize),(39,.bool true)] (cq (Kea _ _ a3) K54 (ar 3 (nF a4) (ai (Qdj (d := 16) I s0.fPlus) (ar 5 (nF a4) (ar 3 a5 (ai (Qdj (d := 25) I s0.fTimes) (ar 5 a5 (ar 7 (neF a6) (ai a6 tv))))))))) ?_
    obtain rfl := os h
    exact Qcz.mk
   refine rgs hc none [oN,oc (.bool a2),oN,oN,oN,oN,some (.eqv (.no) ⟨[(16,I (s0.fPlus.length : Int))],[],[]⟩),oN,oN,oN,oN,oF,oN,oN,oN,some (.eqv (.no) ⟨[(25,I (s0.fTimes.length : Int))],[],[]⟩),oN,oN,oN,oN,oF,oN,oN,oN,some (.eqv (.no) ⟨[(34,I (s0.fBelow.length : Int))],[],[]⟩),oN,oN,oN,oN,oF] [(1,.ra 1 0),(3,I s0.fSize),(39,.bool ((s0.fBelow.length : Int) != (wr (s0.fSize * s0.fSize))))] (cq (Kea _ _ a3) K54 (ar 3 (nF a4) (ai (Qdj (d := 16) I s0.fPlus) (ar 5 (nF a4) (ar 3 a5 (ai (Qdj (d := 25) I s0.fTimes) (ar 5 a5 (ar 3 a6 (ai (Qdj (d := 34) AV.bool s0.fBelow) (ar 5 a6 tv)))))))))) ?_
   obtain rfl := os h
   exact Qcz.mk
  refine rgs hc none [oN,oc (.bool a2),oN,oN,o_,o_,o_,o_,o_,o_,o_,oT,oN,o_,o_,o_,o_,o_,o_,o_,oT,oN,o_,o_,o_,o_,o_,o_,o_,oT] [(1,.ra 1 0),(3,I s0.fSize),(39,.bool true)] (cq (Kea _ _ a3) K54 (ar 7 (neF (nT a4)) (ai (nT a4) (ar 7 nf (ai tt (ar 7 nf (ai tt tv))))))) ?_
  obtain rfl := os h
  exact Qcz.mk
 clear a1
 refine ic h (fun a7 h => ?_) fun a7 h => ?_
 ·refine rs0 hc 1 [(2,.bool false)] [] ?_
  refine rt ?_
  obtain rfl := os h
  exact rq [true]
 refine sk ?_
 refine sN ?_
 refine rss hc none [oN,oN,some (.eqv (.no) ⟨[(42,I (s0.fPlus.length : Int))],[],[]⟩),oN] [(1,.ra 1 0),(3,I s0.fSize),(42,I (s0.fPlus.length : Int)),(43,I 0)] (ai (Qdj (d := 42) I s0.fPlus) tv) ?_
 refine bk 0 ?_
 obtain ⟨fl,a8,h⟩ := Qdd h
 have hL := Kg6 _ _ a8 c hc
 refine lp ?_
 rcases fl with ⟨⟩ | r
 ·refine WpL.into (e := (.exit 0)) (mkS [(1,.ra 1 0),(3,I s0.fSize)] [(1,K1s s0)]) hL ?_
  refine Qcr ?_
  refine sN ?_
  refine K82 hc 1 [(1,.ra 1 0),(3,I s0.fSize),(5,I 0)] ?_
  refine bk 2 ?_
  obtain ⟨fl,a9,h⟩ := Qdd h
  have hL := Kgi _ _ a9 c hc
  refine lp ?_
  rcases fl with ⟨⟩ | r
  ·refine WpL.into (e := (.exit 2)) (mkS [] []) hL ?_
   refine Qcr ?_
   refine rs0 hc 1 [(2,.bool true)] [] ?_
   refine rt ?_
   obtain rfl := os h
   exact rq [true]
  refine WpL.mono hL ?_
  rintro _ _ ⟨rfl,hfin⟩
  obtain rfl := os h
  exact ⟨.inl rfl,hfin⟩
 refine WpL.mono hL ?_
 rintro _ _ ⟨rfl,hfin⟩
 obtain rfl := os h
 exact ⟨.inl rfl,hfin⟩
def Kgn (p : K00 × (List Int)) : Option (Bool) :=
 match p with
 | (s0,ty1) =>
  ((
  (Kf7 (s0,ty1)) >>= fun a0 =>
  if a0 = true then
  (Kgk s0) >>= fun a1 =>
  some (a1)
  else
  some (false)
  ) : Option (Bool)) >>= fun a2 =>
  some a2
def Kgo (p : K00 × (List Int)) (r : Bool) : Prop :=
 match p with
 | (s0,ty1) => Q71 Tryz.prog 19 [K1t s0,sI ty1] (.bool r) []
theorem Kgp : ∀ p r,Kgn p = some r → Kgo p r := by
 rintro ⟨s0,ty1⟩ r h
 unfold Kgn at h
 refine b0 Tryz.f19 B19 12 [(0,K1t s0),(1,sI ty1)] fun c hc => ?_
 refine rs hc none [some (.new 1),oN] [(1,sI ty1),(2,.ra 1 0)] [(1,K1s s0)] tv ?_
 refine sN ?_
 obtain ⟨a0,a1,h⟩ := Qdd h
 refine Wp.into (x := .normal) (mkS [(4,.bool a0)] []) ?_ ?_
 ·replace h := a1
  obtain ⟨a2,a3,h⟩ := Qdd h
  rcases is h with ⟨a4,h⟩ | ⟨a4,h⟩
  ·obtain ⟨a5,a6,h⟩ := Qdd h
   refine rg hc none [oN,oN,oc (.bool a2),oN,oN,oc (.bool a5),oT,oN] [(4,.bool a5)] [] (cq (Kf9 _ _ a3) K5k (ar 2 a4 (cq (Kgm _ _ a6) K5u (ai a4 tv)))) ?_
   obtain rfl := os h
   exact Qcz.mk
  refine rg hc none [oN,oN,oc (.bool a2),oN,o_,o_,oF,oN] [(4,.bool false)] [] (cq (Kf9 _ _ a3) K5k (ar 2 (neT a4) (ai a4 tv))) ?_
  obtain rfl := os h
  exact Qcz.mk
 clear a1
 refine rt ?_
 obtain rfl := os h
 exact rq [true]
def Kgq (c : Ctx) : LL → Exit → Q0a → Prop
 | a0 => Qcz c (.exit 0) (mkS [(3,.rs 3)] [(3,.arr (List.map K11 a0))])
def Kgr (p : (List Int) × LL × Int) : Option (LL) :=
 match p with
 | (ty0,a0,a1) =>
  if (decide (a1 < (ty0.length : Int))) = true then
  (Kee (ty0,a1)) >>= fun a2 =>
  (cut ty0 (some a1) (some a2) (some a2)) >>= fun a3 =>
  (Qdq (a0.length + [a3].length) 24) >>= fun _ =>
  Kgr (ty0,(a0 ++ [a3]),a2)
  else
  some (a0)
 partial_fixpoint
def Kgs (p : (List Int) × LL × Int) (fl : LL) : Prop :=
 match p with
 | (ty0,a0,a1) => ∀ c : Ctx,c.nt = 23 → WpL Tryz.prog c (cl (cl (cr (cl (cr (cr K5w)))))) (Kgq c fl) (mkS [(0,sI ty0),(3,.rs 3),(4,I a1)] [(3,.arr (List.map K11 a0))])
theorem Kgt : ∀ p r,Kgr p = some r → Kgs p r := by
 refine Kgr.partial_correctness Kgs ?_
 rintro impl_parts_l0_f impl_parts_l0_ih ⟨ty0,a0,a1⟩ r h
 intro c hc
 refine WpL.step ?_
 refine sN ?_
 refine rss hc none [oN,oN,some (.eqv (.no) ⟨[(8,I (ty0.length : Int))],[],[]⟩),oN] [(0,sI ty0),(3,.rs 3),(4,I a1),(9,.bool (decide (a1 < (ty0.length : Int))))] (ai (Qdj (d := 8) I ty0) tv) ?_
 refine ic h (fun a2 h => ?_) fun a2 h => ?_
 ·refine sk ?_
  refine bk 1 ?_
  obtain ⟨a3,a4,h⟩ := Qdd h
  refine rss hc none [oN,oN,oc (I a3),oN] [(0,sI ty0),(3,.rs 3),(4,I a1),(5,I a3)] (cq (Keg _ _ a4) K58 tv) ?_
  obtain ⟨a5,a6,_,a7,h⟩ := bq2 h
  refine rs hc none [oN,oN,oN,oN,oN,some (.eqv (.no) ⟨[(18,sI a5)],[],[]⟩),some (.mk 6 false),some (.eqv (.mk 7 true) ⟨[(20,.rs 7)],[(7,some (.arr (List.map K11 (a0 ++ [a5])))),(3,none),(6,none)],[7]⟩),oN] [(0,sI ty0),(3,.rs 7),(5,I a3)] [(7,.arr (List.map K11 (a0 ++ [a5])))] (ad (Qdm (d := 18) I a6) (Qdl (enc := I) (sz := 1) Qdw a6) (congrArg (fun z => (⟨[(20,.rs 7)],[(7,some (.arr z)),(3,none),(6,none)],[7]⟩ : Wr)) ((List.map_append).symm : (List.map K11 a0) ++ (List.map K11 [a5]) = List.map K11 (a0 ++ [a5]))) (Qdr (enc1 := K11) (enc2 := K11) (e1 := a0) (e2 := [a5]) (sz := 1) K14 K14 a7) tv) ?_
  refine K81 hc 2 [(0,sI ty0),(3,.rs 7),(4,I a3)] ?_
  refine Qcv ?_
  exact WpL.view (fun a w hv => SRx.renL [(3,7)] hv (by kernel_rfl) (by kernel_rfl) (by kernel_rfl)) (impl_parts_l0_ih _ _ h c hc)
 refine xt 0 ?_
 refine Qcp ?_
 refine Qcw ?_
 obtain rfl := os h
 exact iv []
def Kgu (ty0 : (List Int)) : Option (LL) :=
 (Kgr (ty0,[],1)) >>= fun a0 =>
 some a0
def Kgv (ty0 : (List Int)) (r : LL) : Prop :=
 Q71 Tryz.prog 158 [sI ty0] (.osl (List.map K11 r)) []
theorem Kgw : ∀ p r,Kgu p = some r → Kgv p r := by
 rintro ty0 r h
 unfold Kgu at h
 refine b0 Tryz.f158 K5w 23 [(0,sI ty0)] fun c hc => ?_
 refine rs0 hc 1 [(0,sI ty0)] [] ?_
 refine rs0 hc 1 [(0,sI ty0),(3,.nils)] [] ?_
 refine sN ?_
 refine rs0 hc 1 [(0,sI ty0),(3,.nils),(4,I 1)] [] ?_
 refine bk 0 ?_
 obtain ⟨a0,a1,h⟩ := Qdd h
 have hL := Kgt _ _ a1 c hc
 refine Wp.loopN (by kernel_rfl) (WpL.view (fun a w hv => SRx.renL [(3,8)] (SRx.nilTL 3 8 hv (by kernel_rfl) (by kernel_rfl)) (by kernel_rfl) (by kernel_rfl) (by kernel_rfl)) (?_ : WpL _ c _ _ (mkS [(0,sI ty0),(3,.rs 3),(4,I 1)] [(3,.arr (List.map K11 []))])))
 refine WpL.into (e := (.exit 0)) (mkS [(3,.rs 3)] [(3,.arr (List.map K11 a0))]) hL ?_
 refine Qcr ?_
 refine K82 hc 2 [(2,.rs 3)] ?_
 refine rt ?_
 obtain rfl := os h
 exact rq [true]
def Kgx (ty0 : (List Int)) : Option (Int) :=
 (idx ty0 0) >>= fun a0 =>
 (Keb a0) >>= fun (a1,a2) =>
 (Kgu ty0) >>= fun a3 =>
 ((
 if (a1 == 1) = true then
 (idx a3 0) >>= fun a4 =>
 (Kgx a4) >>= fun a5 =>
 (idx a3 1) >>= fun a6 =>
 (Kgx a6) >>= fun a7 =>
 some ((wr (a5 * a7)))
 else
 ((
 if (a1 == 2) = true then
 (idx a3 0) >>= fun a8 =>
 (Kgx a8) >>= fun a9 =>
 (idx a3 1) >>= fun b1 =>
 (Kgx b1) >>= fun b2 =>
 some ((wr (a9 + b2)))
 else
 ((
 if (a1 == 4) = true then
 (idx a3 0) >>= fun b3 =>
 (Kgx b3) >>= fun b4 =>
 some (b4)
 else
 some (3)
 ) : Option (Int)) >>= fun b5 =>
 some (b5)
 ) : Option (Int)) >>= fun b6 =>
 some (b6)
 ) : Option (Int)) >>= fun b7 =>
 some (mnx false b7 301)
 partial_fixpoint
def Kgy (ty0 : (List Int)) (r : Int) : Prop :=
 Q71 Tryz.prog 85 [sI ty0] (I r) []
theorem Kgz : ∀ p r,Kgx p = some r → Kgy p r := by
 refine Kgx.partial_correctness Kgy ?_
 rintro impl_count_f impl_count_ih ty0 r h
 refine b0 Tryz.f85 B85 47 [(0,sI ty0)] fun c hc => ?_
 refine rs0 hc 1 [(0,sI ty0)] [] ?_
 obtain ⟨a0,a1,⟨a2,a3⟩,a4,h⟩ := bq2 h
 refine rs hc none [oN,some (.el (I a0)),oN,oc (.tup [I a2,I a3]),oN,oN,oN,oN,oN] [(0,sI ty0),(3,I a2)] [] (ai (ix a1) (cq (Ked _ _ a4) K56 tv)) ?_
 obtain ⟨a5,a6,h⟩ := Qdd h
 refine rs hc none [oN,oc (.osl (List.map K11 a5)),oN] [(3,I a2),(5,.rs 1)] [(1,.arr (List.map K11 a5))] (cq (Kgw _ _ a6) K5x tv) ?_
 refine K82 hc 1 [(3,I a2),(5,.rs 1),(6,I 3)] ?_
 refine sN ?_
 refine K82 hc 1 [(5,.rs 1),(6,I 3),(16,I a2)] ?_
 refine bk 0 ?_
 refine K82 hc 2 [(5,.rs 1),(6,I 3),(16,I a2),(17,.bool (a2 == 1))] ?_
 obtain ⟨a7,a8,h⟩ := Qdd h
 refine Wp.into (x := .normal) (mkS [(6,I a7)] []) ?_ ?_
 ·replace h := a8
  refine ic h (fun a9 h => ?_) fun a9 h => ?_
  ·obtain ⟨b1,b2,b3,b4,b5,b6,b7,b8,h⟩ := bq4 h
   refine rg hc Kgj [oN,oN,some (.el (sI b1)),oc (I b3),oN,oN,some (.el (sI b5)),oc (I b7),oN,oN] [(6,I (wr (b3 * b7)))] [] (ab (Qdi (enc := K11) b2) (xL b2).2 (cq (impl_count_ih _ _ b4) K5y (ab (Qdi (enc := K11) b6) (xL b6).2 (cq (impl_count_ih _ _ b8) K5y tv)))) ?_
   obtain rfl := os h
   exact Qcz.mk
  refine K82 hc 2 [(5,.rs 1),(6,I 3),(16,I a2),(28,.bool (a2 == 2))] ?_
  obtain ⟨b9,c0,h⟩ := Qdd h
  refine Wp.into (x := .normal) (mkS [(6,I b9)] []) ?_ ?_
  ·replace h := c0
   refine ic h (fun c1 h => ?_) fun c1 h => ?_
   ·obtain ⟨c2,c3,c4,c5,c6,c7,c8,c9,h⟩ := bq4 h
    refine rg hc Kgj [oN,oN,some (.el (sI c2)),oc (I c4),oN,oN,some (.el (sI c6)),oc (I c8),oN,oN] [(6,I (wr (c4 + c8)))] [] (ab (Qdi (enc := K11) c3) (xL c3).2 (cq (impl_count_ih _ _ c5) K5y (ab (Qdi (enc := K11) c7) (xL c7).2 (cq (impl_count_ih _ _ c9) K5y tv)))) ?_
    obtain rfl := os h
    exact Qcz.mk
   refine K82 hc 2 [(5,.rs 1),(6,I 3),(39,.bool (a2 == 4))] ?_
   obtain ⟨d0,d1,h⟩ := Qdd h
   refine Wp.into (x := .normal) (mkS [(6,I d0)] []) ?_ ?_
   ·replace h := d1
    refine ic h (fun d2 h => ?_) fun d2 h => ?_
    ·obtain ⟨d3,d4,d5,d6,h⟩ := bq2 h
     refine rg hc none [oN,oN,some (.el (sI d3)),oc (I d5),oN] [(6,I d5)] [] (ab (Qdi (enc := K11) d4) (xL d4).2 (cq (impl_count_ih _ _ d6) K5y tv)) ?_
     obtain rfl := os h
     exact Qcz.mk
    refine sk ?_
    obtain rfl := os h
    exact iv []
   clear d1
   obtain rfl := os h
   exact Qcz.mk
  clear c0
  obtain rfl := os h
  exact Qcz.mk
 clear a8
 refine rs0 hc 3 [(2,I (mnx false a7 301))] [] ?_
 refine rt ?_
 obtain rfl := os h
 exact rq [true]
def Kh0 (p : K00 × (List Int)) : Option (Int) :=
 match p with
 | (s0,ty1) =>
  ((
  (Kgn (s0,ty1)) >>= fun a0 =>
  if a0 = true then
  (Kgx ty1) >>= fun a1 =>
  some ((decide (a1 > 300)))
  else
  some (true)
  ) : Option (Bool)) >>= fun a2 =>
  if a2 = true then
  some (-1)
  else
  (Kgx ty1) >>= fun a3 =>
  some a3
def Kh1 (p : K00 × (List Int)) (r : Int) : Prop :=
 match p with
 | (s0,ty1) => Q71 Tryz.prog 21 [K1t s0,sI ty1] (I r) []
theorem Kh2 : ∀ p r,Kh0 p = some r → Kh1 p r := by
 rintro ⟨s0,ty1⟩ r h
 unfold Kh0 at h
 refine b0 Tryz.f21 B21 16 [(0,K1t s0),(1,sI ty1)] fun c hc => ?_
 refine rs hc none [some (.new 1),oN] [(1,sI ty1),(2,.ra 1 0)] [(1,K1s s0)] tv ?_
 refine sN ?_
 refine sN ?_
 obtain ⟨a0,a1,h⟩ := Qdd h
 refine Wp.into (x := .normal) (mkS [(1,sI ty1),(13,.bool a0)] []) ?_ ?_
 ·replace h := a1
  obtain ⟨a2,a3,h⟩ := Qdd h
  rcases is h with ⟨a4,h⟩ | ⟨a4,h⟩
  ·obtain ⟨a5,a6,h⟩ := Qdd h
   refine rg hc none [oN,oN,oc (.bool a2),oN,oN,oN,oc (I a5),oN,oF] [(1,sI ty1),(13,.bool (decide (a5 > 300)))] [] (cq (Kgp _ _ a3) K5v (ar 2 (nF a4) (cq (Kgz _ _ a6) K5y (ar 2 (nF a4) tv)))) ?_
   obtain rfl := os h
   exact Qcz.mk
  refine rg hc none [oN,oN,oc (.bool a2),oN,oN,o_,o_,o_,oT] [(1,sI ty1),(13,.bool true)] [] (cq (Kgp _ _ a3) K5v (ar 3 (neF (nT a4)) (ai (nT a4) tv))) ?_
  obtain rfl := os h
  exact Qcz.mk
 clear a1
 refine ic h (fun a7 h => ?_) fun a7 h => ?_
 ·refine rs0 hc 1 [(4,I (-1))] [] ?_
  refine rt ?_
  obtain rfl := os h
  exact rq [true]
 refine sk ?_
 obtain ⟨a8,a9,h⟩ := Qdd h
 refine rs hc none [oN,oc (I a8),oN] [(4,I a8)] [] (cq (Kgz _ _ a9) K5y tv) ?_
 refine rt ?_
 obtain rfl := os h
 exact rq [true]
def Kh3 (s0 : (List Int)) : Option ((List Int)) :=
 (Qdq (([] : List Int).length + s0.length) 8) >>= fun _ =>
 some s0
def Kh4 (s0 : (List Int)) (r : (List Int)) : Prop :=
 Q71 Tryz.prog 88 [sI s0] (oI r) []
theorem Kh5 : ∀ p r,Kh3 p = some r → Kh4 p r := by
 rintro s0 r h
 unfold Kh3 at h
 refine b0 Tryz.f88 B88 8 [(0,sI s0)] fun c hc => ?_
 refine rs0 hc 1 [(0,sI s0)] [] ?_
 refine sN ?_
 refine rs0 hc 2 [(0,sI s0),(4,.nilq (List.map I s0))] [] ?_
 refine Wp.condNil (xs := List.map I s0) (by kernel_rfl) (by kernel_rfl) (fun hn => ?_) ?_
 ·replace hn := List.map_eq_nil_iff.1 hn
  replace h : (some []) = some r := by rw [hn] at h; simpa [Qdq,chk] using h
  refine rs0 hc 1 [(2,.nils)] [] ?_
  refine rt ?_
  obtain rfl := os h
  exact rq [true]
 refine sk ?_
 obtain ⟨_,a0,h⟩ := Qdd h
 refine rs hc none [some (.mk 1 true),oN,some (.eqv (.mk 2 true) ⟨[(7,.rs 2)],[(2,some (rI s0)),(1,none)],[2]⟩),oN] [(2,.rs 2)] [(2,rI s0)] (ab (congrArg (fun z => (⟨[(7,.rs 2)],[(2,some (.arr z)),(1,none)],[2]⟩ : Wr)) (List.nil_append _ : [] ++ (List.map I s0) = List.map I s0)) (Qdr (enc1 := I) (enc2 := I) (e1 := []) (e2 := s0) (sz := 1) Qe0 Qe0 a0) tv) ?_
 refine rt ?_
 obtain rfl := os h
 exact rq [true]
def Kh6 (p : (List Int) × Int) : Option (K02) :=
 match p with
 | (ty0,k1) =>
  (idx ty0 0) >>= fun a0 =>
  (Keb a0) >>= fun (a1,a2) =>
  (Kgu ty0) >>= fun a3 =>
  if (a1 == 1) = true then
  (idx a3 1) >>= fun a4 =>
  (Kgx a4) >>= fun a5 =>
  (idx a3 0) >>= fun a6 =>
  (chk (a5 ≠ 0)) >>= fun _ =>
  (Kh6 (a6,(wr (Int.tdiv k1 a5)))) >>= fun a7 =>
  (idx a3 1) >>= fun a8 =>
  (chk (a5 ≠ 0)) >>= fun _ =>
  (Kh6 (a8,(Int.tmod k1 a5))) >>= fun a9 =>
  some (K02.mk 4 0 [] [a7,a9])
  else
  if (a1 == 2) = true then
  (idx a3 0) >>= fun b1 =>
  (Kgx b1) >>= fun b2 =>
  if (decide (k1 ≥ b2)) = true then
  (idx a3 0) >>= fun b3 =>
  (Kh3 b3) >>= fun b4 =>
  (idx a3 1) >>= fun b5 =>
  (Kh6 (b5,(wr (k1 - b2)))) >>= fun b6 =>
  some (K02.mk 7 0 b4 [b6])
  else
  (idx a3 1) >>= fun b7 =>
  (Kh3 b7) >>= fun b8 =>
  (idx a3 0) >>= fun b9 =>
  (Kh6 (b9,k1)) >>= fun c0 =>
  some (K02.mk 6 0 b8 [c0])
  else
  if (a1 == 4) = true then
  (idx a3 0) >>= fun c1 =>
  (Kh6 (c1,k1)) >>= fun c2 =>
  some (K02.mk 11 a2 [] [c2])
  else
  some (K02.mk 1 k1 [] [])
 partial_fixpoint
def Kh7 (p : (List Int) × Int) (r : K02) : Prop :=
 match p with
 | (ty0,k1) => Q71 Tryz.prog 96 [sI ty0,I k1] (K26 r) []
theorem Kh8 : ∀ p r,Kh6 p = some r → Kh7 p r := by
 refine Kh6.partial_correctness Kh7 ?_
 rintro impl_valueAt_f impl_valueAt_ih ⟨ty0,k1⟩ r h
 refine b0 Tryz.f96 B96 87 [(0,sI ty0),(1,I k1)] fun c hc => ?_
 refine rs hc none [some (.new 1)] [(0,sI ty0),(1,I k1),(4,.ra 1 0)] [(1,.box [I 0,I 0,.nils,.nils])] tv ?_
 obtain ⟨a0,a1,⟨a2,a3⟩,a4,h⟩ := bq2 h
 refine rss hc none [oN,some (.el (I a0)),oN,oc (.tup [I a2,I a3]),oN,oN,oN,oN,oN] [(0,sI ty0),(1,I k1),(4,.ra 1 0),(5,I a2),(6,I a3)] (ai (ix a1) (cq (Ked _ _ a4) K56 tv)) ?_
 obtain ⟨a5,a6,h⟩ := Qdd h
 refine rs hc none [oN,some (.call (.osl (List.map K11 a5)) [] 2),oN] [(1,I k1),(4,.ra 1 0),(5,I a2),(6,I a3),(7,.rs 2)] [(1,.box [I 0,I 0,.nils,.nils]),(2,.arr (List.map K11 a5))] (cq (Kgw _ _ a6) K5x tv) ?_
 refine sN ?_
 refine K82 hc 1 [(1,I k1),(4,.ra 1 0),(6,I a3),(7,.rs 2),(19,I a2)] ?_
 refine bk 0 ?_
 refine K82 hc 2 [(1,I k1),(4,.ra 1 0),(6,I a3),(7,.rs 2),(19,I a2),(20,.bool (a2 == 1))] ?_
 refine ic h (fun a7 h => ?_) fun a7 h => ?_
 ·obtain ⟨a8,a9,b1,b2,h⟩ := bq2 h
  refine rss hc none [oN,oN,some (.el (sI a8)),oc (I b1),oN] [(1,I k1),(4,.ra 1 0),(7,.rs 2),(8,I b1)] (ab (Qdi (enc := K11) a9) (xL a9).2 (cq (Kgz _ _ b2) K5y tv)) ?_
  obtain ⟨b3,b4,_,b5,b6,b7,b8,b9,h⟩ := bq4 h
  obtain ⟨_,c0,c1,c2,h⟩ := bq2 h
  refine rs hc (rx [[0],[1],[2],[0],[0],[0,3,4],[6],[0],[0,7],[0,7,8],[0],[0],[0,10,11],[13],[14],[15],[16]]) [oN,oN,some (.el (sI b3)),oN,oN,oN,some (.call (K26 b6) [] 3),oN,oN,some (.el (sI b8)),oN,oN,oN,some (.call (K26 c1) [] 5),some (.eqv (.mk 7 true) ⟨[(40,.rs 7)],[(7,some (.arr (List.map K0l [b6,c1]))),(3,none),(4,none),(5,none),(6,none)],[7]⟩),oN,oN] [(4,.ra 1 0)] [(1,.box [I 4,I 0,.nils,.rs 7]),(7,.arr (List.map K0l [b6,c1]))] (ac (Qdi (enc := K11) b4) (xL b4).2 (Qdf b5) (cq (impl_valueAt_ih _ _ b7) K60 (ac (Qdi (enc := K11) b9) (xL b9).2 (Qdf c0) (cq (impl_valueAt_ih _ _ c2) K60 (ai (congrArg (fun z => (⟨[(40,.rs 7)],[(7,some (.arr z)),(3,none),(4,none),(5,none),(6,none)],[7]⟩ : Wr)) ((Qek (K0r b6) (Qek (K0r c1) Qej)) : [AV.agg [I b6.fOp,I b6.fN,oI b6.fType,AV.osl (List.map K0l b6.fKids)],AV.agg [I c1.fOp,I c1.fN,oI c1.fType,AV.osl (List.map K0l c1.fKids)]] = List.map K0l [b6,c1])) tv))))) ?_
  refine rt ?_
  obtain rfl := os h
  exact rq [true]
 refine K82 hc 2 [(1,I k1),(4,.ra 1 0),(6,I a3),(7,.rs 2),(19,I a2),(42,.bool (a2 == 2))] ?_
 refine ic h (fun c3 h => ?_) fun c3 h => ?_
 ·refine sN ?_
  obtain ⟨c4,c5,c6,c7,h⟩ := bq2 h
  refine rss hc none [oN,oN,some (.el (sI c4)),oc (I c6),oN] [(1,I k1),(4,.ra 1 0),(7,.rs 2),(9,I c6)] (ab (Qdi (enc := K11) c5) (xL c5).2 (cq (Kgz _ _ c7) K5y tv)) ?_
  refine K82 hc 3 [(1,I k1),(4,.ra 1 0),(7,.rs 2),(9,I c6),(50,.bool (decide (k1 ≥ c6)))] ?_
  refine ic h (fun c8 h => ?_) fun c8 h => ?_
  ·obtain ⟨c9,d0,d1,d2,d3,d4,d5,d6,h⟩ := bq4 h
   refine rs hc (rx [[0],[1],[2],[3],[0],[0,4],[0,4,5],[0],[0],[0,7,8],[10],[11],[12],[13]]) [oN,oN,some (.el (sI c9)),some (.call (oI d1) [] 8),oN,oN,some (.el (sI d3)),oN,oN,oN,some (.call (K26 d5) [] 9),some (.eqv (.mk 11 true) ⟨[(62,.rs 11)],[(11,some (.arr (List.map K0l [d5]))),(9,none),(10,none)],[11]⟩),oN,oN] [(4,.ra 1 0)] [(1,.box [I 7,I 0,.rs 8,.rs 11]),(8,rI d1),(11,.arr (List.map K0l [d5]))] (ab (Qdi (enc := K11) d0) (xL d0).2 (cq (Kh5 _ _ d2) K61 (ab (Qdi (enc := K11) d4) (xL d4).2 (cq (impl_valueAt_ih _ _ d6) K60 (ai (congrArg (fun z => (⟨[(62,.rs 11)],[(11,some (.arr z)),(9,none),(10,none)],[11]⟩ : Wr)) ((Qek (K0r d5) Qej) : [AV.agg [I d5.fOp,I d5.fN,oI d5.fType,AV.osl (List.map K0l d5.fKids)]] = List.map K0l [d5])) tv))))) ?_
   refine rt ?_
   obtain rfl := os h
   exact rq [true]
  refine sk ?_
  obtain ⟨d7,d8,d9,e0,e1,e2,e3,e4,h⟩ := bq4 h
  refine rs hc (rx [[0],[1],[2],[3],[0],[0,4],[0,4,5],[0],[8],[9],[10],[11]]) [oN,oN,some (.el (sI d7)),some (.call (oI d9) [] 12),oN,oN,some (.el (sI e1)),oN,some (.call (K26 e3) [] 13),some (.eqv (.mk 15 true) ⟨[(73,.rs 15)],[(15,some (.arr (List.map K0l [e3]))),(13,none),(14,none)],[15]⟩),oN,oN] [(4,.ra 1 0)] [(1,.box [I 6,I 0,.rs 12,.rs 15]),(12,rI d9),(15,.arr (List.map K0l [e3]))] (ab (Qdi (enc := K11) d8) (xL d8).2 (cq (Kh5 _ _ e0) K61 (ab (Qdi (enc := K11) e2) (xL e2).2 (cq (impl_valueAt_ih _ _ e4) K60 (ai (congrArg (fun z => (⟨[(73,.rs 15)],[(15,some (.arr z)),(13,none),(14,none)],[15]⟩ : Wr)) ((Qek (K0r e3) Qej) : [AV.agg [I e3.fOp,I e3.fN,oI e3.fType,AV.osl (List.map K0l e3.fKids)]] = List.map K0l [e3])) tv))))) ?_
  refine rt ?_
  obtain rfl := os h
  exact rq [true]
 refine K82 hc 2 [(1,I k1),(4,.ra 1 0),(6,I a3),(7,.rs 2),(75,.bool (a2 == 4))] ?_
 refine ic h (fun e5 h => ?_) fun e5 h => ?_
 ·obtain ⟨e6,e7,e8,e9,h⟩ := bq2 h
  refine rs hc none [oN,oN,oN,some (.el (sI e6)),oN,some (.call (K26 e8) [] 16),some (.eqv (.mk 18 true) ⟨[(83,.rs 18)],[(18,some (.arr (List.map K0l [e8]))),(16,none),(17,none)],[18]⟩),oN,oN] [(4,.ra 1 0)] [(1,.box [I 11,I a3,.nils,.rs 18]),(18,.arr (List.map K0l [e8]))] (ab (Qdi (enc := K11) e7) (xL e7).2 (cq (impl_valueAt_ih _ _ e9) K60 (ai (congrArg (fun z => (⟨[(83,.rs 18)],[(18,some (.arr z)),(16,none),(17,none)],[18]⟩ : Wr)) ((Qek (K0r e8) Qej) : [AV.agg [I e8.fOp,I e8.fN,oI e8.fType,AV.osl (List.map K0l e8.fKids)]] = List.map K0l [e8])) tv))) ?_
  refine rt ?_
  obtain rfl := os h
  exact rq [true]
 refine sk ?_
 refine rs0 hc 3 [(4,.ra 1 0)] [(1,.box [I 1,I k1,.nils,.nils])] ?_
 refine rt ?_
 obtain rfl := os h
 exact rq [true]
def Kh9 (p : K00 × (List Int) × Int) : Option (K02 × Bool) :=
 match p with
 | (s0,ty1,k2) =>
  (Kh0 (s0,ty1)) >>= fun a0 =>
  (Ke8 (k2,0,(wr (a0 - 1)))) >>= fun a1 =>
  if a1 = true then
  (Kh6 (ty1,k2)) >>= fun a2 =>
  some (a2,true)
  else
  some ((K02.mk 0 0 [] []),false)
def Kha (p : K00 × (List Int) × Int) (r : K02 × Bool) : Prop :=
 match p with
 | (s0,ty1,k2) => Q71 Tryz.prog 29 [K1t s0,sI ty1,I k2] (.tup [.agg [I r.1.fOp,I r.1.fN,.osl (List.map I r.1.fType),.osl (List.map K0l r.1.fKids)],.bool r.2]) []
theorem Khb : ∀ p r,Kh9 p = some r → Kha p r := by
 rintro ⟨s0,ty1,k2⟩ r h
 unfold Kh9 at h
 refine b0 Tryz.f29 B29 19 [(0,K1t s0),(1,sI ty1),(2,I k2)] fun c hc => ?_
 refine rs hc none [some (.new 1),some (.new 2),oN] [(1,sI ty1),(2,I k2),(3,.ra 1 0),(6,.ra 2 0)] [(1,K1s s0),(2,.box [I 0,I 0,.nils,.nils])] tv ?_
 refine sN ?_
 obtain ⟨a0,a1,a2,a3,h⟩ := bq2 h
 refine rs hc none [oN,oN,oN,oc (I a0),oN,oc (.bool a2),oN] [(1,sI ty1),(2,I k2),(6,.ra 2 0),(14,.bool (!a2))] [(2,.box [I 0,I 0,.nils,.nils])] (cq (Kh2 _ _ a1) K5z (cq (Kea _ _ a3) K54 tv)) ?_
 rcases is h with ⟨a4,h⟩ | ⟨a4,h⟩
 ·refine cF (!a2) (nF a4) ?_
  refine sk ?_
  obtain ⟨a5,a6,h⟩ := Qdd h
  refine rs hc none [oN,oN,some (.call (K26 a5) [] 3),oN,oN] [(6,.ra 2 0),(7,.bool true)] [(2,.box [I a5.fOp,I a5.fN,.rs 3,.rs 4]),(3,rI a5.fType),(4,.arr (List.map K0l a5.fKids))] (cq (Kh8 _ _ a6) K60 tv) ?_
  refine rt ?_
  obtain rfl := os h
  exact rq [true,true]
 refine cT (!a2) (nT a4) ?_
 refine K82 hc 3 [(6,.ra 2 0),(7,.bool false)] ?_
 refine rt ?_
 obtain rfl := os h
 exact rq [true,true]
def Khc (p : (List Int) × K00) : Option (Bool) :=
 match p with
 | (ty0,cap0) =>
  (Ker (cap0,ty0)) >>= fun a0 =>
  some (!a0)
def Khd (p : (List Int) × K00) (r : Bool) : Prop :=
 match p with
 | (ty0,cap0) => Q71 Tryz.prog 217 [sI ty0,.ptr [I cap0.fSize,sI cap0.fPlus,sI cap0.fTimes,sB cap0.fBelow] 0] (.bool r) []
theorem Khe : ∀ p r,Khc p = some r → Khd p r := by
 rintro ⟨ty0,cap0⟩ r h
 unfold Khc at h
 refine b0 Tryz.f217 K63 8 [(0,sI ty0),(1,.ptr [I cap0.fSize,sI cap0.fPlus,sI cap0.fTimes,sB cap0.fBelow] 0)] fun c hc => ?_
 refine rs0 hc 1 [(0,sI ty0),(1,.ptr [I cap0.fSize,sI cap0.fPlus,sI cap0.fTimes,sB cap0.fBelow] 0)] [] ?_
 obtain ⟨a0,a1,h⟩ := Qdd h
 refine rs hc none [oN,oN,oc (.bool a0),oN,oN] [(3,.bool (!a0))] [] (cq (Ket _ _ a1) K5d tv) ?_
 refine rt ?_
 obtain rfl := os h
 exact rq [true]
def Khf (c : Ctx) : (Unit) ⊕ (Int) → Exit → Q0a → Prop
 | .inl _ => Qcz c (.exit 0) (mkS [] [])
 | .inr r => Qd8 TIx Tryz.f241 [] (I r)
def Khg (p : LL × K00 × Int) : Option ((Unit) ⊕ (Int)) :=
 match p with
 | (s0,clo1_0,a0) =>
  if (decide (a0 < (s0.length : Int))) = true then
  (idx s0 a0) >>= fun a1 =>
  (Khc (a1,clo1_0)) >>= fun a2 =>
  if a2 = true then
  some (.inr a0)
  else
  Khg (s0,clo1_0,(wr (a0 + 1)))
  else
  some (.inl ())
 partial_fixpoint
def Khh (p : LL × K00 × Int) (fl : (Unit) ⊕ (Int)) : Prop :=
 match p with
 | (s0,clo1_0,a0) => ∀ c : Ctx,c.nt = 19 → WpL Tryz.prog c (cl (cl (cr (cl (cr K65))))) (Khf c fl) (mkS [(0,sL s0),(1,.fn 217 [.ptr [I clo1_0.fSize,sI clo1_0.fPlus,sI clo1_0.fTimes,sB clo1_0.fBelow] 0]),(7,I (s0.length : Int)),(8,I a0)] [])
theorem Khi : ∀ p r,Khg p = some r → Khh p r := by
 refine Khg.partial_correctness Khh ?_
 rintro slices_IndexFunc_Lint_Kimpl_isContext_c1_l0_f slices_IndexFunc_Lint_Kimpl_isContext_c1_l0_ih ⟨s0,clo1_0,a0⟩ r h
 intro c hc
 refine WpL.step ?_
 refine rs0 hc 1 [(0,sL s0),(1,.fn 217 [.ptr [I clo1_0.fSize,sI clo1_0.fPlus,sI clo1_0.fTimes,sB clo1_0.fBelow] 0]),(7,I (s0.length : Int)),(8,I a0),(9,.bool (decide (a0 < (s0.length : Int))))] [] ?_
 refine sN ?_
 refine ic h (fun a1 h => ?_) fun a1 h => ?_
 ·refine sk ?_
  refine sN ?_
  refine bk 1 ?_
  refine rs0 hc 2 [(0,sL s0),(1,.fn 217 [.ptr [I clo1_0.fSize,sI clo1_0.fPlus,sI clo1_0.fTimes,sB clo1_0.fBelow] 0]),(5,I a0),(7,I (s0.length : Int)),(8,I a0)] [] ?_
  obtain ⟨a2,a3,a4,a5,h⟩ := bq2 h
  refine rs hc none [oN,oN,oN,some (.el (sI a2)),oN,oc (.bool a4)] [(0,sL s0),(1,.fn 217 [.ptr [I clo1_0.fSize,sI clo1_0.fPlus,sI clo1_0.fTimes,sB clo1_0.fBelow] 0]),(5,I a0),(7,I (s0.length : Int)),(8,I a0),(16,.bool a4)] [] (ai (xL a3) (cq (Khe _ _ a5) K64 tv)) ?_
  refine ic h (fun a6 h => ?_) fun a6 h => ?_
  ·refine rs0 hc 2 [(4,I a0)] [] ?_
   refine rt ?_
   obtain rfl := os h
   exact re [true]
  refine sk ?_
  refine rg0 hc 2 [(0,sL s0),(1,.fn 217 [.ptr [I clo1_0.fSize,sI clo1_0.fPlus,sI clo1_0.fTimes,sB clo1_0.fBelow] 0]),(7,I (s0.length : Int)),(8,I (wr (a0 + 1)))] [] ?_
  refine Qcv ?_
  exact (slices_IndexFunc_Lint_Kimpl_isContext_c1_l0_ih _ _ h c hc)
 refine xt 0 ?_
 refine Qcp ?_
 refine Qcw ?_
 obtain rfl := os h
 exact iv []
def Khj (p : LL × K00) : Option (Int) :=
 match p with
 | (s0,clo1_0) =>
  (Khg (s0,clo1_0,0)) >>= fun fl => match fl with
  | .inl () =>
   some (-1)
  | .inr r =>
   some r
def Khk (p : LL × K00) (r : Int) : Prop :=
 match p with
 | (s0,clo1_0) => Q71 Tryz.prog 241 [sL s0,.fn 217 [.ptr [I clo1_0.fSize,sI clo1_0.fPlus,sI clo1_0.fTimes,sB clo1_0.fBelow] 0]] (I r) []
theorem Khl : ∀ p r,Khj p = some r → Khk p r := by
 rintro ⟨s0,clo1_0⟩ r h
 unfold Khj at h
 refine b0 Tryz.f241 K65 19 [(0,sL s0),(1,.fn 217 [.ptr [I clo1_0.fSize,sI clo1_0.fPlus,sI clo1_0.fTimes,sB clo1_0.fBelow] 0])] fun c hc => ?_
 refine rs0 hc 1 [(0,sL s0),(1,.fn 217 [.ptr [I clo1_0.fSize,sI clo1_0.fPlus,sI clo1_0.fTimes,sB clo1_0.fBelow] 0])] [] ?_
 refine sN ?_
 refine rs hc none [oN,some (.eqv (.no) ⟨[(7,I (s0.length : Int))],[],[]⟩),oN] [(0,sL s0),(1,.fn 217 [.ptr [I clo1_0.fSize,sI clo1_0.fPlus,sI clo1_0.fTimes,sB clo1_0.fBelow] 0]),(7,I (s0.length : Int)),(8,I 0)] [] (ai (Qdj (d := 7) K11 s0) tv) ?_
 refine bk 0 ?_
 obtain ⟨fl,a0,h⟩ := Qdd h
 have hL := Khi _ _ a0 c hc
 refine lp ?_
 rcases fl with ⟨⟩ | r
 ·refine WpL.into (e := (.exit 0)) (mkS [] []) hL ?_
  refine Qcr ?_
  refine rs0 hc 1 [(4,I (-1))] [] ?_
  refine rt ?_
  obtain rfl := os h
  exact rq [true]
 refine WpL.mono hL ?_
 rintro _ _ ⟨rfl,hfin⟩
 obtain rfl := os h
 exact ⟨.inl rfl,hfin⟩
def Khm (p : LL × K00) : Option (Bool) :=
 match p with
 | (s0,clo1_0) =>
  (Khj (s0,clo1_0)) >>= fun a0 =>
  some (decide (a0 ≥ 0))
def Khn (p : LL × K00) (r : Bool) : Prop :=
 match p with
 | (s0,clo1_0) => Q71 Tryz.prog 216 [sL s0,.fn 217 [.ptr [I clo1_0.fSize,sI clo1_0.fPlus,sI clo1_0.fTimes,sB clo1_0.fBelow] 0]] (.bool r) []
theorem Kho : ∀ p r,Khm p = some r → Khn p r := by
 rintro ⟨s0,clo1_0⟩ r h
 unfold Khm at h
 refine b0 Tryz.f216 K67 9 [(0,sL s0),(1,.fn 217 [.ptr [I clo1_0.fSize,sI clo1_0.fPlus,sI clo1_0.fTimes,sB clo1_0.fBelow] 0])] fun c hc => ?_
 refine rs0 hc 1 [(0,sL s0),(1,.fn 217 [.ptr [I clo1_0.fSize,sI clo1_0.fPlus,sI clo1_0.fTimes,sB clo1_0.fBelow] 0])] [] ?_
 obtain ⟨a0,a1,h⟩ := Qdd h
 refine rs hc none [oN,oN,oc (I a0),oN,oN] [(4,.bool (decide (a0 ≥ 0)))] [] (cq (Khl _ _ a1) K66 tv) ?_
 refine rt ?_
 obtain rfl := os h
 exact rq [true]
def Khp (p : K00 × LL) : Option (Bool) :=
 match p with
 | (s0,ctx1) =>
  ((
  if (decide ((ctx1.length : Int) ≤ 8)) = true then
  (Khm (ctx1,s0)) >>= fun a0 =>
  some ((!a0))
  else
  some (false)
  ) : Option (Bool)) >>= fun a1 =>
  some a1
def Khq (p : K00 × LL) (r : Bool) : Prop :=
 match p with
 | (s0,ctx1) => Q71 Tryz.prog 171 [K1t s0,sL ctx1] (.bool r) []
theorem Khr : ∀ p r,Khp p = some r → Khq p r := by
 rintro ⟨s0,ctx1⟩ r h
 unfold Khp at h
 refine b0 Tryz.f171 K69 14 [(0,K1t s0),(1,sL ctx1)] fun c hc => ?_
 refine rs hc none [some (.new 1),oN] [(1,sL ctx1),(2,.ra 1 0)] [(1,K1s s0)] tv ?_
 refine sN ?_
 obtain ⟨a0,a1,h⟩ := Qdd h
 refine Wp.into (x := .normal) (mkS [(4,.bool a0)] []) ?_ ?_
 ·replace h := a1
  rcases is h with ⟨a2,h⟩ | ⟨a2,h⟩
  ·obtain ⟨a3,a4,h⟩ := Qdd h
   refine rg hc none [oN,some (.eqv (.no) ⟨[(6,I (ctx1.length : Int))],[],[]⟩),oN,oN,oN,oN,oc (.bool a3),oN,oT,oN] [(4,.bool (!a3))] [] (ai (Qdj (d := 6) K11 ctx1) (ar 3 a2 (ac (Kho _ _ a4) K68 (Or.inr rfl : ([1] : List Nat) = [] ∨ noSh (.bool a3) = true) (ar 2 a2 tv)))) ?_
   obtain rfl := os h
   exact Qcz.mk
  refine rg hc none [oN,some (.eqv (.no) ⟨[(6,I (ctx1.length : Int))],[],[]⟩),oN,oN,o_,o_,o_,o_,oF,oN] [(4,.bool false)] [] (ai (Qdj (d := 6) K11 ctx1) (ar 4 (neT a2) (ai a2 tv))) ?_
  obtain rfl := os h
  exact Qcz.mk
 clear a1
 refine rt ?_
 obtain rfl := os h
 exact rq [true]
def Khs (op0 : Int) : Option (K04 × Bool) :=
 (Ke8 (op0,0,12)) >>= fun a0 =>
 if a0 = true then
 (idx [(K04.mk (ByteArray.mk #[120]) 0 false false),(K04.mk ByteArray.empty 0 false false),(K04.mk (ByteArray.mk #[97,100,100]) 2 false false),(K04.mk (ByteArray.mk #[105,102]) 3 false false),(K04.mk (ByteArray.mk #[112,97,105,114]) 2 false false),(K04.mk (ByteArray.mk #[115,112,108,105,116]) 2 true false),(K04.mk (ByteArray.mk #[108,101,102,116]) 1 false true),(K04.mk (ByteArray.mk #[114,105,103,104,116]) 1 false true),(K04.mk (ByteArray.mk #[99,97,115,101]) 3 true false),(K04.mk (ByteArray.mk #[102,117,110]) 1 true true),(K04.mk (ByteArray.mk #[97,112,112]) 2 false false),(K04.mk (ByteArray.mk #[98,111,120]) 1 true false),(K04.mk (ByteArray.mk #[111,112,101,110]) 2 true false)] op0) >>= fun a1 =>
 some (a1,true)
 else
 some ((K04.mk ByteArray.empty 0 false false),false)
def Kht (op0 : Int) (r : K04 × Bool) : Prop :=
 Q71 Tryz.prog 188 [I op0] (.tup [.agg [.str r.1.fword,I r.1.fkids,.bool r.1.fgrade,.bool r.1.ftyped],.bool r.2]) []
theorem Khu : ∀ p r,Khs p = some r → Kht p r := by
 rintro op0 r h
 unfold Khs at h
 refine b0 Tryz.f188 K6b 25 [(0,I op0)] fun c hc => ?_
 refine rs hc none [some (.new 1),oN] [(0,I op0),(2,.ra 1 0)] [(1,.box [.str ByteArray.empty,I 0,.bool false,.bool false])] tv ?_
 refine sN ?_
 obtain ⟨a0,a1,h⟩ := Qdd h
 refine rss hc none [oN,oc (.bool a0),oN] [(0,I op0),(2,.ra 1 0),(6,.bool (!a0))] (cq (Kea _ _ a1) K54 tv) ?_
 rcases is h with ⟨a2,h⟩ | ⟨a2,h⟩
 ·refine cF (!a0) (nF a2) ?_
  refine sk ?_
  obtain ⟨a3,a4,h⟩ := Qdd h
  refine rs hc none [oN,oN,oN,oN,oN,oN,oN,oN,oN,oN,oN,oN,oN,some (.mk 2 true),oN,oN,some (.el (.agg [.str a3.fword,I a3.fkids,.bool a3.fgrade,.bool a3.ftyped])),oN,oN] [(2,.ra 1 0),(3,.bool true)] [(1,.box [.str a3.fword,I a3.fkids,.bool a3.fgrade,.bool a3.ftyped])] (ab (Qdi (enc := K0u) a4) (Qdh (enc := K0u) (x := .agg [.str a3.fword,I a3.fkids,.bool a3.fgrade,.bool a3.ftyped]) a4 (K1i a3)).2 tv) ?_
  refine rt ?_
  obtain rfl := os h
  exact rq [true,true]
 refine cT (!a0) (nT a2) ?_
 refine K82 hc 3 [(2,.ra 1 0),(3,.bool false)] ?_
 refine rt ?_
 obtain rfl := os h
 exact rq [true,true]
def Khv (p : (List Int) × K00) : Option (Bool) :=
 match p with
 | (ty0,cap0) =>
  (Ker (cap0,ty0)) >>= fun a0 =>
  some a0
def Khw (p : (List Int) × K00) (r : Bool) : Prop :=
 match p with
 | (ty0,cap0) => Q71 Tryz.prog 218 [sI ty0,.ptr [I cap0.fSize,sI cap0.fPlus,sI cap0.fTimes,sB cap0.fBelow] 0] (.bool r) []
theorem Khx : ∀ p r,Khv p = some r → Khw p r := by
 rintro ⟨ty0,cap0⟩ r h
 unfold Khv at h
 refine b0 Tryz.f218 K6d 7 [(0,sI ty0),(1,.ptr [I cap0.fSize,sI cap0.fPlus,sI cap0.fTimes,sB cap0.fBelow] 0)] fun c hc => ?_
 refine rs0 hc 1 [(0,sI ty0),(1,.ptr [I cap0.fSize,sI cap0.fPlus,sI cap0.fTimes,sB cap0.fBelow] 0)] [] ?_
 obtain ⟨a0,a1,h⟩ := Qdd h
 refine rs hc none [oN,oN,oc (.bool a0),oN] [(3,.bool a0)] [] (cq (Ket _ _ a1) K5d tv) ?_
 refine rt ?_
 obtain rfl := os h
 exact rq [true]
def Khy (p : Int × Int) : Option (Int) :=
 match p with
 | (op0,kid1) =>
  ((
  if (op0 == 5) = true then
  some ((kid1 == 1))
  else
  some (false)
  ) : Option (Bool)) >>= fun a0 =>
  if a0 = true then
  some 2
  else
  ((
  if (op0 == 8) = true then
  some ((decide (kid1 > 0)))
  else
  some (false)
  ) : Option (Bool)) >>= fun a1 =>
  ((
  if a1 = true then
  some (a1)
  else
  ((
  if (op0 == 9) = true then
  some ((op0 == 9))
  else
  ((
  if (op0 == 12) = true then
  some ((kid1 == 1))
  else
  some (false)
  ) : Option (Bool)) >>= fun a2 =>
  some (a2)
  ) : Option (Bool)) >>= fun a3 =>
  some (a3)
  ) : Option (Bool)) >>= fun a4 =>
  if a4 = true then
  some 1
  else
  some 0
def Khz (p : Int × Int) (r : Int) : Prop :=
 match p with
 | (op0,kid1) => Q71 Tryz.prog 199 [I op0,I kid1] (I r) []
theorem Ki0 : ∀ p r,Khy p = some r → Khz p r := by
 rintro ⟨op0,kid1⟩ r h
 unfold Khy at h
 refine b0 Tryz.f199 K6f 27 [(0,I op0),(1,I kid1)] fun c hc => ?_
 refine rs0 hc 1 [(0,I op0),(1,I kid1)] [] ?_
 refine sN ?_
 refine bk 0 ?_
 refine sN ?_
 obtain ⟨a0,a1,h⟩ := Qdd h
 refine Wp.into (x := .normal) (mkS [(0,I op0),(1,I kid1),(5,.bool a0)] []) ?_ ?_
 ·replace h := a1
  rcases is h with ⟨a2,h⟩ | ⟨a2,h⟩
  ·refine rg hc none [oN,oN,oN,oN,oN,oT,oN] [(0,I op0),(1,I kid1),(5,.bool (kid1 == 1))] [] (ar 3 a2 tv) ?_
   obtain rfl := os h
   exact Qcz.mk
  refine rg hc none [oN,oN,oN,o_,o_,oF,oN] [(0,I op0),(1,I kid1),(5,.bool false)] [] (ar 2 (neT a2) (ai a2 tv)) ?_
  obtain rfl := os h
  exact Qcz.mk
 clear a1
 refine ic h (fun a3 h => ?_) fun a3 h => ?_
 ·refine rs0 hc 1 [(4,I 2)] [] ?_
  refine rt ?_
  obtain rfl := os h
  exact rq [true]
 refine sN ?_
 refine sN ?_
 obtain ⟨a4,a5,h⟩ := Qdd h
 refine Wp.into (x := .normal) (mkS [(0,I op0),(1,I kid1),(12,.bool a4)] []) ?_ ?_
 ·replace h := a5
  rcases is h with ⟨a6,h⟩ | ⟨a6,h⟩
  ·refine rg hc none [oN,oN,oN,oN,oN,oT,oN] [(0,I op0),(1,I kid1),(12,.bool (decide (kid1 > 0)))] [] (ar 3 a6 tv) ?_
   obtain rfl := os h
   exact Qcz.mk
  refine rg hc none [oN,oN,oN,o_,o_,oF,oN] [(0,I op0),(1,I kid1),(12,.bool false)] [] (ar 2 (neT a6) (ai a6 tv)) ?_
  obtain rfl := os h
  exact Qcz.mk
 clear a5
 obtain ⟨a7,a8,h⟩ := Qdd h
 refine Wp.into (x := .normal) (mkS [(12,.bool a7)] []) ?_ ?_
 ·replace h := a8
  refine ic h (fun a9 h => ?_) fun a9 h => ?_
  ·refine sk ?_
   obtain rfl := os h
   exact iv []
  refine rs0 hc 3 [(0,I op0),(1,I kid1),(12,.bool (op0 == 9))] [] ?_
  obtain ⟨b1,b2,h⟩ := Qdd h
  refine Wp.into (x := .normal) (mkS [(12,.bool b1)] []) ?_ ?_
  ·replace h := b2
   refine ic h (fun b3 h => ?_) fun b3 h => ?_
   ·refine sk ?_
    obtain rfl := os h
    exact iv []
   obtain ⟨b4,b5,h⟩ := Qdd h
   refine Wp.into (x := .normal) (mkS [(12,.bool b4)] []) ?_ ?_
   ·replace h := b5
    rcases is h with ⟨b6,h⟩ | ⟨b6,h⟩
    ·refine rg hc none [oN,oN,oN,oN,oN,oT,oN] [(12,.bool (kid1 == 1))] [] (ar 3 b6 tv) ?_
     obtain rfl := os h
     exact Qcz.mk
    refine rg hc none [oN,oN,oN,o_,o_,oF,oN] [(12,.bool false)] [] (ar 2 (neT b6) (ai b6 tv)) ?_
    obtain rfl := os h
    exact Qcz.mk
   clear b5
   obtain rfl := os h
   exact Qcz.mk
  clear b2
  obtain rfl := os h
  exact Qcz.mk
 clear a8
 refine ic h (fun b7 h => ?_) fun b7 h => ?_
 ·refine rs0 hc 1 [(4,I 1)] [] ?_
  refine rt ?_
  obtain rfl := os h
  exact rq [true]
 refine sk ?_
 refine rs0 hc 1 [(4,I 0)] [] ?_
 refine rt ?_
 obtain rfl := os h
 exact rq [true]
def Ki1 (c : Ctx) : (Int) ⊕ (Int) → Exit → Q0a → Prop
 | .inl a0 => Qcz c (.exit 1) (mkS [(4,I a0)] [])
 | .inr r => Qd8 TIx Tryz.f134 [] (I r)
end Go.Am
