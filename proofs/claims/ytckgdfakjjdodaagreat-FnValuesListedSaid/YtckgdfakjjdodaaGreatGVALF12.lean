/- Functions of the program as pure functions,and that it computes them. Printed by a program of mine (gen.py). -/
import Derived.Test.YtckgdfakjjdodaaGreatGVALF9
set_option linter.unusedVariables false
set_option linter.unusedSimpArgs false
set_option maxRecDepth 100000
namespace Go.Am
open Go Go.Proofs
mutual
def Kmk (p : K02 × Int × Int) : Option (Int) :=
 match p with
 | (t0,n1,nodes4) =>
  (Khs t0.fOp) >>= fun (a0,a1) =>
  ((
  if a1 = true then
  if (decide ((wr (nodes4 + 1)) > 400)) = true then
   some (true)
  else
   some (((t0.fKids.length : Int) != a0.fkids))
  else
  some (true)
  ) : Option (Bool)) >>= fun a2 =>
  if a2 = true then
  some 401
  else
  ((
  if (t0.fOp == 0) = true then
   (Ke8 (t0.fN,0,(wr (n1 - 1)))) >>= fun a3 =>
   some (a3)
  else
   ((
   if (t0.fOp == 1) = true then
   (Ke8 (t0.fN,0,2)) >>= fun a4 =>
   some (a4)
   else
   ((
   if a0.fgrade = true then
   (Kmg t0.fN) >>= fun a5 =>
   some (a5)
   else
   some ((t0.fN == 0))
   ) : Option (Bool)) >>= fun a6 =>
   some (a6)
   ) : Option (Bool)) >>= fun a7 =>
   some (a7)
  ) : Option (Bool)) >>= fun a8 =>
  ((
  if a0.ftyped = true then
   ((
   if a8 = true then
   (Keh t0.fType) >>= fun a9 =>
   some (a9)
   else
   some (false)
   ) : Option (Bool)) >>= fun b1 =>
   some (b1)
  else
   ((
   if a8 = true then
   some (((t0.fType.length : Int) == 0))
   else
   some (false)
   ) : Option (Bool)) >>= fun b2 =>
   some (b2)
  ) : Option (Bool)) >>= fun b3 =>
  if b3 = true then
  (Kml (t0,n1,(wr (nodes4 + 1)),0)) >>= fun fl => match fl with
  | .inl b4 =>
   some b4
  | .inr r =>
   some r
  else
  some 401
 partial_fixpoint
def Kml (p : K02 × Int × Int × Int) : Option ((Int) ⊕ (Int)) :=
 match p with
 | (t0,n1,a0,a1) =>
  if (decide (a1 < (t0.fKids.length : Int))) = true then
  (idx t0.fKids a1) >>= fun a2 =>
  (Khy (t0.fOp,a1)) >>= fun a3 =>
  (Kmk (a2,(wr (n1 + a3)),a0)) >>= fun a4 =>
  if (decide (a4 > 400)) = true then
  some (.inr 401)
  else
  Kml (t0,n1,a4,(wr (a1 + 1)))
  else
  some (.inl a0)
 partial_fixpoint
end
def Kmm (p : K02 × Int × Int) (r : Int) : Prop :=
 match p with
 | (t0,n1,nodes4) => Q71 Tryz.prog 134 [K1x t0,I n1,.fn 189 [],.fn 159 [],I nodes4] (I r) []
def Kmn (p : K02 × Int × Int × Int) (fl : (Int) ⊕ (Int)) : Prop :=
 match p with
 | (t0,n1,a0,a1) => ∀ c : Ctx,c.nt = 104 → WpL Tryz.prog c (cl (cl (cr (cl (cr (cr (cr (cr (cr (cr (cr K6h))))))))))) (Kmj c fl) (mkS [(1,I n1),(2,.fn 189 []),(3,.fn 159 []),(4,I a0),(5,.ra 1 0),(82,.sl (List.map K0i t0.fKids)),(83,I (t0.fKids.length : Int)),(84,I a1)] [(1,K1w t0)])
theorem Kmo : (∀ p r,Kmk p = some r → Kmm p r) ∧ (∀ p r,Kml p = some r → Kmn p r) := by
 refine Kmk.mutual_partial_correctness Kmm Kmn ?_ ?_
 ·rintro impl_check_Kimpl_writtenSize_c1_Kimpl_isWrittenType_l0_f impl_check_Kimpl_writtenSize_c1_Kimpl_isWrittenType_l0_ih ⟨t0,n1,nodes4⟩ r h
  refine b0 Tryz.f134 K6h 104 [(0,K1x t0),(1,I n1),(2,.fn 189 []),(3,.fn 159 []),(4,I nodes4)] fun c hc => ?_
  refine rs hc none [some (.new 1),oN] [(1,I n1),(2,.fn 189 []),(3,.fn 159 []),(4,I nodes4),(5,.ra 1 0)] [(1,K1w t0)] tv ?_
  refine K82 hc 3 [(1,I n1),(2,.fn 189 []),(3,.fn 159 []),(4,I (wr (nodes4 + 1))),(5,.ra 1 0)] ?_
  obtain ⟨⟨a0,a1⟩,a2,h⟩ := Qdd h
  refine rs hc none [oN,oN,oc (.tup [.agg [.str a0.fword,I a0.fkids,.bool a0.fgrade,.bool a0.ftyped],.bool a1]),oN,oN,oN,some (.new 2),oN,oN] [(1,I n1),(2,.fn 189 []),(3,.fn 159 []),(4,I (wr (nodes4 + 1))),(5,.ra 1 0),(11,.ra 2 0),(12,.bool a1)] [(1,K1w t0),(2,.box [.str a0.fword,I a0.fkids,.bool a0.fgrade,.bool a0.ftyped])] (cq (Khu _ _ a2) K6c tv) ?_
  refine sN ?_
  refine sN ?_
  obtain ⟨a3,a4,h⟩ := Qdd h
  refine Wp.into (x := .normal) (mkS [(1,I n1),(2,.fn 189 []),(3,.fn 159 []),(4,I (wr (nodes4 + 1))),(5,.ra 1 0),(11,.ra 2 0),(36,.bool a3)] [(1,K1w t0),(2,.box [.str a0.fword,I a0.fkids,.bool a0.fgrade,.bool a0.ftyped])]) ?_ ?_
  ·replace h := a4
   rcases is h with ⟨a5,h⟩ | ⟨a5,h⟩
   ·rcases is h with ⟨a6,h⟩ | ⟨a6,h⟩
    ·refine rgs hc none [oN,oN,oN,oN,oN,oF,oN,o_,o_,o_,o_,o_,o_,oT] [(1,I n1),(2,.fn 189 []),(3,.fn 159 []),(4,I (wr (nodes4 + 1))),(5,.ra 1 0),(11,.ra 2 0),(36,.bool true)] (ar 3 (nF a5) (ar 6 (neF a6) (ai a6 tv))) ?_
     obtain rfl := os h
     exact Qcz.mk
    refine rgs hc none [oN,oN,oN,oN,oN,oF,oN,oN,oN,some (.eqv (.no) ⟨[(32,I (t0.fKids.length : Int))],[],[]⟩),oN,oN,oN,oF] [(1,I n1),(2,.fn 189 []),(3,.fn 159 []),(4,I (wr (nodes4 + 1))),(5,.ra 1 0),(11,.ra 2 0),(36,.bool ((t0.fKids.length : Int) != a0.fkids))] (ar 3 (nF a5) (ar 3 a6 (ai (Qdj (d := 32) K0i t0.fKids) (ar 4 a6 tv)))) ?_
    obtain rfl := os h
    exact Qcz.mk
   refine rgs hc none [oN,oN,oN,o_,o_,oT,oN,o_,o_,o_,o_,o_,o_,oT] [(1,I n1),(2,.fn 189 []),(3,.fn 159 []),(4,I (wr (nodes4 + 1))),(5,.ra 1 0),(11,.ra 2 0),(36,.bool true)] (ar 2 (neF (nT a5)) (ai (nT a5) (ar 6 nf (ai tt tv)))) ?_
   obtain rfl := os h
   exact Qcz.mk
  clear a4
  refine ic h (fun a7 h => ?_) fun a7 h => ?_
  ·refine rs0 hc 1 [(10,I 401)] [] ?_
   refine rt ?_
   obtain rfl := os h
   exact rq [true]
  refine sk ?_
  refine sN ?_
  refine bk 0 ?_
  refine K82 hc 4 [(1,I n1),(2,.fn 189 []),(3,.fn 159 []),(4,I (wr (nodes4 + 1))),(5,.ra 1 0),(11,.ra 2 0),(40,.bool (t0.fOp == 0))] ?_
  obtain ⟨a8,a9,h⟩ := Qdd h
  refine Wp.into (x := .normal) (mkS [(1,I n1),(2,.fn 189 []),(3,.fn 159 []),(4,I (wr (nodes4 + 1))),(5,.ra 1 0),(11,.ra 2 0),(12,.bool a8)] [(1,K1w t0),(2,.box [.str a0.fword,I a0.fkids,.bool a0.fgrade,.bool a0.ftyped])]) ?_ ?_
  ·replace h := a9
   refine ic h (fun b1 h => ?_) fun b1 h => ?_
   ·obtain ⟨b2,b3,h⟩ := Qdd h
    refine rgs hc none [oN,oN,oN,oN,oc (.bool b2),oN] [(1,I n1),(2,.fn 189 []),(3,.fn 159 []),(4,I (wr (nodes4 + 1))),(5,.ra 1 0),(11,.ra 2 0),(12,.bool b2)] (cq (Kea _ _ b3) K54 tv) ?_
    obtain rfl := os h
    exact Qcz.mk
   refine K82 hc 4 [(1,I n1),(2,.fn 189 []),(3,.fn 159 []),(4,I (wr (nodes4 + 1))),(5,.ra 1 0),(11,.ra 2 0),(49,.bool (t0.fOp == 1))] ?_
   obtain ⟨b4,b5,h⟩ := Qdd h
   refine Wp.into (x := .normal) (mkS [(1,I n1),(2,.fn 189 []),(3,.fn 159 []),(4,I (wr (nodes4 + 1))),(5,.ra 1 0),(11,.ra 2 0),(12,.bool b4)] [(1,K1w t0),(2,.box [.str a0.fword,I a0.fkids,.bool a0.fgrade,.bool a0.ftyped])]) ?_ ?_
   ·replace h := b5
    refine ic h (fun b6 h => ?_) fun b6 h => ?_
    ·obtain ⟨b7,b8,h⟩ := Qdd h
     refine rgs hc none [oN,oN,oc (.bool b7),oN] [(1,I n1),(2,.fn 189 []),(3,.fn 159 []),(4,I (wr (nodes4 + 1))),(5,.ra 1 0),(11,.ra 2 0),(12,.bool b7)] (cq (Kea _ _ b8) K54 tv) ?_
     obtain rfl := os h
     exact Qcz.mk
    refine K82 hc 3 [(1,I n1),(2,.fn 189 []),(3,.fn 159 []),(4,I (wr (nodes4 + 1))),(5,.ra 1 0),(11,.ra 2 0),(56,.bool a0.fgrade)] ?_
    obtain ⟨b9,c0,h⟩ := Qdd h
    refine Wp.into (x := .normal) (mkS [(1,I n1),(2,.fn 189 []),(3,.fn 159 []),(4,I (wr (nodes4 + 1))),(5,.ra 1 0),(11,.ra 2 0),(12,.bool b9)] [(1,K1w t0),(2,.box [.str a0.fword,I a0.fkids,.bool a0.fgrade,.bool a0.ftyped])]) ?_ ?_
    ·replace h := c0
     refine ic h (fun c1 h => ?_) fun c1 h => ?_
     ·obtain ⟨c2,c3,h⟩ := Qdd h
      refine rgs hc none [oN,oN,oN,oc (.bool c2),oN] [(1,I n1),(2,.fn 189 []),(3,.fn 159 []),(4,I (wr (nodes4 + 1))),(5,.ra 1 0),(11,.ra 2 0),(12,.bool c2)] (cq (Kmi _ _ c3) K7r tv) ?_
      obtain rfl := os h
      exact Qcz.mk
     refine K81 hc 4 [(1,I n1),(2,.fn 189 []),(3,.fn 159 []),(4,I (wr (nodes4 + 1))),(5,.ra 1 0),(11,.ra 2 0),(12,.bool (t0.fN == 0))] ?_
     obtain rfl := os h
     exact Qcz.mk
    clear c0
    obtain rfl := os h
    exact Qcz.mk
   clear b5
   obtain rfl := os h
   exact Qcz.mk
  clear a9
  refine sN ?_
  refine rs0 hc 2 [(1,I n1),(2,.fn 189 []),(3,.fn 159 []),(4,I (wr (nodes4 + 1))),(5,.ra 1 0),(12,.bool a8),(64,.bool a0.ftyped)] [(1,K1w t0)] ?_
  obtain ⟨c4,c5,h⟩ := Qdd h
  refine Wp.into (x := .normal) (mkS [(1,I n1),(2,.fn 189 []),(3,.fn 159 []),(4,I (wr (nodes4 + 1))),(5,.ra 1 0),(12,.bool c4)] [(1,K1w t0)]) ?_ ?_
  ·replace h := c5
   refine ic h (fun c6 h => ?_) fun c6 h => ?_
   ·obtain ⟨c7,c8,h⟩ := Qdd h
    refine Wp.into (x := .normal) (mkS [(1,I n1),(2,.fn 189 []),(3,.fn 159 []),(4,I (wr (nodes4 + 1))),(5,.ra 1 0),(12,.bool c7)] [(1,K1w t0)]) ?_ ?_
    ·replace h := c8
     rcases is h with ⟨c9,h⟩ | ⟨c9,h⟩
     ·obtain ⟨d0,d1,h⟩ := Qdd h
      refine rgs hc none [oN,oN,oN,oN,oN,oc (.bool d0),oT,oN] [(1,I n1),(2,.fn 189 []),(3,.fn 159 []),(4,I (wr (nodes4 + 1))),(5,.ra 1 0),(12,.bool d0)] (ar 4 c9 (cq (Kej _ _ d1) K5a (ai c9 tv))) ?_
      obtain rfl := os h
      exact Qcz.mk
     refine rgs hc none [oN,oN,o_,o_,o_,o_,oF,oN] [(1,I n1),(2,.fn 189 []),(3,.fn 159 []),(4,I (wr (nodes4 + 1))),(5,.ra 1 0),(12,.bool false)] (ar 4 (neT c9) (ai c9 tv)) ?_
     obtain rfl := os h
     exact Qcz.mk
    clear c8
    obtain rfl := os h
    exact Qcz.mk
   obtain ⟨d2,d3,h⟩ := Qdd h
   refine Wp.into (x := .normal) (mkS [(1,I n1),(2,.fn 189 []),(3,.fn 159 []),(4,I (wr (nodes4 + 1))),(5,.ra 1 0),(12,.bool d2)] [(1,K1w t0)]) ?_ ?_
   ·replace h := d3
    rcases is h with ⟨d4,h⟩ | ⟨d4,h⟩
    ·refine rgs hc none [oN,oN,oN,oN,some (.eqv (.no) ⟨[(76,I (t0.fType.length : Int))],[],[]⟩),oN,oT,oN] [(1,I n1),(2,.fn 189 []),(3,.fn 159 []),(4,I (wr (nodes4 + 1))),(5,.ra 1 0),(12,.bool ((t0.fType.length : Int) == 0))] (ar 3 d4 (ai (Qdj (d := 76) I t0.fType) (ar 2 d4 tv))) ?_
     obtain rfl := os h
     exact Qcz.mk
    refine rgs hc none [oN,oN,o_,o_,o_,o_,oF,oN] [(1,I n1),(2,.fn 189 []),(3,.fn 159 []),(4,I (wr (nodes4 + 1))),(5,.ra 1 0),(12,.bool false)] (ar 4 (neT d4) (ai d4 tv)) ?_
    obtain rfl := os h
    exact Qcz.mk
   clear d3
   obtain rfl := os h
   exact Qcz.mk
  clear c5
  refine sN ?_
  refine K82 hc 2 [(1,I n1),(2,.fn 189 []),(3,.fn 159 []),(4,I (wr (nodes4 + 1))),(5,.ra 1 0),(80,.bool (!c4))] ?_
  rcases is h with ⟨d5,h⟩ | ⟨d5,h⟩
  ·refine cF (!c4) (nF d5) ?_
   refine sk ?_
   refine sN ?_
   refine rss hc none [oN,oN,some (.eqv (.no) ⟨[(83,I (t0.fKids.length : Int))],[],[]⟩),oN] [(1,I n1),(2,.fn 189 []),(3,.fn 159 []),(4,I (wr (nodes4 + 1))),(5,.ra 1 0),(82,.sl (List.map K0i t0.fKids)),(83,I (t0.fKids.length : Int)),(84,I 0)] (ai (Qdj (d := 83) K0i t0.fKids) tv) ?_
   refine bk 1 ?_
   obtain ⟨fl,d6,h⟩ := Qdd h
   have hL := impl_check_Kimpl_writtenSize_c1_Kimpl_isWrittenType_l0_ih _ _ d6 c hc
   refine lp ?_
   rcases fl with d7 | r
   ·refine WpL.into (e := (.exit 1)) (mkS [(4,I d7)] []) hL ?_
    refine Qcr ?_
    refine rs0 hc 2 [(10,I d7)] [] ?_
    refine rt ?_
    obtain rfl := os h
    exact rq [true]
   refine WpL.mono hL ?_
   rintro _ _ ⟨rfl,hfin⟩
   obtain rfl := os h
   exact ⟨.inl rfl,hfin⟩
  refine cT (!c4) (nT d5) ?_
  refine rs0 hc 1 [(10,I 401)] [] ?_
  refine rt ?_
  obtain rfl := os h
  exact rq [true]
 ·rintro impl_check_Kimpl_writtenSize_c1_Kimpl_isWrittenType_f impl_check_Kimpl_writtenSize_c1_Kimpl_isWrittenType_l0_f impl_check_Kimpl_writtenSize_c1_Kimpl_isWrittenType_ih impl_check_Kimpl_writtenSize_c1_Kimpl_isWrittenType_l0_ih ⟨t0,n1,d8,d9⟩ r h
  intro c hc
  refine WpL.step ?_
  refine K82 hc 1 [(1,I n1),(2,.fn 189 []),(3,.fn 159 []),(4,I d8),(5,.ra 1 0),(82,.sl (List.map K0i t0.fKids)),(83,I (t0.fKids.length : Int)),(84,I d9),(85,.bool (decide (d9 < (t0.fKids.length : Int))))] ?_
  refine sN ?_
  refine ic h (fun e0 h => ?_) fun e0 h => ?_
  ·refine sk ?_
   refine sN ?_
   refine bk 2 ?_
   obtain ⟨e1,e2,h⟩ := Qdd h
   refine rs hc none [oN,some (.el (K1x e1)),oN,some (.new 4),oN,oN] [(1,I n1),(2,.fn 189 []),(3,.fn 159 []),(4,I d8),(5,.ra 1 0),(13,I d9),(14,.ra 4 0),(82,.sl (List.map K0i t0.fKids)),(83,I (t0.fKids.length : Int)),(84,I d9)] [(1,K1w t0),(4,K1w e1)] (ai (Qdh e2 (K0p e1)) tv) ?_
   obtain ⟨e3,e4,e5,e6,h⟩ := bq2 h
   refine rs hc (rx [[0],[0],[0],[0,2],[0],[0,2,3,4],[0,1,2,3,4,5],[0],[0],[0],[10],[11]]) [oN,oN,oN,oN,oN,oc (I e3),oN,oN,oN,oN,oc (I e5),oN] [(1,I n1),(2,.fn 189 []),(3,.fn 159 []),(4,I e5),(5,.ra 1 0),(82,.sl (List.map K0i t0.fKids)),(83,I (t0.fKids.length : Int)),(84,I d9)] [(1,K1w t0)] (cq (Ki0 _ _ e4) K6g (cq (impl_check_Kimpl_writtenSize_c1_Kimpl_isWrittenType_ih _ _ e6) K6i tv)) ?_
   refine K82 hc 2 [(1,I n1),(2,.fn 189 []),(3,.fn 159 []),(4,I e5),(5,.ra 1 0),(82,.sl (List.map K0i t0.fKids)),(83,I (t0.fKids.length : Int)),(84,I d9),(101,.bool (decide (e5 > 400)))] ?_
   refine ic h (fun e7 h => ?_) fun e7 h => ?_
   ·refine rs0 hc 1 [(10,I 401)] [] ?_
    refine rt ?_
    obtain rfl := os h
    exact re [true]
   refine sk ?_
   refine K81 hc 2 [(1,I n1),(2,.fn 189 []),(3,.fn 159 []),(4,I e5),(5,.ra 1 0),(82,.sl (List.map K0i t0.fKids)),(83,I (t0.fKids.length : Int)),(84,I (wr (d9 + 1)))] ?_
   refine Qcv ?_
   exact (impl_check_Kimpl_writtenSize_c1_Kimpl_isWrittenType_l0_ih _ _ h c hc)
  refine xt 1 ?_
  refine Qcp ?_
  refine Qcw ?_
  obtain rfl := os h
  exact iv []
theorem Kmp : ∀ p r,Kmk p = some r → Kmm p r := Kmo.1
theorem Kmq : ∀ p r,Kml p = some r → Kmn p r := Kmo.2
def Kmr (t0 : K02) : Option (Int) :=
 (Kmk (t0,8,0)) >>= fun a0 =>
 some a0
def Kms (t0 : K02) (r : Int) : Prop :=
 Q71 Tryz.prog 112 [K1x t0] (I r) []
theorem Kmt : ∀ p r,Kmr p = some r → Kms p r := by
 rintro t0 r h
 unfold Kmr at h
 refine b0 Tryz.f112 K7s 5 [(0,K1x t0)] fun c hc => ?_
 refine rs hc none [some (.new 1),oN] [(1,.ra 1 0)] [(1,K1w t0)] tv ?_
 obtain ⟨a0,a1,h⟩ := Qdd h
 refine rs hc none [oN,oc (I a0),oN] [(2,I a0)] [] (cq (Kmp _ _ a1) K6i tv) ?_
 refine rt ?_
 obtain rfl := os h
 exact rq [true]
def Kmu (t0 : K02) : Option (Bool) :=
 (Kmr t0) >>= fun a0 =>
 some (decide (a0 ≤ 400))
def Kmv (t0 : K02) (r : Bool) : Prop :=
 Q71 Tryz.prog 40 [K1x t0] (.bool r) []
theorem Kmw : ∀ p r,Kmu p = some r → Kmv p r := by
 rintro t0 r h
 unfold Kmu at h
 refine b0 Tryz.f40 B40 6 [(0,K1x t0)] fun c hc => ?_
 refine rs hc none [some (.new 1),oN] [(1,.ra 1 0)] [(1,K1w t0)] tv ?_
 obtain ⟨a0,a1,h⟩ := Qdd h
 refine rs hc none [oN,oc (I a0),oN,oN] [(2,.bool (decide (a0 ≤ 400)))] [] (cq (Kmt _ _ a1) K7t tv) ?_
 refine rt ?_
 obtain rfl := os h
 exact rq [true]
def Kmx (t0 : K02) : Option (Bool) :=
 if ((t0.fKids.length : Int) == 0) = true then
 some false
 else
 (idx t0.fKids 0) >>= fun a0 =>
 if (t0.fOp == 2) = true then
 ((
 if (a0.fOp == 1) = true then
 (idx t0.fKids 1) >>= fun a1 =>
 some ((a1.fOp == 1))
 else
 some (false)
 ) : Option (Bool)) >>= fun a2 =>
 some a2
 else
 if (t0.fOp == 3) = true then
 some (a0.fOp == 1)
 else
 if (t0.fOp == 10) = true then
 some (a0.fOp == 9)
 else
 if (t0.fOp == 5) = true then
 some (a0.fOp == 4)
 else
 if (t0.fOp == 8) = true then
 ((
 if (a0.fOp == 6) = true then
 some (true)
 else
 some ((a0.fOp == 7))
 ) : Option (Bool)) >>= fun a3 =>
 some a3
 else
 if (t0.fOp == 12) = true then
 some (a0.fOp == 11)
 else
 some false
def Kmy (t0 : K02) (r : Bool) : Prop :=
 Q71 Tryz.prog 128 [K1x t0] (.bool r) []
theorem Kmz : ∀ p r,Kmx p = some r → Kmy p r := by
 rintro t0 r h
 unfold Kmx at h
 refine b0 Tryz.f128 K7v 51 [(0,K1x t0)] fun c hc => ?_
 refine rs hc none [some (.new 1),oN] [(1,.ra 1 0)] [(1,K1w t0)] tv ?_
 refine sN ?_
 refine rss hc none [oN,oN,some (.eqv (.no) ⟨[(6,I (t0.fKids.length : Int))],[],[]⟩),oN] [(1,.ra 1 0),(7,.bool ((t0.fKids.length : Int) == 0))] (ai (Qdj (d := 6) K0i t0.fKids) tv) ?_
 refine ic h (fun a0 h => ?_) fun a0 h => ?_
 ·refine rs0 hc 1 [(2,.bool false)] [] ?_
  refine rt ?_
  obtain rfl := os h
  exact rq [true]
 refine sk ?_
 obtain ⟨a1,a2,h⟩ := Qdd h
 refine rss hc none [oN,oN,some (.el (K1x a1)),oN,oN,oN] [(1,.ra 1 0),(3,I a1.fOp)] (ai (Qdh a2 (K0p a1)) tv) ?_
 refine sN ?_
 refine K82 hc 2 [(1,.ra 1 0),(3,I a1.fOp),(14,I t0.fOp)] ?_
 refine bk 0 ?_
 refine K82 hc 2 [(1,.ra 1 0),(3,I a1.fOp),(14,I t0.fOp),(15,.bool (t0.fOp == 2))] ?_
 refine ic h (fun a3 h => ?_) fun a3 h => ?_
 ·refine sN ?_
  obtain ⟨a4,a5,h⟩ := Qdd h
  refine Wp.into (x := .normal) (mkS [(2,.bool a4)] []) ?_ ?_
  ·replace h := a5
   rcases is h with ⟨a6,h⟩ | ⟨a6,h⟩
   ·obtain ⟨a7,a8,h⟩ := Qdd h
    refine rg hc none [oN,oN,oN,oN,oN,some (.el (K1x a7)),oN,oN,oN,oT,oN] [(2,.bool (a7.fOp == 1))] [] (ar 3 a6 (ai (Qdh a8 (K0p a7)) (ar 4 a6 tv))) ?_
    obtain rfl := os h
    exact Qcz.mk
   refine rg hc none [oN,oN,oN,o_,o_,o_,o_,o_,o_,oF,oN] [(2,.bool false)] [] (ar 6 (neT a6) (ai a6 tv)) ?_
   obtain rfl := os h
   exact Qcz.mk
  clear a5
  refine rt ?_
  obtain rfl := os h
  exact rq [true]
 refine rs0 hc 2 [(3,I a1.fOp),(14,I t0.fOp),(27,.bool (t0.fOp == 3))] [] ?_
 refine ic h (fun a9 h => ?_) fun a9 h => ?_
 ·refine rs0 hc 3 [(2,.bool (a1.fOp == 1))] [] ?_
  refine rt ?_
  obtain rfl := os h
  exact rq [true]
 refine rs0 hc 2 [(3,I a1.fOp),(14,I t0.fOp),(31,.bool (t0.fOp == 10))] [] ?_
 refine ic h (fun b1 h => ?_) fun b1 h => ?_
 ·refine rs0 hc 3 [(2,.bool (a1.fOp == 9))] [] ?_
  refine rt ?_
  obtain rfl := os h
  exact rq [true]
 refine rs0 hc 2 [(3,I a1.fOp),(14,I t0.fOp),(35,.bool (t0.fOp == 5))] [] ?_
 refine ic h (fun b2 h => ?_) fun b2 h => ?_
 ·refine rs0 hc 3 [(2,.bool (a1.fOp == 4))] [] ?_
  refine rt ?_
  obtain rfl := os h
  exact rq [true]
 refine rs0 hc 2 [(3,I a1.fOp),(14,I t0.fOp),(39,.bool (t0.fOp == 8))] [] ?_
 refine ic h (fun b3 h => ?_) fun b3 h => ?_
 ·refine sN ?_
  obtain ⟨b4,b5,h⟩ := Qdd h
  refine Wp.into (x := .normal) (mkS [(2,.bool b4)] []) ?_ ?_
  ·replace h := b5
   rcases is h with ⟨b6,h⟩ | ⟨b6,h⟩
   ·refine rg hc none [oN,oN,oN,o_,o_,oT,oN] [(2,.bool true)] [] (ar 2 (neF b6) (ai b6 tv)) ?_
    obtain rfl := os h
    exact Qcz.mk
   refine rg hc none [oN,oN,oN,oN,oN,oF,oN] [(2,.bool (a1.fOp == 7))] [] (ar 3 b6 tv) ?_
   obtain rfl := os h
   exact Qcz.mk
  clear b5
  refine rt ?_
  obtain rfl := os h
  exact rq [true]
 refine rs0 hc 2 [(3,I a1.fOp),(47,.bool (t0.fOp == 12))] [] ?_
 refine ic h (fun b7 h => ?_) fun b7 h => ?_
 ·refine rs0 hc 3 [(2,.bool (a1.fOp == 11))] [] ?_
  refine rt ?_
  obtain rfl := os h
  exact rq [true]
 refine sk ?_
 refine rs0 hc 1 [(2,.bool false)] [] ?_
 refine rt ?_
 obtain rfl := os h
 exact rq [true]
def Kn0 (c : Ctx) : LL → Exit → Q0a → Prop
 | a0 => Qcz c (.exit 0) (mkS [(5,.rs 4)] [(4,.arr (List.map K0x a0))])
mutual
def Kn1 (p : K02 × (List Int)) : Option (LL) :=
 match p with
 | (t0,path1) =>
  (Kmx t0) >>= fun a0 =>
  ((
  if a0 = true then
  (Kh3 path1) >>= fun a1 =>
  (Qdq (([] : LL).length + [a1].length) 24) >>= fun _ =>
  some ([a1])
  else
  some ([])
  ) : Option (LL)) >>= fun a2 =>
  (Kn2 (t0,path1,a2,0)) >>= fun a3 =>
  some a3
 partial_fixpoint
def Kn2 (p : K02 × (List Int) × LL × Int) : Option (LL) :=
 match p with
 | (t0,path1,a0,a1) =>
  if (decide (a1 < (t0.fKids.length : Int))) = true then
  (idx t0.fKids a1) >>= fun a2 =>
  (Kh3 path1) >>= fun a3 =>
  (Qdq (a3.length + [a1].length) 8) >>= fun _ =>
  (Kn1 (a2,(a3 ++ [a1]))) >>= fun a4 =>
  (Qdq (a0.length + a4.length) 24) >>= fun _ =>
  Kn2 (t0,path1,(a0 ++ a4),(wr (a1 + 1)))
  else
  some (a0)
 partial_fixpoint
end
def Kn3 (p : K02 × (List Int)) (r : LL) : Prop :=
 match p with
 | (t0,path1) => Q71 Tryz.prog 103 [K1x t0,sI path1] (.osl (List.map K0x r)) []
def Kn4 (p : K02 × (List Int) × LL × Int) (fl : LL) : Prop :=
 match p with
 | (t0,path1,a0,a1) => ∀ c : Ctx,c.nt = 34 → WpL Tryz.prog c (cl (cl (cr (cl (cr (cr (cr K7x))))))) (Kn0 c fl) (mkS [(1,sI path1),(5,.rs 4),(16,.sl (List.map K0i t0.fKids)),(17,I (t0.fKids.length : Int)),(18,I a1)] [(4,.arr (List.map K0x a0))])
theorem Kn5 : (∀ p r,Kn1 p = some r → Kn3 p r) ∧ (∀ p r,Kn2 p = some r → Kn4 p r) := by
 refine Kn1.mutual_partial_correctness Kn3 Kn4 ?_ ?_
 ·rintro impl_redexes_l0_f impl_redexes_l0_ih ⟨t0,path1⟩ r h
  refine b0 Tryz.f103 K7x 34 [(0,K1x t0),(1,sI path1)] fun c hc => ?_
  refine rs hc none [some (.new 1),oN] [(1,sI path1),(2,.ra 1 0)] [(1,K1w t0)] tv ?_
  refine K82 hc 1 [(1,sI path1),(2,.ra 1 0),(5,.nils)] ?_
  refine sN ?_
  obtain ⟨a0,a1,h⟩ := Qdd h
  refine rss hc none [oN,oc (.bool a0)] [(1,sI path1),(2,.ra 1 0),(5,.nils),(9,.bool a0)] (cq (Kmz _ _ a1) K7w tv) ?_
  obtain ⟨a2,a3,h⟩ := Qdd h
  refine Wp.into (x := .normal) (mkS [(1,sI path1),(2,.ra 1 0),(5,.rs 4)] [(1,K1w t0),(4,.arr (List.map K0x a2))]) ?_ ?_
  ·replace h := a3
   refine ic h (fun a4 h => ?_) fun a4 h => ?_
   ·obtain ⟨a5,a6,_,a7,h⟩ := bq2 h
    refine rg hc none [oN,oN,some (.call (oI a5) [] 2),some (.mk 3 true),some (.eqv (.mk 4 true) ⟨[(14,.rs 4)],[(4,some (.arr (List.map K0x [a5]))),(3,none)],[4]⟩),oN] [(1,sI path1),(2,.ra 1 0),(5,.rs 4)] [(1,K1w t0),(4,.arr (List.map K0x [a5]))] (cq (Kh5 _ _ a6) K61 (ab (congrArg (fun z => (⟨[(14,.rs 4)],[(4,some (.arr z)),(3,none)],[4]⟩ : Wr)) (List.nil_append _ : [] ++ (List.map K0x [a5]) = List.map K0x [a5])) (Qdr (enc1 := K0x) (enc2 := K0x) (e1 := []) (e2 := [a5]) (sz := 1) K10 K10 a7) tv)) ?_
    obtain rfl := os h
    exact Qcz.mk
   refine sk ?_
   obtain rfl := os h
   exact Qcz.view (fun a w hv => SRx.renL [(4,5)] (SRx.nilTL 5 5 hv (by kernel_rfl) (by kernel_rfl)) (by kernel_rfl) (by kernel_rfl) (by kernel_rfl))
  clear a3
  refine sN ?_
  refine rs hc none [oN,oN,some (.eqv (.no) ⟨[(17,I (t0.fKids.length : Int))],[],[]⟩),oN] [(1,sI path1),(5,.rs 4),(16,.sl (List.map K0i t0.fKids)),(17,I (t0.fKids.length : Int)),(18,I 0)] [(4,.arr (List.map K0x a2))] (ai (Qdj (d := 17) K0i t0.fKids) tv) ?_
  refine bk 0 ?_
  obtain ⟨a8,a9,h⟩ := Qdd h
  have hL := impl_redexes_l0_ih _ _ a9 c hc
  refine lp ?_
  refine WpL.into (e := (.exit 0)) (mkS [(5,.rs 4)] [(4,.arr (List.map K0x a8))]) hL ?_
  refine Qcr ?_
  refine K82 hc 2 [(4,.rs 4)] ?_
  refine rt ?_
  obtain rfl := os h
  exact rq [true]
 ·rintro impl_redexes_f impl_redexes_l0_f impl_redexes_ih impl_redexes_l0_ih ⟨t0,path1,b1,b2⟩ r h
  intro c hc
  refine WpL.step ?_
  refine K82 hc 1 [(1,sI path1),(5,.rs 4),(16,.sl (List.map K0i t0.fKids)),(17,I (t0.fKids.length : Int)),(18,I b2),(19,.bool (decide (b2 < (t0.fKids.length : Int))))] ?_
  refine sN ?_
  refine ic h (fun b3 h => ?_) fun b3 h => ?_
  ·refine sk ?_
   refine sN ?_
   refine bk 1 ?_
   obtain ⟨b4,b5,h⟩ := Qdd h
   refine rs hc none [oN,some (.el (K1x b4)),oN,some (.new 12),oN,oN] [(1,sI path1),(5,.rs 4),(6,I b2),(7,.ra 12 0),(16,.sl (List.map K0i t0.fKids)),(17,I (t0.fKids.length : Int)),(18,I b2)] [(4,.arr (List.map K0x b1)),(12,K1w b4)] (ai (Qdh b5 (K0p b4)) tv) ?_
   obtain ⟨b6,b7,_,b8,b9,c0,_,c1,h⟩ := bq4 h
   refine rg hc (rx [[0],[0],[0],[0,2],[0],[0,4],[0,2,3,4,5],[0,1,2,3,4,5,6],[8],[9]]) [oN,oN,oN,some (.call (oI b6) [] 13),oN,some (.mk 14 true),some (.eqv (.mk 15 true) ⟨[(29,.rs 15)],[(15,some (rI (b6 ++ [b2]))),(13,none),(14,none)],[15]⟩),some (.call (.osl (List.map K0x b9)) [] 16),some (.eqv (.mk 17 true) ⟨[(31,.rs 17)],[(17,some (.arr (List.map K0x (b1 ++ b9)))),(4,none),(16,none)],[17]⟩),oN] [(1,sI path1),(5,.rs 17),(16,.sl (List.map K0i t0.fKids)),(17,I (t0.fKids.length : Int)),(18,I b2)] [(17,.arr (List.map K0x (b1 ++ b9)))] (cq (Kh5 _ _ b7) K61 (ad (congrArg (fun z => (⟨[(29,.rs 15)],[(15,some (.arr z)),(13,none),(14,none)],[15]⟩ : Wr)) ((List.map_append).symm : (List.map I b6) ++ (List.map I [b2]) = List.map I (b6 ++ [b2]))) (Qdr (enc1 := I) (enc2 := I) (e1 := b6) (e2 := [b2]) (sz := 1) Qe0 Qe0 b8) (Q71.args (A1 := [K1x b4,.sl (Q02 (List.map I (b6 ++ [b2])))]) (A2 := [K1x b4,sI (b6 ++ [b2])]) (by simp only [List.map_nil,Qe5]) (impl_redexes_ih _ _ c0)) K7y (ac (Or.inr (Qed K17 b9) : ([15] : List Nat) = [] ∨ noSh (.osl (List.map K0x b9)) = true) (congrArg (fun z => (⟨[(31,.rs 17)],[(17,some (.arr z)),(4,none),(16,none)],[17]⟩ : Wr)) ((List.map_append).symm : (List.map K0x b1) ++ (List.map K0x b9) = List.map K0x (b1 ++ b9))) (Qdr (enc1 := K0x) (enc2 := K0x) (e1 := b1) (e2 := b9) (sz := 1) K10 K10 c1) tv))) ?_
   refine K81 hc 2 [(1,sI path1),(5,.rs 17),(16,.sl (List.map K0i t0.fKids)),(17,I (t0.fKids.length : Int)),(18,I (wr (b2 + 1)))] ?_
   refine Qcv ?_
   exact WpL.view (fun a w hv => SRx.renL [(4,17)] hv (by kernel_rfl) (by kernel_rfl) (by kernel_rfl)) (impl_redexes_l0_ih _ _ h c hc)
  refine xt 0 ?_
  refine Qcp ?_
  refine Qcw ?_
  obtain rfl := os h
  exact iv []
theorem Kn6 : ∀ p r,Kn1 p = some r → Kn3 p r := Kn5.1
theorem Kn7 : ∀ p r,Kn2 p = some r → Kn4 p r := Kn5.2
def Kn8 (t0 : K02) : Option (Bool) :=
 ((
 (Kmu t0) >>= fun a0 =>
 if a0 = true then
 (Kn1 (t0,[])) >>= fun a1 =>
 some (((a1.length : Int) == 0))
 else
 some (false)
 ) : Option (Bool)) >>= fun a2 =>
 some a2
def Kn9 (t0 : K02) (r : Bool) : Prop :=
 Q71 Tryz.prog 34 [K1x t0] (.bool r) []
theorem Kna : ∀ p r,Kn8 p = some r → Kn9 p r := by
 rintro t0 r h
 unfold Kn8 at h
 refine b0 Tryz.f34 B34 11 [(0,K1x t0)] fun c hc => ?_
 refine rs hc none [some (.new 1),oN] [(1,.ra 1 0)] [(1,K1w t0)] tv ?_
 refine sN ?_
 obtain ⟨a0,a1,h⟩ := Qdd h
 refine Wp.into (x := .normal) (mkS [(2,.bool a0)] []) ?_ ?_
 ·replace h := a1
  obtain ⟨a2,a3,h⟩ := Qdd h
  rcases is h with ⟨a4,h⟩ | ⟨a4,h⟩
  ·obtain ⟨a5,a6,h⟩ := Qdd h
   refine rg hc none [oN,oc (.bool a2),oN,oN,some (.call (.osl (List.map K0x a5)) [] 2),some (.eqv (.no) ⟨[(8,I (a5.length : Int))],[],[]⟩),oN,oT,oN] [(2,.bool ((a5.length : Int) == 0))] [] (cq (Kmw _ _ a3) K7u (ar 2 a4 (cq (Q71.args (A1 := [K1x t0,.sl []]) (A2 := [K1x t0,.sl (List.map I [])]) (by simp only [List.map_nil]) (Kn6 _ _ a6)) K7y (ab a4 (Qdj (d := 8) K0x a5) (ar 2 a4 tv))))) ?_
   obtain rfl := os h
   exact Qcz.mk
  refine rg hc none [oN,oc (.bool a2),oN,o_,o_,o_,o_,oF,oN] [(2,.bool false)] [] (cq (Kmw _ _ a3) K7u (ar 4 (neT a4) (ai a4 tv))) ?_
  obtain rfl := os h
  exact Qcz.mk
 clear a1
 refine rt ?_
 obtain rfl := os h
 exact rq [true]
def Knb (code0 : (List Int)) : Option (Bool) :=
 (K84 code0) >>= fun a0 =>
 if a0 = true then
 some true
 else
 (Ke5 code0) >>= fun (a1,a2,a3) =>
 (Kh0 (a1,a2)) >>= fun a4 =>
 (Kh9 (a1,a2,a3)) >>= fun (a5,a6) =>
 ((
 if (decide (a3 ≥ 0)) = true then
 some ((!(a6 == (decide (a3 < a4)))))
 else
 some ((!(a6 == false)))
 ) : Option (Bool)) >>= fun a7 =>
 if a7 = true then
 some false
 else
 if a6 = true then
 (Klr (a1,[],a5)) >>= fun (a8,a9,b1) =>
 ((
 if b1 = true then
 if ((a9.length : Int) == 0) = true then
 (Kly (a8,a2)) >>= fun b2 =>
 if b2 = true then
 (Km7 (a1,a2,a5)) >>= fun b3 =>
 if b3 = true then
 (Kmd (a1,a2,a5)) >>= fun b4 =>
 if (b4 == a3) = true then
 (Kn8 a5) >>= fun b5 =>
 some (b5)
 else
 some (false)
 else
 some (false)
 else
 some (false)
 else
 some (false)
 else
 some (false)
 ) : Option (Bool)) >>= fun b6 =>
 some b6
 else
 ((
 if (decide (a3 < 0)) = true then
 some (true)
 else
 (Ke2 (a1,a2)) >>= fun b7 =>
 some ((decide (a3 ≥ b7)))
 ) : Option (Bool)) >>= fun b8 =>
 some b8
def Knc (code0 : (List Int)) (r : Bool) : Prop :=
 Q71 Tryz.prog 5 [.sl (List.map U8 code0)] (.bool r) []
theorem Knd : ∀ p r,Knb p = some r → Knc p r := by
 rintro code0 r h
 unfold Knb at h
 refine b0 Tryz.f5 B5 86 [(0,.sl (List.map U8 code0))] fun c hc => ?_
 refine rs0 hc 1 [(0,.sl (List.map U8 code0))] [] ?_
 refine sN ?_
 obtain ⟨a0,a1,h⟩ := Qdd h
 refine rs hc none [oN,oc (.bool a0)] [(0,.sl (List.map U8 code0)),(13,.bool a0)] [] (cq (K86 _ _ a1) K2x tv) ?_
 refine ic h (fun a2 h => ?_) fun a2 h => ?_
 ·refine rs0 hc 1 [(2,.bool true)] [] ?_
  refine rt ?_
  obtain rfl := os h
  exact rq [true]
 refine sk ?_
 obtain ⟨⟨a3,a4,a5⟩,a6,h⟩ := Qdd h
 refine rs hc none [oN,oc (.tup [K1t a3,sI a4,I a5]),oN,oN,oN,oN,some (.new 1),oN,oN,oN] [(3,.ra 1 0),(4,sI a4),(5,I a5)] [(1,K1s a3)] (cq (Ke7 _ _ a6) K53 tv) ?_
 obtain ⟨a7,a8,h⟩ := Qdd h
 refine rss hc none [oN,oN,oc (I a7),oN] [(3,.ra 1 0),(4,sI a4),(5,I a5),(6,I a7)] (cq (Kh2 _ _ a8) K5z tv) ?_
 obtain ⟨⟨a9,b1⟩,b2,h⟩ := Qdd h
 refine rs hc none [oN,oN,oN,some (.call (.tup [K26 a9,.bool b1]) [] 2),oN,oN,oN,some (.new 4),oN,oN] [(3,.ra 1 0),(4,sI a4),(5,I a5),(6,I a7),(7,.ra 4 0),(8,.bool b1)] [(1,K1s a3),(2,rI a9.fType),(3,.arr (List.map K0l a9.fKids)),(4,.box [I a9.fOp,I a9.fN,.rs 2,.rs 3])] (cq (Khb _ _ b2) K62 tv) ?_
 refine sN ?_
 refine sN ?_
 obtain ⟨b3,b4,h⟩ := Qdd h
 refine Wp.into (x := .normal) (mkS [(3,.ra 1 0),(4,sI a4),(5,I a5),(7,.ra 4 0),(8,.bool b1),(38,.bool b3)] [(1,K1s a3),(2,rI a9.fType),(3,.arr (List.map K0l a9.fKids)),(4,.box [I a9.fOp,I a9.fN,.rs 2,.rs 3])]) ?_ ?_
 ·replace h := b4
  rcases is h with ⟨b5,h⟩ | ⟨b5,h⟩
  ·refine rgs hc none [oN,oN,oN,oN,oN,oN,oN,oT,oN] [(3,.ra 1 0),(4,sI a4),(5,I a5),(7,.ra 4 0),(8,.bool b1),(38,.bool (!(b1 == (decide (a5 < a7)))))] (ar 4 b5 tv) ?_
   obtain rfl := os h
   exact Qcz.mk
  refine rgs hc none [oN,oN,oN,oN,o_,o_,o_,oF,oN] [(3,.ra 1 0),(4,sI a4),(5,I a5),(7,.ra 4 0),(8,.bool b1),(38,.bool (!(b1 == false)))] (ar 3 (neT b5) (ai b5 tv)) ?_
  obtain rfl := os h
  exact Qcz.mk
 clear b4
 refine ic h (fun b6 h => ?_) fun b6 h => ?_
 ·refine rs0 hc 1 [(2,.bool false)] [] ?_
  refine rt ?_
  obtain rfl := os h
  exact rq [true]
 refine sk ?_
 refine sN ?_
 refine K82 hc 2 [(3,.ra 1 0),(4,sI a4),(5,I a5),(7,.ra 4 0),(40,.bool (!b1))] ?_
 rcases is h with ⟨b7,h⟩ | ⟨b7,h⟩
 ·refine cF (!b1) (nF b7) ?_
  refine sk ?_
  obtain ⟨⟨b8,b9,c0⟩,c1,h⟩ := Qdd h
  refine rs hc none [oN,oN,some (.call (.tup [oI b8,oI b9,.bool c0]) [] 5),oN,oN,oN,oN,oN,oN,oN] [(3,.ra 1 0),(4,sI a4),(5,I a5),(7,.ra 4 0),(9,.rs 5),(10,.rs 6),(11,.bool c0)] [(1,K1s a3),(2,rI a9.fType),(3,.arr (List.map K0l a9.fKids)),(4,.box [I a9.fOp,I a9.fN,.rs 2,.rs 3]),(5,rI b8),(6,rI b9)] (ac (Q71.args (A1 := [K1t a3,.sl [],K27 a9]) (A2 := [K1t a3,.sl (List.map K11 []),K1x a9]) (by simp only [K27,List.map_nil,K1f,Qe5]) (Klt _ _ c1)) K7k (Or.inr (Qef (Qed Qe9 b8) (Qef (Qed Qe9 b9) (Qef rfl rfl))) : ([2,3] : List Nat) = [] ∨ noSh (.tup [oI b8,oI b9,.bool c0]) = true) tv) ?_
  refine sN ?_
  obtain ⟨c2,c3,h⟩ := Qdd h
  refine Wp.into (x := .normal) (mkS [(2,.bool c2)] []) ?_ ?_
  ·replace h := c3
   rcases is h with ⟨c4,h⟩ | ⟨c4,h⟩
   ·rcases is h with ⟨c5,h⟩ | ⟨c5,h⟩
    ·obtain ⟨c6,c7,h⟩ := Qdd h
     rcases is h with ⟨c8,h⟩ | ⟨c8,h⟩
     ·obtain ⟨c9,d0,h⟩ := Qdd h
      rcases is h with ⟨d1,h⟩ | ⟨d1,h⟩
      ·obtain ⟨d2,d3,h⟩ := Qdd h
       rcases is h with ⟨d4,h⟩ | ⟨d4,h⟩
       ·obtain ⟨d5,d6,h⟩ := Qdd h
        refine rg hc none [oN,oN,oN,some (.eqv (.no) ⟨[(60,I (b9.length : Int))],[],[]⟩),oN,oT,oN,oN,oN,oc (.bool c6),oT,oN,oN,oN,oN,oc (.bool c9),oT,oN,oN,oN,oN,oc (I d2),oN,oN,oT,oN,oN,oc (.bool d5),oT,oN] [(2,.bool d5)] [] (ar 2 c4 (ai (Qdj (d := 60) I b9) (ar 2 c4 (ar 3 c5 (ad (Q71.args (A1 := [.sl (Q02 (List.map I b8)),sI a4]) (A2 := [sI b8,sI a4]) (by simp only [List.map_nil,Qe5]) (Km0 _ _ c7)) K7l (Or.inr rfl : ([5] : List Nat) = [] ∨ noSh (.bool c6) = true) c5 (ar 4 c8 (ad (Q71.args (A1 := [K1t a3,sI a4,K27 a9]) (A2 := [K1t a3,sI a4,K1x a9]) (by simp only [K27,List.map_nil,K1f,Qe5]) (Km9 _ _ d0)) K7n (Or.inr rfl : ([2,3] : List Nat) = [] ∨ noSh (.bool c9) = true) c8 (ar 4 d1 (ac (Q71.args (A1 := [K1t a3,sI a4,K27 a9]) (A2 := [K1t a3,sI a4,K1x a9]) (by simp only [K27,List.map_nil,K1f,Qe5]) (Kmf _ _ d3)) K7p (Or.inr rfl : ([2,3] : List Nat) = [] ∨ noSh (I d2) = true) (ar 3 d1 (ar 2 d4 (ad (Q71.args (A1 := [K27 a9]) (A2 := [K1x a9]) (by simp only [K27,List.map_nil,K1f,Qe5]) (Kna _ _ d6)) K7z (Or.inr rfl : ([2,3] : List Nat) = [] ∨ noSh (.bool d5) = true) d4 tv)))))))))))) ?_
        obtain rfl := os h
        exact Qcz.mk
       refine rg hc none [oN,oN,oN,some (.eqv (.no) ⟨[(60,I (b9.length : Int))],[],[]⟩),oN,oT,oN,oN,oN,oc (.bool c6),oT,oN,oN,oN,oN,oc (.bool c9),oT,oN,oN,oN,oN,oc (I d2),oN,oN,oT,oN,o_,o_,oF,oN] [(2,.bool false)] [] (ar 2 c4 (ai (Qdj (d := 60) I b9) (ar 2 c4 (ar 3 c5 (ad (Q71.args (A1 := [.sl (Q02 (List.map I b8)),sI a4]) (A2 := [sI b8,sI a4]) (by simp only [List.map_nil,Qe5]) (Km0 _ _ c7)) K7l (Or.inr rfl : ([5] : List Nat) = [] ∨ noSh (.bool c6) = true) c5 (ar 4 c8 (ad (Q71.args (A1 := [K1t a3,sI a4,K27 a9]) (A2 := [K1t a3,sI a4,K1x a9]) (by simp only [K27,List.map_nil,K1f,Qe5]) (Km9 _ _ d0)) K7n (Or.inr rfl : ([2,3] : List Nat) = [] ∨ noSh (.bool c9) = true) c8 (ar 4 d1 (ac (Q71.args (A1 := [K1t a3,sI a4,K27 a9]) (A2 := [K1t a3,sI a4,K1x a9]) (by simp only [K27,List.map_nil,K1f,Qe5]) (Kmf _ _ d3)) K7p (Or.inr rfl : ([2,3] : List Nat) = [] ∨ noSh (I d2) = true) (ar 3 d1 (ar 2 (neT d4) (ai d4 tv)))))))))))) ?_
       obtain rfl := os h
       exact Qcz.mk
      refine rg hc none [oN,oN,oN,some (.eqv (.no) ⟨[(60,I (b9.length : Int))],[],[]⟩),oN,oT,oN,oN,oN,oc (.bool c6),oT,oN,oN,oN,oN,oc (.bool c9),oT,oN,o_,o_,o_,o_,o_,o_,oF,oN,o_,o_,oF,oN] [(2,.bool false)] [] (ar 2 c4 (ai (Qdj (d := 60) I b9) (ar 2 c4 (ar 3 c5 (ad (Q71.args (A1 := [.sl (Q02 (List.map I b8)),sI a4]) (A2 := [sI b8,sI a4]) (by simp only [List.map_nil,Qe5]) (Km0 _ _ c7)) K7l (Or.inr rfl : ([5] : List Nat) = [] ∨ noSh (.bool c6) = true) c5 (ar 4 c8 (ad (Q71.args (A1 := [K1t a3,sI a4,K27 a9]) (A2 := [K1t a3,sI a4,K1x a9]) (by simp only [K27,List.map_nil,K1f,Qe5]) (Km9 _ _ d0)) K7n (Or.inr rfl : ([2,3] : List Nat) = [] ∨ noSh (.bool c9) = true) c8 (ar 6 (neT d1) (ai d1 (ar 2 (neT (rfl : false = false)) (ai (rfl : false = false) tv))))))))))) ?_
      obtain rfl := os h
      exact Qcz.mk
     refine rg hc none [oN,oN,oN,some (.eqv (.no) ⟨[(60,I (b9.length : Int))],[],[]⟩),oN,oT,oN,oN,oN,oc (.bool c6),oT,oN,o_,o_,o_,o_,oF,oN,o_,o_,o_,o_,o_,o_,oF,oN,o_,o_,oF,oN] [(2,.bool false)] [] (ar 2 c4 (ai (Qdj (d := 60) I b9) (ar 2 c4 (ar 3 c5 (ad (Q71.args (A1 := [.sl (Q02 (List.map I b8)),sI a4]) (A2 := [sI b8,sI a4]) (by simp only [List.map_nil,Qe5]) (Km0 _ _ c7)) K7l (Or.inr rfl : ([5] : List Nat) = [] ∨ noSh (.bool c6) = true) c5 (ar 4 (neT c8) (ai c8 (ar 6 (neT (rfl : false = false)) (ai (rfl : false = false) (ar 2 (neT (rfl : false = false)) (ai (rfl : false = false) tv))))))))))) ?_
     obtain rfl := os h
     exact Qcz.mk
    refine rg hc none [oN,oN,oN,some (.eqv (.no) ⟨[(60,I (b9.length : Int))],[],[]⟩),oN,oT,oN,o_,o_,o_,oF,oN,o_,o_,o_,o_,oF,oN,o_,o_,o_,o_,o_,o_,oF,oN,o_,o_,oF,oN] [(2,.bool false)] [] (ar 2 c4 (ai (Qdj (d := 60) I b9) (ar 2 c4 (ar 3 (neT c5) (ai c5 (ar 4 (neT (rfl : false = false)) (ai (rfl : false = false) (ar 6 (neT (rfl : false = false)) (ai (rfl : false = false) (ar 2 (neT (rfl : false = false)) (ai (rfl : false = false) tv))))))))))) ?_
    obtain rfl := os h
    exact Qcz.mk
   refine rg hc none [oN,oN,o_,o_,o_,oF,oN,o_,o_,o_,oF,oN,o_,o_,o_,o_,oF,oN,o_,o_,o_,o_,o_,o_,oF,oN,o_,o_,oF,oN] [(2,.bool false)] [] (ar 3 (neT c4) (ai c4 (ar 3 (neT (rfl : false = false)) (ai (rfl : false = false) (ar 4 (neT (rfl : false = false)) (ai (rfl : false = false) (ar 6 (neT (rfl : false = false)) (ai (rfl : false = false) (ar 2 (neT (rfl : false = false)) (ai (rfl : false = false) tv)))))))))) ?_
   obtain rfl := os h
   exact Qcz.mk
  clear c3
  refine rt ?_
  obtain rfl := os h
  exact rq [true]
 refine cT (!b1) (nT b7) ?_
 refine sN ?_
 obtain ⟨d7,d8,h⟩ := Qdd h
 refine Wp.into (x := .normal) (mkS [(2,.bool d7)] []) ?_ ?_
 ·replace h := d8
  rcases is h with ⟨d9,h⟩ | ⟨d9,h⟩
  ·refine rg hc none [oN,oN,oN,o_,o_,o_,o_,o_,oT,oN] [(2,.bool true)] [] (ar 5 (neF d9) (ai d9 tv)) ?_
   obtain rfl := os h
   exact Qcz.mk
  obtain ⟨e0,e1,h⟩ := Qdd h
  refine rg hc none [oN,oN,oN,oN,oN,oN,oc (I e0),oN,oF,oN] [(2,.bool (decide (a5 ≥ e0)))] [] (ar 4 d9 (cq (Ke4 _ _ e1) K52 (ar 2 d9 tv))) ?_
  obtain rfl := os h
  exact Qcz.mk
 clear d8
 refine rt ?_
 obtain rfl := os h
 exact rq [true]
end Go.Am
