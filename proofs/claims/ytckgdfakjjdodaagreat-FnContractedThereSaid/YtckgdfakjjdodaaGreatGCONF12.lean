/- Walks, printed. -/
import Derived.Test.YtckgdfakjjdodaaGreatGCONF10
set_option linter.unusedVariables false
set_option linter.unusedSimpArgs false
set_option maxRecDepth 100000
namespace Go.Am
open Go Go.Proofs
mutual
def Km1 (p : K00 × Int × Int) : Option (Int) :=
 match p with
 | (t0,n1,nodes4) =>
  (Kj1 t0.fOp) >>= fun (a0,a1) =>
  ((
  if a1 = true then
  if (decide ((wr (nodes4 + 1)) > 400)) = true then
   some (true)
  else
   some (((t0.fKids.length : Int) != a0.fkids))
  else
  some (true)
  ) : Option (Bool)) >>= fun a2 =>
  if a2 = true then
  some 401
  else
  ((
  if (t0.fOp == 0) = true then
   (Kiy (t0.fN,0,(wr (n1 - 1)))) >>= fun a3 =>
   some (a3)
  else
   ((
   if (t0.fOp == 1) = true then
   (Kiy (t0.fN,0,2)) >>= fun a4 =>
   some (a4)
   else
   ((
   if a0.fgrade = true then
   (Klu t0.fN) >>= fun a5 =>
   some (a5)
   else
   some ((t0.fN == 0))
   ) : Option (Bool)) >>= fun a6 =>
   some (a6)
   ) : Option (Bool)) >>= fun a7 =>
   some (a7)
  ) : Option (Bool)) >>= fun a8 =>
  ((
  if a0.ftyped = true then
   ((
   if a8 = true then
   (Klx t0.fType) >>= fun a9 =>
   some (a9)
   else
   some (false)
   ) : Option (Bool)) >>= fun b1 =>
   some (b1)
  else
   ((
   if a8 = true then
   some (((t0.fType.length : Int) == 0))
   else
   some (false)
   ) : Option (Bool)) >>= fun b2 =>
   some (b2)
  ) : Option (Bool)) >>= fun b3 =>
  if b3 = true then
  (Km2 (t0,n1,(wr (nodes4 + 1)),0)) >>= fun fl => match fl with
  | .inl b4 =>
   some b4
  | .inr r =>
   some r
  else
  some 401
 partial_fixpoint
def Km2 (p : K00 × Int × Int × Int) : Option ((Int) ⊕ (Int)) :=
 match p with
 | (t0,n1,a0,a1) =>
  if (decide (a1 < (t0.fKids.length : Int))) = true then
  (idx t0.fKids a1) >>= fun a2 =>
  (Kjg (t0.fOp,a1)) >>= fun a3 =>
  (Km1 (a2,(wr (n1 + a3)),a0)) >>= fun a4 =>
  if (decide (a4 > 400)) = true then
  some (.inr 401)
  else
  Km2 (t0,n1,a4,(wr (a1 + 1)))
  else
  some (.inl a0)
 partial_fixpoint
end
def Km3 (p : K00 × Int × Int) (r : Int) : Prop :=
 match p with
 | (t0,n1,nodes4) => Q75 Tryz.prog 134 [K1d t0,I n1,.fn 135 [],.fn 136 [],I nodes4] (I r) []
def Km4 (p : K00 × Int × Int × Int) (fl : (Int) ⊕ (Int)) : Prop :=
 match p with
 | (t0,n1,a0,a1) => ∀ c : Ctx,c.nt = 104 → WpL Tryz.prog c (cl (cl (cr (cl (cr (cr (cr (cr (cr (cr (cr K6n))))))))))) (Km0 c fl) (mkS [(1,I n1),(2,.fn 135 []),(3,.fn 136 []),(4,I a0),(5,.ra 1 0),(82,.sl (List.map K05 t0.fKids)),(83,I (t0.fKids.length : Int)),(84,I a1)] [(1,K1c t0)])
theorem Km5 : (∀ p r,Km1 p = some r → Km3 p r) ∧ (∀ p r,Km2 p = some r → Km4 p r) := by
 refine Km1.mutual_partial_correctness Km3 Km4 ?_ ?_
 ·rintro impl_check_Kimpl_ReplaceAt_c1_Kimpl_ReplaceAt_c2_l0_f impl_check_Kimpl_ReplaceAt_c1_Kimpl_ReplaceAt_c2_l0_ih ⟨t0,n1,nodes4⟩ r h
  refine b0 Tryz.f134 K6n 104 [(0,K1d t0),(1,I n1),(2,.fn 135 []),(3,.fn 136 []),(4,I nodes4)] fun c hc => ?_
  refine rs hc none [some (.new 1),oN] [(1,I n1),(2,.fn 135 []),(3,.fn 136 []),(4,I nodes4),(5,.ra 1 0)] [(1,K1c t0)] tv ?_
  refine K7w hc 3 [(1,I n1),(2,.fn 135 []),(3,.fn 136 []),(4,I (wr (nodes4 + 1))),(5,.ra 1 0)] ?_
  obtain ⟨⟨a0,a1⟩,a2,h⟩ := Qdj h
  refine rs hc none [oN,oN,oc (.tup [.agg [.str a0.fword,I a0.fkids,.bool a0.fgrade,.bool a0.ftyped],.bool a1]),oN,oN,oN,some (.new 2),oN,oN] [(1,I n1),(2,.fn 135 []),(3,.fn 136 []),(4,I (wr (nodes4 + 1))),(5,.ra 1 0),(11,.ra 2 0),(12,.bool a1)] [(1,K1c t0),(2,.box [.str a0.fword,I a0.fkids,.bool a0.fgrade,.bool a0.ftyped])] (cq (Kj3 _ _ a2) K6c tv) ?_
  refine sN ?_
  refine sN ?_
  obtain ⟨a3,a4,h⟩ := Qdj h
  refine Wp.into (x := .normal) (mkS [(1,I n1),(2,.fn 135 []),(3,.fn 136 []),(4,I (wr (nodes4 + 1))),(5,.ra 1 0),(11,.ra 2 0),(36,.bool a3)] [(1,K1c t0),(2,.box [.str a0.fword,I a0.fkids,.bool a0.fgrade,.bool a0.ftyped])]) ?_ ?_
  ·replace h := a4
   rcases is h with ⟨a5,h⟩ | ⟨a5,h⟩
   ·rcases is h with ⟨a6,h⟩ | ⟨a6,h⟩
    ·refine rgs hc none [oN,oN,oN,oN,oN,oF,oN,o_,o_,o_,o_,o_,o_,oT] [(1,I n1),(2,.fn 135 []),(3,.fn 136 []),(4,I (wr (nodes4 + 1))),(5,.ra 1 0),(11,.ra 2 0),(36,.bool true)] (ar 3 (nF a5) (ar 6 (neF a6) (ai a6 tv))) ?_
     obtain rfl := os h
     exact Qd5.mk
    refine rgs hc none [oN,oN,oN,oN,oN,oF,oN,oN,oN,some (.eqv (.no) ⟨[(32,I (t0.fKids.length : Int))],[],[]⟩),oN,oN,oN,oF] [(1,I n1),(2,.fn 135 []),(3,.fn 136 []),(4,I (wr (nodes4 + 1))),(5,.ra 1 0),(11,.ra 2 0),(36,.bool ((t0.fKids.length : Int) != a0.fkids))] (ar 3 (nF a5) (ar 3 a6 (ai (Qdp (d := 32) K05 t0.fKids) (ar 4 a6 tv)))) ?_
    obtain rfl := os h
    exact Qd5.mk
   refine rgs hc none [oN,oN,oN,o_,o_,oT,oN,o_,o_,o_,o_,o_,o_,oT] [(1,I n1),(2,.fn 135 []),(3,.fn 136 []),(4,I (wr (nodes4 + 1))),(5,.ra 1 0),(11,.ra 2 0),(36,.bool true)] (ar 2 (neF (nT a5)) (ai (nT a5) (ar 6 nf (ai tt tv)))) ?_
   obtain rfl := os h
   exact Qd5.mk
  clear a4
  refine ic h (fun a7 h => ?_) fun a7 h => ?_
  ·refine rs0 hc 1 [(10,I 401)] [] ?_
   refine rt ?_
   obtain rfl := os h
   exact rq [true]
  refine sk ?_
  refine sN ?_
  refine bk 0 ?_
  refine K7w hc 4 [(1,I n1),(2,.fn 135 []),(3,.fn 136 []),(4,I (wr (nodes4 + 1))),(5,.ra 1 0),(11,.ra 2 0),(40,.bool (t0.fOp == 0))] ?_
  obtain ⟨a8,a9,h⟩ := Qdj h
  refine Wp.into (x := .normal) (mkS [(1,I n1),(2,.fn 135 []),(3,.fn 136 []),(4,I (wr (nodes4 + 1))),(5,.ra 1 0),(11,.ra 2 0),(12,.bool a8)] [(1,K1c t0),(2,.box [.str a0.fword,I a0.fkids,.bool a0.fgrade,.bool a0.ftyped])]) ?_ ?_
  ·replace h := a9
   refine ic h (fun b1 h => ?_) fun b1 h => ?_
   ·obtain ⟨b2,b3,h⟩ := Qdj h
    refine rgs hc none [oN,oN,oN,oN,oc (.bool b2),oN] [(1,I n1),(2,.fn 135 []),(3,.fn 136 []),(4,I (wr (nodes4 + 1))),(5,.ra 1 0),(11,.ra 2 0),(12,.bool b2)] (cq (Kj0 _ _ b3) K6a tv) ?_
    obtain rfl := os h
    exact Qd5.mk
   refine K7w hc 4 [(1,I n1),(2,.fn 135 []),(3,.fn 136 []),(4,I (wr (nodes4 + 1))),(5,.ra 1 0),(11,.ra 2 0),(49,.bool (t0.fOp == 1))] ?_
   obtain ⟨b4,b5,h⟩ := Qdj h
   refine Wp.into (x := .normal) (mkS [(1,I n1),(2,.fn 135 []),(3,.fn 136 []),(4,I (wr (nodes4 + 1))),(5,.ra 1 0),(11,.ra 2 0),(12,.bool b4)] [(1,K1c t0),(2,.box [.str a0.fword,I a0.fkids,.bool a0.fgrade,.bool a0.ftyped])]) ?_ ?_
   ·replace h := b5
    refine ic h (fun b6 h => ?_) fun b6 h => ?_
    ·obtain ⟨b7,b8,h⟩ := Qdj h
     refine rgs hc none [oN,oN,oc (.bool b7),oN] [(1,I n1),(2,.fn 135 []),(3,.fn 136 []),(4,I (wr (nodes4 + 1))),(5,.ra 1 0),(11,.ra 2 0),(12,.bool b7)] (cq (Kj0 _ _ b8) K6a tv) ?_
     obtain rfl := os h
     exact Qd5.mk
    refine K7w hc 3 [(1,I n1),(2,.fn 135 []),(3,.fn 136 []),(4,I (wr (nodes4 + 1))),(5,.ra 1 0),(11,.ra 2 0),(56,.bool a0.fgrade)] ?_
    obtain ⟨b9,c0,h⟩ := Qdj h
    refine Wp.into (x := .normal) (mkS [(1,I n1),(2,.fn 135 []),(3,.fn 136 []),(4,I (wr (nodes4 + 1))),(5,.ra 1 0),(11,.ra 2 0),(12,.bool b9)] [(1,K1c t0),(2,.box [.str a0.fword,I a0.fkids,.bool a0.fgrade,.bool a0.ftyped])]) ?_ ?_
    ·replace h := c0
     refine ic h (fun c1 h => ?_) fun c1 h => ?_
     ·obtain ⟨c2,c3,h⟩ := Qdj h
      refine rgs hc none [oN,oN,oN,oc (.bool c2),oN] [(1,I n1),(2,.fn 135 []),(3,.fn 136 []),(4,I (wr (nodes4 + 1))),(5,.ra 1 0),(11,.ra 2 0),(12,.bool c2)] (cq (Klw _ _ c3) K7j tv) ?_
      obtain rfl := os h
      exact Qd5.mk
     refine K7v hc 4 [(1,I n1),(2,.fn 135 []),(3,.fn 136 []),(4,I (wr (nodes4 + 1))),(5,.ra 1 0),(11,.ra 2 0),(12,.bool (t0.fN == 0))] ?_
     obtain rfl := os h
     exact Qd5.mk
    clear c0
    obtain rfl := os h
    exact Qd5.mk
   clear b5
   obtain rfl := os h
   exact Qd5.mk
  clear a9
  refine sN ?_
  refine rs0 hc 2 [(1,I n1),(2,.fn 135 []),(3,.fn 136 []),(4,I (wr (nodes4 + 1))),(5,.ra 1 0),(12,.bool a8),(64,.bool a0.ftyped)] [(1,K1c t0)] ?_
  obtain ⟨c4,c5,h⟩ := Qdj h
  refine Wp.into (x := .normal) (mkS [(1,I n1),(2,.fn 135 []),(3,.fn 136 []),(4,I (wr (nodes4 + 1))),(5,.ra 1 0),(12,.bool c4)] [(1,K1c t0)]) ?_ ?_
  ·replace h := c5
   refine ic h (fun c6 h => ?_) fun c6 h => ?_
   ·obtain ⟨c7,c8,h⟩ := Qdj h
    refine Wp.into (x := .normal) (mkS [(1,I n1),(2,.fn 135 []),(3,.fn 136 []),(4,I (wr (nodes4 + 1))),(5,.ra 1 0),(12,.bool c7)] [(1,K1c t0)]) ?_ ?_
    ·replace h := c8
     rcases is h with ⟨c9,h⟩ | ⟨c9,h⟩
     ·obtain ⟨d0,d1,h⟩ := Qdj h
      refine rgs hc none [oN,oN,oN,oN,oN,oc (.bool d0),oT,oN] [(1,I n1),(2,.fn 135 []),(3,.fn 136 []),(4,I (wr (nodes4 + 1))),(5,.ra 1 0),(12,.bool d0)] (ar 4 c9 (cq (Klz _ _ d1) K7l (ai c9 tv))) ?_
      obtain rfl := os h
      exact Qd5.mk
     refine rgs hc none [oN,oN,o_,o_,o_,o_,oF,oN] [(1,I n1),(2,.fn 135 []),(3,.fn 136 []),(4,I (wr (nodes4 + 1))),(5,.ra 1 0),(12,.bool false)] (ar 4 (neT c9) (ai c9 tv)) ?_
     obtain rfl := os h
     exact Qd5.mk
    clear c8
    obtain rfl := os h
    exact Qd5.mk
   obtain ⟨d2,d3,h⟩ := Qdj h
   refine Wp.into (x := .normal) (mkS [(1,I n1),(2,.fn 135 []),(3,.fn 136 []),(4,I (wr (nodes4 + 1))),(5,.ra 1 0),(12,.bool d2)] [(1,K1c t0)]) ?_ ?_
   ·replace h := d3
    rcases is h with ⟨d4,h⟩ | ⟨d4,h⟩
    ·refine rgs hc none [oN,oN,oN,oN,some (.eqv (.no) ⟨[(76,I (t0.fType.length : Int))],[],[]⟩),oN,oT,oN] [(1,I n1),(2,.fn 135 []),(3,.fn 136 []),(4,I (wr (nodes4 + 1))),(5,.ra 1 0),(12,.bool ((t0.fType.length : Int) == 0))] (ar 3 d4 (ai (Qdp (d := 76) I t0.fType) (ar 2 d4 tv))) ?_
     obtain rfl := os h
     exact Qd5.mk
    refine rgs hc none [oN,oN,o_,o_,o_,o_,oF,oN] [(1,I n1),(2,.fn 135 []),(3,.fn 136 []),(4,I (wr (nodes4 + 1))),(5,.ra 1 0),(12,.bool false)] (ar 4 (neT d4) (ai d4 tv)) ?_
    obtain rfl := os h
    exact Qd5.mk
   clear d3
   obtain rfl := os h
   exact Qd5.mk
  clear c5
  refine sN ?_
  refine K7w hc 2 [(1,I n1),(2,.fn 135 []),(3,.fn 136 []),(4,I (wr (nodes4 + 1))),(5,.ra 1 0),(80,.bool (!c4))] ?_
  rcases is h with ⟨d5,h⟩ | ⟨d5,h⟩
  ·refine cF (!c4) (nF d5) ?_
   refine sk ?_
   refine sN ?_
   refine rss hc none [oN,oN,some (.eqv (.no) ⟨[(83,I (t0.fKids.length : Int))],[],[]⟩),oN] [(1,I n1),(2,.fn 135 []),(3,.fn 136 []),(4,I (wr (nodes4 + 1))),(5,.ra 1 0),(82,.sl (List.map K05 t0.fKids)),(83,I (t0.fKids.length : Int)),(84,I 0)] (ai (Qdp (d := 83) K05 t0.fKids) tv) ?_
   refine bk 1 ?_
   obtain ⟨fl,d6,h⟩ := Qdj h
   have hL := impl_check_Kimpl_ReplaceAt_c1_Kimpl_ReplaceAt_c2_l0_ih _ _ d6 c hc
   refine lp ?_
   rcases fl with d7 | r
   ·refine WpL.into (e := (.exit 1)) (mkS [(4,I d7)] []) hL ?_
    refine Qcx ?_
    refine rs0 hc 2 [(10,I d7)] [] ?_
    refine rt ?_
    obtain rfl := os h
    exact rq [true]
   refine WpL.mono hL ?_
   rintro _ _ ⟨rfl,hfin⟩
   obtain rfl := os h
   exact ⟨.inl rfl,hfin⟩
  refine cT (!c4) (nT d5) ?_
  refine rs0 hc 1 [(10,I 401)] [] ?_
  refine rt ?_
  obtain rfl := os h
  exact rq [true]
 ·rintro impl_check_Kimpl_ReplaceAt_c1_Kimpl_ReplaceAt_c2_f impl_check_Kimpl_ReplaceAt_c1_Kimpl_ReplaceAt_c2_l0_f impl_check_Kimpl_ReplaceAt_c1_Kimpl_ReplaceAt_c2_ih impl_check_Kimpl_ReplaceAt_c1_Kimpl_ReplaceAt_c2_l0_ih ⟨t0,n1,d8,d9⟩ r h
  intro c hc
  refine WpL.step ?_
  refine K7w hc 1 [(1,I n1),(2,.fn 135 []),(3,.fn 136 []),(4,I d8),(5,.ra 1 0),(82,.sl (List.map K05 t0.fKids)),(83,I (t0.fKids.length : Int)),(84,I d9),(85,.bool (decide (d9 < (t0.fKids.length : Int))))] ?_
  refine sN ?_
  refine ic h (fun e0 h => ?_) fun e0 h => ?_
  ·refine sk ?_
   refine sN ?_
   refine bk 2 ?_
   obtain ⟨e1,e2,h⟩ := Qdj h
   refine rs hc none [oN,some (.el (K1d e1)),oN,some (.new 4),oN,oN] [(1,I n1),(2,.fn 135 []),(3,.fn 136 []),(4,I d8),(5,.ra 1 0),(13,I d9),(14,.ra 4 0),(82,.sl (List.map K05 t0.fKids)),(83,I (t0.fKids.length : Int)),(84,I d9)] [(1,K1c t0),(4,K1c e1)] (ai (Qdn e2 (K0c e1)) tv) ?_
   obtain ⟨e3,e4,e5,e6,h⟩ := bq2 h
   refine rs hc (rx [[0],[0],[0],[0,2],[0],[0,2,3,4],[0,1,2,3,4,5],[0],[0],[0],[10],[11]]) [oN,oN,oN,oN,oN,oc (I e3),oN,oN,oN,oN,oc (I e5),oN] [(1,I n1),(2,.fn 135 []),(3,.fn 136 []),(4,I e5),(5,.ra 1 0),(82,.sl (List.map K05 t0.fKids)),(83,I (t0.fKids.length : Int)),(84,I d9)] [(1,K1c t0)] (cq (Kji _ _ e4) K6m (cq (impl_check_Kimpl_ReplaceAt_c1_Kimpl_ReplaceAt_c2_ih _ _ e6) K6o tv)) ?_
   refine K7w hc 2 [(1,I n1),(2,.fn 135 []),(3,.fn 136 []),(4,I e5),(5,.ra 1 0),(82,.sl (List.map K05 t0.fKids)),(83,I (t0.fKids.length : Int)),(84,I d9),(101,.bool (decide (e5 > 400)))] ?_
   refine ic h (fun e7 h => ?_) fun e7 h => ?_
   ·refine rs0 hc 1 [(10,I 401)] [] ?_
    refine rt ?_
    obtain rfl := os h
    exact re [true]
   refine sk ?_
   refine K7v hc 2 [(1,I n1),(2,.fn 135 []),(3,.fn 136 []),(4,I e5),(5,.ra 1 0),(82,.sl (List.map K05 t0.fKids)),(83,I (t0.fKids.length : Int)),(84,I (wr (d9 + 1)))] ?_
   refine Qd1 ?_
   exact (impl_check_Kimpl_ReplaceAt_c1_Kimpl_ReplaceAt_c2_l0_ih _ _ h c hc)
  refine xt 1 ?_
  refine Qcv ?_
  refine Qd2 ?_
  obtain rfl := os h
  exact iv []
theorem Km6 : ∀ p r,Km1 p = some r → Km3 p r := Km5.1
theorem Km7 : ∀ p r,Km2 p = some r → Km4 p r := Km5.2
def Km8 (p : K00 × (List Int) × K00) : Option (K00 × Bool) :=
 match p with
 | (t0,path1,u2) =>
  (Kjv t0) >>= fun a0 =>
  if a0 = true then
  (Kk2 (t0,path1)) >>= fun (a1,a2) =>
  ((
  if a2 = true then
  (Km1 (u2,1048576,0)) >>= fun a3 =>
  some ((decide (a3 > 400)))
  else
  some (true)
  ) : Option (Bool)) >>= fun a4 =>
  if a4 = true then
  some ((K00.mk 0 0 [] []),false)
  else
  (Klf (t0,path1,u2)) >>= fun a5 =>
  (Kjv a5) >>= fun a6 =>
  if a6 = true then
  some (a5,true)
  else
  some ((K00.mk 0 0 [] []),false)
  else
  some ((K00.mk 0 0 [] []),false)
def Km9 (p : K00 × (List Int) × K00) (r : K00 × Bool) : Prop :=
 match p with
 | (t0,path1,u2) => Q75 Tryz.prog 56 [K1d t0,sI path1,K1d u2] (.tup [.agg [I r.1.fOp,I r.1.fN,.osl (List.map I r.1.fType),.osl (List.map K08 r.1.fKids)],.bool r.2]) []
theorem Kma : ∀ p r,Km8 p = some r → Km9 p r := by
 rintro ⟨t0,path1,u2⟩ r h
 unfold Km8 at h
 refine b0 Tryz.f56 B56 38 [(0,K1d t0),(1,sI path1),(2,K1d u2)] fun c hc => ?_
 refine rs hc none [some (.new 1),some (.new 2),some (.new 3),oN] [(1,sI path1),(3,.ra 1 0),(5,.ra 2 0),(6,.ra 3 0)] [(1,K1c t0),(2,K1c u2),(3,.box [I 0,I 0,.nils,.nils])] tv ?_
 refine sN ?_
 obtain ⟨a0,a1,h⟩ := Qdj h
 refine rss hc none [oN,oc (.bool a0),oN] [(1,sI path1),(3,.ra 1 0),(5,.ra 2 0),(6,.ra 3 0),(13,.bool (!a0))] (cq (Kjx _ _ a1) K6r tv) ?_
 rcases is h with ⟨a2,h⟩ | ⟨a2,h⟩
 ·refine cF (!a0) (nF a2) ?_
  refine sk ?_
  refine sN ?_
  obtain ⟨⟨a3,a4⟩,a5,h⟩ := Qdj h
  refine rss hc none [oN,oN,oc (.tup [K1d a3,.bool a4]),oN,oN,oN,some (.new 4),oN,oN] [(1,sI path1),(3,.ra 1 0),(5,.ra 2 0),(6,.ra 3 0),(9,.bool a4)] (cq (Kk4 _ _ a5) K6t tv) ?_
  refine sN ?_
  obtain ⟨a6,a7,h⟩ := Qdj h
  refine Wp.into (x := .normal) (mkS [(1,sI path1),(3,.ra 1 0),(5,.ra 2 0),(6,.ra 3 0),(27,.bool a6)] [(1,K1c t0),(2,K1c u2),(3,.box [I 0,I 0,.nils,.nils])]) ?_ ?_
  ·replace h := a7
   rcases is h with ⟨a8,h⟩ | ⟨a8,h⟩
   ·obtain ⟨a9,b1,h⟩ := Qdj h
    refine rgs hc none [oN,oN,oN,oN,oc (I a9),oN,oF] [(1,sI path1),(3,.ra 1 0),(5,.ra 2 0),(6,.ra 3 0),(27,.bool (decide (a9 > 400)))] (ar 2 (nF a8) (cq (Km6 _ _ b1) K6o (ar 2 (nF a8) tv))) ?_
    obtain rfl := os h
    exact Qd5.mk
   refine rgs hc none [oN,oN,oN,o_,o_,o_,oT] [(1,sI path1),(3,.ra 1 0),(5,.ra 2 0),(6,.ra 3 0),(27,.bool true)] (ar 3 (neF (nT a8)) (ai (nT a8) tv)) ?_
   obtain rfl := os h
   exact Qd5.mk
  clear a7
  refine ic h (fun b2 h => ?_) fun b2 h => ?_
  ·refine rs0 hc 3 [(6,.ra 3 0),(7,.bool false)] [(3,.box [I 0,I 0,.nils,.nils])] ?_
   refine rt ?_
   obtain rfl := os h
   exact rq [true,true]
  refine sk ?_
  obtain ⟨b3,b4,h⟩ := Qdj h
  refine rs hc none [oN,oN,oN,some (.call (K1k b3) [] 5),some (.new 7),oN] [(6,.ra 3 0),(10,.ra 7 0)] [(3,.box [I 0,I 0,.nils,.nils]),(5,rI b3.fType),(6,.arr (List.map K08 b3.fKids)),(7,.box [I b3.fOp,I b3.fN,.rs 5,.rs 6])] (cq (Klh _ _ b4) K7c tv) ?_
  refine sN ?_
  obtain ⟨b5,b6,h⟩ := Qdj h
  refine rss hc none [oN,oc (.bool b5),oN] [(6,.ra 3 0),(10,.ra 7 0),(35,.bool (!b5))] (ac (Q75.args (A1 := [K1l b3]) (A2 := [K1d b3]) (by simp only [K1l,List.map_nil,K14,Qeb]) (Kjx _ _ b6)) K6r (Or.inr rfl : ([5,6] : List Nat) = [] ∨ noSh (.bool b5) = true) tv) ?_
  rcases is h with ⟨b7,h⟩ | ⟨b7,h⟩
  ·refine cF (!b5) (nF b7) ?_
   refine sk ?_
   refine rs0 hc 3 [(6,.ra 3 0),(7,.bool true)] [(3,.box [I b3.fOp,I b3.fN,.rs 5,.rs 6]),(5,rI b3.fType),(6,.arr (List.map K08 b3.fKids))] ?_
   refine rt ?_
   obtain rfl := os h
   exact rq [true,true]
  refine cT (!b5) (nT b7) ?_
  refine rs0 hc 3 [(6,.ra 3 0),(7,.bool false)] [(3,.box [I 0,I 0,.nils,.nils])] ?_
  refine rt ?_
  obtain rfl := os h
  exact rq [true,true]
 refine cT (!a0) (nT a2) ?_
 refine rs0 hc 3 [(6,.ra 3 0),(7,.bool false)] [(3,.box [I 0,I 0,.nils,.nils])] ?_
 refine rt ?_
 obtain rfl := os h
 exact rq [true,true]
def Kmb (c : Ctx) : (Unit) ⊕ (Bool) → Exit → Q0a → Prop
 | .inl _ => Qd5 c (.exit 0) (mkS [] [])
 | .inr r => Qde TIx Tryz.f144 [] (.bool r)
def Kmc (p : (List Int) × (List Int) × Int) : Option ((Unit) ⊕ (Bool)) :=
 match p with
 | (s10,s21,a0) =>
  if (decide (a0 < (s10.length : Int))) = true then
  (idx s10 a0) >>= fun a1 =>
  (idx s21 a0) >>= fun a2 =>
  if (a1 != a2) = true then
  some (.inr false)
  else
  Kmc (s10,s21,(wr (a0 + 1)))
  else
  some (.inl ())
 partial_fixpoint
def Kmd (p : (List Int) × (List Int) × Int) (fl : (Unit) ⊕ (Bool)) : Prop :=
 match p with
 | (s10,s21,a0) => ∀ c : Ctx,c.nt = 26 → WpL Tryz.prog c (cl (cl (cr (cl (cr (cr K7n)))))) (Kmb c fl) (mkS [(0,sI s10),(1,sI s21),(12,I (s10.length : Int)),(13,I a0)] [])
theorem Kme : ∀ p r,Kmc p = some r → Kmd p r := by
 refine Kmc.partial_correctness Kmd ?_
 rintro slices_Equal_int_l0_f slices_Equal_int_l0_ih ⟨s10,s21,a0⟩ r h
 intro c hc
 refine WpL.step ?_
 refine rs0 hc 1 [(0,sI s10),(1,sI s21),(12,I (s10.length : Int)),(13,I a0),(14,.bool (decide (a0 < (s10.length : Int))))] [] ?_
 refine sN ?_
 refine ic h (fun a1 h => ?_) fun a1 h => ?_
 ·refine sk ?_
  refine sN ?_
  refine bk 1 ?_
  refine rs0 hc 2 [(0,sI s10),(1,sI s21),(5,I a0),(12,I (s10.length : Int)),(13,I a0)] [] ?_
  obtain ⟨a2,a3,a4,a5,h⟩ := bq2 h
  refine rs hc (rx [[0],[0],[2],[3],[0],[0],[0,4,5],[0,4,5,6],[8]]) [oN,oN,some (.el (I a2)),oN,oN,oN,some (.el (I a4)),oN,oN] [(0,sI s10),(1,sI s21),(12,I (s10.length : Int)),(13,I a0),(24,.bool (a2 != a4))] [] (ab (ix a3) (ix a5) tv) ?_
  refine ic h (fun a6 h => ?_) fun a6 h => ?_
  ·refine rs0 hc 1 [(4,.bool false)] [] ?_
   refine rt ?_
   obtain rfl := os h
   exact re [true]
  refine sk ?_
  refine rg0 hc 2 [(0,sI s10),(1,sI s21),(12,I (s10.length : Int)),(13,I (wr (a0 + 1)))] [] ?_
  refine Qd1 ?_
  exact (slices_Equal_int_l0_ih _ _ h c hc)
 refine xt 0 ?_
 refine Qcv ?_
 refine Qd2 ?_
 obtain rfl := os h
 exact iv []
def Kmf (p : (List Int) × (List Int)) : Option (Bool) :=
 match p with
 | (s10,s21) =>
  if ((s10.length : Int) != (s21.length : Int)) = true then
  some false
  else
  (Kmc (s10,s21,0)) >>= fun fl => match fl with
  | .inl () =>
   some true
  | .inr r =>
   some r
def Kmg (p : (List Int) × (List Int)) (r : Bool) : Prop :=
 match p with
 | (s10,s21) => Q75 Tryz.prog 144 [sI s10,sI s21] (.bool r) []
theorem Kmh : ∀ p r,Kmf p = some r → Kmg p r := by
 rintro ⟨s10,s21⟩ r h
 unfold Kmf at h
 refine b0 Tryz.f144 K7n 26 [(0,sI s10),(1,sI s21)] fun c hc => ?_
 refine rs0 hc 1 [(0,sI s10),(1,sI s21)] [] ?_
 refine sN ?_
 refine rs hc none [oN,some (.eqv (.no) ⟨[(7,I (s10.length : Int))],[],[]⟩),oN,some (.eqv (.no) ⟨[(9,I (s21.length : Int))],[],[]⟩),oN] [(0,sI s10),(1,sI s21),(10,.bool ((s10.length : Int) != (s21.length : Int)))] [] (ab (Qdp (d := 7) I s10) (Qdp (d := 9) I s21) tv) ?_
 refine ic h (fun a0 h => ?_) fun a0 h => ?_
 ·refine rs0 hc 1 [(4,.bool false)] [] ?_
  refine rt ?_
  obtain rfl := os h
  exact rq [true]
 refine sk ?_
 refine sN ?_
 refine rs hc none [oN,some (.eqv (.no) ⟨[(12,I (s10.length : Int))],[],[]⟩),oN] [(0,sI s10),(1,sI s21),(12,I (s10.length : Int)),(13,I 0)] [] (ai (Qdp (d := 12) I s10) tv) ?_
 refine bk 0 ?_
 obtain ⟨fl,a1,h⟩ := Qdj h
 have hL := Kme _ _ a1 c hc
 refine lp ?_
 rcases fl with ⟨⟩ | r
 ·refine WpL.into (e := (.exit 0)) (mkS [] []) hL ?_
  refine Qcx ?_
  refine rs0 hc 1 [(4,.bool true)] [] ?_
  refine rt ?_
  obtain rfl := os h
  exact rq [true]
 refine WpL.mono hL ?_
 rintro _ _ ⟨rfl,hfin⟩
 obtain rfl := os h
 exact ⟨.inl rfl,hfin⟩
def Kmi (c : Ctx) : (Unit) ⊕ (Bool) → Exit → Q0a → Prop
 | .inl _ => Qd5 c (.exit 0) (mkS [] [])
 | .inr r => Qde TIx Tryz.f180 [] (.bool r)
mutual
def Kmj (p : K00 × K00) : Option (Bool) :=
 match p with
 | (a0,b1) =>
  ((
  if (a0.fOp == b1.fOp) = true then
  if (a0.fN == b1.fN) = true then
  (Kmf (a0.fType,b1.fType)) >>= fun a1 =>
  if a1 = true then
  (Kmk (a0.fKids,b1.fKids)) >>= fun a2 =>
  some (a2)
  else
  some (false)
  else
  some (false)
  else
  some (false)
  ) : Option (Bool)) >>= fun a3 =>
  some a3
 partial_fixpoint
def Kmk (p : (List K00) × (List K00)) : Option (Bool) :=
 match p with
 | (s10,s21) =>
  if ((s10.length : Int) != (s21.length : Int)) = true then
  some false
  else
  (Kml (s10,s21,0)) >>= fun fl => match fl with
  | .inl () =>
   some true
  | .inr r =>
   some r
 partial_fixpoint
def Kml (p : (List K00) × (List K00) × Int) : Option ((Unit) ⊕ (Bool)) :=
 match p with
 | (s10,s21,a0) =>
  if (decide (a0 < (s10.length : Int))) = true then
  (idx s10 a0) >>= fun a1 =>
  (idx s21 a0) >>= fun a2 =>
  (Kmj (a1,a2)) >>= fun a3 =>
  if a3 = true then
  Kml (s10,s21,(wr (a0 + 1)))
  else
  some (.inr false)
  else
  some (.inl ())
 partial_fixpoint
end
def Kmm (p : K00 × K00) (r : Bool) : Prop :=
 match p with
 | (a0,b1) => Q75 Tryz.prog 98 [K1d a0,K1d b1] (.bool r) []
def Kmn (p : (List K00) × (List K00)) (r : Bool) : Prop :=
 match p with
 | (s10,s21) => Q75 Tryz.prog 180 [.sl (List.map K05 s10),.sl (List.map K05 s21),.fn 98 []] (.bool r) []
def Kmo (p : (List K00) × (List K00) × Int) (fl : (Unit) ⊕ (Bool)) : Prop :=
 match p with
 | (s10,s21,a0) => ∀ c : Ctx,c.nt = 32 → WpL Tryz.prog c (cl (cl (cr (cl (cr (cr K7p)))))) (Kmi c fl) (mkS [(1,.sl (List.map K05 s21)),(2,.fn 98 []),(15,.sl (List.map K05 s10)),(16,I (s10.length : Int)),(17,I a0)] [])
theorem Kmp : (∀ p r,Kmj p = some r → Kmm p r) ∧ (∀ p r,Kmk p = some r → Kmn p r) ∧ (∀ p r,Kml p = some r → Kmo p r) := by
 refine Kmj.mutual_partial_correctness Kmm Kmn Kmo ?_ ?_ ?_
 ·rintro slices_EqualFunc_Term_Kimpl_same_f slices_EqualFunc_Term_Kimpl_same_ih ⟨a0,b1⟩ r h
  refine b0 Tryz.f98 B98 31 [(0,K1d a0),(1,K1d b1)] fun c hc => ?_
  refine rs hc none [some (.new 1),some (.new 2),oN] [(2,.ra 1 0),(3,.ra 2 0)] [(1,K1c a0),(2,K1c b1)] tv ?_
  refine sN ?_
  obtain ⟨a1,a2,h⟩ := Qdj h
  refine Wp.into (x := .normal) (mkS [(4,.bool a1)] []) ?_ ?_
  ·replace h := a2
   rcases is h with ⟨a3,h⟩ | ⟨a3,h⟩
   ·rcases is h with ⟨a4,h⟩ | ⟨a4,h⟩
    ·obtain ⟨a5,a6,h⟩ := Qdj h
     rcases is h with ⟨a7,h⟩ | ⟨a7,h⟩
     ·obtain ⟨a8,a9,h⟩ := Qdj h
      refine rg hc none [oN,oN,oN,oN,oN,oN,oN,oN,oN,oN,oN,oT,oN,oN,oN,oN,oN,oc (.bool a5),oT,oN,oN,oN,oN,oN,oc (.bool a8),oT,oN] [(4,.bool a8)] [] (ar 6 a3 (ar 5 a4 (cq (Kmh _ _ a6) K7o (ai a4 (ar 5 a7 (cq (slices_EqualFunc_Term_Kimpl_same_ih _ _ a9) K7q (ai a7 tv))))))) ?_
      obtain rfl := os h
      exact Qd5.mk
     refine rg hc none [oN,oN,oN,oN,oN,oN,oN,oN,oN,oN,oN,oT,oN,oN,oN,oN,oN,oc (.bool a5),oT,oN,o_,o_,o_,o_,o_,oF,oN] [(4,.bool false)] [] (ar 6 a3 (ar 5 a4 (cq (Kmh _ _ a6) K7o (ai a4 (ar 5 (neT a7) (ai a7 tv)))))) ?_
     obtain rfl := os h
     exact Qd5.mk
    refine rg hc none [oN,oN,oN,oN,oN,oN,oN,oN,oN,oN,oN,oT,oN,o_,o_,o_,o_,o_,oF,oN,o_,o_,o_,o_,o_,oF,oN] [(4,.bool false)] [] (ar 6 a3 (ar 5 (neT a4) (ai a4 (ar 5 (neT (rfl : false = false)) (ai (rfl : false = false) tv))))) ?_
    obtain rfl := os h
    exact Qd5.mk
   refine rg hc none [oN,oN,oN,oN,oN,oN,o_,o_,o_,o_,o_,oF,oN,o_,o_,o_,o_,o_,oF,oN,o_,o_,o_,o_,o_,oF,oN] [(4,.bool false)] [] (ar 5 (neT a3) (ai a3 (ar 5 (neT (rfl : false = false)) (ai (rfl : false = false) (ar 5 (neT (rfl : false = false)) (ai (rfl : false = false) tv)))))) ?_
   obtain rfl := os h
   exact Qd5.mk
  clear a2
  refine rt ?_
  obtain rfl := os h
  exact rq [true]
 ·rintro slices_EqualFunc_Term_Kimpl_same_l0_f slices_EqualFunc_Term_Kimpl_same_l0_ih ⟨s10,s21⟩ r h
  refine b0 Tryz.f180 K7p 32 [(0,.sl (List.map K05 s10)),(1,.sl (List.map K05 s21)),(2,.fn 98 [])] fun c hc => ?_
  refine rs0 hc 1 [(0,.sl (List.map K05 s10)),(1,.sl (List.map K05 s21)),(2,.fn 98 [])] [] ?_
  refine sN ?_
  refine rs hc none [oN,some (.eqv (.no) ⟨[(11,I (s10.length : Int))],[],[]⟩),oN,some (.eqv (.no) ⟨[(13,I (s21.length : Int))],[],[]⟩),oN] [(0,.sl (List.map K05 s10)),(1,.sl (List.map K05 s21)),(2,.fn 98 []),(14,.bool ((s10.length : Int) != (s21.length : Int)))] [] (ab (Qdp (d := 11) K05 s10) (Qdp (d := 13) K05 s21) tv) ?_
  refine ic h (fun b2 h => ?_) fun b2 h => ?_
  ·refine rs0 hc 1 [(6,.bool false)] [] ?_
   refine rt ?_
   obtain rfl := os h
   exact rq [true]
  refine sk ?_
  refine sN ?_
  refine rs hc none [oN,some (.eqv (.no) ⟨[(16,I (s10.length : Int))],[],[]⟩),oN] [(1,.sl (List.map K05 s21)),(2,.fn 98 []),(15,.sl (List.map K05 s10)),(16,I (s10.length : Int)),(17,I 0)] [] (ai (Qdp (d := 16) K05 s10) tv) ?_
  refine bk 0 ?_
  obtain ⟨fl,b3,h⟩ := Qdj h
  have hL := slices_EqualFunc_Term_Kimpl_same_l0_ih _ _ b3 c hc
  refine lp ?_
  rcases fl with ⟨⟩ | r
  ·refine WpL.into (e := (.exit 0)) (mkS [] []) hL ?_
   refine Qcx ?_
   refine rs0 hc 1 [(6,.bool true)] [] ?_
   refine rt ?_
   obtain rfl := os h
   exact rq [true]
  refine WpL.mono hL ?_
  rintro _ _ ⟨rfl,hfin⟩
  obtain rfl := os h
  exact ⟨.inl rfl,hfin⟩
 ·rintro impl_same_f slices_EqualFunc_Term_Kimpl_same_l0_f impl_same_ih slices_EqualFunc_Term_Kimpl_same_l0_ih ⟨s10,s21,b4⟩ r h
  intro c hc
  refine WpL.step ?_
  refine rs0 hc 1 [(1,.sl (List.map K05 s21)),(2,.fn 98 []),(15,.sl (List.map K05 s10)),(16,I (s10.length : Int)),(17,I b4),(18,.bool (decide (b4 < (s10.length : Int))))] [] ?_
  refine sN ?_
  refine ic h (fun b5 h => ?_) fun b5 h => ?_
  ·refine sk ?_
   refine sN ?_
   refine bk 1 ?_
   obtain ⟨b6,b7,h⟩ := Qdj h
   refine rs hc none [oN,some (.el (K1d b6)),oN,some (.new 3),oN,oN] [(1,.sl (List.map K05 s21)),(2,.fn 98 []),(7,I b4),(8,.ra 3 0),(15,.sl (List.map K05 s10)),(16,I (s10.length : Int)),(17,I b4)] [(3,K1c b6)] (ai (Qdn b7 (K0c b6)) tv) ?_
   obtain ⟨b8,b9,h⟩ := Qdj h
   refine rs hc none [oN,oN,some (.el (K1d b8)),oN,some (.new 4),oN] [(1,.sl (List.map K05 s21)),(2,.fn 98 []),(8,.ra 3 0),(9,.ra 4 0),(15,.sl (List.map K05 s10)),(16,I (s10.length : Int)),(17,I b4)] [(3,K1c b6),(4,K1c b8)] (ai (Qdn b9 (K0c b8)) tv) ?_
   obtain ⟨c0,c1,h⟩ := Qdj h
   refine rs hc none [oN,oN,oN,oc (.bool c0),oN] [(1,.sl (List.map K05 s21)),(2,.fn 98 []),(15,.sl (List.map K05 s10)),(16,I (s10.length : Int)),(17,I b4),(30,.bool (!c0))] [] (cq (impl_same_ih _ _ c1) K7r tv) ?_
   rcases is h with ⟨c2,h⟩ | ⟨c2,h⟩
   ·refine cF (!c0) (nF c2) ?_
    refine sk ?_
    refine rg0 hc 2 [(1,.sl (List.map K05 s21)),(2,.fn 98 []),(15,.sl (List.map K05 s10)),(16,I (s10.length : Int)),(17,I (wr (b4 + 1)))] [] ?_
    refine Qd1 ?_
    exact (slices_EqualFunc_Term_Kimpl_same_l0_ih _ _ h c hc)
   refine cT (!c0) (nT c2) ?_
   refine rs0 hc 1 [(6,.bool false)] [] ?_
   refine rt ?_
   obtain rfl := os h
   exact re [true]
  refine xt 0 ?_
  refine Qcv ?_
  refine Qd2 ?_
  obtain rfl := os h
  exact iv []
theorem Kmq : ∀ p r,Kmj p = some r → Kmm p r := Kmp.1
theorem Kmr : ∀ p r,Kmk p = some r → Kmn p r := Kmp.2.1
theorem Kms : ∀ p r,Kml p = some r → Kmo p r := Kmp.2.2
def Kmt (p : K00 × K00) : Option (Bool) :=
 match p with
 | (a0,b1) =>
  ((
  (Kjv a0) >>= fun a1 =>
  if a1 = true then
  (Kjv b1) >>= fun a2 =>
  if a2 = true then
  (Kmj (a0,b1)) >>= fun a3 =>
  some (a3)
  else
  some (false)
  else
  some (false)
  ) : Option (Bool)) >>= fun a4 =>
  some a4
def Kmu (p : K00 × K00) (r : Bool) : Prop :=
 match p with
 | (a0,b1) => Q75 Tryz.prog 31 [K1d a0,K1d b1] (.bool r) []
theorem Kmv : ∀ p r,Kmt p = some r → Kmu p r := by
 rintro ⟨a0,b1⟩ r h
 unfold Kmt at h
 refine b0 Tryz.f31 B31 16 [(0,K1d a0),(1,K1d b1)] fun c hc => ?_
 refine rs hc none [some (.new 1),some (.new 2),oN] [(2,.ra 1 0),(3,.ra 2 0)] [(1,K1c a0),(2,K1c b1)] tv ?_
 refine sN ?_
 obtain ⟨a1,a2,h⟩ := Qdj h
 refine Wp.into (x := .normal) (mkS [(4,.bool a1)] []) ?_ ?_
 ·replace h := a2
  obtain ⟨a3,a4,h⟩ := Qdj h
  rcases is h with ⟨a5,h⟩ | ⟨a5,h⟩
  ·obtain ⟨a6,a7,h⟩ := Qdj h
   rcases is h with ⟨a8,h⟩ | ⟨a8,h⟩
   ·obtain ⟨a9,b2,h⟩ := Qdj h
    refine rg hc none [oN,oc (.bool a3),oN,oN,oc (.bool a6),oT,oN,oN,oN,oc (.bool a9),oT,oN] [(4,.bool a9)] [] (cq (Kjx _ _ a4) K6r (ar 2 a5 (cq (Kjx _ _ a7) K6r (ai a5 (ar 3 a8 (cq (Kmq _ _ b2) K7r (ai a8 tv))))))) ?_
    obtain rfl := os h
    exact Qd5.mk
   refine rg hc none [oN,oc (.bool a3),oN,oN,oc (.bool a6),oT,oN,o_,o_,o_,oF,oN] [(4,.bool false)] [] (cq (Kjx _ _ a4) K6r (ar 2 a5 (cq (Kjx _ _ a7) K6r (ai a5 (ar 3 (neT a8) (ai a8 tv)))))) ?_
   obtain rfl := os h
   exact Qd5.mk
  refine rg hc none [oN,oc (.bool a3),oN,o_,o_,oF,oN,o_,o_,o_,oF,oN] [(4,.bool false)] [] (cq (Kjx _ _ a4) K6r (ar 2 (neT a5) (ai a5 (ar 3 (neT (rfl : false = false)) (ai (rfl : false = false) tv))))) ?_
  obtain rfl := os h
  exact Qd5.mk
 clear a2
 refine rt ?_
 obtain rfl := os h
 exact rq [true]
def Kmw (c : Ctx) : (Int × Int × (List Int) × (List K00)) ⊕ ((K00 × Bool)) → Exit → Q0a → Prop
 | .inl (a0,a1,a2,a3) => Qd5 c (.exit 0) (mkS [(2,.ra 1 0),(4,.ra 2 0)] [(1,.box [I a0,I a1,sI a2,.sl (List.map K05 a3)]),(2,.box [I 0,I 0,.nils,.nils])])
 | .inr r => Qde TIx Tryz.f54 [] (.tup [.agg [I r.1.fOp,I r.1.fN,.osl (List.map I r.1.fType),.osl (List.map K08 r.1.fKids)],.bool r.2])
def Kmx (p : (List Int) × Int × Int × (List Int) × (List K00) × Int) : Option ((Int × Int × (List Int) × (List K00)) ⊕ ((K00 × Bool))) :=
 match p with
 | (path1,a0,a1,a2,a3,a4) =>
  if (decide (a4 < (path1.length : Int))) = true then
  (idx path1 a4) >>= fun a5 =>
  (K8n (a5,0,(wr ((a3.length : Int) - 1)))) >>= fun a6 =>
  if a6 = true then
  (idx path1 a4) >>= fun a7 =>
  (idx a3 a7) >>= fun a8 =>
  Kmx (path1,a8.fOp,a8.fN,a8.fType,a8.fKids,(wr (a4 + 1)))
  else
  some (.inr ((K00.mk 0 0 [] []),false))
  else
  some (.inl (a0,a1,a2,a3))
 partial_fixpoint
def Kmy (p : (List Int) × Int × Int × (List Int) × (List K00) × Int) (fl : (Int × Int × (List Int) × (List K00)) ⊕ ((K00 × Bool))) : Prop :=
 match p with
 | (path1,a0,a1,a2,a3,a4) => ∀ c : Ctx,c.nt = 38 → WpL Tryz.prog c (cl (cl (cr (cl (cr (cr B54)))))) (Kmw c fl) (mkS [(1,sI path1),(2,.ra 1 0),(4,.ra 2 0),(6,I a4)] [(1,.box [I a0,I a1,sI a2,.sl (List.map K05 a3)]),(2,.box [I 0,I 0,.nils,.nils])])
theorem Kmz : ∀ p r,Kmx p = some r → Kmy p r := by
 refine Kmx.partial_correctness Kmy ?_
 rintro spec_TermAt_l0_f spec_TermAt_l0_ih ⟨path1,a0,a1,a2,a3,a4⟩ r h
 intro c hc
 refine WpL.step ?_
 refine sN ?_
 refine rss hc none [oN,oN,some (.eqv (.no) ⟨[(13,I (path1.length : Int))],[],[]⟩),oN] [(1,sI path1),(2,.ra 1 0),(4,.ra 2 0),(6,I a4),(14,.bool (decide (a4 < (path1.length : Int))))] (ai (Qdp (d := 13) I path1) tv) ?_
 refine ic h (fun a5 h => ?_) fun a5 h => ?_
 ·refine sk ?_
  refine sN ?_
  refine bk 1 ?_
  refine sN ?_
  obtain ⟨a6,a7,a8,a9,h⟩ := bq2 h
  refine rss hc (rx [[0],[0],[2],[3],[0],[0,4],[0,4,5],[0,4,5,6],[8],[9]]) [oN,oN,some (.el (I a6)),oN,oN,oN,some (.eqv (.no) ⟨[(23,I (a3.length : Int))],[],[]⟩),oN,oc (.bool a8),oN] [(1,sI path1),(2,.ra 1 0),(4,.ra 2 0),(6,I a4),(26,.bool (!a8))] (ab (ix a7) (Qdp (d := 23) K05 a3) (cq (K8p _ _ a9) K2k tv)) ?_
  rcases is h with ⟨b1,h⟩ | ⟨b1,h⟩
  ·refine cF (!a8) (nF b1) ?_
   refine sk ?_
   obtain ⟨b2,b3,b4,b5,h⟩ := bq2 h
   refine rg hc (rx [[0],[1],[0],[0],[0,2,3],[0,2,3,4],[6],[7],[8]]) [oN,oN,oN,oN,some (.el (I b2)),oN,some (.el (K1d b4)),oN,oN] [(1,sI path1),(2,.ra 1 0),(4,.ra 2 0),(6,I a4)] [(1,K1c b4),(2,.box [I 0,I 0,.nils,.nils])] (ab (ix b3) (Qdn b5 (K0c b4)) tv) ?_
   refine K7v hc 3 [(1,sI path1),(2,.ra 1 0),(4,.ra 2 0),(6,I (wr (a4 + 1)))] ?_
   refine Qd1 ?_
   exact (spec_TermAt_l0_ih _ _ h c hc)
  refine cT (!a8) (nT b1) ?_
  refine rs0 hc 3 [(4,.ra 2 0),(5,.bool false)] [(2,.box [I 0,I 0,.nils,.nils])] ?_
  refine rt ?_
  obtain rfl := os h
  exact re [true,true]
 refine xt 0 ?_
 refine Qcv ?_
 refine Qd2 ?_
 obtain rfl := os h
 exact iv []
def Kn0 (p : K00 × (List Int)) : Option (K00 × Bool) :=
 match p with
 | (t0,path1) =>
  (Ki4 t0) >>= fun a0 =>
  if a0 = true then
  (Kmx (path1,t0.fOp,t0.fN,t0.fType,t0.fKids,0)) >>= fun fl => match fl with
  | .inl (a1,a2,a3,a4) =>
   (Kez ((K00.mk a1 a2 a3 a4),0,0)) >>= fun a5 =>
   some (a5,true)
  | .inr r =>
   some r
  else
  some ((K00.mk 0 0 [] []),false)
def Kn1 (p : K00 × (List Int)) (r : K00 × Bool) : Prop :=
 match p with
 | (t0,path1) => Q75 Tryz.prog 54 [K1d t0,sI path1] (.tup [.agg [I r.1.fOp,I r.1.fN,.osl (List.map I r.1.fType),.osl (List.map K08 r.1.fKids)],.bool r.2]) []
theorem Kn2 : ∀ p r,Kn0 p = some r → Kn1 p r := by
 rintro ⟨t0,path1⟩ r h
 unfold Kn0 at h
 refine b0 Tryz.f54 B54 38 [(0,K1d t0),(1,sI path1)] fun c hc => ?_
 refine rs hc none [some (.new 1),some (.new 2),oN] [(1,sI path1),(2,.ra 1 0),(4,.ra 2 0)] [(1,K1c t0),(2,.box [I 0,I 0,.nils,.nils])] tv ?_
 refine sN ?_
 obtain ⟨a0,a1,h⟩ := Qdj h
 refine rss hc none [oN,oc (.bool a0),oN] [(1,sI path1),(2,.ra 1 0),(4,.ra 2 0),(9,.bool (!a0))] (cq (Ki6 _ _ a1) K5z tv) ?_
 rcases is h with ⟨a2,h⟩ | ⟨a2,h⟩
 ·refine cF (!a0) (nF a2) ?_
  refine sk ?_
  refine sN ?_
  refine K7w hc 1 [(1,sI path1),(2,.ra 1 0),(4,.ra 2 0),(6,I 0)] ?_
  refine bk 0 ?_
  obtain ⟨fl,a3,h⟩ := Qdj h
  have hL := Kmz _ _ a3 c hc
  refine lp ?_
  rcases fl with ⟨a4,a5,a6,a7⟩ | r
  ·refine WpL.into (e := (.exit 0)) (mkS [(2,.ra 1 0),(4,.ra 2 0)] [(1,.box [I a4,I a5,sI a6,.sl (List.map K05 a7)]),(2,.box [I 0,I 0,.nils,.nils])]) hL ?_
   refine Qcx ?_
   obtain ⟨a8,a9,h⟩ := Qdj h
   refine rs hc none [oN,some (.call (K1k a8) [] 3),oN,oN] [(4,.ra 2 0),(5,.bool true)] [(2,.box [I a8.fOp,I a8.fN,.rs 3,.rs 4]),(3,rI a8.fType),(4,.arr (List.map K08 a8.fKids))] (cq (Kf4 _ _ a9) K56 tv) ?_
   refine rt ?_
   obtain rfl := os h
   exact rq [true,true]
  refine WpL.mono hL ?_
  rintro _ _ ⟨rfl,hfin⟩
  obtain rfl := os h
  exact ⟨.inl rfl,hfin⟩
 refine cT (!a0) (nT a2) ?_
 refine rs0 hc 3 [(4,.ra 2 0),(5,.bool false)] [(2,.box [I 0,I 0,.nils,.nils])] ?_
 refine rt ?_
 obtain rfl := os h
 exact rq [true,true]
def Kn3 (c : Ctx) (a0 : K00) (a1 : List Int) (a2 : K00) : (Unit) ⊕ (Bool) → Exit → Q0a → Prop
 | .inl _ => Qd5 c .normal (mkS [(3,.ra 2 0),(4,.rs 1),(7,.ra 8 0)] [(1,rI a1),(2,K1c a0),(6,rI a2.fType),(7,.arr (List.map K08 a2.fKids)),(8,.box [I a2.fOp,I a2.fN,.rs 6,.rs 7])])
 | .inr r => Qde TIx Tryz.f9 [] (.bool r)
def Kn4 (code0 : (List Int)) : Option (Bool) :=
 (K7y code0) >>= fun a0 =>
 if a0 = true then
 some true
 else
 (Kiv code0) >>= fun (a1,a2) =>
 (Kli (a1,a2)) >>= fun (a3,a4) =>
 (Kll (a1,a2)) >>= fun (a5,a6) =>
 if a6 = true then
 (Klr a5) >>= fun (a7,a8) =>
 ((
  if a4 = true then
  some (a8)
  else
  some (false)
 ) : Option (Bool)) >>= fun a9 =>
 ((
  if a9 = true then
  (Km8 (a1,a2,a7)) >>= fun (b1,b2) =>
  ((
  if b2 = true then
  (Kmt (b1,a3)) >>= fun b3 =>
  some ((!b3))
  else
  some (true)
  ) : Option (Bool)) >>= fun b4 =>
  if b4 = true then
  some (.inr false)
  else
  some (.inl ())
  else
  some (.inl ())) : Option ((Unit) ⊕ (Bool))) >>= fun fl => match fl with
 | .inl () =>
  (Km8 (a1,a2,a5)) >>= fun (b5,b6) =>
  ((
  if b6 = true then
  (Kmt (b5,a1)) >>= fun b7 =>
  some (b7)
  else
  some (false)
  ) : Option (Bool)) >>= fun b8 =>
  some b8
 | .inr r =>
  some r
 else
 (Kn0 (a1,a2)) >>= fun (b9,c0) =>
 ((
  if a4 = true then
  some (false)
  else
  some ((!c0))
 ) : Option (Bool)) >>= fun c1 =>
 some c1
def Kn5 (code0 : (List Int)) (r : Bool) : Prop :=
 Q75 Tryz.prog 9 [.sl (List.map U8 code0)] (.bool r) []
theorem Kn6 : ∀ p r,Kn4 p = some r → Kn5 p r := by
 rintro code0 r h
 unfold Kn4 at h
 refine b0 Tryz.f9 B9 87 [(0,.sl (List.map U8 code0))] fun c hc => ?_
 refine rs0 hc 1 [(0,.sl (List.map U8 code0))] [] ?_
 refine sN ?_
 obtain ⟨a0,a1,h⟩ := Qdj h
 refine rs hc none [oN,oc (.bool a0)] [(0,.sl (List.map U8 code0)),(18,.bool a0)] [] (cq (K80 _ _ a1) K29 tv) ?_
 refine ic h (fun a2 h => ?_) fun a2 h => ?_
 ·refine rs0 hc 1 [(2,.bool true)] [] ?_
  refine rt ?_
  obtain rfl := os h
  exact rq [true]
 refine sk ?_
 obtain ⟨⟨a3,a4⟩,a5,h⟩ := Qdj h
 refine rs hc none [oN,oc (.tup [K1d a3,oI a4]),oN,oN,oN,some (.new 2),oN,oN] [(3,.ra 2 0),(4,.rs 1)] [(1,rI a4),(2,K1c a3)] (cq (Kix _ _ a5) K69 tv) ?_
 obtain ⟨⟨a6,a7⟩,a8,h⟩ := Qdj h
 refine rs hc none [oN,oN,some (.call (.tup [K1k a6,.bool a7]) [] 3),oN,oN,oN,some (.new 5),oN,oN] [(3,.ra 2 0),(4,.rs 1),(5,.ra 5 0),(6,.bool a7)] [(1,rI a4),(2,K1c a3),(3,rI a6.fType),(4,.arr (List.map K08 a6.fKids)),(5,.box [I a6.fOp,I a6.fN,.rs 3,.rs 4])] (ac (Q75.args (A1 := [K1d a3,.sl (Q02 (List.map I a4))]) (A2 := [K1d a3,sI a4]) (by simp only [List.map_nil,Qeb]) (Klk _ _ a8)) K7d (Or.inr (Qel (Qel rfl (Qel rfl (Qel (Qej Qef a6.fType) (Qel (Qej K15 a6.fKids) rfl)))) (Qel rfl rfl)) : ([1] : List Nat) = [] ∨ noSh (.tup [K1k a6,.bool a7]) = true) tv) ?_
 obtain ⟨⟨a9,b1⟩,b2,h⟩ := Qdj h
 refine rs hc none [oN,oN,some (.call (.tup [K1k a9,.bool b1]) [] 6),oN,oN,oN,some (.new 8),oN,oN] [(3,.ra 2 0),(4,.rs 1),(5,.ra 5 0),(6,.bool a7),(7,.ra 8 0),(8,.bool b1)] [(1,rI a4),(2,K1c a3),(3,rI a6.fType),(4,.arr (List.map K08 a6.fKids)),(5,.box [I a6.fOp,I a6.fN,.rs 3,.rs 4]),(6,rI a9.fType),(7,.arr (List.map K08 a9.fKids)),(8,.box [I a9.fOp,I a9.fN,.rs 6,.rs 7])] (ac (Q75.args (A1 := [K1d a3,.sl (Q02 (List.map I a4))]) (A2 := [K1d a3,sI a4]) (by simp only [List.map_nil,Qeb]) (Kln _ _ b2)) K7e (Or.inr (Qel (Qel rfl (Qel rfl (Qel (Qej Qef a9.fType) (Qel (Qej K15 a9.fKids) rfl)))) (Qel rfl rfl)) : ([1] : List Nat) = [] ∨ noSh (.tup [K1k a9,.bool b1]) = true) tv) ?_
 refine sN ?_
 refine K7w hc 2 [(3,.ra 2 0),(4,.rs 1),(5,.ra 5 0),(6,.bool a7),(7,.ra 8 0),(37,.bool (!b1))] ?_
 rcases is h with ⟨b3,h⟩ | ⟨b3,h⟩
 ·refine cF (!b1) (nF b3) ?_
  refine sk ?_
  obtain ⟨⟨b4,b5⟩,b6,h⟩ := Qdj h
  refine rs hc none [oN,some (.call (.tup [K1k b4,.bool b5]) [] 9),oN,oN,oN,some (.new 11),oN,oN] [(3,.ra 2 0),(4,.rs 1),(5,.ra 5 0),(6,.bool a7),(7,.ra 8 0),(11,.ra 11 0),(12,.bool b5)] [(1,rI a4),(2,K1c a3),(3,rI a6.fType),(4,.arr (List.map K08 a6.fKids)),(5,.box [I a6.fOp,I a6.fN,.rs 3,.rs 4]),(6,rI a9.fType),(7,.arr (List.map K08 a9.fKids)),(8,.box [I a9.fOp,I a9.fN,.rs 6,.rs 7]),(9,rI b4.fType),(10,.arr (List.map K08 b4.fKids)),(11,.box [I b4.fOp,I b4.fN,.rs 9,.rs 10])] (ac (Q75.args (A1 := [K1l a9]) (A2 := [K1d a9]) (by simp only [K1l,List.map_nil,K14,Qeb]) (Klt _ _ b6)) K7h (Or.inr (Qel (Qel rfl (Qel rfl (Qel (Qej Qef b4.fType) (Qel (Qej K15 b4.fKids) rfl)))) (Qel rfl rfl)) : ([6,7] : List Nat) = [] ∨ noSh (.tup [K1k b4,.bool b5]) = true) tv) ?_
  refine sN ?_
  refine sN ?_
  obtain ⟨b7,b8,h⟩ := Qdj h
  refine Wp.into (x := .normal) (mkS [(3,.ra 2 0),(4,.rs 1),(5,.ra 5 0),(7,.ra 8 0),(11,.ra 11 0),(58,.bool b7)] [(1,rI a4),(2,K1c a3),(3,rI a6.fType),(4,.arr (List.map K08 a6.fKids)),(5,.box [I a6.fOp,I a6.fN,.rs 3,.rs 4]),(6,rI a9.fType),(7,.arr (List.map K08 a9.fKids)),(8,.box [I a9.fOp,I a9.fN,.rs 6,.rs 7]),(9,rI b4.fType),(10,.arr (List.map K08 b4.fKids)),(11,.box [I b4.fOp,I b4.fN,.rs 9,.rs 10])]) ?_ ?_
  ·replace h := b8
   rcases is h with ⟨b9,h⟩ | ⟨b9,h⟩
   ·refine rgs hc none [oN,oN,oN,oT] [(3,.ra 2 0),(4,.rs 1),(5,.ra 5 0),(7,.ra 8 0),(11,.ra 11 0),(58,.bool b5)] (ar 2 b9 tv) ?_
    obtain rfl := os h
    exact Qd5.mk
   refine rgs hc none [oN,oN,o_,oF] [(3,.ra 2 0),(4,.rs 1),(5,.ra 5 0),(7,.ra 8 0),(11,.ra 11 0),(58,.bool false)] (ab (neT b9) b9 tv) ?_
   obtain rfl := os h
   exact Qd5.mk
  clear b8
  obtain ⟨fl,c0,h⟩ := Qdj h
  refine flw (Kn3 c a3 a4 a9 fl) ?_ (fun hF => ?_)
  ·replace h := c0
   refine ic h (fun c1 h => ?_) fun c1 h => ?_
   ·obtain ⟨⟨c2,c3⟩,c4,h⟩ := Qdj h
    refine rs hc none [oN,oN,oN,some (.call (.tup [K1k c2,.bool c3]) [] 12),oN,oN,oN,some (.new 14),oN,oN] [(3,.ra 2 0),(4,.rs 1),(5,.ra 5 0),(7,.ra 8 0),(13,.ra 14 0),(14,.bool c3)] [(1,rI a4),(2,K1c a3),(3,rI a6.fType),(4,.arr (List.map K08 a6.fKids)),(5,.box [I a6.fOp,I a6.fN,.rs 3,.rs 4]),(6,rI a9.fType),(7,.arr (List.map K08 a9.fKids)),(8,.box [I a9.fOp,I a9.fN,.rs 6,.rs 7]),(12,rI c2.fType),(13,.arr (List.map K08 c2.fKids)),(14,.box [I c2.fOp,I c2.fN,.rs 12,.rs 13])] (ac (Q75.args (A1 := [K1d a3,.sl (Q02 (List.map I a4)),K1l b4]) (A2 := [K1d a3,sI a4,K1d b4]) (by simp only [K1l,List.map_nil,K14,Qeb]) (Kma _ _ c4)) K7m (Or.inr (Qel (Qel rfl (Qel rfl (Qel (Qej Qef c2.fType) (Qel (Qej K15 c2.fKids) rfl)))) (Qel rfl rfl)) : ([1,9,10] : List Nat) = [] ∨ noSh (.tup [K1k c2,.bool c3]) = true) tv) ?_
    refine sN ?_
    obtain ⟨c5,c6,h⟩ := Qdj h
    refine Wp.into (x := .normal) (mkS [(3,.ra 2 0),(4,.rs 1),(7,.ra 8 0),(73,.bool c5)] [(1,rI a4),(2,K1c a3),(6,rI a9.fType),(7,.arr (List.map K08 a9.fKids)),(8,.box [I a9.fOp,I a9.fN,.rs 6,.rs 7])]) ?_ ?_
    ·replace h := c6
     rcases is h with ⟨c7,h⟩ | ⟨c7,h⟩
     ·obtain ⟨c8,c9,h⟩ := Qdj h
      refine rg hc none [oN,oN,oN,oN,oN,oc (.bool c8),oN,oF] [(3,.ra 2 0),(4,.rs 1),(7,.ra 8 0),(73,.bool (!c8))] [(1,rI a4),(2,K1c a3),(6,rI a9.fType),(7,.arr (List.map K08 a9.fKids)),(8,.box [I a9.fOp,I a9.fN,.rs 6,.rs 7])] (ar 3 (nF c7) (ac (Q75.args (A1 := [K1l c2,K1l a6]) (A2 := [K1d c2,K1d a6]) (by simp only [K1l,List.map_nil,K14,Qeb]) (Kmv _ _ c9)) K7s (Or.inr rfl : ([12,13,3,4] : List Nat) = [] ∨ noSh (.bool c8) = true) (ar 2 (nF c7) tv))) ?_
      obtain rfl := os h
      exact Qd5.mk
     refine rg hc none [oN,oN,oN,o_,o_,o_,o_,oT] [(3,.ra 2 0),(4,.rs 1),(7,.ra 8 0),(73,.bool true)] [(1,rI a4),(2,K1c a3),(6,rI a9.fType),(7,.arr (List.map K08 a9.fKids)),(8,.box [I a9.fOp,I a9.fN,.rs 6,.rs 7])] (ar 4 (neF (nT c7)) (ai (nT c7) tv)) ?_
     obtain rfl := os h
     exact Qd5.mk
    clear c6
    refine ic h (fun d0 h => ?_) fun d0 h => ?_
    ·refine rs0 hc 1 [(2,.bool false)] [] ?_
     refine rt ?_
     obtain rfl := os h
     exact re [true]
    refine sk ?_
    obtain rfl := os h
    exact iv []
   refine sk ?_
   obtain rfl := os h
   exact iv []
  rcases fl with ⟨⟩ | r
  ·refine Wp.into (x := .normal) (mkS [(3,.ra 2 0),(4,.rs 1),(7,.ra 8 0)] [(1,rI a4),(2,K1c a3),(6,rI a9.fType),(7,.arr (List.map K08 a9.fKids)),(8,.box [I a9.fOp,I a9.fN,.rs 6,.rs 7])]) hF ?_
   obtain ⟨⟨d1,d2⟩,d3,h⟩ := Qdj h
   refine rs hc none [oN,oN,oN,some (.call (.tup [K1k d1,.bool d2]) [] 15),oN,oN,oN,some (.new 17),oN,oN] [(3,.ra 2 0),(15,.ra 17 0),(16,.bool d2)] [(2,K1c a3),(15,rI d1.fType),(16,.arr (List.map K08 d1.fKids)),(17,.box [I d1.fOp,I d1.fN,.rs 15,.rs 16])] (ac (Q75.args (A1 := [K1d a3,.sl (Q02 (List.map I a4)),K1l a9]) (A2 := [K1d a3,sI a4,K1d a9]) (by simp only [K1l,List.map_nil,K14,Qeb]) (Kma _ _ d3)) K7m (Or.inr (Qel (Qel rfl (Qel rfl (Qel (Qej Qef d1.fType) (Qel (Qej K15 d1.fKids) rfl)))) (Qel rfl rfl)) : ([1,6,7] : List Nat) = [] ∨ noSh (.tup [K1k d1,.bool d2]) = true) tv) ?_
   refine sN ?_
   obtain ⟨d4,d5,h⟩ := Qdj h
   refine Wp.into (x := .normal) (mkS [(2,.bool d4)] []) ?_ ?_
   ·replace h := d5
    rcases is h with ⟨d6,h⟩ | ⟨d6,h⟩
    ·obtain ⟨d7,d8,h⟩ := Qdj h
     refine rg hc none [oN,oN,oN,oN,oc (.bool d7),oT,oN] [(2,.bool d7)] [] (ar 3 d6 (ad (Q75.args (A1 := [K1l d1,K1d a3]) (A2 := [K1d d1,K1d a3]) (by simp only [K1l,List.map_nil,K14,Qeb]) (Kmv _ _ d8)) K7s (Or.inr rfl : ([15,16] : List Nat) = [] ∨ noSh (.bool d7) = true) d6 tv)) ?_
     obtain rfl := os h
     exact Qd5.mk
    refine rg hc none [oN,oN,o_,o_,o_,oF,oN] [(2,.bool false)] [] (ar 3 (neT d6) (ai d6 tv)) ?_
    obtain rfl := os h
    exact Qd5.mk
   clear d5
   refine rt ?_
   obtain rfl := os h
   exact rq [true]
  refine Wp.mono hF ?_
  rintro _ _ ⟨rfl,hfin⟩
  obtain rfl := os h
  exact ⟨.inl rfl,hfin⟩
 refine cT (!b1) (nT b3) ?_
 obtain ⟨⟨d9,e0⟩,e1,h⟩ := Qdj h
 refine rs hc none [oN,oN,some (.call (.tup [K1k d9,.bool e0]) [] 18),oN,oN,oN,some (.new 20),oN,oN] [(6,.bool a7),(10,.bool e0)] [] (ac (Q75.args (A1 := [K1d a3,.sl (Q02 (List.map I a4))]) (A2 := [K1d a3,sI a4]) (by simp only [List.map_nil,Qeb]) (Kn2 _ _ e1)) K7t (Or.inr (Qel (Qel rfl (Qel rfl (Qel (Qej Qef d9.fType) (Qel (Qej K15 d9.fKids) rfl)))) (Qel rfl rfl)) : ([1] : List Nat) = [] ∨ noSh (.tup [K1k d9,.bool e0]) = true) tv) ?_
 refine sN ?_
 obtain ⟨e2,e3,h⟩ := Qdj h
 refine Wp.into (x := .normal) (mkS [(2,.bool e2)] []) ?_ ?_
 ·replace h := e3
  rcases is h with ⟨e4,h⟩ | ⟨e4,h⟩
  ·refine rg hc none [oN,oN,oN,o_,o_,oF,oN] [(2,.bool false)] [] (ar 2 (neT (nF e4)) (ai (nF e4) tv)) ?_
   obtain rfl := os h
   exact Qd5.mk
  refine rg hc none [oN,oN,oN,oN,oN,oT,oN] [(2,.bool (!e0))] [] (ar 3 (nT e4) tv) ?_
  obtain rfl := os h
  exact Qd5.mk
 clear e3
 refine rt ?_
 obtain rfl := os h
 exact rq [true]
end Go.Am
