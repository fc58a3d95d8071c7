/- Walks, printed. -/
import Derived.Test.YtckgdfakjjdodaaGreatGCONF8
set_option linter.unusedVariables false
set_option linter.unusedSimpArgs false
set_option maxRecDepth 100000
namespace Go.Am
open Go Go.Proofs
def Kjk : Option (List (List Nat)) := rx [[0],[1],[0],[0,2],[0],[0,4],[0,4,5],[7],[0],[9]]
mutual
def Kjl (p : K00 × Int × Int) : Option (Int) :=
 match p with
 | (t0,n1,nodes4) =>
  (Kj1 t0.fOp) >>= fun (a0,a1) =>
  ((
  if a1 = true then
  if (decide ((wr (nodes4 + 1)) > 400)) = true then
   some (true)
  else
   some (((t0.fKids.length : Int) != a0.fkids))
  else
  some (true)
  ) : Option (Bool)) >>= fun a2 =>
  if a2 = true then
  some 401
  else
  ((
  if (t0.fOp == 0) = true then
   (Kiy (t0.fN,0,(wr (n1 - 1)))) >>= fun a3 =>
   some (a3)
  else
   ((
   if (t0.fOp == 1) = true then
   (Kiy (t0.fN,0,2)) >>= fun a4 =>
   some (a4)
   else
   ((
   if a0.fgrade = true then
   (Kj4 t0.fN) >>= fun a5 =>
   some (a5)
   else
   some ((t0.fN == 0))
   ) : Option (Bool)) >>= fun a6 =>
   some (a6)
   ) : Option (Bool)) >>= fun a7 =>
   some (a7)
  ) : Option (Bool)) >>= fun a8 =>
  ((
  if a0.ftyped = true then
   ((
   if a8 = true then
   (Kjd t0.fType) >>= fun a9 =>
   some (a9)
   else
   some (false)
   ) : Option (Bool)) >>= fun b1 =>
   some (b1)
  else
   ((
   if a8 = true then
   some (((t0.fType.length : Int) == 0))
   else
   some (false)
   ) : Option (Bool)) >>= fun b2 =>
   some (b2)
  ) : Option (Bool)) >>= fun b3 =>
  if b3 = true then
  (Kjm (t0,n1,(wr (nodes4 + 1)),0)) >>= fun fl => match fl with
  | .inl b4 =>
   some b4
  | .inr r =>
   some r
  else
  some 401
 partial_fixpoint
def Kjm (p : K00 × Int × Int × Int) : Option ((Int) ⊕ (Int)) :=
 match p with
 | (t0,n1,a0,a1) =>
  if (decide (a1 < (t0.fKids.length : Int))) = true then
  (idx t0.fKids a1) >>= fun a2 =>
  (Kjg (t0.fOp,a1)) >>= fun a3 =>
  (Kjl (a2,(wr (n1 + a3)),a0)) >>= fun a4 =>
  if (decide (a4 > 400)) = true then
  some (.inr 401)
  else
  Kjm (t0,n1,a4,(wr (a1 + 1)))
  else
  some (.inl a0)
 partial_fixpoint
end
def Kjn (p : K00 × Int × Int) (r : Int) : Prop :=
 match p with
 | (t0,n1,nodes4) => Q75 Tryz.prog 134 [K1d t0,I n1,.fn 189 [],.fn 159 [],I nodes4] (I r) []
def Kjo (p : K00 × Int × Int × Int) (fl : (Int) ⊕ (Int)) : Prop :=
 match p with
 | (t0,n1,a0,a1) => ∀ c : Ctx,c.nt = 104 → WpL Tryz.prog c (cl (cl (cr (cl (cr (cr (cr (cr (cr (cr (cr K6n))))))))))) (Kjj c fl) (mkS [(1,I n1),(2,.fn 189 []),(3,.fn 159 []),(4,I a0),(5,.ra 1 0),(82,.sl (List.map K05 t0.fKids)),(83,I (t0.fKids.length : Int)),(84,I a1)] [(1,K1c t0)])
theorem Kjp : (∀ p r,Kjl p = some r → Kjn p r) ∧ (∀ p r,Kjm p = some r → Kjo p r) := by
 refine Kjl.mutual_partial_correctness Kjn Kjo ?_ ?_
 ·rintro impl_check_Kimpl_writtenSize_c1_Kimpl_isWrittenType_l0_f impl_check_Kimpl_writtenSize_c1_Kimpl_isWrittenType_l0_ih ⟨t0,n1,nodes4⟩ r h
  refine b0 Tryz.f134 K6n 104 [(0,K1d t0),(1,I n1),(2,.fn 189 []),(3,.fn 159 []),(4,I nodes4)] fun c hc => ?_
  refine rs hc none [some (.new 1),oN] [(1,I n1),(2,.fn 189 []),(3,.fn 159 []),(4,I nodes4),(5,.ra 1 0)] [(1,K1c t0)] tv ?_
  refine K7w hc 3 [(1,I n1),(2,.fn 189 []),(3,.fn 159 []),(4,I (wr (nodes4 + 1))),(5,.ra 1 0)] ?_
  obtain ⟨⟨a0,a1⟩,a2,h⟩ := Qdj h
  refine rs hc none [oN,oN,oc (.tup [.agg [.str a0.fword,I a0.fkids,.bool a0.fgrade,.bool a0.ftyped],.bool a1]),oN,oN,oN,some (.new 2),oN,oN] [(1,I n1),(2,.fn 189 []),(3,.fn 159 []),(4,I (wr (nodes4 + 1))),(5,.ra 1 0),(11,.ra 2 0),(12,.bool a1)] [(1,K1c t0),(2,.box [.str a0.fword,I a0.fkids,.bool a0.fgrade,.bool a0.ftyped])] (cq (Kj3 _ _ a2) K6c tv) ?_
  refine sN ?_
  refine sN ?_
  obtain ⟨a3,a4,h⟩ := Qdj h
  refine Wp.into (x := .normal) (mkS [(1,I n1),(2,.fn 189 []),(3,.fn 159 []),(4,I (wr (nodes4 + 1))),(5,.ra 1 0),(11,.ra 2 0),(36,.bool a3)] [(1,K1c t0),(2,.box [.str a0.fword,I a0.fkids,.bool a0.fgrade,.bool a0.ftyped])]) ?_ ?_
  ·replace h := a4
   rcases is h with ⟨a5,h⟩ | ⟨a5,h⟩
   ·rcases is h with ⟨a6,h⟩ | ⟨a6,h⟩
    ·refine rgs hc none [oN,oN,oN,oN,oN,oF,oN,o_,o_,o_,o_,o_,o_,oT] [(1,I n1),(2,.fn 189 []),(3,.fn 159 []),(4,I (wr (nodes4 + 1))),(5,.ra 1 0),(11,.ra 2 0),(36,.bool true)] (ar 3 (nF a5) (ar 6 (neF a6) (ai a6 tv))) ?_
     obtain rfl := os h
     exact Qd5.mk
    refine rgs hc none [oN,oN,oN,oN,oN,oF,oN,oN,oN,some (.eqv (.no) ⟨[(32,I (t0.fKids.length : Int))],[],[]⟩),oN,oN,oN,oF] [(1,I n1),(2,.fn 189 []),(3,.fn 159 []),(4,I (wr (nodes4 + 1))),(5,.ra 1 0),(11,.ra 2 0),(36,.bool ((t0.fKids.length : Int) != a0.fkids))] (ar 3 (nF a5) (ar 3 a6 (ai (Qdp (d := 32) K05 t0.fKids) (ar 4 a6 tv)))) ?_
    obtain rfl := os h
    exact Qd5.mk
   refine rgs hc none [oN,oN,oN,o_,o_,oT,oN,o_,o_,o_,o_,o_,o_,oT] [(1,I n1),(2,.fn 189 []),(3,.fn 159 []),(4,I (wr (nodes4 + 1))),(5,.ra 1 0),(11,.ra 2 0),(36,.bool true)] (ar 2 (neF (nT a5)) (ai (nT a5) (ar 6 nf (ai tt tv)))) ?_
   obtain rfl := os h
   exact Qd5.mk
  clear a4
  refine ic h (fun a7 h => ?_) fun a7 h => ?_
  ·refine rs0 hc 1 [(10,I 401)] [] ?_
   refine rt ?_
   obtain rfl := os h
   exact rq [true]
  refine sk ?_
  refine sN ?_
  refine bk 0 ?_
  refine K7w hc 4 [(1,I n1),(2,.fn 189 []),(3,.fn 159 []),(4,I (wr (nodes4 + 1))),(5,.ra 1 0),(11,.ra 2 0),(40,.bool (t0.fOp == 0))] ?_
  obtain ⟨a8,a9,h⟩ := Qdj h
  refine Wp.into (x := .normal) (mkS [(1,I n1),(2,.fn 189 []),(3,.fn 159 []),(4,I (wr (nodes4 + 1))),(5,.ra 1 0),(11,.ra 2 0),(12,.bool a8)] [(1,K1c t0),(2,.box [.str a0.fword,I a0.fkids,.bool a0.fgrade,.bool a0.ftyped])]) ?_ ?_
  ·replace h := a9
   refine ic h (fun b1 h => ?_) fun b1 h => ?_
   ·obtain ⟨b2,b3,h⟩ := Qdj h
    refine rgs hc none [oN,oN,oN,oN,oc (.bool b2),oN] [(1,I n1),(2,.fn 189 []),(3,.fn 159 []),(4,I (wr (nodes4 + 1))),(5,.ra 1 0),(11,.ra 2 0),(12,.bool b2)] (cq (Kj0 _ _ b3) K6a tv) ?_
    obtain rfl := os h
    exact Qd5.mk
   refine K7w hc 4 [(1,I n1),(2,.fn 189 []),(3,.fn 159 []),(4,I (wr (nodes4 + 1))),(5,.ra 1 0),(11,.ra 2 0),(49,.bool (t0.fOp == 1))] ?_
   obtain ⟨b4,b5,h⟩ := Qdj h
   refine Wp.into (x := .normal) (mkS [(1,I n1),(2,.fn 189 []),(3,.fn 159 []),(4,I (wr (nodes4 + 1))),(5,.ra 1 0),(11,.ra 2 0),(12,.bool b4)] [(1,K1c t0),(2,.box [.str a0.fword,I a0.fkids,.bool a0.fgrade,.bool a0.ftyped])]) ?_ ?_
   ·replace h := b5
    refine ic h (fun b6 h => ?_) fun b6 h => ?_
    ·obtain ⟨b7,b8,h⟩ := Qdj h
     refine rgs hc none [oN,oN,oc (.bool b7),oN] [(1,I n1),(2,.fn 189 []),(3,.fn 159 []),(4,I (wr (nodes4 + 1))),(5,.ra 1 0),(11,.ra 2 0),(12,.bool b7)] (cq (Kj0 _ _ b8) K6a tv) ?_
     obtain rfl := os h
     exact Qd5.mk
    refine K7w hc 3 [(1,I n1),(2,.fn 189 []),(3,.fn 159 []),(4,I (wr (nodes4 + 1))),(5,.ra 1 0),(11,.ra 2 0),(56,.bool a0.fgrade)] ?_
    obtain ⟨b9,c0,h⟩ := Qdj h
    refine Wp.into (x := .normal) (mkS [(1,I n1),(2,.fn 189 []),(3,.fn 159 []),(4,I (wr (nodes4 + 1))),(5,.ra 1 0),(11,.ra 2 0),(12,.bool b9)] [(1,K1c t0),(2,.box [.str a0.fword,I a0.fkids,.bool a0.fgrade,.bool a0.ftyped])]) ?_ ?_
    ·replace h := c0
     refine ic h (fun c1 h => ?_) fun c1 h => ?_
     ·obtain ⟨c2,c3,h⟩ := Qdj h
      refine rgs hc none [oN,oN,oN,oc (.bool c2),oN] [(1,I n1),(2,.fn 189 []),(3,.fn 159 []),(4,I (wr (nodes4 + 1))),(5,.ra 1 0),(11,.ra 2 0),(12,.bool c2)] (cq (Kj6 _ _ c3) K6e tv) ?_
      obtain rfl := os h
      exact Qd5.mk
     refine K7v hc 4 [(1,I n1),(2,.fn 189 []),(3,.fn 159 []),(4,I (wr (nodes4 + 1))),(5,.ra 1 0),(11,.ra 2 0),(12,.bool (t0.fN == 0))] ?_
     obtain rfl := os h
     exact Qd5.mk
    clear c0
    obtain rfl := os h
    exact Qd5.mk
   clear b5
   obtain rfl := os h
   exact Qd5.mk
  clear a9
  refine sN ?_
  refine rs0 hc 2 [(1,I n1),(2,.fn 189 []),(3,.fn 159 []),(4,I (wr (nodes4 + 1))),(5,.ra 1 0),(12,.bool a8),(64,.bool a0.ftyped)] [(1,K1c t0)] ?_
  obtain ⟨c4,c5,h⟩ := Qdj h
  refine Wp.into (x := .normal) (mkS [(1,I n1),(2,.fn 189 []),(3,.fn 159 []),(4,I (wr (nodes4 + 1))),(5,.ra 1 0),(12,.bool c4)] [(1,K1c t0)]) ?_ ?_
  ·replace h := c5
   refine ic h (fun c6 h => ?_) fun c6 h => ?_
   ·obtain ⟨c7,c8,h⟩ := Qdj h
    refine Wp.into (x := .normal) (mkS [(1,I n1),(2,.fn 189 []),(3,.fn 159 []),(4,I (wr (nodes4 + 1))),(5,.ra 1 0),(12,.bool c7)] [(1,K1c t0)]) ?_ ?_
    ·replace h := c8
     rcases is h with ⟨c9,h⟩ | ⟨c9,h⟩
     ·obtain ⟨d0,d1,h⟩ := Qdj h
      refine rgs hc none [oN,oN,oN,oN,oN,oc (.bool d0),oT,oN] [(1,I n1),(2,.fn 189 []),(3,.fn 159 []),(4,I (wr (nodes4 + 1))),(5,.ra 1 0),(12,.bool d0)] (ar 4 c9 (cq (Kjf _ _ d1) K6k (ai c9 tv))) ?_
      obtain rfl := os h
      exact Qd5.mk
     refine rgs hc none [oN,oN,o_,o_,o_,o_,oF,oN] [(1,I n1),(2,.fn 189 []),(3,.fn 159 []),(4,I (wr (nodes4 + 1))),(5,.ra 1 0),(12,.bool false)] (ar 4 (neT c9) (ai c9 tv)) ?_
     obtain rfl := os h
     exact Qd5.mk
    clear c8
    obtain rfl := os h
    exact Qd5.mk
   obtain ⟨d2,d3,h⟩ := Qdj h
   refine Wp.into (x := .normal) (mkS [(1,I n1),(2,.fn 189 []),(3,.fn 159 []),(4,I (wr (nodes4 + 1))),(5,.ra 1 0),(12,.bool d2)] [(1,K1c t0)]) ?_ ?_
   ·replace h := d3
    rcases is h with ⟨d4,h⟩ | ⟨d4,h⟩
    ·refine rgs hc none [oN,oN,oN,oN,some (.eqv (.no) ⟨[(76,I (t0.fType.length : Int))],[],[]⟩),oN,oT,oN] [(1,I n1),(2,.fn 189 []),(3,.fn 159 []),(4,I (wr (nodes4 + 1))),(5,.ra 1 0),(12,.bool ((t0.fType.length : Int) == 0))] (ar 3 d4 (ai (Qdp (d := 76) I t0.fType) (ar 2 d4 tv))) ?_
     obtain rfl := os h
     exact Qd5.mk
    refine rgs hc none [oN,oN,o_,o_,o_,o_,oF,oN] [(1,I n1),(2,.fn 189 []),(3,.fn 159 []),(4,I (wr (nodes4 + 1))),(5,.ra 1 0),(12,.bool false)] (ar 4 (neT d4) (ai d4 tv)) ?_
    obtain rfl := os h
    exact Qd5.mk
   clear d3
   obtain rfl := os h
   exact Qd5.mk
  clear c5
  refine sN ?_
  refine K7w hc 2 [(1,I n1),(2,.fn 189 []),(3,.fn 159 []),(4,I (wr (nodes4 + 1))),(5,.ra 1 0),(80,.bool (!c4))] ?_
  rcases is h with ⟨d5,h⟩ | ⟨d5,h⟩
  ·refine cF (!c4) (nF d5) ?_
   refine sk ?_
   refine sN ?_
   refine rss hc none [oN,oN,some (.eqv (.no) ⟨[(83,I (t0.fKids.length : Int))],[],[]⟩),oN] [(1,I n1),(2,.fn 189 []),(3,.fn 159 []),(4,I (wr (nodes4 + 1))),(5,.ra 1 0),(82,.sl (List.map K05 t0.fKids)),(83,I (t0.fKids.length : Int)),(84,I 0)] (ai (Qdp (d := 83) K05 t0.fKids) tv) ?_
   refine bk 1 ?_
   obtain ⟨fl,d6,h⟩ := Qdj h
   have hL := impl_check_Kimpl_writtenSize_c1_Kimpl_isWrittenType_l0_ih _ _ d6 c hc
   refine lp ?_
   rcases fl with d7 | r
   ·refine WpL.into (e := (.exit 1)) (mkS [(4,I d7)] []) hL ?_
    refine Qcx ?_
    refine rs0 hc 2 [(10,I d7)] [] ?_
    refine rt ?_
    obtain rfl := os h
    exact rq [true]
   refine WpL.mono hL ?_
   rintro _ _ ⟨rfl,hfin⟩
   obtain rfl := os h
   exact ⟨.inl rfl,hfin⟩
  refine cT (!c4) (nT d5) ?_
  refine rs0 hc 1 [(10,I 401)] [] ?_
  refine rt ?_
  obtain rfl := os h
  exact rq [true]
 ·rintro impl_check_Kimpl_writtenSize_c1_Kimpl_isWrittenType_f impl_check_Kimpl_writtenSize_c1_Kimpl_isWrittenType_l0_f impl_check_Kimpl_writtenSize_c1_Kimpl_isWrittenType_ih impl_check_Kimpl_writtenSize_c1_Kimpl_isWrittenType_l0_ih ⟨t0,n1,d8,d9⟩ r h
  intro c hc
  refine WpL.step ?_
  refine K7w hc 1 [(1,I n1),(2,.fn 189 []),(3,.fn 159 []),(4,I d8),(5,.ra 1 0),(82,.sl (List.map K05 t0.fKids)),(83,I (t0.fKids.length : Int)),(84,I d9),(85,.bool (decide (d9 < (t0.fKids.length : Int))))] ?_
  refine sN ?_
  refine ic h (fun e0 h => ?_) fun e0 h => ?_
  ·refine sk ?_
   refine sN ?_
   refine bk 2 ?_
   obtain ⟨e1,e2,h⟩ := Qdj h
   refine rs hc none [oN,some (.el (K1d e1)),oN,some (.new 4),oN,oN] [(1,I n1),(2,.fn 189 []),(3,.fn 159 []),(4,I d8),(5,.ra 1 0),(13,I d9),(14,.ra 4 0),(82,.sl (List.map K05 t0.fKids)),(83,I (t0.fKids.length : Int)),(84,I d9)] [(1,K1c t0),(4,K1c e1)] (ai (Qdn e2 (K0c e1)) tv) ?_
   obtain ⟨e3,e4,e5,e6,h⟩ := bq2 h
   refine rs hc (rx [[0],[0],[0],[0,2],[0],[0,2,3,4],[0,1,2,3,4,5],[0],[0],[0],[10],[11]]) [oN,oN,oN,oN,oN,oc (I e3),oN,oN,oN,oN,oc (I e5),oN] [(1,I n1),(2,.fn 189 []),(3,.fn 159 []),(4,I e5),(5,.ra 1 0),(82,.sl (List.map K05 t0.fKids)),(83,I (t0.fKids.length : Int)),(84,I d9)] [(1,K1c t0)] (cq (Kji _ _ e4) K6m (cq (impl_check_Kimpl_writtenSize_c1_Kimpl_isWrittenType_ih _ _ e6) K6o tv)) ?_
   refine K7w hc 2 [(1,I n1),(2,.fn 189 []),(3,.fn 159 []),(4,I e5),(5,.ra 1 0),(82,.sl (List.map K05 t0.fKids)),(83,I (t0.fKids.length : Int)),(84,I d9),(101,.bool (decide (e5 > 400)))] ?_
   refine ic h (fun e7 h => ?_) fun e7 h => ?_
   ·refine rs0 hc 1 [(10,I 401)] [] ?_
    refine rt ?_
    obtain rfl := os h
    exact re [true]
   refine sk ?_
   refine K7v hc 2 [(1,I n1),(2,.fn 189 []),(3,.fn 159 []),(4,I e5),(5,.ra 1 0),(82,.sl (List.map K05 t0.fKids)),(83,I (t0.fKids.length : Int)),(84,I (wr (d9 + 1)))] ?_
   refine Qd1 ?_
   exact (impl_check_Kimpl_writtenSize_c1_Kimpl_isWrittenType_l0_ih _ _ h c hc)
  refine xt 1 ?_
  refine Qcv ?_
  refine Qd2 ?_
  obtain rfl := os h
  exact iv []
theorem Kjq : ∀ p r,Kjl p = some r → Kjn p r := Kjp.1
theorem Kjr : ∀ p r,Kjm p = some r → Kjo p r := Kjp.2
def Kjs (t0 : K00) : Option (Int) :=
 (Kjl (t0,8,0)) >>= fun a0 =>
 some a0
def Kjt (t0 : K00) (r : Int) : Prop :=
 Q75 Tryz.prog 112 [K1d t0] (I r) []
theorem Kju : ∀ p r,Kjs p = some r → Kjt p r := by
 rintro t0 r h
 unfold Kjs at h
 refine b0 Tryz.f112 K6p 5 [(0,K1d t0)] fun c hc => ?_
 refine rs hc none [some (.new 1),oN] [(1,.ra 1 0)] [(1,K1c t0)] tv ?_
 obtain ⟨a0,a1,h⟩ := Qdj h
 refine rs hc none [oN,oc (I a0),oN] [(2,I a0)] [] (cq (Kjq _ _ a1) K6o tv) ?_
 refine rt ?_
 obtain rfl := os h
 exact rq [true]
def Kjv (t0 : K00) : Option (Bool) :=
 (Kjs t0) >>= fun a0 =>
 some (decide (a0 ≤ 400))
def Kjw (t0 : K00) (r : Bool) : Prop :=
 Q75 Tryz.prog 40 [K1d t0] (.bool r) []
theorem Kjx : ∀ p r,Kjv p = some r → Kjw p r := by
 rintro t0 r h
 unfold Kjv at h
 refine b0 Tryz.f40 B40 6 [(0,K1d t0)] fun c hc => ?_
 refine rs hc none [some (.new 1),oN] [(1,.ra 1 0)] [(1,K1c t0)] tv ?_
 obtain ⟨a0,a1,h⟩ := Qdj h
 refine rs hc none [oN,oc (I a0),oN,oN] [(2,.bool (decide (a0 ≤ 400)))] [] (cq (Kju _ _ a1) K6q tv) ?_
 refine rt ?_
 obtain rfl := os h
 exact rq [true]
def Kjy (c : Ctx) : (Int × Int × (List Int) × (List K00)) ⊕ ((K00 × Bool)) → Exit → Q0a → Prop
 | .inl (a0,a1,a2,a3) => Qd5 c (.exit 0) (mkS [(2,.ra 1 0),(4,.ra 2 0)] [(1,.box [I a0,I a1,sI a2,.sl (List.map K05 a3)]),(2,.box [I 0,I 0,.nils,.nils])])
 | .inr r => Qde TIx Tryz.f127 [] (.tup [.agg [I r.1.fOp,I r.1.fN,.sl (List.map I r.1.fType),.sl (List.map K05 r.1.fKids)],.bool r.2])
def Kjz (p : (List Int) × Int × Int × (List Int) × (List K00) × Int) : Option ((Int × Int × (List Int) × (List K00)) ⊕ ((K00 × Bool))) :=
 match p with
 | (path1,a0,a1,a2,a3,a4) =>
  if (decide (a4 < (path1.length : Int))) = true then
  (idx path1 a4) >>= fun a5 =>
  (Kiy (a5,0,(wr ((a3.length : Int) - 1)))) >>= fun a6 =>
  if a6 = true then
  (idx a3 a5) >>= fun a7 =>
  Kjz (path1,a7.fOp,a7.fN,a7.fType,a7.fKids,(wr (a4 + 1)))
  else
  some (.inr ((K00.mk 0 0 [] []),false))
  else
  some (.inl (a0,a1,a2,a3))
 partial_fixpoint
def Kk0 (p : (List Int) × Int × Int × (List Int) × (List K00) × Int) (fl : (Int × Int × (List Int) × (List K00)) ⊕ ((K00 × Bool))) : Prop :=
 match p with
 | (path1,a0,a1,a2,a3,a4) => ∀ c : Ctx,c.nt = 29 → WpL Tryz.prog c (cl (cl (cr (cl (cr K6s))))) (Kjy c fl) (mkS [(2,.ra 1 0),(4,.ra 2 0),(8,sI path1),(9,I (path1.length : Int)),(10,I a4)] [(1,.box [I a0,I a1,sI a2,.sl (List.map K05 a3)]),(2,.box [I 0,I 0,.nils,.nils])])
theorem Kk1 : ∀ p r,Kjz p = some r → Kk0 p r := by
 refine Kjz.partial_correctness Kk0 ?_
 rintro impl_at_l0_f impl_at_l0_ih ⟨path1,a0,a1,a2,a3,a4⟩ r h
 intro c hc
 refine WpL.step ?_
 refine K7w hc 1 [(2,.ra 1 0),(4,.ra 2 0),(8,sI path1),(9,I (path1.length : Int)),(10,I a4),(11,.bool (decide (a4 < (path1.length : Int))))] ?_
 refine sN ?_
 refine ic h (fun a5 h => ?_) fun a5 h => ?_
 ·refine sk ?_
  refine sN ?_
  refine bk 1 ?_
  obtain ⟨a6,a7,h⟩ := Qdj h
  refine rss hc none [some (.el (I a6)),oN,oN] [(2,.ra 1 0),(4,.ra 2 0),(7,I a6),(8,sI path1),(9,I (path1.length : Int)),(10,I a4)] (ai (ix a7) tv) ?_
  refine sN ?_
  obtain ⟨a8,a9,h⟩ := Qdj h
  refine rss hc none [oN,oN,oN,some (.eqv (.no) ⟨[(17,I (a3.length : Int))],[],[]⟩),oN,oc (.bool a8),oN] [(2,.ra 1 0),(4,.ra 2 0),(7,I a6),(8,sI path1),(9,I (path1.length : Int)),(10,I a4),(20,.bool (!a8))] (ai (Qdp (d := 17) K05 a3) (cq (Kj0 _ _ a9) K6a tv)) ?_
  rcases is h with ⟨b1,h⟩ | ⟨b1,h⟩
  ·refine cF (!a8) (nF b1) ?_
   refine sk ?_
   obtain ⟨b2,b3,h⟩ := Qdj h
   refine rg hc none [oN,oN,oN,some (.el (K1d b2)),oN,oN] [(2,.ra 1 0),(4,.ra 2 0),(8,sI path1),(9,I (path1.length : Int)),(10,I a4)] [(1,K1c b2),(2,.box [I 0,I 0,.nils,.nils])] (ai (Qdn b3 (K0c b2)) tv) ?_
   refine K7v hc 2 [(2,.ra 1 0),(4,.ra 2 0),(8,sI path1),(9,I (path1.length : Int)),(10,I (wr (a4 + 1)))] ?_
   refine Qd1 ?_
   exact (impl_at_l0_ih _ _ h c hc)
  refine cT (!a8) (nT b1) ?_
  refine rs0 hc 3 [(4,.ra 2 0),(5,.bool false)] [(2,.box [I 0,I 0,.nils,.nils])] ?_
  refine rt ?_
  obtain rfl := os h
  exact re [false,true]
 refine xt 0 ?_
 refine Qcv ?_
 refine Qd2 ?_
 obtain rfl := os h
 exact iv []
def Kk2 (p : K00 × (List Int)) : Option (K00 × Bool) :=
 match p with
 | (t0,path1) =>
  (Kjz (path1,t0.fOp,t0.fN,t0.fType,t0.fKids,0)) >>= fun fl => match fl with
  | .inl (a0,a1,a2,a3) =>
   some ((K00.mk a0 a1 a2 a3),true)
  | .inr r =>
   some r
def Kk3 (p : K00 × (List Int)) (r : K00 × Bool) : Prop :=
 match p with
 | (t0,path1) => Q75 Tryz.prog 127 [K1d t0,sI path1] (.tup [.agg [I r.1.fOp,I r.1.fN,.sl (List.map I r.1.fType),.sl (List.map K05 r.1.fKids)],.bool r.2]) []
theorem Kk4 : ∀ p r,Kk2 p = some r → Kk3 p r := by
 rintro ⟨t0,path1⟩ r h
 unfold Kk2 at h
 refine b0 Tryz.f127 K6s 29 [(0,K1d t0),(1,sI path1)] fun c hc => ?_
 refine rs hc none [some (.new 1),some (.new 2),oN] [(1,sI path1),(2,.ra 1 0),(4,.ra 2 0)] [(1,K1c t0),(2,.box [I 0,I 0,.nils,.nils])] tv ?_
 refine sN ?_
 refine rss hc none [oN,some (.eqv (.no) ⟨[(9,I (path1.length : Int))],[],[]⟩),oN] [(2,.ra 1 0),(4,.ra 2 0),(8,sI path1),(9,I (path1.length : Int)),(10,I 0)] (ai (Qdp (d := 9) I path1) tv) ?_
 refine bk 0 ?_
 obtain ⟨fl,a0,h⟩ := Qdj h
 have hL := Kk1 _ _ a0 c hc
 refine lp ?_
 rcases fl with ⟨a1,a2,a3,a4⟩ | r
 ·refine WpL.into (e := (.exit 0)) (mkS [(2,.ra 1 0),(4,.ra 2 0)] [(1,.box [I a1,I a2,sI a3,.sl (List.map K05 a4)]),(2,.box [I 0,I 0,.nils,.nils])]) hL ?_
  refine Qcx ?_
  refine rs0 hc 3 [(4,.ra 2 0),(5,.bool true)] [(2,.box [I a1,I a2,sI a3,.sl (List.map K05 a4)])] ?_
  refine rt ?_
  obtain rfl := os h
  exact rq [false,true]
 refine WpL.mono hL ?_
 rintro _ _ ⟨rfl,hfin⟩
 obtain rfl := os h
 exact ⟨.inl rfl,hfin⟩
def Kk5 (t0 : K00) : Option (Bool) :=
 if ((t0.fKids.length : Int) == 0) = true then
 some false
 else
 (idx t0.fKids 0) >>= fun a0 =>
 if (t0.fOp == 2) = true then
 ((
 if (a0.fOp == 1) = true then
 (idx t0.fKids 1) >>= fun a1 =>
 some ((a1.fOp == 1))
 else
 some (false)
 ) : Option (Bool)) >>= fun a2 =>
 some a2
 else
 if (t0.fOp == 3) = true then
 some (a0.fOp == 1)
 else
 if (t0.fOp == 10) = true then
 some (a0.fOp == 9)
 else
 if (t0.fOp == 5) = true then
 some (a0.fOp == 4)
 else
 if (t0.fOp == 8) = true then
 ((
 if (a0.fOp == 6) = true then
 some (true)
 else
 some ((a0.fOp == 7))
 ) : Option (Bool)) >>= fun a3 =>
 some a3
 else
 if (t0.fOp == 12) = true then
 some (a0.fOp == 11)
 else
 some false
def Kk6 (t0 : K00) (r : Bool) : Prop :=
 Q75 Tryz.prog 128 [K1d t0] (.bool r) []
theorem Kk7 : ∀ p r,Kk5 p = some r → Kk6 p r := by
 rintro t0 r h
 unfold Kk5 at h
 refine b0 Tryz.f128 K6u 51 [(0,K1d t0)] fun c hc => ?_
 refine rs hc none [some (.new 1),oN] [(1,.ra 1 0)] [(1,K1c t0)] tv ?_
 refine sN ?_
 refine rss hc none [oN,oN,some (.eqv (.no) ⟨[(6,I (t0.fKids.length : Int))],[],[]⟩),oN] [(1,.ra 1 0),(7,.bool ((t0.fKids.length : Int) == 0))] (ai (Qdp (d := 6) K05 t0.fKids) tv) ?_
 refine ic h (fun a0 h => ?_) fun a0 h => ?_
 ·refine rs0 hc 1 [(2,.bool false)] [] ?_
  refine rt ?_
  obtain rfl := os h
  exact rq [true]
 refine sk ?_
 obtain ⟨a1,a2,h⟩ := Qdj h
 refine rss hc none [oN,oN,some (.el (K1d a1)),oN,oN,oN] [(1,.ra 1 0),(3,I a1.fOp)] (ai (Qdn a2 (K0c a1)) tv) ?_
 refine sN ?_
 refine K7w hc 2 [(1,.ra 1 0),(3,I a1.fOp),(14,I t0.fOp)] ?_
 refine bk 0 ?_
 refine K7w hc 2 [(1,.ra 1 0),(3,I a1.fOp),(14,I t0.fOp),(15,.bool (t0.fOp == 2))] ?_
 refine ic h (fun a3 h => ?_) fun a3 h => ?_
 ·refine sN ?_
  obtain ⟨a4,a5,h⟩ := Qdj h
  refine Wp.into (x := .normal) (mkS [(2,.bool a4)] []) ?_ ?_
  ·replace h := a5
   rcases is h with ⟨a6,h⟩ | ⟨a6,h⟩
   ·obtain ⟨a7,a8,h⟩ := Qdj h
    refine rg hc none [oN,oN,oN,oN,oN,some (.el (K1d a7)),oN,oN,oN,oT,oN] [(2,.bool (a7.fOp == 1))] [] (ar 3 a6 (ai (Qdn a8 (K0c a7)) (ar 4 a6 tv))) ?_
    obtain rfl := os h
    exact Qd5.mk
   refine rg hc none [oN,oN,oN,o_,o_,o_,o_,o_,o_,oF,oN] [(2,.bool false)] [] (ar 6 (neT a6) (ai a6 tv)) ?_
   obtain rfl := os h
   exact Qd5.mk
  clear a5
  refine rt ?_
  obtain rfl := os h
  exact rq [true]
 refine rs0 hc 2 [(3,I a1.fOp),(14,I t0.fOp),(27,.bool (t0.fOp == 3))] [] ?_
 refine ic h (fun a9 h => ?_) fun a9 h => ?_
 ·refine rs0 hc 3 [(2,.bool (a1.fOp == 1))] [] ?_
  refine rt ?_
  obtain rfl := os h
  exact rq [true]
 refine rs0 hc 2 [(3,I a1.fOp),(14,I t0.fOp),(31,.bool (t0.fOp == 10))] [] ?_
 refine ic h (fun b1 h => ?_) fun b1 h => ?_
 ·refine rs0 hc 3 [(2,.bool (a1.fOp == 9))] [] ?_
  refine rt ?_
  obtain rfl := os h
  exact rq [true]
 refine rs0 hc 2 [(3,I a1.fOp),(14,I t0.fOp),(35,.bool (t0.fOp == 5))] [] ?_
 refine ic h (fun b2 h => ?_) fun b2 h => ?_
 ·refine rs0 hc 3 [(2,.bool (a1.fOp == 4))] [] ?_
  refine rt ?_
  obtain rfl := os h
  exact rq [true]
 refine rs0 hc 2 [(3,I a1.fOp),(14,I t0.fOp),(39,.bool (t0.fOp == 8))] [] ?_
 refine ic h (fun b3 h => ?_) fun b3 h => ?_
 ·refine sN ?_
  obtain ⟨b4,b5,h⟩ := Qdj h
  refine Wp.into (x := .normal) (mkS [(2,.bool b4)] []) ?_ ?_
  ·replace h := b5
   rcases is h with ⟨b6,h⟩ | ⟨b6,h⟩
   ·refine rg hc none [oN,oN,oN,o_,o_,oT,oN] [(2,.bool true)] [] (ar 2 (neF b6) (ai b6 tv)) ?_
    obtain rfl := os h
    exact Qd5.mk
   refine rg hc none [oN,oN,oN,oN,oN,oF,oN] [(2,.bool (a1.fOp == 7))] [] (ar 3 b6 tv) ?_
   obtain rfl := os h
   exact Qd5.mk
  clear b5
  refine rt ?_
  obtain rfl := os h
  exact rq [true]
 refine rs0 hc 2 [(3,I a1.fOp),(47,.bool (t0.fOp == 12))] [] ?_
 refine ic h (fun b7 h => ?_) fun b7 h => ?_
 ·refine rs0 hc 3 [(2,.bool (a1.fOp == 11))] [] ?_
  refine rt ?_
  obtain rfl := os h
  exact rq [true]
 refine sk ?_
 refine rs0 hc 1 [(2,.bool false)] [] ?_
 refine rt ?_
 obtain rfl := os h
 exact rq [true]
def Kk8 (s0 : (List Int)) : Option ((List Int)) :=
 (Qdw (([] : List Int).length + s0.length) 8) >>= fun _ =>
 some s0
def Kk9 (s0 : (List Int)) (r : (List Int)) : Prop :=
 Q75 Tryz.prog 88 [sI s0] (oI r) []
theorem Kka : ∀ p r,Kk8 p = some r → Kk9 p r := by
 rintro s0 r h
 unfold Kk8 at h
 refine b0 Tryz.f88 B88 8 [(0,sI s0)] fun c hc => ?_
 refine rs0 hc 1 [(0,sI s0)] [] ?_
 refine sN ?_
 refine rs0 hc 2 [(0,sI s0),(4,.nilq (List.map I s0))] [] ?_
 refine Wp.condNil (xs := List.map I s0) (by kernel_rfl) (by kernel_rfl) (fun hn => ?_) ?_
 ·replace hn := List.map_eq_nil_iff.1 hn
  replace h : (some []) = some r := by rw [hn] at h; simpa [Qdw,chk] using h
  refine rs0 hc 1 [(2,.nils)] [] ?_
  refine rt ?_
  obtain rfl := os h
  exact rq [true]
 refine sk ?_
 obtain ⟨_,a0,h⟩ := Qdj h
 refine rs hc none [some (.mk 1 true),oN,some (.eqv (.mk 2 true) ⟨[(7,.rs 2)],[(2,some (rI s0)),(1,none)],[2]⟩),oN] [(2,.rs 2)] [(2,rI s0)] (ab (congrArg (fun z => (⟨[(7,.rs 2)],[(2,some (.arr z)),(1,none)],[2]⟩ : Wr)) (List.nil_append _ : [] ++ (List.map I s0) = List.map I s0)) (Qdx (enc1 := I) (enc2 := I) (e1 := []) (e2 := s0) (sz := 1) Qe6 Qe6 a0) tv) ?_
 refine rt ?_
 obtain rfl := os h
 exact rq [true]
def Kkb (c : Ctx) (t0 : K00) (a0 : List Int) : (List K00) → Exit → Q0a → Prop
 | a1 => Qd5 c (.exit 0) (mkS [(2,.ra 2 0),(3,.ra 4 0)] [(2,.box [I 0,I 0,.nils,.nils]),(3,rI a0),(4,.box [I t0.fOp,I t0.fN,.rs 3,.rs 10]),(10,.arr (List.map K08 a1))])
mutual
def Kkc (t0 : K00) : Option (K00) :=
 (Kk8 t0.fType) >>= fun a0 =>
 (Kkd (t0,a0,[],0)) >>= fun a1 =>
 some (K00.mk t0.fOp t0.fN a0 a1)
 partial_fixpoint
def Kkd (p : K00 × (List Int) × (List K00) × Int) : Option ((List K00)) :=
 match p with
 | (t0,a0,a1,a2) =>
  if (decide (a2 < (t0.fKids.length : Int))) = true then
  (idx t0.fKids a2) >>= fun a3 =>
  (Kkc a3) >>= fun a4 =>
  (Qdw (a1.length + [a4].length) 64) >>= fun _ =>
  Kkd (t0,a0,(a1 ++ [a4]),(wr (a2 + 1)))
  else
  some (a1)
 partial_fixpoint
end
def Kke (t0 : K00) (r : K00) : Prop :=
 Q75 Tryz.prog 131 [K1d t0] (K1k r) []
def Kkf (p : K00 × (List Int) × (List K00) × Int) (fl : (List K00)) : Prop :=
 match p with
 | (t0,a0,a1,a2) => ∀ c : Ctx,c.nt = 30 → WpL Tryz.prog c (cl (cl (cr (cl (cr (cr K6x)))))) (Kkb c t0 a0 fl) (mkS [(2,.ra 2 0),(3,.ra 4 0),(15,.sl (List.map K05 t0.fKids)),(16,I (t0.fKids.length : Int)),(17,I a2)] [(2,.box [I 0,I 0,.nils,.nils]),(3,rI a0),(4,.box [I t0.fOp,I t0.fN,.rs 3,.rs 10]),(10,.arr (List.map K08 a1))])
theorem Kkg : (∀ p r,Kkc p = some r → Kke p r) ∧ (∀ p r,Kkd p = some r → Kkf p r) := by
 refine Kkc.mutual_partial_correctness Kke Kkf ?_ ?_
 ·rintro impl_copyTerm_l0_f impl_copyTerm_l0_ih t0 r h
  refine b0 Tryz.f131 K6x 30 [(0,K1d t0)] fun c hc => ?_
  refine rs hc none [some (.new 1),some (.new 2)] [(1,.ra 1 0),(2,.ra 2 0)] [(1,K1c t0),(2,.box [I 0,I 0,.nils,.nils])] tv ?_
  obtain ⟨a0,a1,h⟩ := Qdj h
  refine rs hc Kjk [oN,oN,oN,oN,oN,oN,some (.call (oI a0) [] 3),oN,some (.new 4),oN] [(1,.ra 1 0),(2,.ra 2 0),(3,.ra 4 0)] [(1,K1c t0),(2,.box [I 0,I 0,.nils,.nils]),(3,rI a0),(4,.box [I t0.fOp,I t0.fN,.rs 3,.nils])] (cq (Kka _ _ a1) K6w tv) ?_
  refine sN ?_
  refine rs hc none [oN,oN,some (.eqv (.no) ⟨[(16,I (t0.fKids.length : Int))],[],[]⟩),oN] [(2,.ra 2 0),(3,.ra 4 0),(15,.sl (List.map K05 t0.fKids)),(16,I (t0.fKids.length : Int)),(17,I 0)] [(2,.box [I 0,I 0,.nils,.nils]),(3,rI a0),(4,.box [I t0.fOp,I t0.fN,.rs 3,.nils])] (ai (Qdp (d := 16) K05 t0.fKids) tv) ?_
  refine bk 0 ?_
  obtain ⟨a2,a3,h⟩ := Qdj h
  have hL := impl_copyTerm_l0_ih _ _ a3 c hc
  refine Wp.loopN (by kernel_rfl) (WpL.view (fun a w hv => SRx.renL [(10,21)] (SRx.nilBL 4 3 21 [I t0.fOp,I t0.fN,.rs 3,.nils] hv (by kernel_rfl) (by kernel_rfl) (by kernel_rfl)) (by kernel_rfl) (by kernel_rfl) (by kernel_rfl)) (?_ : WpL _ c _ _ (mkS [(2,.ra 2 0),(3,.ra 4 0),(15,.sl (List.map K05 t0.fKids)),(16,I (t0.fKids.length : Int)),(17,I 0)] [(2,.box [I 0,I 0,.nils,.nils]),(3,rI a0),(4,.box [I t0.fOp,I t0.fN,.rs 3,.rs 10]),(10,.arr (List.map K08 []))])))
  refine WpL.into (e := (.exit 0)) (mkS [(2,.ra 2 0),(3,.ra 4 0)] [(2,.box [I 0,I 0,.nils,.nils]),(3,rI a0),(4,.box [I t0.fOp,I t0.fN,.rs 3,.rs 10]),(10,.arr (List.map K08 a2))]) hL ?_
  refine Qcx ?_
  refine rs0 hc 2 [(2,.ra 2 0)] [(2,.box [I t0.fOp,I t0.fN,.rs 3,.rs 10]),(3,rI a0),(10,.arr (List.map K08 a2))] ?_
  refine rt ?_
  obtain rfl := os h
  exact rq [true]
 ·rintro impl_copyTerm_f impl_copyTerm_l0_f impl_copyTerm_ih impl_copyTerm_l0_ih ⟨t0,a0,a4,a5⟩ r h
  intro c hc
  refine WpL.step ?_
  refine K7w hc 1 [(2,.ra 2 0),(3,.ra 4 0),(15,.sl (List.map K05 t0.fKids)),(16,I (t0.fKids.length : Int)),(17,I a5),(18,.bool (decide (a5 < (t0.fKids.length : Int))))] ?_
  refine sN ?_
  refine ic h (fun a6 h => ?_) fun a6 h => ?_
  ·refine sk ?_
   refine sN ?_
   refine bk 1 ?_
   obtain ⟨a7,a8,h⟩ := Qdj h
   refine rs hc none [some (.el (K1d a7)),oN,some (.new 16),oN] [(2,.ra 2 0),(3,.ra 4 0),(5,.ra 16 0),(15,.sl (List.map K05 t0.fKids)),(16,I (t0.fKids.length : Int)),(17,I a5)] [(2,.box [I 0,I 0,.nils,.nils]),(3,rI a0),(4,.box [I t0.fOp,I t0.fN,.rs 3,.rs 10]),(10,.arr (List.map K08 a4)),(16,K1c a7)] (ai (Qdn a8 (K0c a7)) tv) ?_
   obtain ⟨a9,b1,_,b2,h⟩ := bq2 h
   refine rg hc (rx [[0],[1],[0],[0,2],[0,2,3],[5],[6],[7]]) [oN,oN,oN,some (.call (K1k a9) [] 17),some (.eqv (.mk 19 true) ⟨[(25,.rs 19)],[(19,some (.arr (List.map K08 [a9]))),(17,none),(18,none)],[19]⟩),some (.eqv (.mk 20 true) ⟨[(26,.rs 20)],[(20,some (.arr (List.map K08 (a4 ++ [a9])))),(10,none),(19,none)],[20]⟩),oN,oN] [(2,.ra 2 0),(3,.ra 4 0),(15,.sl (List.map K05 t0.fKids)),(16,I (t0.fKids.length : Int)),(17,I a5)] [(2,.box [I 0,I 0,.nils,.nils]),(3,rI a0),(4,.box [I t0.fOp,I t0.fN,.rs 3,.rs 20]),(20,.arr (List.map K08 (a4 ++ [a9])))] (cq (impl_copyTerm_ih _ _ b1) K6y (ac (congrArg (fun z => (⟨[(25,.rs 19)],[(19,some (.arr z)),(17,none),(18,none)],[19]⟩ : Wr)) ((Qeq (K0e a9) Qep) : [AV.agg [I a9.fOp,I a9.fN,oI a9.fType,AV.osl (List.map K08 a9.fKids)]] = List.map K08 [a9])) (congrArg (fun z => (⟨[(26,.rs 20)],[(20,some (.arr z)),(10,none),(19,none)],[20]⟩ : Wr)) ((List.map_append).symm : (List.map K08 a4) ++ (List.map K08 [a9]) = List.map K08 (a4 ++ [a9]))) (Qdx (enc1 := K08) (enc2 := K08) (e1 := a4) (e2 := [a9]) (sz := 4) K11 K11 b2) tv)) ?_
   refine K7v hc 2 [(2,.ra 2 0),(3,.ra 4 0),(15,.sl (List.map K05 t0.fKids)),(16,I (t0.fKids.length : Int)),(17,I (wr (a5 + 1)))] ?_
   refine Qd1 ?_
   exact WpL.view (fun a w hv => SRx.renL [(10,20)] hv (by kernel_rfl) (by kernel_rfl) (by kernel_rfl)) (impl_copyTerm_l0_ih _ _ h c hc)
  refine xt 0 ?_
  refine Qcv ?_
  refine Qd2 ?_
  obtain rfl := os h
  exact iv []
theorem Kkh : ∀ p r,Kkc p = some r → Kke p r := Kkg.1
theorem Kki : ∀ p r,Kkd p = some r → Kkf p r := Kkg.2
def Kkj (p : K00 × Int × Int × Int) : Option (K00) :=
 match p with
 | (v0,deep1,cap0,cap1) =>
  ((
  if (decide ((wr (v0.fN - deep1)) ≥ cap0)) = true then
  some ((wr (v0.fN + cap1)))
  else
  some (v0.fN)
  ) : Option (Int)) >>= fun a0 =>
  (Kkc (K00.mk v0.fOp a0 v0.fType v0.fKids)) >>= fun a1 =>
  some a1
def Kkk (p : K00 × Int × Int × Int) (r : K00) : Prop :=
 match p with
 | (v0,deep1,cap0,cap1) => Q75 Tryz.prog 229 [K1d v0,I deep1,.ptr [I cap0] 0,.ptr [I cap1] 0] (K1k r) []
theorem Kkl : ∀ p r,Kkj p = some r → Kkk p r := by
 rintro ⟨v0,deep1,cap0,cap1⟩ r h
 unfold Kkj at h
 refine b0 Tryz.f229 K6z 20 [(0,K1d v0),(1,I deep1),(2,.ptr [I cap0] 0),(3,.ptr [I cap1] 0)] fun c hc => ?_
 refine rs hc none [some (.new 1),some (.new 2)] [(1,I deep1),(2,.ptr [I cap0] 0),(3,.ptr [I cap1] 0),(4,.ra 1 0),(6,.ra 2 0)] [(1,K1c v0),(2,.box [I 0,I 0,.nils,.nils])] tv ?_
 refine sN ?_
 refine K7w hc 6 [(3,.ptr [I cap1] 0),(4,.ra 1 0),(6,.ra 2 0),(12,.bool (decide ((wr (v0.fN - deep1)) ≥ cap0)))] ?_
 obtain ⟨a0,a1,h⟩ := Qdj h
 refine Wp.into (x := .normal) (mkS [(4,.ra 1 0),(6,.ra 2 0)] [(1,.box [I v0.fOp,I a0,sI v0.fType,.sl (List.map K05 v0.fKids)]),(2,.box [I 0,I 0,.nils,.nils])]) ?_ ?_
 ·replace h := a1
  refine ic h (fun a2 h => ?_) fun a2 h => ?_
  ·refine rg0 hc 6 [(4,.ra 1 0),(6,.ra 2 0)] [(1,.box [I v0.fOp,I (wr (v0.fN + cap1)),sI v0.fType,.sl (List.map K05 v0.fKids)]),(2,.box [I 0,I 0,.nils,.nils])] ?_
   obtain rfl := os h
   exact Qd5.mk
  refine sk ?_
  obtain rfl := os h
  exact iv []
 clear a1
 obtain ⟨a3,a4,h⟩ := Qdj h
 refine rs hc none [oN,some (.call (K1k a3) [] 3),oN] [(6,.ra 2 0)] [(2,.box [I a3.fOp,I a3.fN,.rs 3,.rs 4]),(3,rI a3.fType),(4,.arr (List.map K08 a3.fKids))] (cq (Kkh _ _ a4) K6y tv) ?_
 refine rt ?_
 obtain rfl := os h
 exact rq [true]
def Kkm (c : Ctx) (t0 : K00) (a0 : List Int) : (List K00) → Exit → Q0a → Prop
 | a1 => Qd5 c (.exit 0) (mkS [(6,.ra 2 0),(7,.ra 6 0)] [(2,.box [I 0,I 0,.nils,.nils]),(5,rI a0),(6,.box [I t0.fOp,I t0.fN,.rs 5,.rs 12]),(12,.arr (List.map K08 a1))])
mutual
def Kkn (p : K00 × Int × Int × Int) : Option (K00) :=
 match p with
 | (t0,deep1,clo2_0,clo2_1) =>
  if (t0.fOp == 0) = true then
  (Kkj (t0,deep1,clo2_0,clo2_1)) >>= fun a0 =>
  some a0
  else
  (Kk8 t0.fType) >>= fun a1 =>
  (Kko (t0,deep1,clo2_0,clo2_1,a1,[],0)) >>= fun a2 =>
  some (K00.mk t0.fOp t0.fN a1 a2)
 partial_fixpoint
def Kko (p : K00 × Int × Int × Int × (List Int) × (List K00) × Int) : Option ((List K00)) :=
 match p with
 | (t0,deep1,clo2_0,clo2_1,a0,a1,a2) =>
  if (decide (a2 < (t0.fKids.length : Int))) = true then
  (idx t0.fKids a2) >>= fun a3 =>
  (Kjg (t0.fOp,a2)) >>= fun a4 =>
  (Kkn (a3,(wr (deep1 + a4)),clo2_0,clo2_1)) >>= fun a5 =>
  (Qdw (a1.length + [a5].length) 64) >>= fun _ =>
  Kko (t0,deep1,clo2_0,clo2_1,a0,(a1 ++ [a5]),(wr (a2 + 1)))
  else
  some (a1)
 partial_fixpoint
end
def Kkp (p : K00 × Int × Int × Int) (r : K00) : Prop :=
 match p with
 | (t0,deep1,clo2_0,clo2_1) => Q75 Tryz.prog 194 [K1d t0,I deep1,.fn 229 [.ptr [I clo2_0] 0,.ptr [I clo2_1] 0]] (K1k r) []
def Kkq (p : K00 × Int × Int × Int × (List Int) × (List K00) × Int) (fl : (List K00)) : Prop :=
 match p with
 | (t0,deep1,clo2_0,clo2_1,a0,a1,a2) => ∀ c : Ctx,c.nt = 49 → WpL Tryz.prog c (cl (cl (cr (cl (cr (cr (cr K71))))))) (Kkm c t0 a0 fl) (mkS [(1,I deep1),(2,.fn 229 [.ptr [I clo2_0] 0,.ptr [I clo2_1] 0]),(3,.ra 1 0),(6,.ra 2 0),(7,.ra 6 0),(26,.sl (List.map K05 t0.fKids)),(27,I (t0.fKids.length : Int)),(28,I a2)] [(1,K1c t0),(2,.box [I 0,I 0,.nils,.nils]),(5,rI a0),(6,.box [I t0.fOp,I t0.fN,.rs 5,.rs 12]),(12,.arr (List.map K08 a1))])
theorem Kkr : (∀ p r,Kkn p = some r → Kkp p r) ∧ (∀ p r,Kko p = some r → Kkq p r) := by
 refine Kkn.mutual_partial_correctness Kkp Kkq ?_ ?_
 ·rintro impl_renamed_Kimpl_shifted_c1_l0_f impl_renamed_Kimpl_shifted_c1_l0_ih ⟨t0,deep1,clo2_0,clo2_1⟩ r h
  refine b0 Tryz.f194 K71 49 [(0,K1d t0),(1,I deep1),(2,.fn 229 [.ptr [I clo2_0] 0,.ptr [I clo2_1] 0])] fun c hc => ?_
  refine rs hc none [some (.new 1),some (.new 2)] [(1,I deep1),(2,.fn 229 [.ptr [I clo2_0] 0,.ptr [I clo2_1] 0]),(3,.ra 1 0),(6,.ra 2 0)] [(1,K1c t0),(2,.box [I 0,I 0,.nils,.nils])] tv ?_
  refine sN ?_
  refine K7w hc 3 [(1,I deep1),(2,.fn 229 [.ptr [I clo2_0] 0,.ptr [I clo2_1] 0]),(3,.ra 1 0),(6,.ra 2 0),(12,.bool (t0.fOp == 0))] ?_
  refine ic h (fun a0 h => ?_) fun a0 h => ?_
  ·obtain ⟨a1,a2,h⟩ := Qdj h
   refine rs hc none [oN,oN,oN,some (.call (K1k a1) [] 3),oN] [(6,.ra 2 0)] [(2,.box [I a1.fOp,I a1.fN,.rs 3,.rs 4]),(3,rI a1.fType),(4,.arr (List.map K08 a1.fKids))] (cq (Kkl _ _ a2) K70 tv) ?_
   refine rt ?_
   obtain rfl := os h
   exact rq [true]
  refine sk ?_
  obtain ⟨a3,a4,h⟩ := Qdj h
  refine rs hc Kjk [oN,oN,oN,oN,oN,oN,some (.call (oI a3) [] 5),oN,some (.new 6),oN] [(1,I deep1),(2,.fn 229 [.ptr [I clo2_0] 0,.ptr [I clo2_1] 0]),(3,.ra 1 0),(6,.ra 2 0),(7,.ra 6 0)] [(1,K1c t0),(2,.box [I 0,I 0,.nils,.nils]),(5,rI a3),(6,.box [I t0.fOp,I t0.fN,.rs 5,.nils])] (cq (Kka _ _ a4) K6w tv) ?_
  refine sN ?_
  refine rss hc none [oN,oN,some (.eqv (.no) ⟨[(27,I (t0.fKids.length : Int))],[],[]⟩),oN] [(1,I deep1),(2,.fn 229 [.ptr [I clo2_0] 0,.ptr [I clo2_1] 0]),(3,.ra 1 0),(6,.ra 2 0),(7,.ra 6 0),(26,.sl (List.map K05 t0.fKids)),(27,I (t0.fKids.length : Int)),(28,I 0)] (ai (Qdp (d := 27) K05 t0.fKids) tv) ?_
  refine bk 0 ?_
  obtain ⟨a5,a6,h⟩ := Qdj h
  have hL := impl_renamed_Kimpl_shifted_c1_l0_ih _ _ a6 c hc
  refine Wp.loopN (by kernel_rfl) (WpL.view (fun a w hv => SRx.renL [(12,23)] (SRx.nilBL 6 3 23 [I t0.fOp,I t0.fN,.rs 5,.nils] hv (by kernel_rfl) (by kernel_rfl) (by kernel_rfl)) (by kernel_rfl) (by kernel_rfl) (by kernel_rfl)) (?_ : WpL _ c _ _ (mkS [(1,I deep1),(2,.fn 229 [.ptr [I clo2_0] 0,.ptr [I clo2_1] 0]),(3,.ra 1 0),(6,.ra 2 0),(7,.ra 6 0),(26,.sl (List.map K05 t0.fKids)),(27,I (t0.fKids.length : Int)),(28,I 0)] [(1,K1c t0),(2,.box [I 0,I 0,.nils,.nils]),(5,rI a3),(6,.box [I t0.fOp,I t0.fN,.rs 5,.rs 12]),(12,.arr (List.map K08 []))])))
  refine WpL.into (e := (.exit 0)) (mkS [(6,.ra 2 0),(7,.ra 6 0)] [(2,.box [I 0,I 0,.nils,.nils]),(5,rI a3),(6,.box [I t0.fOp,I t0.fN,.rs 5,.rs 12]),(12,.arr (List.map K08 a5))]) hL ?_
  refine Qcx ?_
  refine rs0 hc 2 [(6,.ra 2 0)] [(2,.box [I t0.fOp,I t0.fN,.rs 5,.rs 12]),(5,rI a3),(12,.arr (List.map K08 a5))] ?_
  refine rt ?_
  obtain rfl := os h
  exact rq [true]
 ·rintro impl_renamed_Kimpl_shifted_c1_f impl_renamed_Kimpl_shifted_c1_l0_f impl_renamed_Kimpl_shifted_c1_ih impl_renamed_Kimpl_shifted_c1_l0_ih ⟨t0,deep1,clo2_0,clo2_1,a3,a7,a8⟩ r h
  intro c hc
  refine WpL.step ?_
  refine K7w hc 1 [(1,I deep1),(2,.fn 229 [.ptr [I clo2_0] 0,.ptr [I clo2_1] 0]),(3,.ra 1 0),(6,.ra 2 0),(7,.ra 6 0),(26,.sl (List.map K05 t0.fKids)),(27,I (t0.fKids.length : Int)),(28,I a8),(29,.bool (decide (a8 < (t0.fKids.length : Int))))] ?_
  refine sN ?_
  refine ic h (fun a9 h => ?_) fun a9 h => ?_
  ·refine sk ?_
   refine sN ?_
   refine bk 1 ?_
   obtain ⟨b1,b2,h⟩ := Qdj h
   refine rs hc none [oN,some (.el (K1d b1)),oN,some (.new 18),oN,oN] [(1,I deep1),(2,.fn 229 [.ptr [I clo2_0] 0,.ptr [I clo2_1] 0]),(3,.ra 1 0),(6,.ra 2 0),(7,.ra 6 0),(8,I a8),(9,.ra 18 0),(26,.sl (List.map K05 t0.fKids)),(27,I (t0.fKids.length : Int)),(28,I a8)] [(1,K1c t0),(2,.box [I 0,I 0,.nils,.nils]),(5,rI a3),(6,.box [I t0.fOp,I t0.fN,.rs 5,.rs 12]),(12,.arr (List.map K08 a7)),(18,K1c b1)] (ai (Qdn b2 (K0c b1)) tv) ?_
   obtain ⟨b3,b4,b5,b6,_,b7,h⟩ := bq3 h
   refine rg hc (rx [[0],[1],[0],[0],[0],[0,4],[0],[0,4,5,6],[0,3,4,5,6,7],[0],[0,2,3,4,5,6,7,8,9],[0,2,3,4,5,6,7,8,9,10],[12],[13],[14]]) [oN,oN,oN,oN,oN,oN,oN,oc (I b3),oN,oN,some (.call (K1k b5) [] 19),some (.eqv (.mk 21 true) ⟨[(44,.rs 21)],[(21,some (.arr (List.map K08 [b5]))),(19,none),(20,none)],[21]⟩),some (.eqv (.mk 22 true) ⟨[(45,.rs 22)],[(22,some (.arr (List.map K08 (a7 ++ [b5])))),(12,none),(21,none)],[22]⟩),oN,oN] [(1,I deep1),(2,.fn 229 [.ptr [I clo2_0] 0,.ptr [I clo2_1] 0]),(3,.ra 1 0),(6,.ra 2 0),(7,.ra 6 0),(26,.sl (List.map K05 t0.fKids)),(27,I (t0.fKids.length : Int)),(28,I a8)] [(1,K1c t0),(2,.box [I 0,I 0,.nils,.nils]),(5,rI a3),(6,.box [I t0.fOp,I t0.fN,.rs 5,.rs 22]),(22,.arr (List.map K08 (a7 ++ [b5])))] (cq (Kji _ _ b4) K6m (cq (impl_renamed_Kimpl_shifted_c1_ih _ _ b6) K72 (ac (congrArg (fun z => (⟨[(44,.rs 21)],[(21,some (.arr z)),(19,none),(20,none)],[21]⟩ : Wr)) ((Qeq (K0e b5) Qep) : [AV.agg [I b5.fOp,I b5.fN,oI b5.fType,AV.osl (List.map K08 b5.fKids)]] = List.map K08 [b5])) (congrArg (fun z => (⟨[(45,.rs 22)],[(22,some (.arr z)),(12,none),(21,none)],[22]⟩ : Wr)) ((List.map_append).symm : (List.map K08 a7) ++ (List.map K08 [b5]) = List.map K08 (a7 ++ [b5]))) (Qdx (enc1 := K08) (enc2 := K08) (e1 := a7) (e2 := [b5]) (sz := 4) K11 K11 b7) tv))) ?_
   refine K7v hc 2 [(1,I deep1),(2,.fn 229 [.ptr [I clo2_0] 0,.ptr [I clo2_1] 0]),(3,.ra 1 0),(6,.ra 2 0),(7,.ra 6 0),(26,.sl (List.map K05 t0.fKids)),(27,I (t0.fKids.length : Int)),(28,I (wr (a8 + 1)))] ?_
   refine Qd1 ?_
   exact WpL.view (fun a w hv => SRx.renL [(12,22)] hv (by kernel_rfl) (by kernel_rfl) (by kernel_rfl)) (impl_renamed_Kimpl_shifted_c1_l0_ih _ _ h c hc)
  refine xt 0 ?_
  refine Qcv ?_
  refine Qd2 ?_
  obtain rfl := os h
  exact iv []
theorem Kks : ∀ p r,Kkn p = some r → Kkp p r := Kkr.1
theorem Kkt : ∀ p r,Kko p = some r → Kkq p r := Kkr.2
def Kku (p : K00 × Int × Int) : Option (K00) :=
 match p with
 | (t0,by1,from2) =>
  (Kkn (t0,0,from2,by1)) >>= fun a0 =>
  some a0
def Kkv (p : K00 × Int × Int) (r : K00) : Prop :=
 match p with
 | (t0,by1,from2) => Q75 Tryz.prog 196 [K1d t0,I by1,I from2] (K1k r) []
theorem Kkw : ∀ p r,Kku p = some r → Kkv p r := by
 rintro ⟨t0,by1,from2⟩ r h
 unfold Kku at h
 refine b0 Tryz.f196 K73 10 [(0,K1d t0),(1,I by1),(2,I from2)] fun c hc => ?_
 refine rs hc none [some (.new 1),some (.new 2),some (.new 3),some (.new 4)] [(3,.ra 1 0),(4,.ra 2 0),(5,.ra 3 0),(6,.ra 4 0)] [(1,K1c t0),(2,.box [I by1]),(3,.box [I from2]),(4,.box [I 0,I 0,.nils,.nils])] tv ?_
 obtain ⟨a0,a1,h⟩ := Qdj h
 refine rs hc none [oN,oN,some (.call (K1k a0) [] 5),oN] [(6,.ra 4 0)] [(4,.box [I a0.fOp,I a0.fN,.rs 5,.rs 6]),(5,rI a0.fType),(6,.arr (List.map K08 a0.fKids))] (ac (Kks _ _ a1) K72 (Or.inr (Qel rfl (Qel rfl (Qel (Qej Qef a0.fType) (Qel (Qej K15 a0.fKids) rfl)))) : ([3,2] : List Nat) = [] ∨ noSh (K1k a0) = true) tv) ?_
 refine rt ?_
 obtain rfl := os h
 exact rq [true]
def Kkx (p : K00 × Int × Int × K00) : Option (K00) :=
 match p with
 | (v0,deep1,cap0,cap1) =>
  if ((wr (v0.fN - deep1)) == cap0) = true then
  (Kku (cap1,deep1,0)) >>= fun a0 =>
  some a0
  else
  ((
  if (decide ((wr (v0.fN - deep1)) > cap0)) = true then
  some ((wr (v0.fN - 1)))
  else
  some (v0.fN)
  ) : Option (Int)) >>= fun a1 =>
  (Kkc (K00.mk v0.fOp a1 v0.fType v0.fKids)) >>= fun a2 =>
  some a2
def Kky (p : K00 × Int × Int × K00) (r : K00) : Prop :=
 match p with
 | (v0,deep1,cap0,cap1) => Q75 Tryz.prog 195 [K1d v0,I deep1,.ptr [I cap0] 0,.ptr [I cap1.fOp,I cap1.fN,sI cap1.fType,.sl (List.map K05 cap1.fKids)] 0] (K1k r) []
theorem Kkz : ∀ p r,Kkx p = some r → Kky p r := by
 rintro ⟨v0,deep1,cap0,cap1⟩ r h
 unfold Kkx at h
 refine b0 Tryz.f195 K75 29 [(0,K1d v0),(1,I deep1),(2,.ptr [I cap0] 0),(3,.ptr [I cap1.fOp,I cap1.fN,sI cap1.fType,.sl (List.map K05 cap1.fKids)] 0)] fun c hc => ?_
 refine rs hc none [some (.new 1),some (.new 2)] [(1,I deep1),(2,.ptr [I cap0] 0),(3,.ptr [I cap1.fOp,I cap1.fN,sI cap1.fType,.sl (List.map K05 cap1.fKids)] 0),(4,.ra 1 0),(6,.ra 2 0)] [(1,K1c v0),(2,.box [I 0,I 0,.nils,.nils])] tv ?_
 refine sN ?_
 refine K7w hc 5 [(1,I deep1),(2,.ptr [I cap0] 0),(3,.ptr [I cap1.fOp,I cap1.fN,sI cap1.fType,.sl (List.map K05 cap1.fKids)] 0),(4,.ra 1 0),(6,.ra 2 0),(7,I (wr (v0.fN - deep1)))] ?_
 refine bk 0 ?_
 refine K7w hc 4 [(1,I deep1),(2,.ptr [I cap0] 0),(3,.ptr [I cap1.fOp,I cap1.fN,sI cap1.fType,.sl (List.map K05 cap1.fKids)] 0),(4,.ra 1 0),(6,.ra 2 0),(7,I (wr (v0.fN - deep1))),(12,.bool ((wr (v0.fN - deep1)) == cap0))] ?_
 refine ic h (fun a0 h => ?_) fun a0 h => ?_
 ·obtain ⟨a1,a2,h⟩ := Qdj h
  refine rs hc none [oN,oN,some (.call (K1k a1) [] 3),oN] [(6,.ra 2 0)] [(2,.box [I a1.fOp,I a1.fN,.rs 3,.rs 4]),(3,rI a1.fType),(4,.arr (List.map K08 a1.fKids))] (cq (Kkw _ _ a2) K74 tv) ?_
  refine rt ?_
  obtain rfl := os h
  exact rq [true]
 refine K7w hc 4 [(4,.ra 1 0),(6,.ra 2 0),(19,.bool (decide ((wr (v0.fN - deep1)) > cap0)))] ?_
 obtain ⟨a3,a4,h⟩ := Qdj h
 refine Wp.into (x := .normal) (mkS [(4,.ra 1 0),(6,.ra 2 0)] [(1,.box [I v0.fOp,I a3,sI v0.fType,.sl (List.map K05 v0.fKids)]),(2,.box [I 0,I 0,.nils,.nils])]) ?_ ?_
 ·replace h := a4
  refine ic h (fun a5 h => ?_) fun a5 h => ?_
  ·refine rg0 hc 5 [(4,.ra 1 0),(6,.ra 2 0)] [(1,.box [I v0.fOp,I (wr (v0.fN - 1)),sI v0.fType,.sl (List.map K05 v0.fKids)]),(2,.box [I 0,I 0,.nils,.nils])] ?_
   obtain rfl := os h
   exact Qd5.mk
  refine sk ?_
  obtain rfl := os h
  exact iv []
 clear a4
 obtain ⟨a6,a7,h⟩ := Qdj h
 refine rs hc none [oN,some (.call (K1k a6) [] 5),oN] [(6,.ra 2 0)] [(2,.box [I a6.fOp,I a6.fN,.rs 5,.rs 6]),(5,rI a6.fType),(6,.arr (List.map K08 a6.fKids))] (cq (Kkh _ _ a7) K6y tv) ?_
 refine rt ?_
 obtain rfl := os h
 exact rq [true]
def Kl0 (c : Ctx) (t0 : K00) (a0 : List Int) : (List K00) → Exit → Q0a → Prop
 | a1 => Qd5 c (.exit 0) (mkS [(6,.ra 2 0),(7,.ra 6 0)] [(2,.box [I 0,I 0,.nils,.nils]),(5,rI a0),(6,.box [I t0.fOp,I t0.fN,.rs 5,.rs 12]),(12,.arr (List.map K08 a1))])
def Kl1 : Option (List (List Nat)) := rx [[0],[1],[2],[3],[0],[0,4],[0,4,5],[0,4,5,6],[8],[9]]
mutual
def Kl2 (p : K00 × Int × Int × K00) : Option (K00) :=
 match p with
 | (t0,deep1,clo2_0,clo2_1) =>
  if (t0.fOp == 0) = true then
  (Kkx (t0,deep1,clo2_0,clo2_1)) >>= fun a0 =>
  some a0
  else
  (Kk8 t0.fType) >>= fun a1 =>
  (Kl3 (t0,deep1,clo2_0,clo2_1,a1,[],0)) >>= fun a2 =>
  some (K00.mk t0.fOp t0.fN a1 a2)
 partial_fixpoint
def Kl3 (p : K00 × Int × Int × K00 × (List Int) × (List K00) × Int) : Option ((List K00)) :=
 match p with
 | (t0,deep1,clo2_0,clo2_1,a0,a1,a2) =>
  if (decide (a2 < (t0.fKids.length : Int))) = true then
  (idx t0.fKids a2) >>= fun a3 =>
  (Kjg (t0.fOp,a2)) >>= fun a4 =>
  (Kl2 (a3,(wr (deep1 + a4)),clo2_0,clo2_1)) >>= fun a5 =>
  (Qdw (a1.length + [a5].length) 64) >>= fun _ =>
  Kl3 (t0,deep1,clo2_0,clo2_1,a0,(a1 ++ [a5]),(wr (a2 + 1)))
  else
  some (a1)
 partial_fixpoint
end
def Kl4 (p : K00 × Int × Int × K00) (r : K00) : Prop :=
 match p with
 | (t0,deep1,clo2_0,clo2_1) => Q75 Tryz.prog 194 [K1d t0,I deep1,.fn 195 [.ptr [I clo2_0] 0,.ptr [I clo2_1.fOp,I clo2_1.fN,sI clo2_1.fType,.sl (List.map K05 clo2_1.fKids)] 0]] (K1k r) []
def Kl5 (p : K00 × Int × Int × K00 × (List Int) × (List K00) × Int) (fl : (List K00)) : Prop :=
 match p with
 | (t0,deep1,clo2_0,clo2_1,a0,a1,a2) => ∀ c : Ctx,c.nt = 49 → WpL Tryz.prog c (cl (cl (cr (cl (cr (cr (cr K71))))))) (Kl0 c t0 a0 fl) (mkS [(1,I deep1),(2,.fn 195 [.ptr [I clo2_0] 0,.ptr [I clo2_1.fOp,I clo2_1.fN,sI clo2_1.fType,.sl (List.map K05 clo2_1.fKids)] 0]),(3,.ra 1 0),(6,.ra 2 0),(7,.ra 6 0),(26,.sl (List.map K05 t0.fKids)),(27,I (t0.fKids.length : Int)),(28,I a2)] [(1,K1c t0),(2,.box [I 0,I 0,.nils,.nils]),(5,rI a0),(6,.box [I t0.fOp,I t0.fN,.rs 5,.rs 12]),(12,.arr (List.map K08 a1))])
theorem Kl6 : (∀ p r,Kl2 p = some r → Kl4 p r) ∧ (∀ p r,Kl3 p = some r → Kl5 p r) := by
 refine Kl2.mutual_partial_correctness Kl4 Kl5 ?_ ?_
 ·rintro impl_renamed_Kimpl_substituted_c1_l0_f impl_renamed_Kimpl_substituted_c1_l0_ih ⟨t0,deep1,clo2_0,clo2_1⟩ r h
  refine b0 Tryz.f194 K71 49 [(0,K1d t0),(1,I deep1),(2,.fn 195 [.ptr [I clo2_0] 0,.ptr [I clo2_1.fOp,I clo2_1.fN,sI clo2_1.fType,.sl (List.map K05 clo2_1.fKids)] 0])] fun c hc => ?_
  refine rs hc none [some (.new 1),some (.new 2)] [(1,I deep1),(2,.fn 195 [.ptr [I clo2_0] 0,.ptr [I clo2_1.fOp,I clo2_1.fN,sI clo2_1.fType,.sl (List.map K05 clo2_1.fKids)] 0]),(3,.ra 1 0),(6,.ra 2 0)] [(1,K1c t0),(2,.box [I 0,I 0,.nils,.nils])] tv ?_
  refine sN ?_
  refine K7w hc 3 [(1,I deep1),(2,.fn 195 [.ptr [I clo2_0] 0,.ptr [I clo2_1.fOp,I clo2_1.fN,sI clo2_1.fType,.sl (List.map K05 clo2_1.fKids)] 0]),(3,.ra 1 0),(6,.ra 2 0),(12,.bool (t0.fOp == 0))] ?_
  refine ic h (fun a0 h => ?_) fun a0 h => ?_
  ·obtain ⟨a1,a2,h⟩ := Qdj h
   refine rs hc none [oN,oN,oN,some (.call (K1k a1) [] 3),oN] [(6,.ra 2 0)] [(2,.box [I a1.fOp,I a1.fN,.rs 3,.rs 4]),(3,rI a1.fType),(4,.arr (List.map K08 a1.fKids))] (cq (Kkz _ _ a2) K76 tv) ?_
   refine rt ?_
   obtain rfl := os h
   exact rq [true]
  refine sk ?_
  obtain ⟨a3,a4,h⟩ := Qdj h
  refine rs hc (rx [[0],[1],[0],[0,2],[0],[0,4],[0,4,5],[7],[0],[9]]) [oN,oN,oN,oN,oN,oN,some (.call (oI a3) [] 5),oN,some (.new 6),oN] [(1,I deep1),(2,.fn 195 [.ptr [I clo2_0] 0,.ptr [I clo2_1.fOp,I clo2_1.fN,sI clo2_1.fType,.sl (List.map K05 clo2_1.fKids)] 0]),(3,.ra 1 0),(6,.ra 2 0),(7,.ra 6 0)] [(1,K1c t0),(2,.box [I 0,I 0,.nils,.nils]),(5,rI a3),(6,.box [I t0.fOp,I t0.fN,.rs 5,.nils])] (cq (Kka _ _ a4) K6w tv) ?_
  refine sN ?_
  refine rss hc none [oN,oN,some (.eqv (.no) ⟨[(27,I (t0.fKids.length : Int))],[],[]⟩),oN] [(1,I deep1),(2,.fn 195 [.ptr [I clo2_0] 0,.ptr [I clo2_1.fOp,I clo2_1.fN,sI clo2_1.fType,.sl (List.map K05 clo2_1.fKids)] 0]),(3,.ra 1 0),(6,.ra 2 0),(7,.ra 6 0),(26,.sl (List.map K05 t0.fKids)),(27,I (t0.fKids.length : Int)),(28,I 0)] (ai (Qdp (d := 27) K05 t0.fKids) tv) ?_
  refine bk 0 ?_
  obtain ⟨a5,a6,h⟩ := Qdj h
  have hL := impl_renamed_Kimpl_substituted_c1_l0_ih _ _ a6 c hc
  refine Wp.loopN (by kernel_rfl) (WpL.view (fun a w hv => SRx.renL [(12,23)] (SRx.nilBL 6 3 23 [I t0.fOp,I t0.fN,.rs 5,.nils] hv (by kernel_rfl) (by kernel_rfl) (by kernel_rfl)) (by kernel_rfl) (by kernel_rfl) (by kernel_rfl)) (?_ : WpL _ c _ _ (mkS [(1,I deep1),(2,.fn 195 [.ptr [I clo2_0] 0,.ptr [I clo2_1.fOp,I clo2_1.fN,sI clo2_1.fType,.sl (List.map K05 clo2_1.fKids)] 0]),(3,.ra 1 0),(6,.ra 2 0),(7,.ra 6 0),(26,.sl (List.map K05 t0.fKids)),(27,I (t0.fKids.length : Int)),(28,I 0)] [(1,K1c t0),(2,.box [I 0,I 0,.nils,.nils]),(5,rI a3),(6,.box [I t0.fOp,I t0.fN,.rs 5,.rs 12]),(12,.arr (List.map K08 []))])))
  refine WpL.into (e := (.exit 0)) (mkS [(6,.ra 2 0),(7,.ra 6 0)] [(2,.box [I 0,I 0,.nils,.nils]),(5,rI a3),(6,.box [I t0.fOp,I t0.fN,.rs 5,.rs 12]),(12,.arr (List.map K08 a5))]) hL ?_
  refine Qcx ?_
  refine rs0 hc 2 [(6,.ra 2 0)] [(2,.box [I t0.fOp,I t0.fN,.rs 5,.rs 12]),(5,rI a3),(12,.arr (List.map K08 a5))] ?_
  refine rt ?_
  obtain rfl := os h
  exact rq [true]
 ·rintro impl_renamed_Kimpl_substituted_c1_f impl_renamed_Kimpl_substituted_c1_l0_f impl_renamed_Kimpl_substituted_c1_ih impl_renamed_Kimpl_substituted_c1_l0_ih ⟨t0,deep1,clo2_0,clo2_1,a3,a7,a8⟩ r h
  intro c hc
  refine WpL.step ?_
  refine K7w hc 1 [(1,I deep1),(2,.fn 195 [.ptr [I clo2_0] 0,.ptr [I clo2_1.fOp,I clo2_1.fN,sI clo2_1.fType,.sl (List.map K05 clo2_1.fKids)] 0]),(3,.ra 1 0),(6,.ra 2 0),(7,.ra 6 0),(26,.sl (List.map K05 t0.fKids)),(27,I (t0.fKids.length : Int)),(28,I a8),(29,.bool (decide (a8 < (t0.fKids.length : Int))))] ?_
  refine sN ?_
  refine ic h (fun a9 h => ?_) fun a9 h => ?_
  ·refine sk ?_
   refine sN ?_
   refine bk 1 ?_
   obtain ⟨b1,b2,h⟩ := Qdj h
   refine rs hc none [oN,some (.el (K1d b1)),oN,some (.new 18),oN,oN] [(1,I deep1),(2,.fn 195 [.ptr [I clo2_0] 0,.ptr [I clo2_1.fOp,I clo2_1.fN,sI clo2_1.fType,.sl (List.map K05 clo2_1.fKids)] 0]),(3,.ra 1 0),(6,.ra 2 0),(7,.ra 6 0),(8,I a8),(9,.ra 18 0),(26,.sl (List.map K05 t0.fKids)),(27,I (t0.fKids.length : Int)),(28,I a8)] [(1,K1c t0),(2,.box [I 0,I 0,.nils,.nils]),(5,rI a3),(6,.box [I t0.fOp,I t0.fN,.rs 5,.rs 12]),(12,.arr (List.map K08 a7)),(18,K1c b1)] (ai (Qdn b2 (K0c b1)) tv) ?_
   obtain ⟨b3,b4,b5,b6,_,b7,h⟩ := bq3 h
   refine rg hc (rx [[0],[1],[0],[0],[0],[0,4],[0],[0,4,5,6],[0,3,4,5,6,7],[0],[0,2,3,4,5,6,7,8,9],[0,2,3,4,5,6,7,8,9,10],[12],[13],[14]]) [oN,oN,oN,oN,oN,oN,oN,oc (I b3),oN,oN,some (.call (K1k b5) [] 19),some (.eqv (.mk 21 true) ⟨[(44,.rs 21)],[(21,some (.arr (List.map K08 [b5]))),(19,none),(20,none)],[21]⟩),some (.eqv (.mk 22 true) ⟨[(45,.rs 22)],[(22,some (.arr (List.map K08 (a7 ++ [b5])))),(12,none),(21,none)],[22]⟩),oN,oN] [(1,I deep1),(2,.fn 195 [.ptr [I clo2_0] 0,.ptr [I clo2_1.fOp,I clo2_1.fN,sI clo2_1.fType,.sl (List.map K05 clo2_1.fKids)] 0]),(3,.ra 1 0),(6,.ra 2 0),(7,.ra 6 0),(26,.sl (List.map K05 t0.fKids)),(27,I (t0.fKids.length : Int)),(28,I a8)] [(1,K1c t0),(2,.box [I 0,I 0,.nils,.nils]),(5,rI a3),(6,.box [I t0.fOp,I t0.fN,.rs 5,.rs 22]),(22,.arr (List.map K08 (a7 ++ [b5])))] (cq (Kji _ _ b4) K6m (cq (impl_renamed_Kimpl_substituted_c1_ih _ _ b6) K72 (ac (congrArg (fun z => (⟨[(44,.rs 21)],[(21,some (.arr z)),(19,none),(20,none)],[21]⟩ : Wr)) ((Qeq (K0e b5) Qep) : [AV.agg [I b5.fOp,I b5.fN,oI b5.fType,AV.osl (List.map K08 b5.fKids)]] = List.map K08 [b5])) (congrArg (fun z => (⟨[(45,.rs 22)],[(22,some (.arr z)),(12,none),(21,none)],[22]⟩ : Wr)) ((List.map_append).symm : (List.map K08 a7) ++ (List.map K08 [b5]) = List.map K08 (a7 ++ [b5]))) (Qdx (enc1 := K08) (enc2 := K08) (e1 := a7) (e2 := [b5]) (sz := 4) K11 K11 b7) tv))) ?_
   refine K7v hc 2 [(1,I deep1),(2,.fn 195 [.ptr [I clo2_0] 0,.ptr [I clo2_1.fOp,I clo2_1.fN,sI clo2_1.fType,.sl (List.map K05 clo2_1.fKids)] 0]),(3,.ra 1 0),(6,.ra 2 0),(7,.ra 6 0),(26,.sl (List.map K05 t0.fKids)),(27,I (t0.fKids.length : Int)),(28,I (wr (a8 + 1)))] ?_
   refine Qd1 ?_
   exact WpL.view (fun a w hv => SRx.renL [(12,22)] hv (by kernel_rfl) (by kernel_rfl) (by kernel_rfl)) (impl_renamed_Kimpl_substituted_c1_l0_ih _ _ h c hc)
  refine xt 0 ?_
  refine Qcv ?_
  refine Qd2 ?_
  obtain rfl := os h
  exact iv []
theorem Kl7 : ∀ p r,Kl2 p = some r → Kl4 p r := Kl6.1
theorem Kl8 : ∀ p r,Kl3 p = some r → Kl5 p r := Kl6.2
def Kl9 (p : K00 × Int × K00) : Option (K00) :=
 match p with
 | (t0,i1,u2) =>
  (Kl2 (t0,0,i1,u2)) >>= fun a0 =>
  some a0
def Kla (p : K00 × Int × K00) (r : K00) : Prop :=
 match p with
 | (t0,i1,u2) => Q75 Tryz.prog 122 [K1d t0,I i1,K1d u2] (K1k r) []
theorem Klb : ∀ p r,Kl9 p = some r → Kla p r := by
 rintro ⟨t0,i1,u2⟩ r h
 unfold Kl9 at h
 refine b0 Tryz.f122 K77 10 [(0,K1d t0),(1,I i1),(2,K1d u2)] fun c hc => ?_
 refine rs hc none [some (.new 1),some (.new 2),some (.new 3),some (.new 4)] [(3,.ra 1 0),(4,.ra 2 0),(5,.ra 3 0),(6,.ra 4 0)] [(1,K1c t0),(2,.box [I i1]),(3,K1c u2),(4,.box [I 0,I 0,.nils,.nils])] tv ?_
 obtain ⟨a0,a1,h⟩ := Qdj h
 refine rs hc none [oN,oN,some (.call (K1k a0) [] 5),oN] [(6,.ra 4 0)] [(4,.box [I a0.fOp,I a0.fN,.rs 5,.rs 6]),(5,rI a0.fType),(6,.arr (List.map K08 a0.fKids))] (ac (Kl7 _ _ a1) K72 (Or.inr (Qel rfl (Qel rfl (Qel (Qej Qef a0.fType) (Qel (Qej K15 a0.fKids) rfl)))) : ([2,3] : List Nat) = [] ∨ noSh (K1k a0) = true) tv) ?_
 refine rt ?_
 obtain rfl := os h
 exact rq [true]
def Klc (t0 : K00) : Option (K00) :=
 (idx t0.fKids 0) >>= fun a0 =>
 if (t0.fOp == 2) = true then
 (idx t0.fKids 1) >>= fun a1 =>
 some (K00.mk 1 (Int.tmod (wr (a0.fN + a1.fN)) 3) [] [])
 else
 if (t0.fOp == 3) = true then
 if (a0.fN == 0) = true then
 (idx t0.fKids 1) >>= fun a2 =>
 (Kkc a2) >>= fun a3 =>
 some a3
 else
 (idx t0.fKids 2) >>= fun a4 =>
 (Kkc a4) >>= fun a5 =>
 some a5
 else
 if (t0.fOp == 10) = true then
 (idx a0.fKids 0) >>= fun a6 =>
 (idx t0.fKids 1) >>= fun a7 =>
 (Kl9 (a6,0,a7)) >>= fun a8 =>
 some a8
 else
 if (t0.fOp == 5) = true then
 (idx t0.fKids 1) >>= fun a9 =>
 (idx a0.fKids 1) >>= fun b1 =>
 (Kku (b1,1,0)) >>= fun b2 =>
 (Kl9 (a9,0,b2)) >>= fun b3 =>
 (idx a0.fKids 0) >>= fun b4 =>
 (Kl9 (b3,0,b4)) >>= fun b5 =>
 some b5
 else
 if (t0.fOp == 8) = true then
 (idx t0.fKids (wr ((wr (1 + a0.fOp)) - 6))) >>= fun b6 =>
 (idx a0.fKids 0) >>= fun b7 =>
 (Kl9 (b6,0,b7)) >>= fun b8 =>
 some b8
 else
 (idx t0.fKids 1) >>= fun b9 =>
 (idx a0.fKids 0) >>= fun c0 =>
 (Kl9 (b9,0,c0)) >>= fun c1 =>
 some c1
def Kld (t0 : K00) (r : K00) : Prop :=
 Q75 Tryz.prog 130 [K1d t0] (K1k r) []
theorem Kle : ∀ p r,Klc p = some r → Kld p r := by
 rintro t0 r h
 unfold Klc at h
 refine b0 Tryz.f130 K79 91 [(0,K1d t0)] fun c hc => ?_
 refine rs hc none [some (.new 1),some (.new 2)] [(1,.ra 1 0),(2,.ra 2 0)] [(1,K1c t0),(2,.box [I 0,I 0,.nils,.nils])] tv ?_
 obtain ⟨a0,a1,h⟩ := Qdj h
 refine rs hc none [oN,oN,some (.el (K1d a0)),oN,some (.new 3),oN] [(1,.ra 1 0),(2,.ra 2 0),(3,.ra 3 0)] [(1,K1c t0),(2,.box [I 0,I 0,.nils,.nils]),(3,K1c a0)] (ai (Qdn a1 (K0c a0)) tv) ?_
 refine sN ?_
 refine K7w hc 2 [(1,.ra 1 0),(2,.ra 2 0),(3,.ra 3 0),(10,I t0.fOp)] ?_
 refine bk 0 ?_
 refine K7w hc 2 [(1,.ra 1 0),(2,.ra 2 0),(3,.ra 3 0),(10,I t0.fOp),(11,.bool (t0.fOp == 2))] ?_
 refine ic h (fun a2 h => ?_) fun a2 h => ?_
 ·obtain ⟨a3,a4,h⟩ := Qdj h
  refine rs hc (rx [[0],[1],[0],[0,2],[0,2,3],[0,2,3,4],[0,2,3,4,5],[7],[8],[9],[10]]) [oN,oN,oN,oN,some (.el (K1d a3)),oN,oN,oN,oN,oN,oN] [(2,.ra 2 0)] [(2,.box [I 1,I (Int.tmod (wr (a0.fN + a3.fN)) 3),.nils,.nils])] (ab (Qdn a4 (K0c a3)) ((by decide) : (3 : Int) ≠ 0) tv) ?_
  refine rt ?_
  obtain rfl := os h
  exact rq [true]
 refine K7w hc 2 [(1,.ra 1 0),(2,.ra 2 0),(3,.ra 3 0),(10,I t0.fOp),(23,.bool (t0.fOp == 3))] ?_
 refine ic h (fun a5 h => ?_) fun a5 h => ?_
 ·refine sN ?_
  refine rs0 hc 3 [(1,.ra 1 0),(2,.ra 2 0),(27,.bool (a0.fN == 0))] [(1,K1c t0),(2,.box [I 0,I 0,.nils,.nils])] ?_
  refine ic h (fun a6 h => ?_) fun a6 h => ?_
  ·obtain ⟨a7,a8,a9,b1,h⟩ := bq2 h
   refine rs hc none [oN,oN,some (.el (K1d a7)),oN,some (.call (K1k a9) [] 4),oN] [(2,.ra 2 0)] [(2,.box [I a9.fOp,I a9.fN,.rs 4,.rs 5]),(4,rI a9.fType),(5,.arr (List.map K08 a9.fKids))] (ai (Qdn a8 (K0c a7)) (cq (Kkh _ _ b1) K6y tv)) ?_
   refine rt ?_
   obtain rfl := os h
   exact rq [true]
  refine sk ?_
  obtain ⟨b2,b3,b4,b5,h⟩ := bq2 h
  refine rs hc none [oN,oN,some (.el (K1d b2)),oN,some (.call (K1k b4) [] 6),oN] [(2,.ra 2 0)] [(2,.box [I b4.fOp,I b4.fN,.rs 6,.rs 7]),(6,rI b4.fType),(7,.arr (List.map K08 b4.fKids))] (ai (Qdn b3 (K0c b2)) (cq (Kkh _ _ b5) K6y tv)) ?_
  refine rt ?_
  obtain rfl := os h
  exact rq [true]
 refine K7w hc 2 [(1,.ra 1 0),(2,.ra 2 0),(3,.ra 3 0),(10,I t0.fOp),(38,.bool (t0.fOp == 10))] ?_
 refine ic h (fun b6 h => ?_) fun b6 h => ?_
 ·obtain ⟨b7,b8,b9,c0,c1,c2,h⟩ := bq3 h
  refine rs hc Kl1 [oN,oN,some (.el (K1d b7)),oN,oN,oN,some (.el (K1d b9)),oN,some (.call (K1k c1) [] 8),oN] [(2,.ra 2 0)] [(2,.box [I c1.fOp,I c1.fN,.rs 8,.rs 9]),(8,rI c1.fType),(9,.arr (List.map K08 c1.fKids))] (ab (Qdn b8 (K0c b7)) (Qdn c0 (K0c b9)) (cq (Klb _ _ c2) K78 tv)) ?_
  refine rt ?_
  obtain rfl := os h
  exact rq [true]
 refine K7w hc 2 [(1,.ra 1 0),(2,.ra 2 0),(3,.ra 3 0),(10,I t0.fOp),(49,.bool (t0.fOp == 5))] ?_
 refine ic h (fun c3 h => ?_) fun c3 h => ?_
 ·obtain ⟨c4,c5,c6,c7,c8,c9,d0,d1,h⟩ := bq4 h
  refine rs hc (rx [[0],[1],[2],[3],[0],[0,4],[0,4,5],[0,4,5,6],[0,4,5,6,7],[9],[0],[11]]) [oN,oN,some (.el (K1d c4)),oN,oN,oN,some (.el (K1d c6)),oN,some (.call (K1k c8) [] 10),some (.call (K1k d0) [] 12),some (.new 14),oN] [(2,.ra 2 0),(3,.ra 3 0),(4,.ra 14 0)] [(2,.box [I 0,I 0,.nils,.nils]),(3,K1c a0),(12,rI d0.fType),(13,.arr (List.map K08 d0.fKids)),(14,.box [I d0.fOp,I d0.fN,.rs 12,.rs 13])] (ab (Qdn c5 (K0c c4)) (Qdn c7 (K0c c6)) (cq (Kkw _ _ c9) K74 (ac (Q75.args (A1 := [K1d c4,I 0,K1l c8]) (A2 := [K1d c4,I 0,K1d c8]) (by simp only [K1l,List.map_nil,K14,Qeb]) (Klb _ _ d1)) K78 (Or.inr (Qel rfl (Qel rfl (Qel (Qej Qef d0.fType) (Qel (Qej K15 d0.fKids) rfl)))) : ([10,11] : List Nat) = [] ∨ noSh (K1k d0) = true) tv))) ?_
  obtain ⟨d2,d3,d4,d5,h⟩ := bq2 h
  refine rs hc (rx [[0],[0],[0,1],[0,1,2],[0,1,2,3],[5],[6]]) [oN,oN,oN,some (.el (K1d d2)),oN,some (.call (K1k d4) [] 15),oN] [(2,.ra 2 0)] [(2,.box [I d4.fOp,I d4.fN,.rs 15,.rs 16]),(15,rI d4.fType),(16,.arr (List.map K08 d4.fKids))] (ad (Qdn d3 (K0c d2)) (Q75.args (A1 := [K1l d0,I 0,K1d d2]) (A2 := [K1d d0,I 0,K1d d2]) (by simp only [K1l,List.map_nil,K14,Qeb]) (Klb _ _ d5)) K78 (Or.inr (Qel rfl (Qel rfl (Qel (Qej Qef d4.fType) (Qel (Qej K15 d4.fKids) rfl)))) : ([12,13] : List Nat) = [] ∨ noSh (K1k d4) = true) tv) ?_
  refine rt ?_
  obtain rfl := os h
  exact rq [true]
 refine K7w hc 2 [(1,.ra 1 0),(2,.ra 2 0),(3,.ra 3 0),(67,.bool (t0.fOp == 8))] ?_
 refine ic h (fun d6 h => ?_) fun d6 h => ?_
 ·obtain ⟨d7,d8,d9,e0,e1,e2,h⟩ := bq3 h
  refine rs hc (rx [[0],[1],[0],[0,2],[0,2,3],[0,2,3,4],[6],[7],[0],[0,8],[0,8,9],[0,8,9,10],[12],[13]]) [oN,oN,oN,oN,oN,oN,some (.el (K1d d7)),oN,oN,oN,some (.el (K1d d9)),oN,some (.call (K1k e1) [] 17),oN] [(2,.ra 2 0)] [(2,.box [I e1.fOp,I e1.fN,.rs 17,.rs 18]),(17,rI e1.fType),(18,.arr (List.map K08 e1.fKids))] (ab (Qdn d8 (K0c d7)) (Qdn e0 (K0c d9)) (cq (Klb _ _ e2) K78 tv)) ?_
  refine rt ?_
  obtain rfl := os h
  exact rq [true]
 refine sk ?_
 obtain ⟨e3,e4,e5,e6,e7,e8,h⟩ := bq3 h
 refine rs hc Kl1 [oN,oN,some (.el (K1d e3)),oN,oN,oN,some (.el (K1d e5)),oN,some (.call (K1k e7) [] 19),oN] [(2,.ra 2 0)] [(2,.box [I e7.fOp,I e7.fN,.rs 19,.rs 20]),(19,rI e7.fType),(20,.arr (List.map K08 e7.fKids))] (ab (Qdn e4 (K0c e3)) (Qdn e6 (K0c e5)) (cq (Klb _ _ e8) K78 tv)) ?_
 refine rt ?_
 obtain rfl := os h
 exact rq [true]
def Klf (p : K00 × (List Int) × K00) : Option (K00) :=
 match p with
 | (t0,path1,u2) =>
  if ((path1.length : Int) == 0) = true then
  (Kkc u2) >>= fun a0 =>
  some a0
  else
  (Kkc t0) >>= fun a1 =>
  (idx path1 0) >>= fun a2 =>
  (idx path1 0) >>= fun a3 =>
  (idx t0.fKids a3) >>= fun a4 =>
  (cut path1 (some 1) none none) >>= fun a5 =>
  (Klf (a4,a5,u2)) >>= fun a6 =>
  (idx a1.fKids a2) >>= fun a7 =>
  some (K00.mk a1.fOp a1.fN a1.fType (List.set a1.fKids (Int.toNat a2) a6))
 partial_fixpoint
def Klg (p : K00 × (List Int) × K00) (r : K00) : Prop :=
 match p with
 | (t0,path1,u2) => Q75 Tryz.prog 129 [K1d t0,sI path1,K1d u2] (K1k r) []
theorem Klh : ∀ p r,Klf p = some r → Klg p r := by
 refine Klf.partial_correctness Klg ?_
 rintro impl_replaced_f impl_replaced_ih ⟨t0,path1,u2⟩ r h
 refine b0 Tryz.f129 K7b 33 [(0,K1d t0),(1,sI path1),(2,K1d u2)] fun c hc => ?_
 refine rs hc none [some (.new 1),some (.new 2),some (.new 3)] [(1,sI path1),(3,.ra 1 0),(5,.ra 2 0),(6,.ra 3 0)] [(1,K1c t0),(2,K1c u2),(3,.box [I 0,I 0,.nils,.nils])] tv ?_
 refine sN ?_
 refine rss hc none [oN,some (.eqv (.no) ⟨[(9,I (path1.length : Int))],[],[]⟩),oN] [(1,sI path1),(3,.ra 1 0),(5,.ra 2 0),(6,.ra 3 0),(10,.bool ((path1.length : Int) == 0))] (ai (Qdp (d := 9) I path1) tv) ?_
 refine ic h (fun a0 h => ?_) fun a0 h => ?_
 ·obtain ⟨a1,a2,h⟩ := Qdj h
  refine rs hc none [oN,some (.call (K1k a1) [] 4),oN] [(6,.ra 3 0)] [(3,.box [I a1.fOp,I a1.fN,.rs 4,.rs 5]),(4,rI a1.fType),(5,.arr (List.map K08 a1.fKids))] (cq (Kkh _ _ a2) K6y tv) ?_
  refine rt ?_
  obtain rfl := os h
  exact rq [true]
 refine sk ?_
 obtain ⟨a3,a4,h⟩ := Qdj h
 refine rs hc none [oN,some (.call (K1k a3) [] 6),some (.new 8),oN] [(1,sI path1),(3,.ra 1 0),(5,.ra 2 0),(6,.ra 3 0),(7,.ra 8 0)] [(1,K1c t0),(2,K1c u2),(3,.box [I 0,I 0,.nils,.nils]),(6,rI a3.fType),(7,.arr (List.map K08 a3.fKids)),(8,.box [I a3.fOp,I a3.fN,.rs 6,.rs 7])] (cq (Kkh _ _ a4) K6y tv) ?_
 obtain ⟨a5,a6,a7,a8,a9,b1,b2,b3,h⟩ := bq4 h
 obtain ⟨b4,b5,b6,b7,h⟩ := bq2 h
 refine rs hc (rx [[0],[1],[0],[0,2],[0,2,3],[0],[0,5],[0],[0,7],[0,7,8],[0,5,6,7,8,9],[0,5,6,7,8,9,10],[0],[0,12],[0],[0,5,6,7,8,9,10,11,12,13,14],[16],[17]]) [oN,oN,oN,some (.el (I a5)),oN,oN,oN,oN,some (.el (I a7)),oN,some (.el (K1d a9)),oN,oN,some (.eqv (.no) ⟨[(28,sI b2)],[],[]⟩),oN,some (.call (K1k b4) [] 9),oN,some (.eqv (.mk 0 true) ⟨[],[(7,some (.arr (List.map K08 (List.set a3.fKids (Int.toNat a5) b4)))),(9,none),(10,none)],[]⟩)] [(6,.ra 3 0),(7,.ra 8 0)] [(3,.box [I 0,I 0,.nils,.nils]),(6,rI a3.fType),(7,.arr (List.map K08 (List.set a3.fKids (Int.toNat a5) b4))),(8,.box [I a3.fOp,I a3.fN,.rs 6,.rs 7])] (ad (ix a6) (ix a8) (Qdn b1 (K0c a9)) (Qds (d := 28) I b3) (ai (Qdr (enc := I) (sz := 1) Qe2 b3) (cq (impl_replaced_ih _ _ b5) K7c (ac (Qdo (enc := K08) b7) (congrArg (fun z => (⟨[],[(7,some (.arr z)),(9,none),(10,none)],[]⟩ : Wr)) (Qem (enc := K08) (i := Int.toNat a5) (l := a3.fKids) (v := b4) (x := AV.agg [I b4.fOp,I b4.fN,oI b4.fType,AV.osl (List.map K08 b4.fKids)]) (K0e b4))) (Qen (enc := K08) (sz := 4) K10 b7) tv)))) ?_
 refine rs0 hc 2 [(6,.ra 3 0)] [(3,.box [I a3.fOp,I a3.fN,.rs 6,.rs 7]),(6,rI a3.fType),(7,.arr (List.map K08 (List.set a3.fKids (Int.toNat a5) b4)))] ?_
 refine rt ?_
 obtain rfl := os h
 exact rq [true]
def Kli (p : K00 × (List Int)) : Option (K00 × Bool) :=
 match p with
 | (t0,path1) =>
  (Kjv t0) >>= fun a0 =>
  if a0 = true then
  (Kk2 (t0,path1)) >>= fun (a1,a2) =>
  ((
  if a2 = true then
  (Kk5 a1) >>= fun a3 =>
  some ((!a3))
  else
  some (true)
  ) : Option (Bool)) >>= fun a4 =>
  if a4 = true then
  some ((K00.mk 0 0 [] []),false)
  else
  (Klc a1) >>= fun a5 =>
  (Klf (t0,path1,a5)) >>= fun a6 =>
  (Kjv a6) >>= fun a7 =>
  if a7 = true then
  some (a6,true)
  else
  some ((K00.mk 0 0 [] []),false)
  else
  some ((K00.mk 0 0 [] []),false)
def Klj (p : K00 × (List Int)) (r : K00 × Bool) : Prop :=
 match p with
 | (t0,path1) => Q75 Tryz.prog 52 [K1d t0,sI path1] (.tup [.agg [I r.1.fOp,I r.1.fN,.osl (List.map I r.1.fType),.osl (List.map K08 r.1.fKids)],.bool r.2]) []
theorem Klk : ∀ p r,Kli p = some r → Klj p r := by
 rintro ⟨t0,path1⟩ r h
 unfold Kli at h
 refine b0 Tryz.f52 B52 37 [(0,K1d t0),(1,sI path1)] fun c hc => ?_
 refine rs hc none [some (.new 1),some (.new 2),oN] [(1,sI path1),(2,.ra 1 0),(4,.ra 2 0)] [(1,K1c t0),(2,.box [I 0,I 0,.nils,.nils])] tv ?_
 refine sN ?_
 obtain ⟨a0,a1,h⟩ := Qdj h
 refine rss hc none [oN,oc (.bool a0),oN] [(1,sI path1),(2,.ra 1 0),(4,.ra 2 0),(11,.bool (!a0))] (cq (Kjx _ _ a1) K6r tv) ?_
 rcases is h with ⟨a2,h⟩ | ⟨a2,h⟩
 ·refine cF (!a0) (nF a2) ?_
  refine sk ?_
  obtain ⟨⟨a3,a4⟩,a5,h⟩ := Qdj h
  refine rs hc none [oN,oN,oc (.tup [K1d a3,.bool a4]),oN,oN,oN,some (.new 3),oN,oN] [(1,sI path1),(2,.ra 1 0),(4,.ra 2 0),(6,.ra 3 0),(7,.bool a4)] [(1,K1c t0),(2,.box [I 0,I 0,.nils,.nils]),(3,K1c a3)] (cq (Kk4 _ _ a5) K6t tv) ?_
  refine sN ?_
  refine sN ?_
  obtain ⟨a6,a7,h⟩ := Qdj h
  refine Wp.into (x := .normal) (mkS [(1,sI path1),(2,.ra 1 0),(4,.ra 2 0),(6,.ra 3 0),(25,.bool a6)] [(1,K1c t0),(2,.box [I 0,I 0,.nils,.nils]),(3,K1c a3)]) ?_ ?_
  ·replace h := a7
   rcases is h with ⟨a8,h⟩ | ⟨a8,h⟩
   ·obtain ⟨a9,b1,h⟩ := Qdj h
    refine rgs hc none [oN,oN,oN,oN,oc (.bool a9),oN,oF] [(1,sI path1),(2,.ra 1 0),(4,.ra 2 0),(6,.ra 3 0),(25,.bool (!a9))] (ar 2 (nF a8) (cq (Kk7 _ _ b1) K6v (ar 2 (nF a8) tv))) ?_
    obtain rfl := os h
    exact Qd5.mk
   refine rgs hc none [oN,oN,oN,o_,o_,o_,oT] [(1,sI path1),(2,.ra 1 0),(4,.ra 2 0),(6,.ra 3 0),(25,.bool true)] (ar 3 (neF (nT a8)) (ai (nT a8) tv)) ?_
   obtain rfl := os h
   exact Qd5.mk
  clear a7
  refine ic h (fun b2 h => ?_) fun b2 h => ?_
  ·refine rs0 hc 3 [(4,.ra 2 0),(5,.bool false)] [(2,.box [I 0,I 0,.nils,.nils])] ?_
   refine rt ?_
   obtain rfl := os h
   exact rq [true,true]
  refine sk ?_
  obtain ⟨b3,b4,b5,b6,h⟩ := bq2 h
  refine rs hc (rx [[0],[0],[0],[0,2],[4],[0],[6]]) [oN,oN,oN,some (.call (K1k b3) [] 4),some (.call (K1k b5) [] 6),some (.new 8),oN] [(4,.ra 2 0),(8,.ra 8 0)] [(2,.box [I 0,I 0,.nils,.nils]),(6,rI b5.fType),(7,.arr (List.map K08 b5.fKids)),(8,.box [I b5.fOp,I b5.fN,.rs 6,.rs 7])] (cq (Kle _ _ b4) K7a (ac (Q75.args (A1 := [K1d t0,sI path1,K1l b3]) (A2 := [K1d t0,sI path1,K1d b3]) (by simp only [K1l,List.map_nil,K14,Qeb]) (Klh _ _ b6)) K7c (Or.inr (Qel rfl (Qel rfl (Qel (Qej Qef b5.fType) (Qel (Qej K15 b5.fKids) rfl)))) : ([4,5] : List Nat) = [] ∨ noSh (K1k b5) = true) tv)) ?_
  refine sN ?_
  obtain ⟨b7,b8,h⟩ := Qdj h
  refine rss hc none [oN,oc (.bool b7),oN] [(4,.ra 2 0),(8,.ra 8 0),(34,.bool (!b7))] (ac (Q75.args (A1 := [K1l b5]) (A2 := [K1d b5]) (by simp only [K1l,List.map_nil,K14,Qeb]) (Kjx _ _ b8)) K6r (Or.inr rfl : ([6,7] : List Nat) = [] ∨ noSh (.bool b7) = true) tv) ?_
  rcases is h with ⟨b9,h⟩ | ⟨b9,h⟩
  ·refine cF (!b7) (nF b9) ?_
   refine sk ?_
   refine rs0 hc 3 [(4,.ra 2 0),(5,.bool true)] [(2,.box [I b5.fOp,I b5.fN,.rs 6,.rs 7]),(6,rI b5.fType),(7,.arr (List.map K08 b5.fKids))] ?_
   refine rt ?_
   obtain rfl := os h
   exact rq [true,true]
  refine cT (!b7) (nT b9) ?_
  refine rs0 hc 3 [(4,.ra 2 0),(5,.bool false)] [(2,.box [I 0,I 0,.nils,.nils])] ?_
  refine rt ?_
  obtain rfl := os h
  exact rq [true,true]
 refine cT (!a0) (nT a2) ?_
 refine rs0 hc 3 [(4,.ra 2 0),(5,.bool false)] [(2,.box [I 0,I 0,.nils,.nils])] ?_
 refine rt ?_
 obtain rfl := os h
 exact rq [true,true]
def Kll (p : K00 × (List Int)) : Option (K00 × Bool) :=
 match p with
 | (t0,path1) =>
  (Kjv t0) >>= fun a0 =>
  if a0 = true then
  (Kk2 (t0,path1)) >>= fun (a1,a2) =>
  if a2 = true then
  (Kkc a1) >>= fun a3 =>
  some (a3,true)
  else
  some ((K00.mk 0 0 [] []),false)
  else
  some ((K00.mk 0 0 [] []),false)
def Klm (p : K00 × (List Int)) (r : K00 × Bool) : Prop :=
 match p with
 | (t0,path1) => Q75 Tryz.prog 53 [K1d t0,sI path1] (.tup [.agg [I r.1.fOp,I r.1.fN,.osl (List.map I r.1.fType),.osl (List.map K08 r.1.fKids)],.bool r.2]) []
theorem Kln : ∀ p r,Kll p = some r → Klm p r := by
 rintro ⟨t0,path1⟩ r h
 unfold Kll at h
 refine b0 Tryz.f53 B53 23 [(0,K1d t0),(1,sI path1)] fun c hc => ?_
 refine rs hc none [some (.new 1),some (.new 2),oN] [(1,sI path1),(2,.ra 1 0),(4,.ra 2 0)] [(1,K1c t0),(2,.box [I 0,I 0,.nils,.nils])] tv ?_
 refine sN ?_
 obtain ⟨a0,a1,h⟩ := Qdj h
 refine rss hc none [oN,oc (.bool a0),oN] [(1,sI path1),(2,.ra 1 0),(4,.ra 2 0),(10,.bool (!a0))] (cq (Kjx _ _ a1) K6r tv) ?_
 rcases is h with ⟨a2,h⟩ | ⟨a2,h⟩
 ·refine cF (!a0) (nF a2) ?_
  refine sk ?_
  obtain ⟨⟨a3,a4⟩,a5,h⟩ := Qdj h
  refine rs hc none [oN,oN,oc (.tup [K1d a3,.bool a4]),oN,oN,oN,some (.new 3),oN,oN] [(4,.ra 2 0),(6,.ra 3 0),(7,.bool a4)] [(2,.box [I 0,I 0,.nils,.nils]),(3,K1c a3)] (cq (Kk4 _ _ a5) K6t tv) ?_
  refine sN ?_
  refine K7w hc 2 [(4,.ra 2 0),(6,.ra 3 0),(19,.bool (!a4))] ?_
  rcases is h with ⟨a6,h⟩ | ⟨a6,h⟩
  ·refine cF (!a4) (nF a6) ?_
   refine sk ?_
   obtain ⟨a7,a8,h⟩ := Qdj h
   refine rs hc none [oN,some (.call (K1k a7) [] 4),oN,oN] [(4,.ra 2 0),(5,.bool true)] [(2,.box [I a7.fOp,I a7.fN,.rs 4,.rs 5]),(4,rI a7.fType),(5,.arr (List.map K08 a7.fKids))] (cq (Kkh _ _ a8) K6y tv) ?_
   refine rt ?_
   obtain rfl := os h
   exact rq [true,true]
  refine cT (!a4) (nT a6) ?_
  refine rs0 hc 3 [(4,.ra 2 0),(5,.bool false)] [(2,.box [I 0,I 0,.nils,.nils])] ?_
  refine rt ?_
  obtain rfl := os h
  exact rq [true,true]
 refine cT (!a0) (nT a2) ?_
 refine rs0 hc 3 [(4,.ra 2 0),(5,.bool false)] [(2,.box [I 0,I 0,.nils,.nils])] ?_
 refine rt ?_
 obtain rfl := os h
 exact rq [true,true]
def Klo (t0 : K00) : Option (Bool) :=
 ((
 (Kjv t0) >>= fun a0 =>
 if a0 = true then
 (Kk5 t0) >>= fun a1 =>
 some (a1)
 else
 some (false)
 ) : Option (Bool)) >>= fun a2 =>
 some a2
def Klp (t0 : K00) (r : Bool) : Prop :=
 Q75 Tryz.prog 133 [K1d t0] (.bool r) []
theorem Klq : ∀ p r,Klo p = some r → Klp p r := by
 rintro t0 r h
 unfold Klo at h
 refine b0 Tryz.f133 K7f 9 [(0,K1d t0)] fun c hc => ?_
 refine rs hc none [some (.new 1),oN] [(1,.ra 1 0)] [(1,K1c t0)] tv ?_
 refine sN ?_
 obtain ⟨a0,a1,h⟩ := Qdj h
 refine Wp.into (x := .normal) (mkS [(2,.bool a0)] []) ?_ ?_
 ·replace h := a1
  obtain ⟨a2,a3,h⟩ := Qdj h
  rcases is h with ⟨a4,h⟩ | ⟨a4,h⟩
  ·obtain ⟨a5,a6,h⟩ := Qdj h
   refine rg hc none [oN,oc (.bool a2),oN,oN,oc (.bool a5),oT,oN] [(2,.bool a5)] [] (cq (Kjx _ _ a3) K6r (ar 2 a4 (cq (Kk7 _ _ a6) K6v (ai a4 tv)))) ?_
   obtain rfl := os h
   exact Qd5.mk
  refine rg hc none [oN,oc (.bool a2),oN,o_,o_,oF,oN] [(2,.bool false)] [] (cq (Kjx _ _ a3) K6r (ar 2 (neT a4) (ai a4 tv))) ?_
  obtain rfl := os h
  exact Qd5.mk
 clear a1
 refine rt ?_
 obtain rfl := os h
 exact rq [true]
def Klr (t0 : K00) : Option (K00 × Bool) :=
 (Klo t0) >>= fun a0 =>
 if a0 = true then
 (Klc t0) >>= fun a1 =>
 (Kjv a1) >>= fun a2 =>
 if a2 = true then
 some (a1,true)
 else
 some ((K00.mk 0 0 [] []),false)
 else
 some ((K00.mk 0 0 [] []),false)
def Kls (t0 : K00) (r : K00 × Bool) : Prop :=
 Q75 Tryz.prog 55 [K1d t0] (.tup [.agg [I r.1.fOp,I r.1.fN,.osl (List.map I r.1.fType),.osl (List.map K08 r.1.fKids)],.bool r.2]) []
theorem Klt : ∀ p r,Klr p = some r → Kls p r := by
 rintro t0 r h
 unfold Klr at h
 refine b0 Tryz.f55 B55 16 [(0,K1d t0)] fun c hc => ?_
 refine rs hc none [some (.new 1),some (.new 2),oN] [(1,.ra 1 0),(2,.ra 2 0)] [(1,K1c t0),(2,.box [I 0,I 0,.nils,.nils])] tv ?_
 refine sN ?_
 obtain ⟨a0,a1,h⟩ := Qdj h
 refine rss hc none [oN,oc (.bool a0),oN] [(1,.ra 1 0),(2,.ra 2 0),(7,.bool (!a0))] (cq (Klq _ _ a1) K7g tv) ?_
 rcases is h with ⟨a2,h⟩ | ⟨a2,h⟩
 ·refine cF (!a0) (nF a2) ?_
  refine sk ?_
  obtain ⟨a3,a4,h⟩ := Qdj h
  refine rs hc none [oN,some (.call (K1k a3) [] 3),some (.new 5),oN] [(2,.ra 2 0),(4,.ra 5 0)] [(2,.box [I 0,I 0,.nils,.nils]),(3,rI a3.fType),(4,.arr (List.map K08 a3.fKids)),(5,.box [I a3.fOp,I a3.fN,.rs 3,.rs 4])] (cq (Kle _ _ a4) K7a tv) ?_
  refine sN ?_
  obtain ⟨a5,a6,h⟩ := Qdj h
  refine rss hc none [oN,oc (.bool a5),oN] [(2,.ra 2 0),(4,.ra 5 0),(13,.bool (!a5))] (ac (Q75.args (A1 := [K1l a3]) (A2 := [K1d a3]) (by simp only [K1l,List.map_nil,K14,Qeb]) (Kjx _ _ a6)) K6r (Or.inr rfl : ([3,4] : List Nat) = [] ∨ noSh (.bool a5) = true) tv) ?_
  rcases is h with ⟨a7,h⟩ | ⟨a7,h⟩
  ·refine cF (!a5) (nF a7) ?_
   refine sk ?_
   refine rs0 hc 3 [(2,.ra 2 0),(3,.bool true)] [(2,.box [I a3.fOp,I a3.fN,.rs 3,.rs 4]),(3,rI a3.fType),(4,.arr (List.map K08 a3.fKids))] ?_
   refine rt ?_
   obtain rfl := os h
   exact rq [true,true]
  refine cT (!a5) (nT a7) ?_
  refine rs0 hc 3 [(2,.ra 2 0),(3,.bool false)] [(2,.box [I 0,I 0,.nils,.nils])] ?_
  refine rt ?_
  obtain rfl := os h
  exact rq [true,true]
 refine cT (!a0) (nT a2) ?_
 refine rs0 hc 3 [(2,.ra 2 0),(3,.bool false)] [(2,.box [I 0,I 0,.nils,.nils])] ?_
 refine rt ?_
 obtain rfl := os h
 exact rq [true,true]
def Klu (a0 : Int) : Option (Bool) :=
 some true
def Klv (a0 : Int) (r : Bool) : Prop :=
 Q75 Tryz.prog 135 [I a0] (.bool r) []
theorem Klw : ∀ p r,Klu p = some r → Klv p r := by
 rintro a0 r h
 unfold Klu at h
 refine b0 Tryz.f135 K7i 3 [(0,I a0)] fun c hc => ?_
 refine rs0 hc 1 [] [] ?_
 refine rs0 hc 1 [(2,.bool true)] [] ?_
 refine rt ?_
 obtain rfl := os h
 exact rq [true]
def Klx (a0 : (List Int)) : Option (Bool) :=
 some true
def Kly (a0 : (List Int)) (r : Bool) : Prop :=
 Q75 Tryz.prog 136 [sI a0] (.bool r) []
theorem Klz : ∀ p r,Klx p = some r → Kly p r := by
 rintro a0 r h
 unfold Klx at h
 refine b0 Tryz.f136 K7k 3 [(0,sI a0)] fun c hc => ?_
 refine rs0 hc 1 [] [] ?_
 refine rs0 hc 1 [(2,.bool true)] [] ?_
 refine rt ?_
 obtain rfl := os h
 exact rq [true]
def Km0 (c : Ctx) : (Int) ⊕ (Int) → Exit → Q0a → Prop
 | .inl a0 => Qd5 c (.exit 1) (mkS [(4,I a0)] [])
 | .inr r => Qde TIx Tryz.f134 [] (I r)
end Go.Am
