/- Walks, printed. -/
import Derived.Test.YtckgdfakjjdodaaGreatGSNF9
set_option linter.unusedVariables false
set_option linter.unusedSimpArgs false
set_option maxRecDepth 100000
namespace Go.Am
open Go Go.Proofs
def Kmk (op0 : Int) : Option (K05 × Bool) :=
 (Kk6 (op0,0,12)) >>= fun a0 =>
 if a0 = true then
 (idx [(K05.mk (ByteArray.mk #[120]) 0 false false),(K05.mk ByteArray.empty 0 false false),(K05.mk (ByteArray.mk #[97,100,100]) 2 false false),(K05.mk (ByteArray.mk #[105,102]) 3 false false),(K05.mk (ByteArray.mk #[112,97,105,114]) 2 false false),(K05.mk (ByteArray.mk #[115,112,108,105,116]) 2 true false),(K05.mk (ByteArray.mk #[108,101,102,116]) 1 false true),(K05.mk (ByteArray.mk #[114,105,103,104,116]) 1 false true),(K05.mk (ByteArray.mk #[99,97,115,101]) 3 true false),(K05.mk (ByteArray.mk #[102,117,110]) 1 true true),(K05.mk (ByteArray.mk #[97,112,112]) 2 false false),(K05.mk (ByteArray.mk #[98,111,120]) 1 true false),(K05.mk (ByteArray.mk #[111,112,101,110]) 2 true false)] op0) >>= fun a1 =>
 some (a1,true)
 else
 some ((K05.mk ByteArray.empty 0 false false),false)
def Kml (op0 : Int) (r : K05 × Bool) : Prop :=
 Q75 Tryz.prog 188 [I op0] (.tup [.agg [.str r.1.fword,I r.1.fkids,.bool r.1.fgrade,.bool r.1.ftyped],.bool r.2]) []
theorem Kmm : ∀ p r,Kmk p = some r → Kml p r := by
 rintro op0 r h
 unfold Kmk at h
 refine b0 Tryz.f188 K7q 25 [(0,I op0)] fun c hc => (rsd hc none [nW 1,oN] [] [(2,.ra 1 0)] [(1,.box [.str ByteArray.empty,I 0,.bool false,.bool false])] tv (sN ?_))
 obtain ⟨a0,a1,h⟩ := Qdt h
 refine K9n hc none [oN,oc (.bool a0),oN] [] [(6,.bool (!a0))] (cq (Kk8 _ _ a1) K6y tv) ?_
 rcases is h with ⟨a2,h⟩ | ⟨a2,h⟩
 ·refine cF (!a0) (nF a2) (sk ?_)
  obtain ⟨a3,a4,h⟩ := Qdt h
  obtain rfl := os h
  exact rsd hc none (nN 13 [mK 2,oN,oN,eL (.agg [.str a3.fword,I a3.fkids,.bool a3.fgrade,.bool a3.ftyped]),oN,oN]) [6,0] [(3,.bool true)] [(1,.box [.str a3.fword,I a3.fkids,.bool a3.fgrade,.bool a3.ftyped])] (ab (Qdy (enc := K0x) a4) (Qdx (enc := K0x) (x := .agg [.str a3.fword,I a3.fkids,.bool a3.fgrade,.bool a3.ftyped]) a4 (K1l a3)).2 tv) (rt (rq [true,true]))
 refine cT (!a0) (nT a2) ?_
 obtain rfl := os h
 exact K9o hc 3 [6,0] [(3,.bool false)] (rt (rq [true,true]))
def Kmn (p : (List Int) × K00) : Option (Bool) :=
 match p with
 | (ty0,cap0) =>
  (Km1 (cap0,ty0)) >>= fun a0 =>
  some a0
def Kmo (p : (List Int) × K00) (r : Bool) : Prop :=
 match p with
 | (ty0,cap0) => Q75 Tryz.prog 218 [sI ty0,.ptr [I cap0.fSize,sI cap0.fPlus,sI cap0.fTimes,sB cap0.fBelow] 0] (.bool r) []
theorem Kmp : ∀ p r,Kmn p = some r → Kmo p r := by
 rintro ⟨ty0,cap0⟩ r h
 unfold Kmn at h
 refine b0 Tryz.f218 K7s 7 [(0,sI ty0),(1,.ptr [I cap0.fSize,sI cap0.fPlus,sI cap0.fTimes,sB cap0.fBelow] 0)] fun c hc => (K9m hc 1 [] [] [] ?_)
 obtain ⟨a0,a1,h⟩ := Qdt h
 obtain rfl := os h
 exact rs hc none [oN,oN,oc (.bool a0),oN] [(3,.bool a0)] [] (cq (Km3 _ _ a1) K7h tv) (rt (rq [true]))
def Kmq (p : Int × Int) : Option (Int) :=
 match p with
 | (op0,kid1) =>
  ((
  if (op0 == 5) = true then
  some ((kid1 == 1))
  else
  some (false)
  ) : Option (Bool)) >>= fun a0 =>
  if a0 = true then
  some 2
  else
  ((
  if (op0 == 8) = true then
  some ((decide (kid1 > 0)))
  else
  some (false)
  ) : Option (Bool)) >>= fun a1 =>
  ((
  if a1 = true then
  some (a1)
  else
  ((
  if (op0 == 9) = true then
  some ((op0 == 9))
  else
  ((
  if (op0 == 12) = true then
  some ((kid1 == 1))
  else
  some (false)
  ) : Option (Bool)) >>= fun a2 =>
  some (a2)
  ) : Option (Bool)) >>= fun a3 =>
  some (a3)
  ) : Option (Bool)) >>= fun a4 =>
  if a4 = true then
  some 1
  else
  some 0
def Kmr (p : Int × Int) (r : Int) : Prop :=
 match p with
 | (op0,kid1) => Q75 Tryz.prog 199 [I op0,I kid1] (I r) []
theorem Kms : ∀ p r,Kmq p = some r → Kmr p r := by
 rintro ⟨op0,kid1⟩ r h
 unfold Kmq at h
 refine b0 Tryz.f199 K7u 27 [(0,I op0),(1,I kid1)] fun c hc => (K9m hc 1 [] [] [] (sN (bk 0 (sN ?_))))
 obtain ⟨a0,a1,h⟩ := Qdt h
 refine wi [] [(5,.bool a0)] ?_ ?_
 ·replace h := a1
  rcases is h with ⟨a2,h⟩ | ⟨a2,h⟩
  ·obtain rfl := os h
   exact rj hc none (nN 5 [oT,oN]) (ar 3 a2 tv)
  obtain rfl := os h
  exact rj hc none [oN,oN,oN,o_,o_,oF,oN] (ar 2 (neT a2) (ai a2 tv))
 clear a1
 refine ic h (fun a3 h => ?_) fun a3 h => ?_
 ·obtain rfl := os h
  exact rs0 hc 1 [(4,I 2)] [] (rt (rq [true]))
 refine sN (sN ?_)
 obtain ⟨a4,a5,h⟩ := Qdt h
 refine wi [5] [(12,.bool a4)] ?_ ?_
 ·replace h := a5
  rcases is h with ⟨a6,h⟩ | ⟨a6,h⟩
  ·obtain rfl := os h
   exact rj hc none (nN 5 [oT,oN]) (ar 3 a6 tv)
  obtain rfl := os h
  exact rj hc none [oN,oN,oN,o_,o_,oF,oN] (ar 2 (neT a6) (ai a6 tv))
 clear a5
 obtain ⟨a7,a8,h⟩ := Qdt h
 refine Wp.into (x := .normal) (mkS [(12,.bool a7)] []) ?_ ?_
 ·replace h := a8
  refine ic h (fun a9 h => ?_) fun a9 h => ?_
  ·obtain rfl := os h
   exact sk (iv [])
  refine K9m hc 3 [12] [(12,.bool (op0 == 9))] [] ?_
  obtain ⟨b1,b2,h⟩ := Qdt h
  refine Wp.into (x := .normal) (mkS [(12,.bool b1)] []) ?_ ?_
  ·replace h := b2
   refine ic h (fun b3 h => ?_) fun b3 h => ?_
   ·obtain rfl := os h
    exact sk (iv [])
   obtain ⟨b4,b5,h⟩ := Qdt h
   refine Wp.into (x := .normal) (mkS [(12,.bool b4)] []) ?_ ?_
   ·replace h := b5
    rcases is h with ⟨b6,h⟩ | ⟨b6,h⟩
    ·obtain rfl := os h
     exact rj hc none (nN 5 [oT,oN]) (ar 3 b6 tv)
    obtain rfl := os h
    exact rj hc none [oN,oN,oN,o_,o_,oF,oN] (ar 2 (neT b6) (ai b6 tv))
   clear b5
   obtain rfl := os h
   exact im
  clear b2
  obtain rfl := os h
  exact im
 clear a8
 refine ic h (fun b7 h => ?_) fun b7 h => ?_
 ·obtain rfl := os h
  exact rs0 hc 1 [(4,I 1)] [] (rt (rq [true]))
 obtain rfl := os h
 exact sk (rs0 hc 1 [(4,I 0)] [] (rt (rq [true])))
def Kmt (c : Ctx) : (Int) ⊕ (Int) → Exit → Q0a → Prop
 | .inl a0 => Qdf c (.exit 1) (mkS [(4,I a0)] [])
 | .inr r => Qdo TIx Tryz.f134 [] (I r)
mutual
def Kmu (p : K01 × Int × K00 × K00 × Int) : Option (Int) :=
 match p with
 | (t0,n1,clo2_0,clo3_0,nodes4) =>
  (Kmk t0.fOp) >>= fun (a0,a1) =>
  ((
  if a1 = true then
  if (decide ((wr (nodes4 + 1)) > 400)) = true then
   some (true)
  else
   some (((t0.fKids.length : Int) != a0.fkids))
  else
  some (true)
  ) : Option (Bool)) >>= fun a2 =>
  if a2 = true then
  some 401
  else
  ((
  if (t0.fOp == 0) = true then
   (Kk6 (t0.fN,0,(wr (n1 - 1)))) >>= fun a3 =>
   some (a3)
  else
   ((
   if (t0.fOp == 1) = true then
   (Kk6 (t0.fN,0,2)) >>= fun a4 =>
   some (a4)
   else
   ((
   if a0.fgrade = true then
   (Kk9 (clo2_0,t0.fN)) >>= fun a5 =>
   some (a5)
   else
   some ((t0.fN == 0))
   ) : Option (Bool)) >>= fun a6 =>
   some (a6)
   ) : Option (Bool)) >>= fun a7 =>
   some (a7)
  ) : Option (Bool)) >>= fun a8 =>
  ((
  if a0.ftyped = true then
   ((
   if a8 = true then
   (Kmn (t0.fType,clo3_0)) >>= fun a9 =>
   some (a9)
   else
   some (false)
   ) : Option (Bool)) >>= fun b1 =>
   some (b1)
  else
   ((
   if a8 = true then
   some (((t0.fType.length : Int) == 0))
   else
   some (false)
   ) : Option (Bool)) >>= fun b2 =>
   some (b2)
  ) : Option (Bool)) >>= fun b3 =>
  if b3 = true then
  (Kmv (t0,n1,clo2_0,clo3_0,(wr (nodes4 + 1)),0)) >>= fun fl => match fl with
  | .inl b4 =>
   some b4
  | .inr r =>
   some r
  else
  some 401
 partial_fixpoint
def Kmv (p : K01 × Int × K00 × K00 × Int × Int) : Option ((Int) ⊕ (Int)) :=
 match p with
 | (t0,n1,clo2_0,clo3_0,a0,a1) =>
  if (decide (a1 < (t0.fKids.length : Int))) = true then
  (idx t0.fKids a1) >>= fun a2 =>
  (Kmq (t0.fOp,a1)) >>= fun a3 =>
  (Kmu (a2,(wr (n1 + a3)),clo2_0,clo3_0,a0)) >>= fun a4 =>
  if (decide (a4 > 400)) = true then
  some (.inr 401)
  else
  Kmv (t0,n1,clo2_0,clo3_0,a4,(wr (a1 + 1)))
  else
  some (.inl a0)
 partial_fixpoint
end
def Kmw (p : K01 × Int × K00 × K00 × Int) (r : Int) : Prop :=
 match p with
 | (t0,n1,clo2_0,clo3_0,nodes4) => Q75 Tryz.prog 134 [K1z t0,I n1,.fnb 145 [K1w clo2_0],.fn 218 [.ptr [I clo3_0.fSize,sI clo3_0.fPlus,sI clo3_0.fTimes,sB clo3_0.fBelow] 0],I nodes4] (I r) []
def Kmx (p : K01 × Int × K00 × K00 × Int × Int) (fl : (Int) ⊕ (Int)) : Prop :=
 match p with
 | (t0,n1,clo2_0,clo3_0,a0,a1) => ∀ c : Ctx,c.nt = 104 → WpL Tryz.prog c (cl (cl (cr (cl (cr (cr (cr (cr (cr (cr (cr K7w))))))))))) (Kmt c fl) (mkS [(1,I n1),(2,.fnb 145 [K1w clo2_0]),(3,.fn 218 [.ptr [I clo3_0.fSize,sI clo3_0.fPlus,sI clo3_0.fTimes,sB clo3_0.fBelow] 0]),(4,I a0),(5,.ra 1 0),(82,sM K0h t0.fKids),(83,I (t0.fKids.length : Int)),(84,I a1)] [(1,K1y t0)])
theorem Kmy : (∀ p r,Kmu p = some r → Kmw p r) ∧ (∀ p r,Kmv p = some r → Kmx p r) := by
 refine Kmu.mutual_partial_correctness Kmw Kmx ?_ ?_
 ·rintro impl_check_Kimpl_Systemhas_Kimpl_isTermOf_c1_l0_f impl_check_Kimpl_Systemhas_Kimpl_isTermOf_c1_l0_ih ⟨t0,n1,clo2_0,clo3_0,nodes4⟩ r h
  refine b0 Tryz.f134 K7w 104 [(0,K1z t0),(1,I n1),(2,.fnb 145 [K1w clo2_0]),(3,.fn 218 [.ptr [I clo3_0.fSize,sI clo3_0.fPlus,sI clo3_0.fTimes,sB clo3_0.fBelow] 0]),(4,I nodes4)] fun c hc => (rsd hc none [nW 1,oN] [0] [(5,.ra 1 0)] [(1,K1y t0)] tv (K9o hc 3 [4] [(4,I (wr (nodes4 + 1)))] ?_))
  obtain ⟨⟨a0,a1⟩,a2,h⟩ := Qdt h
  refine rsd hc none [oN,oN,oc (.tup [.agg [.str a0.fword,I a0.fkids,.bool a0.fgrade,.bool a0.ftyped],.bool a1]),oN,oN,oN,nW 2,oN,oN] [] [(11,.ra 2 0),(12,.bool a1)] [(1,K1y t0),(2,.box [.str a0.fword,I a0.fkids,.bool a0.fgrade,.bool a0.ftyped])] (cq (Kmm _ _ a2) K7r tv) (sN (sN ?_))
  obtain ⟨a3,a4,h⟩ := Qdt h
  refine wi [12] [(36,.bool a3)] ?_ ?_
  ·replace h := a4
   rcases is h with ⟨a5,h⟩ | ⟨a5,h⟩
   ·rcases is h with ⟨a6,h⟩ | ⟨a6,h⟩
    ·obtain rfl := os h
     exact rj hc none (nN 5 ([oF,oN]++n_ 6 [oT])) (ar 3 (nF a5) (ar 6 (neF a6) (ai a6 tv)))
    obtain rfl := os h
    exact rj hc none (nN 5 [oF,oN,oN,oN,nQ ⟨[(32,I (t0.fKids.length : Int))],[],[]⟩,oN,oN,oN,oF]) (ar 3 (nF a5) (ar 3 a6 (ai (Qdz (d := 32) K0h t0.fKids) (ar 4 a6 tv))))
   obtain rfl := os h
   exact rj hc none ([oN,oN,oN,o_,o_,oT,oN]++n_ 6 [oT]) (ar 2 (neF (nT a5)) (ai (nT a5) (ar 6 nf (ai tt tv))))
  clear a4
  refine ic h (fun a7 h => ?_) fun a7 h => ?_
  ·obtain rfl := os h
   exact rs0 hc 1 [(10,I 401)] [] (rt (rq [true]))
  refine sk (sN (bk 0 (K9o hc 4 [36] [(40,.bool (t0.fOp == 0))] ?_)))
  obtain ⟨a8,a9,h⟩ := Qdt h
  refine Wp.into (x := .normal) (mkS [(1,I n1),(2,.fnb 145 [K1w clo2_0]),(3,.fn 218 [.ptr [I clo3_0.fSize,sI clo3_0.fPlus,sI clo3_0.fTimes,sB clo3_0.fBelow] 0]),(4,I (wr (nodes4 + 1))),(5,.ra 1 0),(11,.ra 2 0),(12,.bool a8)] [(1,K1y t0),(2,.box [.str a0.fword,I a0.fkids,.bool a0.fgrade,.bool a0.ftyped])]) ?_ ?_
  ·replace h := a9
   refine ic h (fun b1 h => ?_) fun b1 h => ?_
   ·obtain ⟨b2,b3,h⟩ := Qdt h
    obtain rfl := os h
    exact rj hc none (nN 4 [oc (.bool b2),oN]) (cq (Kk8 _ _ b3) K6y tv)
   refine K9l hc 4 [(1,I n1),(2,.fnb 145 [K1w clo2_0]),(3,.fn 218 [.ptr [I clo3_0.fSize,sI clo3_0.fPlus,sI clo3_0.fTimes,sB clo3_0.fBelow] 0]),(4,I (wr (nodes4 + 1))),(5,.ra 1 0),(11,.ra 2 0),(49,.bool (t0.fOp == 1))] ?_
   obtain ⟨b4,b5,h⟩ := Qdt h
   refine wi [49] [(12,.bool b4)] ?_ ?_
   ·replace h := b5
    refine ic h (fun b6 h => ?_) fun b6 h => ?_
    ·obtain ⟨b7,b8,h⟩ := Qdt h
     obtain rfl := os h
     exact rj hc none [oN,oN,oc (.bool b7),oN] (cq (Kk8 _ _ b8) K6y tv)
    refine K9o hc 3 [49] [(56,.bool a0.fgrade)] ?_
    obtain ⟨b9,c0,h⟩ := Qdt h
    refine wi [56] [(12,.bool b9)] ?_ ?_
    ·replace h := c0
     refine ic h (fun c1 h => ?_) fun c1 h => ?_
     ·obtain ⟨c2,c3,h⟩ := Qdt h
      obtain rfl := os h
      exact rj hc none [oN,oN,oN,oc (.bool c2),oN] (cq (Kkb _ _ c3) K70 tv)
     obtain rfl := os h
     exact rj0 hc 4
    clear c0
    obtain rfl := os h
    exact im
   clear b5
   obtain rfl := os h
   exact im
  clear a9
  refine sN (K9m hc 2 [11] [(64,.bool a0.ftyped)] [(1,K1y t0)] ?_)
  obtain ⟨c4,c5,h⟩ := Qdt h
  refine wi [64,12] [(12,.bool c4)] ?_ ?_
  ·replace h := c5
   refine ic h (fun c6 h => ?_) fun c6 h => ?_
   ·obtain ⟨c7,c8,h⟩ := Qdt h
    refine wi [64,12] [(12,.bool c7)] ?_ ?_
    ·replace h := c8
     rcases is h with ⟨c9,h⟩ | ⟨c9,h⟩
     ·obtain ⟨d0,d1,h⟩ := Qdt h
      obtain rfl := os h
      exact rj hc none (nN 5 [oc (.bool d0),oT,oN]) (ar 4 c9 (cq (Kmp _ _ d1) K7t (ai c9 tv)))
     obtain rfl := os h
     exact rj hc none ([oN,oN]++n_ 4 [oF,oN]) (ar 4 (neT c9) (ai c9 tv))
    clear c8
    obtain rfl := os h
    exact im
   obtain ⟨d2,d3,h⟩ := Qdt h
   refine wi [64,12] [(12,.bool d2)] ?_ ?_
   ·replace h := d3
    rcases is h with ⟨d4,h⟩ | ⟨d4,h⟩
    ·obtain rfl := os h
     exact rj hc none (nN 4 [nQ ⟨[(76,I (t0.fType.length : Int))],[],[]⟩,oN,oT,oN]) (ar 3 d4 (ai (Qdz (d := 76) I t0.fType) (ar 2 d4 tv)))
    obtain rfl := os h
    exact rj hc none ([oN,oN]++n_ 4 [oF,oN]) (ar 4 (neT d4) (ai d4 tv))
   clear d3
   obtain rfl := os h
   exact im
  clear c5
  refine sN (K9o hc 2 [12] [(80,.bool (!c4))] ?_)
  rcases is h with ⟨d5,h⟩ | ⟨d5,h⟩
  ·refine cF (!c4) (nF d5) (sk (sN (rss hc none [oN,oN,nQ ⟨[(83,I (t0.fKids.length : Int))],[],[]⟩,oN] [(1,I n1),(2,.fnb 145 [K1w clo2_0]),(3,.fn 218 [.ptr [I clo3_0.fSize,sI clo3_0.fPlus,sI clo3_0.fTimes,sB clo3_0.fBelow] 0]),(4,I (wr (nodes4 + 1))),(5,.ra 1 0),(82,sM K0h t0.fKids),(83,I (t0.fKids.length : Int)),(84,I 0)] (ai (Qdz (d := 83) K0h t0.fKids) tv) (bk 1 ?_))))
   obtain ⟨fl,d6,h⟩ := Qdt h
   have hL := impl_check_Kimpl_Systemhas_Kimpl_isTermOf_c1_l0_ih _ _ d6 c hc
   refine lp ?_
   rcases fl with d7 | r
   ·refine wl hL ?_
    obtain rfl := os h
    exact Qd7 (rs0 hc 2 [(10,I d7)] [] (rt (rq [true])))
   refine WpL.mono hL ?_
   rintro _ _ ⟨rfl,hfin⟩
   obtain rfl := os h
   exact ⟨.inl rfl,hfin⟩
  refine cT (!c4) (nT d5) ?_
  obtain rfl := os h
  exact rs0 hc 1 [(10,I 401)] [] (rt (rq [true]))
 ·rintro impl_check_Kimpl_Systemhas_Kimpl_isTermOf_c1_f impl_check_Kimpl_Systemhas_Kimpl_isTermOf_c1_l0_f impl_check_Kimpl_Systemhas_Kimpl_isTermOf_c1_ih impl_check_Kimpl_Systemhas_Kimpl_isTermOf_c1_l0_ih ⟨t0,n1,clo2_0,clo3_0,d8,d9⟩ r h
  intro c hc
  refine WpL.step (K9o hc 1 [] [(85,.bool (decide (d9 < (t0.fKids.length : Int))))] (sN (ic h (fun e0 h => ?_) fun e0 h => ?_)))
  ·refine sk (sN (bk 2 ?_))
   obtain ⟨e1,e2,h⟩ := Qdt h
   refine rsd hc none [oN,eL (K1z e1),oN,nW 4,oN,oN] [85] [(13,I d9),(14,.ra 4 0)] [(1,K1y t0),(4,K1y e1)] (ai (Qdx e2 (K0o e1)) tv) ?_
   obtain ⟨e3,e4,e5,e6,h⟩ := bq2 h
   refine rsd hc (rx [[0],[0],[0],[0,2],[0],[0,2,3,4],[0,1,2,3,4,5],[0],[0],[0],[10],[11]]) (nN 5 ([oc (I e3)]++nN 4 [oc (I e5),oN])) [13,14,4] [(4,I e5)] [(1,K1y t0)] (cq (Kms _ _ e4) K7v (cq (impl_check_Kimpl_Systemhas_Kimpl_isTermOf_c1_ih _ _ e6) K7x tv)) (K9o hc 2 [] [(101,.bool (decide (e5 > 400)))] (ic h (fun e7 h => ?_) fun e7 h => ?_))
   ·obtain rfl := os h
    exact rs0 hc 1 [(10,I 401)] [] (rt (re [true]))
   exact sk (ri0 hc 2 (Qdb (impl_check_Kimpl_Systemhas_Kimpl_isTermOf_c1_l0_ih _ _ h c hc)))
  obtain rfl := os h
  exact xt 1 (Qd5 (Qdc (iv [])))
theorem Kmz : ∀ p r,Kmu p = some r → Kmw p r := Kmy.1
theorem Kn0 : ∀ p r,Kmv p = some r → Kmx p r := Kmy.2
def Kn1 (p : K00 × K01 × Int) : Option (Bool) :=
 match p with
 | (s0,t1,n2) =>
  ((
  (Kk6 (n2,0,8)) >>= fun a0 =>
  if a0 = true then
  (Kmu (t1,n2,s0,s0,0)) >>= fun a1 =>
  some ((decide (a1 ≤ 400)))
  else
  some (false)
  ) : Option (Bool)) >>= fun a2 =>
  some a2
def Kn2 (p : K00 × K01 × Int) (r : Bool) : Prop :=
 match p with
 | (s0,t1,n2) => Q75 Tryz.prog 172 [K1w s0,K1z t1,I n2] (.bool r) []
theorem Kn3 : ∀ p r,Kn1 p = some r → Kn2 p r := by
 rintro ⟨s0,t1,n2⟩ r h
 unfold Kn1 at h
 refine b0 Tryz.f172 K7y 18 [(0,K1w s0),(1,K1z t1),(2,I n2)] fun c hc => (rsd hc none [nW 1,nW 2,oN] [0,1] [(3,.ra 1 0),(4,.ra 2 0)] [(1,K1v s0),(2,K1y t1)] tv (sN ?_))
 obtain ⟨a0,a1,h⟩ := Qdt h
 refine Wp.into (x := .normal) (mkS [(6,.bool a0)] []) ?_ ?_
 ·replace h := a1
  obtain ⟨a2,a3,h⟩ := Qdt h
  rcases is h with ⟨a4,h⟩ | ⟨a4,h⟩
  ·obtain ⟨a5,a6,h⟩ := Qdt h
   obtain rfl := os h
   exact rj hc none ([oN,oc (.bool a2)]++nN 6 [oc (I a5),oN,oT,oN]) (cq (Kk8 _ _ a3) K6y (ar 6 a4 (ac (Kmz _ _ a6) K7x (Or.inr rfl : ([1] : List Nat) = [] ∨ noSh (I a5) = true) (ar 2 a4 tv))))
  obtain rfl := os h
  exact rj hc none ([oN,oc (.bool a2),oN]++n_ 7 [oF,oN]) (cq (Kk8 _ _ a3) K6y (ar 7 (neT a4) (ai a4 tv)))
 clear a1
 obtain rfl := os h
 exact rt (rq [true])
def Kn4 (c : Ctx) : LL → Exit → Q0a → Prop
 | a0 => Qdf c (.exit 0) (mkS [(3,.rs 3)] [(3,rM K14 a0)])
def Kn5 (p : (List Int) × LL × Int) : Option (LL) :=
 match p with
 | (ty0,a0,a1) =>
  if (decide (a1 < (ty0.length : Int))) = true then
  (Klr (ty0,a1)) >>= fun a2 =>
  (cut ty0 (some a1) (some a2) (some a2)) >>= fun a3 =>
  (Qe6 (a0.length + [a3].length) 24) >>= fun _ =>
  Kn5 (ty0,(a0 ++ [a3]),a2)
  else
  some (a0)
 partial_fixpoint
def Kn6 (p : (List Int) × LL × Int) (fl : LL) : Prop :=
 match p with
 | (ty0,a0,a1) => ∀ c : Ctx,c.nt = 23 → WpL Tryz.prog c (cl (cl (cr (cl (cr (cr K80)))))) (Kn4 c fl) (mkS [(0,sI ty0),(3,.rs 3),(4,I a1)] [(3,rM K14 a0)])
theorem Kn7 : ∀ p r,Kn5 p = some r → Kn6 p r := by
 refine Kn5.partial_correctness Kn6 ?_
 rintro impl_parts_l0_f impl_parts_l0_ih ⟨ty0,a0,a1⟩ r h
 intro c hc
 refine WpL.step (sN (K9n hc none [oN,oN,nQ ⟨[(8,I (ty0.length : Int))],[],[]⟩,oN] [] [(9,.bool (decide (a1 < (ty0.length : Int))))] (ai (Qdz (d := 8) I ty0) tv) (ic h (fun a2 h => ?_) fun a2 h => ?_)))
 ·refine sk (bk 1 ?_)
  obtain ⟨a3,a4,h⟩ := Qdt h
  refine K9n hc none [oN,oN,oc (I a3),oN] [9] [(5,I a3)] (cq (Klt _ _ a4) K7e tv) ?_
  obtain ⟨a5,a6,_,a7,h⟩ := bq2 h
  exact rsd hc none (nN 5 [nQ ⟨[(18,sI a5)],[],[]⟩,some (.mk 6 false),some (.eqv (.mk 7 true) ⟨[(20,.rs 7)],[(7,some (rM K14 (a0 ++ [a5]))),(3,none),(6,none)],[7]⟩),oN]) [3,4] [(3,.rs 7)] [(7,rM K14 (a0 ++ [a5]))] (ad (Qe2 (d := 18) I a6) (Qe1 (enc := I) (sz := 1) Qec a6) (congrArg (fun z => (⟨[(20,.rs 7)],[(7,some (.arr z)),(3,none),(6,none)],[7]⟩ : Wr)) ((List.map_append).symm : (List.map K14 a0) ++ (List.map K14 [a5]) = List.map K14 (a0 ++ [a5]))) (Qe7 (enc1 := K14) (enc2 := K14) (e1 := a0) (e2 := [a5]) (sz := 1) K17 K17 a7) tv) (K9h hc 2 [(0,sI ty0),(3,.rs 7),(4,I a3)] (Qdb (WpL.view (fun a w hv => SRx.renL [(3,7)] hv (by kernel_rfl) (by kernel_rfl) (by kernel_rfl)) (impl_parts_l0_ih _ _ h c hc))))
 obtain rfl := os h
 exact xt 0 (Qd5 (Qdc (iv [])))
def Kn8 (ty0 : (List Int)) : Option (LL) :=
 (Kn5 (ty0,[],1)) >>= fun a0 =>
 some a0
def Kn9 (ty0 : (List Int)) (r : LL) : Prop :=
 Q75 Tryz.prog 158 [sI ty0] (.osl (List.map K14 r)) []
theorem Kna : ∀ p r,Kn8 p = some r → Kn9 p r := by
 rintro ty0 r h
 unfold Kn8 at h
 refine b0 Tryz.f158 K80 23 [(0,sI ty0)] fun c hc => (K9m hc 1 [] [] [] (K9m hc 1 [] [(3,.nils)] [] (sN (rs0 hc 1 [(0,sI ty0),(3,.nils),(4,I 1)] [] (bk 0 ?_)))))
 obtain ⟨a0,a1,h⟩ := Qdt h
 have hL := Kn7 _ _ a1 c hc
 refine Wp.loopN (by kernel_rfl) (WpL.view (fun a w hv => SRx.renL [(3,8)] (SRx.nilTL 3 8 hv (by kernel_rfl) (by kernel_rfl)) (by kernel_rfl) (by kernel_rfl) (by kernel_rfl)) (?_ : WpL _ c _ _ (mkS [(0,sI ty0),(3,.rs 3),(4,I 1)] [(3,.arr (List.map K14 []))])))
 refine wl hL ?_
 obtain rfl := os h
 exact Qd7 (K9l hc 2 [(2,.rs 3)] (rt (rq [true])))
def Knb (p : K01 × Int × (List Int)) : Option (LL) :=
 match p with
 | (t0,kid1,first2) =>
  if (t0.fOp == 9) = true then
  some [t0.fType]
  else
  (Kmq (t0.fOp,kid1)) >>= fun a0 =>
  if (a0 == 0) = true then
  some []
  else
  (Kn8 first2) >>= fun a1 =>
  if (t0.fOp == 5) = true then
  (idx a1 1) >>= fun a2 =>
  (idx a1 0) >>= fun a3 =>
  some [a2,a3]
  else
  if (t0.fOp == 8) = true then
  (idx a1 (wr (kid1 - 1))) >>= fun a4 =>
  some [a4]
  else
  some a1
def Knc (p : K01 × Int × (List Int)) (r : LL) : Prop :=
 match p with
 | (t0,kid1,first2) => Q75 Tryz.prog 219 [K1z t0,I kid1,sI first2] (.osl (List.map K14 r)) []
theorem Knd : ∀ p r,Knb p = some r → Knc p r := by
 rintro ⟨t0,kid1,first2⟩ r h
 unfold Knb at h
 refine b0 Tryz.f219 K82 43 [(0,K1z t0),(1,I kid1),(2,sI first2)] fun c hc => (rsd hc none [nW 1,oN] [0] [(3,.ra 1 0)] [(1,K1y t0)] tv (sN (bk 0 (K9o hc 4 [] [(8,.bool (t0.fOp == 9))] (ic h (fun a0 h => ?_) fun a0 h => ?_)))))
 ·obtain rfl := os h
  exact rs hc none [oN,oN,some (.mk 2 false),oN] [(6,.rs 2)] [(2,.arr (List.map K14 [t0.fType]))] tv (rt (rq [true]))
 obtain ⟨a1,a2,h⟩ := Qdt h
 refine K9n hc none [oN,oN,oN,oc (I a1),oN,oN] [8] [(15,.bool (a1 == 0))] (cq (Kms _ _ a2) K7v tv) (ic h (fun a3 h => ?_) fun a3 h => ?_)
 ·obtain rfl := os h
  exact rs0 hc 1 [(6,.nils)] [] (rt (rq [true]))
 refine sk ?_
 obtain ⟨a4,a5,h⟩ := Qdt h
 refine rsd hc none [oN,some (.call (.osl (List.map K14 a4)) [] 3),oN] [15,2] [(7,.rs 3)] [(1,K1y t0),(3,rM K14 a4)] (cq (Kna _ _ a5) K81 tv) (sN (K9m hc 2 [3] [(24,I t0.fOp)] [(3,rM K14 a4)] (bk 1 (K9l hc 2 [(1,I kid1),(7,.rs 3),(24,I t0.fOp),(25,.bool (t0.fOp == 5))] (ic h (fun a6 h => ?_) fun a6 h => ?_)))))
 ·obtain ⟨a7,a8,a9,b1,h⟩ := bq2 h
  obtain rfl := os h
  exact rs hc (rx [[0],[1],[2],[0],[0,3],[0,3,4],[6],[7]]) [oN,oN,eL (sI a7),oN,oN,eL (sI a9),some (.mk 4 false),oN] [(6,.rs 4)] [(4,.arr (List.map K14 [a7,a9]))] (ad (Qdy (enc := K14) a8) (xL a8).2 (Qdy (enc := K14) b1) (xL b1).2 tv) (rt (rq [true]))
 refine K9o hc 2 [24,25] [(34,.bool (t0.fOp == 8))] (ic h (fun b2 h => ?_) fun b2 h => ?_)
 ·obtain ⟨b3,b4,h⟩ := Qdt h
  obtain rfl := os h
  exact rs hc none (nN 4 [eL (sI b3),some (.mk 5 false),oN]) [(6,.rs 5)] [(5,.arr (List.map K14 [b3]))] (ab (Qdy (enc := K14) b4) (xL b4).2 tv) (rt (rq [true]))
 obtain rfl := os h
 exact sk (K9l hc 2 [(6,.rs 3)] (rt (rq [true])))
def Kne (n1 : Int) : Option (Unit) :=
 if (decide (n1 < 0)) = true then
 none
 else
 if (decide ((wr (n1 - (wr (0 - 0)))) > 0)) = true then
 (chk (0 ≤ (wr (n1 - (wr (0 - 0)))) ∧ (Int.toNat (wr (n1 - (wr (0 - 0))))) * 24 ≤ 140737488355328)) >>= fun _ =>
 some ()
 else
 some ()
def Knf (n1 : Int) (r : Unit) : Prop :=
 Qa2 Tryz.prog 242 n1
theorem Kng : ∀ p r,Kne p = some r → Knf p r := by
 rintro n1 r h
 unfold Kne at h
 show Qa2 Tryz.prog 242 n1
 refine Qa2.of_body K3a (fn := Tryz.f242) (code := K84) (by kernel_rfl) (by kernel_rfl) (nt := 27) (by kernel_rfl) (by kernel_rfl) (fun c hc => ?_)
 refine rs0 hc 1 [(0,.nils),(1,I n1)] [] (sN (rs0 hc 2 [(0,.nils),(1,I n1),(6,.bool (decide (n1 < 0)))] [] (ic h (fun a0 h => ?_) fun a0 h => ?_)))
 ·cases h
 refine sk (sN (K9m hc 8 [1,6] [(1,I (wr (n1 - (wr (0 - 0)))))] [] (K9m hc 2 [] [(16,.bool (decide ((wr (n1 - (wr (0 - 0)))) > 0)))] [] (ic h (fun a1 h => ?_) fun a1 h => ?_))))
 ·obtain ⟨_,a2,h⟩ := Qdt h
  exact rg hc none (nN 5 [nW 1,oN,oN,nW 2,oN]) [(0,.rs 2)] [(2,.ary (List.map K14 []))] (ai (Qdv a2) tv) (K9l hc 2 [(4,.rs 2)] (rt (Qfc.ret (by kernel_rfl))))
 exact sk (rs0 hc 2 [(4,.nils)] [] (rt (Qfc.ret (by kernel_rfl))))
def Knh (c : Ctx) (slices0 : List LL) : Int → Exit → Q0a → Prop
 | a0 => Qdf c (.exit 0) (mkS [(0,sM K1q slices0),(3,I a0)] [])
def Kni (p : (List LL) × Int × Int) : Option (Int) :=
 match p with
 | (slices0,a0,a1) =>
  if (decide (a1 < (slices0.length : Int))) = true then
  (idx slices0 a1) >>= fun a2 =>
  ((
  if (decide ((wr (a0 + (a2.length : Int))) < 0)) = true then
  none
  else
  some (())
  ) : Option (Unit)) >>= fun () =>
  Kni (slices0,(wr (a0 + (a2.length : Int))),(wr (a1 + 1)))
  else
  some (a0)
 partial_fixpoint
def Knj (p : (List LL) × Int × Int) (fl : Int) : Prop :=
 match p with
 | (slices0,a0,a1) => ∀ c : Ctx,c.nt = 36 → WpL Tryz.prog c (cl (cl (cr (cl (cr (cr K86)))))) (Knh c slices0 fl) (mkS [(0,sM K1q slices0),(3,I a0),(9,sM K1q slices0),(10,I (slices0.length : Int)),(11,I a1)] [])
theorem Knk : ∀ p r,Kni p = some r → Knj p r := by
 refine Kni.partial_correctness Knj ?_
 rintro slices_Concat_Lint_l0_f slices_Concat_Lint_l0_ih ⟨slices0,a0,a1⟩ r h
 intro c hc
 refine WpL.step (K9m hc 1 [] [(12,.bool (decide (a1 < (slices0.length : Int))))] [] (sN (ic h (fun a2 h => ?_) fun a2 h => ?_)))
 ·refine sk (sN (bk 1 ?_))
  obtain ⟨a3,a4,h⟩ := Qdt h
  refine rsd hc none [eL (sL a3),oN,oN] [12] [(5,sL a3)] [] (ai (Qdx a4 (K1r a3)) tv) (rsd hc none [oN,oN,nQ ⟨[(17,I (a3.length : Int))],[],[]⟩,oN,oN] [5,3] [(3,I (wr (a0 + (a3.length : Int))))] [] (ai (Qdz (d := 17) K14 a3) tv) (rs0 hc 2 [(0,sM K1q slices0),(3,I (wr (a0 + (a3.length : Int)))),(9,sM K1q slices0),(10,I (slices0.length : Int)),(11,I a1),(20,.bool (decide ((wr (a0 + (a3.length : Int))) < 0)))] [] ?_))
  obtain ⟨⟨⟩,a5,h⟩ := Qdt h
  refine wi [20] [] ?_ ?_
  ·replace h := a5
   refine ic h (fun a6 h => ?_) fun a6 h => ?_
   ·cases h
   exact sk (iv [])
  clear a5
  exact ri0 hc 2 (Qdb (slices_Concat_Lint_l0_ih _ _ h c hc))
 obtain rfl := os h
 exact xt 0 (Qd5 (Qdc (iv [])))
def Knl (c : Ctx) : LL → Exit → Q0a → Prop
 | a0 => Qdf c (.exit 2) (mkS [(6,.rs 1)] [(1,.ary (List.map K14 a0))])
def Knm (p : (List LL) × LL × Int) : Option (LL) :=
 match p with
 | (slices0,a0,a1) =>
  if (decide (a1 < (slices0.length : Int))) = true then
  (idx slices0 a1) >>= fun a2 =>
  (Qe6 (a0.length + a2.length) 24) >>= fun _ =>
  Knm (slices0,(a0 ++ a2),(wr (a1 + 1)))
  else
  some (a0)
 partial_fixpoint
def Knn (p : (List LL) × LL × Int) (fl : LL) : Prop :=
 match p with
 | (slices0,a0,a1) => ∀ c : Ctx,c.nt = 36 → WpL Tryz.prog c (cl (cl (cr (cl (cr (cr (cr (cr K86)))))))) (Knl c fl) (mkS [(6,.rs 1),(25,sM K1q slices0),(26,I (slices0.length : Int)),(27,I a1)] [(1,.ary (List.map K14 a0))])
theorem Kno : ∀ p r,Knm p = some r → Knn p r := by
 refine Knm.partial_correctness Knn ?_
 rintro slices_Concat_Lint_l1_f slices_Concat_Lint_l1_ih ⟨slices0,a0,a1⟩ r h
 intro c hc
 refine WpL.step (K9o hc 1 [] [(28,.bool (decide (a1 < (slices0.length : Int))))] (sN (ic h (fun a2 h => ?_) fun a2 h => ?_)))
 ·refine sk (sN (bk 3 ?_))
  obtain ⟨a3,a4,h⟩ := Qdt h
  refine K9n hc none [eL (sL a3),oN,oN] [28] [(8,sL a3)] (ai (Qdx a4 (K1r a3)) tv) ?_
  obtain ⟨_,a5,h⟩ := Qdt h
  exact rgd hc none [oN,oN,some (.eqv (.new 3) ⟨[(33,.rs 3)],[(3,some (.ary (List.map K14 (a0 ++ a3)))),(1,none)],[3]⟩),oN] [8,6] [(6,.rs 3)] [(3,.ary (List.map K14 (a0 ++ a3)))] (ab (congrArg (fun z => (⟨[(33,.rs 3)],[(3,some (.ary z)),(1,none)],[3]⟩ : Wr)) ((List.map_append).symm : (List.map K14 a0) ++ (List.map K14 a3) = List.map K14 (a0 ++ a3))) (Qff (enc := K14) (e1 := a0) (e2 := a3) (fun _ => rfl) a5) tv) (K9h hc 2 [(6,.rs 3),(25,sM K1q slices0),(26,I (slices0.length : Int)),(27,I (wr (a1 + 1)))] (Qdb (WpL.view (fun a w hv => SRx.renL [(1,3)] hv (by kernel_rfl) (by kernel_rfl) (by kernel_rfl)) (slices_Concat_Lint_l1_ih _ _ h c hc))))
 obtain rfl := os h
 exact xt 2 (Qd5 (Qdc (iv [])))
def Knp (slices0 : (List LL)) : Option (LL) :=
 (Kni (slices0,0,0)) >>= fun a0 =>
 (Kne a0) >>= fun _ =>
 (Knm (slices0,[],0)) >>= fun a1 =>
 some a1
def Knq (slices0 : (List LL)) (r : LL) : Prop :=
 Q75 Tryz.prog 220 [sM K1q slices0] (sL r) []
theorem Knr : ∀ p r,Knp p = some r → Knq p r := by
 rintro slices0 r h
 unfold Knp at h
 refine b0 Tryz.f220 K86 36 [(0,sM K1q slices0)] fun c hc => (K9m hc 1 [] [] [] (K9m hc 1 [] [(3,I 0)] [] (sN (rs hc none [oN,nQ ⟨[(10,I (slices0.length : Int))],[],[]⟩,oN] [(0,sM K1q slices0),(3,I 0),(9,sM K1q slices0),(10,I (slices0.length : Int)),(11,I 0)] [] (ai (Qdz (d := 10) K1q slices0) tv) (bk 0 ?_)))))
 obtain ⟨a0,a1,h⟩ := Qdt h
 have hL := Knk _ _ a1 c hc
 refine lp (wl hL (Qd7 ?_))
 obtain ⟨_,a2,h⟩ := Qdt h
 refine rsd hc none [oN,nW 1,oN] [3] [(6,.rs 1)] [(1,.ary (List.map K14 []))] (ab (Kng _ _ a2) K85 tv) (sN (rss hc none [oN,nQ ⟨[(26,I (slices0.length : Int))],[],[]⟩,oN] [(6,.rs 1),(25,sM K1q slices0),(26,I (slices0.length : Int)),(27,I 0)] (ai (Qdz (d := 26) K1q slices0) tv) (bk 2 ?_)))
 obtain ⟨a3,a4,h⟩ := Qdt h
 have hL := Kno _ _ a4 c hc
 refine lp (wl hL (Qd7 (K9l hc 2 [(2,.rs 1)] (Wp.view (fun a w hv => SRx.frzYL 1 (xs := List.map K14 a3) hv (by kernel_rfl) (by kernel_rfl) (by kernel_rfl)) (?_ : Wp Tryz.prog c _ _ (mkS [(2,sL a3)] []))))))
 obtain rfl := os h
 exact rt (rq [false])
def Kns : Option (List (List Nat)) := rx [[0],[0],[0],[0],[0],[0,3,4],[0,3,4,5],[0],[0],[0,7,8],[0,7,8,9],[0,2,3,4,5,6,7,8,9,10],[12],[13]]
def Knt (p : K06 × K01 × Int × (List Int)) : Option (Int) :=
 match p with
 | (p0,t1,kid2,ty3) =>
  (idx ty3 0) >>= fun a0 =>
  (Klo a0) >>= fun (a1,a2) =>
  ((
  if (t1.fOp == 2) = true then
  some ((t1.fOp == 2))
  else
  ((
  if (t1.fOp == 3) = true then
  some ((kid2 == 0))
  else
  some (false)
  ) : Option (Bool)) >>= fun a3 =>
  some (a3)
  ) : Option (Bool)) >>= fun a4 =>
  ((
  if a4 = true then
  some ((0,2))
  else
  ((
  if (t1.fOp == 5) = true then
  some ((kid2 == 0))
  else
  some (false)
  ) : Option (Bool)) >>= fun a5 =>
  ((
  if a5 = true then
  some ((1,4))
  else
  ((
  if (t1.fOp == 8) = true then
  some ((kid2 == 0))
  else
  some (false)
  ) : Option (Bool)) >>= fun a6 =>
  ((
  if a6 = true then
  some ((2,5))
  else
  ((
  if (t1.fOp == 10) = true then
  some ((kid2 == 0))
  else
  some (false)
  ) : Option (Bool)) >>= fun a7 =>
  ((
  if a7 = true then
  some ((3,6))
  else
  ((
  if (t1.fOp == 12) = true then
  some ((kid2 == 0))
  else
  some (false)
  ) : Option (Bool)) >>= fun a8 =>
  ((
  if a8 = true then
  some ((4,7))
  else
  some (((-1),0))
  ) : Option (Int × Int)) >>= fun (a9,b1) =>
  some ((a9,b1))
  ) : Option (Int × Int)) >>= fun (b2,b3) =>
  some ((b2,b3))
  ) : Option (Int × Int)) >>= fun (b4,b5) =>
  some ((b4,b5))
  ) : Option (Int × Int)) >>= fun (b6,b7) =>
  some ((b6,b7))
  ) : Option (Int × Int)) >>= fun (b8,b9) =>
  ((
  if (decide (b8 ≥ 0)) = true then
  some ((a1 != b8))
  else
  some (false)
  ) : Option (Bool)) >>= fun c0 =>
  if c0 = true then
  some b9
  else
  ((
  if (kid2 == 0) = true then
  if (t1.fOp == 5) = true then
  (Kki (p0.fs,1,t1.fN)) >>= fun c1 =>
  some ((!c1))
  else
  if (t1.fOp == 8) = true then
  (Kki (p0.fs,1,t1.fN)) >>= fun c1 =>
  some ((!c1))
  else
  if (t1.fOp == 12) = true then
  (Kki (p0.fs,1,t1.fN)) >>= fun c1 =>
  some ((!c1))
  else
  some (false)
  else
  some (false)
  ) : Option (Bool)) >>= fun c2 =>
  if c2 = true then
  some 8
  else
  some 0
def Knu (p : K06 × K01 × Int × (List Int)) (r : Int) : Prop :=
 match p with
 | (p0,t1,kid2,ty3) => Q75 Tryz.prog 221 [K2b p0,K1z t1,I kid2,sI ty3] (I r) []
theorem Knv : ∀ p r,Knt p = some r → Knu p r := by
 rintro ⟨p0,t1,kid2,ty3⟩ r h
 unfold Knt at h
 refine b0 Tryz.f221 K8a 96 [(0,K2b p0),(1,K1z t1),(2,I kid2),(3,sI ty3)] fun c hc => (rsd hc none [nW 1,nW 2,oN] [0,1] [(4,.ra 1 0),(5,.ra 2 0)] [(1,K2a p0),(2,K1y t1)] tv ?_)
 obtain ⟨a0,a1,⟨a2,a3⟩,a4,h⟩ := bq2 h
 refine K9n hc none ([oN,eL (I a0),oN,oc (.tup [I a2,I a3])]++nN 5 []) [3] [(9,I a2)] (ai (ix a1) (cq (Klq _ _ a4) K7c tv)) (K9o hc 2 [] [(11,I (-1)),(12,I 0)] (sN (bk 0 (sN (K9o hc 4 [] [(20,.bool (t1.fOp == 2))] ?_)))))
 obtain ⟨a5,a6,h⟩ := Qdt h
 refine wi [20] [(20,.bool a5)] ?_ ?_
 ·replace h := a6
  refine ic h (fun a7 h => ?_) fun a7 h => ?_
  ·obtain rfl := os h
   exact sk im
  obtain ⟨a8,a9,h⟩ := Qdt h
  refine wi [20] [(20,.bool a8)] ?_ ?_
  ·replace h := a9
   rcases is h with ⟨b1,h⟩ | ⟨b1,h⟩
   ·obtain rfl := os h
    exact rj hc none (nN 6 [oT,oN]) (ar 3 b1 tv)
   obtain rfl := os h
   exact rj hc none (nN 4 [o_,o_,oF,oN]) (ar 2 (neT b1) (ai b1 tv))
  clear a9
  obtain rfl := os h
  exact im
 clear a6
 obtain ⟨⟨b2,b3⟩,b4,h⟩ := Qdt h
 refine Wp.into (x := .normal) (mkS [(2,I kid2),(4,.ra 1 0),(5,.ra 2 0),(9,I a2),(11,I b2),(12,I b3)] [(1,K2a p0),(2,K1y t1)]) ?_ ?_
 ·replace h := b4
  refine ic h (fun b5 h => ?_) fun b5 h => ?_
  ·obtain ⟨rfl,rfl⟩ := Prod.mk.inj (os h)
   exact rj0 hc 2
  refine sN ?_
  obtain ⟨b6,b7,h⟩ := Qdt h
  refine Wp.into (x := .normal) (mkS [(2,I kid2),(4,.ra 1 0),(5,.ra 2 0),(9,I a2),(11,I (-1)),(12,I 0),(31,.bool b6)] [(1,K2a p0),(2,K1y t1)]) ?_ ?_
  ·replace h := b7
   rcases is h with ⟨b8,h⟩ | ⟨b8,h⟩
   ·obtain rfl := os h
    exact rj hc none (nN 6 [oT,oN]) (ar 3 b8 tv)
   obtain rfl := os h
   exact rj hc none (nN 4 [o_,o_,oF,oN]) (ar 2 (neT b8) (ai b8 tv))
  clear b7
  obtain ⟨⟨b9,c0⟩,c1,h⟩ := Qdt h
  refine wi [11,12,31] [(11,I b9),(12,I c0)] ?_ ?_
  ·replace h := c1
   refine ic h (fun c2 h => ?_) fun c2 h => ?_
   ·obtain ⟨rfl,rfl⟩ := Prod.mk.inj (os h)
    exact rj0 hc 2
   refine sN ?_
   obtain ⟨c3,c4,h⟩ := Qdt h
   refine wi [31] [(39,.bool c3)] ?_ ?_
   ·replace h := c4
    rcases is h with ⟨c5,h⟩ | ⟨c5,h⟩
    ·obtain rfl := os h
     exact rj hc none (nN 6 [oT,oN]) (ar 3 c5 tv)
    obtain rfl := os h
    exact rj hc none (nN 4 [o_,o_,oF,oN]) (ar 2 (neT c5) (ai c5 tv))
   clear c4
   obtain ⟨⟨c6,c7⟩,c8,h⟩ := Qdt h
   refine wi [39,11,12] [(11,I c6),(12,I c7)] ?_ ?_
   ·replace h := c8
    refine ic h (fun c9 h => ?_) fun c9 h => ?_
    ·obtain ⟨rfl,rfl⟩ := Prod.mk.inj (os h)
     exact rj0 hc 2
    refine sN ?_
    obtain ⟨d0,d1,h⟩ := Qdt h
    refine wi [39] [(47,.bool d0)] ?_ ?_
    ·replace h := d1
     rcases is h with ⟨d2,h⟩ | ⟨d2,h⟩
     ·obtain rfl := os h
      exact rj hc none (nN 6 [oT,oN]) (ar 3 d2 tv)
     obtain rfl := os h
     exact rj hc none (nN 4 [o_,o_,oF,oN]) (ar 2 (neT d2) (ai d2 tv))
    clear d1
    obtain ⟨⟨d3,d4⟩,d5,h⟩ := Qdt h
    refine wi [47,11,12] [(11,I d3),(12,I d4)] ?_ ?_
    ·replace h := d5
     refine ic h (fun d6 h => ?_) fun d6 h => ?_
     ·obtain ⟨rfl,rfl⟩ := Prod.mk.inj (os h)
      exact rj0 hc 2
     refine sN ?_
     obtain ⟨d7,d8,h⟩ := Qdt h
     refine wi [47] [(55,.bool d7)] ?_ ?_
     ·replace h := d8
      rcases is h with ⟨d9,h⟩ | ⟨d9,h⟩
      ·obtain rfl := os h
       exact rj hc none (nN 6 [oT,oN]) (ar 3 d9 tv)
      obtain rfl := os h
      exact rj hc none (nN 4 [o_,o_,oF,oN]) (ar 2 (neT d9) (ai d9 tv))
     clear d8
     obtain ⟨⟨e0,e1⟩,e2,h⟩ := Qdt h
     refine wi [55,11,12] [(11,I e0),(12,I e1)] ?_ ?_
     ·replace h := e2
      refine ic h (fun e3 h => ?_) fun e3 h => ?_
      ·obtain ⟨rfl,rfl⟩ := Prod.mk.inj (os h)
       exact rj0 hc 2
      refine sk ?_
      obtain ⟨rfl,rfl⟩ := Prod.mk.inj (os h)
      exact iv []
     clear e2
     obtain ⟨rfl,rfl⟩ := Prod.mk.inj (os h)
     exact im
    clear d5
    obtain ⟨rfl,rfl⟩ := Prod.mk.inj (os h)
    exact im
   clear c8
   obtain ⟨rfl,rfl⟩ := Prod.mk.inj (os h)
   exact im
  clear c1
  obtain ⟨rfl,rfl⟩ := Prod.mk.inj (os h)
  exact im
 clear b4
 refine sN (sN ?_)
 obtain ⟨e4,e5,h⟩ := Qdt h
 refine wi [9,11] [(69,.bool e4)] ?_ ?_
 ·replace h := e5
  rcases is h with ⟨e6,h⟩ | ⟨e6,h⟩
  ·obtain rfl := os h
   exact rj hc none (nN 6 [oT]) (ar 4 e6 tv)
  obtain rfl := os h
  exact rj hc none [oN,oN,oN,o_,o_,o_,oF] (ar 3 (neT e6) (ai e6 tv))
 clear e5
 refine ic h (fun e7 h => ?_) fun e7 h => ?_
 ·obtain rfl := os h
  exact rs0 hc 2 [(8,I b3)] [] (rt (rq [true]))
 refine sk (sN (sN ?_))
 obtain ⟨e8,e9,h⟩ := Qdt h
 refine Wp.into (x := .normal) (mkS [(95,.bool e8)] []) ?_ ?_
 ·replace h := e9
  rcases is h with ⟨f0,h⟩ | ⟨f0,h⟩
  ·rcases is h with ⟨f1,h⟩ | ⟨f1,h⟩
   ·obtain ⟨f2,f3,h⟩ := Qdt h
    obtain rfl := os h
    exact rj hc none (nN 7 ([o_,o_,o_,oT,oN,o_,o_,o_,oT,oT]++nN 5 [oc (.bool f2),oN,oT])) (ar 4 f0 (ar 3 (neF f1) (ac f0 f1 f0 (ar 3 nf (ac f0 tt f0 (ar 5 tt (cq (Kkk _ _ f3) K75 (ar 2 tt tv))))))))
   rcases is h with ⟨f4,h⟩ | ⟨f4,h⟩
   ·obtain ⟨f2,f3,h⟩ := Qdt h
    obtain rfl := os h
    exact rj hc none (nN 10 ([oF,oN,o_,o_,o_,oT,oT]++nN 5 [oc (.bool f2),oN,oT])) (ar 4 f0 (ar 3 f1 (ac f0 f1 f0 (ar 3 (neF f4) (ac f0 f4 f0 (ar 5 tt (cq (Kkk _ _ f3) K75 (ar 2 tt tv))))))))
   rcases is h with ⟨f5,h⟩ | ⟨f5,h⟩
   ·obtain ⟨f2,f3,h⟩ := Qdt h
    obtain rfl := os h
    exact rj hc none (nN 10 ([oF]++nN 4 ([oF,oT]++nN 5 [oc (.bool f2),oN,oT]))) (ar 4 f0 (ar 3 f1 (ac f0 f1 f0 (ar 3 f4 (ac f0 f4 f0 (ar 5 f5 (cq (Kkk _ _ f3) K75 (ar 2 f5 tv))))))))
   obtain rfl := os h
   exact rj hc none (nN 10 ([oF]++nN 4 ([oF,oT,oN]++n_ 6 [oF]))) (ar 4 f0 (ar 3 f1 (ac f0 f1 f0 (ar 3 f4 (ac f0 f4 f0 (ar 6 (neT f5) (ai f5 tv)))))))
  obtain rfl := os h
  exact rj hc none ([oN,oN,oN]++n_ 13 ([oF,oN]++n_ 6 [oF])) (ar 7 (neT f0) (ai f0 (ar 6 (neT fF) (ai fF tv))))
 clear e9
 refine ic h (fun f6 h => ?_) fun f6 h => ?_
 ·obtain rfl := os h
  exact rs0 hc 1 [(8,I 8)] [] (rt (rq [true]))
 obtain rfl := os h
 exact sk (rs0 hc 1 [(8,I 0)] [] (rt (rq [true])))
def Knw (c : Ctx) : (Unit) ⊕ (Bool) → Exit → Q0a → Prop
 | .inl _ => Qdf c (.exit 0) (mkS [] [])
 | .inr r => Qdo TIx Tryz.f144 [] (.bool r)
def Knx (p : (List Int) × (List Int) × Int) : Option ((Unit) ⊕ (Bool)) :=
 match p with
 | (s10,s21,a0) =>
  if (decide (a0 < (s10.length : Int))) = true then
  (idx s10 a0) >>= fun a1 =>
  (idx s21 a0) >>= fun a2 =>
  if (a1 != a2) = true then
  some (.inr false)
  else
  Knx (s10,s21,(wr (a0 + 1)))
  else
  some (.inl ())
 partial_fixpoint
def Kny (p : (List Int) × (List Int) × Int) (fl : (Unit) ⊕ (Bool)) : Prop :=
 match p with
 | (s10,s21,a0) => ∀ c : Ctx,c.nt = 26 → WpL Tryz.prog c (cl (cl (cr (cl (cr (cr K8c)))))) (Knw c fl) (mkS [(0,sI s10),(1,sI s21),(12,I (s10.length : Int)),(13,I a0)] [])
theorem Knz : ∀ p r,Knx p = some r → Kny p r := by
 refine Knx.partial_correctness Kny ?_
 rintro slices_Equal_int_l0_f slices_Equal_int_l0_ih ⟨s10,s21,a0⟩ r h
 intro c hc
 refine WpL.step (K9m hc 1 [] [(14,.bool (decide (a0 < (s10.length : Int))))] [] (sN (ic h (fun a1 h => ?_) fun a1 h => ?_)))
 ·refine sk (sN (bk 1 (K9m hc 2 [14] [(5,I a0)] [] ?_)))
  obtain ⟨a2,a3,a4,a5,h⟩ := bq2 h
  refine rsd hc (rx [[0],[0],[2],[3],[0],[0],[0,4,5],[0,4,5,6],[8]]) [oN,oN,eL (I a2),oN,oN,oN,eL (I a4),oN,oN] [5] [(24,.bool (a2 != a4))] [] (ab (ix a3) (ix a5) tv) (ic h (fun a6 h => ?_) fun a6 h => ?_)
  ·obtain rfl := os h
   exact rs0 hc 1 [(4,.bool false)] [] (rt (re [true]))
  exact sk (ri0 hc 2 (Qdb (slices_Equal_int_l0_ih _ _ h c hc)))
 obtain rfl := os h
 exact xt 0 (Qd5 (Qdc (iv [])))
def Ko0 (p : (List Int) × (List Int)) : Option (Bool) :=
 match p with
 | (s10,s21) =>
  if ((s10.length : Int) != (s21.length : Int)) = true then
  some false
  else
  (Knx (s10,s21,0)) >>= fun fl => match fl with
  | .inl () =>
   some true
  | .inr r =>
   some r
def Ko1 (p : (List Int) × (List Int)) (r : Bool) : Prop :=
 match p with
 | (s10,s21) => Q75 Tryz.prog 144 [sI s10,sI s21] (.bool r) []
theorem Ko2 : ∀ p r,Ko0 p = some r → Ko1 p r := by
 rintro ⟨s10,s21⟩ r h
 unfold Ko0 at h
 refine b0 Tryz.f144 K8c 26 [(0,sI s10),(1,sI s21)] fun c hc => (K9m hc 1 [] [] [] (sN (rsd hc none [oN,nQ ⟨[(7,I (s10.length : Int))],[],[]⟩,oN,nQ ⟨[(9,I (s21.length : Int))],[],[]⟩,oN] [] [(10,.bool ((s10.length : Int) != (s21.length : Int)))] [] (ab (Qdz (d := 7) I s10) (Qdz (d := 9) I s21) tv) (ic h (fun a0 h => ?_) fun a0 h => ?_))))
 ·obtain rfl := os h
  exact rs0 hc 1 [(4,.bool false)] [] (rt (rq [true]))
 refine sk (sN (rs hc none [oN,nQ ⟨[(12,I (s10.length : Int))],[],[]⟩,oN] [(0,sI s10),(1,sI s21),(12,I (s10.length : Int)),(13,I 0)] [] (ai (Qdz (d := 12) I s10) tv) (bk 0 ?_)))
 obtain ⟨fl,a1,h⟩ := Qdt h
 have hL := Knz _ _ a1 c hc
 refine lp ?_
 rcases fl with ⟨⟩ | r
 ·refine wl hL ?_
  obtain rfl := os h
  exact Qd7 (rs0 hc 1 [(4,.bool true)] [] (rt (rq [true])))
 refine WpL.mono hL ?_
 rintro _ _ ⟨rfl,hfin⟩
 obtain rfl := os h
 exact ⟨.inl rfl,hfin⟩
def Ko3 (s0 : (List Int)) : Option ((List Int)) :=
 (Qe6 (([] : List Int).length + s0.length) 8) >>= fun _ =>
 some s0
def Ko4 (s0 : (List Int)) (r : (List Int)) : Prop :=
 Q75 Tryz.prog 88 [sI s0] (oI r) []
theorem Ko5 : ∀ p r,Ko3 p = some r → Ko4 p r := by
 rintro s0 r h
 unfold Ko3 at h
 refine b0 Tryz.f88 B88 8 [(0,sI s0)] fun c hc => (K9m hc 1 [] [] [] (sN (rs0 hc 2 [(0,sI s0),(4,.nilq (List.map I s0))] [] (Wp.condNil (xs := List.map I s0) (by kernel_rfl) (by kernel_rfl) (fun hn => ?_) ?_))))
 ·replace hn := List.map_eq_nil_iff.1 hn
  replace h : (some []) = some r := by rw [hn] at h; simpa [Qe6,chk] using h
  obtain rfl := os h
  exact rs0 hc 1 [(2,.nils)] [] (rt (rq [true]))
 refine sk ?_
 obtain ⟨_,a0,h⟩ := Qdt h
 obtain rfl := os h
 exact rs hc none [mK 1,oN,some (.eqv (.mk 2 true) ⟨[(7,.rs 2)],[(2,some (rI s0)),(1,none)],[2]⟩),oN] [(2,.rs 2)] [(2,rI s0)] (ab (congrArg (fun z => (⟨[(7,.rs 2)],[(2,some (.arr z)),(1,none)],[2]⟩ : Wr)) (List.nil_append _ : [] ++ (List.map I s0) = List.map I s0)) (Qe7 (enc1 := I) (enc2 := I) (e1 := []) (e2 := s0) (sz := 1) Qeg Qeg a0) tv) (rt (rq [true]))
def Ko6 (c : Ctx) : (List Int) → Exit → Q0a → Prop
 | a0 => Qdf c (.exit 0) (mkS [(9,.rs 2)] [(2,rI a0)])
def Ko7 (p : K00 × (List Int) × (List Int) × (List Int) × Int) : Option ((List Int)) :=
 match p with
 | (clo1_0,a2,b3,a0,a1) =>
  if (decide (a1 < (a2.length : Int))) = true then
  (idx a2 a1) >>= fun a3 =>
  (idx b3 a1) >>= fun a4 =>
  (Kkc (clo1_0,a3,a4)) >>= fun a5 =>
  (idx a0 a1) >>= fun a6 =>
  Ko7 (clo1_0,a2,b3,(List.set a0 (Int.toNat a1) a5),(wr (a1 + 1)))
  else
  some (a0)
 partial_fixpoint
def Ko8 (p : K00 × (List Int) × (List Int) × (List Int) × Int) (fl : (List Int)) : Prop :=
 match p with
 | (clo1_0,a2,b3,a0,a1) => ∀ c : Ctx,c.nt = 34 → WpL Tryz.prog c (cl (cl (cr (cl (cr (cr K8f)))))) (Ko6 c fl) (mkS [(1,.fnb 160 [K1w clo1_0]),(2,sI a2),(3,sI b3),(9,.rs 2),(15,I (a2.length : Int)),(16,I a1)] [(2,rI a0)])
theorem Ko9 : ∀ p r,Ko7 p = some r → Ko8 p r := by
 refine Ko7.partial_correctness Ko8 ?_
 rintro impl_typerboth_Kimpl_Systemplus_l0_f impl_typerboth_Kimpl_Systemplus_l0_ih ⟨clo1_0,a2,b3,a0,a1⟩ r h
 intro c hc
 refine WpL.step (K9o hc 1 [] [(17,.bool (decide (a1 < (a2.length : Int))))] (sN (ic h (fun a3 h => ?_) fun a3 h => ?_)))
 ·refine sk (sN (bk 1 (K9o hc 2 [17] [(10,I a1)] ?_)))
  obtain ⟨a4,a5,a6,a7,a8,a9,b1,b2,h⟩ := bq4 h
  exact rgd hc Kns (nN 5 [eL (I a4),oN,oN,oN,eL (I a6),oN,oc (I a8),oN,some (.eqv (.mk 0 true) ⟨[],[(2,some (.arr (List.map I (List.set a0 (Int.toNat a1) a8))))],[]⟩)]) [10] [] [(2,.arr (List.map I (List.set a0 (Int.toNat a1) a8)))] (ab (ix a5) (ix a7) (cq (Kke _ _ a9) K72 (ac (Qdy (enc := I) b2) (congrArg (fun z => (⟨[],[(2,some (.arr z))],[]⟩ : Wr)) (Qew (enc := I) (i := Int.toNat a1) (l := a0) (v := a8) (x := I a8) (Qe8 a8))) (Qex (enc := I) (sz := 1) Qec b2) tv))) (ri0 hc 2 (Qdb (impl_typerboth_Kimpl_Systemplus_l0_ih _ _ h c hc)))
 obtain rfl := os h
 exact xt 0 (Qd5 (Qdc (iv [])))
def Koa (p : K06 × K00 × (List Int) × (List Int)) : Option ((List Int)) :=
 match p with
 | (p0,clo1_0,a2,b3) =>
  (chk (0 ≤ (a2.length : Int) ∧ (Int.toNat (a2.length : Int)) * 8 ≤ 140737488355328)) >>= fun _ =>
  (Ko7 (clo1_0,a2,b3,(List.replicate (Int.toNat (a2.length : Int)) 0),0)) >>= fun a0 =>
  some a0
def Kob (p : K06 × K00 × (List Int) × (List Int)) (r : (List Int)) : Prop :=
 match p with
 | (p0,clo1_0,a2,b3) => Q75 Tryz.prog 254 [K2b p0,.fnb 160 [K1w clo1_0],sI a2,sI b3] (oI r) []
theorem Koc : ∀ p r,Koa p = some r → Kob p r := by
 rintro ⟨p0,clo1_0,a2,b3⟩ r h
 unfold Koa at h
 refine b0 Tryz.f254 K8f 34 [(0,K2b p0),(1,.fnb 160 [K1w clo1_0]),(2,sI a2),(3,sI b3)] fun c hc => (rsd hc none [nW 1,oN] [0] [] [] tv ?_)
 obtain ⟨_,a0,h⟩ := Qdt h
 refine rsd hc none [oN,nQ ⟨[(12,I (a2.length : Int))],[],[]⟩,some (.eqv (.mk 2 true) ⟨[(13,.rs 2)],[(2,some (.arr (List.map I (List.replicate (Int.toNat (a2.length : Int)) 0))))],[2]⟩),oN] [] [(9,.rs 2)] [(2,.arr (List.map I (List.replicate (Int.toNat (a2.length : Int)) 0)))] (ac (Qdz (d := 12) I a2) (congrArg (fun z => (⟨[(13,.rs 2)],[(2,some (.arr z))],[2]⟩ : Wr)) (Qey (enc := I) (n := Int.toNat (a2.length : Int)) (x := I 0) (Qe8 0))) (And.intro (Eq.refl (a2.length : Int)) (Qdv a0)) tv) (sN (rss hc none [oN,nQ ⟨[(15,I (a2.length : Int))],[],[]⟩,oN] [(1,.fnb 160 [K1w clo1_0]),(2,sI a2),(3,sI b3),(9,.rs 2),(15,I (a2.length : Int)),(16,I 0)] (ai (Qdz (d := 15) I a2) tv) (bk 0 ?_)))
 obtain ⟨a1,a3,h⟩ := Qdt h
 have hL := Ko9 _ _ a3 c hc
 refine lp (wl hL ?_)
 obtain rfl := os h
 exact Qd7 (K9l hc 2 [(8,.rs 2)] (rt (rq [true])))
def Kod (p : K06 × (List Int) × (List Int)) : Option ((List Int)) :=
 match p with
 | (p0,a1,b2) =>
  (Koa (p0,p0.fs,a1,b2)) >>= fun a0 =>
  some a0
def Koe (p : K06 × (List Int) × (List Int)) (r : (List Int)) : Prop :=
 match p with
 | (p0,a1,b2) => Q75 Tryz.prog 244 [K2b p0,sI a1,sI b2] (oI r) []
theorem Kof : ∀ p r,Kod p = some r → Koe p r := by
 rintro ⟨p0,a1,b2⟩ r h
 unfold Kod at h
 refine b0 Tryz.f244 K8h 14 [(0,K2b p0),(1,sI a1),(2,sI b2)] fun c hc => (rsd hc none [nW 1,oN] [0] [(3,.ra 1 0)] [(1,K2a p0)] tv ?_)
 obtain ⟨a0,a2,h⟩ := Qdt h
 obtain rfl := os h
 exact rs hc none (nN 6 [some (.call (oI a0) [] 2),oN]) [(6,.rs 2)] [(2,rI a0)] (cq (Koc _ _ a2) K8g tv) (rt (rq [true]))
def Kog (p : Int × K04) : Option ((List Int)) :=
 match p with
 | (i0,cap0) =>
  (idx cap0.fkids i0) >>= fun a0 =>
  some a0.fty
def Koh (p : Int × K04) (r : (List Int)) : Prop :=
 match p with
 | (i0,cap0) => Qag Tryz.prog 243 i0 [sI cap0.fty,sI cap0.fneeds,sM K07 cap0.fkids,I cap0.ffault,sI cap0.fpath] (sI r)
theorem Koi : ∀ p r,Kog p = some r → Koh p r := by
 rintro ⟨i0,cap0⟩ r h
 unfold Kog at h
 show Qag Tryz.prog 243 i0 [sI cap0.fty,sI cap0.fneeds,sM K07 cap0.fkids,I cap0.ffault,sI cap0.fpath] (sI r)
 refine Qag.of_body K3a (fn := Tryz.f243) (code := K8j) (by kernel_rfl) (by kernel_rfl) rfl rfl (nt := 14) (by kernel_rfl) (by kernel_rfl) (fun c hc => ?_)
 refine K9l hc 1 [(0,I i0),(1,.ra 1000 0)] ?_
 obtain ⟨a0,a1,h⟩ := Qdt h
 obtain rfl := os h
 exact rss hc none (nN 5 ([eL (.ptr [sI a0.fty,sI a0.fneeds,sM K07 a0.fkids,I a0.ffault,sI a0.fpath] 0)]++nN 5 [])) [(3,sI a0.fty)] (ai (Qdx (enc := K07) (x := .ptr [sI a0.fty,sI a0.fneeds,sM K07 a0.fkids,I a0.ffault,sI a0.fpath] 0) a1 (K0a a0)) tv) (rt (Qfg.ret (by kernel_rfl)))
def Koj (c : Ctx) : (List Int) → Exit → Q0a → Prop
 | a0 => Qdf c (.exit 0) (mkS [(9,.rs 2)] [(2,rI a0)])
def Kok (p : K00 × (List Int) × (List Int) × (List Int) × Int) : Option ((List Int)) :=
 match p with
 | (clo1_0,a2,b3,a0,a1) =>
  if (decide (a1 < (a2.length : Int))) = true then
  (idx a2 a1) >>= fun a3 =>
  (idx b3 a1) >>= fun a4 =>
  (Kky (clo1_0,a3,a4)) >>= fun a5 =>
  (idx a0 a1) >>= fun a6 =>
  Kok (clo1_0,a2,b3,(List.set a0 (Int.toNat a1) a5),(wr (a1 + 1)))
  else
  some (a0)
 partial_fixpoint
def Kol (p : K00 × (List Int) × (List Int) × (List Int) × Int) (fl : (List Int)) : Prop :=
 match p with
 | (clo1_0,a2,b3,a0,a1) => ∀ c : Ctx,c.nt = 34 → WpL Tryz.prog c (cl (cl (cr (cl (cr (cr K8f)))))) (Koj c fl) (mkS [(1,.fnb 149 [K1w clo1_0]),(2,sI a2),(3,sI b3),(9,.rs 2),(15,I (a2.length : Int)),(16,I a1)] [(2,rI a0)])
theorem Kom : ∀ p r,Kok p = some r → Kol p r := by
 refine Kok.partial_correctness Kol ?_
 rintro impl_typerboth_Kimpl_Systemjoin_l0_f impl_typerboth_Kimpl_Systemjoin_l0_ih ⟨clo1_0,a2,b3,a0,a1⟩ r h
 intro c hc
 refine WpL.step (K9o hc 1 [] [(17,.bool (decide (a1 < (a2.length : Int))))] (sN (ic h (fun a3 h => ?_) fun a3 h => ?_)))
 ·refine sk (sN (bk 1 (K9o hc 2 [17] [(10,I a1)] ?_)))
  obtain ⟨a4,a5,a6,a7,a8,a9,b1,b2,h⟩ := bq4 h
  exact rgd hc Kns (nN 5 [eL (I a4),oN,oN,oN,eL (I a6),oN,oc (I a8),oN,some (.eqv (.mk 0 true) ⟨[],[(2,some (.arr (List.map I (List.set a0 (Int.toNat a1) a8))))],[]⟩)]) [10] [] [(2,.arr (List.map I (List.set a0 (Int.toNat a1) a8)))] (ab (ix a5) (ix a7) (cq (Kl0 _ _ a9) K77 (ac (Qdy (enc := I) b2) (congrArg (fun z => (⟨[],[(2,some (.arr z))],[]⟩ : Wr)) (Qew (enc := I) (i := Int.toNat a1) (l := a0) (v := a8) (x := I a8) (Qe8 a8))) (Qex (enc := I) (sz := 1) Qec b2) tv))) (ri0 hc 2 (Qdb (impl_typerboth_Kimpl_Systemjoin_l0_ih _ _ h c hc)))
 obtain rfl := os h
 exact xt 0 (Qd5 (Qdc (iv [])))
def Kon (p : K06 × K00 × (List Int) × (List Int)) : Option ((List Int)) :=
 match p with
 | (p0,clo1_0,a2,b3) =>
  (chk (0 ≤ (a2.length : Int) ∧ (Int.toNat (a2.length : Int)) * 8 ≤ 140737488355328)) >>= fun _ =>
  (Kok (clo1_0,a2,b3,(List.replicate (Int.toNat (a2.length : Int)) 0),0)) >>= fun a0 =>
  some a0
def Koo (p : K06 × K00 × (List Int) × (List Int)) (r : (List Int)) : Prop :=
 match p with
 | (p0,clo1_0,a2,b3) => Q75 Tryz.prog 254 [K2b p0,.fnb 149 [K1w clo1_0],sI a2,sI b3] (oI r) []
theorem Kop : ∀ p r,Kon p = some r → Koo p r := by
 rintro ⟨p0,clo1_0,a2,b3⟩ r h
 unfold Kon at h
 refine b0 Tryz.f254 K8f 34 [(0,K2b p0),(1,.fnb 149 [K1w clo1_0]),(2,sI a2),(3,sI b3)] fun c hc => (rsd hc none [nW 1,oN] [0] [] [] tv ?_)
 obtain ⟨_,a0,h⟩ := Qdt h
 refine rsd hc none [oN,nQ ⟨[(12,I (a2.length : Int))],[],[]⟩,some (.eqv (.mk 2 true) ⟨[(13,.rs 2)],[(2,some (.arr (List.map I (List.replicate (Int.toNat (a2.length : Int)) 0))))],[2]⟩),oN] [] [(9,.rs 2)] [(2,.arr (List.map I (List.replicate (Int.toNat (a2.length : Int)) 0)))] (ac (Qdz (d := 12) I a2) (congrArg (fun z => (⟨[(13,.rs 2)],[(2,some (.arr z))],[2]⟩ : Wr)) (Qey (enc := I) (n := Int.toNat (a2.length : Int)) (x := I 0) (Qe8 0))) (And.intro (Eq.refl (a2.length : Int)) (Qdv a0)) tv) (sN (rss hc none [oN,nQ ⟨[(15,I (a2.length : Int))],[],[]⟩,oN] [(1,.fnb 149 [K1w clo1_0]),(2,sI a2),(3,sI b3),(9,.rs 2),(15,I (a2.length : Int)),(16,I 0)] (ai (Qdz (d := 15) I a2) tv) (bk 0 ?_)))
 obtain ⟨a1,a3,h⟩ := Qdt h
 have hL := Kom _ _ a3 c hc
 refine lp (wl hL ?_)
 obtain rfl := os h
 exact Qd7 (K9l hc 2 [(8,.rs 2)] (rt (rq [true])))
def Koq (p : K06 × (List Int) × (List Int)) : Option ((List Int)) :=
 match p with
 | (p0,a1,b2) =>
  (Kon (p0,p0.fs,a1,b2)) >>= fun a0 =>
  some a0
def Kor (p : K06 × (List Int) × (List Int)) (r : (List Int)) : Prop :=
 match p with
 | (p0,a1,b2) => Q75 Tryz.prog 245 [K2b p0,sI a1,sI b2] (oI r) []
theorem Kos : ∀ p r,Koq p = some r → Kor p r := by
 rintro ⟨p0,a1,b2⟩ r h
 unfold Koq at h
 refine b0 Tryz.f245 K8l 14 [(0,K2b p0),(1,sI a1),(2,sI b2)] fun c hc => (rsd hc none [nW 1,oN] [0] [(3,.ra 1 0)] [(1,K2a p0)] tv ?_)
 obtain ⟨a0,a2,h⟩ := Qdt h
 obtain rfl := os h
 exact rs hc none (nN 6 [some (.call (oI a0) [] 2),oN]) [(6,.rs 2)] [(2,rI a0)] (cq (Kop _ _ a2) K8g tv) (rt (rq [true]))
def Kot (n1 : Int) : Option (Unit) :=
 if (decide (n1 < 0)) = true then
 none
 else
 if (decide ((wr (n1 - (wr (0 - 0)))) > 0)) = true then
 (chk (0 ≤ (wr (n1 - (wr (0 - 0)))) ∧ (Int.toNat (wr (n1 - (wr (0 - 0))))) * 8 ≤ 140737488355328)) >>= fun _ =>
 some ()
 else
 some ()
def Kou (n1 : Int) (r : Unit) : Prop :=
 Qa2 Tryz.prog 255 n1
theorem Kov : ∀ p r,Kot p = some r → Kou p r := by
 rintro n1 r h
 unfold Kot at h
 show Qa2 Tryz.prog 255 n1
 refine Qa2.of_body K3a (fn := Tryz.f255) (code := K8n) (by kernel_rfl) (by kernel_rfl) (nt := 27) (by kernel_rfl) (by kernel_rfl) (fun c hc => ?_)
 refine rs0 hc 1 [(0,.nils),(1,I n1)] [] (sN (rs0 hc 2 [(0,.nils),(1,I n1),(6,.bool (decide (n1 < 0)))] [] (ic h (fun a0 h => ?_) fun a0 h => ?_)))
 ·cases h
 refine sk (sN (K9m hc 8 [1,6] [(1,I (wr (n1 - (wr (0 - 0)))))] [] (K9m hc 2 [] [(16,.bool (decide ((wr (n1 - (wr (0 - 0)))) > 0)))] [] (ic h (fun a1 h => ?_) fun a1 h => ?_))))
 ·obtain ⟨_,a2,h⟩ := Qdt h
  exact rg hc none (nN 5 [nW 1,oN,oN,nW 2,oN]) [(0,.rs 2)] [(2,.ary (List.map I []))] (ai (Qdv a2) tv) (K9l hc 2 [(4,.rs 2)] (rt (Qfc.ret (by kernel_rfl))))
 exact sk (rs0 hc 2 [(4,.nils)] [] (rt (Qfc.ret (by kernel_rfl))))
def Kow (c : Ctx) (slices0 : LL) : Int → Exit → Q0a → Prop
 | a0 => Qdf c (.exit 0) (mkS [(0,sL slices0),(3,I a0)] [])
def Kox (p : LL × Int × Int) : Option (Int) :=
 match p with
 | (slices0,a0,a1) =>
  if (decide (a1 < (slices0.length : Int))) = true then
  (idx slices0 a1) >>= fun a2 =>
  ((
  if (decide ((wr (a0 + (a2.length : Int))) < 0)) = true then
  none
  else
  some (())
  ) : Option (Unit)) >>= fun () =>
  Kox (slices0,(wr (a0 + (a2.length : Int))),(wr (a1 + 1)))
  else
  some (a0)
 partial_fixpoint
def Koy (p : LL × Int × Int) (fl : Int) : Prop :=
 match p with
 | (slices0,a0,a1) => ∀ c : Ctx,c.nt = 36 → WpL Tryz.prog c (cl (cl (cr (cl (cr (cr K8p)))))) (Kow c slices0 fl) (mkS [(0,sL slices0),(3,I a0),(9,sL slices0),(10,I (slices0.length : Int)),(11,I a1)] [])
theorem Koz : ∀ p r,Kox p = some r → Koy p r := by
 refine Kox.partial_correctness Koy ?_
 rintro slices_Concat_int_l0_f slices_Concat_int_l0_ih ⟨slices0,a0,a1⟩ r h
 intro c hc
 refine WpL.step (K9m hc 1 [] [(12,.bool (decide (a1 < (slices0.length : Int))))] [] (sN (ic h (fun a2 h => ?_) fun a2 h => ?_)))
 ·refine sk (sN (bk 1 ?_))
  obtain ⟨a3,a4,h⟩ := Qdt h
  refine rsd hc none [eL (sI a3),oN,oN] [12] [(5,sI a3)] [] (ai (xL a4) tv) (rsd hc none [oN,oN,nQ ⟨[(17,I (a3.length : Int))],[],[]⟩,oN,oN] [5,3] [(3,I (wr (a0 + (a3.length : Int))))] [] (ai (Qdz (d := 17) I a3) tv) (rs0 hc 2 [(0,sL slices0),(3,I (wr (a0 + (a3.length : Int)))),(9,sL slices0),(10,I (slices0.length : Int)),(11,I a1),(20,.bool (decide ((wr (a0 + (a3.length : Int))) < 0)))] [] ?_))
  obtain ⟨⟨⟩,a5,h⟩ := Qdt h
  refine wi [20] [] ?_ ?_
  ·replace h := a5
   refine ic h (fun a6 h => ?_) fun a6 h => ?_
   ·cases h
   exact sk (iv [])
  clear a5
  exact ri0 hc 2 (Qdb (slices_Concat_int_l0_ih _ _ h c hc))
 obtain rfl := os h
 exact xt 0 (Qd5 (Qdc (iv [])))
def Kp0 (c : Ctx) : (List Int) → Exit → Q0a → Prop
 | a0 => Qdf c (.exit 2) (mkS [(6,.rs 1)] [(1,.ary (List.map I a0))])
def Kp1 (p : LL × (List Int) × Int) : Option ((List Int)) :=
 match p with
 | (slices0,a0,a1) =>
  if (decide (a1 < (slices0.length : Int))) = true then
  (idx slices0 a1) >>= fun a2 =>
  (Qe6 (a0.length + a2.length) 8) >>= fun _ =>
  Kp1 (slices0,(a0 ++ a2),(wr (a1 + 1)))
  else
  some (a0)
 partial_fixpoint
def Kp2 (p : LL × (List Int) × Int) (fl : (List Int)) : Prop :=
 match p with
 | (slices0,a0,a1) => ∀ c : Ctx,c.nt = 36 → WpL Tryz.prog c (cl (cl (cr (cl (cr (cr (cr (cr K8p)))))))) (Kp0 c fl) (mkS [(6,.rs 1),(25,sL slices0),(26,I (slices0.length : Int)),(27,I a1)] [(1,.ary (List.map I a0))])
theorem Kp3 : ∀ p r,Kp1 p = some r → Kp2 p r := by
 refine Kp1.partial_correctness Kp2 ?_
 rintro slices_Concat_int_l1_f slices_Concat_int_l1_ih ⟨slices0,a0,a1⟩ r h
 intro c hc
 refine WpL.step (K9o hc 1 [] [(28,.bool (decide (a1 < (slices0.length : Int))))] (sN (ic h (fun a2 h => ?_) fun a2 h => ?_)))
 ·refine sk (sN (bk 3 ?_))
  obtain ⟨a3,a4,h⟩ := Qdt h
  refine K9n hc none [eL (sI a3),oN,oN] [28] [(8,sI a3)] (ai (xL a4) tv) ?_
  obtain ⟨_,a5,h⟩ := Qdt h
  exact rgd hc none [oN,oN,some (.eqv (.new 3) ⟨[(33,.rs 3)],[(3,some (.ary (List.map I (a0 ++ a3)))),(1,none)],[3]⟩),oN] [8,6] [(6,.rs 3)] [(3,.ary (List.map I (a0 ++ a3)))] (ab (congrArg (fun z => (⟨[(33,.rs 3)],[(3,some (.ary z)),(1,none)],[3]⟩ : Wr)) ((List.map_append).symm : (List.map I a0) ++ (List.map I a3) = List.map I (a0 ++ a3))) (Qff (enc := I) (e1 := a0) (e2 := a3) (fun _ => rfl) a5) tv) (K9h hc 2 [(6,.rs 3),(25,sL slices0),(26,I (slices0.length : Int)),(27,I (wr (a1 + 1)))] (Qdb (WpL.view (fun a w hv => SRx.renL [(1,3)] hv (by kernel_rfl) (by kernel_rfl) (by kernel_rfl)) (slices_Concat_int_l1_ih _ _ h c hc))))
 obtain rfl := os h
 exact xt 2 (Qd5 (Qdc (iv [])))
def Kp4 (slices0 : LL) : Option ((List Int)) :=
 (Kox (slices0,0,0)) >>= fun a0 =>
 (Kot a0) >>= fun _ =>
 (Kp1 (slices0,[],0)) >>= fun a1 =>
 some a1
def Kp5 (slices0 : LL) (r : (List Int)) : Prop :=
 Q75 Tryz.prog 246 [sL slices0] (sI r) []
theorem Kp6 : ∀ p r,Kp4 p = some r → Kp5 p r := by
 rintro slices0 r h
 unfold Kp4 at h
 refine b0 Tryz.f246 K8p 36 [(0,sL slices0)] fun c hc => (K9m hc 1 [] [] [] (K9m hc 1 [] [(3,I 0)] [] (sN (rs hc none [oN,nQ ⟨[(10,I (slices0.length : Int))],[],[]⟩,oN] [(0,sL slices0),(3,I 0),(9,sL slices0),(10,I (slices0.length : Int)),(11,I 0)] [] (ai (Qdz (d := 10) K14 slices0) tv) (bk 0 ?_)))))
 obtain ⟨a0,a1,h⟩ := Qdt h
 have hL := Koz _ _ a1 c hc
 refine lp (wl hL (Qd7 ?_))
 obtain ⟨_,a2,h⟩ := Qdt h
 refine rsd hc none [oN,nW 1,oN] [3] [(6,.rs 1)] [(1,.ary (List.map I []))] (ab (Kov _ _ a2) K8o tv) (sN (rss hc none [oN,nQ ⟨[(26,I (slices0.length : Int))],[],[]⟩,oN] [(6,.rs 1),(25,sL slices0),(26,I (slices0.length : Int)),(27,I 0)] (ai (Qdz (d := 26) K14 slices0) tv) (bk 2 ?_)))
 obtain ⟨a3,a4,h⟩ := Qdt h
 have hL := Kp3 _ _ a4 c hc
 refine lp (wl hL (Qd7 (K9l hc 2 [(2,.rs 1)] (Wp.view (fun a w hv => SRx.frzYL 1 (xs := List.map I a3) hv (by kernel_rfl) (by kernel_rfl) (by kernel_rfl)) (?_ : Wp Tryz.prog c _ _ (mkS [(2,sI a3)] []))))))
 obtain rfl := os h
 exact rt (rq [false])
def Kp7 (p : Int × K06 × Int) : Option (Bool) :=
 match p with
 | (u0,cap0,cap1) =>
  (Kki (cap0.fs,u0,cap1)) >>= fun a0 =>
  some (!a0)
def Kp8 (p : Int × K06 × Int) (r : Bool) : Prop :=
 match p with
 | (u0,cap0,cap1) => Q75 Tryz.prog 256 [I u0,.ptr [I cap0.fs.fSize,.sl (List.map I cap0.fs.fPlus),.sl (List.map I cap0.fs.fTimes),.sl (List.map AV.bool cap0.fs.fBelow)] 0,.ptr [I cap1] 0] (.bool r) []
theorem Kp9 : ∀ p r,Kp7 p = some r → Kp8 p r := by
 rintro ⟨u0,cap0,cap1⟩ r h
 unfold Kp7 at h
 refine b0 Tryz.f256 K8r 11 [(0,I u0),(1,.ptr [I cap0.fs.fSize,.sl (List.map I cap0.fs.fPlus),.sl (List.map I cap0.fs.fTimes),.sl (List.map AV.bool cap0.fs.fBelow)] 0),(2,.ptr [I cap1] 0)] fun c hc => (K9m hc 1 [] [] [] ?_)
 obtain ⟨a0,a1,h⟩ := Qdt h
 obtain rfl := os h
 exact rs hc none (nN 4 [oc (.bool a0),oN,oN]) [(4,.bool (!a0))] [] (cq (Kkk _ _ a1) K75 tv) (rt (rq [true]))
def Kpa (c : Ctx) : (Unit) ⊕ (Int) → Exit → Q0a → Prop
 | .inl _ => Qdf c (.exit 0) (mkS [] [])
 | .inr r => Qdo TIx Tryz.f193 [] (I r)
def Kpb (p : (List Int) × K06 × Int × Int) : Option ((Unit) ⊕ (Int)) :=
 match p with
 | (s0,clo1_0,clo1_1,a0) =>
  if (decide (a0 < (s0.length : Int))) = true then
  (idx s0 a0) >>= fun a1 =>
  (Kp7 (a1,clo1_0,clo1_1)) >>= fun a2 =>
  if a2 = true then
  some (.inr a0)
  else
  Kpb (s0,clo1_0,clo1_1,(wr (a0 + 1)))
  else
  some (.inl ())
 partial_fixpoint
def Kpc (p : (List Int) × K06 × Int × Int) (fl : (Unit) ⊕ (Int)) : Prop :=
 match p with
 | (s0,clo1_0,clo1_1,a0) => ∀ c : Ctx,c.nt = 19 → WpL Tryz.prog c (cl (cl (cr (cl (cr K8t))))) (Kpa c fl) (mkS [(0,sI s0),(1,.fn 256 [.ptr [I clo1_0.fs.fSize,.sl (List.map I clo1_0.fs.fPlus),.sl (List.map I clo1_0.fs.fTimes),.sl (List.map AV.bool clo1_0.fs.fBelow)] 0,.ptr [I clo1_1] 0]),(7,I (s0.length : Int)),(8,I a0)] [])
theorem Kpd : ∀ p r,Kpb p = some r → Kpc p r := by
 refine Kpb.partial_correctness Kpc ?_
 rintro slices_IndexFunc_int_Kimpl_typerusedOk_c1_l0_f slices_IndexFunc_int_Kimpl_typerusedOk_c1_l0_ih ⟨s0,clo1_0,clo1_1,a0⟩ r h
 intro c hc
 refine WpL.step (K9m hc 1 [] [(9,.bool (decide (a0 < (s0.length : Int))))] [] (sN (ic h (fun a1 h => ?_) fun a1 h => ?_)))
 ·refine sk (sN (bk 1 (K9m hc 2 [9] [(5,I a0)] [] ?_)))
  obtain ⟨a2,a3,a4,a5,h⟩ := bq2 h
  refine rsd hc none [oN,oN,oN,eL (I a2),oN,oc (.bool a4)] [] [(16,.bool a4)] [] (ai (ix a3) (cq (Kp9 _ _ a5) K8s tv)) (ic h (fun a6 h => ?_) fun a6 h => ?_)
  ·obtain rfl := os h
   exact rs0 hc 2 [(4,I a0)] [] (rt (re [true]))
  exact sk (ri0 hc 2 (Qdb (slices_IndexFunc_int_Kimpl_typerusedOk_c1_l0_ih _ _ h c hc)))
 obtain rfl := os h
 exact xt 0 (Qd5 (Qdc (iv [])))
def Kpe (p : (List Int) × K06 × Int) : Option (Int) :=
 match p with
 | (s0,clo1_0,clo1_1) =>
  (Kpb (s0,clo1_0,clo1_1,0)) >>= fun fl => match fl with
  | .inl () =>
   some (-1)
  | .inr r =>
   some r
def Kpf (p : (List Int) × K06 × Int) (r : Int) : Prop :=
 match p with
 | (s0,clo1_0,clo1_1) => Q75 Tryz.prog 193 [sI s0,.fn 256 [.ptr [I clo1_0.fs.fSize,.sl (List.map I clo1_0.fs.fPlus),.sl (List.map I clo1_0.fs.fTimes),.sl (List.map AV.bool clo1_0.fs.fBelow)] 0,.ptr [I clo1_1] 0]] (I r) []
theorem Kpg : ∀ p r,Kpe p = some r → Kpf p r := by
 rintro ⟨s0,clo1_0,clo1_1⟩ r h
 unfold Kpe at h
 refine b0 Tryz.f193 K8t 19 [(0,sI s0),(1,.fn 256 [.ptr [I clo1_0.fs.fSize,.sl (List.map I clo1_0.fs.fPlus),.sl (List.map I clo1_0.fs.fTimes),.sl (List.map AV.bool clo1_0.fs.fBelow)] 0,.ptr [I clo1_1] 0])] fun c hc => (K9m hc 1 [] [] [] (sN (rs hc none [oN,nQ ⟨[(7,I (s0.length : Int))],[],[]⟩,oN] [(0,sI s0),(1,.fn 256 [.ptr [I clo1_0.fs.fSize,.sl (List.map I clo1_0.fs.fPlus),.sl (List.map I clo1_0.fs.fTimes),.sl (List.map AV.bool clo1_0.fs.fBelow)] 0,.ptr [I clo1_1] 0]),(7,I (s0.length : Int)),(8,I 0)] [] (ai (Qdz (d := 7) I s0) tv) (bk 0 ?_))))
 obtain ⟨fl,a0,h⟩ := Qdt h
 have hL := Kpd _ _ a0 c hc
 refine lp ?_
 rcases fl with ⟨⟩ | r
 ·refine wl hL ?_
  obtain rfl := os h
  exact Qd7 (rs0 hc 1 [(4,I (-1))] [] (rt (rq [true])))
 refine WpL.mono hL ?_
 rintro _ _ ⟨rfl,hfin⟩
 obtain rfl := os h
 exact ⟨.inl rfl,hfin⟩
def Kph (p : (List Int) × K06 × Int) : Option (Bool) :=
 match p with
 | (s0,clo1_0,clo1_1) =>
  (Kpe (s0,clo1_0,clo1_1)) >>= fun a0 =>
  some (decide (a0 ≥ 0))
def Kpi (p : (List Int) × K06 × Int) (r : Bool) : Prop :=
 match p with
 | (s0,clo1_0,clo1_1) => Q75 Tryz.prog 116 [sI s0,.fn 256 [.ptr [I clo1_0.fs.fSize,.sl (List.map I clo1_0.fs.fPlus),.sl (List.map I clo1_0.fs.fTimes),.sl (List.map AV.bool clo1_0.fs.fBelow)] 0,.ptr [I clo1_1] 0]] (.bool r) []
theorem Kpj : ∀ p r,Kph p = some r → Kpi p r := by
 rintro ⟨s0,clo1_0,clo1_1⟩ r h
 unfold Kph at h
 refine b0 Tryz.f116 K8v 9 [(0,sI s0),(1,.fn 256 [.ptr [I clo1_0.fs.fSize,.sl (List.map I clo1_0.fs.fPlus),.sl (List.map I clo1_0.fs.fTimes),.sl (List.map AV.bool clo1_0.fs.fBelow)] 0,.ptr [I clo1_1] 0])] fun c hc => (K9m hc 1 [] [] [] ?_)
 obtain ⟨a0,a1,h⟩ := Qdt h
 obtain rfl := os h
 exact rs hc none [oN,oN,oc (I a0),oN,oN] [(4,.bool (decide (a0 ≥ 0)))] [] (cq (Kpg _ _ a1) K8u tv) (rt (rq [true]))
def Kpk (p : K06 × (List Int) × Int) : Option (Bool) :=
 match p with
 | (p0,l1,g2) =>
  (Kph (l1,p0,g2)) >>= fun a0 =>
  some (!a0)
def Kpl (p : K06 × (List Int) × Int) (r : Bool) : Prop :=
 match p with
 | (p0,l1,g2) => Q75 Tryz.prog 247 [K2b p0,sI l1,I g2] (.bool r) []
theorem Kpm : ∀ p r,Kpk p = some r → Kpl p r := by
 rintro ⟨p0,l1,g2⟩ r h
 unfold Kpk at h
 refine b0 Tryz.f247 K8x 11 [(0,K2b p0),(1,sI l1),(2,I g2)] fun c hc => (rsd hc none [nW 1,nW 2,oN] [0,2] [(3,.ra 1 0),(5,.ra 2 0)] [(1,K2a p0),(2,.box [I g2])] tv ?_)
 obtain ⟨a0,a1,h⟩ := Qdt h
 obtain rfl := os h
 exact rs hc none [oN,oN,oc (.bool a0),oN,oN] [(6,.bool (!a0))] [] (ac (Kpj _ _ a1) K8w (Or.inr rfl : ([1,2] : List Nat) = [] ∨ noSh (.bool a0) = true) tv) (rt (rq [true]))
def Kpn (c : Ctx) : (List Int) → Exit → Q0a → Prop
 | a0 => Qdf c (.exit 0) (mkS [(7,.rs 2)] [(2,rI a0)])
def Kpo (p : K06 × Int × (List Int) × (List Int) × Int) : Option ((List Int)) :=
 match p with
 | (p0,g1,l2,a0,a1) =>
  if (decide (a1 < (l2.length : Int))) = true then
  (idx l2 a1) >>= fun a2 =>
  (Kkf (p0.fs,g1,a2)) >>= fun a3 =>
  (idx a0 a1) >>= fun a4 =>
  Kpo (p0,g1,l2,(List.set a0 (Int.toNat a1) a3),(wr (a1 + 1)))
  else
  some (a0)
 partial_fixpoint
def Kpp (p : K06 × Int × (List Int) × (List Int) × Int) (fl : (List Int)) : Prop :=
 match p with
 | (p0,g1,l2,a0,a1) => ∀ c : Ctx,c.nt = 30 → WpL Tryz.prog c (cl (cl (cr (cl (cr (cr K8z)))))) (Kpn c fl) (mkS [(1,I g1),(3,.ra 1 0),(7,.rs 2),(13,sI l2),(14,I (l2.length : Int)),(15,I a1)] [(1,K2a p0),(2,rI a0)])
theorem Kpq : ∀ p r,Kpo p = some r → Kpp p r := by
 refine Kpo.partial_correctness Kpp ?_
 rintro impl_typerscaled_l0_f impl_typerscaled_l0_ih ⟨p0,g1,l2,a0,a1⟩ r h
 intro c hc
 refine WpL.step (K9o hc 1 [] [(16,.bool (decide (a1 < (l2.length : Int))))] (sN (ic h (fun a2 h => ?_) fun a2 h => ?_)))
 ·refine sk (sN (bk 1 ?_))
  obtain ⟨a3,a4,h⟩ := Qdt h
  refine K9n hc none [oN,eL (I a3),oN,oN,oN] [16] [(8,I a1),(9,I a3)] (ai (ix a4) tv) ?_
  obtain ⟨a5,a6,a7,a8,h⟩ := bq2 h
  exact rgd hc none (nN 6 [oc (I a5),oN,some (.eqv (.mk 0 true) ⟨[],[(2,some (.arr (List.map I (List.set a0 (Int.toNat a1) a5))))],[]⟩)]) [8,9] [] [(1,K2a p0),(2,.arr (List.map I (List.set a0 (Int.toNat a1) a5)))] (cq (Kkh _ _ a6) K74 (ac (Qdy (enc := I) a8) (congrArg (fun z => (⟨[],[(2,some (.arr z))],[]⟩ : Wr)) (Qew (enc := I) (i := Int.toNat a1) (l := a0) (v := a5) (x := I a5) (Qe8 a5))) (Qex (enc := I) (sz := 1) Qec a8) tv)) (ri0 hc 2 (Qdb (impl_typerscaled_l0_ih _ _ h c hc)))
 obtain rfl := os h
 exact xt 0 (Qd5 (Qdc (iv [])))
def Kpr (p : K06 × Int × (List Int)) : Option ((List Int)) :=
 match p with
 | (p0,g1,l2) =>
  (chk (0 ≤ (l2.length : Int) ∧ (Int.toNat (l2.length : Int)) * 8 ≤ 140737488355328)) >>= fun _ =>
  (Kpo (p0,g1,l2,(List.replicate (Int.toNat (l2.length : Int)) 0),0)) >>= fun a0 =>
  some a0
def Kps (p : K06 × Int × (List Int)) (r : (List Int)) : Prop :=
 match p with
 | (p0,g1,l2) => Q75 Tryz.prog 248 [K2b p0,I g1,sI l2] (oI r) []
theorem Kpt : ∀ p r,Kpr p = some r → Kps p r := by
 rintro ⟨p0,g1,l2⟩ r h
 unfold Kpr at h
 refine b0 Tryz.f248 K8z 30 [(0,K2b p0),(1,I g1),(2,sI l2)] fun c hc => (rsd hc none [nW 1,oN] [0] [(3,.ra 1 0)] [(1,K2a p0)] tv ?_)
 obtain ⟨_,a0,h⟩ := Qdt h
 refine rsd hc none [oN,nQ ⟨[(11,I (l2.length : Int))],[],[]⟩,some (.eqv (.mk 2 true) ⟨[(12,.rs 2)],[(2,some (.arr (List.map I (List.replicate (Int.toNat (l2.length : Int)) 0))))],[2]⟩),oN] [] [(7,.rs 2)] [(1,K2a p0),(2,.arr (List.map I (List.replicate (Int.toNat (l2.length : Int)) 0)))] (ac (Qdz (d := 11) I l2) (congrArg (fun z => (⟨[(12,.rs 2)],[(2,some (.arr z))],[2]⟩ : Wr)) (Qey (enc := I) (n := Int.toNat (l2.length : Int)) (x := I 0) (Qe8 0))) (And.intro (Eq.refl (l2.length : Int)) (Qdv a0)) tv) (sN (rss hc none [oN,nQ ⟨[(14,I (l2.length : Int))],[],[]⟩,oN] [(1,I g1),(3,.ra 1 0),(7,.rs 2),(13,sI l2),(14,I (l2.length : Int)),(15,I 0)] (ai (Qdz (d := 14) I l2) tv) (bk 0 ?_)))
 obtain ⟨a1,a2,h⟩ := Qdt h
 have hL := Kpq _ _ a2 c hc
 refine lp (wl hL ?_)
 obtain rfl := os h
 exact Qd7 (K9l hc 2 [(6,.rs 2)] (rt (rq [true])))
def Kpu (ty0 : (List Int)) : Option (Bool) :=
 some (decide ((ty0.length : Int) > 40))
def Kpv (ty0 : (List Int)) (r : Bool) : Prop :=
 Q75 Tryz.prog 249 [sI ty0] (.bool r) []
theorem Kpw : ∀ p r,Kpu p = some r → Kpv p r := by
 rintro ty0 r h
 unfold Kpu at h
 refine b0 Tryz.f249 K91 6 [(0,sI ty0)] fun c hc => ?_
 obtain rfl := os h
 exact K9m hc 1 [] [] [] (rs hc none [oN,nQ ⟨[(4,I (ty0.length : Int))],[],[]⟩,oN,oN] [(2,.bool (decide ((ty0.length : Int) > 40)))] [] (ai (Qdz (d := 4) I ty0) tv) (rt (rq [true])))
def Kpx (c : Ctx) (p0 : K06) (out1 : K04) (ctx2 : LL) (t3 : K01) (needs4 : LL) (used5 : LL) : ((List Int) × (List Int)) ⊕ ((Int × K04)) → Exit → Q0a → Prop
 | .inl (a0,a1) => Qdf c .normal (mkS [(7,.ra 2 0)] [(2,.box [.ra 2000 0]),(36,rI a1),(2000,.box [sI a0,.rs 36,sM K07 out1.fkids,I out1.ffault,sI out1.fpath])])
 | .inr r => Qdr TIx Tryz.f222 [K2b p0,.optr [oI out1.fty,oI out1.fneeds,oM K07 out1.fkids,I out1.ffault,oI out1.fpath],sL ctx2,K1z t3,sL needs4,sL used5] (I r.1,[.undef,K29 r.2,.undef,.undef,.undef,.undef])
def Kpy (c : Ctx) (p0 : K06) (out1 : K04) (ctx2 : LL) (t3 : K01) (needs4 : LL) (used5 : LL) : ((List Int) × (List Int)) ⊕ ((Int × K04)) → Exit → Q0a → Prop
 | .inl (a0,a1) => Qdf c .normal (mkS [(7,.ra 2 0)] [(2,.box [.ra 2000 0]),(34,rI a1),(2000,.box [sI a0,.rs 34,sM K07 out1.fkids,I out1.ffault,sI out1.fpath])])
 | .inr r => Qdr TIx Tryz.f222 [K2b p0,.optr [oI out1.fty,oI out1.fneeds,oM K07 out1.fkids,I out1.ffault,oI out1.fpath],sL ctx2,K1z t3,sL needs4,sL used5] (I r.1,[.undef,K29 r.2,.undef,.undef,.undef,.undef])
def Kpz (c : Ctx) (p0 : K06) (out1 : K04) (ctx2 : LL) (t3 : K01) (needs4 : LL) (used5 : LL) : ((List Int) × (List Int)) ⊕ ((Int × K04)) → Exit → Q0a → Prop
 | .inl (a0,a1) => Qdf c .normal (mkS [(7,.ra 2 0)] [(2,.box [.ra 2000 0]),(30,rI a1),(2000,.box [sI a0,.rs 30,sM K07 out1.fkids,I out1.ffault,sI out1.fpath])])
 | .inr r => Qdr TIx Tryz.f222 [K2b p0,.optr [oI out1.fty,oI out1.fneeds,oM K07 out1.fkids,I out1.ffault,oI out1.fpath],sL ctx2,K1z t3,sL needs4,sL used5] (I r.1,[.undef,K29 r.2,.undef,.undef,.undef,.undef])
def Kq0 (c : Ctx) (p0 : K06) (out1 : K04) (ctx2 : LL) (t3 : K01) (needs4 : LL) (used5 : LL) : ((List Int) × (List Int)) ⊕ ((Int × K04)) → Exit → Q0a → Prop
 | .inl (a0,a1) => Qdf c .normal (mkS [(7,.ra 2 0)] [(2,.box [.ra 2000 0]),(2000,.box [sI a0,sI a1,sM K07 out1.fkids,I out1.ffault,sI out1.fpath])])
 | .inr r => Qdr TIx Tryz.f222 [K2b p0,.optr [oI out1.fty,oI out1.fneeds,oM K07 out1.fkids,I out1.ffault,oI out1.fpath],sL ctx2,K1z t3,sL needs4,sL used5] (I r.1,[.undef,K29 r.2,.undef,.undef,.undef,.undef])
def Kq1 (c : Ctx) (p0 : K06) (out1 : K04) (ctx2 : LL) (t3 : K01) (needs4 : LL) (used5 : LL) : ((List Int) × (List Int)) ⊕ ((Int × K04)) → Exit → Q0a → Prop
 | .inl (a0,a1) => Qdf c .normal (mkS [(7,.ra 2 0)] [(2,.box [.ra 2000 0]),(2000,.box [sI a0,sI a1,sM K07 out1.fkids,I out1.ffault,sI out1.fpath])])
 | .inr r => Qdr TIx Tryz.f222 [K2b p0,.optr [oI out1.fty,oI out1.fneeds,oM K07 out1.fkids,I out1.ffault,oI out1.fpath],sL ctx2,K1z t3,sL needs4,sL used5] (I r.1,[.undef,K29 r.2,.undef,.undef,.undef,.undef])
def Kq2 (c : Ctx) (p0 : K06) (out1 : K04) (ctx2 : LL) (t3 : K01) (needs4 : LL) (used5 : LL) : ((List Int) × (List Int)) ⊕ ((Int × K04)) → Exit → Q0a → Prop
 | .inl (a0,a1) => Qdf c .normal (mkS [(7,.ra 2 0)] [(2,.box [.ra 2000 0]),(2000,.box [sI a0,sI a1,sM K07 out1.fkids,I out1.ffault,sI out1.fpath])])
 | .inr r => Qdr TIx Tryz.f222 [K2b p0,.optr [oI out1.fty,oI out1.fneeds,oM K07 out1.fkids,I out1.ffault,oI out1.fpath],sL ctx2,K1z t3,sL needs4,sL used5] (I r.1,[.undef,K29 r.2,.undef,.undef,.undef,.undef])
def Kq3 (c : Ctx) (p0 : K06) (out1 : K04) (ctx2 : LL) (t3 : K01) (needs4 : LL) (used5 : LL) : ((List Int) × (List Int)) ⊕ ((Int × K04)) → Exit → Q0a → Prop
 | .inl (a0,a1) => Qdf c .normal (mkS [(7,.ra 2 0)] [(2,.box [.ra 2000 0]),(2000,.box [sI a0,sI a1,sM K07 out1.fkids,I out1.ffault,sI out1.fpath])])
 | .inr r => Qdr TIx Tryz.f222 [K2b p0,.optr [oI out1.fty,oI out1.fneeds,oM K07 out1.fkids,I out1.ffault,oI out1.fpath],sL ctx2,K1z t3,sL needs4,sL used5] (I r.1,[.undef,K29 r.2,.undef,.undef,.undef,.undef])
def Kq4 (c : Ctx) (p0 : K06) (out1 : K04) (ctx2 : LL) (t3 : K01) (needs4 : LL) (used5 : LL) : ((List Int) × (List Int)) ⊕ ((Int × K04)) → Exit → Q0a → Prop
 | .inl (a0,a1) => Qdf c .normal (mkS [(7,.ra 2 0)] [(2,.box [.ra 2000 0]),(2000,.box [sI a0,sI a1,sM K07 out1.fkids,I out1.ffault,sI out1.fpath])])
 | .inr r => Qdr TIx Tryz.f222 [K2b p0,.optr [oI out1.fty,oI out1.fneeds,oM K07 out1.fkids,I out1.ffault,oI out1.fpath],sL ctx2,K1z t3,sL needs4,sL used5] (I r.1,[.undef,K29 r.2,.undef,.undef,.undef,.undef])
def Kq5 (c : Ctx) (p0 : K06) (out1 : K04) (ctx2 : LL) (t3 : K01) (needs4 : LL) (used5 : LL) : ((List Int) × (List Int)) ⊕ ((Int × K04)) → Exit → Q0a → Prop
 | .inl (a0,a1) => Qdf c .normal (mkS [(7,.ra 2 0)] [(2,.box [.ra 2000 0]),(2000,.box [sI a0,sI a1,sM K07 out1.fkids,I out1.ffault,sI out1.fpath])])
 | .inr r => Qdr TIx Tryz.f222 [K2b p0,.optr [oI out1.fty,oI out1.fneeds,oM K07 out1.fkids,I out1.ffault,oI out1.fpath],sL ctx2,K1z t3,sL needs4,sL used5] (I r.1,[.undef,K29 r.2,.undef,.undef,.undef,.undef])
def Kq6 (c : Ctx) (p0 : K06) (out1 : K04) (ctx2 : LL) (t3 : K01) (needs4 : LL) (used5 : LL) : ((List Int) × (List Int)) ⊕ ((Int × K04)) → Exit → Q0a → Prop
 | .inl (a0,a1) => Qdf c .normal (mkS [(7,.ra 2 0)] [(2,.box [.ra 2000 0]),(2000,.box [sI a0,sI a1,sM K07 out1.fkids,I out1.ffault,sI out1.fpath])])
 | .inr r => Qdr TIx Tryz.f222 [K2b p0,.optr [oI out1.fty,oI out1.fneeds,oM K07 out1.fkids,I out1.ffault,oI out1.fpath],sL ctx2,K1z t3,sL needs4,sL used5] (I r.1,[.undef,K29 r.2,.undef,.undef,.undef,.undef])
def Kq7 (c : Ctx) (p0 : K06) (out1 : K04) (ctx2 : LL) (t3 : K01) (needs4 : LL) (used5 : LL) : ((List Int) × (List Int)) ⊕ ((Int × K04)) → Exit → Q0a → Prop
 | .inl (a0,a1) => Qdf c .normal (mkS [(7,.ra 2 0)] [(2,.box [.ra 2000 0]),(2000,.box [sI a0,sI a1,sM K07 out1.fkids,I out1.ffault,sI out1.fpath])])
 | .inr r => Qdr TIx Tryz.f222 [K2b p0,.optr [oI out1.fty,oI out1.fneeds,oM K07 out1.fkids,I out1.ffault,oI out1.fpath],sL ctx2,K1z t3,sL needs4,sL used5] (I r.1,[.undef,K29 r.2,.undef,.undef,.undef,.undef])
def Kq8 (c : Ctx) (p0 : K06) (out1 : K04) (ctx2 : LL) (t3 : K01) (needs4 : LL) (used5 : LL) : ((List Int) × (List Int)) ⊕ ((Int × K04)) → Exit → Q0a → Prop
 | .inl (a0,a1) => Qdf c .normal (mkS [(7,.ra 2 0)] [(2,.box [.ra 2000 0]),(2000,.box [sI a0,sI a1,sM K07 out1.fkids,I out1.ffault,sI out1.fpath])])
 | .inr r => Qdr TIx Tryz.f222 [K2b p0,.optr [oI out1.fty,oI out1.fneeds,oM K07 out1.fkids,I out1.ffault,oI out1.fpath],sL ctx2,K1z t3,sL needs4,sL used5] (I r.1,[.undef,K29 r.2,.undef,.undef,.undef,.undef])
def Kq9 (c : Ctx) (p0 : K06) (out1 : K04) (ctx2 : LL) (t3 : K01) (needs4 : LL) (used5 : LL) : ((List Int) × (List Int)) ⊕ ((Int × K04)) → Exit → Q0a → Prop
 | .inl (a0,a1) => Qdf c .normal (mkS [(7,.ra 2 0)] [(2,.box [.ra 2000 0]),(2000,.box [sI a0,sI a1,sM K07 out1.fkids,I out1.ffault,sI out1.fpath])])
 | .inr r => Qdr TIx Tryz.f222 [K2b p0,.optr [oI out1.fty,oI out1.fneeds,oM K07 out1.fkids,I out1.ffault,oI out1.fpath],sL ctx2,K1z t3,sL needs4,sL used5] (I r.1,[.undef,K29 r.2,.undef,.undef,.undef,.undef])
end Go.Am
