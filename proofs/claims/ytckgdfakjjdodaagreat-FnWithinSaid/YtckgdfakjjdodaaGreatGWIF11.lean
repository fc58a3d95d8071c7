/- Walks, printed. -/
import Derived.Test.YtckgdfakjjdodaaGreatGWIF8
set_option linter.unusedVariables false
set_option linter.unusedSimpArgs false
set_option maxRecDepth 100000
namespace Go.Am
open Go Go.Proofs
mutual
def Klf (p : K01 × Int × K00 × K00 × Int) : Option (Int) :=
 match p with
 | (t0,n1,clo2_0,clo3_0,nodes4) =>
  (Kl5 t0.fOp) >>= fun (a0,a1) =>
  ((
  if a1 = true then
  if (decide ((wr (nodes4 + 1)) > 400)) = true then
   some (true)
  else
   some (((t0.fKids.length : Int) != a0.fkids))
  else
  some (true)
  ) : Option (Bool)) >>= fun a2 =>
  if a2 = true then
  some 401
  else
  ((
  if (t0.fOp == 0) = true then
   (Kir (t0.fN,0,(wr (n1 - 1)))) >>= fun a3 =>
   some (a3)
  else
   ((
   if (t0.fOp == 1) = true then
   (Kir (t0.fN,0,2)) >>= fun a4 =>
   some (a4)
   else
   ((
   if a0.fgrade = true then
   (Kiu (clo2_0,t0.fN)) >>= fun a5 =>
   some (a5)
   else
   some ((t0.fN == 0))
   ) : Option (Bool)) >>= fun a6 =>
   some (a6)
   ) : Option (Bool)) >>= fun a7 =>
   some (a7)
  ) : Option (Bool)) >>= fun a8 =>
  ((
  if a0.ftyped = true then
   ((
   if a8 = true then
   (Kl8 (t0.fType,clo3_0)) >>= fun a9 =>
   some (a9)
   else
   some (false)
   ) : Option (Bool)) >>= fun b1 =>
   some (b1)
  else
   ((
   if a8 = true then
   some (((t0.fType.length : Int) == 0))
   else
   some (false)
   ) : Option (Bool)) >>= fun b2 =>
   some (b2)
  ) : Option (Bool)) >>= fun b3 =>
  if b3 = true then
  (Klg (t0,n1,clo2_0,clo3_0,(wr (nodes4 + 1)),0)) >>= fun fl => match fl with
  | .inl b4 =>
   some b4
  | .inr r =>
   some r
  else
  some 401
 partial_fixpoint
def Klg (p : K01 × Int × K00 × K00 × Int × Int) : Option ((Int) ⊕ (Int)) :=
 match p with
 | (t0,n1,clo2_0,clo3_0,a0,a1) =>
  if (decide (a1 < (t0.fKids.length : Int))) = true then
  (idx t0.fKids a1) >>= fun a2 =>
  (Klb (t0.fOp,a1)) >>= fun a3 =>
  (Klf (a2,(wr (n1 + a3)),clo2_0,clo3_0,a0)) >>= fun a4 =>
  if (decide (a4 > 400)) = true then
  some (.inr 401)
  else
  Klg (t0,n1,clo2_0,clo3_0,a4,(wr (a1 + 1)))
  else
  some (.inl a0)
 partial_fixpoint
end
def Klh (p : K01 × Int × K00 × K00 × Int) (r : Int) : Prop :=
 match p with
 | (t0,n1,clo2_0,clo3_0,nodes4) => Q77 Tryz.prog 134 [K1z t0,I n1,.fnb 145 [K1w clo2_0],.fn 218 [.ptr [I clo3_0.fSize,sI clo3_0.fPlus,sI clo3_0.fTimes,sB clo3_0.fBelow] 0],I nodes4] (I r) []
def Kli (p : K01 × Int × K00 × K00 × Int × Int) (fl : (Int) ⊕ (Int)) : Prop :=
 match p with
 | (t0,n1,clo2_0,clo3_0,a0,a1) => ∀ c : Ctx,c.nt = 104 → WpL Tryz.prog c (cl (cl (cr (cl (cr (cr (cr (cr (cr (cr (cr K7o))))))))))) (Kle c fl) (mkS [(1,I n1),(2,.fnb 145 [K1w clo2_0]),(3,.fn 218 [.ptr [I clo3_0.fSize,sI clo3_0.fPlus,sI clo3_0.fTimes,sB clo3_0.fBelow] 0]),(4,I a0),(5,.ra 1 0),(82,sM K0h t0.fKids),(83,I (t0.fKids.length : Int)),(84,I a1)] [(1,K1y t0)])
theorem Klj : (∀ p r,Klf p = some r → Klh p r) ∧ (∀ p r,Klg p = some r → Kli p r) := by
 refine Klf.mutual_partial_correctness Klh Kli ?_ ?_
 ·rintro impl_check_Kimpl_Systemhas_Kimpl_isTermOf_c1_l0_f impl_check_Kimpl_Systemhas_Kimpl_isTermOf_c1_l0_ih ⟨t0,n1,clo2_0,clo3_0,nodes4⟩ r h
  refine b0 Tryz.f134 K7o 104 [(0,K1z t0),(1,I n1),(2,.fnb 145 [K1w clo2_0]),(3,.fn 218 [.ptr [I clo3_0.fSize,sI clo3_0.fPlus,sI clo3_0.fTimes,sB clo3_0.fBelow] 0]),(4,I nodes4)] fun c hc => (rsd hc none [nW 1,oN] [0] [(5,.ra 1 0)] [(1,K1y t0)] tv (K9h hc 3 [4] [(4,I (wr (nodes4 + 1)))] ?_))
  obtain ⟨⟨a0,a1⟩,a2,h⟩ := Qe5 h
  refine rsd hc none [oN,oN,oc (.tup [.agg [.str a0.fword,I a0.fkids,.bool a0.fgrade,.bool a0.ftyped],.bool a1]),oN,oN,oN,nW 2,oN,oN] [] [(11,.ra 2 0),(12,.bool a1)] [(1,K1y t0),(2,.box [.str a0.fword,I a0.fkids,.bool a0.fgrade,.bool a0.ftyped])] (cq (Kl7 _ _ a2) K7j tv) (sN (sN ?_))
  obtain ⟨a3,a4,h⟩ := Qe5 h
  refine wi [12] [(36,.bool a3)] ?_ ?_
  ·replace h := a4
   rcases is h with ⟨a5,h⟩ | ⟨a5,h⟩
   ·rcases is h with ⟨a6,h⟩ | ⟨a6,h⟩
    ·obtain rfl := os h
     exact rj hc none (nN 5 ([oF,oN]++n_ 6 [oT])) (ar 3 (nF a5) (ar 6 (neF a6) (ai a6 tv)))
    obtain rfl := os h
    exact rj hc none (nN 5 [oF,oN,oN,oN,nQ ⟨[(32,I (t0.fKids.length : Int))],[],[]⟩,oN,oN,oN,oF]) (ar 3 (nF a5) (ar 3 a6 (ai (Qeb (d := 32) K0h t0.fKids) (ar 4 a6 tv))))
   obtain rfl := os h
   exact rj hc none ([oN,oN,oN,o_,o_,oT,oN]++n_ 6 [oT]) (ar 2 (neF (nT a5)) (ai (nT a5) (ar 6 nf (ai tt tv))))
  clear a4
  refine ic h (fun a7 h => ?_) fun a7 h => ?_
  ·obtain rfl := os h
   exact rs0 hc 1 [(10,I 401)] [] (rt (rq [true]))
  refine sk (sN (bk 0 (K9h hc 4 [36] [(40,.bool (t0.fOp == 0))] ?_)))
  obtain ⟨a8,a9,h⟩ := Qe5 h
  refine Wp.into (x := .normal) (mkS [(1,I n1),(2,.fnb 145 [K1w clo2_0]),(3,.fn 218 [.ptr [I clo3_0.fSize,sI clo3_0.fPlus,sI clo3_0.fTimes,sB clo3_0.fBelow] 0]),(4,I (wr (nodes4 + 1))),(5,.ra 1 0),(11,.ra 2 0),(12,.bool a8)] [(1,K1y t0),(2,.box [.str a0.fword,I a0.fkids,.bool a0.fgrade,.bool a0.ftyped])]) ?_ ?_
  ·replace h := a9
   refine ic h (fun b1 h => ?_) fun b1 h => ?_
   ·obtain ⟨b2,b3,h⟩ := Qe5 h
    obtain rfl := os h
    exact rj hc none (nN 4 [oc (.bool b2),oN]) (cq (Kit _ _ b3) K6q tv)
   refine K9e hc 4 [(1,I n1),(2,.fnb 145 [K1w clo2_0]),(3,.fn 218 [.ptr [I clo3_0.fSize,sI clo3_0.fPlus,sI clo3_0.fTimes,sB clo3_0.fBelow] 0]),(4,I (wr (nodes4 + 1))),(5,.ra 1 0),(11,.ra 2 0),(49,.bool (t0.fOp == 1))] ?_
   obtain ⟨b4,b5,h⟩ := Qe5 h
   refine wi [49] [(12,.bool b4)] ?_ ?_
   ·replace h := b5
    refine ic h (fun b6 h => ?_) fun b6 h => ?_
    ·obtain ⟨b7,b8,h⟩ := Qe5 h
     obtain rfl := os h
     exact rj hc none [oN,oN,oc (.bool b7),oN] (cq (Kit _ _ b8) K6q tv)
    refine K9h hc 3 [49] [(56,.bool a0.fgrade)] ?_
    obtain ⟨b9,c0,h⟩ := Qe5 h
    refine wi [56] [(12,.bool b9)] ?_ ?_
    ·replace h := c0
     refine ic h (fun c1 h => ?_) fun c1 h => ?_
     ·obtain ⟨c2,c3,h⟩ := Qe5 h
      obtain rfl := os h
      exact rj hc none [oN,oN,oN,oc (.bool c2),oN] (cq (Kiw _ _ c3) K6s tv)
     obtain rfl := os h
     exact rj0 hc 4
    clear c0
    obtain rfl := os h
    exact im
   clear b5
   obtain rfl := os h
   exact im
  clear a9
  refine sN (K9f hc 2 [11] [(64,.bool a0.ftyped)] [(1,K1y t0)] ?_)
  obtain ⟨c4,c5,h⟩ := Qe5 h
  refine wi [64,12] [(12,.bool c4)] ?_ ?_
  ·replace h := c5
   refine ic h (fun c6 h => ?_) fun c6 h => ?_
   ·obtain ⟨c7,c8,h⟩ := Qe5 h
    refine wi [64,12] [(12,.bool c7)] ?_ ?_
    ·replace h := c8
     rcases is h with ⟨c9,h⟩ | ⟨c9,h⟩
     ·obtain ⟨d0,d1,h⟩ := Qe5 h
      obtain rfl := os h
      exact rj hc none (nN 5 [oc (.bool d0),oT,oN]) (ar 4 c9 (cq (Kla _ _ d1) K7l (ai c9 tv)))
     obtain rfl := os h
     exact rj hc none ([oN,oN]++n_ 4 [oF,oN]) (ar 4 (neT c9) (ai c9 tv))
    clear c8
    obtain rfl := os h
    exact im
   obtain ⟨d2,d3,h⟩ := Qe5 h
   refine wi [64,12] [(12,.bool d2)] ?_ ?_
   ·replace h := d3
    rcases is h with ⟨d4,h⟩ | ⟨d4,h⟩
    ·obtain rfl := os h
     exact rj hc none (nN 4 [nQ ⟨[(76,I (t0.fType.length : Int))],[],[]⟩,oN,oT,oN]) (ar 3 d4 (ai (Qeb (d := 76) I t0.fType) (ar 2 d4 tv)))
    obtain rfl := os h
    exact rj hc none ([oN,oN]++n_ 4 [oF,oN]) (ar 4 (neT d4) (ai d4 tv))
   clear d3
   obtain rfl := os h
   exact im
  clear c5
  refine sN (K9h hc 2 [12] [(80,.bool (!c4))] ?_)
  rcases is h with ⟨d5,h⟩ | ⟨d5,h⟩
  ·refine cF (!c4) (nF d5) (sk (sN (rss hc none [oN,oN,nQ ⟨[(83,I (t0.fKids.length : Int))],[],[]⟩,oN] [(1,I n1),(2,.fnb 145 [K1w clo2_0]),(3,.fn 218 [.ptr [I clo3_0.fSize,sI clo3_0.fPlus,sI clo3_0.fTimes,sB clo3_0.fBelow] 0]),(4,I (wr (nodes4 + 1))),(5,.ra 1 0),(82,sM K0h t0.fKids),(83,I (t0.fKids.length : Int)),(84,I 0)] (ai (Qeb (d := 83) K0h t0.fKids) tv) (bk 1 ?_))))
   obtain ⟨fl,d6,h⟩ := Qe5 h
   have hL := impl_check_Kimpl_Systemhas_Kimpl_isTermOf_c1_l0_ih _ _ d6 c hc
   refine lp ?_
   rcases fl with d7 | r
   ·refine wl hL ?_
    obtain rfl := os h
    exact Qdj (rs0 hc 2 [(10,I d7)] [] (rt (rq [true])))
   refine WpL.mono hL ?_
   rintro _ _ ⟨rfl,hfin⟩
   obtain rfl := os h
   exact ⟨.inl rfl,hfin⟩
  refine cT (!c4) (nT d5) ?_
  obtain rfl := os h
  exact rs0 hc 1 [(10,I 401)] [] (rt (rq [true]))
 ·rintro impl_check_Kimpl_Systemhas_Kimpl_isTermOf_c1_f impl_check_Kimpl_Systemhas_Kimpl_isTermOf_c1_l0_f impl_check_Kimpl_Systemhas_Kimpl_isTermOf_c1_ih impl_check_Kimpl_Systemhas_Kimpl_isTermOf_c1_l0_ih ⟨t0,n1,clo2_0,clo3_0,d8,d9⟩ r h
  intro c hc
  refine WpL.step (K9h hc 1 [] [(85,.bool (decide (d9 < (t0.fKids.length : Int))))] (sN (ic h (fun e0 h => ?_) fun e0 h => ?_)))
  ·refine sk (sN (bk 2 ?_))
   obtain ⟨e1,e2,h⟩ := Qe5 h
   refine rsd hc none [oN,eL (K1z e1),oN,nW 4,oN,oN] [85] [(13,I d9),(14,.ra 4 0)] [(1,K1y t0),(4,K1y e1)] (ai (Qe9 e2 (K0o e1)) tv) ?_
   obtain ⟨e3,e4,e5,e6,h⟩ := bq2 h
   refine rsd hc (rx [[0],[0],[0],[0,2],[0],[0,2,3,4],[0,1,2,3,4,5],[0],[0],[0],[10],[11]]) (nN 5 ([oc (I e3)]++nN 4 [oc (I e5),oN])) [13,14,4] [(4,I e5)] [(1,K1y t0)] (cq (Kld _ _ e4) K7n (cq (impl_check_Kimpl_Systemhas_Kimpl_isTermOf_c1_ih _ _ e6) K7p tv)) (K9h hc 2 [] [(101,.bool (decide (e5 > 400)))] (ic h (fun e7 h => ?_) fun e7 h => ?_))
   ·obtain rfl := os h
    exact rs0 hc 1 [(10,I 401)] [] (rt (re [true]))
   exact sk (ri0 hc 2 (Qdn (impl_check_Kimpl_Systemhas_Kimpl_isTermOf_c1_l0_ih _ _ h c hc)))
  obtain rfl := os h
  exact xt 1 (Qdh (Qdo (iv [])))
theorem Klk : ∀ p r,Klf p = some r → Klh p r := Klj.1
theorem Kll : ∀ p r,Klg p = some r → Kli p r := Klj.2
def Klm (p : K00 × K01 × Int) : Option (Bool) :=
 match p with
 | (s0,t1,n2) =>
  ((
  (Kir (n2,0,8)) >>= fun a0 =>
  if a0 = true then
  (Klf (t1,n2,s0,s0,0)) >>= fun a1 =>
  some ((decide (a1 ≤ 400)))
  else
  some (false)
  ) : Option (Bool)) >>= fun a2 =>
  some a2
def Kln (p : K00 × K01 × Int) (r : Bool) : Prop :=
 match p with
 | (s0,t1,n2) => Q77 Tryz.prog 172 [K1w s0,K1z t1,I n2] (.bool r) []
theorem Klo : ∀ p r,Klm p = some r → Kln p r := by
 rintro ⟨s0,t1,n2⟩ r h
 unfold Klm at h
 refine b0 Tryz.f172 K7q 18 [(0,K1w s0),(1,K1z t1),(2,I n2)] fun c hc => (rsd hc none [nW 1,nW 2,oN] [0,1] [(3,.ra 1 0),(4,.ra 2 0)] [(1,K1v s0),(2,K1y t1)] tv (sN ?_))
 obtain ⟨a0,a1,h⟩ := Qe5 h
 refine Wp.into (x := .normal) (mkS [(6,.bool a0)] []) ?_ ?_
 ·replace h := a1
  obtain ⟨a2,a3,h⟩ := Qe5 h
  rcases is h with ⟨a4,h⟩ | ⟨a4,h⟩
  ·obtain ⟨a5,a6,h⟩ := Qe5 h
   obtain rfl := os h
   exact rj hc none ([oN,oc (.bool a2)]++nN 6 [oc (I a5),oN,oT,oN]) (cq (Kit _ _ a3) K6q (ar 6 a4 (ac (Klk _ _ a6) K7p (Or.inr rfl : ([1] : List Nat) = [] ∨ noSh (I a5) = true) (ar 2 a4 tv))))
  obtain rfl := os h
  exact rj hc none ([oN,oc (.bool a2),oN]++n_ 7 [oF,oN]) (cq (Kit _ _ a3) K6q (ar 7 (neT a4) (ai a4 tv)))
 clear a1
 obtain rfl := os h
 exact rt (rq [true])
def Klp (c : Ctx) : LL → Exit → Q0a → Prop
 | a0 => Qdr c (.exit 0) (mkS [(3,.rs 3)] [(3,rM K14 a0)])
def Klq (p : (List Int) × LL × Int) : Option (LL) :=
 match p with
 | (ty0,a0,a1) =>
  if (decide (a1 < (ty0.length : Int))) = true then
  (Kkc (ty0,a1)) >>= fun a2 =>
  (cut ty0 (some a1) (some a2) (some a2)) >>= fun a3 =>
  (Qei (a0.length + [a3].length) 24) >>= fun _ =>
  Klq (ty0,(a0 ++ [a3]),a2)
  else
  some (a0)
 partial_fixpoint
def Klr (p : (List Int) × LL × Int) (fl : LL) : Prop :=
 match p with
 | (ty0,a0,a1) => ∀ c : Ctx,c.nt = 23 → WpL Tryz.prog c (cl (cl (cr (cl (cr (cr K7s)))))) (Klp c fl) (mkS [(0,sI ty0),(3,.rs 3),(4,I a1)] [(3,rM K14 a0)])
theorem Kls : ∀ p r,Klq p = some r → Klr p r := by
 refine Klq.partial_correctness Klr ?_
 rintro impl_parts_l0_f impl_parts_l0_ih ⟨ty0,a0,a1⟩ r h
 intro c hc
 refine WpL.step (sN (K9g hc none [oN,oN,nQ ⟨[(8,I (ty0.length : Int))],[],[]⟩,oN] [] [(9,.bool (decide (a1 < (ty0.length : Int))))] (ai (Qeb (d := 8) I ty0) tv) (ic h (fun a2 h => ?_) fun a2 h => ?_)))
 ·refine sk (bk 1 ?_)
  obtain ⟨a3,a4,h⟩ := Qe5 h
  refine K9g hc none [oN,oN,oc (I a3),oN] [9] [(5,I a3)] (cq (Kke _ _ a4) K76 tv) ?_
  obtain ⟨a5,a6,_,a7,h⟩ := bq2 h
  exact rsd hc none (nN 5 [nQ ⟨[(18,sI a5)],[],[]⟩,some (.mk 6 false),some (.eqv (.mk 7 true) ⟨[(20,.rs 7)],[(7,some (rM K14 (a0 ++ [a5]))),(3,none),(6,none)],[7]⟩),oN]) [3,4] [(3,.rs 7)] [(7,rM K14 (a0 ++ [a5]))] (ad (Qee (d := 18) I a6) (Qed (enc := I) (sz := 1) Qeo a6) (congrArg (fun z => (⟨[(20,.rs 7)],[(7,some (.arr z)),(3,none),(6,none)],[7]⟩ : Wr)) ((List.map_append).symm : (List.map K14 a0) ++ (List.map K14 [a5]) = List.map K14 (a0 ++ [a5]))) (Qej (enc1 := K14) (enc2 := K14) (e1 := a0) (e2 := [a5]) (sz := 1) K17 K17 a7) tv) (K9a hc 2 [(0,sI ty0),(3,.rs 7),(4,I a3)] (Qdn (WpL.view (fun a w hv => SRx.renL [(3,7)] hv (by kernel_rfl) (by kernel_rfl) (by kernel_rfl)) (impl_parts_l0_ih _ _ h c hc))))
 obtain rfl := os h
 exact xt 0 (Qdh (Qdo (iv [])))
def Klt (ty0 : (List Int)) : Option (LL) :=
 (Klq (ty0,[],1)) >>= fun a0 =>
 some a0
def Klu (ty0 : (List Int)) (r : LL) : Prop :=
 Q77 Tryz.prog 158 [sI ty0] (.osl (List.map K14 r)) []
theorem Klv : ∀ p r,Klt p = some r → Klu p r := by
 rintro ty0 r h
 unfold Klt at h
 refine b0 Tryz.f158 K7s 23 [(0,sI ty0)] fun c hc => (K9f hc 1 [] [] [] (K9f hc 1 [] [(3,.nils)] [] (sN (rs0 hc 1 [(0,sI ty0),(3,.nils),(4,I 1)] [] (bk 0 ?_)))))
 obtain ⟨a0,a1,h⟩ := Qe5 h
 have hL := Kls _ _ a1 c hc
 refine Wp.loopN (by kernel_rfl) (WpL.view (fun a w hv => SRx.renL [(3,8)] (SRx.nilTL 3 8 hv (by kernel_rfl) (by kernel_rfl)) (by kernel_rfl) (by kernel_rfl) (by kernel_rfl)) (?_ : WpL _ c _ _ (mkS [(0,sI ty0),(3,.rs 3),(4,I 1)] [(3,.arr (List.map K14 []))])))
 refine wl hL ?_
 obtain rfl := os h
 exact Qdj (K9e hc 2 [(2,.rs 3)] (rt (rq [true])))
def Klw (p : K01 × Int × (List Int)) : Option (LL) :=
 match p with
 | (t0,kid1,first2) =>
  if (t0.fOp == 9) = true then
  some [t0.fType]
  else
  (Klb (t0.fOp,kid1)) >>= fun a0 =>
  if (a0 == 0) = true then
  some []
  else
  (Klt first2) >>= fun a1 =>
  if (t0.fOp == 5) = true then
  (idx a1 1) >>= fun a2 =>
  (idx a1 0) >>= fun a3 =>
  some [a2,a3]
  else
  if (t0.fOp == 8) = true then
  (idx a1 (wr (kid1 - 1))) >>= fun a4 =>
  some [a4]
  else
  some a1
def Klx (p : K01 × Int × (List Int)) (r : LL) : Prop :=
 match p with
 | (t0,kid1,first2) => Q77 Tryz.prog 219 [K1z t0,I kid1,sI first2] (.osl (List.map K14 r)) []
theorem Kly : ∀ p r,Klw p = some r → Klx p r := by
 rintro ⟨t0,kid1,first2⟩ r h
 unfold Klw at h
 refine b0 Tryz.f219 K7u 43 [(0,K1z t0),(1,I kid1),(2,sI first2)] fun c hc => (rsd hc none [nW 1,oN] [0] [(3,.ra 1 0)] [(1,K1y t0)] tv (sN (bk 0 (K9h hc 4 [] [(8,.bool (t0.fOp == 9))] (ic h (fun a0 h => ?_) fun a0 h => ?_)))))
 ·obtain rfl := os h
  exact rs hc none [oN,oN,some (.mk 2 false),oN] [(6,.rs 2)] [(2,.arr (List.map K14 [t0.fType]))] tv (rt (rq [true]))
 obtain ⟨a1,a2,h⟩ := Qe5 h
 refine K9g hc none [oN,oN,oN,oc (I a1),oN,oN] [8] [(15,.bool (a1 == 0))] (cq (Kld _ _ a2) K7n tv) (ic h (fun a3 h => ?_) fun a3 h => ?_)
 ·obtain rfl := os h
  exact rs0 hc 1 [(6,.nils)] [] (rt (rq [true]))
 refine sk ?_
 obtain ⟨a4,a5,h⟩ := Qe5 h
 refine rsd hc none [oN,some (.call (.osl (List.map K14 a4)) [] 3),oN] [15,2] [(7,.rs 3)] [(1,K1y t0),(3,rM K14 a4)] (cq (Klv _ _ a5) K7t tv) (sN (K9f hc 2 [3] [(24,I t0.fOp)] [(3,rM K14 a4)] (bk 1 (K9e hc 2 [(1,I kid1),(7,.rs 3),(24,I t0.fOp),(25,.bool (t0.fOp == 5))] (ic h (fun a6 h => ?_) fun a6 h => ?_)))))
 ·obtain ⟨a7,a8,a9,b1,h⟩ := bq2 h
  obtain rfl := os h
  exact rs hc (rx [[0],[1],[2],[0],[0,3],[0,3,4],[6],[7]]) [oN,oN,eL (sI a7),oN,oN,eL (sI a9),some (.mk 4 false),oN] [(6,.rs 4)] [(4,.arr (List.map K14 [a7,a9]))] (ad (Qea (enc := K14) a8) (xL a8).2 (Qea (enc := K14) b1) (xL b1).2 tv) (rt (rq [true]))
 refine K9h hc 2 [24,25] [(34,.bool (t0.fOp == 8))] (ic h (fun b2 h => ?_) fun b2 h => ?_)
 ·obtain ⟨b3,b4,h⟩ := Qe5 h
  obtain rfl := os h
  exact rs hc none (nN 4 [eL (sI b3),some (.mk 5 false),oN]) [(6,.rs 5)] [(5,.arr (List.map K14 [b3]))] (ab (Qea (enc := K14) b4) (xL b4).2 tv) (rt (rq [true]))
 obtain rfl := os h
 exact sk (K9e hc 2 [(6,.rs 3)] (rt (rq [true])))
def Klz (n1 : Int) : Option (Unit) :=
 if (decide (n1 < 0)) = true then
 none
 else
 if (decide ((wr (n1 - (wr (0 - 0)))) > 0)) = true then
 (chk (0 ≤ (wr (n1 - (wr (0 - 0)))) ∧ (Int.toNat (wr (n1 - (wr (0 - 0))))) * 24 ≤ 140737488355328)) >>= fun _ =>
 some ()
 else
 some ()
def Km0 (n1 : Int) (r : Unit) : Prop :=
 Qac Tryz.prog 242 n1
theorem Km1 : ∀ p r,Klz p = some r → Km0 p r := by
 rintro n1 r h
 unfold Klz at h
 show Qac Tryz.prog 242 n1
 refine Qac.of_body K3d (fn := Tryz.f242) (code := K7w) (by kernel_rfl) (by kernel_rfl) (nt := 27) (by kernel_rfl) (by kernel_rfl) (fun c hc => ?_)
 refine rs0 hc 1 [(0,.nils),(1,I n1)] [] (sN (rs0 hc 2 [(0,.nils),(1,I n1),(6,.bool (decide (n1 < 0)))] [] (ic h (fun a0 h => ?_) fun a0 h => ?_)))
 ·cases h
 refine sk (sN (K9f hc 8 [1,6] [(1,I (wr (n1 - (wr (0 - 0)))))] [] (K9f hc 2 [] [(16,.bool (decide ((wr (n1 - (wr (0 - 0)))) > 0)))] [] (ic h (fun a1 h => ?_) fun a1 h => ?_))))
 ·obtain ⟨_,a2,h⟩ := Qe5 h
  exact rg hc none (nN 5 [nW 1,oN,oN,nW 2,oN]) [(0,.rs 2)] [(2,.ary (List.map K14 []))] (ai (Qe7 a2) tv) (K9e hc 2 [(4,.rs 2)] (rt (Qfo.ret (by kernel_rfl))))
 exact sk (rs0 hc 2 [(4,.nils)] [] (rt (Qfo.ret (by kernel_rfl))))
def Km2 (c : Ctx) (slices0 : List LL) : Int → Exit → Q0a → Prop
 | a0 => Qdr c (.exit 0) (mkS [(0,sM K1q slices0),(3,I a0)] [])
def Km3 (p : (List LL) × Int × Int) : Option (Int) :=
 match p with
 | (slices0,a0,a1) =>
  if (decide (a1 < (slices0.length : Int))) = true then
  (idx slices0 a1) >>= fun a2 =>
  ((
  if (decide ((wr (a0 + (a2.length : Int))) < 0)) = true then
  none
  else
  some (())
  ) : Option (Unit)) >>= fun () =>
  Km3 (slices0,(wr (a0 + (a2.length : Int))),(wr (a1 + 1)))
  else
  some (a0)
 partial_fixpoint
def Km4 (p : (List LL) × Int × Int) (fl : Int) : Prop :=
 match p with
 | (slices0,a0,a1) => ∀ c : Ctx,c.nt = 36 → WpL Tryz.prog c (cl (cl (cr (cl (cr (cr K7y)))))) (Km2 c slices0 fl) (mkS [(0,sM K1q slices0),(3,I a0),(9,sM K1q slices0),(10,I (slices0.length : Int)),(11,I a1)] [])
theorem Km5 : ∀ p r,Km3 p = some r → Km4 p r := by
 refine Km3.partial_correctness Km4 ?_
 rintro slices_Concat_Lint_l0_f slices_Concat_Lint_l0_ih ⟨slices0,a0,a1⟩ r h
 intro c hc
 refine WpL.step (K9f hc 1 [] [(12,.bool (decide (a1 < (slices0.length : Int))))] [] (sN (ic h (fun a2 h => ?_) fun a2 h => ?_)))
 ·refine sk (sN (bk 1 ?_))
  obtain ⟨a3,a4,h⟩ := Qe5 h
  refine rsd hc none [eL (sL a3),oN,oN] [12] [(5,sL a3)] [] (ai (Qe9 a4 (K1r a3)) tv) (rsd hc none [oN,oN,nQ ⟨[(17,I (a3.length : Int))],[],[]⟩,oN,oN] [5,3] [(3,I (wr (a0 + (a3.length : Int))))] [] (ai (Qeb (d := 17) K14 a3) tv) (rs0 hc 2 [(0,sM K1q slices0),(3,I (wr (a0 + (a3.length : Int)))),(9,sM K1q slices0),(10,I (slices0.length : Int)),(11,I a1),(20,.bool (decide ((wr (a0 + (a3.length : Int))) < 0)))] [] ?_))
  obtain ⟨⟨⟩,a5,h⟩ := Qe5 h
  refine wi [20] [] ?_ ?_
  ·replace h := a5
   refine ic h (fun a6 h => ?_) fun a6 h => ?_
   ·cases h
   exact sk (iv [])
  clear a5
  exact ri0 hc 2 (Qdn (slices_Concat_Lint_l0_ih _ _ h c hc))
 obtain rfl := os h
 exact xt 0 (Qdh (Qdo (iv [])))
def Km6 (c : Ctx) : LL → Exit → Q0a → Prop
 | a0 => Qdr c (.exit 2) (mkS [(6,.rs 1)] [(1,.ary (List.map K14 a0))])
def Km7 (p : (List LL) × LL × Int) : Option (LL) :=
 match p with
 | (slices0,a0,a1) =>
  if (decide (a1 < (slices0.length : Int))) = true then
  (idx slices0 a1) >>= fun a2 =>
  (Qei (a0.length + a2.length) 24) >>= fun _ =>
  Km7 (slices0,(a0 ++ a2),(wr (a1 + 1)))
  else
  some (a0)
 partial_fixpoint
def Km8 (p : (List LL) × LL × Int) (fl : LL) : Prop :=
 match p with
 | (slices0,a0,a1) => ∀ c : Ctx,c.nt = 36 → WpL Tryz.prog c (cl (cl (cr (cl (cr (cr (cr (cr K7y)))))))) (Km6 c fl) (mkS [(6,.rs 1),(25,sM K1q slices0),(26,I (slices0.length : Int)),(27,I a1)] [(1,.ary (List.map K14 a0))])
theorem Km9 : ∀ p r,Km7 p = some r → Km8 p r := by
 refine Km7.partial_correctness Km8 ?_
 rintro slices_Concat_Lint_l1_f slices_Concat_Lint_l1_ih ⟨slices0,a0,a1⟩ r h
 intro c hc
 refine WpL.step (K9h hc 1 [] [(28,.bool (decide (a1 < (slices0.length : Int))))] (sN (ic h (fun a2 h => ?_) fun a2 h => ?_)))
 ·refine sk (sN (bk 3 ?_))
  obtain ⟨a3,a4,h⟩ := Qe5 h
  refine K9g hc none [eL (sL a3),oN,oN] [28] [(8,sL a3)] (ai (Qe9 a4 (K1r a3)) tv) ?_
  obtain ⟨_,a5,h⟩ := Qe5 h
  exact rgd hc none [oN,oN,some (.eqv (.new 3) ⟨[(33,.rs 3)],[(3,some (.ary (List.map K14 (a0 ++ a3)))),(1,none)],[3]⟩),oN] [8,6] [(6,.rs 3)] [(3,.ary (List.map K14 (a0 ++ a3)))] (ab (congrArg (fun z => (⟨[(33,.rs 3)],[(3,some (.ary z)),(1,none)],[3]⟩ : Wr)) ((List.map_append).symm : (List.map K14 a0) ++ (List.map K14 a3) = List.map K14 (a0 ++ a3))) (Qfs (enc := K14) (e1 := a0) (e2 := a3) (fun _ => rfl) a5) tv) (K9a hc 2 [(6,.rs 3),(25,sM K1q slices0),(26,I (slices0.length : Int)),(27,I (wr (a1 + 1)))] (Qdn (WpL.view (fun a w hv => SRx.renL [(1,3)] hv (by kernel_rfl) (by kernel_rfl) (by kernel_rfl)) (slices_Concat_Lint_l1_ih _ _ h c hc))))
 obtain rfl := os h
 exact xt 2 (Qdh (Qdo (iv [])))
def Kma (slices0 : (List LL)) : Option (LL) :=
 (Km3 (slices0,0,0)) >>= fun a0 =>
 (Klz a0) >>= fun _ =>
 (Km7 (slices0,[],0)) >>= fun a1 =>
 some a1
def Kmb (slices0 : (List LL)) (r : LL) : Prop :=
 Q77 Tryz.prog 220 [sM K1q slices0] (sL r) []
theorem Kmc : ∀ p r,Kma p = some r → Kmb p r := by
 rintro slices0 r h
 unfold Kma at h
 refine b0 Tryz.f220 K7y 36 [(0,sM K1q slices0)] fun c hc => (K9f hc 1 [] [] [] (K9f hc 1 [] [(3,I 0)] [] (sN (rs hc none [oN,nQ ⟨[(10,I (slices0.length : Int))],[],[]⟩,oN] [(0,sM K1q slices0),(3,I 0),(9,sM K1q slices0),(10,I (slices0.length : Int)),(11,I 0)] [] (ai (Qeb (d := 10) K1q slices0) tv) (bk 0 ?_)))))
 obtain ⟨a0,a1,h⟩ := Qe5 h
 have hL := Km5 _ _ a1 c hc
 refine lp (wl hL (Qdj ?_))
 obtain ⟨_,a2,h⟩ := Qe5 h
 refine rsd hc none [oN,nW 1,oN] [3] [(6,.rs 1)] [(1,.ary (List.map K14 []))] (ab (Km1 _ _ a2) K7x tv) (sN (rss hc none [oN,nQ ⟨[(26,I (slices0.length : Int))],[],[]⟩,oN] [(6,.rs 1),(25,sM K1q slices0),(26,I (slices0.length : Int)),(27,I 0)] (ai (Qeb (d := 26) K1q slices0) tv) (bk 2 ?_)))
 obtain ⟨a3,a4,h⟩ := Qe5 h
 have hL := Km9 _ _ a4 c hc
 refine lp (wl hL (Qdj (K9e hc 2 [(2,.rs 1)] (Wp.view (fun a w hv => SRx.frzYL 1 (xs := List.map K14 a3) hv (by kernel_rfl) (by kernel_rfl) (by kernel_rfl)) (?_ : Wp Tryz.prog c _ _ (mkS [(2,sL a3)] []))))))
 obtain rfl := os h
 exact rt (rq [false])
def Kmd : Option (List (List Nat)) := rx [[0],[0],[0],[0],[0],[0,3,4],[0,3,4,5],[0],[0],[0,7,8],[0,7,8,9],[0,2,3,4,5,6,7,8,9,10],[12],[13]]
def Kme (p : K06 × K01 × Int × (List Int)) : Option (Int) :=
 match p with
 | (p0,t1,kid2,ty3) =>
  (idx ty3 0) >>= fun a0 =>
  (Kk9 a0) >>= fun (a1,a2) =>
  ((
  if (t1.fOp == 2) = true then
  some ((t1.fOp == 2))
  else
  ((
  if (t1.fOp == 3) = true then
  some ((kid2 == 0))
  else
  some (false)
  ) : Option (Bool)) >>= fun a3 =>
  some (a3)
  ) : Option (Bool)) >>= fun a4 =>
  ((
  if a4 = true then
  some ((0,2))
  else
  ((
  if (t1.fOp == 5) = true then
  some ((kid2 == 0))
  else
  some (false)
  ) : Option (Bool)) >>= fun a5 =>
  ((
  if a5 = true then
  some ((1,4))
  else
  ((
  if (t1.fOp == 8) = true then
  some ((kid2 == 0))
  else
  some (false)
  ) : Option (Bool)) >>= fun a6 =>
  ((
  if a6 = true then
  some ((2,5))
  else
  ((
  if (t1.fOp == 10) = true then
  some ((kid2 == 0))
  else
  some (false)
  ) : Option (Bool)) >>= fun a7 =>
  ((
  if a7 = true then
  some ((3,6))
  else
  ((
  if (t1.fOp == 12) = true then
  some ((kid2 == 0))
  else
  some (false)
  ) : Option (Bool)) >>= fun a8 =>
  ((
  if a8 = true then
  some ((4,7))
  else
  some (((-1),0))
  ) : Option (Int × Int)) >>= fun (a9,b1) =>
  some ((a9,b1))
  ) : Option (Int × Int)) >>= fun (b2,b3) =>
  some ((b2,b3))
  ) : Option (Int × Int)) >>= fun (b4,b5) =>
  some ((b4,b5))
  ) : Option (Int × Int)) >>= fun (b6,b7) =>
  some ((b6,b7))
  ) : Option (Int × Int)) >>= fun (b8,b9) =>
  ((
  if (decide (b8 ≥ 0)) = true then
  some ((a1 != b8))
  else
  some (false)
  ) : Option (Bool)) >>= fun c0 =>
  if c0 = true then
  some b9
  else
  ((
  if (kid2 == 0) = true then
  if (t1.fOp == 5) = true then
  (Kj3 (p0.fs,1,t1.fN)) >>= fun c1 =>
  some ((!c1))
  else
  if (t1.fOp == 8) = true then
  (Kj3 (p0.fs,1,t1.fN)) >>= fun c1 =>
  some ((!c1))
  else
  if (t1.fOp == 12) = true then
  (Kj3 (p0.fs,1,t1.fN)) >>= fun c1 =>
  some ((!c1))
  else
  some (false)
  else
  some (false)
  ) : Option (Bool)) >>= fun c2 =>
  if c2 = true then
  some 8
  else
  some 0
def Kmf (p : K06 × K01 × Int × (List Int)) (r : Int) : Prop :=
 match p with
 | (p0,t1,kid2,ty3) => Q77 Tryz.prog 221 [K2b p0,K1z t1,I kid2,sI ty3] (I r) []
theorem Kmg : ∀ p r,Kme p = some r → Kmf p r := by
 rintro ⟨p0,t1,kid2,ty3⟩ r h
 unfold Kme at h
 refine b0 Tryz.f221 K82 96 [(0,K2b p0),(1,K1z t1),(2,I kid2),(3,sI ty3)] fun c hc => (rsd hc none [nW 1,nW 2,oN] [0,1] [(4,.ra 1 0),(5,.ra 2 0)] [(1,K2a p0),(2,K1y t1)] tv ?_)
 obtain ⟨a0,a1,⟨a2,a3⟩,a4,h⟩ := bq2 h
 refine K9g hc none ([oN,eL (I a0),oN,oc (.tup [I a2,I a3])]++nN 5 []) [3] [(9,I a2)] (ai (ix a1) (cq (Kkb _ _ a4) K74 tv)) (K9h hc 2 [] [(11,I (-1)),(12,I 0)] (sN (bk 0 (sN (K9h hc 4 [] [(20,.bool (t1.fOp == 2))] ?_)))))
 obtain ⟨a5,a6,h⟩ := Qe5 h
 refine wi [20] [(20,.bool a5)] ?_ ?_
 ·replace h := a6
  refine ic h (fun a7 h => ?_) fun a7 h => ?_
  ·obtain rfl := os h
   exact sk im
  obtain ⟨a8,a9,h⟩ := Qe5 h
  refine wi [20] [(20,.bool a8)] ?_ ?_
  ·replace h := a9
   rcases is h with ⟨b1,h⟩ | ⟨b1,h⟩
   ·obtain rfl := os h
    exact rj hc none (nN 6 [oT,oN]) (ar 3 b1 tv)
   obtain rfl := os h
   exact rj hc none (nN 4 [o_,o_,oF,oN]) (ar 2 (neT b1) (ai b1 tv))
  clear a9
  obtain rfl := os h
  exact im
 clear a6
 obtain ⟨⟨b2,b3⟩,b4,h⟩ := Qe5 h
 refine Wp.into (x := .normal) (mkS [(2,I kid2),(4,.ra 1 0),(5,.ra 2 0),(9,I a2),(11,I b2),(12,I b3)] [(1,K2a p0),(2,K1y t1)]) ?_ ?_
 ·replace h := b4
  refine ic h (fun b5 h => ?_) fun b5 h => ?_
  ·obtain ⟨rfl,rfl⟩ := Prod.mk.inj (os h)
   exact rj0 hc 2
  refine sN ?_
  obtain ⟨b6,b7,h⟩ := Qe5 h
  refine Wp.into (x := .normal) (mkS [(2,I kid2),(4,.ra 1 0),(5,.ra 2 0),(9,I a2),(11,I (-1)),(12,I 0),(31,.bool b6)] [(1,K2a p0),(2,K1y t1)]) ?_ ?_
  ·replace h := b7
   rcases is h with ⟨b8,h⟩ | ⟨b8,h⟩
   ·obtain rfl := os h
    exact rj hc none (nN 6 [oT,oN]) (ar 3 b8 tv)
   obtain rfl := os h
   exact rj hc none (nN 4 [o_,o_,oF,oN]) (ar 2 (neT b8) (ai b8 tv))
  clear b7
  obtain ⟨⟨b9,c0⟩,c1,h⟩ := Qe5 h
  refine wi [11,12,31] [(11,I b9),(12,I c0)] ?_ ?_
  ·replace h := c1
   refine ic h (fun c2 h => ?_) fun c2 h => ?_
   ·obtain ⟨rfl,rfl⟩ := Prod.mk.inj (os h)
    exact rj0 hc 2
   refine sN ?_
   obtain ⟨c3,c4,h⟩ := Qe5 h
   refine wi [31] [(39,.bool c3)] ?_ ?_
   ·replace h := c4
    rcases is h with ⟨c5,h⟩ | ⟨c5,h⟩
    ·obtain rfl := os h
     exact rj hc none (nN 6 [oT,oN]) (ar 3 c5 tv)
    obtain rfl := os h
    exact rj hc none (nN 4 [o_,o_,oF,oN]) (ar 2 (neT c5) (ai c5 tv))
   clear c4
   obtain ⟨⟨c6,c7⟩,c8,h⟩ := Qe5 h
   refine wi [39,11,12] [(11,I c6),(12,I c7)] ?_ ?_
   ·replace h := c8
    refine ic h (fun c9 h => ?_) fun c9 h => ?_
    ·obtain ⟨rfl,rfl⟩ := Prod.mk.inj (os h)
     exact rj0 hc 2
    refine sN ?_
    obtain ⟨d0,d1,h⟩ := Qe5 h
    refine wi [39] [(47,.bool d0)] ?_ ?_
    ·replace h := d1
     rcases is h with ⟨d2,h⟩ | ⟨d2,h⟩
     ·obtain rfl := os h
      exact rj hc none (nN 6 [oT,oN]) (ar 3 d2 tv)
     obtain rfl := os h
     exact rj hc none (nN 4 [o_,o_,oF,oN]) (ar 2 (neT d2) (ai d2 tv))
    clear d1
    obtain ⟨⟨d3,d4⟩,d5,h⟩ := Qe5 h
    refine wi [47,11,12] [(11,I d3),(12,I d4)] ?_ ?_
    ·replace h := d5
     refine ic h (fun d6 h => ?_) fun d6 h => ?_
     ·obtain ⟨rfl,rfl⟩ := Prod.mk.inj (os h)
      exact rj0 hc 2
     refine sN ?_
     obtain ⟨d7,d8,h⟩ := Qe5 h
     refine wi [47] [(55,.bool d7)] ?_ ?_
     ·replace h := d8
      rcases is h with ⟨d9,h⟩ | ⟨d9,h⟩
      ·obtain rfl := os h
       exact rj hc none (nN 6 [oT,oN]) (ar 3 d9 tv)
      obtain rfl := os h
      exact rj hc none (nN 4 [o_,o_,oF,oN]) (ar 2 (neT d9) (ai d9 tv))
     clear d8
     obtain ⟨⟨e0,e1⟩,e2,h⟩ := Qe5 h
     refine wi [55,11,12] [(11,I e0),(12,I e1)] ?_ ?_
     ·replace h := e2
      refine ic h (fun e3 h => ?_) fun e3 h => ?_
      ·obtain ⟨rfl,rfl⟩ := Prod.mk.inj (os h)
       exact rj0 hc 2
      refine sk ?_
      obtain ⟨rfl,rfl⟩ := Prod.mk.inj (os h)
      exact iv []
     clear e2
     obtain ⟨rfl,rfl⟩ := Prod.mk.inj (os h)
     exact im
    clear d5
    obtain ⟨rfl,rfl⟩ := Prod.mk.inj (os h)
    exact im
   clear c8
   obtain ⟨rfl,rfl⟩ := Prod.mk.inj (os h)
   exact im
  clear c1
  obtain ⟨rfl,rfl⟩ := Prod.mk.inj (os h)
  exact im
 clear b4
 refine sN (sN ?_)
 obtain ⟨e4,e5,h⟩ := Qe5 h
 refine wi [9,11] [(69,.bool e4)] ?_ ?_
 ·replace h := e5
  rcases is h with ⟨e6,h⟩ | ⟨e6,h⟩
  ·obtain rfl := os h
   exact rj hc none (nN 6 [oT]) (ar 4 e6 tv)
  obtain rfl := os h
  exact rj hc none [oN,oN,oN,o_,o_,o_,oF] (ar 3 (neT e6) (ai e6 tv))
 clear e5
 refine ic h (fun e7 h => ?_) fun e7 h => ?_
 ·obtain rfl := os h
  exact rs0 hc 2 [(8,I b3)] [] (rt (rq [true]))
 refine sk (sN (sN ?_))
 obtain ⟨e8,e9,h⟩ := Qe5 h
 refine Wp.into (x := .normal) (mkS [(95,.bool e8)] []) ?_ ?_
 ·replace h := e9
  rcases is h with ⟨f0,h⟩ | ⟨f0,h⟩
  ·rcases is h with ⟨f1,h⟩ | ⟨f1,h⟩
   ·obtain ⟨f2,f3,h⟩ := Qe5 h
    obtain rfl := os h
    exact rj hc none (nN 7 ([o_,o_,o_,oT,oN,o_,o_,o_,oT,oT]++nN 5 [oc (.bool f2),oN,oT])) (ar 4 f0 (ar 3 (neF f1) (ac f0 f1 f0 (ar 3 nf (ac f0 tt f0 (ar 5 tt (cq (Kj5 _ _ f3) K6x (ar 2 tt tv))))))))
   rcases is h with ⟨f4,h⟩ | ⟨f4,h⟩
   ·obtain ⟨f2,f3,h⟩ := Qe5 h
    obtain rfl := os h
    exact rj hc none (nN 10 ([oF,oN,o_,o_,o_,oT,oT]++nN 5 [oc (.bool f2),oN,oT])) (ar 4 f0 (ar 3 f1 (ac f0 f1 f0 (ar 3 (neF f4) (ac f0 f4 f0 (ar 5 tt (cq (Kj5 _ _ f3) K6x (ar 2 tt tv))))))))
   rcases is h with ⟨f5,h⟩ | ⟨f5,h⟩
   ·obtain ⟨f2,f3,h⟩ := Qe5 h
    obtain rfl := os h
    exact rj hc none (nN 10 ([oF]++nN 4 ([oF,oT]++nN 5 [oc (.bool f2),oN,oT]))) (ar 4 f0 (ar 3 f1 (ac f0 f1 f0 (ar 3 f4 (ac f0 f4 f0 (ar 5 f5 (cq (Kj5 _ _ f3) K6x (ar 2 f5 tv))))))))
   obtain rfl := os h
   exact rj hc none (nN 10 ([oF]++nN 4 ([oF,oT,oN]++n_ 6 [oF]))) (ar 4 f0 (ar 3 f1 (ac f0 f1 f0 (ar 3 f4 (ac f0 f4 f0 (ar 6 (neT f5) (ai f5 tv)))))))
  obtain rfl := os h
  exact rj hc none ([oN,oN,oN]++n_ 13 ([oF,oN]++n_ 6 [oF])) (ar 7 (neT f0) (ai f0 (ar 6 (neT fF) (ai fF tv))))
 clear e9
 refine ic h (fun f6 h => ?_) fun f6 h => ?_
 ·obtain rfl := os h
  exact rs0 hc 1 [(8,I 8)] [] (rt (rq [true]))
 obtain rfl := os h
 exact sk (rs0 hc 1 [(8,I 0)] [] (rt (rq [true])))
def Kmh (c : Ctx) : (Unit) ⊕ (Bool) → Exit → Q0a → Prop
 | .inl _ => Qdr c (.exit 0) (mkS [] [])
 | .inr r => Qe0 TIx Tryz.f144 [] (.bool r)
def Kmi (p : (List Int) × (List Int) × Int) : Option ((Unit) ⊕ (Bool)) :=
 match p with
 | (s10,s21,a0) =>
  if (decide (a0 < (s10.length : Int))) = true then
  (idx s10 a0) >>= fun a1 =>
  (idx s21 a0) >>= fun a2 =>
  if (a1 != a2) = true then
  some (.inr false)
  else
  Kmi (s10,s21,(wr (a0 + 1)))
  else
  some (.inl ())
 partial_fixpoint
def Kmj (p : (List Int) × (List Int) × Int) (fl : (Unit) ⊕ (Bool)) : Prop :=
 match p with
 | (s10,s21,a0) => ∀ c : Ctx,c.nt = 26 → WpL Tryz.prog c (cl (cl (cr (cl (cr (cr K84)))))) (Kmh c fl) (mkS [(0,sI s10),(1,sI s21),(12,I (s10.length : Int)),(13,I a0)] [])
theorem Kmk : ∀ p r,Kmi p = some r → Kmj p r := by
 refine Kmi.partial_correctness Kmj ?_
 rintro slices_Equal_int_l0_f slices_Equal_int_l0_ih ⟨s10,s21,a0⟩ r h
 intro c hc
 refine WpL.step (K9f hc 1 [] [(14,.bool (decide (a0 < (s10.length : Int))))] [] (sN (ic h (fun a1 h => ?_) fun a1 h => ?_)))
 ·refine sk (sN (bk 1 (K9f hc 2 [14] [(5,I a0)] [] ?_)))
  obtain ⟨a2,a3,a4,a5,h⟩ := bq2 h
  refine rsd hc (rx [[0],[0],[2],[3],[0],[0],[0,4,5],[0,4,5,6],[8]]) [oN,oN,eL (I a2),oN,oN,oN,eL (I a4),oN,oN] [5] [(24,.bool (a2 != a4))] [] (ab (ix a3) (ix a5) tv) (ic h (fun a6 h => ?_) fun a6 h => ?_)
  ·obtain rfl := os h
   exact rs0 hc 1 [(4,.bool false)] [] (rt (re [true]))
  exact sk (ri0 hc 2 (Qdn (slices_Equal_int_l0_ih _ _ h c hc)))
 obtain rfl := os h
 exact xt 0 (Qdh (Qdo (iv [])))
def Kml (p : (List Int) × (List Int)) : Option (Bool) :=
 match p with
 | (s10,s21) =>
  if ((s10.length : Int) != (s21.length : Int)) = true then
  some false
  else
  (Kmi (s10,s21,0)) >>= fun fl => match fl with
  | .inl () =>
   some true
  | .inr r =>
   some r
def Kmm (p : (List Int) × (List Int)) (r : Bool) : Prop :=
 match p with
 | (s10,s21) => Q77 Tryz.prog 144 [sI s10,sI s21] (.bool r) []
theorem Kmn : ∀ p r,Kml p = some r → Kmm p r := by
 rintro ⟨s10,s21⟩ r h
 unfold Kml at h
 refine b0 Tryz.f144 K84 26 [(0,sI s10),(1,sI s21)] fun c hc => (K9f hc 1 [] [] [] (sN (rsd hc none [oN,nQ ⟨[(7,I (s10.length : Int))],[],[]⟩,oN,nQ ⟨[(9,I (s21.length : Int))],[],[]⟩,oN] [] [(10,.bool ((s10.length : Int) != (s21.length : Int)))] [] (ab (Qeb (d := 7) I s10) (Qeb (d := 9) I s21) tv) (ic h (fun a0 h => ?_) fun a0 h => ?_))))
 ·obtain rfl := os h
  exact rs0 hc 1 [(4,.bool false)] [] (rt (rq [true]))
 refine sk (sN (rs hc none [oN,nQ ⟨[(12,I (s10.length : Int))],[],[]⟩,oN] [(0,sI s10),(1,sI s21),(12,I (s10.length : Int)),(13,I 0)] [] (ai (Qeb (d := 12) I s10) tv) (bk 0 ?_)))
 obtain ⟨fl,a1,h⟩ := Qe5 h
 have hL := Kmk _ _ a1 c hc
 refine lp ?_
 rcases fl with ⟨⟩ | r
 ·refine wl hL ?_
  obtain rfl := os h
  exact Qdj (rs0 hc 1 [(4,.bool true)] [] (rt (rq [true])))
 refine WpL.mono hL ?_
 rintro _ _ ⟨rfl,hfin⟩
 obtain rfl := os h
 exact ⟨.inl rfl,hfin⟩
def Kmo (s0 : (List Int)) : Option ((List Int)) :=
 (Qei (([] : List Int).length + s0.length) 8) >>= fun _ =>
 some s0
def Kmp (s0 : (List Int)) (r : (List Int)) : Prop :=
 Q77 Tryz.prog 88 [sI s0] (oI r) []
theorem Kmq : ∀ p r,Kmo p = some r → Kmp p r := by
 rintro s0 r h
 unfold Kmo at h
 refine b0 Tryz.f88 B88 8 [(0,sI s0)] fun c hc => (K9f hc 1 [] [] [] (sN (rs0 hc 2 [(0,sI s0),(4,.nilq (List.map I s0))] [] (Wp.condNil (xs := List.map I s0) (by kernel_rfl) (by kernel_rfl) (fun hn => ?_) ?_))))
 ·replace hn := List.map_eq_nil_iff.1 hn
  replace h : (some []) = some r := by rw [hn] at h; simpa [Qei,chk] using h
  obtain rfl := os h
  exact rs0 hc 1 [(2,.nils)] [] (rt (rq [true]))
 refine sk ?_
 obtain ⟨_,a0,h⟩ := Qe5 h
 obtain rfl := os h
 exact rs hc none [mK 1,oN,some (.eqv (.mk 2 true) ⟨[(7,.rs 2)],[(2,some (rI s0)),(1,none)],[2]⟩),oN] [(2,.rs 2)] [(2,rI s0)] (ab (congrArg (fun z => (⟨[(7,.rs 2)],[(2,some (.arr z)),(1,none)],[2]⟩ : Wr)) (List.nil_append _ : [] ++ (List.map I s0) = List.map I s0)) (Qej (enc1 := I) (enc2 := I) (e1 := []) (e2 := s0) (sz := 1) Qes Qes a0) tv) (rt (rq [true]))
def Kmr (c : Ctx) : (List Int) → Exit → Q0a → Prop
 | a0 => Qdr c (.exit 0) (mkS [(9,.rs 2)] [(2,rI a0)])
def Kms (p : K00 × (List Int) × (List Int) × (List Int) × Int) : Option ((List Int)) :=
 match p with
 | (clo1_0,a2,b3,a0,a1) =>
  if (decide (a1 < (a2.length : Int))) = true then
  (idx a2 a1) >>= fun a3 =>
  (idx b3 a1) >>= fun a4 =>
  (Kix (clo1_0,a3,a4)) >>= fun a5 =>
  (idx a0 a1) >>= fun a6 =>
  Kms (clo1_0,a2,b3,(List.set a0 (Int.toNat a1) a5),(wr (a1 + 1)))
  else
  some (a0)
 partial_fixpoint
def Kmt (p : K00 × (List Int) × (List Int) × (List Int) × Int) (fl : (List Int)) : Prop :=
 match p with
 | (clo1_0,a2,b3,a0,a1) => ∀ c : Ctx,c.nt = 34 → WpL Tryz.prog c (cl (cl (cr (cl (cr (cr K87)))))) (Kmr c fl) (mkS [(1,.fnb 160 [K1w clo1_0]),(2,sI a2),(3,sI b3),(9,.rs 2),(15,I (a2.length : Int)),(16,I a1)] [(2,rI a0)])
theorem Kmu : ∀ p r,Kms p = some r → Kmt p r := by
 refine Kms.partial_correctness Kmt ?_
 rintro impl_typerboth_Kimpl_Systemplus_l0_f impl_typerboth_Kimpl_Systemplus_l0_ih ⟨clo1_0,a2,b3,a0,a1⟩ r h
 intro c hc
 refine WpL.step (K9h hc 1 [] [(17,.bool (decide (a1 < (a2.length : Int))))] (sN (ic h (fun a3 h => ?_) fun a3 h => ?_)))
 ·refine sk (sN (bk 1 (K9h hc 2 [17] [(10,I a1)] ?_)))
  obtain ⟨a4,a5,a6,a7,a8,a9,b1,b2,h⟩ := bq4 h
  exact rgd hc Kmd (nN 5 [eL (I a4),oN,oN,oN,eL (I a6),oN,oc (I a8),oN,some (.eqv (.mk 0 true) ⟨[],[(2,some (.arr (List.map I (List.set a0 (Int.toNat a1) a8))))],[]⟩)]) [10] [] [(2,.arr (List.map I (List.set a0 (Int.toNat a1) a8)))] (ab (ix a5) (ix a7) (cq (Kiz _ _ a9) K6u (ac (Qea (enc := I) b2) (congrArg (fun z => (⟨[],[(2,some (.arr z))],[]⟩ : Wr)) (Qf8 (enc := I) (i := Int.toNat a1) (l := a0) (v := a8) (x := I a8) (Qek a8))) (Qf9 (enc := I) (sz := 1) Qeo b2) tv))) (ri0 hc 2 (Qdn (impl_typerboth_Kimpl_Systemplus_l0_ih _ _ h c hc)))
 obtain rfl := os h
 exact xt 0 (Qdh (Qdo (iv [])))
def Kmv (p : K06 × K00 × (List Int) × (List Int)) : Option ((List Int)) :=
 match p with
 | (p0,clo1_0,a2,b3) =>
  (chk (0 ≤ (a2.length : Int) ∧ (Int.toNat (a2.length : Int)) * 8 ≤ 140737488355328)) >>= fun _ =>
  (Kms (clo1_0,a2,b3,(List.replicate (Int.toNat (a2.length : Int)) 0),0)) >>= fun a0 =>
  some a0
def Kmw (p : K06 × K00 × (List Int) × (List Int)) (r : (List Int)) : Prop :=
 match p with
 | (p0,clo1_0,a2,b3) => Q77 Tryz.prog 254 [K2b p0,.fnb 160 [K1w clo1_0],sI a2,sI b3] (oI r) []
theorem Kmx : ∀ p r,Kmv p = some r → Kmw p r := by
 rintro ⟨p0,clo1_0,a2,b3⟩ r h
 unfold Kmv at h
 refine b0 Tryz.f254 K87 34 [(0,K2b p0),(1,.fnb 160 [K1w clo1_0]),(2,sI a2),(3,sI b3)] fun c hc => (rsd hc none [nW 1,oN] [0] [] [] tv ?_)
 obtain ⟨_,a0,h⟩ := Qe5 h
 refine rsd hc none [oN,nQ ⟨[(12,I (a2.length : Int))],[],[]⟩,some (.eqv (.mk 2 true) ⟨[(13,.rs 2)],[(2,some (.arr (List.map I (List.replicate (Int.toNat (a2.length : Int)) 0))))],[2]⟩),oN] [] [(9,.rs 2)] [(2,.arr (List.map I (List.replicate (Int.toNat (a2.length : Int)) 0)))] (ac (Qeb (d := 12) I a2) (congrArg (fun z => (⟨[(13,.rs 2)],[(2,some (.arr z))],[2]⟩ : Wr)) (Qfa (enc := I) (n := Int.toNat (a2.length : Int)) (x := I 0) (Qek 0))) (And.intro (Eq.refl (a2.length : Int)) (Qe7 a0)) tv) (sN (rss hc none [oN,nQ ⟨[(15,I (a2.length : Int))],[],[]⟩,oN] [(1,.fnb 160 [K1w clo1_0]),(2,sI a2),(3,sI b3),(9,.rs 2),(15,I (a2.length : Int)),(16,I 0)] (ai (Qeb (d := 15) I a2) tv) (bk 0 ?_)))
 obtain ⟨a1,a3,h⟩ := Qe5 h
 have hL := Kmu _ _ a3 c hc
 refine lp (wl hL ?_)
 obtain rfl := os h
 exact Qdj (K9e hc 2 [(8,.rs 2)] (rt (rq [true])))
def Kmy (p : K06 × (List Int) × (List Int)) : Option ((List Int)) :=
 match p with
 | (p0,a1,b2) =>
  (Kmv (p0,p0.fs,a1,b2)) >>= fun a0 =>
  some a0
def Kmz (p : K06 × (List Int) × (List Int)) (r : (List Int)) : Prop :=
 match p with
 | (p0,a1,b2) => Q77 Tryz.prog 244 [K2b p0,sI a1,sI b2] (oI r) []
theorem Kn0 : ∀ p r,Kmy p = some r → Kmz p r := by
 rintro ⟨p0,a1,b2⟩ r h
 unfold Kmy at h
 refine b0 Tryz.f244 K89 14 [(0,K2b p0),(1,sI a1),(2,sI b2)] fun c hc => (rsd hc none [nW 1,oN] [0] [(3,.ra 1 0)] [(1,K2a p0)] tv ?_)
 obtain ⟨a0,a2,h⟩ := Qe5 h
 obtain rfl := os h
 exact rs hc none (nN 6 [some (.call (oI a0) [] 2),oN]) [(6,.rs 2)] [(2,rI a0)] (cq (Kmx _ _ a2) K88 tv) (rt (rq [true]))
def Kn1 (p : Int × K04) : Option ((List Int)) :=
 match p with
 | (i0,cap0) =>
  (idx cap0.fkids i0) >>= fun a0 =>
  some a0.fty
def Kn2 (p : Int × K04) (r : (List Int)) : Prop :=
 match p with
 | (i0,cap0) => Qaq Tryz.prog 243 i0 [sI cap0.fty,sI cap0.fneeds,sM K07 cap0.fkids,I cap0.ffault,sI cap0.fpath] (sI r)
theorem Kn3 : ∀ p r,Kn1 p = some r → Kn2 p r := by
 rintro ⟨i0,cap0⟩ r h
 unfold Kn1 at h
 show Qaq Tryz.prog 243 i0 [sI cap0.fty,sI cap0.fneeds,sM K07 cap0.fkids,I cap0.ffault,sI cap0.fpath] (sI r)
 refine Qaq.of_body K3d (fn := Tryz.f243) (code := K8b) (by kernel_rfl) (by kernel_rfl) rfl rfl (nt := 14) (by kernel_rfl) (by kernel_rfl) (fun c hc => ?_)
 refine K9e hc 1 [(0,I i0),(1,.ra 1000 0)] ?_
 obtain ⟨a0,a1,h⟩ := Qe5 h
 obtain rfl := os h
 exact rss hc none (nN 5 ([eL (.ptr [sI a0.fty,sI a0.fneeds,sM K07 a0.fkids,I a0.ffault,sI a0.fpath] 0)]++nN 5 [])) [(3,sI a0.fty)] (ai (Qe9 (enc := K07) (x := .ptr [sI a0.fty,sI a0.fneeds,sM K07 a0.fkids,I a0.ffault,sI a0.fpath] 0) a1 (K0a a0)) tv) (rt (Qft.ret (by kernel_rfl)))
def Kn4 (c : Ctx) : (List Int) → Exit → Q0a → Prop
 | a0 => Qdr c (.exit 0) (mkS [(9,.rs 2)] [(2,rI a0)])
def Kn5 (p : K00 × (List Int) × (List Int) × (List Int) × Int) : Option ((List Int)) :=
 match p with
 | (clo1_0,a2,b3,a0,a1) =>
  if (decide (a1 < (a2.length : Int))) = true then
  (idx a2 a1) >>= fun a3 =>
  (idx b3 a1) >>= fun a4 =>
  (Kjf (clo1_0,a3,a4)) >>= fun a5 =>
  (idx a0 a1) >>= fun a6 =>
  Kn5 (clo1_0,a2,b3,(List.set a0 (Int.toNat a1) a5),(wr (a1 + 1)))
  else
  some (a0)
 partial_fixpoint
def Kn6 (p : K00 × (List Int) × (List Int) × (List Int) × Int) (fl : (List Int)) : Prop :=
 match p with
 | (clo1_0,a2,b3,a0,a1) => ∀ c : Ctx,c.nt = 34 → WpL Tryz.prog c (cl (cl (cr (cl (cr (cr K87)))))) (Kn4 c fl) (mkS [(1,.fnb 149 [K1w clo1_0]),(2,sI a2),(3,sI b3),(9,.rs 2),(15,I (a2.length : Int)),(16,I a1)] [(2,rI a0)])
theorem Kn7 : ∀ p r,Kn5 p = some r → Kn6 p r := by
 refine Kn5.partial_correctness Kn6 ?_
 rintro impl_typerboth_Kimpl_Systemjoin_l0_f impl_typerboth_Kimpl_Systemjoin_l0_ih ⟨clo1_0,a2,b3,a0,a1⟩ r h
 intro c hc
 refine WpL.step (K9h hc 1 [] [(17,.bool (decide (a1 < (a2.length : Int))))] (sN (ic h (fun a3 h => ?_) fun a3 h => ?_)))
 ·refine sk (sN (bk 1 (K9h hc 2 [17] [(10,I a1)] ?_)))
  obtain ⟨a4,a5,a6,a7,a8,a9,b1,b2,h⟩ := bq4 h
  exact rgd hc Kmd (nN 5 [eL (I a4),oN,oN,oN,eL (I a6),oN,oc (I a8),oN,some (.eqv (.mk 0 true) ⟨[],[(2,some (.arr (List.map I (List.set a0 (Int.toNat a1) a8))))],[]⟩)]) [10] [] [(2,.arr (List.map I (List.set a0 (Int.toNat a1) a8)))] (ab (ix a5) (ix a7) (cq (Kjh _ _ a9) K6z (ac (Qea (enc := I) b2) (congrArg (fun z => (⟨[],[(2,some (.arr z))],[]⟩ : Wr)) (Qf8 (enc := I) (i := Int.toNat a1) (l := a0) (v := a8) (x := I a8) (Qek a8))) (Qf9 (enc := I) (sz := 1) Qeo b2) tv))) (ri0 hc 2 (Qdn (impl_typerboth_Kimpl_Systemjoin_l0_ih _ _ h c hc)))
 obtain rfl := os h
 exact xt 0 (Qdh (Qdo (iv [])))
def Kn8 (p : K06 × K00 × (List Int) × (List Int)) : Option ((List Int)) :=
 match p with
 | (p0,clo1_0,a2,b3) =>
  (chk (0 ≤ (a2.length : Int) ∧ (Int.toNat (a2.length : Int)) * 8 ≤ 140737488355328)) >>= fun _ =>
  (Kn5 (clo1_0,a2,b3,(List.replicate (Int.toNat (a2.length : Int)) 0),0)) >>= fun a0 =>
  some a0
def Kn9 (p : K06 × K00 × (List Int) × (List Int)) (r : (List Int)) : Prop :=
 match p with
 | (p0,clo1_0,a2,b3) => Q77 Tryz.prog 254 [K2b p0,.fnb 149 [K1w clo1_0],sI a2,sI b3] (oI r) []
theorem Kna : ∀ p r,Kn8 p = some r → Kn9 p r := by
 rintro ⟨p0,clo1_0,a2,b3⟩ r h
 unfold Kn8 at h
 refine b0 Tryz.f254 K87 34 [(0,K2b p0),(1,.fnb 149 [K1w clo1_0]),(2,sI a2),(3,sI b3)] fun c hc => (rsd hc none [nW 1,oN] [0] [] [] tv ?_)
 obtain ⟨_,a0,h⟩ := Qe5 h
 refine rsd hc none [oN,nQ ⟨[(12,I (a2.length : Int))],[],[]⟩,some (.eqv (.mk 2 true) ⟨[(13,.rs 2)],[(2,some (.arr (List.map I (List.replicate (Int.toNat (a2.length : Int)) 0))))],[2]⟩),oN] [] [(9,.rs 2)] [(2,.arr (List.map I (List.replicate (Int.toNat (a2.length : Int)) 0)))] (ac (Qeb (d := 12) I a2) (congrArg (fun z => (⟨[(13,.rs 2)],[(2,some (.arr z))],[2]⟩ : Wr)) (Qfa (enc := I) (n := Int.toNat (a2.length : Int)) (x := I 0) (Qek 0))) (And.intro (Eq.refl (a2.length : Int)) (Qe7 a0)) tv) (sN (rss hc none [oN,nQ ⟨[(15,I (a2.length : Int))],[],[]⟩,oN] [(1,.fnb 149 [K1w clo1_0]),(2,sI a2),(3,sI b3),(9,.rs 2),(15,I (a2.length : Int)),(16,I 0)] (ai (Qeb (d := 15) I a2) tv) (bk 0 ?_)))
 obtain ⟨a1,a3,h⟩ := Qe5 h
 have hL := Kn7 _ _ a3 c hc
 refine lp (wl hL ?_)
 obtain rfl := os h
 exact Qdj (K9e hc 2 [(8,.rs 2)] (rt (rq [true])))
def Knb (p : K06 × (List Int) × (List Int)) : Option ((List Int)) :=
 match p with
 | (p0,a1,b2) =>
  (Kn8 (p0,p0.fs,a1,b2)) >>= fun a0 =>
  some a0
def Knc (p : K06 × (List Int) × (List Int)) (r : (List Int)) : Prop :=
 match p with
 | (p0,a1,b2) => Q77 Tryz.prog 245 [K2b p0,sI a1,sI b2] (oI r) []
theorem Knd : ∀ p r,Knb p = some r → Knc p r := by
 rintro ⟨p0,a1,b2⟩ r h
 unfold Knb at h
 refine b0 Tryz.f245 K8d 14 [(0,K2b p0),(1,sI a1),(2,sI b2)] fun c hc => (rsd hc none [nW 1,oN] [0] [(3,.ra 1 0)] [(1,K2a p0)] tv ?_)
 obtain ⟨a0,a2,h⟩ := Qe5 h
 obtain rfl := os h
 exact rs hc none (nN 6 [some (.call (oI a0) [] 2),oN]) [(6,.rs 2)] [(2,rI a0)] (cq (Kna _ _ a2) K88 tv) (rt (rq [true]))
def Kne (n1 : Int) : Option (Unit) :=
 if (decide (n1 < 0)) = true then
 none
 else
 if (decide ((wr (n1 - (wr (0 - 0)))) > 0)) = true then
 (chk (0 ≤ (wr (n1 - (wr (0 - 0)))) ∧ (Int.toNat (wr (n1 - (wr (0 - 0))))) * 8 ≤ 140737488355328)) >>= fun _ =>
 some ()
 else
 some ()
def Knf (n1 : Int) (r : Unit) : Prop :=
 Qac Tryz.prog 255 n1
theorem Kng : ∀ p r,Kne p = some r → Knf p r := by
 rintro n1 r h
 unfold Kne at h
 show Qac Tryz.prog 255 n1
 refine Qac.of_body K3d (fn := Tryz.f255) (code := K8f) (by kernel_rfl) (by kernel_rfl) (nt := 27) (by kernel_rfl) (by kernel_rfl) (fun c hc => ?_)
 refine rs0 hc 1 [(0,.nils),(1,I n1)] [] (sN (rs0 hc 2 [(0,.nils),(1,I n1),(6,.bool (decide (n1 < 0)))] [] (ic h (fun a0 h => ?_) fun a0 h => ?_)))
 ·cases h
 refine sk (sN (K9f hc 8 [1,6] [(1,I (wr (n1 - (wr (0 - 0)))))] [] (K9f hc 2 [] [(16,.bool (decide ((wr (n1 - (wr (0 - 0)))) > 0)))] [] (ic h (fun a1 h => ?_) fun a1 h => ?_))))
 ·obtain ⟨_,a2,h⟩ := Qe5 h
  exact rg hc none (nN 5 [nW 1,oN,oN,nW 2,oN]) [(0,.rs 2)] [(2,.ary (List.map I []))] (ai (Qe7 a2) tv) (K9e hc 2 [(4,.rs 2)] (rt (Qfo.ret (by kernel_rfl))))
 exact sk (rs0 hc 2 [(4,.nils)] [] (rt (Qfo.ret (by kernel_rfl))))
def Knh (c : Ctx) (slices0 : LL) : Int → Exit → Q0a → Prop
 | a0 => Qdr c (.exit 0) (mkS [(0,sL slices0),(3,I a0)] [])
def Kni (p : LL × Int × Int) : Option (Int) :=
 match p with
 | (slices0,a0,a1) =>
  if (decide (a1 < (slices0.length : Int))) = true then
  (idx slices0 a1) >>= fun a2 =>
  ((
  if (decide ((wr (a0 + (a2.length : Int))) < 0)) = true then
  none
  else
  some (())
  ) : Option (Unit)) >>= fun () =>
  Kni (slices0,(wr (a0 + (a2.length : Int))),(wr (a1 + 1)))
  else
  some (a0)
 partial_fixpoint
def Knj (p : LL × Int × Int) (fl : Int) : Prop :=
 match p with
 | (slices0,a0,a1) => ∀ c : Ctx,c.nt = 36 → WpL Tryz.prog c (cl (cl (cr (cl (cr (cr K8h)))))) (Knh c slices0 fl) (mkS [(0,sL slices0),(3,I a0),(9,sL slices0),(10,I (slices0.length : Int)),(11,I a1)] [])
theorem Knk : ∀ p r,Kni p = some r → Knj p r := by
 refine Kni.partial_correctness Knj ?_
 rintro slices_Concat_int_l0_f slices_Concat_int_l0_ih ⟨slices0,a0,a1⟩ r h
 intro c hc
 refine WpL.step (K9f hc 1 [] [(12,.bool (decide (a1 < (slices0.length : Int))))] [] (sN (ic h (fun a2 h => ?_) fun a2 h => ?_)))
 ·refine sk (sN (bk 1 ?_))
  obtain ⟨a3,a4,h⟩ := Qe5 h
  refine rsd hc none [eL (sI a3),oN,oN] [12] [(5,sI a3)] [] (ai (xL a4) tv) (rsd hc none [oN,oN,nQ ⟨[(17,I (a3.length : Int))],[],[]⟩,oN,oN] [5,3] [(3,I (wr (a0 + (a3.length : Int))))] [] (ai (Qeb (d := 17) I a3) tv) (rs0 hc 2 [(0,sL slices0),(3,I (wr (a0 + (a3.length : Int)))),(9,sL slices0),(10,I (slices0.length : Int)),(11,I a1),(20,.bool (decide ((wr (a0 + (a3.length : Int))) < 0)))] [] ?_))
  obtain ⟨⟨⟩,a5,h⟩ := Qe5 h
  refine wi [20] [] ?_ ?_
  ·replace h := a5
   refine ic h (fun a6 h => ?_) fun a6 h => ?_
   ·cases h
   exact sk (iv [])
  clear a5
  exact ri0 hc 2 (Qdn (slices_Concat_int_l0_ih _ _ h c hc))
 obtain rfl := os h
 exact xt 0 (Qdh (Qdo (iv [])))
def Knl (c : Ctx) : (List Int) → Exit → Q0a → Prop
 | a0 => Qdr c (.exit 2) (mkS [(6,.rs 1)] [(1,.ary (List.map I a0))])
def Knm (p : LL × (List Int) × Int) : Option ((List Int)) :=
 match p with
 | (slices0,a0,a1) =>
  if (decide (a1 < (slices0.length : Int))) = true then
  (idx slices0 a1) >>= fun a2 =>
  (Qei (a0.length + a2.length) 8) >>= fun _ =>
  Knm (slices0,(a0 ++ a2),(wr (a1 + 1)))
  else
  some (a0)
 partial_fixpoint
def Knn (p : LL × (List Int) × Int) (fl : (List Int)) : Prop :=
 match p with
 | (slices0,a0,a1) => ∀ c : Ctx,c.nt = 36 → WpL Tryz.prog c (cl (cl (cr (cl (cr (cr (cr (cr K8h)))))))) (Knl c fl) (mkS [(6,.rs 1),(25,sL slices0),(26,I (slices0.length : Int)),(27,I a1)] [(1,.ary (List.map I a0))])
theorem Kno : ∀ p r,Knm p = some r → Knn p r := by
 refine Knm.partial_correctness Knn ?_
 rintro slices_Concat_int_l1_f slices_Concat_int_l1_ih ⟨slices0,a0,a1⟩ r h
 intro c hc
 refine WpL.step (K9h hc 1 [] [(28,.bool (decide (a1 < (slices0.length : Int))))] (sN (ic h (fun a2 h => ?_) fun a2 h => ?_)))
 ·refine sk (sN (bk 3 ?_))
  obtain ⟨a3,a4,h⟩ := Qe5 h
  refine K9g hc none [eL (sI a3),oN,oN] [28] [(8,sI a3)] (ai (xL a4) tv) ?_
  obtain ⟨_,a5,h⟩ := Qe5 h
  exact rgd hc none [oN,oN,some (.eqv (.new 3) ⟨[(33,.rs 3)],[(3,some (.ary (List.map I (a0 ++ a3)))),(1,none)],[3]⟩),oN] [8,6] [(6,.rs 3)] [(3,.ary (List.map I (a0 ++ a3)))] (ab (congrArg (fun z => (⟨[(33,.rs 3)],[(3,some (.ary z)),(1,none)],[3]⟩ : Wr)) ((List.map_append).symm : (List.map I a0) ++ (List.map I a3) = List.map I (a0 ++ a3))) (Qfs (enc := I) (e1 := a0) (e2 := a3) (fun _ => rfl) a5) tv) (K9a hc 2 [(6,.rs 3),(25,sL slices0),(26,I (slices0.length : Int)),(27,I (wr (a1 + 1)))] (Qdn (WpL.view (fun a w hv => SRx.renL [(1,3)] hv (by kernel_rfl) (by kernel_rfl) (by kernel_rfl)) (slices_Concat_int_l1_ih _ _ h c hc))))
 obtain rfl := os h
 exact xt 2 (Qdh (Qdo (iv [])))
def Knp (slices0 : LL) : Option ((List Int)) :=
 (Kni (slices0,0,0)) >>= fun a0 =>
 (Kne a0) >>= fun _ =>
 (Knm (slices0,[],0)) >>= fun a1 =>
 some a1
def Knq (slices0 : LL) (r : (List Int)) : Prop :=
 Q77 Tryz.prog 246 [sL slices0] (sI r) []
theorem Knr : ∀ p r,Knp p = some r → Knq p r := by
 rintro slices0 r h
 unfold Knp at h
 refine b0 Tryz.f246 K8h 36 [(0,sL slices0)] fun c hc => (K9f hc 1 [] [] [] (K9f hc 1 [] [(3,I 0)] [] (sN (rs hc none [oN,nQ ⟨[(10,I (slices0.length : Int))],[],[]⟩,oN] [(0,sL slices0),(3,I 0),(9,sL slices0),(10,I (slices0.length : Int)),(11,I 0)] [] (ai (Qeb (d := 10) K14 slices0) tv) (bk 0 ?_)))))
 obtain ⟨a0,a1,h⟩ := Qe5 h
 have hL := Knk _ _ a1 c hc
 refine lp (wl hL (Qdj ?_))
 obtain ⟨_,a2,h⟩ := Qe5 h
 refine rsd hc none [oN,nW 1,oN] [3] [(6,.rs 1)] [(1,.ary (List.map I []))] (ab (Kng _ _ a2) K8g tv) (sN (rss hc none [oN,nQ ⟨[(26,I (slices0.length : Int))],[],[]⟩,oN] [(6,.rs 1),(25,sL slices0),(26,I (slices0.length : Int)),(27,I 0)] (ai (Qeb (d := 26) K14 slices0) tv) (bk 2 ?_)))
 obtain ⟨a3,a4,h⟩ := Qe5 h
 have hL := Kno _ _ a4 c hc
 refine lp (wl hL (Qdj (K9e hc 2 [(2,.rs 1)] (Wp.view (fun a w hv => SRx.frzYL 1 (xs := List.map I a3) hv (by kernel_rfl) (by kernel_rfl) (by kernel_rfl)) (?_ : Wp Tryz.prog c _ _ (mkS [(2,sI a3)] []))))))
 obtain rfl := os h
 exact rt (rq [false])
def Kns (p : Int × K06 × Int) : Option (Bool) :=
 match p with
 | (u0,cap0,cap1) =>
  (Kj3 (cap0.fs,u0,cap1)) >>= fun a0 =>
  some (!a0)
def Knt (p : Int × K06 × Int) (r : Bool) : Prop :=
 match p with
 | (u0,cap0,cap1) => Q77 Tryz.prog 256 [I u0,.ptr [I cap0.fs.fSize,.sl (List.map I cap0.fs.fPlus),.sl (List.map I cap0.fs.fTimes),.sl (List.map AV.bool cap0.fs.fBelow)] 0,.ptr [I cap1] 0] (.bool r) []
theorem Knu : ∀ p r,Kns p = some r → Knt p r := by
 rintro ⟨u0,cap0,cap1⟩ r h
 unfold Kns at h
 refine b0 Tryz.f256 K8j 11 [(0,I u0),(1,.ptr [I cap0.fs.fSize,.sl (List.map I cap0.fs.fPlus),.sl (List.map I cap0.fs.fTimes),.sl (List.map AV.bool cap0.fs.fBelow)] 0),(2,.ptr [I cap1] 0)] fun c hc => (K9f hc 1 [] [] [] ?_)
 obtain ⟨a0,a1,h⟩ := Qe5 h
 obtain rfl := os h
 exact rs hc none (nN 4 [oc (.bool a0),oN,oN]) [(4,.bool (!a0))] [] (cq (Kj5 _ _ a1) K6x tv) (rt (rq [true]))
def Knv (c : Ctx) : (Unit) ⊕ (Int) → Exit → Q0a → Prop
 | .inl _ => Qdr c (.exit 0) (mkS [] [])
 | .inr r => Qe0 TIx Tryz.f193 [] (I r)
def Knw (p : (List Int) × K06 × Int × Int) : Option ((Unit) ⊕ (Int)) :=
 match p with
 | (s0,clo1_0,clo1_1,a0) =>
  if (decide (a0 < (s0.length : Int))) = true then
  (idx s0 a0) >>= fun a1 =>
  (Kns (a1,clo1_0,clo1_1)) >>= fun a2 =>
  if a2 = true then
  some (.inr a0)
  else
  Knw (s0,clo1_0,clo1_1,(wr (a0 + 1)))
  else
  some (.inl ())
 partial_fixpoint
def Knx (p : (List Int) × K06 × Int × Int) (fl : (Unit) ⊕ (Int)) : Prop :=
 match p with
 | (s0,clo1_0,clo1_1,a0) => ∀ c : Ctx,c.nt = 19 → WpL Tryz.prog c (cl (cl (cr (cl (cr K8l))))) (Knv c fl) (mkS [(0,sI s0),(1,.fn 256 [.ptr [I clo1_0.fs.fSize,.sl (List.map I clo1_0.fs.fPlus),.sl (List.map I clo1_0.fs.fTimes),.sl (List.map AV.bool clo1_0.fs.fBelow)] 0,.ptr [I clo1_1] 0]),(7,I (s0.length : Int)),(8,I a0)] [])
theorem Kny : ∀ p r,Knw p = some r → Knx p r := by
 refine Knw.partial_correctness Knx ?_
 rintro slices_IndexFunc_int_Kimpl_typerusedOk_c1_l0_f slices_IndexFunc_int_Kimpl_typerusedOk_c1_l0_ih ⟨s0,clo1_0,clo1_1,a0⟩ r h
 intro c hc
 refine WpL.step (K9f hc 1 [] [(9,.bool (decide (a0 < (s0.length : Int))))] [] (sN (ic h (fun a1 h => ?_) fun a1 h => ?_)))
 ·refine sk (sN (bk 1 (K9f hc 2 [9] [(5,I a0)] [] ?_)))
  obtain ⟨a2,a3,a4,a5,h⟩ := bq2 h
  refine rsd hc none [oN,oN,oN,eL (I a2),oN,oc (.bool a4)] [] [(16,.bool a4)] [] (ai (ix a3) (cq (Knu _ _ a5) K8k tv)) (ic h (fun a6 h => ?_) fun a6 h => ?_)
  ·obtain rfl := os h
   exact rs0 hc 2 [(4,I a0)] [] (rt (re [true]))
  exact sk (ri0 hc 2 (Qdn (slices_IndexFunc_int_Kimpl_typerusedOk_c1_l0_ih _ _ h c hc)))
 obtain rfl := os h
 exact xt 0 (Qdh (Qdo (iv [])))
def Knz (p : (List Int) × K06 × Int) : Option (Int) :=
 match p with
 | (s0,clo1_0,clo1_1) =>
  (Knw (s0,clo1_0,clo1_1,0)) >>= fun fl => match fl with
  | .inl () =>
   some (-1)
  | .inr r =>
   some r
def Ko0 (p : (List Int) × K06 × Int) (r : Int) : Prop :=
 match p with
 | (s0,clo1_0,clo1_1) => Q77 Tryz.prog 193 [sI s0,.fn 256 [.ptr [I clo1_0.fs.fSize,.sl (List.map I clo1_0.fs.fPlus),.sl (List.map I clo1_0.fs.fTimes),.sl (List.map AV.bool clo1_0.fs.fBelow)] 0,.ptr [I clo1_1] 0]] (I r) []
theorem Ko1 : ∀ p r,Knz p = some r → Ko0 p r := by
 rintro ⟨s0,clo1_0,clo1_1⟩ r h
 unfold Knz at h
 refine b0 Tryz.f193 K8l 19 [(0,sI s0),(1,.fn 256 [.ptr [I clo1_0.fs.fSize,.sl (List.map I clo1_0.fs.fPlus),.sl (List.map I clo1_0.fs.fTimes),.sl (List.map AV.bool clo1_0.fs.fBelow)] 0,.ptr [I clo1_1] 0])] fun c hc => (K9f hc 1 [] [] [] (sN (rs hc none [oN,nQ ⟨[(7,I (s0.length : Int))],[],[]⟩,oN] [(0,sI s0),(1,.fn 256 [.ptr [I clo1_0.fs.fSize,.sl (List.map I clo1_0.fs.fPlus),.sl (List.map I clo1_0.fs.fTimes),.sl (List.map AV.bool clo1_0.fs.fBelow)] 0,.ptr [I clo1_1] 0]),(7,I (s0.length : Int)),(8,I 0)] [] (ai (Qeb (d := 7) I s0) tv) (bk 0 ?_))))
 obtain ⟨fl,a0,h⟩ := Qe5 h
 have hL := Kny _ _ a0 c hc
 refine lp ?_
 rcases fl with ⟨⟩ | r
 ·refine wl hL ?_
  obtain rfl := os h
  exact Qdj (rs0 hc 1 [(4,I (-1))] [] (rt (rq [true])))
 refine WpL.mono hL ?_
 rintro _ _ ⟨rfl,hfin⟩
 obtain rfl := os h
 exact ⟨.inl rfl,hfin⟩
def Ko2 (p : (List Int) × K06 × Int) : Option (Bool) :=
 match p with
 | (s0,clo1_0,clo1_1) =>
  (Knz (s0,clo1_0,clo1_1)) >>= fun a0 =>
  some (decide (a0 ≥ 0))
def Ko3 (p : (List Int) × K06 × Int) (r : Bool) : Prop :=
 match p with
 | (s0,clo1_0,clo1_1) => Q77 Tryz.prog 116 [sI s0,.fn 256 [.ptr [I clo1_0.fs.fSize,.sl (List.map I clo1_0.fs.fPlus),.sl (List.map I clo1_0.fs.fTimes),.sl (List.map AV.bool clo1_0.fs.fBelow)] 0,.ptr [I clo1_1] 0]] (.bool r) []
theorem Ko4 : ∀ p r,Ko2 p = some r → Ko3 p r := by
 rintro ⟨s0,clo1_0,clo1_1⟩ r h
 unfold Ko2 at h
 refine b0 Tryz.f116 K8n 9 [(0,sI s0),(1,.fn 256 [.ptr [I clo1_0.fs.fSize,.sl (List.map I clo1_0.fs.fPlus),.sl (List.map I clo1_0.fs.fTimes),.sl (List.map AV.bool clo1_0.fs.fBelow)] 0,.ptr [I clo1_1] 0])] fun c hc => (K9f hc 1 [] [] [] ?_)
 obtain ⟨a0,a1,h⟩ := Qe5 h
 obtain rfl := os h
 exact rs hc none [oN,oN,oc (I a0),oN,oN] [(4,.bool (decide (a0 ≥ 0)))] [] (cq (Ko1 _ _ a1) K8m tv) (rt (rq [true]))
def Ko5 (p : K06 × (List Int) × Int) : Option (Bool) :=
 match p with
 | (p0,l1,g2) =>
  (Ko2 (l1,p0,g2)) >>= fun a0 =>
  some (!a0)
def Ko6 (p : K06 × (List Int) × Int) (r : Bool) : Prop :=
 match p with
 | (p0,l1,g2) => Q77 Tryz.prog 247 [K2b p0,sI l1,I g2] (.bool r) []
theorem Ko7 : ∀ p r,Ko5 p = some r → Ko6 p r := by
 rintro ⟨p0,l1,g2⟩ r h
 unfold Ko5 at h
 refine b0 Tryz.f247 K8p 11 [(0,K2b p0),(1,sI l1),(2,I g2)] fun c hc => (rsd hc none [nW 1,nW 2,oN] [0,2] [(3,.ra 1 0),(5,.ra 2 0)] [(1,K2a p0),(2,.box [I g2])] tv ?_)
 obtain ⟨a0,a1,h⟩ := Qe5 h
 obtain rfl := os h
 exact rs hc none [oN,oN,oc (.bool a0),oN,oN] [(6,.bool (!a0))] [] (ac (Ko4 _ _ a1) K8o (Or.inr rfl : ([1,2] : List Nat) = [] ∨ noSh (.bool a0) = true) tv) (rt (rq [true]))
def Ko8 (c : Ctx) : (List Int) → Exit → Q0a → Prop
 | a0 => Qdr c (.exit 0) (mkS [(7,.rs 2)] [(2,rI a0)])
def Ko9 (p : K06 × Int × (List Int) × (List Int) × Int) : Option ((List Int)) :=
 match p with
 | (p0,g1,l2,a0,a1) =>
  if (decide (a1 < (l2.length : Int))) = true then
  (idx l2 a1) >>= fun a2 =>
  (Kj0 (p0.fs,g1,a2)) >>= fun a3 =>
  (idx a0 a1) >>= fun a4 =>
  Ko9 (p0,g1,l2,(List.set a0 (Int.toNat a1) a3),(wr (a1 + 1)))
  else
  some (a0)
 partial_fixpoint
def Koa (p : K06 × Int × (List Int) × (List Int) × Int) (fl : (List Int)) : Prop :=
 match p with
 | (p0,g1,l2,a0,a1) => ∀ c : Ctx,c.nt = 30 → WpL Tryz.prog c (cl (cl (cr (cl (cr (cr K8r)))))) (Ko8 c fl) (mkS [(1,I g1),(3,.ra 1 0),(7,.rs 2),(13,sI l2),(14,I (l2.length : Int)),(15,I a1)] [(1,K2a p0),(2,rI a0)])
theorem Kob : ∀ p r,Ko9 p = some r → Koa p r := by
 refine Ko9.partial_correctness Koa ?_
 rintro impl_typerscaled_l0_f impl_typerscaled_l0_ih ⟨p0,g1,l2,a0,a1⟩ r h
 intro c hc
 refine WpL.step (K9h hc 1 [] [(16,.bool (decide (a1 < (l2.length : Int))))] (sN (ic h (fun a2 h => ?_) fun a2 h => ?_)))
 ·refine sk (sN (bk 1 ?_))
  obtain ⟨a3,a4,h⟩ := Qe5 h
  refine K9g hc none [oN,eL (I a3),oN,oN,oN] [16] [(8,I a1),(9,I a3)] (ai (ix a4) tv) ?_
  obtain ⟨a5,a6,a7,a8,h⟩ := bq2 h
  exact rgd hc none (nN 6 [oc (I a5),oN,some (.eqv (.mk 0 true) ⟨[],[(2,some (.arr (List.map I (List.set a0 (Int.toNat a1) a5))))],[]⟩)]) [8,9] [] [(1,K2a p0),(2,.arr (List.map I (List.set a0 (Int.toNat a1) a5)))] (cq (Kj2 _ _ a6) K6w (ac (Qea (enc := I) a8) (congrArg (fun z => (⟨[],[(2,some (.arr z))],[]⟩ : Wr)) (Qf8 (enc := I) (i := Int.toNat a1) (l := a0) (v := a5) (x := I a5) (Qek a5))) (Qf9 (enc := I) (sz := 1) Qeo a8) tv)) (ri0 hc 2 (Qdn (impl_typerscaled_l0_ih _ _ h c hc)))
 obtain rfl := os h
 exact xt 0 (Qdh (Qdo (iv [])))
def Koc (p : K06 × Int × (List Int)) : Option ((List Int)) :=
 match p with
 | (p0,g1,l2) =>
  (chk (0 ≤ (l2.length : Int) ∧ (Int.toNat (l2.length : Int)) * 8 ≤ 140737488355328)) >>= fun _ =>
  (Ko9 (p0,g1,l2,(List.replicate (Int.toNat (l2.length : Int)) 0),0)) >>= fun a0 =>
  some a0
def Kod (p : K06 × Int × (List Int)) (r : (List Int)) : Prop :=
 match p with
 | (p0,g1,l2) => Q77 Tryz.prog 248 [K2b p0,I g1,sI l2] (oI r) []
theorem Koe : ∀ p r,Koc p = some r → Kod p r := by
 rintro ⟨p0,g1,l2⟩ r h
 unfold Koc at h
 refine b0 Tryz.f248 K8r 30 [(0,K2b p0),(1,I g1),(2,sI l2)] fun c hc => (rsd hc none [nW 1,oN] [0] [(3,.ra 1 0)] [(1,K2a p0)] tv ?_)
 obtain ⟨_,a0,h⟩ := Qe5 h
 refine rsd hc none [oN,nQ ⟨[(11,I (l2.length : Int))],[],[]⟩,some (.eqv (.mk 2 true) ⟨[(12,.rs 2)],[(2,some (.arr (List.map I (List.replicate (Int.toNat (l2.length : Int)) 0))))],[2]⟩),oN] [] [(7,.rs 2)] [(1,K2a p0),(2,.arr (List.map I (List.replicate (Int.toNat (l2.length : Int)) 0)))] (ac (Qeb (d := 11) I l2) (congrArg (fun z => (⟨[(12,.rs 2)],[(2,some (.arr z))],[2]⟩ : Wr)) (Qfa (enc := I) (n := Int.toNat (l2.length : Int)) (x := I 0) (Qek 0))) (And.intro (Eq.refl (l2.length : Int)) (Qe7 a0)) tv) (sN (rss hc none [oN,nQ ⟨[(14,I (l2.length : Int))],[],[]⟩,oN] [(1,I g1),(3,.ra 1 0),(7,.rs 2),(13,sI l2),(14,I (l2.length : Int)),(15,I 0)] (ai (Qeb (d := 14) I l2) tv) (bk 0 ?_)))
 obtain ⟨a1,a2,h⟩ := Qe5 h
 have hL := Kob _ _ a2 c hc
 refine lp (wl hL ?_)
 obtain rfl := os h
 exact Qdj (K9e hc 2 [(6,.rs 2)] (rt (rq [true])))
def Kof (ty0 : (List Int)) : Option (Bool) :=
 some (decide ((ty0.length : Int) > 40))
def Kog (ty0 : (List Int)) (r : Bool) : Prop :=
 Q77 Tryz.prog 249 [sI ty0] (.bool r) []
theorem Koh : ∀ p r,Kof p = some r → Kog p r := by
 rintro ty0 r h
 unfold Kof at h
 refine b0 Tryz.f249 K8t 6 [(0,sI ty0)] fun c hc => ?_
 obtain rfl := os h
 exact K9f hc 1 [] [] [] (rs hc none [oN,nQ ⟨[(4,I (ty0.length : Int))],[],[]⟩,oN,oN] [(2,.bool (decide ((ty0.length : Int) > 40)))] [] (ai (Qeb (d := 4) I ty0) tv) (rt (rq [true])))
def Koi (c : Ctx) (p0 : K06) (out1 : K04) (ctx2 : LL) (t3 : K01) (needs4 : LL) (used5 : LL) : ((List Int) × (List Int)) ⊕ ((Int × K04)) → Exit → Q0a → Prop
 | .inl (a0,a1) => Qdr c .normal (mkS [(7,.ra 2 0)] [(2,.box [.ra 2000 0]),(36,rI a1),(2000,.box [sI a0,.rs 36,sM K07 out1.fkids,I out1.ffault,sI out1.fpath])])
 | .inr r => Qe3 TIx Tryz.f222 [K2b p0,.optr [oI out1.fty,oI out1.fneeds,oM K07 out1.fkids,I out1.ffault,oI out1.fpath],sL ctx2,K1z t3,sL needs4,sL used5] (I r.1,[.undef,K29 r.2,.undef,.undef,.undef,.undef])
def Koj (c : Ctx) (p0 : K06) (out1 : K04) (ctx2 : LL) (t3 : K01) (needs4 : LL) (used5 : LL) : ((List Int) × (List Int)) ⊕ ((Int × K04)) → Exit → Q0a → Prop
 | .inl (a0,a1) => Qdr c .normal (mkS [(7,.ra 2 0)] [(2,.box [.ra 2000 0]),(34,rI a1),(2000,.box [sI a0,.rs 34,sM K07 out1.fkids,I out1.ffault,sI out1.fpath])])
 | .inr r => Qe3 TIx Tryz.f222 [K2b p0,.optr [oI out1.fty,oI out1.fneeds,oM K07 out1.fkids,I out1.ffault,oI out1.fpath],sL ctx2,K1z t3,sL needs4,sL used5] (I r.1,[.undef,K29 r.2,.undef,.undef,.undef,.undef])
def Kok (c : Ctx) (p0 : K06) (out1 : K04) (ctx2 : LL) (t3 : K01) (needs4 : LL) (used5 : LL) : ((List Int) × (List Int)) ⊕ ((Int × K04)) → Exit → Q0a → Prop
 | .inl (a0,a1) => Qdr c .normal (mkS [(7,.ra 2 0)] [(2,.box [.ra 2000 0]),(30,rI a1),(2000,.box [sI a0,.rs 30,sM K07 out1.fkids,I out1.ffault,sI out1.fpath])])
 | .inr r => Qe3 TIx Tryz.f222 [K2b p0,.optr [oI out1.fty,oI out1.fneeds,oM K07 out1.fkids,I out1.ffault,oI out1.fpath],sL ctx2,K1z t3,sL needs4,sL used5] (I r.1,[.undef,K29 r.2,.undef,.undef,.undef,.undef])
def Kol (c : Ctx) (p0 : K06) (out1 : K04) (ctx2 : LL) (t3 : K01) (needs4 : LL) (used5 : LL) : ((List Int) × (List Int)) ⊕ ((Int × K04)) → Exit → Q0a → Prop
 | .inl (a0,a1) => Qdr c .normal (mkS [(7,.ra 2 0)] [(2,.box [.ra 2000 0]),(2000,.box [sI a0,sI a1,sM K07 out1.fkids,I out1.ffault,sI out1.fpath])])
 | .inr r => Qe3 TIx Tryz.f222 [K2b p0,.optr [oI out1.fty,oI out1.fneeds,oM K07 out1.fkids,I out1.ffault,oI out1.fpath],sL ctx2,K1z t3,sL needs4,sL used5] (I r.1,[.undef,K29 r.2,.undef,.undef,.undef,.undef])
def Kom (c : Ctx) (p0 : K06) (out1 : K04) (ctx2 : LL) (t3 : K01) (needs4 : LL) (used5 : LL) : ((List Int) × (List Int)) ⊕ ((Int × K04)) → Exit → Q0a → Prop
 | .inl (a0,a1) => Qdr c .normal (mkS [(7,.ra 2 0)] [(2,.box [.ra 2000 0]),(2000,.box [sI a0,sI a1,sM K07 out1.fkids,I out1.ffault,sI out1.fpath])])
 | .inr r => Qe3 TIx Tryz.f222 [K2b p0,.optr [oI out1.fty,oI out1.fneeds,oM K07 out1.fkids,I out1.ffault,oI out1.fpath],sL ctx2,K1z t3,sL needs4,sL used5] (I r.1,[.undef,K29 r.2,.undef,.undef,.undef,.undef])
def Kon (c : Ctx) (p0 : K06) (out1 : K04) (ctx2 : LL) (t3 : K01) (needs4 : LL) (used5 : LL) : ((List Int) × (List Int)) ⊕ ((Int × K04)) → Exit → Q0a → Prop
 | .inl (a0,a1) => Qdr c .normal (mkS [(7,.ra 2 0)] [(2,.box [.ra 2000 0]),(2000,.box [sI a0,sI a1,sM K07 out1.fkids,I out1.ffault,sI out1.fpath])])
 | .inr r => Qe3 TIx Tryz.f222 [K2b p0,.optr [oI out1.fty,oI out1.fneeds,oM K07 out1.fkids,I out1.ffault,oI out1.fpath],sL ctx2,K1z t3,sL needs4,sL used5] (I r.1,[.undef,K29 r.2,.undef,.undef,.undef,.undef])
def Koo (c : Ctx) (p0 : K06) (out1 : K04) (ctx2 : LL) (t3 : K01) (needs4 : LL) (used5 : LL) : ((List Int) × (List Int)) ⊕ ((Int × K04)) → Exit → Q0a → Prop
 | .inl (a0,a1) => Qdr c .normal (mkS [(7,.ra 2 0)] [(2,.box [.ra 2000 0]),(2000,.box [sI a0,sI a1,sM K07 out1.fkids,I out1.ffault,sI out1.fpath])])
 | .inr r => Qe3 TIx Tryz.f222 [K2b p0,.optr [oI out1.fty,oI out1.fneeds,oM K07 out1.fkids,I out1.ffault,oI out1.fpath],sL ctx2,K1z t3,sL needs4,sL used5] (I r.1,[.undef,K29 r.2,.undef,.undef,.undef,.undef])
def Kop (c : Ctx) (p0 : K06) (out1 : K04) (ctx2 : LL) (t3 : K01) (needs4 : LL) (used5 : LL) : ((List Int) × (List Int)) ⊕ ((Int × K04)) → Exit → Q0a → Prop
 | .inl (a0,a1) => Qdr c .normal (mkS [(7,.ra 2 0)] [(2,.box [.ra 2000 0]),(2000,.box [sI a0,sI a1,sM K07 out1.fkids,I out1.ffault,sI out1.fpath])])
 | .inr r => Qe3 TIx Tryz.f222 [K2b p0,.optr [oI out1.fty,oI out1.fneeds,oM K07 out1.fkids,I out1.ffault,oI out1.fpath],sL ctx2,K1z t3,sL needs4,sL used5] (I r.1,[.undef,K29 r.2,.undef,.undef,.undef,.undef])
def Koq (c : Ctx) (p0 : K06) (out1 : K04) (ctx2 : LL) (t3 : K01) (needs4 : LL) (used5 : LL) : ((List Int) × (List Int)) ⊕ ((Int × K04)) → Exit → Q0a → Prop
 | .inl (a0,a1) => Qdr c .normal (mkS [(7,.ra 2 0)] [(2,.box [.ra 2000 0]),(2000,.box [sI a0,sI a1,sM K07 out1.fkids,I out1.ffault,sI out1.fpath])])
 | .inr r => Qe3 TIx Tryz.f222 [K2b p0,.optr [oI out1.fty,oI out1.fneeds,oM K07 out1.fkids,I out1.ffault,oI out1.fpath],sL ctx2,K1z t3,sL needs4,sL used5] (I r.1,[.undef,K29 r.2,.undef,.undef,.undef,.undef])
def Kor (c : Ctx) (p0 : K06) (out1 : K04) (ctx2 : LL) (t3 : K01) (needs4 : LL) (used5 : LL) : ((List Int) × (List Int)) ⊕ ((Int × K04)) → Exit → Q0a → Prop
 | .inl (a0,a1) => Qdr c .normal (mkS [(7,.ra 2 0)] [(2,.box [.ra 2000 0]),(2000,.box [sI a0,sI a1,sM K07 out1.fkids,I out1.ffault,sI out1.fpath])])
 | .inr r => Qe3 TIx Tryz.f222 [K2b p0,.optr [oI out1.fty,oI out1.fneeds,oM K07 out1.fkids,I out1.ffault,oI out1.fpath],sL ctx2,K1z t3,sL needs4,sL used5] (I r.1,[.undef,K29 r.2,.undef,.undef,.undef,.undef])
def Kos (c : Ctx) (p0 : K06) (out1 : K04) (ctx2 : LL) (t3 : K01) (needs4 : LL) (used5 : LL) : ((List Int) × (List Int)) ⊕ ((Int × K04)) → Exit → Q0a → Prop
 | .inl (a0,a1) => Qdr c .normal (mkS [(7,.ra 2 0)] [(2,.box [.ra 2000 0]),(2000,.box [sI a0,sI a1,sM K07 out1.fkids,I out1.ffault,sI out1.fpath])])
 | .inr r => Qe3 TIx Tryz.f222 [K2b p0,.optr [oI out1.fty,oI out1.fneeds,oM K07 out1.fkids,I out1.ffault,oI out1.fpath],sL ctx2,K1z t3,sL needs4,sL used5] (I r.1,[.undef,K29 r.2,.undef,.undef,.undef,.undef])
def Kot (c : Ctx) (p0 : K06) (out1 : K04) (ctx2 : LL) (t3 : K01) (needs4 : LL) (used5 : LL) : ((List Int) × (List Int)) ⊕ ((Int × K04)) → Exit → Q0a → Prop
 | .inl (a0,a1) => Qdr c .normal (mkS [(7,.ra 2 0)] [(2,.box [.ra 2000 0]),(2000,.box [sI a0,sI a1,sM K07 out1.fkids,I out1.ffault,sI out1.fpath])])
 | .inr r => Qe3 TIx Tryz.f222 [K2b p0,.optr [oI out1.fty,oI out1.fneeds,oM K07 out1.fkids,I out1.ffault,oI out1.fpath],sL ctx2,K1z t3,sL needs4,sL used5] (I r.1,[.undef,K29 r.2,.undef,.undef,.undef,.undef])
def Kou (c : Ctx) (p0 : K06) (out1 : K04) (ctx2 : LL) (t3 : K01) (needs4 : LL) (used5 : LL) : ((List Int) × (List Int)) ⊕ ((Int × K04)) → Exit → Q0a → Prop
 | .inl (a0,a1) => Qdr c .normal (mkS [(7,.ra 2 0)] [(2,.box [.ra 2000 0]),(2000,.box [sI a0,sI a1,sM K07 out1.fkids,I out1.ffault,sI out1.fpath])])
 | .inr r => Qe3 TIx Tryz.f222 [K2b p0,.optr [oI out1.fty,oI out1.fneeds,oM K07 out1.fkids,I out1.ffault,oI out1.fpath],sL ctx2,K1z t3,sL needs4,sL used5] (I r.1,[.undef,K29 r.2,.undef,.undef,.undef,.undef])
def Kov : Option (List (List Nat)) := rx [[0],[0],[0,1],[0,1,2],[0],[0,4],[6],[7]]
def Kow : Option (List (List Nat)) := rx [[0],[0],[0],[0,2],[0],[0],[0],[0,6],[0],[0,8],[0,8,9],[0,2,3,5,6,7,8,9,10],[0],[0,12],[0,12,13],[0,2,3,4,5,6,7,8,9,10,11,12,13,14],[1,2,3,4,5,6,7,8,9,10,11,12,13,14,15],[1,2,3,4,5,6,7,8,9,10,11,12,13,14,15,16],[1,2,3,4,5,6,7,8,9,10,11,12,13,14,15,16,17],[19],[20],[21]]
def Kox : Option (List (List Nat)) := rx [[0],[0],[0],[0],[0,3],[0],[0,5],[0,2,3,4,5,6],[0,2,3,4,5,6,7],[0],[0,9],[0,9,10],[1,2,3,4,5,6,7,8,9,10,11],[1,2,3,4,5,6,7,8,9,10,11,12],[1,2,3,4,5,6,7,8,9,10,11,12,13],[15],[16],[17]]
def Koy : Option (List (List Nat)) := rx [[0],[0],[0,1],[0,1,2],[0],[0,4],[6],[7],[8],[9],[9],[9,10],[9,10,11],[9],[9,13],[15],[16],[17]]
def Koz (p : K06 × K04 × LL × K01 × LL × LL) : Option (Int × K04) :=
 match p with
 | (p0,out1,ctx2,t3,needs4,used5) =>
  ((
   if (t3.fOp == 0) = true then
   (idx ctx2 t3.fN) >>= fun a0 =>
   (Kmo a0) >>= fun a1 =>
   (idx out1.fneeds t3.fN) >>= fun a2 =>
   some (.inl (a1,(List.set out1.fneeds (Int.toNat t3.fN) 1)))
   else
   ((
    if (t3.fOp == 1) = true then
    some (.inl ([0],out1.fneeds))
    else
    ((
     if (t3.fOp == 2) = true then
     (idx needs4 0) >>= fun a3 =>
     (idx needs4 1) >>= fun a4 =>
     (Kmy (p0,a3,a4)) >>= fun a5 =>
     some (.inl ([0],a5))
     else
     ((
      if (t3.fOp == 3) = true then
      (Kn1 (1,out1)) >>= fun a6 =>
      (Kn1 (2,out1)) >>= fun a7 =>
      (Kml (a6,a7)) >>= fun a8 =>
      if a8 = true then
       (Kn1 (1,out1)) >>= fun a9 =>
       (idx needs4 0) >>= fun b1 =>
       (idx needs4 1) >>= fun b2 =>
       (idx needs4 2) >>= fun b3 =>
       (Knb (p0,b2,b3)) >>= fun b4 =>
       (Kmy (p0,b1,b4)) >>= fun b5 =>
       some (.inl (a9,b5))
      else
       some (.inr (3,out1))
      else
      ((
       if (t3.fOp == 4) = true then
       (Kn1 (0,out1)) >>= fun b6 =>
       (Kn1 (1,out1)) >>= fun b7 =>
       (Knp [[1],b6,b7]) >>= fun b8 =>
       (idx needs4 0) >>= fun b9 =>
       (idx needs4 1) >>= fun c0 =>
       (Kmy (p0,b9,c0)) >>= fun c1 =>
       some (.inl (b8,c1))
       else
       ((
        if (t3.fOp == 5) = true then
        (idx used5 1) >>= fun c2 =>
        (Ko5 (p0,c2,t3.fN)) >>= fun c3 =>
        if c3 = true then
         (Kn1 (1,out1)) >>= fun c4 =>
         (idx needs4 0) >>= fun c5 =>
         (Koc (p0,t3.fN,c5)) >>= fun c6 =>
         (idx needs4 1) >>= fun c7 =>
         (Kmy (p0,c6,c7)) >>= fun c8 =>
         some (.inl (c4,c8))
        else
         some (.inr (9,out1))
        else
        ((
         if (t3.fOp == 6) = true then
         (Kn1 (0,out1)) >>= fun c9 =>
         (Knp [[2],c9,t3.fType]) >>= fun d0 =>
         (idx needs4 0) >>= fun d1 =>
         some (.inl (d0,d1))
         else
         ((
          if (t3.fOp == 7) = true then
          (Kn1 (0,out1)) >>= fun d2 =>
          (Knp [[2],t3.fType,d2]) >>= fun d3 =>
          (idx needs4 0) >>= fun d4 =>
          some (.inl (d3,d4))
          else
          ((
           if (t3.fOp == 8) = true then
           (Kn1 (1,out1)) >>= fun d5 =>
           (Kn1 (2,out1)) >>= fun d6 =>
           (Kml (d5,d6)) >>= fun d7 =>
           if d7 = true then
            ((
            (idx used5 1) >>= fun d8 =>
            (Ko5 (p0,d8,t3.fN)) >>= fun d9 =>
            if d9 = true then
             (idx used5 2) >>= fun e0 =>
             (Ko5 (p0,e0,t3.fN)) >>= fun e1 =>
             some ((!e1))
            else
             some (true)
            ) : Option (Bool)) >>= fun e2 =>
            if e2 = true then
            some (.inr (9,out1))
            else
            (Kn1 (1,out1)) >>= fun e3 =>
            (idx needs4 0) >>= fun e4 =>
            (Koc (p0,t3.fN,e4)) >>= fun e5 =>
            (idx needs4 1) >>= fun e6 =>
            (idx needs4 2) >>= fun e7 =>
            (Knb (p0,e6,e7)) >>= fun e8 =>
            (Kmy (p0,e5,e8)) >>= fun e9 =>
            some (.inl (e3,e9))
           else
            some (.inr (3,out1))
           else
           ((
            if (t3.fOp == 9) = true then
            (idx used5 0) >>= fun f0 =>
            (Ko5 (p0,f0,t3.fN)) >>= fun f1 =>
            if f1 = true then
             (Kn1 (0,out1)) >>= fun f2 =>
             (Knp [[(wr (3 + t3.fN))],t3.fType,f2]) >>= fun f3 =>
             (idx needs4 0) >>= fun f4 =>
             some (.inl (f3,f4))
            else
             some (.inr (9,out1))
            else
            ((
             if (t3.fOp == 10) = true then
             (Kn1 (0,out1)) >>= fun f5 =>
             (idx f5 0) >>= fun f6 =>
             (Kk9 f6) >>= fun (f7,f8) =>
             (Kn1 (0,out1)) >>= fun f9 =>
             (Klt f9) >>= fun g0 =>
             (idx g0 1) >>= fun g1 =>
             (idx needs4 0) >>= fun g2 =>
             (idx needs4 1) >>= fun g3 =>
             (Koc (p0,f8,g3)) >>= fun g4 =>
             (Kmy (p0,g2,g4)) >>= fun g5 =>
             some (.inl (g1,g5))
             else
             ((
              if (t3.fOp == 11) = true then
              (Kn1 (0,out1)) >>= fun g6 =>
              (Knp [[(wr (19 + t3.fN))],g6]) >>= fun g7 =>
              (idx needs4 0) >>= fun g8 =>
              (Koc (p0,t3.fN,g8)) >>= fun g9 =>
              some (.inl (g7,g9))
              else
              ((
               if (t3.fOp == 12) = true then
               (Kn1 (0,out1)) >>= fun i0 =>
               (idx i0 0) >>= fun i1 =>
               (Kk9 i1) >>= fun (i2,i3) =>
               (idx used5 1) >>= fun i4 =>
               (Kj0 (p0.fs,t3.fN,i3)) >>= fun i5 =>
               (Ko5 (p0,i4,i5)) >>= fun i6 =>
               if i6 = true then
               (Kn1 (1,out1)) >>= fun i7 =>
               (idx needs4 0) >>= fun i8 =>
               (Koc (p0,t3.fN,i8)) >>= fun i9 =>
               (idx needs4 1) >>= fun j0 =>
               (Kmy (p0,i9,j0)) >>= fun j8 =>
               some (.inl (i7,j8))
               else
               some (.inr (9,out1))
               else
               some (.inl (out1.fty,out1.fneeds))) : Option (((List Int) × (List Int)) ⊕ ((Int × K04)))) >>= fun fl => match fl with
              | .inl (j9,k0) =>
               some (.inl (j9,k0))
              | .inr r =>
               some (.inr r)) : Option (((List Int) × (List Int)) ⊕ ((Int × K04)))) >>= fun fl => match fl with
             | .inl (k1,k2) =>
              some (.inl (k1,k2))
             | .inr r =>
              some (.inr r)) : Option (((List Int) × (List Int)) ⊕ ((Int × K04)))) >>= fun fl => match fl with
            | .inl (k3,k4) =>
             some (.inl (k3,k4))
            | .inr r =>
             some (.inr r)) : Option (((List Int) × (List Int)) ⊕ ((Int × K04)))) >>= fun fl => match fl with
           | .inl (k5,k6) =>
            some (.inl (k5,k6))
           | .inr r =>
            some (.inr r)) : Option (((List Int) × (List Int)) ⊕ ((Int × K04)))) >>= fun fl => match fl with
          | .inl (k7,k8) =>
           some (.inl (k7,k8))
          | .inr r =>
           some (.inr r)) : Option (((List Int) × (List Int)) ⊕ ((Int × K04)))) >>= fun fl => match fl with
         | .inl (k9,l0) =>
          some (.inl (k9,l0))
         | .inr r =>
          some (.inr r)) : Option (((List Int) × (List Int)) ⊕ ((Int × K04)))) >>= fun fl => match fl with
        | .inl (l1,l2) =>
         some (.inl (l1,l2))
        | .inr r =>
         some (.inr r)) : Option (((List Int) × (List Int)) ⊕ ((Int × K04)))) >>= fun fl => match fl with
       | .inl (l3,l4) =>
        some (.inl (l3,l4))
       | .inr r =>
        some (.inr r)) : Option (((List Int) × (List Int)) ⊕ ((Int × K04)))) >>= fun fl => match fl with
      | .inl (l5,l6) =>
       some (.inl (l5,l6))
      | .inr r =>
       some (.inr r)) : Option (((List Int) × (List Int)) ⊕ ((Int × K04)))) >>= fun fl => match fl with
     | .inl (l7,l8) =>
      some (.inl (l7,l8))
     | .inr r =>
      some (.inr r)) : Option (((List Int) × (List Int)) ⊕ ((Int × K04)))) >>= fun fl => match fl with
    | .inl (l9,m0) =>
     some (.inl (l9,m0))
    | .inr r =>
     some (.inr r)) : Option (((List Int) × (List Int)) ⊕ ((Int × K04)))) >>= fun fl => match fl with
   | .inl (m1,m2) =>
    some (.inl (m1,m2))
   | .inr r =>
    some (.inr r)) : Option (((List Int) × (List Int)) ⊕ ((Int × K04)))) >>= fun fl => match fl with
  | .inl (m3,m4) =>
   (Kof m3) >>= fun m5 =>
   if m5 = true then
   some (3,(K04.mk m3 m4 out1.fkids out1.ffault out1.fpath))
   else
   some (0,(K04.mk m3 m4 out1.fkids out1.ffault out1.fpath))
  | .inr r =>
   some r
def Kp0 (p : K06 × K04 × LL × K01 × LL × LL) (r : Int × K04) : Prop :=
 match p with
 | (p0,out1,ctx2,t3,needs4,used5) => Q77 Tryz.prog 222 [K2b p0,.optr [oI out1.fty,oI out1.fneeds,oM K07 out1.fkids,I out1.ffault,oI out1.fpath],sL ctx2,K1z t3,sL needs4,sL used5] (I r.1) [.undef,K29 r.2,.undef,.undef,.undef,.undef]
theorem Kp1 : ∀ p r,Koz p = some r → Kp0 p r := by
 rintro ⟨p0,out1,ctx2,t3,needs4,used5⟩ r h
 unfold Koz at h
 refine Q77.bodyO K3d (fn := Tryz.f222) (code := K8v) (by kernel_rfl) (by kernel_rfl) (by kernel_rfl) (nt := 362) (by kernel_rfl) (by kernel_rfl) (T := [(0,K2b p0),(1,.ra 2000 0),(2,sL ctx2),(3,K1z t3),(4,sL needs4),(5,sL used5)]) (O := [(2000,.box [.rs 2001,.rs 2002,.rs 2003,I out1.ffault,.rs 2004]),(2001,rI out1.fty),(2002,rI out1.fneeds),(2003,rM K07 out1.fkids),(2004,rI out1.fpath)]) (by kernel_rfl) (by kernel_rfl) (fun c hc => ?_)
 refine vz 2001 (Qex out1.fty) [(0,K2b p0),(1,.ra 2000 0),(2,sL ctx2),(3,K1z t3),(4,sL needs4),(5,sL used5)] [(2000,.box [sI out1.fty,.rs 2002,.rs 2003,I out1.ffault,.rs 2004]),(2002,rI out1.fneeds),(2003,rM K07 out1.fkids),(2004,rI out1.fpath)] (vz 2003 (K0e out1.fkids) [(0,K2b p0),(1,.ra 2000 0),(2,sL ctx2),(3,K1z t3),(4,sL needs4),(5,sL used5)] [(2000,.box [sI out1.fty,.rs 2002,sM K07 out1.fkids,I out1.ffault,.rs 2004]),(2002,rI out1.fneeds),(2004,rI out1.fpath)] (vz 2004 (Qex out1.fpath) [(0,K2b p0),(1,.ra 2000 0),(2,sL ctx2),(3,K1z t3),(4,sL needs4),(5,sL used5)] [(2000,.box [sI out1.fty,.rs 2002,sM K07 out1.fkids,I out1.ffault,sI out1.fpath]),(2002,rI out1.fneeds)] (rsd hc none [nW 1,nW 2,nW 3,oN] [0,1,3] [(6,.ra 1 0),(7,.ra 2 0),(9,.ra 3 0)] [(1,K2a p0),(2,.box [.ra 2000 0]),(3,K1y t3),(2000,.box [sI out1.fty,.rs 2002,sM K07 out1.fkids,I out1.ffault,sI out1.fpath]),(2002,rI out1.fneeds)] tv (K9h hc 2 [] [(13,.fn 243 [.ra 2 0])] (sN (K9h hc 2 [] [(20,I t3.fOp)] (bk 0 (K9e hc 2 [(2,sL ctx2),(4,sL needs4),(5,sL used5),(6,.ra 1 0),(7,.ra 2 0),(9,.ra 3 0),(13,.fn 243 [.ra 2 0]),(20,I t3.fOp),(21,.bool (t3.fOp == 0))] ?_))))))))
 obtain ⟨fl,a0,h⟩ := Qe5 h
 refine flw (Kou c p0 out1 ctx2 t3 needs4 used5 fl) ?_ (fun hF => ?_)
 ·replace h := a0
  refine ic h (fun a1 h => ?_) fun a1 h => ?_
  ·obtain ⟨a2,a3,a4,a5,h⟩ := bq2 h
   refine rsd hc (rx [[0],[0],[0],[0,2],[0,1,2,3],[0,1,2,3,4],[0,1,2,3,4,5],[7],[8],[9]]) (nN 4 [eL (sI a2),oN,some (.call (oI a4) [] 4),oN,oN,oN]) [2,4,5,6,13,20,21] [] [(2,.box [.ra 2000 0]),(3,K1y t3),(4,rI a4),(2000,.box [.rs 4,.rs 2002,sM K07 out1.fkids,I out1.ffault,sI out1.fpath]),(2002,rI out1.fneeds)] (ai (xL a3) (cq (Kmq _ _ a5) K86 tv)) ?_
   obtain ⟨a6,a7,h⟩ := Qe5 h
   obtain rfl := os h
   exact rgd hc (rx [[0],[1],[2],[3],[0],[0,4],[6],[7]]) (nN 7 [some (.eqv (.mk 0 true) ⟨[],[(2002,some (.arr (List.map I (List.set out1.fneeds (Int.toNat t3.fN) 1))))],[]⟩)]) [9] [] [(2,.box [.ra 2000 0]),(4,rI a4),(2000,.box [.rs 4,.rs 2002,sM K07 out1.fkids,I out1.ffault,sI out1.fpath]),(2002,.arr (List.map I (List.set out1.fneeds (Int.toNat t3.fN) 1)))] (ac (Qea (enc := I) a7) (congrArg (fun z => (⟨[],[(2002,some (.arr z))],[]⟩ : Wr)) (Qf8 (enc := I) (i := Int.toNat t3.fN) (l := out1.fneeds) (v := 1) (x := I 1) (Qek 1))) (Qf9 (enc := I) (sz := 1) Qeo a7) tv) (Qdr.view (fun a w hv => SRx.renL [] (SRx.frzC 2002 (xs := List.map I (List.set out1.fneeds (Int.toNat t3.fN) 1)) (xs' := List.map I (List.set out1.fneeds (Int.toNat t3.fN) 1)) (SRx.frzC 4 (xs := List.map I a4) (xs' := List.map I a4) hv (by kernel_rfl) (Qex _)) (by kernel_rfl) (Qex _)) (by kernel_rfl) (by kernel_rfl) (by kernel_rfl)))
  refine K9e hc 2 [(4,sL needs4),(5,sL used5),(6,.ra 1 0),(7,.ra 2 0),(9,.ra 3 0),(13,.fn 243 [.ra 2 0]),(20,I t3.fOp),(39,.bool (t3.fOp == 1))] ?_
  obtain ⟨fl,a8,h⟩ := Qe5 h
  refine flw (Kot c p0 out1 ctx2 t3 needs4 used5 fl) ?_ (fun hF => ?_)
  ·replace h := a8
   refine ic h (fun a9 h => ?_) fun a9 h => ?_
   ·obtain rfl := os h
    exact rg hc none [oN,mK 5,oN,oN,oN] [(7,.ra 2 0)] [(2,.box [.ra 2000 0]),(5,.arr (List.map I [0])),(2000,.box [.rs 5,.rs 2002,sM K07 out1.fkids,I out1.ffault,sI out1.fpath]),(2002,rI out1.fneeds)] tv (Qdr.view (fun a w hv => SRx.renL [] (SRx.frzC 2002 (xs := List.map I out1.fneeds) (xs' := List.map I out1.fneeds) (SRx.frzC 5 (xs := List.map I [0]) (xs' := List.map I [0]) hv (by kernel_rfl) (Qex _)) (by kernel_rfl) (Qex _)) (by kernel_rfl) (by kernel_rfl) (by kernel_rfl)))
   refine K9e hc 2 [(4,sL needs4),(5,sL used5),(6,.ra 1 0),(7,.ra 2 0),(9,.ra 3 0),(13,.fn 243 [.ra 2 0]),(20,I t3.fOp),(45,.bool (t3.fOp == 2))] ?_
   obtain ⟨fl,b1,h⟩ := Qe5 h
   refine flw (Kos c p0 out1 ctx2 t3 needs4 used5 fl) ?_ (fun hF => ?_)
   ·replace h := b1
    refine ic h (fun b2 h => ?_) fun b2 h => ?_
    ·obtain ⟨b3,b4,b5,b6,b7,b8,h⟩ := bq3 h
     obtain rfl := os h
     exact rg hc (rx [[0],[0],[0],[0],[0],[0,4],[0,4,5],[0],[0,7],[0,7,8],[0,3,4,5,6,7,8,9],[1,2,3,4,5,6,7,8,9,10],[1,2,3,4,5,6,7,8,9,10,11],[1,2,3,4,5,6,7,8,9,10,11,12],[14],[15],[16]]) ([oN,oN,mK 6,oN,oN,eL (sI b3),oN,oN,eL (sI b5),oN,some (.call (oI b7) [] 7)]++nN 6 []) [(7,.ra 2 0)] [(2,.box [.ra 2000 0]),(6,.arr (List.map I [0])),(7,rI b7),(2000,.box [.rs 6,.rs 7,sM K07 out1.fkids,I out1.ffault,sI out1.fpath])] (ab (xL b4) (xL b6) (cq (Kn0 _ _ b8) K8a tv)) (Qdr.view (fun a w hv => SRx.renL [] (SRx.frzC 7 (xs := List.map I b7) (xs' := List.map I b7) (SRx.frzC 6 (xs := List.map I [0]) (xs' := List.map I [0]) hv (by kernel_rfl) (Qex _)) (by kernel_rfl) (Qex _)) (by kernel_rfl) (by kernel_rfl) (by kernel_rfl)))
    refine K9e hc 2 [(4,sL needs4),(5,sL used5),(6,.ra 1 0),(7,.ra 2 0),(9,.ra 3 0),(13,.fn 243 [.ra 2 0]),(20,I t3.fOp),(62,.bool (t3.fOp == 3))] ?_
    obtain ⟨fl,b9,h⟩ := Qe5 h
    refine flw (Kor c p0 out1 ctx2 t3 needs4 used5 fl) ?_ (fun hF => ?_)
    ·replace h := b9
     refine ic h (fun c0 h => ?_) fun c0 h => ?_
     ·refine sN (sN (vz 2002 (Qex out1.fneeds) [(4,sL needs4),(5,sL used5),(6,.ra 1 0),(7,.ra 2 0),(9,.ra 3 0),(13,.fn 243 [.ra 2 0]),(20,I t3.fOp),(62,.bool (t3.fOp == 3))] [(1,K2a p0),(2,.box [.ra 2000 0]),(3,K1y t3),(2000,K27 out1)] ?_))
      obtain ⟨c1,c2,c3,c4,c5,c6,h⟩ := bq3 h
      refine rgd hc none [oN,eL (sI c1),oN,eL (sI c3),oc (.bool c5),oN] [5,9,20,62] [(69,.bool (!c5))] [(1,K2a p0),(2,.box [.ra 2000 0]),(2000,K27 out1)] (ad (Kn3 _ _ c2) K8c (Kn3 _ _ c4) K8c (cq (Kmn _ _ c6) K85 tv)) ?_
      rcases is h with ⟨c7,h⟩ | ⟨c7,h⟩
      ·refine cF (!c5) (nF c7) (sk ?_)
       obtain ⟨c8,c9,d0,d1,d2,d3,d4,d5,h⟩ := bq4 h
       obtain ⟨d6,d7,d8,d9,h⟩ := bq2 h
       obtain rfl := os h
       exact rg hc (rx [[0],[0],[0],[0,2],[0],[0],[0,5],[0,5,6],[0],[0],[0,9],[0,9,10],[0],[0,12],[0,12,13],[0,2,3,8,9,10,11,12,13,14],[0,2,3,4,5,6,7,8,9,10,11,12,13,14,15],[1,2,3,4,5,6,7,8,9,10,11,12,13,14,15,16],[1,2,3,4,5,6,7,8,9,10,11,12,13,14,15,16,17],[1,2,3,4,5,6,7,8,9,10,11,12,13,14,15,16,17,18],[20],[21],[22]]) ([oN,oN,oN,eL (sI c8),oN,oN,eL (sI d0),oN,oN,oN,eL (sI d2),oN,oN,eL (sI d4),oN,some (.call (oI d6) [] 8),some (.call (oI d8) [] 9)]++nN 6 []) [(7,.ra 2 0)] [(2,.box [.ra 2000 0]),(9,rI d8),(2000,.box [sI c8,.rs 9,sM K07 out1.fkids,I out1.ffault,sI out1.fpath])] (ad (Kn3 _ _ c9) K8c (xL d1) (xL d3) (ai (xL d5) (cq (Knd _ _ d7) K8e (ac (Q77.args (A1 := [K2b p0,sI d0,.sl (Q02 (List.map I d6))]) (A2 := [K2b p0,sI d0,sI d6]) (by simp only [List.map_nil,Qex]) (Kn0 _ _ d9)) K8a (Or.inr (Qf5 Qf1 d8) : ([8] : List Nat) = [] ∨ noSh (oI d8) = true) tv)))) (Qdr.view (fun a w hv => SRx.renL [] (SRx.frzC 9 (xs := List.map I d8) (xs' := List.map I d8) hv (by kernel_rfl) (Qex _)) (by kernel_rfl) (by kernel_rfl) (by kernel_rfl)))
      refine cT (!c5) (nT c7) ?_
      obtain rfl := os h
      exact rs0 hc 1 [(12,I 3)] [(2000,K27 out1)] (rt (rp [true]))
     refine K9e hc 2 [(4,sL needs4),(5,sL used5),(6,.ra 1 0),(7,.ra 2 0),(9,.ra 3 0),(13,.fn 243 [.ra 2 0]),(20,I t3.fOp),(91,.bool (t3.fOp == 4))] ?_
     obtain ⟨fl,e0,h⟩ := Qe5 h
     refine flw (Koq c p0 out1 ctx2 t3 needs4 used5 fl) ?_ (fun hF => ?_)
     ·replace h := e0
      refine ic h (fun e1 h => ?_) fun e1 h => ?_
      ·refine vz 2002 (Qex out1.fneeds) [(4,sL needs4),(5,sL used5),(6,.ra 1 0),(7,.ra 2 0),(9,.ra 3 0),(13,.fn 243 [.ra 2 0]),(20,I t3.fOp),(91,.bool (t3.fOp == 4))] [(1,K2a p0),(2,.box [.ra 2000 0]),(3,K1y t3),(2000,K27 out1)] ?_
       obtain ⟨e2,e3,e4,e5,e6,e7,e8,e9,h⟩ := bq4 h
       obtain ⟨f0,f1,f2,f3,h⟩ := bq2 h
       obtain rfl := os h
       exact rg hc (rx [[0],[0],[0],[0],[0,3],[0],[0,3,4,5],[0,2,3,4,5,6],[0,2,3,4,5,6,7],[0],[0],[0,10],[0,10,11],[0],[0,13],[0,13,14],[0,2,3,4,5,6,7,8,9,10,11,12,13,14,15],[1,2,3,4,5,6,7,8,9,10,11,12,13,14,15,16],[1,2,3,4,5,6,7,8,9,10,11,12,13,14,15,16,17],[1,2,3,4,5,6,7,8,9,10,11,12,13,14,15,16,17,18],[20],[21],[22]]) ([oN,oN,mK 11,oN,eL (sI e2),oN,eL (sI e4),mK 12,some (.call (sI e6) [.tup []] 1),oN,oN,eL (sI e8),oN,oN,eL (sI f0),oN,some (.call (oI f2) [] 13)]++nN 6 []) [(7,.ra 2 0)] [(2,.box [.ra 2000 0]),(13,rI f2),(2000,.box [sI e6,.rs 13,sM K07 out1.fkids,I out1.ffault,sI out1.fpath])] (ad (Kn3 _ _ e3) K8c (Kn3 _ _ e5) K8c (ad (Q77.args (A1 := [.sl (Q02 [AV.osl (List.map I [1]),sI e2,sI e4])]) (A2 := [.sl (List.map K14 [[1],e2,e4])]) (by simp only [List.map_cons,List.map_nil,K15,Qex,share,Qfu,Q02]) (Knr _ _ e7)) K8i (xL e9) (xL f1) (cq (Kn0 _ _ f3) K8a tv))) (Qdr.view (fun a w hv => SRx.renL [] (SRx.frzC 13 (xs := List.map I f2) (xs' := List.map I f2) hv (by kernel_rfl) (Qex _)) (by kernel_rfl) (by kernel_rfl) (by kernel_rfl)))
      refine K9e hc 2 [(4,sL needs4),(5,sL used5),(6,.ra 1 0),(7,.ra 2 0),(9,.ra 3 0),(13,.fn 243 [.ra 2 0]),(20,I t3.fOp),(114,.bool (t3.fOp == 5))] ?_
      obtain ⟨fl,f4,h⟩ := Qe5 h
      refine flw (Kop c p0 out1 ctx2 t3 needs4 used5 fl) ?_ (fun hF => ?_)
      ·replace h := f4
       refine ic h (fun f5 h => ?_) fun f5 h => ?_
       ·refine sN ?_
        obtain ⟨f6,f7,f8,f9,h⟩ := bq2 h
        refine rss hc Kov [oN,oN,eL (sI f6),oN,oN,oN,oc (.bool f8),oN] [(4,sL needs4),(6,.ra 1 0),(7,.ra 2 0),(9,.ra 3 0),(13,.fn 243 [.ra 2 0]),(123,.bool (!f8))] (ai (xL f7) (cq (Ko7 _ _ f9) K8q tv)) ?_
        rcases is h with ⟨g0,h⟩ | ⟨g0,h⟩
        ·refine cF (!f8) (nF g0) (sk (vz 2002 (Qex out1.fneeds) [(4,sL needs4),(6,.ra 1 0),(7,.ra 2 0),(9,.ra 3 0),(13,.fn 243 [.ra 2 0]),(123,.bool (!f8))] [(1,K2a p0),(2,.box [.ra 2000 0]),(3,K1y t3),(2000,K27 out1)] ?_))
         obtain ⟨g1,g2,g3,g4,g5,g6,g7,g8,h⟩ := bq4 h
         obtain ⟨g9,i0,h⟩ := Qe5 h
         obtain rfl := os h
         exact rg hc Kow ([oN,oN,oN,eL (sI g1)]++nN 5 ([eL (sI g3),oN,some (.call (oI g5) [] 14),oN,eL (sI g7),oN,some (.call (oI g9) [] 15)]++nN 6 [])) [(7,.ra 2 0)] [(2,.box [.ra 2000 0]),(15,rI g9),(2000,.box [sI g1,.rs 15,sM K07 out1.fkids,I out1.ffault,sI out1.fpath])] (ac (Kn3 _ _ g2) K8c (xL g4) (cq (Koe _ _ g6) K8s (ad (xL g8) (Q77.args (A1 := [K2b p0,.sl (Q02 (List.map I g5)),sI g7]) (A2 := [K2b p0,sI g5,sI g7]) (by simp only [List.map_nil,Qex]) (Kn0 _ _ i0)) K8a (Or.inr (Qf5 Qf1 g9) : ([14] : List Nat) = [] ∨ noSh (oI g9) = true) tv))) (Qdr.view (fun a w hv => SRx.renL [] (SRx.frzC 15 (xs := List.map I g9) (xs' := List.map I g9) hv (by kernel_rfl) (Qex _)) (by kernel_rfl) (by kernel_rfl) (by kernel_rfl)))
        refine cT (!f8) (nT g0) (rs0 hc 1 [(12,I 9)] [(2000,.box [sI out1.fty,.rs 2002,sM K07 out1.fkids,I out1.ffault,sI out1.fpath]),(2002,rI out1.fneeds)] (vz 2002 (Qex out1.fneeds) [(12,I 9)] [(2000,K27 out1)] ?_))
        obtain rfl := os h
        exact rt (rp [true])
       refine K9e hc 2 [(4,sL needs4),(5,sL used5),(6,.ra 1 0),(7,.ra 2 0),(9,.ra 3 0),(13,.fn 243 [.ra 2 0]),(20,I t3.fOp),(144,.bool (t3.fOp == 6))] ?_
       obtain ⟨fl,i1,h⟩ := Qe5 h
       refine flw (Koo c p0 out1 ctx2 t3 needs4 used5 fl) ?_ (fun hF => ?_)
       ·replace h := i1
        refine ic h (fun i2 h => ?_) fun i2 h => ?_
        ·refine vz 2002 (Qex out1.fneeds) [(4,sL needs4),(5,sL used5),(6,.ra 1 0),(7,.ra 2 0),(9,.ra 3 0),(13,.fn 243 [.ra 2 0]),(20,I t3.fOp),(144,.bool (t3.fOp == 6))] [(1,K2a p0),(2,.box [.ra 2000 0]),(3,K1y t3),(2000,K27 out1)] ?_
         obtain ⟨i3,i4,i5,i6,i7,i8,h⟩ := bq3 h
         obtain rfl := os h
         exact rj hc Kox ([oN,oN,mK 17,oN,eL (sI i3),oN,oN,mK 18,some (.call (sI i5) [.tup []] 1),oN,eL (sI i7)]++nN 7 []) (ad (Kn3 _ _ i4) K8c (Q77.args (A1 := [.sl (Q02 [AV.osl (List.map I [2]),sI i3,sI t3.fType])]) (A2 := [.sl (List.map K14 [[2],i3,t3.fType])]) (by simp only [List.map_cons,List.map_nil,K15,Qex,share,Qfu,Q02]) (Knr _ _ i6)) K8i (ai (xL i8) tv))
        refine K9e hc 2 [(4,sL needs4),(5,sL used5),(6,.ra 1 0),(7,.ra 2 0),(9,.ra 3 0),(13,.fn 243 [.ra 2 0]),(20,I t3.fOp),(162,.bool (t3.fOp == 7))] ?_
        obtain ⟨fl,i9,h⟩ := Qe5 h
        refine flw (Kon c p0 out1 ctx2 t3 needs4 used5 fl) ?_ (fun hF => ?_)
        ·replace h := i9
         refine ic h (fun j0 h => ?_) fun j0 h => ?_
         ·refine vz 2002 (Qex out1.fneeds) [(4,sL needs4),(5,sL used5),(6,.ra 1 0),(7,.ra 2 0),(9,.ra 3 0),(13,.fn 243 [.ra 2 0]),(20,I t3.fOp),(162,.bool (t3.fOp == 7))] [(1,K2a p0),(2,.box [.ra 2000 0]),(3,K1y t3),(2000,K27 out1)] ?_
          obtain ⟨j8,j9,k0,k1,k2,k3,h⟩ := bq3 h
          obtain rfl := os h
          exact rj hc Kox ([oN,oN,mK 20,oN,oN,oN,eL (sI j8),mK 21,some (.call (sI k0) [.tup []] 1),oN,eL (sI k2)]++nN 7 []) (ad (Kn3 _ _ j9) K8c (Q77.args (A1 := [.sl (Q02 [AV.osl (List.map I [2]),sI t3.fType,sI j8])]) (A2 := [.sl (List.map K14 [[2],t3.fType,j8])]) (by simp only [List.map_cons,List.map_nil,K15,Qex,share,Qfu,Q02]) (Knr _ _ k1)) K8i (ai (xL k3) tv))
         refine K9e hc 2 [(4,sL needs4),(5,sL used5),(6,.ra 1 0),(7,.ra 2 0),(9,.ra 3 0),(13,.fn 243 [.ra 2 0]),(20,I t3.fOp),(180,.bool (t3.fOp == 8))] ?_
         obtain ⟨fl,k4,h⟩ := Qe5 h
         refine flw (Kom c p0 out1 ctx2 t3 needs4 used5 fl) ?_ (fun hF => ?_)
         ·replace h := k4
          refine ic h (fun k5 h => ?_) fun k5 h => ?_
          ·refine sN (sN (vz 2002 (Qex out1.fneeds) [(4,sL needs4),(5,sL used5),(6,.ra 1 0),(7,.ra 2 0),(9,.ra 3 0),(13,.fn 243 [.ra 2 0]),(20,I t3.fOp),(180,.bool (t3.fOp == 8))] [(1,K2a p0),(2,.box [.ra 2000 0]),(3,K1y t3),(2000,K27 out1)] ?_))
           obtain ⟨k6,k7,k8,k9,l0,l1,h⟩ := bq3 h
           refine K9c hc none [oN,eL (sI k6),oN,eL (sI k8),oc (.bool l0),oN] [20,180] [(187,.bool (!l0))] (ad (Kn3 _ _ k7) K8c (Kn3 _ _ k9) K8c (cq (Kmn _ _ l1) K85 tv)) ?_
           rcases is h with ⟨l2,h⟩ | ⟨l2,h⟩
           ·refine cF (!l0) (nF l2) (sk (sN (sN ?_)))
            obtain ⟨l3,l4,h⟩ := Qe5 h
            refine wi [187,5] [(205,.bool l3)] ?_ ?_
            ·replace h := l4
             obtain ⟨l5,l6,l7,l8,h⟩ := bq2 h
             rcases is h with ⟨l9,h⟩ | ⟨l9,h⟩
             ·obtain ⟨m0,m1,m2,m3,h⟩ := bq2 h
              obtain rfl := os h
              exact rj hc Koy ([oN,oN,eL (sI l5),oN,oN,oN,oc (.bool l7)]++nN 4 [eL (sI m0),oN,oN,oN,oc (.bool m2),oN,oF]) (ai (xL l6) (cq (Ko7 _ _ l8) K8q (ar 3 (nF l9) (ai (xL m1) (ar 4 (nF l9) (cq (Ko7 _ _ m3) K8q (ar 2 (nF l9) tv)))))))
             obtain rfl := os h
             exact rj hc Koy ([oN,oN,eL (sI l5),oN,oN,oN,oc (.bool l7),oN,oN]++n_ 8 [oT]) (ai (xL l6) (cq (Ko7 _ _ l8) K8q (ar 8 (neF (nT l9)) (ai (nT l9) tv))))
            clear l4
            refine ic h (fun m4 h => ?_) fun m4 h => ?_
            ·obtain rfl := os h
             exact rs0 hc 1 [(12,I 9)] [(2000,K27 out1)] (rt (rp [true]))
            refine sk ?_
            obtain ⟨m5,m6,m7,m8,m9,n0,n1,n2,h⟩ := bq4 h
            obtain ⟨n3,n4,n5,n6,n7,n8,h⟩ := bq3 h
            obtain rfl := os h
            exact rg hc (rx [[0],[0],[0],[0,2],[0],[0],[0],[0,6],[0],[0,8],[0,8,9],[0,2,3,5,6,7,8,9,10],[0],[0],[0,13],[0,13,14],[0],[0,16],[0,16,17],[0,2,3,5,6,7,8,9,10,11,12,13,14,15,16,17,18],[0,2,3,4,5,6,7,8,9,10,11,12,13,14,15,16,17,18,19],[1,2,3,4,5,6,7,8,9,10,11,12,13,14,15,16,17,18,19,20],[1,2,3,4,5,6,7,8,9,10,11,12,13,14,15,16,17,18,19,20,21],[1,2,3,4,5,6,7,8,9,10,11,12,13,14,15,16,17,18,19,20,21,22],[24],[25],[26]]) ([oN,oN,oN,eL (sI m5)]++nN 5 ([eL (sI m7),oN,some (.call (oI m9) [] 22),oN,oN,eL (sI n1),oN,oN,eL (sI n3),oN,some (.call (oI n5) [] 23),some (.call (oI n7) [] 24)]++nN 6 [])) [(7,.ra 2 0)] [(2,.box [.ra 2000 0]),(24,rI n7),(2000,.box [sI m5,.rs 24,sM K07 out1.fkids,I out1.ffault,sI out1.fpath])] (ac (Kn3 _ _ m6) K8c (xL m8) (cq (Koe _ _ n0) K8s (ab (xL n2) (xL n4) (cq (Knd _ _ n6) K8e (ac (Q77.args (A1 := [K2b p0,.sl (Q02 (List.map I m9)),.sl (Q02 (List.map I n5))]) (A2 := [K2b p0,sI m9,sI n5]) (by simp only [List.map_nil,Qex]) (Kn0 _ _ n8)) K8a (Or.inr (Qf5 Qf1 n7) : ([22,23] : List Nat) = [] ∨ noSh (oI n7) = true) tv))))) (Qdr.view (fun a w hv => SRx.renL [] (SRx.frzC 24 (xs := List.map I n7) (xs' := List.map I n7) hv (by kernel_rfl) (Qex _)) (by kernel_rfl) (by kernel_rfl) (by kernel_rfl)))
           refine cT (!l0) (nT l2) ?_
           obtain rfl := os h
           exact rs0 hc 1 [(12,I 3)] [(2000,K27 out1)] (rt (rp [true]))
          refine K9e hc 2 [(4,sL needs4),(5,sL used5),(6,.ra 1 0),(7,.ra 2 0),(9,.ra 3 0),(13,.fn 243 [.ra 2 0]),(20,I t3.fOp),(231,.bool (t3.fOp == 9))] ?_
          obtain ⟨fl,n9,h⟩ := Qe5 h
          refine flw (Kol c p0 out1 ctx2 t3 needs4 used5 fl) ?_ (fun hF => ?_)
          ·replace h := n9
           refine ic h (fun o0 h => ?_) fun o0 h => ?_
           ·refine sN ?_
            obtain ⟨o1,o2,o3,o4,h⟩ := bq2 h
            refine rs hc Kov [oN,oN,eL (sI o1),oN,oN,oN,oc (.bool o3),oN] [(4,sL needs4),(7,.ra 2 0),(9,.ra 3 0),(13,.fn 243 [.ra 2 0]),(240,.bool (!o3))] [(2,.box [.ra 2000 0]),(3,K1y t3),(2000,.box [sI out1.fty,.rs 2002,sM K07 out1.fkids,I out1.ffault,sI out1.fpath]),(2002,rI out1.fneeds)] (ai (xL o2) (cq (Ko7 _ _ o4) K8q tv)) ?_
            rcases is h with ⟨o5,h⟩ | ⟨o5,h⟩
            ·refine cF (!o3) (nF o5) (sk (vz 2002 (Qex out1.fneeds) [(4,sL needs4),(7,.ra 2 0),(9,.ra 3 0),(13,.fn 243 [.ra 2 0]),(240,.bool (!o3))] [(2,.box [.ra 2000 0]),(3,K1y t3),(2000,K27 out1)] ?_))
             obtain ⟨o6,o7,o8,o9,p1,p2,h⟩ := bq3 h
             obtain rfl := os h
             exact rj hc (rx [[0],[0],[0],[0,2],[0,2,3],[0,2,3,4],[0],[0,6],[0],[0,8],[0,2,3,4,5,6,7,8,9],[0,2,3,4,5,6,7,8,9,10],[0],[0,12],[0,12,13],[1,2,3,4,5,6,7,8,9,10,11,12,13,14],[1,2,3,4,5,6,7,8,9,10,11,12,13,14,15],[1,2,3,4,5,6,7,8,9,10,11,12,13,14,15,16],[18],[19],[20]]) (nN 5 ([mK 26,oN,oN,oN,eL (sI o6),mK 27,some (.call (sI o8) [.tup []] 1),oN,eL (sI p1)]++nN 7 [])) (ad (Kn3 _ _ o7) K8c (Q77.args (A1 := [.sl (Q02 [AV.osl (List.map I [(wr (3 + t3.fN))]),sI t3.fType,sI o6])]) (A2 := [.sl (List.map K14 [[(wr (3 + t3.fN))],t3.fType,o6])]) (by simp only [List.map_cons,List.map_nil,K15,Qex,share,Qfu,Q02]) (Knr _ _ o9)) K8i (ai (xL p2) tv))
            refine cT (!o3) (nT o5) (rs0 hc 1 [(12,I 9)] [(2000,.box [sI out1.fty,.rs 2002,sM K07 out1.fkids,I out1.ffault,sI out1.fpath]),(2002,rI out1.fneeds)] (vz 2002 (Qex out1.fneeds) [(12,I 9)] [(2000,K27 out1)] ?_))
            obtain rfl := os h
            exact rt (rp [true])
           refine K9e hc 2 [(4,sL needs4),(5,sL used5),(6,.ra 1 0),(7,.ra 2 0),(9,.ra 3 0),(13,.fn 243 [.ra 2 0]),(20,I t3.fOp),(260,.bool (t3.fOp == 10))] ?_
           obtain ⟨fl,p3,h⟩ := Qe5 h
           refine flw (Kok c p0 out1 ctx2 t3 needs4 used5 fl) ?_ (fun hF => ?_)
           ·replace h := p3
            refine ic h (fun p4 h => ?_) fun p4 h => ?_
            ·refine sN (vz 2002 (Qex out1.fneeds) [(4,sL needs4),(5,sL used5),(6,.ra 1 0),(7,.ra 2 0),(9,.ra 3 0),(13,.fn 243 [.ra 2 0]),(20,I t3.fOp),(260,.bool (t3.fOp == 10))] [(1,K2a p0),(2,.box [.ra 2000 0]),(3,K1y t3),(2000,K27 out1)] ?_)
             obtain ⟨p5,p6,p7,p8,⟨p9,q0⟩,q1,h⟩ := bq3 h
             refine rgd hc none ([oN,eL (sI p5),eL (I p7),oN,oc (.tup [I p9,I q0])]++nN 5 []) [5,9,20,260] [(15,I q0)] [(1,K2a p0),(2,.box [.ra 2000 0]),(2000,K27 out1)] (ac (Kn3 _ _ p6) K8c (ix p8) (cq (Kkb _ _ q1) K74 tv)) ?_
             obtain ⟨q2,q3,q4,q5,q6,q7,q8,q9,h⟩ := bq4 h
             obtain ⟨r0,r1,r2,r3,r4,r5,h⟩ := bq3 h
             obtain rfl := os h
             exact rj hc (rx [[0],[0],[0],[0,2],[0,2,3],[0,2,3,4],[0,2,3,4,5],[0],[0],[0,8],[0,8,9],[0],[0],[0],[0,13],[0,13,14],[0,2,3,4,11,12,13,14,15],[0,2,3,4,7,8,9,10,11,12,13,14,15,16],[1,2,3,4,5,6,7,8,9,10,11,12,13,14,15,16,17],[1,2,3,4,5,6,7,8,9,10,11,12,13,14,15,16,17,18],[1,2,3,4,5,6,7,8,9,10,11,12,13,14,15,16,17,18,19],[21],[22],[23]]) ([oN,oN,oN,eL (sI q2),some (.call (.osl (List.map K14 q4)) [] 28),oN,eL (sI q6),oN,oN,eL (sI q8)]++nN 4 ([eL (sI r0),oN,some (.call (oI r2) [] 29),some (.call (oI r4) [] 30)]++nN 6 [])) (ab (Kn3 _ _ q3) K8c (cq (Klv _ _ q5) K7t (ad (Qea (enc := K14) q7) (xL q7).2 (xL q9) (xL r1) (cq (Koe _ _ r3) K8s (ac (Q77.args (A1 := [K2b p0,sI q8,.sl (Q02 (List.map I r2))]) (A2 := [K2b p0,sI q8,sI r2]) (by simp only [List.map_nil,Qex]) (Kn0 _ _ r5)) K8a (Or.inr (Qf5 Qf1 r4) : ([29] : List Nat) = [] ∨ noSh (oI r4) = true) tv)))))
            refine K9e hc 2 [(4,sL needs4),(5,sL used5),(6,.ra 1 0),(7,.ra 2 0),(9,.ra 3 0),(13,.fn 243 [.ra 2 0]),(20,I t3.fOp),(292,.bool (t3.fOp == 11))] ?_
            obtain ⟨fl,r6,h⟩ := Qe5 h
            refine flw (Koj c p0 out1 ctx2 t3 needs4 used5 fl) ?_ (fun hF => ?_)
            ·replace h := r6
             refine ic h (fun r7 h => ?_) fun r7 h => ?_
             ·refine vz 2002 (Qex out1.fneeds) [(4,sL needs4),(5,sL used5),(6,.ra 1 0),(7,.ra 2 0),(9,.ra 3 0),(13,.fn 243 [.ra 2 0]),(20,I t3.fOp),(292,.bool (t3.fOp == 11))] [(1,K2a p0),(2,.box [.ra 2000 0]),(3,K1y t3),(2000,K27 out1)] ?_
              obtain ⟨r8,r9,s0,s1,s2,s3,s4,s5,h⟩ := bq4 h
              obtain rfl := os h
              exact rj hc (rx [[0],[0],[0],[0,2],[0,2,3],[0,2,3,4],[0],[0,6],[0,2,3,4,5,6,7],[0,2,3,4,5,6,7,8],[0],[0],[0,11],[0],[0,13],[0,13,14],[0,2,3,4,5,6,7,8,9,10,11,12,13,14,15],[1,2,3,4,5,6,7,8,9,10,11,12,13,14,15,16],[1,2,3,4,5,6,7,8,9,10,11,12,13,14,15,16,17],[1,2,3,4,5,6,7,8,9,10,11,12,13,14,15,16,17,18],[20],[21],[22]]) (nN 5 ([mK 32,oN,eL (sI r8),mK 33,some (.call (sI s0) [.tup []] 1)]++nN 4 ([eL (sI s2),oN,some (.call (oI s4) [] 34)]++nN 6 []))) (ad (Kn3 _ _ r9) K8c (Q77.args (A1 := [.sl (Q02 [AV.osl (List.map I [(wr (19 + t3.fN))]),sI r8])]) (A2 := [.sl (List.map K14 [[(wr (19 + t3.fN))],r8])]) (by simp only [List.map_cons,List.map_nil,K15,Qex,share,Qfu,Q02]) (Knr _ _ s1)) K8i (ai (xL s3) (cq (Koe _ _ s5) K8s tv)))
             refine K9e hc 2 [(4,sL needs4),(5,sL used5),(6,.ra 1 0),(7,.ra 2 0),(9,.ra 3 0),(13,.fn 243 [.ra 2 0]),(315,.bool (t3.fOp == 12))] ?_
             obtain ⟨fl,s6,h⟩ := Qe5 h
             refine flw (Koi c p0 out1 ctx2 t3 needs4 used5 fl) ?_ (fun hF => ?_)
             ·replace h := s6
              refine ic h (fun s7 h => ?_) fun s7 h => ?_
              ·refine sN (vz 2002 (Qex out1.fneeds) [(4,sL needs4),(5,sL used5),(6,.ra 1 0),(7,.ra 2 0),(9,.ra 3 0),(13,.fn 243 [.ra 2 0]),(315,.bool (t3.fOp == 12))] [(1,K2a p0),(2,.box [.ra 2000 0]),(3,K1y t3),(2000,K27 out1)] ?_)
               obtain ⟨s8,s9,t0,t1,⟨t2,t4⟩,t5,h⟩ := bq3 h
               refine K9c hc none ([oN,eL (sI s8),eL (I t0),oN,oc (.tup [I t2,I t4])]++nN 5 []) [315] [(17,I t4)] (ac (Kn3 _ _ s9) K8c (ix t1) (cq (Kkb _ _ t5) K74 tv)) (sN ?_)
               obtain ⟨t6,t7,t8,t9,u0,u1,h⟩ := bq3 h
               refine K9g hc (rx [[0],[0],[0,1],[0,1,2],[0],[0,4],[0],[0,6],[0],[0,4,5,6,7,8],[10],[11]]) ([oN,oN,eL (sI t6)]++nN 6 [oc (I t8),oc (.bool u0),oN]) [17,5] [(336,.bool (!u0))] (ai (xL t7) (cq (Kj2 _ _ t9) K6w (cq (Ko7 _ _ u1) K8q tv))) ?_
               rcases is h with ⟨u2,h⟩ | ⟨u2,h⟩
               ·refine cF (!u0) (nF u2) (sk ?_)
                obtain ⟨u3,u4,u5,u6,u7,u8,u9,v0,h⟩ := bq4 h
                obtain ⟨v1,v2,h⟩ := Qe5 h
                obtain rfl := os h
                exact rj hc Kow ([oN,oN,oN,eL (sI u3)]++nN 5 ([eL (sI u5),oN,some (.call (oI u7) [] 35),oN,eL (sI u9),oN,some (.call (oI v1) [] 36)]++nN 6 [])) (ac (Kn3 _ _ u4) K8c (xL u6) (cq (Koe _ _ u8) K8s (ad (xL v0) (Q77.args (A1 := [K2b p0,.sl (Q02 (List.map I u7)),sI u9]) (A2 := [K2b p0,sI u7,sI u9]) (by simp only [List.map_nil,Qex]) (Kn0 _ _ v2)) K8a (Or.inr (Qf5 Qf1 v1) : ([35] : List Nat) = [] ∨ noSh (oI v1) = true) tv)))
               refine cT (!u0) (nT u2) ?_
               obtain rfl := os h
               exact rs0 hc 1 [(12,I 9)] [(2000,K27 out1)] (rt (rp [true]))
              obtain rfl := os h
              exact sk (iv [(36,2002)])
             rcases fl with ⟨v3,v4⟩ | r
             ·refine wf hF ?_
              obtain rfl := os h
              exact iv [(34,36)]
             refine Wp.mono hF ?_
             rintro _ _ ⟨rfl,hfin⟩
             obtain rfl := os h
             exact ⟨rfl,hfin⟩
            rcases fl with ⟨v5,v6⟩ | r
            ·refine wf hF ?_
             obtain rfl := os h
             exact iv [(30,34)]
            refine Wp.mono hF ?_
            rintro _ _ ⟨rfl,hfin⟩
            obtain rfl := os h
            exact ⟨rfl,hfin⟩
           rcases fl with ⟨v7,v8⟩ | r
           ·refine wf hF ?_
            obtain rfl := os h
            exact Qdr.view (fun a w hv => SRx.renL [] (SRx.frzC 30 (xs := List.map I v8) (xs' := List.map I v8) hv (by kernel_rfl) (Qex _)) (by kernel_rfl) (by kernel_rfl) (by kernel_rfl))
           refine Wp.mono hF ?_
           rintro _ _ ⟨rfl,hfin⟩
           obtain rfl := os h
           exact ⟨rfl,hfin⟩
          rcases fl with ⟨v9,w0⟩ | r
          ·refine wf hF ?_
           obtain rfl := os h
           exact im
          refine Wp.mono hF ?_
          rintro _ _ ⟨rfl,hfin⟩
          obtain rfl := os h
          exact ⟨rfl,hfin⟩
         rcases fl with ⟨w1,w2⟩ | r
         ·refine wf hF ?_
          obtain rfl := os h
          exact im
         refine Wp.mono hF ?_
         rintro _ _ ⟨rfl,hfin⟩
         obtain rfl := os h
         exact ⟨rfl,hfin⟩
        rcases fl with ⟨w3,w4⟩ | r
        ·refine wf hF ?_
         obtain rfl := os h
         exact im
        refine Wp.mono hF ?_
        rintro _ _ ⟨rfl,hfin⟩
        obtain rfl := os h
        exact ⟨rfl,hfin⟩
       rcases fl with ⟨w5,w6⟩ | r
       ·refine wf hF ?_
        obtain rfl := os h
        exact im
       refine Wp.mono hF ?_
       rintro _ _ ⟨rfl,hfin⟩
       obtain rfl := os h
       exact ⟨rfl,hfin⟩
      rcases fl with ⟨w7,w8⟩ | r
      ·refine wf hF ?_
       obtain rfl := os h
       exact im
      refine Wp.mono hF ?_
      rintro _ _ ⟨rfl,hfin⟩
      obtain rfl := os h
      exact ⟨rfl,hfin⟩
     rcases fl with ⟨w9,x0⟩ | r
     ·refine wf hF ?_
      obtain rfl := os h
      exact im
     refine Wp.mono hF ?_
     rintro _ _ ⟨rfl,hfin⟩
     obtain rfl := os h
     exact ⟨rfl,hfin⟩
    rcases fl with ⟨x1,x2⟩ | r
    ·refine wf hF ?_
     obtain rfl := os h
     exact im
    refine Wp.mono hF ?_
    rintro _ _ ⟨rfl,hfin⟩
    obtain rfl := os h
    exact ⟨rfl,hfin⟩
   rcases fl with ⟨x3,x4⟩ | r
   ·refine wf hF ?_
    obtain rfl := os h
    exact im
   refine Wp.mono hF ?_
   rintro _ _ ⟨rfl,hfin⟩
   obtain rfl := os h
   exact ⟨rfl,hfin⟩
  rcases fl with ⟨x5,x6⟩ | r
  ·refine wf hF ?_
   obtain rfl := os h
   exact im
  refine Wp.mono hF ?_
  rintro _ _ ⟨rfl,hfin⟩
  obtain rfl := os h
  exact ⟨rfl,hfin⟩
 rcases fl with ⟨x7,x8⟩ | r
 ·refine wf hF (sN ?_)
  obtain ⟨x9,y0,h⟩ := Qe5 h
  refine rs hc none (nN 4 [oc (.bool x9)]) [(361,.bool x9)] [(2000,.box [sI x7,sI x8,sM K07 out1.fkids,I out1.ffault,sI out1.fpath])] (cq (Koh _ _ y0) K8u tv) (ic h (fun y1 h => ?_) fun y1 h => ?_)
  ·obtain rfl := os h
   exact K9e hc 1 [(12,I 3)] (rt (rr [true]))
  obtain rfl := os h
  exact sk (K9e hc 1 [(12,I 0)] (rt (rr [true])))
 refine Wp.mono hF ?_
 rintro _ _ ⟨rfl,hfin⟩
 obtain rfl := os h
 exact ⟨.inl rfl,hfin⟩
def Kp2 (c : Ctx) (p0 : K06) (ctx1 : LL) (t2 : K01) : ((List K04) × LL × LL) ⊕ (K04) → Exit → Q0a → Prop
 | .inl (a0,a1,a2) => Qdr c (.exit 0) (mkS [(1,sL ctx1),(3,.ra 1 0),(5,.ra 2 0),(7,.ra 4 0),(8,.rs 21),(9,.rs 22)] [(1,K2a p0),(2,K1y t2),(3,.arr (List.map I (List.replicate (Int.toNat (ctx1.length : Int)) 0))),(4,.box [.nils,.rs 3,.rs 20,I 0,.nils]),(20,rM K07 a0),(21,rM K14 a1),(22,rM K14 a2)])
 | .inr r => Qe0 TIx Tryz.f173 [] (.ptr [sI r.fty,sI r.fneeds,sM K07 r.fkids,I r.ffault,sI r.fpath] 0)
end Go.Am
