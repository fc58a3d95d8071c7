/- Walks, printed. -/
import Derived.Test.YtckgdfakjjdodaaGreatGOPEF8
set_option linter.unusedVariables false
set_option linter.unusedSimpArgs false
set_option maxRecDepth 100000
namespace Go.Am
open Go Go.Proofs
def Kj4 : Option (List (List Nat)) := rx [[0],[1],[0],[0],[0,3],[0,3,4],[0,3,4,5],[0],[0,7],[7],[7,9],[11]]
def Kj5 (p : K00 × (List Int) × Int × (List Int) × (List Int) × Int) : Option ((List Int) × (List Int)) :=
 match p with
 | (t0,a0,a1,a2,a3,a4) =>
  if (decide (a4 < (a0.length : Int))) = true then
  (idx a3 a4) >>= fun a5 =>
  ((
  if (a5 == 35) = true then
  (idx a2 0) >>= fun a6 =>
  (cut a2 (some 1) none none) >>= fun a7 =>
  (idx a3 a4) >>= fun a8 =>
  some ((a7,(List.set a3 (Int.toNat a4) (wr (3 + a6)))))
  else
  ((
  if (a5 == 36) = true then
  (idx a2 0) >>= fun a9 =>
  (cut a2 (some 1) none none) >>= fun b1 =>
  (idx a3 a4) >>= fun b2 =>
  some ((b1,(List.set a3 (Int.toNat a4) (wr (19 + a9)))))
  else
  some ((a2,a3))
  ) : Option ((List Int) × (List Int))) >>= fun (b3,b4) =>
  some ((b3,b4))
  ) : Option ((List Int) × (List Int))) >>= fun (b5,b6) =>
  Kj5 (t0,a0,a1,b5,b6,(wr (a4 + 1)))
  else
  some ((a2,a3))
 partial_fixpoint
def Kj6 (p : K00 × (List Int) × Int × (List Int) × (List Int) × Int) (fl : (List Int) × (List Int)) : Prop :=
 match p with
 | (t0,a0,a1,a2,a3,a4) => ∀ c : Ctx,c.nt = 97 → WpL Tryz.prog c (cl (cl (cr (cl (cr (cr (cr K6n))))))) (Kj2 c t0 a1 fl) (mkS [(1,sI a2),(2,.ra 1 0),(4,.ra 2 0),(6,.ra 4 0),(42,.rs 3),(43,I (a0.length : Int)),(44,I a4)] [(1,K1c t0),(2,.box [I 0,I 0,.nils,.nils]),(3,rI a3),(4,.box [I t0.fOp,I a1,.rs 3,.nils])])
theorem Kj7 : ∀ p r,Kj5 p = some r → Kj6 p r := by
 refine Kj5.partial_correctness Kj6 ?_
 rintro impl_fill_l0_f impl_fill_l0_ih ⟨t0,a0,a1,a2,a3,a4⟩ r h
 intro c hc
 refine WpL.step ?_
 refine K7a hc 1 [(1,sI a2),(2,.ra 1 0),(4,.ra 2 0),(6,.ra 4 0),(42,.rs 3),(43,I (a0.length : Int)),(44,I a4),(45,.bool (decide (a4 < (a0.length : Int))))] ?_
 refine sN ?_
 refine ic h (fun a5 h => ?_) fun a5 h => ?_
 ·refine sk ?_
  refine sN ?_
  refine bk 1 ?_
  obtain ⟨a6,a7,h⟩ := Qdj h
  refine rss hc none [oN,oN,some (.el (I a6)),oN,oN] [(1,sI a2),(2,.ra 1 0),(4,.ra 2 0),(6,.ra 4 0),(9,I a4),(10,I a6),(42,.rs 3),(43,I (a0.length : Int)),(44,I a4)] (ab (Qdo (enc := I) a7) (ix a7).2 tv) ?_
  refine K7a hc 1 [(1,sI a2),(2,.ra 1 0),(4,.ra 2 0),(6,.ra 4 0),(9,I a4),(42,.rs 3),(43,I (a0.length : Int)),(44,I a4),(49,I a6)] ?_
  refine bk 2 ?_
  refine K7a hc 2 [(1,sI a2),(2,.ra 1 0),(4,.ra 2 0),(6,.ra 4 0),(9,I a4),(42,.rs 3),(43,I (a0.length : Int)),(44,I a4),(49,I a6),(50,.bool (a6 == 35))] ?_
  obtain ⟨⟨a8,a9⟩,b1,h⟩ := Qdj h
  refine Wp.into (x := .normal) (mkS [(1,sI a8),(2,.ra 1 0),(4,.ra 2 0),(6,.ra 4 0),(42,.rs 3),(43,I (a0.length : Int)),(44,I a4)] [(1,K1c t0),(2,.box [I 0,I 0,.nils,.nils]),(3,rI a9),(4,.box [I t0.fOp,I a1,.rs 3,.nils])]) ?_ ?_
  ·replace h := b1
   refine ic h (fun b2 h => ?_) fun b2 h => ?_
   ·obtain ⟨b3,b4,b5,b6,b7,b8,h⟩ := bq3 h
    refine rg hc Kj4 [oN,oN,oN,oN,some (.el (I b3)),oN,oN,oN,some (.eqv (.no) ⟨[(60,sI b5)],[],[]⟩),oN,some (.eqv (.mk 0 true) ⟨[],[(3,some (.arr (List.map I (List.set a3 (Int.toNat a4) (wr (3 + b3))))))],[]⟩),oN] [(1,sI b5),(2,.ra 1 0),(4,.ra 2 0),(6,.ra 4 0),(42,.rs 3),(43,I (a0.length : Int)),(44,I a4)] [(1,K1c t0),(2,.box [I 0,I 0,.nils,.nils]),(3,.arr (List.map I (List.set a3 (Int.toNat a4) (wr (3 + b3))))),(4,.box [I t0.fOp,I a1,.rs 3,.nils])] (ad (ix b4) (Qds (d := 60) I b6) (Qdr (enc := I) (sz := 1) Qe2 b6) (Qdo (enc := I) b8) (ab (congrArg (fun z => (⟨[],[(3,some (.arr z))],[]⟩ : Wr)) (Qem (enc := I) (i := Int.toNat a4) (l := a3) (v := (wr (3 + b3))) (x := I (wr (3 + b3))) (Qdy (wr (3 + b3))))) (Qen (enc := I) (sz := 1) Qe2 b8) tv)) ?_
    obtain ⟨rfl,rfl⟩ := Prod.mk.inj (Option.some.inj h)
    exact Qd5.mk
   refine K7a hc 2 [(1,sI a2),(2,.ra 1 0),(4,.ra 2 0),(6,.ra 4 0),(9,I a4),(42,.rs 3),(43,I (a0.length : Int)),(44,I a4),(62,.bool (a6 == 36))] ?_
   obtain ⟨⟨b9,c0⟩,c1,h⟩ := Qdj h
   refine Wp.into (x := .normal) (mkS [(1,sI b9),(2,.ra 1 0),(4,.ra 2 0),(6,.ra 4 0),(42,.rs 3),(43,I (a0.length : Int)),(44,I a4)] [(1,K1c t0),(2,.box [I 0,I 0,.nils,.nils]),(3,rI c0),(4,.box [I t0.fOp,I a1,.rs 3,.nils])]) ?_ ?_
   ·replace h := c1
    refine ic h (fun c2 h => ?_) fun c2 h => ?_
    ·obtain ⟨c3,c4,c5,c6,c7,c8,h⟩ := bq3 h
     refine rg hc Kj4 [oN,oN,oN,oN,some (.el (I c3)),oN,oN,oN,some (.eqv (.no) ⟨[(72,sI c5)],[],[]⟩),oN,some (.eqv (.mk 0 true) ⟨[],[(3,some (.arr (List.map I (List.set a3 (Int.toNat a4) (wr (19 + c3))))))],[]⟩),oN] [(1,sI c5),(2,.ra 1 0),(4,.ra 2 0),(6,.ra 4 0),(42,.rs 3),(43,I (a0.length : Int)),(44,I a4)] [(1,K1c t0),(2,.box [I 0,I 0,.nils,.nils]),(3,.arr (List.map I (List.set a3 (Int.toNat a4) (wr (19 + c3))))),(4,.box [I t0.fOp,I a1,.rs 3,.nils])] (ad (ix c4) (Qds (d := 72) I c6) (Qdr (enc := I) (sz := 1) Qe2 c6) (Qdo (enc := I) c8) (ab (congrArg (fun z => (⟨[],[(3,some (.arr z))],[]⟩ : Wr)) (Qem (enc := I) (i := Int.toNat a4) (l := a3) (v := (wr (19 + c3))) (x := I (wr (19 + c3))) (Qdy (wr (19 + c3))))) (Qen (enc := I) (sz := 1) Qe2 c8) tv)) ?_
     obtain ⟨rfl,rfl⟩ := Prod.mk.inj (Option.some.inj h)
     exact Qd5.mk
    refine sk ?_
    obtain ⟨rfl,rfl⟩ := Prod.mk.inj (Option.some.inj h)
    exact iv []
   clear c1
   obtain ⟨rfl,rfl⟩ := Prod.mk.inj (Option.some.inj h)
   exact Qd5.mk
  clear b1
  refine K79 hc 2 [(1,sI a8),(2,.ra 1 0),(4,.ra 2 0),(6,.ra 4 0),(42,.rs 3),(43,I (a0.length : Int)),(44,I (wr (a4 + 1)))] ?_
  refine Qd1 ?_
  exact (impl_fill_l0_ih _ _ h c hc)
 refine xt 0 ?_
 refine Qcv ?_
 refine Qd2 ?_
 obtain ⟨rfl,rfl⟩ := Prod.mk.inj (Option.some.inj h)
 exact iv []
mutual
def Kj8 (p : K00 × (List Int)) : Option (K00 × (List Int)) :=
 match p with
 | (t0,l1) =>
  (Khp t0.fType) >>= fun a0 =>
  (Kgt t0.fOp) >>= fun (a1,a2) =>
  ((
  if a1.fgrade = true then
  some ((decide (t0.fN < 0)))
  else
  some (false)
  ) : Option (Bool)) >>= fun a3 =>
  ((
  if a3 = true then
  (idx l1 0) >>= fun a4 =>
  (cut l1 (some 1) none none) >>= fun a5 =>
  some ((a5,a4))
  else
  some ((l1,t0.fN))
  ) : Option ((List Int) × Int)) >>= fun (a6,a7) =>
  (Kj5 (t0,a0,a7,a6,a0,0)) >>= fun (a8,a9) =>
  (Kj9 (t0,a7,a9,a8,[],0)) >>= fun (b1,b2) =>
  some ((K00.mk t0.fOp a7 a9 b2),b1)
 partial_fixpoint
def Kj9 (p : K00 × Int × (List Int) × (List Int) × (List K00) × Int) : Option ((List Int) × (List K00)) :=
 match p with
 | (t0,a0,a1,a2,a3,a4) =>
  if (decide (a4 < (t0.fKids.length : Int))) = true then
  (idx t0.fKids a4) >>= fun a5 =>
  (Kj8 (a5,a2)) >>= fun (a6,a7) =>
  (Qdw (a3.length + [a6].length) 64) >>= fun _ =>
  Kj9 (t0,a0,a1,a7,(a3 ++ [a6]),(wr (a4 + 1)))
  else
  some ((a2,a3))
 partial_fixpoint
end
def Kja (p : K00 × (List Int)) (r : K00 × (List Int)) : Prop :=
 match p with
 | (t0,l1) => Q75 Tryz.prog 118 [K1d t0,sI l1] (.tup [.agg [I r.1.fOp,I r.1.fN,.osl (List.map I r.1.fType),.osl (List.map K08 r.1.fKids)],sI r.2]) []
def Kjb (p : K00 × Int × (List Int) × (List Int) × (List K00) × Int) (fl : (List Int) × (List K00)) : Prop :=
 match p with
 | (t0,a0,a1,a2,a3,a4) => ∀ c : Ctx,c.nt = 97 → WpL Tryz.prog c (cl (cl (cr (cl (cr (cr (cr (cr K6n)))))))) (Kj3 c t0 a0 a1 fl) (mkS [(1,sI a2),(4,.ra 2 0),(6,.ra 4 0),(76,.sl (List.map K05 t0.fKids)),(77,I (t0.fKids.length : Int)),(78,I a4)] [(2,.box [I 0,I 0,.nils,.nils]),(3,rI a1),(4,.box [I t0.fOp,I a0,.rs 3,.rs 12]),(12,.arr (List.map K08 a3))])
theorem Kjc : (∀ p r,Kj8 p = some r → Kja p r) ∧ (∀ p r,Kj9 p = some r → Kjb p r) := by
 refine Kj8.mutual_partial_correctness Kja Kjb ?_ ?_
 ·rintro impl_fill_l1_f impl_fill_l1_ih ⟨t0,l1⟩ r h
  refine b0 Tryz.f118 K6n 97 [(0,K1d t0),(1,sI l1)] fun c hc => ?_
  refine rs hc none [some (.new 1),some (.new 2),oN] [(1,sI l1),(2,.ra 1 0),(4,.ra 2 0)] [(1,K1c t0),(2,.box [I 0,I 0,.nils,.nils])] tv ?_
  obtain ⟨a0,a1,h⟩ := Qdj h
  refine rs hc (rx [[0],[1],[0],[0,2],[0],[0,4],[0,4,5],[7],[0],[9]]) [oN,oN,oN,oN,oN,oN,some (.call (oI a0) [] 3),oN,some (.new 4),oN] [(1,sI l1),(2,.ra 1 0),(4,.ra 2 0),(6,.ra 4 0)] [(1,K1c t0),(2,.box [I 0,I 0,.nils,.nils]),(3,rI a0),(4,.box [I t0.fOp,I t0.fN,.rs 3,.nils])] (cq (Khr _ _ a1) K68 tv) ?_
  refine sN ?_
  obtain ⟨⟨a2,a3⟩,a4,h⟩ := Qdj h
  refine rs hc none [oN,oN,oc (.tup [.agg [.str a2.fword,I a2.fkids,.bool a2.fgrade,.bool a2.ftyped],.bool a3]),oN,oN,oN,some (.new 5),oN,oN] [(1,sI l1),(2,.ra 1 0),(4,.ra 2 0),(6,.ra 4 0),(7,.ra 5 0)] [(1,K1c t0),(2,.box [I 0,I 0,.nils,.nils]),(3,rI a0),(4,.box [I t0.fOp,I t0.fN,.rs 3,.nils]),(5,.box [.str a2.fword,I a2.fkids,.bool a2.fgrade,.bool a2.ftyped])] (cq (Kgv _ _ a4) K5s tv) ?_
  refine sN ?_
  obtain ⟨a5,a6,h⟩ := Qdj h
  refine Wp.into (x := .normal) (mkS [(1,sI l1),(2,.ra 1 0),(4,.ra 2 0),(6,.ra 4 0),(34,.bool a5)] [(1,K1c t0),(2,.box [I 0,I 0,.nils,.nils]),(3,rI a0),(4,.box [I t0.fOp,I t0.fN,.rs 3,.nils])]) ?_ ?_
  ·replace h := a6
   rcases is h with ⟨a7,h⟩ | ⟨a7,h⟩
   ·refine rg hc none [oN,oN,oN,oN,oN,oN,oT] [(1,sI l1),(2,.ra 1 0),(4,.ra 2 0),(6,.ra 4 0),(34,.bool (decide (t0.fN < 0)))] [(1,K1c t0),(2,.box [I 0,I 0,.nils,.nils]),(3,rI a0),(4,.box [I t0.fOp,I t0.fN,.rs 3,.nils])] (ar 4 a7 tv) ?_
    obtain rfl := os h
    exact Qd5.mk
   refine rg hc none [oN,oN,oN,o_,o_,o_,oF] [(1,sI l1),(2,.ra 1 0),(4,.ra 2 0),(6,.ra 4 0),(34,.bool false)] [(1,K1c t0),(2,.box [I 0,I 0,.nils,.nils]),(3,rI a0),(4,.box [I t0.fOp,I t0.fN,.rs 3,.nils])] (ar 3 (neT a7) (ai a7 tv)) ?_
   obtain rfl := os h
   exact Qd5.mk
  clear a6
  obtain ⟨⟨a8,a9⟩,b1,h⟩ := Qdj h
  refine Wp.into (x := .normal) (mkS [(1,sI a8),(2,.ra 1 0),(4,.ra 2 0),(6,.ra 4 0)] [(1,K1c t0),(2,.box [I 0,I 0,.nils,.nils]),(3,rI a0),(4,.box [I t0.fOp,I a9,.rs 3,.nils])]) ?_ ?_
  ·replace h := b1
   refine ic h (fun b2 h => ?_) fun b2 h => ?_
   ·obtain ⟨b3,b4,b5,b6,h⟩ := bq2 h
    refine rg hc (rx [[0],[1],[2],[0],[0,3],[3],[3,5],[7]]) [oN,some (.el (I b3)),oN,oN,some (.eqv (.no) ⟨[(39,sI b5)],[],[]⟩),oN,oN,oN] [(1,sI b5),(2,.ra 1 0),(4,.ra 2 0),(6,.ra 4 0)] [(1,K1c t0),(2,.box [I 0,I 0,.nils,.nils]),(3,rI a0),(4,.box [I t0.fOp,I b3,.rs 3,.nils])] (ac (ix b4) (Qds (d := 39) I b6) (Qdr (enc := I) (sz := 1) Qe2 b6) tv) ?_
    obtain ⟨rfl,rfl⟩ := Prod.mk.inj (Option.some.inj h)
    exact Qd5.mk
   refine sk ?_
   obtain ⟨rfl,rfl⟩ := Prod.mk.inj (Option.some.inj h)
   exact iv []
  clear b1
  refine sN ?_
  refine rss hc none [oN,oN,some (.eqv (.no) ⟨[(43,I (a0.length : Int))],[],[]⟩),oN] [(1,sI a8),(2,.ra 1 0),(4,.ra 2 0),(6,.ra 4 0),(42,.rs 3),(43,I (a0.length : Int)),(44,I 0)] (ai (Qdp (d := 43) I a0) tv) ?_
  refine bk 0 ?_
  obtain ⟨⟨b7,b8⟩,b9,h⟩ := Qdj h
  have hL := Kj7 _ _ b9 c hc
  refine lp ?_
  refine WpL.into (e := (.exit 0)) (mkS [(1,sI b7),(2,.ra 1 0),(4,.ra 2 0),(6,.ra 4 0)] [(1,K1c t0),(2,.box [I 0,I 0,.nils,.nils]),(3,rI b8),(4,.box [I t0.fOp,I a9,.rs 3,.nils])]) hL ?_
  refine Qcx ?_
  refine sN ?_
  refine rs hc none [oN,oN,some (.eqv (.no) ⟨[(77,I (t0.fKids.length : Int))],[],[]⟩),oN] [(1,sI b7),(4,.ra 2 0),(6,.ra 4 0),(76,.sl (List.map K05 t0.fKids)),(77,I (t0.fKids.length : Int)),(78,I 0)] [(2,.box [I 0,I 0,.nils,.nils]),(3,rI b8),(4,.box [I t0.fOp,I a9,.rs 3,.nils])] (ai (Qdp (d := 77) K05 t0.fKids) tv) ?_
  refine bk 3 ?_
  obtain ⟨⟨c0,c1⟩,c2,h⟩ := Qdj h
  have hL := impl_fill_l1_ih _ _ c2 c hc
  refine Wp.loopN (by kernel_rfl) (WpL.view (fun a w hv => SRx.renL [(12,25)] (SRx.nilBL 4 3 25 [I t0.fOp,I a9,.rs 3,.nils] hv (by kernel_rfl) (by kernel_rfl) (by kernel_rfl)) (by kernel_rfl) (by kernel_rfl) (by kernel_rfl)) (?_ : WpL _ c _ _ (mkS [(1,sI b7),(4,.ra 2 0),(6,.ra 4 0),(76,.sl (List.map K05 t0.fKids)),(77,I (t0.fKids.length : Int)),(78,I 0)] [(2,.box [I 0,I 0,.nils,.nils]),(3,rI b8),(4,.box [I t0.fOp,I a9,.rs 3,.rs 12]),(12,.arr (List.map K08 []))])))
  refine WpL.into (e := (.exit 3)) (mkS [(1,sI c0),(4,.ra 2 0),(6,.ra 4 0)] [(2,.box [I 0,I 0,.nils,.nils]),(3,rI b8),(4,.box [I t0.fOp,I a9,.rs 3,.rs 12]),(12,.arr (List.map K08 c1))]) hL ?_
  refine Qcx ?_
  refine rs0 hc 4 [(4,.ra 2 0),(5,sI c0)] [(2,.box [I t0.fOp,I a9,.rs 3,.rs 12]),(3,rI b8),(12,.arr (List.map K08 c1))] ?_
  refine rt ?_
  obtain rfl := os h
  exact rq [true,false]
 ·rintro impl_fill_f impl_fill_l1_f impl_fill_ih impl_fill_l1_ih ⟨t0,a9,b8,c3,c4,c5⟩ r h
  intro c hc
  refine WpL.step ?_
  refine K7a hc 1 [(1,sI c3),(4,.ra 2 0),(6,.ra 4 0),(76,.sl (List.map K05 t0.fKids)),(77,I (t0.fKids.length : Int)),(78,I c5),(79,.bool (decide (c5 < (t0.fKids.length : Int))))] ?_
  refine sN ?_
  refine ic h (fun c6 h => ?_) fun c6 h => ?_
  ·refine sk ?_
   refine sN ?_
   refine bk 4 ?_
   obtain ⟨c7,c8,h⟩ := Qdj h
   refine rs hc none [some (.el (K1d c7)),oN,some (.new 19),oN] [(1,sI c3),(4,.ra 2 0),(6,.ra 4 0),(12,.ra 19 0),(76,.sl (List.map K05 t0.fKids)),(77,I (t0.fKids.length : Int)),(78,I c5)] [(2,.box [I 0,I 0,.nils,.nils]),(3,rI b8),(4,.box [I t0.fOp,I a9,.rs 3,.rs 12]),(12,.arr (List.map K08 c4)),(19,K1c c7)] (ai (Qdn c8 (K0c c7)) tv) ?_
   refine rs hc none [some (.new 20)] [(1,sI c3),(4,.ra 2 0),(6,.ra 4 0),(12,.ra 19 0),(13,.ra 20 0),(76,.sl (List.map K05 t0.fKids)),(77,I (t0.fKids.length : Int)),(78,I c5)] [(2,.box [I 0,I 0,.nils,.nils]),(3,rI b8),(4,.box [I t0.fOp,I a9,.rs 3,.rs 12]),(12,.arr (List.map K08 c4)),(19,K1c c7),(20,.box [I 0,I 0,.nils,.nils])] tv ?_
   obtain ⟨⟨c9,d0⟩,d1,h⟩ := Qdj h
   refine rs hc none [oN,oN,some (.call (.tup [K1k c9,sI d0]) [] 21),oN,oN,oN,oN,oN] [(1,sI d0),(4,.ra 2 0),(6,.ra 4 0),(13,.ra 20 0),(76,.sl (List.map K05 t0.fKids)),(77,I (t0.fKids.length : Int)),(78,I c5)] [(2,.box [I 0,I 0,.nils,.nils]),(3,rI b8),(4,.box [I t0.fOp,I a9,.rs 3,.rs 12]),(12,.arr (List.map K08 c4)),(20,.box [I c9.fOp,I c9.fN,.rs 21,.rs 22]),(21,rI c9.fType),(22,.arr (List.map K08 c9.fKids))] (cq (impl_fill_ih _ _ d1) K6o tv) ?_
   obtain ⟨_,d2,h⟩ := Qdj h
   refine rg hc none [oN,oN,oN,some (.eqv (.mk 23 true) ⟨[(91,.rs 23)],[(23,some (.arr (List.map K08 [c9]))),(21,none),(22,none)],[23]⟩),some (.eqv (.mk 24 true) ⟨[(92,.rs 24)],[(24,some (.arr (List.map K08 (c4 ++ [c9])))),(12,none),(23,none)],[24]⟩),oN,oN] [(1,sI d0),(4,.ra 2 0),(6,.ra 4 0),(76,.sl (List.map K05 t0.fKids)),(77,I (t0.fKids.length : Int)),(78,I c5)] [(2,.box [I 0,I 0,.nils,.nils]),(3,rI b8),(4,.box [I t0.fOp,I a9,.rs 3,.rs 24]),(24,.arr (List.map K08 (c4 ++ [c9])))] (ac (congrArg (fun z => (⟨[(91,.rs 23)],[(23,some (.arr z)),(21,none),(22,none)],[23]⟩ : Wr)) ((Qeq (K0e c9) Qep) : [AV.agg [I c9.fOp,I c9.fN,oI c9.fType,AV.osl (List.map K08 c9.fKids)]] = List.map K08 [c9])) (congrArg (fun z => (⟨[(92,.rs 24)],[(24,some (.arr z)),(12,none),(23,none)],[24]⟩ : Wr)) ((List.map_append).symm : (List.map K08 c4) ++ (List.map K08 [c9]) = List.map K08 (c4 ++ [c9]))) (Qdx (enc1 := K08) (enc2 := K08) (e1 := c4) (e2 := [c9]) (sz := 4) K11 K11 d2) tv) ?_
   refine K79 hc 2 [(1,sI d0),(4,.ra 2 0),(6,.ra 4 0),(76,.sl (List.map K05 t0.fKids)),(77,I (t0.fKids.length : Int)),(78,I (wr (c5 + 1)))] ?_
   refine Qd1 ?_
   exact WpL.view (fun a w hv => SRx.renL [(12,24)] hv (by kernel_rfl) (by kernel_rfl) (by kernel_rfl)) (impl_fill_l1_ih _ _ h c hc)
  refine xt 3 ?_
  refine Qcv ?_
  refine Qd2 ?_
  obtain ⟨rfl,rfl⟩ := Prod.mk.inj (Option.some.inj h)
  exact iv []
theorem Kjd : ∀ p r,Kj8 p = some r → Kja p r := Kjc.1
theorem Kje : ∀ p r,Kj9 p = some r → Kjb p r := Kjc.2
def Kjf (p : K00 × (List Int)) : Option (K00 × Bool) :=
 match p with
 | (t0,l1) =>
  ((
  (Khm t0) >>= fun a0 =>
  if a0 = true then
  (Kif t0) >>= fun a1 =>
  if ((l1.length : Int) != a1) = true then
  some (true)
  else
  (Kiz l1) >>= fun a2 =>
  some (a2)
  else
  some (true)
  ) : Option (Bool)) >>= fun a3 =>
  if a3 = true then
  some ((K00.mk 0 0 [] []),false)
  else
  (Kj8 (t0,l1)) >>= fun (a4,a5) =>
  some (a4,true)
def Kjg (p : K00 × (List Int)) (r : K00 × Bool) : Prop :=
 match p with
 | (t0,l1) => Q75 Tryz.prog 43 [K1d t0,sI l1] (.tup [.agg [I r.1.fOp,I r.1.fN,.osl (List.map I r.1.fType),.osl (List.map K08 r.1.fKids)],.bool r.2]) []
theorem Kjh : ∀ p r,Kjf p = some r → Kjg p r := by
 rintro ⟨t0,l1⟩ r h
 unfold Kjf at h
 refine b0 Tryz.f43 B43 30 [(0,K1d t0),(1,sI l1)] fun c hc => ?_
 refine rs hc none [some (.new 1),some (.new 2),oN] [(1,sI l1),(2,.ra 1 0),(4,.ra 2 0)] [(1,K1c t0),(2,.box [I 0,I 0,.nils,.nils])] tv ?_
 refine sN ?_
 refine sN ?_
 obtain ⟨a0,a1,h⟩ := Qdj h
 refine Wp.into (x := .normal) (mkS [(1,sI l1),(2,.ra 1 0),(4,.ra 2 0),(21,.bool a0)] [(1,K1c t0),(2,.box [I 0,I 0,.nils,.nils])]) ?_ ?_
 ·replace h := a1
  obtain ⟨a2,a3,h⟩ := Qdj h
  rcases is h with ⟨a4,h⟩ | ⟨a4,h⟩
  ·obtain ⟨a5,a6,h⟩ := Qdj h
   rcases is h with ⟨a7,h⟩ | ⟨a7,h⟩
   ·refine rgs hc none [oN,oc (.bool a2),oN,oN,oN,some (.eqv (.no) ⟨[(13,I (l1.length : Int))],[],[]⟩),oN,oc (I a5),oN,oF,oN,o_,o_,oT] [(1,sI l1),(2,.ra 1 0),(4,.ra 2 0),(21,.bool true)] (cq (Kho _ _ a3) K67 (ar 2 (nF a4) (ai (Qdp (d := 13) I l1) (ar 2 (nF a4) (cq (Kik _ _ a6) K6f (ar 2 (nF a4) (ar 2 (neF a7) (ai a7 tv)))))))) ?_
    obtain rfl := os h
    exact Qd5.mk
   obtain ⟨a8,a9,h⟩ := Qdj h
   refine rgs hc none [oN,oc (.bool a2),oN,oN,oN,some (.eqv (.no) ⟨[(13,I (l1.length : Int))],[],[]⟩),oN,oc (I a5),oN,oF,oN,oN,oc (.bool a8),oF] [(1,sI l1),(2,.ra 1 0),(4,.ra 2 0),(21,.bool a8)] (cq (Kho _ _ a3) K67 (ar 2 (nF a4) (ai (Qdp (d := 13) I l1) (ar 2 (nF a4) (cq (Kik _ _ a6) K6f (ar 2 (nF a4) (ar 2 a7 (cq (Kj1 _ _ a9) K6m (ai a7 tv))))))))) ?_
   obtain rfl := os h
   exact Qd5.mk
  refine rgs hc none [oN,oc (.bool a2),oN,oN,o_,o_,o_,o_,o_,oT,oN,o_,o_,oT] [(1,sI l1),(2,.ra 1 0),(4,.ra 2 0),(21,.bool true)] (cq (Kho _ _ a3) K67 (ar 5 (neF (nT a4)) (ai (nT a4) (ar 2 nf (ai tt tv))))) ?_
  obtain rfl := os h
  exact Qd5.mk
 clear a1
 refine ic h (fun b1 h => ?_) fun b1 h => ?_
 ·refine rs0 hc 3 [(4,.ra 2 0),(5,.bool false)] [(2,.box [I 0,I 0,.nils,.nils])] ?_
  refine rt ?_
  obtain rfl := os h
  exact rq [true,true]
 refine sk ?_
 obtain ⟨⟨b2,b3⟩,b4,h⟩ := Qdj h
 refine rs hc none [oN,oN,some (.call (.tup [K1k b2,sI b3]) [] 3),oN,oN,oN,some (.new 5),oN,oN] [(4,.ra 2 0),(6,.ra 5 0)] [(2,.box [I 0,I 0,.nils,.nils]),(3,rI b2.fType),(4,.arr (List.map K08 b2.fKids)),(5,.box [I b2.fOp,I b2.fN,.rs 3,.rs 4])] (cq (Kjd _ _ b4) K6o tv) ?_
 refine rs0 hc 3 [(4,.ra 2 0),(5,.bool true)] [(2,.box [I b2.fOp,I b2.fN,.rs 3,.rs 4]),(3,rI b2.fType),(4,.arr (List.map K08 b2.fKids))] ?_
 refine rt ?_
 obtain rfl := os h
 exact rq [true,true]
def Kji (c : Ctx) : (Unit) ⊕ (Bool) → Exit → Q0a → Prop
 | .inl _ => Qd5 c (.exit 0) (mkS [] [])
 | .inr r => Qde TIx Tryz.f144 [] (.bool r)
def Kjj (p : (List Int) × (List Int) × Int) : Option ((Unit) ⊕ (Bool)) :=
 match p with
 | (s10,s21,a0) =>
  if (decide (a0 < (s10.length : Int))) = true then
  (idx s10 a0) >>= fun a1 =>
  (idx s21 a0) >>= fun a2 =>
  if (a1 != a2) = true then
  some (.inr false)
  else
  Kjj (s10,s21,(wr (a0 + 1)))
  else
  some (.inl ())
 partial_fixpoint
def Kjk (p : (List Int) × (List Int) × Int) (fl : (Unit) ⊕ (Bool)) : Prop :=
 match p with
 | (s10,s21,a0) => ∀ c : Ctx,c.nt = 26 → WpL Tryz.prog c (cl (cl (cr (cl (cr (cr K6q)))))) (Kji c fl) (mkS [(0,sI s10),(1,sI s21),(12,I (s10.length : Int)),(13,I a0)] [])
theorem Kjl : ∀ p r,Kjj p = some r → Kjk p r := by
 refine Kjj.partial_correctness Kjk ?_
 rintro slices_Equal_int_l0_f slices_Equal_int_l0_ih ⟨s10,s21,a0⟩ r h
 intro c hc
 refine WpL.step ?_
 refine rs0 hc 1 [(0,sI s10),(1,sI s21),(12,I (s10.length : Int)),(13,I a0),(14,.bool (decide (a0 < (s10.length : Int))))] [] ?_
 refine sN ?_
 refine ic h (fun a1 h => ?_) fun a1 h => ?_
 ·refine sk ?_
  refine sN ?_
  refine bk 1 ?_
  refine rs0 hc 2 [(0,sI s10),(1,sI s21),(5,I a0),(12,I (s10.length : Int)),(13,I a0)] [] ?_
  obtain ⟨a2,a3,a4,a5,h⟩ := bq2 h
  refine rs hc (rx [[0],[0],[2],[3],[0],[0],[0,4,5],[0,4,5,6],[8]]) [oN,oN,some (.el (I a2)),oN,oN,oN,some (.el (I a4)),oN,oN] [(0,sI s10),(1,sI s21),(12,I (s10.length : Int)),(13,I a0),(24,.bool (a2 != a4))] [] (ab (ix a3) (ix a5) tv) ?_
  refine ic h (fun a6 h => ?_) fun a6 h => ?_
  ·refine rs0 hc 1 [(4,.bool false)] [] ?_
   refine rt ?_
   obtain rfl := os h
   exact re [true]
  refine sk ?_
  refine rg0 hc 2 [(0,sI s10),(1,sI s21),(12,I (s10.length : Int)),(13,I (wr (a0 + 1)))] [] ?_
  refine Qd1 ?_
  exact (slices_Equal_int_l0_ih _ _ h c hc)
 refine xt 0 ?_
 refine Qcv ?_
 refine Qd2 ?_
 obtain rfl := os h
 exact iv []
def Kjm (p : (List Int) × (List Int)) : Option (Bool) :=
 match p with
 | (s10,s21) =>
  if ((s10.length : Int) != (s21.length : Int)) = true then
  some false
  else
  (Kjj (s10,s21,0)) >>= fun fl => match fl with
  | .inl () =>
   some true
  | .inr r =>
   some r
def Kjn (p : (List Int) × (List Int)) (r : Bool) : Prop :=
 match p with
 | (s10,s21) => Q75 Tryz.prog 144 [sI s10,sI s21] (.bool r) []
theorem Kjo : ∀ p r,Kjm p = some r → Kjn p r := by
 rintro ⟨s10,s21⟩ r h
 unfold Kjm at h
 refine b0 Tryz.f144 K6q 26 [(0,sI s10),(1,sI s21)] fun c hc => ?_
 refine rs0 hc 1 [(0,sI s10),(1,sI s21)] [] ?_
 refine sN ?_
 refine rs hc none [oN,some (.eqv (.no) ⟨[(7,I (s10.length : Int))],[],[]⟩),oN,some (.eqv (.no) ⟨[(9,I (s21.length : Int))],[],[]⟩),oN] [(0,sI s10),(1,sI s21),(10,.bool ((s10.length : Int) != (s21.length : Int)))] [] (ab (Qdp (d := 7) I s10) (Qdp (d := 9) I s21) tv) ?_
 refine ic h (fun a0 h => ?_) fun a0 h => ?_
 ·refine rs0 hc 1 [(4,.bool false)] [] ?_
  refine rt ?_
  obtain rfl := os h
  exact rq [true]
 refine sk ?_
 refine sN ?_
 refine rs hc none [oN,some (.eqv (.no) ⟨[(12,I (s10.length : Int))],[],[]⟩),oN] [(0,sI s10),(1,sI s21),(12,I (s10.length : Int)),(13,I 0)] [] (ai (Qdp (d := 12) I s10) tv) ?_
 refine bk 0 ?_
 obtain ⟨fl,a1,h⟩ := Qdj h
 have hL := Kjl _ _ a1 c hc
 refine lp ?_
 rcases fl with ⟨⟩ | r
 ·refine WpL.into (e := (.exit 0)) (mkS [] []) hL ?_
  refine Qcx ?_
  refine rs0 hc 1 [(4,.bool true)] [] ?_
  refine rt ?_
  obtain rfl := os h
  exact rq [true]
 refine WpL.mono hL ?_
 rintro _ _ ⟨rfl,hfin⟩
 obtain rfl := os h
 exact ⟨.inl rfl,hfin⟩
def Kjp (c : Ctx) : (Unit) ⊕ (Bool) → Exit → Q0a → Prop
 | .inl _ => Qd5 c (.exit 0) (mkS [] [])
 | .inr r => Qde TIx Tryz.f180 [] (.bool r)
mutual
def Kjq (p : K00 × K00) : Option (Bool) :=
 match p with
 | (a0,b1) =>
  ((
  if (a0.fOp == b1.fOp) = true then
  if (a0.fN == b1.fN) = true then
  (Kjm (a0.fType,b1.fType)) >>= fun a1 =>
  if a1 = true then
  (Kjr (a0.fKids,b1.fKids)) >>= fun a2 =>
  some (a2)
  else
  some (false)
  else
  some (false)
  else
  some (false)
  ) : Option (Bool)) >>= fun a3 =>
  some a3
 partial_fixpoint
def Kjr (p : (List K00) × (List K00)) : Option (Bool) :=
 match p with
 | (s10,s21) =>
  if ((s10.length : Int) != (s21.length : Int)) = true then
  some false
  else
  (Kjs (s10,s21,0)) >>= fun fl => match fl with
  | .inl () =>
   some true
  | .inr r =>
   some r
 partial_fixpoint
def Kjs (p : (List K00) × (List K00) × Int) : Option ((Unit) ⊕ (Bool)) :=
 match p with
 | (s10,s21,a0) =>
  if (decide (a0 < (s10.length : Int))) = true then
  (idx s10 a0) >>= fun a1 =>
  (idx s21 a0) >>= fun a2 =>
  (Kjq (a1,a2)) >>= fun a3 =>
  if a3 = true then
  Kjs (s10,s21,(wr (a0 + 1)))
  else
  some (.inr false)
  else
  some (.inl ())
 partial_fixpoint
end
def Kjt (p : K00 × K00) (r : Bool) : Prop :=
 match p with
 | (a0,b1) => Q75 Tryz.prog 98 [K1d a0,K1d b1] (.bool r) []
def Kju (p : (List K00) × (List K00)) (r : Bool) : Prop :=
 match p with
 | (s10,s21) => Q75 Tryz.prog 180 [.sl (List.map K05 s10),.sl (List.map K05 s21),.fn 98 []] (.bool r) []
def Kjv (p : (List K00) × (List K00) × Int) (fl : (Unit) ⊕ (Bool)) : Prop :=
 match p with
 | (s10,s21,a0) => ∀ c : Ctx,c.nt = 32 → WpL Tryz.prog c (cl (cl (cr (cl (cr (cr K6s)))))) (Kjp c fl) (mkS [(1,.sl (List.map K05 s21)),(2,.fn 98 []),(15,.sl (List.map K05 s10)),(16,I (s10.length : Int)),(17,I a0)] [])
theorem Kjw : (∀ p r,Kjq p = some r → Kjt p r) ∧ (∀ p r,Kjr p = some r → Kju p r) ∧ (∀ p r,Kjs p = some r → Kjv p r) := by
 refine Kjq.mutual_partial_correctness Kjt Kju Kjv ?_ ?_ ?_
 ·rintro slices_EqualFunc_Term_Kimpl_same_f slices_EqualFunc_Term_Kimpl_same_ih ⟨a0,b1⟩ r h
  refine b0 Tryz.f98 B98 31 [(0,K1d a0),(1,K1d b1)] fun c hc => ?_
  refine rs hc none [some (.new 1),some (.new 2),oN] [(2,.ra 1 0),(3,.ra 2 0)] [(1,K1c a0),(2,K1c b1)] tv ?_
  refine sN ?_
  obtain ⟨a1,a2,h⟩ := Qdj h
  refine Wp.into (x := .normal) (mkS [(4,.bool a1)] []) ?_ ?_
  ·replace h := a2
   rcases is h with ⟨a3,h⟩ | ⟨a3,h⟩
   ·rcases is h with ⟨a4,h⟩ | ⟨a4,h⟩
    ·obtain ⟨a5,a6,h⟩ := Qdj h
     rcases is h with ⟨a7,h⟩ | ⟨a7,h⟩
     ·obtain ⟨a8,a9,h⟩ := Qdj h
      refine rg hc none [oN,oN,oN,oN,oN,oN,oN,oN,oN,oN,oN,oT,oN,oN,oN,oN,oN,oc (.bool a5),oT,oN,oN,oN,oN,oN,oc (.bool a8),oT,oN] [(4,.bool a8)] [] (ar 6 a3 (ar 5 a4 (cq (Kjo _ _ a6) K6r (ai a4 (ar 5 a7 (cq (slices_EqualFunc_Term_Kimpl_same_ih _ _ a9) K6t (ai a7 tv))))))) ?_
      obtain rfl := os h
      exact Qd5.mk
     refine rg hc none [oN,oN,oN,oN,oN,oN,oN,oN,oN,oN,oN,oT,oN,oN,oN,oN,oN,oc (.bool a5),oT,oN,o_,o_,o_,o_,o_,oF,oN] [(4,.bool false)] [] (ar 6 a3 (ar 5 a4 (cq (Kjo _ _ a6) K6r (ai a4 (ar 5 (neT a7) (ai a7 tv)))))) ?_
     obtain rfl := os h
     exact Qd5.mk
    refine rg hc none [oN,oN,oN,oN,oN,oN,oN,oN,oN,oN,oN,oT,oN,o_,o_,o_,o_,o_,oF,oN,o_,o_,o_,o_,o_,oF,oN] [(4,.bool false)] [] (ar 6 a3 (ar 5 (neT a4) (ai a4 (ar 5 (neT (rfl : false = false)) (ai (rfl : false = false) tv))))) ?_
    obtain rfl := os h
    exact Qd5.mk
   refine rg hc none [oN,oN,oN,oN,oN,oN,o_,o_,o_,o_,o_,oF,oN,o_,o_,o_,o_,o_,oF,oN,o_,o_,o_,o_,o_,oF,oN] [(4,.bool false)] [] (ar 5 (neT a3) (ai a3 (ar 5 (neT (rfl : false = false)) (ai (rfl : false = false) (ar 5 (neT (rfl : false = false)) (ai (rfl : false = false) tv)))))) ?_
   obtain rfl := os h
   exact Qd5.mk
  clear a2
  refine rt ?_
  obtain rfl := os h
  exact rq [true]
 ·rintro slices_EqualFunc_Term_Kimpl_same_l0_f slices_EqualFunc_Term_Kimpl_same_l0_ih ⟨s10,s21⟩ r h
  refine b0 Tryz.f180 K6s 32 [(0,.sl (List.map K05 s10)),(1,.sl (List.map K05 s21)),(2,.fn 98 [])] fun c hc => ?_
  refine rs0 hc 1 [(0,.sl (List.map K05 s10)),(1,.sl (List.map K05 s21)),(2,.fn 98 [])] [] ?_
  refine sN ?_
  refine rs hc none [oN,some (.eqv (.no) ⟨[(11,I (s10.length : Int))],[],[]⟩),oN,some (.eqv (.no) ⟨[(13,I (s21.length : Int))],[],[]⟩),oN] [(0,.sl (List.map K05 s10)),(1,.sl (List.map K05 s21)),(2,.fn 98 []),(14,.bool ((s10.length : Int) != (s21.length : Int)))] [] (ab (Qdp (d := 11) K05 s10) (Qdp (d := 13) K05 s21) tv) ?_
  refine ic h (fun b2 h => ?_) fun b2 h => ?_
  ·refine rs0 hc 1 [(6,.bool false)] [] ?_
   refine rt ?_
   obtain rfl := os h
   exact rq [true]
  refine sk ?_
  refine sN ?_
  refine rs hc none [oN,some (.eqv (.no) ⟨[(16,I (s10.length : Int))],[],[]⟩),oN] [(1,.sl (List.map K05 s21)),(2,.fn 98 []),(15,.sl (List.map K05 s10)),(16,I (s10.length : Int)),(17,I 0)] [] (ai (Qdp (d := 16) K05 s10) tv) ?_
  refine bk 0 ?_
  obtain ⟨fl,b3,h⟩ := Qdj h
  have hL := slices_EqualFunc_Term_Kimpl_same_l0_ih _ _ b3 c hc
  refine lp ?_
  rcases fl with ⟨⟩ | r
  ·refine WpL.into (e := (.exit 0)) (mkS [] []) hL ?_
   refine Qcx ?_
   refine rs0 hc 1 [(6,.bool true)] [] ?_
   refine rt ?_
   obtain rfl := os h
   exact rq [true]
  refine WpL.mono hL ?_
  rintro _ _ ⟨rfl,hfin⟩
  obtain rfl := os h
  exact ⟨.inl rfl,hfin⟩
 ·rintro impl_same_f slices_EqualFunc_Term_Kimpl_same_l0_f impl_same_ih slices_EqualFunc_Term_Kimpl_same_l0_ih ⟨s10,s21,b4⟩ r h
  intro c hc
  refine WpL.step ?_
  refine rs0 hc 1 [(1,.sl (List.map K05 s21)),(2,.fn 98 []),(15,.sl (List.map K05 s10)),(16,I (s10.length : Int)),(17,I b4),(18,.bool (decide (b4 < (s10.length : Int))))] [] ?_
  refine sN ?_
  refine ic h (fun b5 h => ?_) fun b5 h => ?_
  ·refine sk ?_
   refine sN ?_
   refine bk 1 ?_
   obtain ⟨b6,b7,h⟩ := Qdj h
   refine rs hc none [oN,some (.el (K1d b6)),oN,some (.new 3),oN,oN] [(1,.sl (List.map K05 s21)),(2,.fn 98 []),(7,I b4),(8,.ra 3 0),(15,.sl (List.map K05 s10)),(16,I (s10.length : Int)),(17,I b4)] [(3,K1c b6)] (ai (Qdn b7 (K0c b6)) tv) ?_
   obtain ⟨b8,b9,h⟩ := Qdj h
   refine rs hc none [oN,oN,some (.el (K1d b8)),oN,some (.new 4),oN] [(1,.sl (List.map K05 s21)),(2,.fn 98 []),(8,.ra 3 0),(9,.ra 4 0),(15,.sl (List.map K05 s10)),(16,I (s10.length : Int)),(17,I b4)] [(3,K1c b6),(4,K1c b8)] (ai (Qdn b9 (K0c b8)) tv) ?_
   obtain ⟨c0,c1,h⟩ := Qdj h
   refine rs hc none [oN,oN,oN,oc (.bool c0),oN] [(1,.sl (List.map K05 s21)),(2,.fn 98 []),(15,.sl (List.map K05 s10)),(16,I (s10.length : Int)),(17,I b4),(30,.bool (!c0))] [] (cq (impl_same_ih _ _ c1) K6u tv) ?_
   rcases is h with ⟨c2,h⟩ | ⟨c2,h⟩
   ·refine cF (!c0) (nF c2) ?_
    refine sk ?_
    refine rg0 hc 2 [(1,.sl (List.map K05 s21)),(2,.fn 98 []),(15,.sl (List.map K05 s10)),(16,I (s10.length : Int)),(17,I (wr (b4 + 1)))] [] ?_
    refine Qd1 ?_
    exact (slices_EqualFunc_Term_Kimpl_same_l0_ih _ _ h c hc)
   refine cT (!c0) (nT c2) ?_
   refine rs0 hc 1 [(6,.bool false)] [] ?_
   refine rt ?_
   obtain rfl := os h
   exact re [true]
  refine xt 0 ?_
  refine Qcv ?_
  refine Qd2 ?_
  obtain rfl := os h
  exact iv []
theorem Kjx : ∀ p r,Kjq p = some r → Kjt p r := Kjw.1
theorem Kjy : ∀ p r,Kjr p = some r → Kju p r := Kjw.2.1
theorem Kjz : ∀ p r,Kjs p = some r → Kjv p r := Kjw.2.2
def Kk0 (p : K00 × K00) : Option (Bool) :=
 match p with
 | (a0,b1) =>
  ((
  (Khm a0) >>= fun a1 =>
  if a1 = true then
  (Khm b1) >>= fun a2 =>
  if a2 = true then
  (Kjq (a0,b1)) >>= fun a3 =>
  some (a3)
  else
  some (false)
  else
  some (false)
  ) : Option (Bool)) >>= fun a4 =>
  some a4
def Kk1 (p : K00 × K00) (r : Bool) : Prop :=
 match p with
 | (a0,b1) => Q75 Tryz.prog 31 [K1d a0,K1d b1] (.bool r) []
theorem Kk2 : ∀ p r,Kk0 p = some r → Kk1 p r := by
 rintro ⟨a0,b1⟩ r h
 unfold Kk0 at h
 refine b0 Tryz.f31 B31 16 [(0,K1d a0),(1,K1d b1)] fun c hc => ?_
 refine rs hc none [some (.new 1),some (.new 2),oN] [(2,.ra 1 0),(3,.ra 2 0)] [(1,K1c a0),(2,K1c b1)] tv ?_
 refine sN ?_
 obtain ⟨a1,a2,h⟩ := Qdj h
 refine Wp.into (x := .normal) (mkS [(4,.bool a1)] []) ?_ ?_
 ·replace h := a2
  obtain ⟨a3,a4,h⟩ := Qdj h
  rcases is h with ⟨a5,h⟩ | ⟨a5,h⟩
  ·obtain ⟨a6,a7,h⟩ := Qdj h
   rcases is h with ⟨a8,h⟩ | ⟨a8,h⟩
   ·obtain ⟨a9,b2,h⟩ := Qdj h
    refine rg hc none [oN,oc (.bool a3),oN,oN,oc (.bool a6),oT,oN,oN,oN,oc (.bool a9),oT,oN] [(4,.bool a9)] [] (cq (Kho _ _ a4) K67 (ar 2 a5 (cq (Kho _ _ a7) K67 (ai a5 (ar 3 a8 (cq (Kjx _ _ b2) K6u (ai a8 tv))))))) ?_
    obtain rfl := os h
    exact Qd5.mk
   refine rg hc none [oN,oc (.bool a3),oN,oN,oc (.bool a6),oT,oN,o_,o_,o_,oF,oN] [(4,.bool false)] [] (cq (Kho _ _ a4) K67 (ar 2 a5 (cq (Kho _ _ a7) K67 (ai a5 (ar 3 (neT a8) (ai a8 tv)))))) ?_
   obtain rfl := os h
   exact Qd5.mk
  refine rg hc none [oN,oc (.bool a3),oN,o_,o_,oF,oN,o_,o_,o_,oF,oN] [(4,.bool false)] [] (cq (Kho _ _ a4) K67 (ar 2 (neT a5) (ai a5 (ar 3 (neT (rfl : false = false)) (ai (rfl : false = false) tv))))) ?_
  obtain rfl := os h
  exact Qd5.mk
 clear a2
 refine rt ?_
 obtain rfl := os h
 exact rq [true]
def Kk3 (t0 : K00) : Option (Int) :=
 (Khj t0) >>= fun a0 =>
 if (decide (a0 > 400)) = true then
 some (-1)
 else
 some a0
def Kk4 (t0 : K00) (r : Int) : Prop :=
 Q75 Tryz.prog 44 [K1d t0] (I r) []
theorem Kk5 : ∀ p r,Kk3 p = some r → Kk4 p r := by
 rintro t0 r h
 unfold Kk3 at h
 refine b0 Tryz.f44 B44 9 [(0,K1d t0)] fun c hc => ?_
 refine rs hc none [some (.new 1),oN] [(1,.ra 1 0)] [(1,K1c t0)] tv ?_
 obtain ⟨a0,a1,h⟩ := Qdj h
 refine rs hc none [oN,oc (I a0),oN] [(3,I a0)] [] (cq (Khl _ _ a1) K66 tv) ?_
 refine sN ?_
 refine rs0 hc 2 [(3,I a0),(7,.bool (decide (a0 > 400)))] [] ?_
 refine ic h (fun a2 h => ?_) fun a2 h => ?_
 ·refine rs0 hc 1 [(2,I (-1))] [] ?_
  refine rt ?_
  obtain rfl := os h
  exact rq [true]
 refine sk ?_
 refine rs0 hc 2 [(2,I a0)] [] ?_
 refine rt ?_
 obtain rfl := os h
 exact rq [true]
def Kk6 (op0 : Int) : Option (Int) :=
 (K81 (op0,0,12)) >>= fun a0 =>
 if a0 = true then
 (idx [0,0,2,3,2,2,1,1,3,1,2,1,2] op0) >>= fun a1 =>
 some a1
 else
 some (-1)
def Kk7 (op0 : Int) (r : Int) : Prop :=
 Q75 Tryz.prog 227 [I op0] (I r) []
theorem Kk8 : ∀ p r,Kk6 p = some r → Kk7 p r := by
 rintro op0 r h
 unfold Kk6 at h
 refine b0 Tryz.f227 K6x 10 [(0,I op0)] fun c hc => ?_
 refine rs0 hc 1 [(0,I op0)] [] ?_
 refine sN ?_
 obtain ⟨a0,a1,h⟩ := Qdj h
 refine rs hc none [oN,oc (.bool a0),oN] [(0,I op0),(5,.bool (!a0))] [] (cq (K83 _ _ a1) K2k tv) ?_
 rcases is h with ⟨a2,h⟩ | ⟨a2,h⟩
 ·refine cF (!a0) (nF a2) ?_
  refine sk ?_
  obtain ⟨a3,a4,h⟩ := Qdj h
  refine rs hc none [some (.mk 1 true),oN,oN,some (.el (I a3)),oN] [(2,I a3)] [] (ab (Qdo (enc := I) a4) (ix a4).2 tv) ?_
  refine rt ?_
  obtain rfl := os h
  exact rq [true]
 refine cT (!a0) (nT a2) ?_
 refine rs0 hc 1 [(2,I (-1))] [] ?_
 refine rt ?_
 obtain rfl := os h
 exact rq [true]
def Kk9 (op0 : Int) : Option (Bool) :=
 ((
 if (op0 == 6) = true then
 some (true)
 else
 if (op0 == 7) = true then
 some (true)
 else
 some ((op0 == 9))
 ) : Option (Bool)) >>= fun a0 =>
 some a0
def Kka (op0 : Int) (r : Bool) : Prop :=
 Q75 Tryz.prog 228 [I op0] (.bool r) []
theorem Kkb : ∀ p r,Kk9 p = some r → Kka p r := by
 rintro op0 r h
 unfold Kk9 at h
 refine b0 Tryz.f228 K6z 13 [(0,I op0)] fun c hc => ?_
 refine rs0 hc 1 [(0,I op0)] [] ?_
 refine sN ?_
 obtain ⟨a0,a1,h⟩ := Qdj h
 refine Wp.into (x := .normal) (mkS [(2,.bool a0)] []) ?_ ?_
 ·replace h := a1
  rcases is h with ⟨a2,h⟩ | ⟨a2,h⟩
  ·refine rg hc none [oN,oN,oN,o_,o_,oT,oN,o_,o_,oT,oN] [(2,.bool true)] [] (ar 2 (neF a2) (ai a2 (ar 2 nf (ai tt tv)))) ?_
   obtain rfl := os h
   exact Qd5.mk
  rcases is h with ⟨a3,h⟩ | ⟨a3,h⟩
  ·refine rg hc none [oN,oN,oN,oN,oN,oF,oN,o_,o_,oT,oN] [(2,.bool true)] [] (ar 3 a2 (ar 2 (neF a3) (ai a3 tv))) ?_
   obtain rfl := os h
   exact Qd5.mk
  refine rg hc none [oN,oN,oN,oN,oN,oF,oN,oN,oN,oF,oN] [(2,.bool (op0 == 9))] [] (ar 3 a2 (ar 3 a3 tv)) ?_
  obtain rfl := os h
  exact Qd5.mk
 clear a1
 refine rt ?_
 obtain rfl := os h
 exact rq [true]
def Kkc (ty0 : (List Int)) : Option (Bool) :=
 ((
 if (decide ((ty0.length : Int) ≤ 40)) = true then
 (Kce (ty0,0)) >>= fun a0 =>
 if (a0 == (ty0.length : Int)) = true then
 some ((decide ((ty0.length : Int) > 0)))
 else
 some (false)
 else
 some (false)
 ) : Option (Bool)) >>= fun a1 =>
 some a1
def Kkd (ty0 : (List Int)) (r : Bool) : Prop :=
 Q75 Tryz.prog 81 [sI ty0] (.bool r) []
theorem Kke : ∀ p r,Kkc p = some r → Kkd p r := by
 rintro ty0 r h
 unfold Kkc at h
 refine b0 Tryz.f81 B81 18 [(0,sI ty0)] fun c hc => ?_
 refine rs0 hc 1 [(0,sI ty0)] [] ?_
 refine sN ?_
 obtain ⟨a0,a1,h⟩ := Qdj h
 refine Wp.into (x := .normal) (mkS [(2,.bool a0)] []) ?_ ?_
 ·replace h := a1
  rcases is h with ⟨a2,h⟩ | ⟨a2,h⟩
  ·obtain ⟨a3,a4,h⟩ := Qdj h
   rcases is h with ⟨a5,h⟩ | ⟨a5,h⟩
   ·refine rg hc none [oN,some (.eqv (.no) ⟨[(4,I (ty0.length : Int))],[],[]⟩),oN,oN,oN,oc (I a3),oN,some (.eqv (.no) ⟨[(10,I (ty0.length : Int))],[],[]⟩),oN,oT,oN,oN,some (.eqv (.no) ⟨[(15,I (ty0.length : Int))],[],[]⟩),oN,oT,oN] [(2,.bool (decide ((ty0.length : Int) > 0)))] [] (ai (Qdp (d := 4) I ty0) (ar 2 a2 (cq (Kcg _ _ a4) K46 (ar 2 a2 (ai (Qdp (d := 10) I ty0) (ar 2 a2 (ar 2 a5 (ai (Qdp (d := 15) I ty0) (ar 2 a5 tv))))))))) ?_
    obtain rfl := os h
    exact Qd5.mk
   refine rg hc none [oN,some (.eqv (.no) ⟨[(4,I (ty0.length : Int))],[],[]⟩),oN,oN,oN,oc (I a3),oN,some (.eqv (.no) ⟨[(10,I (ty0.length : Int))],[],[]⟩),oN,oT,oN,o_,o_,o_,oF,oN] [(2,.bool false)] [] (ai (Qdp (d := 4) I ty0) (ar 2 a2 (cq (Kcg _ _ a4) K46 (ar 2 a2 (ai (Qdp (d := 10) I ty0) (ar 2 a2 (ar 3 (neT a5) (ai a5 tv)))))))) ?_
   obtain rfl := os h
   exact Qd5.mk
  refine rg hc none [oN,some (.eqv (.no) ⟨[(4,I (ty0.length : Int))],[],[]⟩),oN,oN,o_,o_,o_,o_,o_,oF,oN,o_,o_,o_,oF,oN] [(2,.bool false)] [] (ai (Qdp (d := 4) I ty0) (ar 5 (neT a2) (ai a2 (ar 3 (neT (rfl : false = false)) (ai (rfl : false = false) tv))))) ?_
  obtain rfl := os h
  exact Qd5.mk
 clear a1
 refine rt ?_
 obtain rfl := os h
 exact rq [true]
def Kkf (c : Ctx) (ty0 : List Int) (size1 : Int) (closed2 : Bool) (a0 : Int) : (Unit) ⊕ (Bool) → Exit → Q0a → Prop
 | .inl _ => Qd5 c .normal (mkS [(0,sI ty0),(1,I size1),(2,.bool closed2),(7,I a0)] [])
 | .inr r => Qde TIx Tryz.f82 [] (.bool r)
def Kkg (c : Ctx) : (Unit) ⊕ (Bool) → Exit → Q0a → Prop
 | .inl _ => Qd5 c (.exit 0) (mkS [] [])
 | .inr r => Qde TIx Tryz.f82 [] (.bool r)
def Kkh (p : (List Int) × Int × Bool × Int) : Option ((Unit) ⊕ (Bool)) :=
 match p with
 | (ty0,size1,closed2,a0) =>
  if (decide (a0 < (ty0.length : Int))) = true then
  ((
   (idx ty0 a0) >>= fun a1 =>
   (Kc7 a1) >>= fun a2 =>
   if (decide (a2 > 0)) = true then
   (idx ty0 a0) >>= fun a3 =>
   some ((decide (a3 > 2)))
   else
   some (false)
  ) : Option (Bool)) >>= fun a4 =>
  ((
   if a4 = true then
   (idx ty0 a0) >>= fun a5 =>
   (Kcn a5) >>= fun a6 =>
   ((
   if (decide (a6 ≥ size1)) = true then
   some (true)
   else
   if closed2 = true then
   some ((decide (a6 < 0)))
   else
   some (false)
   ) : Option (Bool)) >>= fun a7 =>
   if a7 = true then
   some (.inr false)
   else
   some (.inl ())
   else
   some (.inl ())) : Option ((Unit) ⊕ (Bool))) >>= fun fl => match fl with
  | .inl () =>
   Kkh (ty0,size1,closed2,(wr (a0 + 1)))
  | .inr r =>
   some (.inr r)
  else
  some (.inl ())
 partial_fixpoint
def Kki (p : (List Int) × Int × Bool × Int) (fl : (Unit) ⊕ (Bool)) : Prop :=
 match p with
 | (ty0,size1,closed2,a0) => ∀ c : Ctx,c.nt = 43 → WpL Tryz.prog c (cl (cl (cr (cl (cr B82))))) (Kkg c fl) (mkS [(0,sI ty0),(1,I size1),(2,.bool closed2),(7,I a0)] [])
theorem Kkj : ∀ p r,Kkh p = some r → Kki p r := by
 refine Kkh.partial_correctness Kki ?_
 rintro spec_l2Graded_l0_f spec_l2Graded_l0_ih ⟨ty0,size1,closed2,a0⟩ r h
 intro c hc
 refine WpL.step ?_
 refine sN ?_
 refine rs hc none [oN,oN,some (.eqv (.no) ⟨[(11,I (ty0.length : Int))],[],[]⟩),oN] [(0,sI ty0),(1,I size1),(2,.bool closed2),(7,I a0),(12,.bool (decide (a0 < (ty0.length : Int))))] [] (ai (Qdp (d := 11) I ty0) tv) ?_
 refine ic h (fun a1 h => ?_) fun a1 h => ?_
 ·refine sk ?_
  refine sN ?_
  refine bk 1 ?_
  refine sN ?_
  obtain ⟨a2,a3,h⟩ := Qdj h
  refine Wp.into (x := .normal) (mkS [(0,sI ty0),(1,I size1),(2,.bool closed2),(7,I a0),(27,.bool a2)] []) ?_ ?_
  ·replace h := a3
   obtain ⟨a4,a5,a6,a7,h⟩ := bq2 h
   rcases is h with ⟨a8,h⟩ | ⟨a8,h⟩
   ·obtain ⟨a9,b1,h⟩ := Qdj h
    refine rg hc none [oN,oN,some (.el (I a4)),oN,oc (I a6),oN,oN,oN,oN,some (.el (I a9)),oN,oN,oT] [(0,sI ty0),(1,I size1),(2,.bool closed2),(7,I a0),(27,.bool (decide (a9 > 2)))] [] (ai (ix a5) (cq (Kc9 _ _ a7) K44 (ar 3 a8 (ai (ix b1) (ar 3 a8 tv))))) ?_
    obtain rfl := os h
    exact Qd5.mk
   refine rg hc none [oN,oN,some (.el (I a4)),oN,oc (I a6),oN,oN,o_,o_,o_,o_,o_,oF] [(0,sI ty0),(1,I size1),(2,.bool closed2),(7,I a0),(27,.bool false)] [] (ai (ix a5) (cq (Kc9 _ _ a7) K44 (ar 5 (neT a8) (ai a8 tv)))) ?_
   obtain rfl := os h
   exact Qd5.mk
  clear a3
  obtain ⟨fl,b2,h⟩ := Qdj h
  refine flw (Kkf c ty0 size1 closed2 a0 fl) ?_ (fun hF => ?_)
  ·replace h := b2
   refine ic h (fun b3 h => ?_) fun b3 h => ?_
   ·obtain ⟨b4,b5,b6,b7,h⟩ := bq2 h
    refine rs hc none [oN,oN,some (.el (I b4)),oN,oc (I b6),oN] [(0,sI ty0),(1,I size1),(2,.bool closed2),(7,I a0),(8,I b6)] [] (ai (ix b5) (cq (Kcp _ _ b7) K4c tv)) ?_
    refine sN ?_
    obtain ⟨b8,b9,h⟩ := Qdj h
    refine Wp.into (x := .normal) (mkS [(0,sI ty0),(1,I size1),(2,.bool closed2),(7,I a0),(42,.bool b8)] []) ?_ ?_
    ·replace h := b9
     rcases is h with ⟨c0,h⟩ | ⟨c0,h⟩
     ·refine rg hc none [oN,oN,oN,oN,o_,o_,o_,o_,o_,oT] [(0,sI ty0),(1,I size1),(2,.bool closed2),(7,I a0),(42,.bool true)] [] (ar 3 (neF c0) (ai c0 tv)) ?_
      obtain rfl := os h
      exact Qd5.mk
     rcases is h with ⟨c1,h⟩ | ⟨c1,h⟩
     ·refine rg hc none [oN,oN,oN,oN,oN,oN,oN,oN,oT,oF] [(0,sI ty0),(1,I size1),(2,.bool closed2),(7,I a0),(42,.bool (decide (b6 < 0)))] [] (ar 2 c0 (ar 2 c1 (ac c0 c1 c0 tv))) ?_
      obtain rfl := os h
      exact Qd5.mk
     refine rg hc none [oN,oN,oN,oN,oN,oN,o_,o_,oF,oF] [(0,sI ty0),(1,I size1),(2,.bool closed2),(7,I a0),(42,.bool false)] [] (ar 2 c0 (ar 2 (neT c1) (ac c0 c1 c0 tv))) ?_
     obtain rfl := os h
     exact Qd5.mk
    clear b9
    refine ic h (fun c2 h => ?_) fun c2 h => ?_
    ·refine rs0 hc 1 [(6,.bool false)] [] ?_
     refine rt ?_
     obtain rfl := os h
     exact re [true]
    refine sk ?_
    obtain rfl := os h
    exact iv []
   refine sk ?_
   obtain rfl := os h
   exact iv []
  rcases fl with ⟨⟩ | r
  ·refine Wp.into (x := .normal) (mkS [(0,sI ty0),(1,I size1),(2,.bool closed2),(7,I a0)] []) hF ?_
   refine rg0 hc 3 [(0,sI ty0),(1,I size1),(2,.bool closed2),(7,I (wr (a0 + 1)))] [] ?_
   refine Qd1 ?_
   exact (spec_l2Graded_l0_ih _ _ h c hc)
  refine Wp.mono hF ?_
  rintro _ _ ⟨rfl,hfin⟩
  obtain rfl := os h
  exact ⟨rfl,hfin⟩
 refine xt 0 ?_
 refine Qcv ?_
 refine Qd2 ?_
 obtain rfl := os h
 exact iv []
def Kkk (p : (List Int) × Int × Bool) : Option (Bool) :=
 match p with
 | (ty0,size1,closed2) =>
  (Kkh (ty0,size1,closed2,0)) >>= fun fl => match fl with
  | .inl () =>
   some true
  | .inr r =>
   some r
def Kkl (p : (List Int) × Int × Bool) (r : Bool) : Prop :=
 match p with
 | (ty0,size1,closed2) => Q75 Tryz.prog 82 [sI ty0,I size1,.bool closed2] (.bool r) []
theorem Kkm : ∀ p r,Kkk p = some r → Kkl p r := by
 rintro ⟨ty0,size1,closed2⟩ r h
 unfold Kkk at h
 refine b0 Tryz.f82 B82 43 [(0,sI ty0),(1,I size1),(2,.bool closed2)] fun c hc => ?_
 refine rs0 hc 1 [(0,sI ty0),(1,I size1),(2,.bool closed2)] [] ?_
 refine sN ?_
 refine rs0 hc 1 [(0,sI ty0),(1,I size1),(2,.bool closed2),(7,I 0)] [] ?_
 refine bk 0 ?_
 obtain ⟨fl,a0,h⟩ := Qdj h
 have hL := Kkj _ _ a0 c hc
 refine lp ?_
 rcases fl with ⟨⟩ | r
 ·refine WpL.into (e := (.exit 0)) (mkS [] []) hL ?_
  refine Qcx ?_
  refine rs0 hc 1 [(6,.bool true)] [] ?_
  refine rt ?_
  obtain rfl := os h
  exact rq [true]
 refine WpL.mono hL ?_
 rintro _ _ ⟨rfl,hfin⟩
 obtain rfl := os h
 exact ⟨.inl rfl,hfin⟩
def Kkn (c : Ctx) (t0 : K00) (size2 : Int) (closed3 : Bool) : (Unit) ⊕ (Bool) → Exit → Q0a → Prop
 | .inl _ => Qd5 c .normal (mkS [(2,I size2),(3,.bool closed3),(4,.ra 1 0)] [(1,K1c t0)])
 | .inr r => Qde TIx Tryz.f190 [] (.bool r)
def Kko (c : Ctx) (t0 : K00) (size2 : Int) (closed3 : Bool) : (Unit) ⊕ (Bool) → Exit → Q0a → Prop
 | .inl _ => Qd5 c .normal (mkS [(2,I size2),(3,.bool closed3),(4,.ra 1 0)] [(1,K1c t0)])
 | .inr r => Qde TIx Tryz.f190 [] (.bool r)
def Kkp (c : Ctx) (t0 : K00) (size2 : Int) (closed3 : Bool) : (Unit) ⊕ (Bool) → Exit → Q0a → Prop
 | .inl _ => Qd5 c .normal (mkS [(2,I size2),(3,.bool closed3),(4,.ra 1 0)] [(1,K1c t0)])
 | .inr r => Qde TIx Tryz.f190 [] (.bool r)
def Kkq : Option (List (List Nat)) := rh [0,1,2,3,4,5,6,7,8,9,10,11,12,13,14,14,16,17,18,19,20,19,22,19,24,25,26,27,28]
def Kkr (p : K00 × Int × Int × Bool) : Option (Bool) :=
 match p with
 | (t0,n1,size2,closed3) =>
  (Kk6 t0.fOp) >>= fun a0 =>
  if ((t0.fKids.length : Int) != a0) = true then
  some false
  else
  ((
   if (t0.fOp == 0) = true then
   (K81 (t0.fN,0,(wr (n1 - 1)))) >>= fun a1 =>
   if a1 = true then
    some (.inl ())
   else
    some (.inr false)
   else
   ((
    if (t0.fOp == 1) = true then
    (K81 (t0.fN,0,2)) >>= fun a2 =>
    if a2 = true then
     some (.inl ())
    else
     some (.inr false)
    else
    (Kfr t0.fOp) >>= fun a3 =>
    ((
     if a3 = true then
     ((
     if (decide (t0.fN ≥ size2)) = true then
     some (true)
     else
     if (decide (t0.fN < (-1))) = true then
     some (true)
     else
     if closed3 = true then
     some ((decide (t0.fN < 0)))
     else
     some (false)
     ) : Option (Bool)) >>= fun a4 =>
     if a4 = true then
     some (.inr false)
     else
     some (.inl ())
     else
     if (t0.fN != 0) = true then
     some (.inr false)
     else
     some (.inl ())) : Option ((Unit) ⊕ (Bool))) >>= fun fl => match fl with
    | .inl () =>
     some (.inl ())
    | .inr r =>
     some (.inr r)) : Option ((Unit) ⊕ (Bool))) >>= fun fl => match fl with
   | .inl () =>
    some (.inl ())
   | .inr r =>
    some (.inr r)) : Option ((Unit) ⊕ (Bool))) >>= fun fl => match fl with
  | .inl () =>
   (Kk9 t0.fOp) >>= fun a5 =>
   if a5 = true then
   ((
    (Kkc t0.fType) >>= fun a6 =>
    if a6 = true then
    (Kkk (t0.fType,size2,closed3)) >>= fun a7 =>
    some (a7)
    else
    some (false)
   ) : Option (Bool)) >>= fun a8 =>
   some a8
   else
   some ((t0.fType.length : Int) == 0)
  | .inr r =>
   some r
def Kks (p : K00 × Int × Int × Bool) (r : Bool) : Prop :=
 match p with
 | (t0,n1,size2,closed3) => Q75 Tryz.prog 190 [K1d t0,I n1,I size2,.bool closed3] (.bool r) []
theorem Kkt : ∀ p r,Kkr p = some r → Kks p r := by
 rintro ⟨t0,n1,size2,closed3⟩ r h
 unfold Kkr at h
 refine b0 Tryz.f190 K73 76 [(0,K1d t0),(1,I n1),(2,I size2),(3,.bool closed3)] fun c hc => ?_
 refine rs hc none [some (.new 1),oN] [(1,I n1),(2,I size2),(3,.bool closed3),(4,.ra 1 0)] [(1,K1c t0)] tv ?_
 refine sN ?_
 obtain ⟨a0,a1,h⟩ := Qdj h
 refine rss hc (rx [[0],[1],[2],[0],[0,3],[0,3,4],[6]]) [oN,oN,some (.eqv (.no) ⟨[(11,I (t0.fKids.length : Int))],[],[]⟩),oN,oN,oc (I a0),oN] [(1,I n1),(2,I size2),(3,.bool closed3),(4,.ra 1 0),(15,.bool ((t0.fKids.length : Int) != a0))] (ai (Qdp (d := 11) K05 t0.fKids) (cq (Kk8 _ _ a1) K6y tv)) ?_
 refine ic h (fun a2 h => ?_) fun a2 h => ?_
 ·refine rs0 hc 1 [(8,.bool false)] [] ?_
  refine rt ?_
  obtain rfl := os h
  exact rq [true]
 refine sk ?_
 refine sN ?_
 refine bk 0 ?_
 refine K7a hc 4 [(1,I n1),(2,I size2),(3,.bool closed3),(4,.ra 1 0),(19,.bool (t0.fOp == 0))] ?_
 obtain ⟨fl,a3,h⟩ := Qdj h
 refine flw (Kkp c t0 size2 closed3 fl) ?_ (fun hF => ?_)
 ·replace h := a3
  refine ic h (fun a4 h => ?_) fun a4 h => ?_
  ·obtain ⟨a5,a6,h⟩ := Qdj h
   refine rss hc none [oN,oN,oN,oN,oc (.bool a5),oN] [(2,I size2),(3,.bool closed3),(4,.ra 1 0),(28,.bool (!a5))] (cq (K83 _ _ a6) K2k tv) ?_
   rcases is h with ⟨a7,h⟩ | ⟨a7,h⟩
   ·refine cF (!a5) (nF a7) ?_
    refine sk ?_
    obtain rfl := os h
    exact iv []
   refine cT (!a5) (nT a7) ?_
   refine rs0 hc 1 [(8,.bool false)] [] ?_
   refine rt ?_
   obtain rfl := os h
   exact re [true]
  refine K7a hc 4 [(2,I size2),(3,.bool closed3),(4,.ra 1 0),(29,.bool (t0.fOp == 1))] ?_
  obtain ⟨fl,a8,h⟩ := Qdj h
  refine flw (Kko c t0 size2 closed3 fl) ?_ (fun hF => ?_)
  ·replace h := a8
   refine ic h (fun a9 h => ?_) fun a9 h => ?_
   ·obtain ⟨b1,b2,h⟩ := Qdj h
    refine rss hc none [oN,oN,oc (.bool b1),oN] [(2,I size2),(3,.bool closed3),(4,.ra 1 0),(36,.bool (!b1))] (cq (K83 _ _ b2) K2k tv) ?_
    rcases is h with ⟨b3,h⟩ | ⟨b3,h⟩
    ·refine cF (!b1) (nF b3) ?_
     refine sk ?_
     obtain rfl := os h
     exact iv []
    refine cT (!b1) (nT b3) ?_
    refine rs0 hc 1 [(8,.bool false)] [] ?_
    refine rt ?_
    obtain rfl := os h
    exact re [true]
   obtain ⟨b4,b5,h⟩ := Qdj h
   refine rss hc none [oN,oN,oc (.bool b4),oN] [(2,I size2),(3,.bool closed3),(4,.ra 1 0),(37,.bool b4)] (cq (Kft _ _ b5) K5e tv) ?_
   obtain ⟨fl,b6,h⟩ := Qdj h
   refine flw (Kkn c t0 size2 closed3 fl) ?_ (fun hF => ?_)
   ·replace h := b6
    refine ic h (fun b7 h => ?_) fun b7 h => ?_
    ·refine sN ?_
     obtain ⟨b8,b9,h⟩ := Qdj h
     refine Wp.into (x := .normal) (mkS [(2,I size2),(3,.bool closed3),(4,.ra 1 0),(57,.bool b8)] [(1,K1c t0)]) ?_ ?_
     ·replace h := b9
      rcases is h with ⟨c0,h⟩ | ⟨c0,h⟩
      ·refine rgs hc none [oN,oN,oN,oN,oN,o_,o_,o_,oT,oN,o_,o_,o_,o_,o_,o_,oT] [(2,I size2),(3,.bool closed3),(4,.ra 1 0),(57,.bool true)] (ar 3 (neF c0) (ai c0 (ar 3 nf (ai tt tv)))) ?_
       obtain rfl := os h
       exact Qd5.mk
      rcases is h with ⟨c1,h⟩ | ⟨c1,h⟩
      ·refine rgs hc none [oN,oN,oN,oN,oN,oN,oN,oN,oF,oN,o_,o_,o_,o_,o_,o_,oT] [(2,I size2),(3,.bool closed3),(4,.ra 1 0),(57,.bool true)] (ar 4 c0 (ar 3 (neF c1) (ai c1 tv))) ?_
       obtain rfl := os h
       exact Qd5.mk
      rcases is h with ⟨c2,h⟩ | ⟨c2,h⟩
      ·refine rgs hc none [oN,oN,oN,oN,oN,oN,oN,oN,oF,oN,oN,oN,oN,oN,oN,oT,oF] [(2,I size2),(3,.bool closed3),(4,.ra 1 0),(57,.bool (decide (t0.fN < 0)))] (ar 4 c0 (ar 2 c1 (ar 3 c2 (ac c1 c2 c1 tv)))) ?_
       obtain rfl := os h
       exact Qd5.mk
      refine rgs hc none [oN,oN,oN,oN,oN,oN,oN,oN,oF,oN,oN,oN,o_,o_,o_,oF,oF] [(2,I size2),(3,.bool closed3),(4,.ra 1 0),(57,.bool false)] (ar 4 c0 (ar 2 c1 (ar 3 (neT c2) (ac c1 c2 c1 tv)))) ?_
      obtain rfl := os h
      exact Qd5.mk
     clear b9
     refine ic h (fun c3 h => ?_) fun c3 h => ?_
     ·refine rs0 hc 1 [(8,.bool false)] [] ?_
      refine rt ?_
      obtain rfl := os h
      exact re [true]
     refine sk ?_
     obtain rfl := os h
     exact iv []
    refine K7a hc 3 [(2,I size2),(3,.bool closed3),(4,.ra 1 0),(18,.bool (t0.fN != 0))] ?_
    refine ic h (fun c4 h => ?_) fun c4 h => ?_
    ·refine rs0 hc 1 [(8,.bool false)] [] ?_
     refine rt ?_
     obtain rfl := os h
     exact re [true]
    refine sk ?_
    obtain rfl := os h
    exact iv []
   rcases fl with ⟨⟩ | r
   ·refine Wp.into (x := .normal) (mkS [(2,I size2),(3,.bool closed3),(4,.ra 1 0)] [(1,K1c t0)]) hF ?_
    obtain rfl := os h
    exact Qd5.mk
   refine Wp.mono hF ?_
   rintro _ _ ⟨rfl,hfin⟩
   obtain rfl := os h
   exact ⟨rfl,hfin⟩
  rcases fl with ⟨⟩ | r
  ·refine Wp.into (x := .normal) (mkS [(2,I size2),(3,.bool closed3),(4,.ra 1 0)] [(1,K1c t0)]) hF ?_
   obtain rfl := os h
   exact Qd5.mk
  refine Wp.mono hF ?_
  rintro _ _ ⟨rfl,hfin⟩
  obtain rfl := os h
  exact ⟨rfl,hfin⟩
 rcases fl with ⟨⟩ | r
 ·refine Wp.into (x := .normal) (mkS [(2,I size2),(3,.bool closed3),(4,.ra 1 0)] [(1,K1c t0)]) hF ?_
  refine sN ?_
  obtain ⟨c5,c6,h⟩ := Qdj h
  refine rss hc none [oN,oN,oc (.bool c5),oN] [(2,I size2),(3,.bool closed3),(4,.ra 1 0),(61,.bool (!c5))] (cq (Kkb _ _ c6) K70 tv) ?_
  rcases is h with ⟨c7,h⟩ | ⟨c7,h⟩
  ·refine cF (!c5) (nF c7) ?_
   refine sk ?_
   refine sN ?_
   obtain ⟨c8,c9,h⟩ := Qdj h
   refine Wp.into (x := .normal) (mkS [(8,.bool c8)] []) ?_ ?_
   ·replace h := c9
    obtain ⟨d0,d1,h⟩ := Qdj h
    rcases is h with ⟨d2,h⟩ | ⟨d2,h⟩
    ·obtain ⟨d3,d4,h⟩ := Qdj h
     refine rg hc none [oN,oN,oc (.bool d0),oN,oN,oN,oN,oN,oc (.bool d3),oT,oN] [(8,.bool d3)] [] (cq (Kke _ _ d1) K71 (ar 5 d2 (cq (Kkm _ _ d4) K72 (ai d2 tv)))) ?_
     obtain rfl := os h
     exact Qd5.mk
    refine rg hc none [oN,oN,oc (.bool d0),oN,o_,o_,o_,o_,o_,oF,oN] [(8,.bool false)] [] (cq (Kke _ _ d1) K71 (ar 5 (neT d2) (ai d2 tv))) ?_
    obtain rfl := os h
    exact Qd5.mk
   clear c9
   refine rt ?_
   obtain rfl := os h
   exact rq [true]
  refine cT (!c5) (nT c7) ?_
  refine rs hc none [oN,oN,some (.eqv (.no) ⟨[(64,I (t0.fType.length : Int))],[],[]⟩),oN,oN] [(8,.bool ((t0.fType.length : Int) == 0))] [] (ai (Qdp (d := 64) I t0.fType) tv) ?_
  refine rt ?_
  obtain rfl := os h
  exact rq [true]
 refine Wp.mono hF ?_
 rintro _ _ ⟨rfl,hfin⟩
 obtain rfl := os h
 exact ⟨.inl rfl,hfin⟩
def Kku (c : Ctx) : (Unit) ⊕ (Bool) → Exit → Q0a → Prop
 | .inl _ => Qd5 c (.exit 0) (mkS [] [])
 | .inr r => Qde TIx Tryz.f114 [] (.bool r)
mutual
def Kkv (p : K00 × Int × Int × Bool) : Option (Bool) :=
 match p with
 | (t0,n1,size2,closed3) =>
  (Kkr (t0,n1,size2,closed3)) >>= fun a0 =>
  if a0 = true then
  (Kkw (t0,n1,size2,closed3,0)) >>= fun fl => match fl with
  | .inl () =>
   some true
  | .inr r =>
   some r
  else
  some false
 partial_fixpoint
def Kkw (p : K00 × Int × Int × Bool × Int) : Option ((Unit) ⊕ (Bool)) :=
 match p with
 | (t0,n1,size2,closed3,a0) =>
  if (decide (a0 < (t0.fKids.length : Int))) = true then
  (idx t0.fKids a0) >>= fun a1 =>
  (Ke9 (t0.fOp,a0)) >>= fun a2 =>
  (Kkv (a1,(wr (n1 + a2)),size2,closed3)) >>= fun a3 =>
  if a3 = true then
  Kkw (t0,n1,size2,closed3,(wr (a0 + 1)))
  else
  some (.inr false)
  else
  some (.inl ())
 partial_fixpoint
end
def Kkx (p : K00 × Int × Int × Bool) (r : Bool) : Prop :=
 match p with
 | (t0,n1,size2,closed3) => Q75 Tryz.prog 114 [K1d t0,I n1,I size2,.bool closed3] (.bool r) []
def Kky (p : K00 × Int × Int × Bool × Int) (fl : (Unit) ⊕ (Bool)) : Prop :=
 match p with
 | (t0,n1,size2,closed3,a0) => ∀ c : Ctx,c.nt = 38 → WpL Tryz.prog c (cl (cl (cr (cl (cr (cr K75)))))) (Kku c fl) (mkS [(1,I n1),(2,I size2),(3,.bool closed3),(4,.ra 1 0),(9,I a0)] [(1,K1c t0)])
theorem Kkz : (∀ p r,Kkv p = some r → Kkx p r) ∧ (∀ p r,Kkw p = some r → Kky p r) := by
 refine Kkv.mutual_partial_correctness Kkx Kky ?_ ?_
 ·rintro spec_l2Term_l0_f spec_l2Term_l0_ih ⟨t0,n1,size2,closed3⟩ r h
  refine b0 Tryz.f114 K75 38 [(0,K1d t0),(1,I n1),(2,I size2),(3,.bool closed3)] fun c hc => ?_
  refine rs hc none [some (.new 1),oN] [(1,I n1),(2,I size2),(3,.bool closed3),(4,.ra 1 0)] [(1,K1c t0)] tv ?_
  refine sN ?_
  obtain ⟨a0,a1,h⟩ := Qdj h
  refine rss hc none [oN,oN,oN,oN,oc (.bool a0),oN] [(1,I n1),(2,I size2),(3,.bool closed3),(4,.ra 1 0),(15,.bool (!a0))] (cq (Kkt _ _ a1) K74 tv) ?_
  rcases is h with ⟨a2,h⟩ | ⟨a2,h⟩
  ·refine cF (!a0) (nF a2) ?_
   refine sk ?_
   refine sN ?_
   refine K7a hc 1 [(1,I n1),(2,I size2),(3,.bool closed3),(4,.ra 1 0),(9,I 0)] ?_
   refine bk 0 ?_
   obtain ⟨fl,a3,h⟩ := Qdj h
   have hL := spec_l2Term_l0_ih _ _ a3 c hc
   refine lp ?_
   rcases fl with ⟨⟩ | r
   ·refine WpL.into (e := (.exit 0)) (mkS [] []) hL ?_
    refine Qcx ?_
    refine rs0 hc 1 [(8,.bool true)] [] ?_
    refine rt ?_
    obtain rfl := os h
    exact rq [true]
   refine WpL.mono hL ?_
   rintro _ _ ⟨rfl,hfin⟩
   obtain rfl := os h
   exact ⟨.inl rfl,hfin⟩
  refine cT (!a0) (nT a2) ?_
  refine rs0 hc 1 [(8,.bool false)] [] ?_
  refine rt ?_
  obtain rfl := os h
  exact rq [true]
 ·rintro spec_l2Term_f spec_l2Term_l0_f spec_l2Term_ih spec_l2Term_l0_ih ⟨t0,n1,size2,closed3,a4⟩ r h
  intro c hc
  refine WpL.step ?_
  refine sN ?_
  refine rss hc none [oN,oN,oN,some (.eqv (.no) ⟨[(19,I (t0.fKids.length : Int))],[],[]⟩),oN] [(1,I n1),(2,I size2),(3,.bool closed3),(4,.ra 1 0),(9,I a4),(20,.bool (decide (a4 < (t0.fKids.length : Int))))] (ai (Qdp (d := 19) K05 t0.fKids) tv) ?_
  refine ic h (fun a5 h => ?_) fun a5 h => ?_
  ·refine sk ?_
   refine sN ?_
   refine bk 1 ?_
   obtain ⟨a6,a7,a8,a9,b1,b2,h⟩ := bq3 h
   refine rss hc (rx [[0],[1],[0],[3],[4],[0],[0],[0,6],[0],[0,6,7,8],[0,5,6,7,8,9],[0],[0],[13],[14]]) [oN,oN,oN,some (.el (K1d a6)),oN,oN,oN,oN,oN,oc (I a8),oN,oN,oN,oc (.bool b1),oN] [(1,I n1),(2,I size2),(3,.bool closed3),(4,.ra 1 0),(9,I a4),(37,.bool (!b1))] (ai (Qdn a7 (K0c a6)) (cq (Keb _ _ a9) K54 (cq (spec_l2Term_ih _ _ b2) K76 tv))) ?_
   rcases is h with ⟨b3,h⟩ | ⟨b3,h⟩
   ·refine cF (!b1) (nF b3) ?_
    refine sk ?_
    refine K79 hc 3 [(1,I n1),(2,I size2),(3,.bool closed3),(4,.ra 1 0),(9,I (wr (a4 + 1)))] ?_
    refine Qd1 ?_
    exact (spec_l2Term_l0_ih _ _ h c hc)
   refine cT (!b1) (nT b3) ?_
   refine rs0 hc 1 [(8,.bool false)] [] ?_
   refine rt ?_
   obtain rfl := os h
   exact re [true]
  refine xt 0 ?_
  refine Qcv ?_
  refine Qd2 ?_
  obtain rfl := os h
  exact iv []
theorem Kl0 : ∀ p r,Kkv p = some r → Kkx p r := Kkz.1
theorem Kl1 : ∀ p r,Kkw p = some r → Kky p r := Kkz.2
def Kl2 (t0 : K00) : Option (Bool) :=
 ((
 (Kfa (t0,400)) >>= fun a0 =>
 if (decide (a0 ≥ 0)) = true then
 (Kkv (t0,8,16,false)) >>= fun a1 =>
 some (a1)
 else
 some (false)
 ) : Option (Bool)) >>= fun a2 =>
 some a2
def Kl3 (t0 : K00) (r : Bool) : Prop :=
 Q75 Tryz.prog 41 [K1d t0] (.bool r) []
theorem Kl4 : ∀ p r,Kl2 p = some r → Kl3 p r := by
 rintro t0 r h
 unfold Kl2 at h
 refine b0 Tryz.f41 B41 10 [(0,K1d t0)] fun c hc => ?_
 refine rs hc none [some (.new 1),oN] [(1,.ra 1 0)] [(1,K1c t0)] tv ?_
 refine sN ?_
 obtain ⟨a0,a1,h⟩ := Qdj h
 refine Wp.into (x := .normal) (mkS [(2,.bool a0)] []) ?_ ?_
 ·replace h := a1
  obtain ⟨a2,a3,h⟩ := Qdj h
  rcases is h with ⟨a4,h⟩ | ⟨a4,h⟩
  ·obtain ⟨a5,a6,h⟩ := Qdj h
   refine rg hc none [oN,oc (I a2),oN,oN,oN,oc (.bool a5),oT,oN] [(2,.bool a5)] [] (cq (Kff _ _ a3) K58 (ar 2 a4 (cq (Kl0 _ _ a6) K76 (ai a4 tv)))) ?_
   obtain rfl := os h
   exact Qd5.mk
  refine rg hc none [oN,oc (I a2),oN,oN,o_,o_,oF,oN] [(2,.bool false)] [] (cq (Kff _ _ a3) K58 (ar 2 (neT a4) (ai a4 tv))) ?_
  obtain rfl := os h
  exact Qd5.mk
 clear a1
 refine rt ?_
 obtain rfl := os h
 exact rq [true]
def Kl5 (c : Ctx) (a0 : K00) (a1 : K00) : (List Int) → Exit → Q0a → Prop
 | a2 => Qd5 c (.exit 0) (mkS [(3,.ra 1 0),(4,.ra 4 0),(7,.rs 5)] [(1,K1c a0),(2,rI a1.fType),(3,.arr (List.map K08 a1.fKids)),(4,.box [I a1.fOp,I a1.fN,.rs 2,.rs 3]),(5,rI a2)])
def Kl6 (p : K00 × K00 × Int × (List Int) × Int) : Option ((List Int)) :=
 match p with
 | (a0,a1,a2,a3,a4) =>
  if (decide (a4 < a2)) = true then
  (Qdw (a3.length + [1].length) 8) >>= fun _ =>
  Kl6 (a0,a1,a2,(a3 ++ [1]),(wr (a4 + 1)))
  else
  some (a3)
 partial_fixpoint
def Kl7 (p : K00 × K00 × Int × (List Int) × Int) (fl : (List Int)) : Prop :=
 match p with
 | (a0,a1,a2,a3,a4) => ∀ c : Ctx,c.nt = 91 → WpL Tryz.prog c (cl (cl (cr (cl (cr (cr (cr (cr (cr (cr (cr (cr B7)))))))))))) (Kl5 c a0 a1 fl) (mkS [(3,.ra 1 0),(4,.ra 4 0),(6,I a2),(7,.rs 5),(8,I a4)] [(1,K1c a0),(2,rI a1.fType),(3,.arr (List.map K08 a1.fKids)),(4,.box [I a1.fOp,I a1.fN,.rs 2,.rs 3]),(5,rI a3)])
theorem Kl8 : ∀ p r,Kl6 p = some r → Kl7 p r := by
 refine Kl6.partial_correctness Kl7 ?_
 rintro laws_FnOpened_l0_f laws_FnOpened_l0_ih ⟨a0,a1,a2,a3,a4⟩ r h
 intro c hc
 refine WpL.step ?_
 refine sN ?_
 refine K7a hc 3 [(3,.ra 1 0),(4,.ra 4 0),(6,I a2),(7,.rs 5),(8,I a4),(38,.bool (decide (a4 < a2)))] ?_
 refine ic h (fun a5 h => ?_) fun a5 h => ?_
 ·refine sk ?_
  refine sN ?_
  refine bk 1 ?_
  obtain ⟨_,a6,h⟩ := Qdj h
  refine rg hc none [oN,some (.mk 8 true),some (.eqv (.mk 9 true) ⟨[(43,.rs 9)],[(9,some (rI (a3 ++ [1]))),(5,none),(8,none)],[9]⟩),oN] [(3,.ra 1 0),(4,.ra 4 0),(6,I a2),(7,.rs 9),(8,I a4)] [(1,K1c a0),(2,rI a1.fType),(3,.arr (List.map K08 a1.fKids)),(4,.box [I a1.fOp,I a1.fN,.rs 2,.rs 3]),(9,rI (a3 ++ [1]))] (ab (congrArg (fun z => (⟨[(43,.rs 9)],[(9,some (.arr z)),(5,none),(8,none)],[9]⟩ : Wr)) ((List.map_append).symm : (List.map I a3) ++ (List.map I [1]) = List.map I (a3 ++ [1]))) (Qdx (enc1 := I) (enc2 := I) (e1 := a3) (e2 := [1]) (sz := 1) Qe6 Qe6 a6) tv) ?_
  refine K79 hc 3 [(3,.ra 1 0),(4,.ra 4 0),(6,I a2),(7,.rs 9),(8,I (wr (a4 + 1)))] ?_
  refine Qd1 ?_
  exact WpL.view (fun a w hv => SRx.renL [(5,9)] hv (by kernel_rfl) (by kernel_rfl) (by kernel_rfl)) (laws_FnOpened_l0_ih _ _ h c hc)
 refine xt 0 ?_
 refine Qcv ?_
 refine Qd2 ?_
 obtain rfl := os h
 exact iv []
def Kl9 (code0 : (List Int)) : Option (Bool) :=
 (K7c code0) >>= fun a0 =>
 if a0 = true then
 some true
 else
 (Kgn code0) >>= fun a1 =>
 (Ki4 a1) >>= fun (a2,a3) =>
 (Khm a1) >>= fun a4 =>
 if (a3 == a4) = true then
 if a3 = true then
 (Kim a2) >>= fun a5 =>
 (Kl6 (a1,a2,a5,[],0)) >>= fun a6 =>
 (Kjf (a2,a6)) >>= fun (a7,a8) =>
 (Qdw (a6.length + [1].length) 8) >>= fun _ =>
 (Kjf (a2,(a6 ++ [1]))) >>= fun (a9,b1) =>
 (Ki4 a7) >>= fun (b2,b3) =>
 ((
 if a8 = true then
 if b1 = true then
 some (false)
 else
 if b3 = true then
 (Kim a7) >>= fun b4 =>
 if (b4 == 0) = true then
 (Kk0 (b2,a2)) >>= fun b5 =>
 if b5 = true then
 (Kim a1) >>= fun b6 =>
 (Kim a2) >>= fun b7 =>
 (Kk3 a1) >>= fun b8 =>
 some ((decide (b6 ≤ (wr (b7 + b8)))))
 else
 some (false)
 else
 some (false)
 else
 some (false)
 else
 some (false)
 ) : Option (Bool)) >>= fun b9 =>
 some b9
 else
 (Kl2 a1) >>= fun c0 =>
 some (!c0)
 else
 some false
def Kla (code0 : (List Int)) (r : Bool) : Prop :=
 Q75 Tryz.prog 7 [.sl (List.map U8 code0)] (.bool r) []
theorem Klb : ∀ p r,Kl9 p = some r → Kla p r := by
 rintro code0 r h
 unfold Kl9 at h
 refine b0 Tryz.f7 B7 91 [(0,.sl (List.map U8 code0))] fun c hc => ?_
 refine rs0 hc 1 [(0,.sl (List.map U8 code0))] [] ?_
 refine sN ?_
 obtain ⟨a0,a1,h⟩ := Qdj h
 refine rs hc none [oN,oc (.bool a0)] [(0,.sl (List.map U8 code0)),(16,.bool a0)] [] (cq (K7e _ _ a1) K29 tv) ?_
 refine ic h (fun a2 h => ?_) fun a2 h => ?_
 ·refine rs0 hc 1 [(2,.bool true)] [] ?_
  refine rt ?_
  obtain rfl := os h
  exact rq [true]
 refine sk ?_
 obtain ⟨a3,a4,h⟩ := Qdj h
 refine rs hc none [oN,oc (K1d a3),some (.new 1),oN] [(3,.ra 1 0)] [(1,K1c a3)] (cq (Kgp _ _ a4) K5p tv) ?_
 obtain ⟨⟨a5,a6⟩,a7,h⟩ := Qdj h
 refine rs hc none [oN,some (.call (.tup [K1k a5,.bool a6]) [] 2),oN,oN,oN,some (.new 4),oN,oN] [(3,.ra 1 0),(4,.ra 4 0),(5,.bool a6)] [(1,K1c a3),(2,rI a5.fType),(3,.arr (List.map K08 a5.fKids)),(4,.box [I a5.fOp,I a5.fN,.rs 2,.rs 3])] (cq (Ki6 _ _ a7) K6b tv) ?_
 refine sN ?_
 obtain ⟨a8,a9,h⟩ := Qdj h
 refine rss hc none [oN,oN,oc (.bool a8),oN] [(3,.ra 1 0),(4,.ra 4 0),(5,.bool a6),(27,.bool (!(a6 == a8)))] (cq (Kho _ _ a9) K67 tv) ?_
 rcases is h with ⟨b1,h⟩ | ⟨b1,h⟩
 ·refine cF ((!(a6 == a8))) (nF b1) ?_
  refine sk ?_
  refine sN ?_
  refine K7a hc 2 [(3,.ra 1 0),(4,.ra 4 0),(29,.bool (!a6))] ?_
  rcases is h with ⟨b2,h⟩ | ⟨b2,h⟩
  ·refine cF (!a6) (nF b2) ?_
   refine sk ?_
   obtain ⟨b3,b4,h⟩ := Qdj h
   refine rss hc none [oN,oc (I b3),oN] [(3,.ra 1 0),(4,.ra 4 0),(6,I b3)] (ac (Q75.args (A1 := [K1l a5]) (A2 := [K1d a5]) (by simp only [K1l,List.map_nil,K14,Qeb]) (Kio _ _ b4)) K6g (Or.inr rfl : ([2,3] : List Nat) = [] ∨ noSh (I b3) = true) tv) ?_
   refine rs hc none [some (.mk 5 true),oN] [(3,.ra 1 0),(4,.ra 4 0),(6,I b3),(7,.rs 5)] [(1,K1c a3),(2,rI a5.fType),(3,.arr (List.map K08 a5.fKids)),(4,.box [I a5.fOp,I a5.fN,.rs 2,.rs 3]),(5,.arr (List.map I []))] tv ?_
   refine sN ?_
   refine K7a hc 1 [(3,.ra 1 0),(4,.ra 4 0),(6,I b3),(7,.rs 5),(8,I 0)] ?_
   refine bk 0 ?_
   obtain ⟨b5,b6,h⟩ := Qdj h
   have hL := Kl8 _ _ b6 c hc
   refine lp ?_
   refine WpL.into (e := (.exit 0)) (mkS [(3,.ra 1 0),(4,.ra 4 0),(7,.rs 5)] [(1,K1c a3),(2,rI a5.fType),(3,.arr (List.map K08 a5.fKids)),(4,.box [I a5.fOp,I a5.fN,.rs 2,.rs 3]),(5,rI b5)]) hL ?_
   refine Qcx ?_
   obtain ⟨⟨b7,b8⟩,b9,h⟩ := Qdj h
   refine rs hc none [oN,oN,some (.call (.tup [K1k b7,.bool b8]) [] 10),oN,oN,oN,some (.new 12),oN,oN] [(3,.ra 1 0),(4,.ra 4 0),(7,.rs 5),(9,.ra 12 0),(10,.bool b8)] [(1,K1c a3),(2,rI a5.fType),(3,.arr (List.map K08 a5.fKids)),(4,.box [I a5.fOp,I a5.fN,.rs 2,.rs 3]),(5,rI b5),(10,rI b7.fType),(11,.arr (List.map K08 b7.fKids)),(12,.box [I b7.fOp,I b7.fN,.rs 10,.rs 11])] (ac (Q75.args (A1 := [K1l a5,.sl (Q02 (List.map I b5))]) (A2 := [K1d a5,sI b5]) (by simp only [K1l,List.map_nil,K14,Qeb]) (Kjh _ _ b9)) K6p (Or.inr (Qel (Qel rfl (Qel rfl (Qel (Qej Qef b7.fType) (Qel (Qej K15 b7.fKids) rfl)))) (Qel rfl rfl)) : ([2,3,5] : List Nat) = [] ∨ noSh (.tup [K1k b7,.bool b8]) = true) tv) ?_
   obtain ⟨_,c0,⟨c1,c2⟩,c3,h⟩ := bq2 h
   refine rs hc (rx [[0],[0],[0],[0,1,2],[4],[5],[6],[6],[0],[7,8],[10]]) [oN,oN,some (.mk 13 true),some (.eqv (.mk 14 true) ⟨[(54,.rs 14)],[(14,some (rI (b5 ++ [1]))),(5,none),(13,none)],[14]⟩),some (.call (.tup [K1k c1,.bool c2]) [] 15),oN,oN,oN,some (.new 17),oN,oN] [(3,.ra 1 0),(4,.ra 4 0),(9,.ra 12 0),(10,.bool b8),(12,.bool c2)] [(1,K1c a3),(2,rI a5.fType),(3,.arr (List.map K08 a5.fKids)),(4,.box [I a5.fOp,I a5.fN,.rs 2,.rs 3]),(10,rI b7.fType),(11,.arr (List.map K08 b7.fKids)),(12,.box [I b7.fOp,I b7.fN,.rs 10,.rs 11])] (ad (congrArg (fun z => (⟨[(54,.rs 14)],[(14,some (.arr z)),(5,none),(13,none)],[14]⟩ : Wr)) ((List.map_append).symm : (List.map I b5) ++ (List.map I [1]) = List.map I (b5 ++ [1]))) (Qdx (enc1 := I) (enc2 := I) (e1 := b5) (e2 := [1]) (sz := 1) Qe6 Qe6 c0) (Q75.args (A1 := [K1l a5,.sl (Q02 (List.map I (b5 ++ [1])))]) (A2 := [K1d a5,sI (b5 ++ [1])]) (by simp only [K1l,List.map_nil,K14,Qeb]) (Kjh _ _ c3)) K6p (ai (Or.inr (Qel (Qel rfl (Qel rfl (Qel (Qej Qef c1.fType) (Qel (Qej K15 c1.fKids) rfl)))) (Qel rfl rfl)) : ([2,3,14] : List Nat) = [] ∨ noSh (.tup [K1k c1,.bool c2]) = true) tv)) ?_
   obtain ⟨⟨c4,c5⟩,c6,h⟩ := Qdj h
   refine rs hc none [oN,some (.call (.tup [K1k c4,.bool c5]) [] 18),oN,oN,oN,some (.new 20),oN,oN] [(3,.ra 1 0),(4,.ra 4 0),(9,.ra 12 0),(10,.bool b8),(12,.bool c2),(13,.ra 20 0),(14,.bool c5)] [(1,K1c a3),(2,rI a5.fType),(3,.arr (List.map K08 a5.fKids)),(4,.box [I a5.fOp,I a5.fN,.rs 2,.rs 3]),(10,rI b7.fType),(11,.arr (List.map K08 b7.fKids)),(12,.box [I b7.fOp,I b7.fN,.rs 10,.rs 11]),(18,rI c4.fType),(19,.arr (List.map K08 c4.fKids)),(20,.box [I c4.fOp,I c4.fN,.rs 18,.rs 19])] (ac (Q75.args (A1 := [K1l b7]) (A2 := [K1d b7]) (by simp only [K1l,List.map_nil,K14,Qeb]) (Ki6 _ _ c6)) K6b (Or.inr (Qel (Qel rfl (Qel rfl (Qel (Qej Qef c4.fType) (Qel (Qej K15 c4.fKids) rfl)))) (Qel rfl rfl)) : ([10,11] : List Nat) = [] ∨ noSh (.tup [K1k c4,.bool c5]) = true) tv) ?_
   refine sN ?_
   obtain ⟨c7,c8,h⟩ := Qdj h
   refine Wp.into (x := .normal) (mkS [(2,.bool c7)] []) ?_ ?_
   ·replace h := c8
    rcases is h with ⟨c9,h⟩ | ⟨c9,h⟩
    ·rcases is h with ⟨d0,h⟩ | ⟨d0,h⟩
     ·refine rg hc Kkq [oN,oN,oN,oN,oT,oN,o_,oF,oN,o_,o_,o_,oF,oN,o_,o_,o_,oF,oN,o_,o_,o_,o_,o_,o_,o_,o_,oF,oN] [(2,.bool false)] [] (ar 3 c9 (ab (neT (nF d0)) (nF d0) (ar 3 (neT (rfl : false = false)) (ai (rfl : false = false) (ar 3 (neT (rfl : false = false)) (ai (rfl : false = false) (ar 8 (neT (rfl : false = false)) (ai (rfl : false = false) tv)))))))) ?_
      obtain rfl := os h
      exact Qd5.mk
     rcases is h with ⟨d1,h⟩ | ⟨d1,h⟩
     ·obtain ⟨d2,d3,h⟩ := Qdj h
      rcases is h with ⟨d4,h⟩ | ⟨d4,h⟩
      ·obtain ⟨d5,d6,h⟩ := Qdj h
       rcases is h with ⟨d7,h⟩ | ⟨d7,h⟩
       ·obtain ⟨d8,d9,e0,e3,e4,e5,h⟩ := bq3 h
        refine rg hc Kkq [oN,oN,oN,oN,oT,oN,oN,oT,oN,oN,oc (I d2),oN,oT,oN,oN,oN,oc (.bool d5),oT,oN,oN,oc (I d8),oN,oc (I e0),oN,oc (I e4),oN,oN,oT,oN] [(2,.bool (decide (d8 ≤ (wr (e0 + e4)))))] [] (ar 3 c9 (ar 2 (nT d0) (ar 2 d1 (ac (Q75.args (A1 := [K1l b7]) (A2 := [K1d b7]) (by simp only [K1l,List.map_nil,K14,Qeb]) (Kio _ _ d3)) K6g (Or.inr rfl : ([10,11] : List Nat) = [] ∨ noSh (I d2) = true) (ar 2 d1 (ar 3 d4 (ad (Q75.args (A1 := [K1l c4,K1l a5]) (A2 := [K1d c4,K1d a5]) (by simp only [K1l,List.map_nil,K14,Qeb]) (Kk2 _ _ d6)) K6v (Or.inr rfl : ([18,19,2,3] : List Nat) = [] ∨ noSh (.bool d5) = true) d4 (ar 2 d7 (cq (Kio _ _ d9) K6g (ar 2 d7 (ac (Q75.args (A1 := [K1l a5]) (A2 := [K1d a5]) (by simp only [K1l,List.map_nil,K14,Qeb]) (Kio _ _ e3)) K6g (Or.inr rfl : ([2,3] : List Nat) = [] ∨ noSh (I e0) = true) (ar 2 d7 (cq (Kk5 _ _ e5) K6w (ar 3 d7 tv)))))))))))))) ?_
        obtain rfl := os h
        exact Qd5.mk
       refine rg hc Kkq [oN,oN,oN,oN,oT,oN,oN,oT,oN,oN,oc (I d2),oN,oT,oN,oN,oN,oc (.bool d5),oT,oN,o_,o_,o_,o_,o_,o_,o_,o_,oF,oN] [(2,.bool false)] [] (ar 3 c9 (ar 2 (nT d0) (ar 2 d1 (ac (Q75.args (A1 := [K1l b7]) (A2 := [K1d b7]) (by simp only [K1l,List.map_nil,K14,Qeb]) (Kio _ _ d3)) K6g (Or.inr rfl : ([10,11] : List Nat) = [] ∨ noSh (I d2) = true) (ar 2 d1 (ar 3 d4 (ad (Q75.args (A1 := [K1l c4,K1l a5]) (A2 := [K1d c4,K1d a5]) (by simp only [K1l,List.map_nil,K14,Qeb]) (Kk2 _ _ d6)) K6v (Or.inr rfl : ([18,19,2,3] : List Nat) = [] ∨ noSh (.bool d5) = true) d4 (ar 8 (neT d7) (ai d7 tv))))))))) ?_
       obtain rfl := os h
       exact Qd5.mk
      refine rg hc Kkq [oN,oN,oN,oN,oT,oN,oN,oT,oN,oN,oc (I d2),oN,oT,oN,o_,o_,o_,oF,oN,o_,o_,o_,o_,o_,o_,o_,o_,oF,oN] [(2,.bool false)] [] (ar 3 c9 (ar 2 (nT d0) (ar 2 d1 (ac (Q75.args (A1 := [K1l b7]) (A2 := [K1d b7]) (by simp only [K1l,List.map_nil,K14,Qeb]) (Kio _ _ d3)) K6g (Or.inr rfl : ([10,11] : List Nat) = [] ∨ noSh (I d2) = true) (ar 2 d1 (ar 3 (neT d4) (ai d4 (ar 8 (neT (rfl : false = false)) (ai (rfl : false = false) tv))))))))) ?_
      obtain rfl := os h
      exact Qd5.mk
     refine rg hc Kkq [oN,oN,oN,oN,oT,oN,oN,oT,oN,o_,o_,o_,oF,oN,o_,o_,o_,oF,oN,o_,o_,o_,o_,o_,o_,o_,o_,oF,oN] [(2,.bool false)] [] (ar 3 c9 (ar 2 (nT d0) (ar 3 (neT d1) (ai d1 (ar 3 (neT (rfl : false = false)) (ai (rfl : false = false) (ar 8 (neT (rfl : false = false)) (ai (rfl : false = false) tv)))))))) ?_
     obtain rfl := os h
     exact Qd5.mk
    refine rg hc Kkq [oN,oN,o_,o_,oF,oN,o_,oF,oN,o_,o_,o_,oF,oN,o_,o_,o_,oF,oN,o_,o_,o_,o_,o_,o_,o_,o_,oF,oN] [(2,.bool false)] [] (ar 2 (neT c9) (ac c9 (neT (rfl : false = false)) (rfl : false = false) (ar 3 (neT (rfl : false = false)) (ai (rfl : false = false) (ar 3 (neT (rfl : false = false)) (ai (rfl : false = false) (ar 8 (neT (rfl : false = false)) (ai (rfl : false = false) tv)))))))) ?_
    obtain rfl := os h
    exact Qd5.mk
   clear c8
   refine rt ?_
   obtain rfl := os h
   exact rq [true]
  refine cT (!a6) (nT b2) ?_
  obtain ⟨e6,e7,h⟩ := Qdj h
  refine rs hc none [oN,oc (.bool e6),oN,oN] [(2,.bool (!e6))] [] (cq (Kl4 _ _ e7) K77 tv) ?_
  refine rt ?_
  obtain rfl := os h
  exact rq [true]
 refine cT ((!(a6 == a8))) (nT b1) ?_
 refine rs0 hc 1 [(2,.bool false)] [] ?_
 refine rt ?_
 obtain rfl := os h
 exact rq [true]
end Go.Am
