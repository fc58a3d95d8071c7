/- Walks, printed. -/
import Derived.Test.YtckgdfakjjdodaaGreatGERAF2
set_option linter.unusedVariables false
set_option linter.unusedSimpArgs false
set_option maxRecDepth 100000
namespace Go.Am
open Go Go.Proofs
def Kcw (p : K02 × (List K01) × Int) : Option (List K01 × K02) :=
 match p with
 | (c0,xs,ix) =>
  (idx xs ix) >>= fun e0 =>
  ((
  if (decide ((e0.fKids.length : Int) > 0)) = true then
  (K7t (c0,3)) >>= fun (a0,a1) =>
  some ((a1.fb,a1.fi,a1.fh,(decide (a0 > 0))))
  else
  some ((c0.fb,c0.fi,c0.fh,false))
  ) : Option ((List Int) × Int × Int × Bool)) >>= fun (a2,a3,a4,a5) =>
  if a5 = true then
  (K7t ((K02.mk a2 a3 a4),(e0.fKids.length : Int))) >>= fun (a6,a7) =>
  (idx e0.fKids a6) >>= fun a8 =>
  (Kcw (a7,e0.fKids,a6)) >>= fun (ks,c2) => some ((List.set xs (Int.toNat ix) (K01.mk e0.fOp e0.fN e0.fType ks)),c2)
  else
  (K7t ((K02.mk a2 a3 a4),6)) >>= fun (a9,b1) =>
  if (a9 == 0) = true then
  (K7t (b1,15)) >>= fun (b2,b3) =>
  some ((List.set xs (Int.toNat ix) (K01.mk (wr (b2 - 1)) e0.fN e0.fType e0.fKids)),b3)
  else
  ((
  if (a9 == 1) = true then
  some ((a9 == 1))
  else
  some ((a9 == 2))
  ) : Option (Bool)) >>= fun b4 =>
  if b4 = true then
  (Kcr (b1,[(-2),(-1),0,1,2,3,7,8,16])) >>= fun (b5,b6) =>
  some ((List.set xs (Int.toNat ix) (K01.mk e0.fOp b5 e0.fType e0.fKids)),b6)
  else
  if (a9 == 3) = true then
  (Kcr (b1,[0,1,35,99])) >>= fun (b7,b8) =>
  some ((List.set xs (Int.toNat ix) (K01.mk e0.fOp e0.fN [b7] e0.fKids)),b8)
  else
  if (a9 == 4) = true then
  (Qe5 (e0.fKids.length + [(K01.mk 0 0 [] [])].length) 64) >>= fun _ =>
  (idx (e0.fKids ++ [(K01.mk 0 0 [] [])]) (e0.fKids.length : Int)) >>= fun b9 =>
  some ((List.set xs (Int.toNat ix) (K01.mk e0.fOp e0.fN e0.fType (List.set (e0.fKids ++ [(K01.mk 0 0 [] [])]) (Int.toNat (e0.fKids.length : Int)) (K01.mk 1 0 [] [])))),b1)
  else
  if (decide ((e0.fKids.length : Int) > 1)) = true then
  (idx e0.fKids 0) >>= fun c1 =>
  (idx e0.fKids 1) >>= fun c3 =>
  (idx e0.fKids 0) >>= fun c4 =>
  (idx (List.set e0.fKids (Int.toNat 0) c3) 1) >>= fun c5 =>
  some ((List.set xs (Int.toNat ix) (K01.mk e0.fOp e0.fN e0.fType (List.set (List.set e0.fKids (Int.toNat 0) c3) (Int.toNat 1) c1))),b1)
  else
  some (xs,b1)
 partial_fixpoint
def Kcx (p : K02 × (List K01) × Int) (r : List K01 × K02) : Prop :=
 match p with
 | (c0,xs,ix) => ∀ c : Ctx,c.nt = 108 → ∀ (v4 v5 : Value) (e0 : K01),idx xs ix = some e0 → ∀ a w,SRx c (mkS [(0,.ra 1000 0),(4,.raw v4),(5,.raw v5),(6,.ea 1001 4 (Int.toNat ix) 0)] [(1000,K1d c0),(1001,.arx (List.map K09 xs) (Int.toNat ix) 3 1002),(1002,.arr (List.map K09 e0.fKids))]) a w → WpR Tryz.prog (cl (cl (cl (cr (cr (cr (cr K43))))))) (Qfh Tryz.prog c 0 (cl (cr (cr (cr (cr (cr K43)))))) (mkS [(4,.raw v4),(5,.raw v5)] [(1000,.box [.sl (List.map U8 r.2.fb),I r.2.fi,I r.2.fh]),(1001,.arr (List.map K06 r.1))])) a w
theorem Kcy : ∀ p r,Kcw p = some r → Kcx p r := by
 refine Kcw.partial_correctness Kcx ?_
 rintro spec_dSpoil_l0_f spec_dSpoil_l0_ih ⟨c0,xs,ix⟩ r h
 intro c hc v4 v5 e0 he0 a w hs
 refine WpR.deep (σ := mkS [(0,.ra 1000 0),(4,.raw v4),(5,.raw v5),(6,.ea 1001 4 (Int.toNat ix) 0)] [(1000,K1d c0),(1001,.arx (List.map K09 xs) (Int.toNat ix) 3 1002),(1002,.arr (List.map K09 e0.fKids))]) ?_ hs
 clear hs a w
 obtain ⟨e0,he1,h⟩ := Qds h
 obtain rfl := Option.some.inj (he0.symm.trans he1)
 refine sN ?_
 refine sN ?_
 obtain ⟨⟨a0,a4,a5,a6⟩,a7,h⟩ := Qds h
 refine Wp.into (x := .normal) (mkS [(0,.ra 1000 0),(4,.raw v4),(5,.raw v5),(6,.ea 1001 4 (Int.toNat ix) 0),(24,.bool a6)] [(1000,.box [.sl (List.map U8 a0),I a4,I a5]),(1001,.arx (List.map K09 xs) (Int.toNat ix) 3 1002),(1002,.arr (List.map K09 e0.fKids))]) ?_ ?_
 ·replace h := a7
  rcases is h with ⟨a8,h⟩ | ⟨a8,h⟩
  ·obtain ⟨⟨a9,b1⟩,b2,h⟩ := Qds h
   refine rg hc none [oN,oN,oN,some (.el (K1h e0)),some (.eqv (.no) ⟨[(18,I (e0.fKids.length : Int))],[],[]⟩),oN,oN,oN,some (.call (I a9) [.optr [.sl (List.map U8 b1.fb),I b1.fi,I b1.fh],.undef] 1),oN,oT] [(0,.ra 1000 0),(4,.raw v4),(5,.raw v5),(6,.ea 1001 4 (Int.toNat ix) 0),(24,.bool (decide (a9 > 0)))] [(1000,K1d b1),(1001,.arx (List.map K09 xs) (Int.toNat ix) 3 1002),(1002,.arr (List.map K09 e0.fKids))] (ab (And.intro (Qdw he0 (K0f e0)).2 (rfl : Int.toNat ix = Int.toNat ix)) (Qdy (d := 18) K09 e0.fKids) (ar 2 a8 (ab (K7v _ _ b2) K25 (ar 2 a8 tv)))) ?_
   obtain ⟨rfl,hq0⟩ := Prod.mk.inj (Option.some.inj h)
   obtain ⟨rfl,hq1⟩ := Prod.mk.inj (hq0)
   obtain ⟨rfl,rfl⟩ := Prod.mk.inj (hq1)
   exact Qde.mk
  refine rgs hc none [oN,oN,oN,some (.el (K1h e0)),some (.eqv (.no) ⟨[(18,I (e0.fKids.length : Int))],[],[]⟩),oN,oN,o_,o_,o_,oF] [(0,.ra 1000 0),(4,.raw v4),(5,.raw v5),(6,.ea 1001 4 (Int.toNat ix) 0),(24,.bool false)] (ab (And.intro (Qdw he0 (K0f e0)).2 (rfl : Int.toNat ix = Int.toNat ix)) (Qdy (d := 18) K09 e0.fKids) (ar 3 (neT a8) (ai a8 tv))) ?_
  obtain ⟨rfl,hq0⟩ := Prod.mk.inj (Option.some.inj h)
  obtain ⟨rfl,hq1⟩ := Prod.mk.inj (hq0)
  obtain ⟨rfl,rfl⟩ := Prod.mk.inj (hq1)
  exact Qde.mk
 clear a7
 refine ic h (fun b3 h => ?_) fun b3 h => ?_
 ·refine sk ?_
  refine bk 1 ?_
  obtain ⟨⟨b4,b5⟩,b6,h⟩ := Qds h
  obtain ⟨b7,b8,h⟩ := Qds h
  refine rg hc (rx [[0],[1],[2],[3],[0],[0],[0,5],[0,5,6],[0,5,6,7],[0,5,6,7,8],[0,4,5,6,7,8,9],[11],[12]]) [oN,oN,oN,some (.el (K1h e0)),oN,oN,oN,oN,some (.el (K1h e0)),some (.eqv (.no) ⟨[(34,I (e0.fKids.length : Int))],[],[]⟩),some (.call (I b4) [.optr [.sl (List.map U8 b5.fb),I b5.fi,I b5.fh],.undef] 1),oN,oN] [(0,.ra 1000 0),(4,.raw v4),(5,.raw v5),(6,.ea 1002 4 (Int.toNat b4) 0)] [(1000,K1d b5),(1001,.arx (List.map K09 xs) (Int.toNat ix) 3 1002),(1002,.arr (List.map K09 e0.fKids))] (ar 2 (And.intro (Qdw he0 (K0f e0)).2 (rfl : Int.toNat ix = Int.toNat ix)) (ad (Qdy (d := 34) K09 e0.fKids) (K7v _ _ b6) K25 (Qdx (enc := K09) b8) tv)) ?_
  obtain ⟨⟨ks,c2⟩,hz,h⟩ := Qds h
  obtain rfl := os h
  intro a1 w1 hs1
  have hs2 := SRx.openL 1002 (Int.toNat b4) 3 8 [8,1000,1001,1002] (O' := [(8,.arr (List.map K09 b7.fKids)),(1000,K1d b5),(1001,.arx (List.map K09 xs) (Int.toNat ix) 3 1002),(1002,.arx (List.map K09 e0.fKids) (Int.toNat b4) 3 8)]) (xs := List.map K09 e0.fKids) (ys := List.map K09 b7.fKids) (x0 := K1h b7) hs1 (by kernel_rfl) (Qdw b8 (K0f b7)).2 (by kernel_rfl) (by kernel_rfl) (by kernel_rfl)
  obtain ⟨c',hc',hz1,hout⟩ := SRx.zoomB (T' := [(0,.ra 1000 0),(4,.raw v4),(5,.raw v5),(6,.ea 1001 4 (Int.toNat b4) 0)]) (O' := [(1000,K1d b5),(1001,.arx (List.map K09 e0.fKids) (Int.toNat b4) 3 1002),(1002,.arr (List.map K09 b7.fKids))]) [(1000,1000),(1001,1002),(1002,8)] hs2 (by intro p hp; simp only [List.mem_cons,List.not_mem_nil,or_false] at hp; rcases hp with rfl | rfl | rfl | rfl <;> exact .inr (by kernel_rfl)) (by kernel_rfl) (by kernel_rfl)
  refine WpR.mono (spec_dSpoil_l0_ih _ _ hz c' (hc'.trans hc) v4 v5 b7 b8 a1 w1 hz1) (fun e a2 w2 hd => Qfh.mono (fun a3 w3 h3 => ?_) hd)
  have h4 := hout a3 w3 [(4,.raw v4),(5,.raw v5)] [(1000,K1d c2),(1001,.arr (List.map K06 ks))] h3 (by kernel_rfl) [(4,.raw v4),(5,.raw v5)] [(1000,K1d c2),(1001,.arx (List.map K09 xs) (Int.toNat ix) 3 1002),(1002,.arr (List.map K06 ks))] (by intro p hp; simp only [List.mem_cons,List.not_mem_nil,or_false] at hp; rcases hp with rfl | rfl <;> exact .inl ⟨rfl,by kernel_rfl⟩) (by intro p hp; simp only [List.mem_cons,List.not_mem_nil,or_false] at hp; rcases hp with rfl | rfl | rfl <;> first | exact .inr ⟨1000,rfl,rfl⟩ | exact .inr ⟨1001,rfl,rfl⟩ | exact .inl ⟨rfl,by kernel_rfl⟩)
  exact SRx.shareL 1001 [1000,1001] (xs := List.set (List.map K09 xs) (Int.toNat ix) (AV.agg [I e0.fOp,I e0.fN,oI e0.fType,.osl (List.map K06 ks)])) (xs' := List.map K06 (List.set xs (Int.toNat ix) (K01.mk e0.fOp e0.fN e0.fType ks))) (SRx.closeL 1001 (Int.toNat ix) 3 1002 [1000,1001] (O' := [(1000,K1d c2),(1001,.arr (List.set (List.map K09 xs) (Int.toNat ix) (AV.agg [I e0.fOp,I e0.fN,oI e0.fType,.osl (List.map K06 ks)])))]) (xs := List.map K09 xs) (ys := List.map K06 ks) (x0 := K1h e0) (x1 := AV.agg [I e0.fOp,I e0.fN,oI e0.fType,.osl (List.map K06 ks)]) h4 (by kernel_rfl) (by kernel_rfl) (by kernel_rfl) (Qdw he0 (K0f e0)).2 (by kernel_rfl) (by kernel_rfl) rfl (by kernel_rfl)) (by kernel_rfl) (Qfp (enc := K09) (enc' := K06) K11 (v := (K01.mk e0.fOp e0.fN e0.fType ks)) (x1 := AV.agg [I e0.fOp,I e0.fN,oI e0.fType,.osl (List.map K06 ks)]) (Kcu (K0w _))) (by kernel_rfl)
 refine xt 0 ?_
 refine Qd4 ?_
 refine Qfi.exit ?_
 obtain ⟨⟨b9,c1⟩,c3,h⟩ := Qds h
 refine rs hc none [oN,some (.call (I b9) [.optr [.sl (List.map U8 c1.fb),I c1.fi,I c1.fh],.undef] 1)] [(0,.ra 1000 0),(4,.raw v4),(5,.raw v5),(6,.ea 1001 4 (Int.toNat ix) 0),(38,I b9)] [(1000,K1d c1),(1001,.arx (List.map K09 xs) (Int.toNat ix) 3 1002),(1002,.arr (List.map K09 e0.fKids))] (ab (K7v _ _ c3) K25 tv) ?_
 refine bk 2 ?_
 refine K7e hc 2 [(0,.ra 1000 0),(4,.raw v4),(5,.raw v5),(6,.ea 1001 4 (Int.toNat ix) 0),(38,I b9),(68,.bool (b9 == 0))] ?_
 refine ic h (fun c4 h => ?_) fun c4 h => ?_
 ·refine Wp.view (fun a w hv => SRx.closeL 1001 (Int.toNat ix) 3 1002 [1000,1001] (xs := List.map K09 xs) (ys := List.map K09 e0.fKids) (x0 := K1h e0) (x1 := K1h e0) hv (by kernel_rfl) (by kernel_rfl) (by kernel_rfl) (Qdw he0 (K0f e0)).2 (by kernel_rfl) (by kernel_rfl) (Qfq (Qdw he0 (K0f e0)).2) (by kernel_rfl)) (?_ : Wp Tryz.prog c _ _ (mkS [(0,.ra 1000 0),(4,.raw v4),(5,.raw v5),(6,.ea 1001 4 (Int.toNat ix) 0),(38,I b9),(68,.bool (b9 == 0))] [(1000,K1d c1),(1001,.arr (List.map K09 xs))]))
  obtain ⟨⟨c5,c6⟩,c7,h⟩ := Qds h
  refine rg hc none [oN,oN,some (.call (I c5) [.optr [.sl (List.map U8 c6.fb),I c6.fi,I c6.fh],.undef] 1),oN,oN,oN,some (.eqv (.el (K1h e0)) ⟨[],[(1001,some (.arr (List.map K09 (List.set xs (Int.toNat ix) (K01.mk (wr (c5 - 1)) e0.fN e0.fType e0.fKids)))))],[]⟩)] [(4,.raw v4),(5,.raw v5)] [(1000,K1d c6),(1001,.arr (List.map K09 (List.set xs (Int.toNat ix) (K01.mk (wr (c5 - 1)) e0.fN e0.fType e0.fKids))))] (ad (K7v _ _ c7) K25 (congrArg (fun z => (⟨[],[(1001,some (.arr z))],[]⟩ : Wr)) (Qev (enc := K09) (i := Int.toNat ix) (l := xs) (v := (K01.mk (wr (c5 - 1)) e0.fN e0.fType e0.fKids)) (x := AV.agg [I (wr (c5 - 1)),I e0.fN,oI e0.fType,.osl (List.map K09 e0.fKids)]) (K0f (K01.mk (wr (c5 - 1)) e0.fN e0.fType e0.fKids)))) (Qdw he0 (K0f e0)).2 tv) ?_
  obtain rfl := os h
  exact Qde.view (fun a w hv => SRx.renL [] (SRx.shareL 1001 [1000,1001] (O' := [(1000,K1d c6),(1001,.arr (List.map K06 (List.set xs (Int.toNat ix) (K01.mk (wr (c5 - 1)) e0.fN e0.fType e0.fKids))))]) (xs := List.map K09 (List.set xs (Int.toNat ix) (K01.mk (wr (c5 - 1)) e0.fN e0.fType e0.fKids))) (xs' := List.map K06 (List.set xs (Int.toNat ix) (K01.mk (wr (c5 - 1)) e0.fN e0.fType e0.fKids))) hv (by kernel_rfl) (K11 _) (by kernel_rfl)) (by kernel_rfl) (by kernel_rfl) (by kernel_rfl))
 refine sN ?_
 refine K7e hc 2 [(0,.ra 1000 0),(4,.raw v4),(5,.raw v5),(6,.ea 1001 4 (Int.toNat ix) 0),(38,I b9),(76,.bool (b9 == 1))] ?_
 obtain ⟨c8,c9,h⟩ := Qds h
 refine Wp.into (x := .normal) (mkS [(0,.ra 1000 0),(4,.raw v4),(5,.raw v5),(6,.ea 1001 4 (Int.toNat ix) 0),(38,I b9),(76,.bool c8)] [(1000,K1d c1),(1001,.arx (List.map K09 xs) (Int.toNat ix) 3 1002),(1002,.arr (List.map K09 e0.fKids))]) ?_ ?_
 ·replace h := c9
  refine ic h (fun d0 h => ?_) fun d0 h => ?_
  ·refine sk ?_
   obtain rfl := os h
   exact Qde.mk
  refine K7d hc 2 [(0,.ra 1000 0),(4,.raw v4),(5,.raw v5),(6,.ea 1001 4 (Int.toNat ix) 0),(38,I b9),(76,.bool (b9 == 2))] ?_
  obtain rfl := os h
  exact Qde.mk
 clear c9
 refine ic h (fun d1 h => ?_) fun d1 h => ?_
 ·refine Wp.view (fun a w hv => SRx.closeL 1001 (Int.toNat ix) 3 1002 [1000,1001] (xs := List.map K09 xs) (ys := List.map K09 e0.fKids) (x0 := K1h e0) (x1 := K1h e0) hv (by kernel_rfl) (by kernel_rfl) (by kernel_rfl) (Qdw he0 (K0f e0)).2 (by kernel_rfl) (by kernel_rfl) (Qfq (Qdw he0 (K0f e0)).2) (by kernel_rfl)) (?_ : Wp Tryz.prog c _ _ (mkS [(0,.ra 1000 0),(4,.raw v4),(5,.raw v5),(6,.ea 1001 4 (Int.toNat ix) 0),(38,I b9),(76,.bool c8)] [(1000,K1d c1),(1001,.arr (List.map K09 xs))]))
  obtain ⟨⟨d2,d3⟩,d4,h⟩ := Qds h
  refine rg hc none [oN,oN,some (.call .undef [] 9),some (.call (I d2) [.optr [.sl (List.map U8 d3.fb),I d3.fi,I d3.fh],.undef] 1),oN,oN,some (.eqv (.el (K1h e0)) ⟨[],[(1001,some (.arr (List.map K09 (List.set xs (Int.toNat ix) (K01.mk e0.fOp d2 e0.fType e0.fKids)))))],[]⟩)] [(4,.raw v4),(5,.raw v5)] [(1000,K1d d3),(1001,.arr (List.map K09 (List.set xs (Int.toNat ix) (K01.mk e0.fOp d2 e0.fType e0.fKids))))] (ad (Kct _ _ d4) K42 (congrArg (fun z => (⟨[],[(1001,some (.arr z))],[]⟩ : Wr)) (Qev (enc := K09) (i := Int.toNat ix) (l := xs) (v := (K01.mk e0.fOp d2 e0.fType e0.fKids)) (x := AV.agg [I e0.fOp,I d2,oI e0.fType,.osl (List.map K09 e0.fKids)]) (K0f (K01.mk e0.fOp d2 e0.fType e0.fKids)))) (Qdw he0 (K0f e0)).2 tv) ?_
  obtain rfl := os h
  exact Qde.view (fun a w hv => SRx.renL [] (SRx.shareL 1001 [1000,1001] (O' := [(1000,K1d d3),(1001,.arr (List.map K06 (List.set xs (Int.toNat ix) (K01.mk e0.fOp d2 e0.fType e0.fKids))))]) (xs := List.map K09 (List.set xs (Int.toNat ix) (K01.mk e0.fOp d2 e0.fType e0.fKids))) (xs' := List.map K06 (List.set xs (Int.toNat ix) (K01.mk e0.fOp d2 e0.fType e0.fKids))) hv (by kernel_rfl) (K11 _) (by kernel_rfl)) (by kernel_rfl) (by kernel_rfl) (by kernel_rfl))
 refine K7e hc 2 [(0,.ra 1000 0),(4,.raw v4),(5,.raw v5),(6,.ea 1001 4 (Int.toNat ix) 0),(38,I b9),(85,.bool (b9 == 3))] ?_
 refine ic h (fun d5 h => ?_) fun d5 h => ?_
 ·refine Wp.view (fun a w hv => SRx.closeL 1001 (Int.toNat ix) 3 1002 [1000,1001] (xs := List.map K09 xs) (ys := List.map K09 e0.fKids) (x0 := K1h e0) (x1 := K1h e0) hv (by kernel_rfl) (by kernel_rfl) (by kernel_rfl) (Qdw he0 (K0f e0)).2 (by kernel_rfl) (by kernel_rfl) (Qfq (Qdw he0 (K0f e0)).2) (by kernel_rfl)) (?_ : Wp Tryz.prog c _ _ (mkS [(0,.ra 1000 0),(4,.raw v4),(5,.raw v5),(6,.ea 1001 4 (Int.toNat ix) 0),(38,I b9),(85,.bool (b9 == 3))] [(1000,K1d c1),(1001,.arr (List.map K09 xs))]))
  refine Wp.view (fun a w hv => SRx.shareL 1001 [1000,1001] (xs := List.map K09 xs) (xs' := List.map K06 xs) hv (by kernel_rfl) (K11 _) (by kernel_rfl)) (?_ : Wp Tryz.prog c _ _ (mkS [(0,.ra 1000 0),(4,.raw v4),(5,.raw v5),(6,.ea 1001 4 (Int.toNat ix) 0),(38,I b9),(85,.bool (b9 == 3))] [(1000,K1d c1),(1001,.arr (List.map K06 xs))]))
  obtain ⟨⟨d6,d7⟩,d8,h⟩ := Qds h
  refine rg hc none [oN,oN,some (.call .undef [] 10),some (.call (I d6) [.optr [.sl (List.map U8 d7.fb),I d7.fi,I d7.fh],.undef] 1),some (.call .undef [] 11),oN,oN,some (.eqv (.el (K1c e0)) ⟨[],[(1001,some (.arr (List.map K06 (List.set xs (Int.toNat ix) (K01.mk e0.fOp e0.fN [d6] e0.fKids)))))],[]⟩)] [(4,.raw v4),(5,.raw v5)] [(1000,K1d d7),(1001,.arr (List.map K06 (List.set xs (Int.toNat ix) (K01.mk e0.fOp e0.fN [d6] e0.fKids))))] (ad (Kct _ _ d8) K42 (congrArg (fun z => (⟨[],[(1001,some (.arr z))],[]⟩ : Wr)) (Qev (enc := K06) (i := Int.toNat ix) (l := xs) (v := (K01.mk e0.fOp e0.fN [d6] e0.fKids)) (x := AV.agg [I e0.fOp,I e0.fN,.sl (List.map I [d6]),.sl (List.map K06 e0.fKids)]) (K0d (K01.mk e0.fOp e0.fN [d6] e0.fKids)))) (Qdw he0 (K0d e0)).2 tv) ?_
  obtain rfl := os h
  exact Qde.view (fun a w hv => SRx.renL [] (hv) (by kernel_rfl) (by kernel_rfl) (by kernel_rfl))
 refine K7e hc 2 [(4,.raw v4),(5,.raw v5),(6,.ea 1001 4 (Int.toNat ix) 0),(94,.bool (b9 == 4))] ?_
 refine ic h (fun d9 h => ?_) fun d9 h => ?_
 ·obtain ⟨_,e3,e4,e5,h⟩ := bq2 h
  refine rg hc (rx [[0],[1],[2],[3],[0],[4],[0],[7],[8],[9],[8],[8,10],[8,10,11]]) [oN,oN,oN,some (.el (K1h e0)),oN,some (.eqv (.no) ⟨[(101,I (e0.fKids.length : Int))],[],[]⟩),some (.eqv (.mk 12 true) ⟨[(102,.rs 12)],[(12,some (.arr (List.map K09 [(K01.mk 0 0 [] [])])))],[12]⟩),some (.eqv (.mk 13 true) ⟨[(103,.rs 13)],[(13,some (.arr (List.map K09 (e0.fKids ++ [(K01.mk 0 0 [] [])])))),(1002,none),(12,none)],[13]⟩),oN,some (.eqv (.mk 0 true) ⟨[],[(13,some (.arr (List.map K09 (List.set (e0.fKids ++ [(K01.mk 0 0 [] [])]) (Int.toNat (e0.fKids.length : Int)) (K01.mk 1 0 [] [])))))],[]⟩),oN,oN,some (.el (K1h e0))] [(4,.raw v4),(5,.raw v5)] [(13,.arr (List.map K09 (List.set (e0.fKids ++ [(K01.mk 0 0 [] [])]) (Int.toNat (e0.fKids.length : Int)) (K01.mk 1 0 [] [])))),(1000,K1d c1),(1001,.arx (List.map K09 xs) (Int.toNat ix) 3 13)] (ad (And.intro (Qdw he0 (K0f e0)).2 (rfl : Int.toNat ix = Int.toNat ix)) (Qdy (d := 101) K09 e0.fKids) (congrArg (fun z => (⟨[(102,.rs 12)],[(12,some (.arr z))],[12]⟩ : Wr)) ((Qez (K0f (K01.mk 0 0 [] [])) Qey) : [AV.agg [I 0,I 0,AV.osl [],AV.osl []]] = List.map K09 [(K01.mk 0 0 [] [])])) (congrArg (fun z => (⟨[(103,.rs 13)],[(13,some (.arr z)),(1002,none),(12,none)],[13]⟩ : Wr)) ((List.map_append).symm : (List.map K09 e0.fKids) ++ (List.map K09 [(K01.mk 0 0 [] [])]) = List.map K09 (e0.fKids ++ [(K01.mk 0 0 [] [])]))) (ad (Qe6 (enc1 := K09) (enc2 := K09) (e1 := e0.fKids) (e2 := [(K01.mk 0 0 [] [])]) (sz := 4) K0y K0y e3) (Qdx (enc := K09) e5) (congrArg (fun z => (⟨[],[(13,some (.arr z))],[]⟩ : Wr)) (Qev (enc := K09) (i := Int.toNat (e0.fKids.length : Int)) (l := (e0.fKids ++ [(K01.mk 0 0 [] [])])) (v := (K01.mk 1 0 [] [])) (x := AV.agg [I 1,I 0,AV.osl [],AV.osl []]) (K0f (K01.mk 1 0 [] [])))) (Qew (enc := K09) (sz := 4) K0x e5) (ai (And.intro (Qdw he0 (K0f e0)).2 (rfl : Int.toNat ix = Int.toNat ix)) tv))) ?_
  obtain rfl := os h
  exact Qde.view (fun a w hv => SRx.renL [] (SRx.shareL 1001 [1000,1001] (O' := [(1000,K1d c1),(1001,.arr (List.map K06 (List.set xs (Int.toNat ix) (K01.mk e0.fOp e0.fN e0.fType (List.set (e0.fKids ++ [(K01.mk 0 0 [] [])]) (Int.toNat (e0.fKids.length : Int)) (K01.mk 1 0 [] []))))))]) (xs := List.set (List.map K09 xs) (Int.toNat ix) (AV.agg [I e0.fOp,I e0.fN,oI e0.fType,.osl (List.map K09 (List.set (e0.fKids ++ [(K01.mk 0 0 [] [])]) (Int.toNat (e0.fKids.length : Int)) (K01.mk 1 0 [] [])))])) (xs' := List.map K06 (List.set xs (Int.toNat ix) (K01.mk e0.fOp e0.fN e0.fType (List.set (e0.fKids ++ [(K01.mk 0 0 [] [])]) (Int.toNat (e0.fKids.length : Int)) (K01.mk 1 0 [] []))))) (SRx.closeL 1001 (Int.toNat ix) 3 13 [1000,1001] (O' := [(1000,K1d c1),(1001,.arr (List.set (List.map K09 xs) (Int.toNat ix) (AV.agg [I e0.fOp,I e0.fN,oI e0.fType,.osl (List.map K09 (List.set (e0.fKids ++ [(K01.mk 0 0 [] [])]) (Int.toNat (e0.fKids.length : Int)) (K01.mk 1 0 [] [])))])))]) (xs := List.map K09 xs) (ys := List.map K09 (List.set (e0.fKids ++ [(K01.mk 0 0 [] [])]) (Int.toNat (e0.fKids.length : Int)) (K01.mk 1 0 [] []))) (x0 := K1h e0) (x1 := AV.agg [I e0.fOp,I e0.fN,oI e0.fType,.osl (List.map K09 (List.set (e0.fKids ++ [(K01.mk 0 0 [] [])]) (Int.toNat (e0.fKids.length : Int)) (K01.mk 1 0 [] [])))]) hv (by kernel_rfl) (by kernel_rfl) (by kernel_rfl) (Qdw he0 (K0f e0)).2 (by kernel_rfl) (by kernel_rfl) rfl (by kernel_rfl)) (by kernel_rfl) (Qfp (enc := K09) (enc' := K06) K11 (v := (K01.mk e0.fOp e0.fN e0.fType (List.set (e0.fKids ++ [(K01.mk 0 0 [] [])]) (Int.toNat (e0.fKids.length : Int)) (K01.mk 1 0 [] [])))) (x1 := AV.agg [I e0.fOp,I e0.fN,oI e0.fType,.osl (List.map K09 (List.set (e0.fKids ++ [(K01.mk 0 0 [] [])]) (Int.toNat (e0.fKids.length : Int)) (K01.mk 1 0 [] [])))]) (Kcu (K11 _))) (by kernel_rfl)) (by kernel_rfl) (by kernel_rfl) (by kernel_rfl))
 refine rss hc none [oN,oN,oN,some (.el (K1h e0)),some (.eqv (.no) ⟨[(43,I (e0.fKids.length : Int))],[],[]⟩),oN] [(4,.raw v4),(5,.raw v5),(6,.ea 1001 4 (Int.toNat ix) 0),(44,.bool (decide ((e0.fKids.length : Int) > 1)))] (ab (And.intro (Qdw he0 (K0f e0)).2 (rfl : Int.toNat ix = Int.toNat ix)) (Qdy (d := 43) K09 e0.fKids) tv) ?_
 refine ic h (fun e6 h => ?_) fun e6 h => ?_
 ·refine sN ?_
  refine Wp.view (fun a w hv => SRx.shareL 1002 [1000,1001,1002] (xs := List.map K09 e0.fKids) (xs' := List.map K06 e0.fKids) hv (by kernel_rfl) (K11 _) (by kernel_rfl)) (?_ : Wp Tryz.prog c _ _ (mkS [(4,.raw v4),(5,.raw v5),(6,.ea 1001 4 (Int.toNat ix) 0),(44,.bool (decide ((e0.fKids.length : Int) > 1)))] [(1000,K1d c1),(1001,.arx (List.map K09 xs) (Int.toNat ix) 3 1002),(1002,.arr (List.map K06 e0.fKids))]))
  obtain ⟨e7,e8,h⟩ := Qds h
  refine rg hc none [oN,oN,oN,some (.el (K1h e0)),oN,some (.el (K1c e7)),some (.new 14),oN] [(4,.raw v4),(5,.raw v5),(6,.ea 1001 4 (Int.toNat ix) 0),(7,.ra 14 0)] [(14,K1b e7),(1000,K1d c1),(1001,.arx (List.map K09 xs) (Int.toNat ix) 3 1002),(1002,.arr (List.map K06 e0.fKids))] (ac (And.intro (Qdw he0 (K0f e0)).2 (rfl : Int.toNat ix = Int.toNat ix)) (Qdx (enc := K06) e8) (Qdw e8 (K0d e7)).2 tv) ?_
  obtain ⟨e9,f0,f1,f2,h⟩ := bq2 h
  refine rs hc (rx [[0],[1],[2],[3],[0],[0,4],[0,4,5],[0,4,5,6],[0,4,5,6,7],[0,4,5,6,7,8],[10],[11]]) [oN,oN,oN,some (.el (K1h e0)),oN,oN,oN,some (.el (K1h e0)),oN,some (.el (K1c e9)),oN,some (.eqv (.mk 0 false) ⟨[],[(1002,some (.arr (List.map K06 (List.set e0.fKids (Int.toNat 0) e9))))],[]⟩)] [(4,.raw v4),(5,.raw v5),(6,.ea 1001 4 (Int.toNat ix) 0),(7,.ra 14 0)] [(14,K1b e7),(1000,K1d c1),(1001,.arx (List.map K09 xs) (Int.toNat ix) 3 1002),(1002,.arr (List.map K06 (List.set e0.fKids (Int.toNat 0) e9)))] (ar 2 (And.intro (Qdw he0 (K0f e0)).2 (rfl : Int.toNat ix = Int.toNat ix)) (ad (Qdx (enc := K06) f0) (Qdw f0 (K0d e9)).2 (Qdx (enc := K06) f2) (congrArg (fun z => (⟨[],[(1002,some (.arr z))],[]⟩ : Wr)) (Qev (enc := K06) (i := Int.toNat 0) (l := e0.fKids) (v := e9) (x := K1c e9) (K0d e9))) (ai (Qew (enc := K06) (sz := 4) K0u f2) tv))) ?_
  obtain ⟨f3,f4,h⟩ := Qds h
  refine rg hc (rh [0,1,2,3,0,5,6]) [oN,oN,oN,some (.el (K1h e0)),oN,oN,some (.eqv (.mk 0 false) ⟨[],[(1002,some (.arr (List.map K06 (List.set (List.set e0.fKids (Int.toNat 0) e9) (Int.toNat 1) e7))))],[]⟩)] [(4,.raw v4),(5,.raw v5)] [(1000,K1d c1),(1001,.arx (List.map K09 xs) (Int.toNat ix) 3 1002),(1002,.arr (List.map K06 (List.set (List.set e0.fKids (Int.toNat 0) e9) (Int.toNat 1) e7)))] (ad (And.intro (Qdw he0 (K0f e0)).2 (rfl : Int.toNat ix = Int.toNat ix)) (Qdx (enc := K06) f4) (congrArg (fun z => (⟨[],[(1002,some (.arr z))],[]⟩ : Wr)) (Qev (enc := K06) (i := Int.toNat 1) (l := (List.set e0.fKids (Int.toNat 0) e9)) (v := e7) (x := K1c e7) (K0d e7))) (Qew (enc := K06) (sz := 4) K0u f4) tv) ?_
  obtain rfl := os h
  exact Qde.view (fun a w hv => SRx.renL [] (SRx.shareL 1001 [1000,1001] (O' := [(1000,K1d c1),(1001,.arr (List.map K06 (List.set xs (Int.toNat ix) (K01.mk e0.fOp e0.fN e0.fType (List.set (List.set e0.fKids (Int.toNat 0) e9) (Int.toNat 1) e7)))))]) (xs := List.set (List.map K09 xs) (Int.toNat ix) (AV.agg [I e0.fOp,I e0.fN,oI e0.fType,.osl (List.map K06 (List.set (List.set e0.fKids (Int.toNat 0) e9) (Int.toNat 1) e7))])) (xs' := List.map K06 (List.set xs (Int.toNat ix) (K01.mk e0.fOp e0.fN e0.fType (List.set (List.set e0.fKids (Int.toNat 0) e9) (Int.toNat 1) e7)))) (SRx.closeL 1001 (Int.toNat ix) 3 1002 [1000,1001] (O' := [(1000,K1d c1),(1001,.arr (List.set (List.map K09 xs) (Int.toNat ix) (AV.agg [I e0.fOp,I e0.fN,oI e0.fType,.osl (List.map K06 (List.set (List.set e0.fKids (Int.toNat 0) e9) (Int.toNat 1) e7))])))]) (xs := List.map K09 xs) (ys := List.map K06 (List.set (List.set e0.fKids (Int.toNat 0) e9) (Int.toNat 1) e7)) (x0 := K1h e0) (x1 := AV.agg [I e0.fOp,I e0.fN,oI e0.fType,.osl (List.map K06 (List.set (List.set e0.fKids (Int.toNat 0) e9) (Int.toNat 1) e7))]) hv (by kernel_rfl) (by kernel_rfl) (by kernel_rfl) (Qdw he0 (K0f e0)).2 (by kernel_rfl) (by kernel_rfl) rfl (by kernel_rfl)) (by kernel_rfl) (Qfp (enc := K09) (enc' := K06) K11 (v := (K01.mk e0.fOp e0.fN e0.fType (List.set (List.set e0.fKids (Int.toNat 0) e9) (Int.toNat 1) e7))) (x1 := AV.agg [I e0.fOp,I e0.fN,oI e0.fType,.osl (List.map K06 (List.set (List.set e0.fKids (Int.toNat 0) e9) (Int.toNat 1) e7))]) (Kcu (K0w _))) (by kernel_rfl)) (by kernel_rfl) (by kernel_rfl) (by kernel_rfl))
 refine sk ?_
 obtain rfl := os h
 exact Qde.view (fun a w hv => SRx.renL [] (SRx.shareL 1001 [1000,1001] (O' := [(1000,K1d c1),(1001,.arr (List.map K06 xs))]) (xs := List.set (List.map K09 xs) (Int.toNat ix) (K1h e0)) (xs' := List.map K06 xs) (SRx.closeL 1001 (Int.toNat ix) 3 1002 [1000,1001] (O' := [(1000,K1d c1),(1001,.arr (List.set (List.map K09 xs) (Int.toNat ix) (K1h e0)))]) (xs := List.map K09 xs) (ys := List.map K09 e0.fKids) (x0 := K1h e0) (x1 := K1h e0) hv (by kernel_rfl) (by kernel_rfl) (by kernel_rfl) (Qdw he0 (K0f e0)).2 (by kernel_rfl) (by kernel_rfl) rfl (by kernel_rfl)) (by kernel_rfl) ((Qfp (enc := K09) (enc' := K06) K11 (v := (K01.mk e0.fOp e0.fN e0.fType e0.fKids)) (x1 := K1h e0) (Kcu (K11 _))).trans (congrArg (List.map K06) ((congrArg (List.set xs (Int.toNat ix)) (Kcv e0)).trans (Qfq (Qdv he0).2)))) (by kernel_rfl)) (by kernel_rfl) (by kernel_rfl) (by kernel_rfl))
def Kcz (p : K02 × K01) : Option (K01 × K02) :=
 match p with
 | (c0,t1) =>
  (Kc7 (c0,6)) >>= fun (a0,a1) =>
  if a0 = true then
  (Kck (t1,0,0)) >>= fun a2 =>
  (Kcw (a1,[a2],0)) >>= fun (a3,a4) =>
  (idx a3 0) >>= fun a5 =>
  some (a5,a4)
  else
  some (t1,a1)
def Kd0 (p : K02 × K01) (r : K01 × K02) : Prop :=
 match p with
 | (c0,t1) => Q75 Tryz.prog 105 [.optr [.sl (List.map U8 c0.fb),I c0.fi,I c0.fh],K1c t1] (.agg [I r.1.fOp,I r.1.fN,.sl (List.map I r.1.fType),.sl (List.map K06 r.1.fKids)]) [.optr [.sl (List.map U8 r.2.fb),I r.2.fi,I r.2.fh],.undef]
theorem Kd1 : ∀ p r,Kcz p = some r → Kd0 p r := by
 rintro ⟨c0,t1⟩ r h
 unfold Kcz at h
 refine Q75.bodyO K20 (fn := Tryz.f105) (code := K43) (by kernel_rfl) (by kernel_rfl) (by kernel_rfl) (nt := 108) (by kernel_rfl) (by kernel_rfl) (T := [(0,.ra 1000 0),(1,K1c t1)]) (O := [(1000,K1d c0)]) (by kernel_rfl) (by kernel_rfl) (fun c hc => ?_)
 refine rs hc none [some (.new 1),some (.new 2)] [(0,.ra 1000 0),(3,.ra 1 0),(4,.ra 2 0)] [(1,K1b t1),(2,.box [I 0,I 0,.nils,.nils]),(1000,K1d c0)] tv ?_
 refine sN ?_
 obtain ⟨⟨a0,a1⟩,a4,h⟩ := Qds h
 refine rs hc none [oN,some (.call (.bool a0) [.optr [.sl (List.map U8 a1.fb),I a1.fi,I a1.fh],.undef] 1),oN] [(0,.ra 1000 0),(3,.ra 1 0),(4,.ra 2 0),(10,.bool (!a0))] [(1,K1b t1),(2,.box [I 0,I 0,.nils,.nils]),(1000,K1d a1)] (ab (Kc9 _ _ a4) K3u tv) ?_
 rcases is h with ⟨a5,h⟩ | ⟨a5,h⟩
 ·refine cF (!a0) (nF a5) ?_
  refine sk ?_
  obtain ⟨a6,a7,h⟩ := Qds h
  refine rs hc none [oN,some (.call (K1h a6) [] 3),some (.new 5),oN] [(0,.ra 1000 0),(4,.ra 2 0),(5,.ra 5 0)] [(2,.box [I 0,I 0,.nils,.nils]),(3,rI a6.fType),(4,.arr (List.map K09 a6.fKids)),(5,.box [I a6.fOp,I a6.fN,.rs 3,.rs 4]),(1000,K1d a1)] (cq (Kcp _ _ a7) K40 tv) ?_
  refine K7e hc 1 [(0,.ra 1000 0),(4,.ra 2 0),(5,.ra 5 0),(6,.ra 5 0)] ?_
  obtain ⟨⟨a8,a9⟩,b1,h⟩ := Qds h
  refine Wp.view (fun a w hv => SRx.boxRowL 5 6 [2,6,1000] (cs := [I a6.fOp,I a6.fN,.rs 3,.rs 4]) (x1 := K09 a6) hv (by kernel_rfl) (by kernel_rfl) (by kernel_rfl) ((by kernel_rfl : _ = K1h a6).trans (K0f a6).symm) (by kernel_rfl) (by kernel_rfl)) (?_ : Wp Tryz.prog c _ _ (mkS [(0,.ra 1000 0),(4,.ra 2 0),(5,.ea 6 4 (Int.toNat 0) 0),(6,.ea 6 4 (Int.toNat 0) 0)] [(2,.box [I 0,I 0,.nils,.nils]),(6,.arr (List.map K09 [a6])),(1000,K1d a1)]))
  refine Wp.view (fun a w hv => SRx.openL 6 (Int.toNat 0) 3 7 [2,6,7,1000] (xs := List.map K09 [a6]) (ys := List.map K09 a6.fKids) (x0 := K1h a6) hv (by kernel_rfl) (Qdw (enc := K09) (i := 0) (l := [a6]) (x := K1h a6) rfl (K0f a6)).2 (by kernel_rfl) (by kernel_rfl) (by kernel_rfl)) (?_ : Wp Tryz.prog c _ _ (mkS [(0,.ra 1000 0),(4,.ra 2 0),(5,.ea 6 4 (Int.toNat 0) 0),(6,.ea 6 4 (Int.toNat 0) 0)] [(2,.box [I 0,I 0,.nils,.nils]),(6,.arx (List.map K09 [a6]) (Int.toNat 0) 3 7),(7,.arr (List.map K09 a6.fKids)),(1000,K1d a1)]))
  refine Wp.descend (mkS [(4,.ra 2 0),(5,.ea 6 4 (Int.toNat 0) 0)] [(2,.box [I 0,I 0,.nils,.nils]),(6,.arr (List.map K06 a8)),(1000,K1d a9)]) 0 (by kernel_rfl) (by kernel_rfl) (by kernel_rfl) (by kernel_rfl) (fun a w hv => ?_) ?_
  ·obtain ⟨c',hc',hz1,hout⟩ := SRx.zoomB (T' := [(0,.ra 1000 0),(4,.raw (a.tmps.getD 4 undef)),(5,.raw (a.tmps.getD 5 undef)),(6,.ea 1001 4 (Int.toNat 0) 0)]) (O' := [(1000,K1d a1),(1001,.arx (List.map K09 [a6]) (Int.toNat 0) 3 1002),(1002,.arr (List.map K09 a6.fKids))]) [(1000,1000),(1001,6),(1002,7)] hv
    (by intro p hp; simp only [List.mem_cons,List.not_mem_nil,or_false] at hp; rcases hp with rfl | rfl | rfl | rfl <;> first | exact .inl ⟨rfl,by kernel_rfl⟩ | exact .inr (by kernel_rfl)) (by kernel_rfl) (by kernel_rfl)
   refine WpR.mono (Kcy _ _ b1 c' (hc'.trans hc) (a.tmps.getD 4 undef) (a.tmps.getD 5 undef) a6 rfl a w hz1) (fun e a2 w2 hd => Qfh.mono (fun a3 w3 h3 => ?_) hd)
   exact hout a3 w3 [(4,.raw (a.tmps.getD 4 undef)),(5,.raw (a.tmps.getD 5 undef))] [(1000,K1d a9),(1001,.arr (List.map K06 a8))] h3 (by kernel_rfl) [(4,.ra 2 0),(5,.ea 6 4 (Int.toNat 0) 0)] [(2,.box [I 0,I 0,.nils,.nils]),(6,.arr (List.map K06 a8)),(1000,K1d a9)] (by intro p hp; simp only [List.mem_cons,List.not_mem_nil,or_false] at hp; rcases hp with rfl | rfl <;> exact .inr ⟨rfl,rfl⟩) (by intro p hp; simp only [List.mem_cons,List.not_mem_nil,or_false] at hp; rcases hp with rfl | rfl | rfl <;> first | exact .inr ⟨1000,rfl,rfl⟩ | exact .inr ⟨1001,rfl,rfl⟩ | exact .inl ⟨rfl,by kernel_rfl⟩)
  obtain ⟨b2,b3,h⟩ := Qds h
  refine rs hc none [some (.el (K1c b2)),oN] [(4,.ra 2 0)] [(2,K1b b2),(1000,K1d a9)] (ai (Qdw b3 (K0d b2)).2 tv) ?_
  refine rt ?_
  obtain rfl := os h
  exact Qdp.ret (fl := [false]) (by kernel_rfl)
 refine cT (!a0) (nT a5) ?_
 refine rs0 hc 2 [(4,.ra 2 0)] [(2,K1b t1),(1000,K1d a1)] ?_
 refine rt ?_
 obtain rfl := os h
 exact Qdp.ret (fl := [false]) (by kernel_rfl)
def Kd2 (c : Ctx) (s0 : K00) (in1 : List Bool) (a0 : Int) : (Unit) ⊕ (Bool) → Exit → Q0a → Prop
 | .inl _ => Qde c (.exit 2) (mkS [(1,sB in1),(2,.ra 1 0),(5,I a0)] [(1,K19 s0)])
 | .inr r => Qdn TIx Tryz.f177 [] (.bool r)
def Kd3 : Option (List (List Nat)) := rx [[0],[0],[0],[0],[0,1,2,3],[5],[6],[0],[0],[0,7,8],[0,7,8,9],[0,1,2,3,4,7,8,9,10],[0,1,2,3,4,7,8,9,10,11],[0,1,2,3,4,7,8,9,10,11],[0,1,2,3,4,7,8,9,10,11,12,13],[0,1,2,3,4,7,8,9,10,11,12,13,14],[0,1,2,3,4,7,8,9,10,11,12,13,14,15],[17],[18],[19],[19],[19],[19],[19,20,21,22],[24],[25],[19],[19],[19,26,27],[19,26,27,28],[19,20,21,22,23,26,27,28,29],[19,20,21,22,23,26,27,28,29,30],[19,20,21,22,23,26,27,28,29,30],[19,20,21,22,23,26,27,28,29,30,31,32],[19,20,21,22,23,26,27,28,29,30,31,32,33],[19,20,21,22,23,26,27,28,29,30,31,32,33,34],[36],[37],[38],[39],[39],[41],[42],[43],[44],[44],[44],[47],[48],[49],[50],[50],[52],[53],[54],[55],[56]]
def Kd4 (p : K00 × (List Bool) × Int × Int) : Option ((Unit) ⊕ (Bool)) :=
 match p with
 | (s0,in1,a0,a1) =>
  if (decide (a1 < s0.fSize)) = true then
  ((
  (K94 (s0,a0,a1)) >>= fun a2 =>
  (idx in1 a2) >>= fun a3 =>
  (idx in1 a0) >>= fun a4 =>
  if a4 = true then
  if (a3 == true) = true then
  (K9b (s0,a0,a1)) >>= fun a5 =>
  (idx in1 a5) >>= fun a6 =>
  (idx in1 a0) >>= fun a7 =>
  if a7 = true then
  (idx in1 a1) >>= fun a8 =>
  if (a6 == a8) = true then
  (idx in1 a0) >>= fun a9 =>
  if a9 = true then
  (K9e (s0,a0,a1)) >>= fun b1 =>
  if b1 = true then
  (idx in1 a1) >>= fun b2 =>
  some ((!b2))
  else
  some (false)
  else
  some (false)
  else
  some (true)
  else
  if (a6 == false) = true then
  (idx in1 a0) >>= fun a9 =>
  if a9 = true then
  (K9e (s0,a0,a1)) >>= fun b1 =>
  if b1 = true then
  (idx in1 a1) >>= fun b2 =>
  some ((!b2))
  else
  some (false)
  else
  some (false)
  else
  some (true)
  else
  some (true)
  else
  (idx in1 a1) >>= fun b3 =>
  if (a3 == b3) = true then
  (K9b (s0,a0,a1)) >>= fun a5 =>
  (idx in1 a5) >>= fun a6 =>
  (idx in1 a0) >>= fun a7 =>
  if a7 = true then
  (idx in1 a1) >>= fun a8 =>
  if (a6 == a8) = true then
  (idx in1 a0) >>= fun a9 =>
  if a9 = true then
  (K9e (s0,a0,a1)) >>= fun b1 =>
  if b1 = true then
  (idx in1 a1) >>= fun b2 =>
  some ((!b2))
  else
  some (false)
  else
  some (false)
  else
  some (true)
  else
  if (a6 == false) = true then
  (idx in1 a0) >>= fun a9 =>
  if a9 = true then
  (K9e (s0,a0,a1)) >>= fun b1 =>
  if b1 = true then
  (idx in1 a1) >>= fun b2 =>
  some ((!b2))
  else
  some (false)
  else
  some (false)
  else
  some (true)
  else
  some (true)
  ) : Option (Bool)) >>= fun b4 =>
  if b4 = true then
  some (.inr false)
  else
  Kd4 (s0,in1,a0,(wr (a1 + 1)))
  else
  some (.inl ())
 partial_fixpoint
def Kd5 (p : K00 × (List Bool) × Int × Int) (fl : (Unit) ⊕ (Bool)) : Prop :=
 match p with
 | (s0,in1,a0,a1) => ∀ c : Ctx,c.nt = 85 → WpL Tryz.prog c (cl (cl (cr (cl (cl (cr (cl (cl (cr (cl (cr (cr K45)))))))))))) (Kd2 c s0 in1 a0 fl) (mkS [(1,sB in1),(2,.ra 1 0),(5,I a0),(6,I a1)] [(1,K19 s0)])
theorem Kd6 : ∀ p r,Kd4 p = some r → Kd5 p r := by
 refine Kd4.partial_correctness Kd5 ?_
 rintro spec_l1View_l0_f spec_l1View_l0_ih ⟨s0,in1,a0,a1⟩ r h
 intro c hc
 refine WpL.step ?_
 refine sN ?_
 refine K7e hc 4 [(1,sB in1),(2,.ra 1 0),(5,I a0),(6,I a1),(25,.bool (decide (a1 < s0.fSize)))] ?_
 refine ic h (fun a2 h => ?_) fun a2 h => ?_
 ·refine sk ?_
  refine sN ?_
  refine bk 3 ?_
  refine sN ?_
  obtain ⟨a3,a4,h⟩ := Qds h
  refine Wp.into (x := .normal) (mkS [(1,sB in1),(2,.ra 1 0),(5,I a0),(6,I a1),(84,.bool a3)] [(1,K19 s0)]) ?_ ?_
  ·replace h := a4
   obtain ⟨a5,a6,a7,a8,a9,b1,h⟩ := bq3 h
   rcases is h with ⟨b2,h⟩ | ⟨b2,h⟩
   ·rcases is h with ⟨b3,h⟩ | ⟨b3,h⟩
    ·obtain ⟨b4,b5,b6,b7,b8,b9,h⟩ := bq3 h
     rcases is h with ⟨c0,h⟩ | ⟨c0,h⟩
     ·obtain ⟨c1,c2,h⟩ := Qds h
      rcases is h with ⟨c3,h⟩ | ⟨c3,h⟩
      ·obtain ⟨c4,c5,h⟩ := Qds h
       rcases is h with ⟨c6,h⟩ | ⟨c6,h⟩
       ·obtain ⟨c7,c8,h⟩ := Qds h
        rcases is h with ⟨c9,h⟩ | ⟨c9,h⟩
        ·obtain ⟨d0,d1,h⟩ := Qds h
         refine rgs hc Kd3 [oN,oN,oN,oN,oc (I a5),some (.el (.bool a7)),oN,oN,oN,some (.el (.bool a9)),oN,oN,o_,o_,o_,o_,oT,oN,oN,oN,oN,oN,oN,oc (I b4),some (.el (.bool b6)),oN,oN,oN,some (.el (.bool b8)),oN,oN,oN,oN,some (.el (.bool c1)),oN,oT,oN,oF,oN,oN,oN,some (.el (.bool c4)),oN,oN,oN,oN,oN,oc (.bool c7),oT,oN,oN,oN,some (.el (.bool d0)),oN,oN,oT,oF] [(1,sB in1),(2,.ra 1 0),(5,I a0),(6,I a1),(84,.bool (!d0))] (cq (K96 _ _ a6) K2m (ab (Qdw (enc := AV.bool) (x := .bool a7) a8 (Qe9 a7)) (Qdw (enc := AV.bool) (x := .bool a9) b1 (Qe9 a9)) (ar 4 (neF b2) (ai b2 (ar 5 (nF b3) (cq (K9d _ _ b5) K2o (ab (nF b3) (Qdw (enc := AV.bool) (x := .bool b6) b7 (Qe9 b6)) (ar 4 (nF b3) (ai (Qdw (enc := AV.bool) (x := .bool b8) b9 (Qe9 b8)) (ar 2 (nF b3) (ar 3 c0 (ad (Qdw (enc := AV.bool) (x := .bool c1) c2 (Qe9 c1)) c0 (nF b3) c0 (ar 2 (nF b3) (ar 3 (nF c3) (ai (Qdw (enc := AV.bool) (x := .bool c4) c5 (Qe9 c4)) (ar 2 (nF c3) (ar 4 c6 (cq (K9g _ _ c8) K2q (ac (nF c3) c6 (nF c3) (ar 3 c9 (ai (Qdw (enc := AV.bool) (x := .bool d0) d1 (Qe9 d0)) (ar 2 c9 (ac (nF c3) c9 (nF c3) tv))))))))))))))))))))))) ?_
         obtain rfl := os h
         exact Qde.mk
        refine rgs hc Kd3 [oN,oN,oN,oN,oc (I a5),some (.el (.bool a7)),oN,oN,oN,some (.el (.bool a9)),oN,oN,o_,o_,o_,o_,oT,oN,oN,oN,oN,oN,oN,oc (I b4),some (.el (.bool b6)),oN,oN,oN,some (.el (.bool b8)),oN,oN,oN,oN,some (.el (.bool c1)),oN,oT,oN,oF,oN,oN,oN,some (.el (.bool c4)),oN,oN,oN,oN,oN,oc (.bool c7),oT,oN,o_,o_,o_,o_,o_,oF,oF] [(1,sB in1),(2,.ra 1 0),(5,I a0),(6,I a1),(84,.bool false)] (cq (K96 _ _ a6) K2m (ab (Qdw (enc := AV.bool) (x := .bool a7) a8 (Qe9 a7)) (Qdw (enc := AV.bool) (x := .bool a9) b1 (Qe9 a9)) (ar 4 (neF b2) (ai b2 (ar 5 (nF b3) (cq (K9d _ _ b5) K2o (ab (nF b3) (Qdw (enc := AV.bool) (x := .bool b6) b7 (Qe9 b6)) (ar 4 (nF b3) (ai (Qdw (enc := AV.bool) (x := .bool b8) b9 (Qe9 b8)) (ar 2 (nF b3) (ar 3 c0 (ad (Qdw (enc := AV.bool) (x := .bool c1) c2 (Qe9 c1)) c0 (nF b3) c0 (ar 2 (nF b3) (ar 3 (nF c3) (ai (Qdw (enc := AV.bool) (x := .bool c4) c5 (Qe9 c4)) (ar 2 (nF c3) (ar 4 c6 (cq (K9g _ _ c8) K2q (ac (nF c3) c6 (nF c3) (ar 5 (neT c9) (ac (nF c3) c9 (nF c3) tv))))))))))))))))))))) ?_
        obtain rfl := os h
        exact Qde.mk
       refine rgs hc Kd3 [oN,oN,oN,oN,oc (I a5),some (.el (.bool a7)),oN,oN,oN,some (.el (.bool a9)),oN,oN,o_,o_,o_,o_,oT,oN,oN,oN,oN,oN,oN,oc (I b4),some (.el (.bool b6)),oN,oN,oN,some (.el (.bool b8)),oN,oN,oN,oN,some (.el (.bool c1)),oN,oT,oN,oF,oN,oN,oN,some (.el (.bool c4)),oN,oN,o_,o_,o_,o_,oF,oN,o_,o_,o_,o_,o_,oF,oF] [(1,sB in1),(2,.ra 1 0),(5,I a0),(6,I a1),(84,.bool false)] (cq (K96 _ _ a6) K2m (ab (Qdw (enc := AV.bool) (x := .bool a7) a8 (Qe9 a7)) (Qdw (enc := AV.bool) (x := .bool a9) b1 (Qe9 a9)) (ar 4 (neF b2) (ai b2 (ar 5 (nF b3) (cq (K9d _ _ b5) K2o (ab (nF b3) (Qdw (enc := AV.bool) (x := .bool b6) b7 (Qe9 b6)) (ar 4 (nF b3) (ai (Qdw (enc := AV.bool) (x := .bool b8) b9 (Qe9 b8)) (ar 2 (nF b3) (ar 3 c0 (ad (Qdw (enc := AV.bool) (x := .bool c1) c2 (Qe9 c1)) c0 (nF b3) c0 (ar 2 (nF b3) (ar 3 (nF c3) (ai (Qdw (enc := AV.bool) (x := .bool c4) c5 (Qe9 c4)) (ar 2 (nF c3) (ar 4 (neT c6) (ac (nF c3) c6 (nF c3) (ar 5 (neT (rfl : false = false)) (ac (nF c3) (rfl : false = false) (nF c3) tv)))))))))))))))))))) ?_
       obtain rfl := os h
       exact Qde.mk
      refine rgs hc Kd3 [oN,oN,oN,oN,oc (I a5),some (.el (.bool a7)),oN,oN,oN,some (.el (.bool a9)),oN,oN,o_,o_,o_,o_,oT,oN,oN,oN,oN,oN,oN,oc (I b4),some (.el (.bool b6)),oN,oN,oN,some (.el (.bool b8)),oN,oN,oN,oN,some (.el (.bool c1)),oN,oT,oN,oF,oN,o_,o_,o_,o_,o_,o_,o_,o_,o_,o_,o_,o_,o_,o_,o_,o_,o_,oT] [(1,sB in1),(2,.ra 1 0),(5,I a0),(6,I a1),(84,.bool true)] (cq (K96 _ _ a6) K2m (ab (Qdw (enc := AV.bool) (x := .bool a7) a8 (Qe9 a7)) (Qdw (enc := AV.bool) (x := .bool a9) b1 (Qe9 a9)) (ar 4 (neF b2) (ai b2 (ar 5 (nF b3) (cq (K9d _ _ b5) K2o (ab (nF b3) (Qdw (enc := AV.bool) (x := .bool b6) b7 (Qe9 b6)) (ar 4 (nF b3) (ai (Qdw (enc := AV.bool) (x := .bool b8) b9 (Qe9 b8)) (ar 2 (nF b3) (ar 3 c0 (ad (Qdw (enc := AV.bool) (x := .bool c1) c2 (Qe9 c1)) c0 (nF b3) c0 (ar 2 (nF b3) (ar 8 (neF (nT c3)) (ai (nT c3) tv))))))))))))))) ?_
      obtain rfl := os h
      exact Qde.mk
     rcases is h with ⟨c3,h⟩ | ⟨c3,h⟩
     ·obtain ⟨c4,c5,h⟩ := Qds h
      rcases is h with ⟨c6,h⟩ | ⟨c6,h⟩
      ·obtain ⟨c7,c8,h⟩ := Qds h
       rcases is h with ⟨c9,h⟩ | ⟨c9,h⟩
       ·obtain ⟨d0,d1,h⟩ := Qds h
        refine rgs hc Kd3 [oN,oN,oN,oN,oc (I a5),some (.el (.bool a7)),oN,oN,oN,some (.el (.bool a9)),oN,oN,o_,o_,o_,o_,oT,oN,oN,oN,oN,oN,oN,oc (I b4),some (.el (.bool b6)),oN,oN,oN,some (.el (.bool b8)),oN,oN,o_,o_,o_,o_,oF,oN,oF,oN,oN,oN,some (.el (.bool c4)),oN,oN,oN,oN,oN,oc (.bool c7),oT,oN,oN,oN,some (.el (.bool d0)),oN,oN,oT,oF] [(1,sB in1),(2,.ra 1 0),(5,I a0),(6,I a1),(84,.bool (!d0))] (cq (K96 _ _ a6) K2m (ab (Qdw (enc := AV.bool) (x := .bool a7) a8 (Qe9 a7)) (Qdw (enc := AV.bool) (x := .bool a9) b1 (Qe9 a9)) (ar 4 (neF b2) (ai b2 (ar 5 (nF b3) (cq (K9d _ _ b5) K2o (ab (nF b3) (Qdw (enc := AV.bool) (x := .bool b6) b7 (Qe9 b6)) (ar 4 (nF b3) (ai (Qdw (enc := AV.bool) (x := .bool b8) b9 (Qe9 b8)) (ar 2 (nF b3) (ar 4 (neT c0) (ab (nF b3) c0 (ar 2 (nF b3) (ar 3 (nF c3) (ai (Qdw (enc := AV.bool) (x := .bool c4) c5 (Qe9 c4)) (ar 2 (nF c3) (ar 4 c6 (cq (K9g _ _ c8) K2q (ac (nF c3) c6 (nF c3) (ar 3 c9 (ai (Qdw (enc := AV.bool) (x := .bool d0) d1 (Qe9 d0)) (ar 2 c9 (ac (nF c3) c9 (nF c3) tv))))))))))))))))))))))) ?_
        obtain rfl := os h
        exact Qde.mk
       refine rgs hc Kd3 [oN,oN,oN,oN,oc (I a5),some (.el (.bool a7)),oN,oN,oN,some (.el (.bool a9)),oN,oN,o_,o_,o_,o_,oT,oN,oN,oN,oN,oN,oN,oc (I b4),some (.el (.bool b6)),oN,oN,oN,some (.el (.bool b8)),oN,oN,o_,o_,o_,o_,oF,oN,oF,oN,oN,oN,some (.el (.bool c4)),oN,oN,oN,oN,oN,oc (.bool c7),oT,oN,o_,o_,o_,o_,o_,oF,oF] [(1,sB in1),(2,.ra 1 0),(5,I a0),(6,I a1),(84,.bool false)] (cq (K96 _ _ a6) K2m (ab (Qdw (enc := AV.bool) (x := .bool a7) a8 (Qe9 a7)) (Qdw (enc := AV.bool) (x := .bool a9) b1 (Qe9 a9)) (ar 4 (neF b2) (ai b2 (ar 5 (nF b3) (cq (K9d _ _ b5) K2o (ab (nF b3) (Qdw (enc := AV.bool) (x := .bool b6) b7 (Qe9 b6)) (ar 4 (nF b3) (ai (Qdw (enc := AV.bool) (x := .bool b8) b9 (Qe9 b8)) (ar 2 (nF b3) (ar 4 (neT c0) (ab (nF b3) c0 (ar 2 (nF b3) (ar 3 (nF c3) (ai (Qdw (enc := AV.bool) (x := .bool c4) c5 (Qe9 c4)) (ar 2 (nF c3) (ar 4 c6 (cq (K9g _ _ c8) K2q (ac (nF c3) c6 (nF c3) (ar 5 (neT c9) (ac (nF c3) c9 (nF c3) tv))))))))))))))))))))) ?_
       obtain rfl := os h
       exact Qde.mk
      refine rgs hc Kd3 [oN,oN,oN,oN,oc (I a5),some (.el (.bool a7)),oN,oN,oN,some (.el (.bool a9)),oN,oN,o_,o_,o_,o_,oT,oN,oN,oN,oN,oN,oN,oc (I b4),some (.el (.bool b6)),oN,oN,oN,some (.el (.bool b8)),oN,oN,o_,o_,o_,o_,oF,oN,oF,oN,oN,oN,some (.el (.bool c4)),oN,oN,o_,o_,o_,o_,oF,oN,o_,o_,o_,o_,o_,oF,oF] [(1,sB in1),(2,.ra 1 0),(5,I a0),(6,I a1),(84,.bool false)] (cq (K96 _ _ a6) K2m (ab (Qdw (enc := AV.bool) (x := .bool a7) a8 (Qe9 a7)) (Qdw (enc := AV.bool) (x := .bool a9) b1 (Qe9 a9)) (ar 4 (neF b2) (ai b2 (ar 5 (nF b3) (cq (K9d _ _ b5) K2o (ab (nF b3) (Qdw (enc := AV.bool) (x := .bool b6) b7 (Qe9 b6)) (ar 4 (nF b3) (ai (Qdw (enc := AV.bool) (x := .bool b8) b9 (Qe9 b8)) (ar 2 (nF b3) (ar 4 (neT c0) (ab (nF b3) c0 (ar 2 (nF b3) (ar 3 (nF c3) (ai (Qdw (enc := AV.bool) (x := .bool c4) c5 (Qe9 c4)) (ar 2 (nF c3) (ar 4 (neT c6) (ac (nF c3) c6 (nF c3) (ar 5 (neT (rfl : false = false)) (ac (nF c3) (rfl : false = false) (nF c3) tv)))))))))))))))))))) ?_
      obtain rfl := os h
      exact Qde.mk
     refine rgs hc Kd3 [oN,oN,oN,oN,oc (I a5),some (.el (.bool a7)),oN,oN,oN,some (.el (.bool a9)),oN,oN,o_,o_,o_,o_,oT,oN,oN,oN,oN,oN,oN,oc (I b4),some (.el (.bool b6)),oN,oN,oN,some (.el (.bool b8)),oN,oN,o_,o_,o_,o_,oF,oN,oF,oN,o_,o_,o_,o_,o_,o_,o_,o_,o_,o_,o_,o_,o_,o_,o_,o_,o_,oT] [(1,sB in1),(2,.ra 1 0),(5,I a0),(6,I a1),(84,.bool true)] (cq (K96 _ _ a6) K2m (ab (Qdw (enc := AV.bool) (x := .bool a7) a8 (Qe9 a7)) (Qdw (enc := AV.bool) (x := .bool a9) b1 (Qe9 a9)) (ar 4 (neF b2) (ai b2 (ar 5 (nF b3) (cq (K9d _ _ b5) K2o (ab (nF b3) (Qdw (enc := AV.bool) (x := .bool b6) b7 (Qe9 b6)) (ar 4 (nF b3) (ai (Qdw (enc := AV.bool) (x := .bool b8) b9 (Qe9 b8)) (ar 2 (nF b3) (ar 4 (neT c0) (ab (nF b3) c0 (ar 2 (nF b3) (ar 8 (neF (nT c3)) (ai (nT c3) tv))))))))))))))) ?_
     obtain rfl := os h
     exact Qde.mk
    refine rgs hc Kd3 [oN,oN,oN,oN,oc (I a5),some (.el (.bool a7)),oN,oN,oN,some (.el (.bool a9)),oN,oN,o_,o_,o_,o_,oT,oN,oN,o_,o_,o_,o_,o_,o_,o_,o_,o_,o_,o_,o_,o_,o_,o_,o_,o_,o_,oT,oN,o_,o_,o_,o_,o_,o_,o_,o_,o_,o_,o_,o_,o_,o_,o_,o_,o_,oT] [(1,sB in1),(2,.ra 1 0),(5,I a0),(6,I a1),(84,.bool true)] (cq (K96 _ _ a6) K2m (ab (Qdw (enc := AV.bool) (x := .bool a7) a8 (Qe9 a7)) (Qdw (enc := AV.bool) (x := .bool a9) b1 (Qe9 a9)) (ar 4 (neF b2) (ai b2 (ar 14 (neF (nT b3)) (ai (nT b3) (ar 8 nf (ai tt tv)))))))) ?_
    obtain rfl := os h
    exact Qde.mk
   obtain ⟨d2,d3,h⟩ := Qds h
   rcases is h with ⟨b3,h⟩ | ⟨b3,h⟩
   ·obtain ⟨b4,b5,b6,b7,b8,b9,h⟩ := bq3 h
    rcases is h with ⟨c0,h⟩ | ⟨c0,h⟩
    ·obtain ⟨c1,c2,h⟩ := Qds h
     rcases is h with ⟨c3,h⟩ | ⟨c3,h⟩
     ·obtain ⟨c4,c5,h⟩ := Qds h
      rcases is h with ⟨c6,h⟩ | ⟨c6,h⟩
      ·obtain ⟨c7,c8,h⟩ := Qds h
       rcases is h with ⟨c9,h⟩ | ⟨c9,h⟩
       ·obtain ⟨d0,d1,h⟩ := Qds h
        refine rgs hc Kd3 [oN,oN,oN,oN,oc (I a5),some (.el (.bool a7)),oN,oN,oN,some (.el (.bool a9)),oN,oN,oN,oN,some (.el (.bool d2)),oN,oF,oN,oN,oN,oN,oN,oN,oc (I b4),some (.el (.bool b6)),oN,oN,oN,some (.el (.bool b8)),oN,oN,oN,oN,some (.el (.bool c1)),oN,oT,oN,oF,oN,oN,oN,some (.el (.bool c4)),oN,oN,oN,oN,oN,oc (.bool c7),oT,oN,oN,oN,some (.el (.bool d0)),oN,oN,oT,oF] [(1,sB in1),(2,.ra 1 0),(5,I a0),(6,I a1),(84,.bool (!d0))] (cq (K96 _ _ a6) K2m (ab (Qdw (enc := AV.bool) (x := .bool a7) a8 (Qe9 a7)) (Qdw (enc := AV.bool) (x := .bool a9) b1 (Qe9 a9)) (ar 3 b2 (ai (Qdw (enc := AV.bool) (x := .bool d2) d3 (Qe9 d2)) (ar 2 b2 (ar 5 (nF b3) (cq (K9d _ _ b5) K2o (ab (nF b3) (Qdw (enc := AV.bool) (x := .bool b6) b7 (Qe9 b6)) (ar 4 (nF b3) (ai (Qdw (enc := AV.bool) (x := .bool b8) b9 (Qe9 b8)) (ar 2 (nF b3) (ar 3 c0 (ad (Qdw (enc := AV.bool) (x := .bool c1) c2 (Qe9 c1)) c0 (nF b3) c0 (ar 2 (nF b3) (ar 3 (nF c3) (ai (Qdw (enc := AV.bool) (x := .bool c4) c5 (Qe9 c4)) (ar 2 (nF c3) (ar 4 c6 (cq (K9g _ _ c8) K2q (ac (nF c3) c6 (nF c3) (ar 3 c9 (ai (Qdw (enc := AV.bool) (x := .bool d0) d1 (Qe9 d0)) (ar 2 c9 (ac (nF c3) c9 (nF c3) tv)))))))))))))))))))))))) ?_
        obtain rfl := os h
        exact Qde.mk
       refine rgs hc Kd3 [oN,oN,oN,oN,oc (I a5),some (.el (.bool a7)),oN,oN,oN,some (.el (.bool a9)),oN,oN,oN,oN,some (.el (.bool d2)),oN,oF,oN,oN,oN,oN,oN,oN,oc (I b4),some (.el (.bool b6)),oN,oN,oN,some (.el (.bool b8)),oN,oN,oN,oN,some (.el (.bool c1)),oN,oT,oN,oF,oN,oN,oN,some (.el (.bool c4)),oN,oN,oN,oN,oN,oc (.bool c7),oT,oN,o_,o_,o_,o_,o_,oF,oF] [(1,sB in1),(2,.ra 1 0),(5,I a0),(6,I a1),(84,.bool false)] (cq (K96 _ _ a6) K2m (ab (Qdw (enc := AV.bool) (x := .bool a7) a8 (Qe9 a7)) (Qdw (enc := AV.bool) (x := .bool a9) b1 (Qe9 a9)) (ar 3 b2 (ai (Qdw (enc := AV.bool) (x := .bool d2) d3 (Qe9 d2)) (ar 2 b2 (ar 5 (nF b3) (cq (K9d _ _ b5) K2o (ab (nF b3) (Qdw (enc := AV.bool) (x := .bool b6) b7 (Qe9 b6)) (ar 4 (nF b3) (ai (Qdw (enc := AV.bool) (x := .bool b8) b9 (Qe9 b8)) (ar 2 (nF b3) (ar 3 c0 (ad (Qdw (enc := AV.bool) (x := .bool c1) c2 (Qe9 c1)) c0 (nF b3) c0 (ar 2 (nF b3) (ar 3 (nF c3) (ai (Qdw (enc := AV.bool) (x := .bool c4) c5 (Qe9 c4)) (ar 2 (nF c3) (ar 4 c6 (cq (K9g _ _ c8) K2q (ac (nF c3) c6 (nF c3) (ar 5 (neT c9) (ac (nF c3) c9 (nF c3) tv)))))))))))))))))))))) ?_
       obtain rfl := os h
       exact Qde.mk
      refine rgs hc Kd3 [oN,oN,oN,oN,oc (I a5),some (.el (.bool a7)),oN,oN,oN,some (.el (.bool a9)),oN,oN,oN,oN,some (.el (.bool d2)),oN,oF,oN,oN,oN,oN,oN,oN,oc (I b4),some (.el (.bool b6)),oN,oN,oN,some (.el (.bool b8)),oN,oN,oN,oN,some (.el (.bool c1)),oN,oT,oN,oF,oN,oN,oN,some (.el (.bool c4)),oN,oN,o_,o_,o_,o_,oF,oN,o_,o_,o_,o_,o_,oF,oF] [(1,sB in1),(2,.ra 1 0),(5,I a0),(6,I a1),(84,.bool false)] (cq (K96 _ _ a6) K2m (ab (Qdw (enc := AV.bool) (x := .bool a7) a8 (Qe9 a7)) (Qdw (enc := AV.bool) (x := .bool a9) b1 (Qe9 a9)) (ar 3 b2 (ai (Qdw (enc := AV.bool) (x := .bool d2) d3 (Qe9 d2)) (ar 2 b2 (ar 5 (nF b3) (cq (K9d _ _ b5) K2o (ab (nF b3) (Qdw (enc := AV.bool) (x := .bool b6) b7 (Qe9 b6)) (ar 4 (nF b3) (ai (Qdw (enc := AV.bool) (x := .bool b8) b9 (Qe9 b8)) (ar 2 (nF b3) (ar 3 c0 (ad (Qdw (enc := AV.bool) (x := .bool c1) c2 (Qe9 c1)) c0 (nF b3) c0 (ar 2 (nF b3) (ar 3 (nF c3) (ai (Qdw (enc := AV.bool) (x := .bool c4) c5 (Qe9 c4)) (ar 2 (nF c3) (ar 4 (neT c6) (ac (nF c3) c6 (nF c3) (ar 5 (neT (rfl : false = false)) (ac (nF c3) (rfl : false = false) (nF c3) tv))))))))))))))))))))) ?_
      obtain rfl := os h
      exact Qde.mk
     refine rgs hc Kd3 [oN,oN,oN,oN,oc (I a5),some (.el (.bool a7)),oN,oN,oN,some (.el (.bool a9)),oN,oN,oN,oN,some (.el (.bool d2)),oN,oF,oN,oN,oN,oN,oN,oN,oc (I b4),some (.el (.bool b6)),oN,oN,oN,some (.el (.bool b8)),oN,oN,oN,oN,some (.el (.bool c1)),oN,oT,oN,oF,oN,o_,o_,o_,o_,o_,o_,o_,o_,o_,o_,o_,o_,o_,o_,o_,o_,o_,oT] [(1,sB in1),(2,.ra 1 0),(5,I a0),(6,I a1),(84,.bool true)] (cq (K96 _ _ a6) K2m (ab (Qdw (enc := AV.bool) (x := .bool a7) a8 (Qe9 a7)) (Qdw (enc := AV.bool) (x := .bool a9) b1 (Qe9 a9)) (ar 3 b2 (ai (Qdw (enc := AV.bool) (x := .bool d2) d3 (Qe9 d2)) (ar 2 b2 (ar 5 (nF b3) (cq (K9d _ _ b5) K2o (ab (nF b3) (Qdw (enc := AV.bool) (x := .bool b6) b7 (Qe9 b6)) (ar 4 (nF b3) (ai (Qdw (enc := AV.bool) (x := .bool b8) b9 (Qe9 b8)) (ar 2 (nF b3) (ar 3 c0 (ad (Qdw (enc := AV.bool) (x := .bool c1) c2 (Qe9 c1)) c0 (nF b3) c0 (ar 2 (nF b3) (ar 8 (neF (nT c3)) (ai (nT c3) tv)))))))))))))))) ?_
     obtain rfl := os h
     exact Qde.mk
    rcases is h with ⟨c3,h⟩ | ⟨c3,h⟩
    ·obtain ⟨c4,c5,h⟩ := Qds h
     rcases is h with ⟨c6,h⟩ | ⟨c6,h⟩
     ·obtain ⟨c7,c8,h⟩ := Qds h
      rcases is h with ⟨c9,h⟩ | ⟨c9,h⟩
      ·obtain ⟨d0,d1,h⟩ := Qds h
       refine rgs hc Kd3 [oN,oN,oN,oN,oc (I a5),some (.el (.bool a7)),oN,oN,oN,some (.el (.bool a9)),oN,oN,oN,oN,some (.el (.bool d2)),oN,oF,oN,oN,oN,oN,oN,oN,oc (I b4),some (.el (.bool b6)),oN,oN,oN,some (.el (.bool b8)),oN,oN,o_,o_,o_,o_,oF,oN,oF,oN,oN,oN,some (.el (.bool c4)),oN,oN,oN,oN,oN,oc (.bool c7),oT,oN,oN,oN,some (.el (.bool d0)),oN,oN,oT,oF] [(1,sB in1),(2,.ra 1 0),(5,I a0),(6,I a1),(84,.bool (!d0))] (cq (K96 _ _ a6) K2m (ab (Qdw (enc := AV.bool) (x := .bool a7) a8 (Qe9 a7)) (Qdw (enc := AV.bool) (x := .bool a9) b1 (Qe9 a9)) (ar 3 b2 (ai (Qdw (enc := AV.bool) (x := .bool d2) d3 (Qe9 d2)) (ar 2 b2 (ar 5 (nF b3) (cq (K9d _ _ b5) K2o (ab (nF b3) (Qdw (enc := AV.bool) (x := .bool b6) b7 (Qe9 b6)) (ar 4 (nF b3) (ai (Qdw (enc := AV.bool) (x := .bool b8) b9 (Qe9 b8)) (ar 2 (nF b3) (ar 4 (neT c0) (ab (nF b3) c0 (ar 2 (nF b3) (ar 3 (nF c3) (ai (Qdw (enc := AV.bool) (x := .bool c4) c5 (Qe9 c4)) (ar 2 (nF c3) (ar 4 c6 (cq (K9g _ _ c8) K2q (ac (nF c3) c6 (nF c3) (ar 3 c9 (ai (Qdw (enc := AV.bool) (x := .bool d0) d1 (Qe9 d0)) (ar 2 c9 (ac (nF c3) c9 (nF c3) tv)))))))))))))))))))))))) ?_
       obtain rfl := os h
       exact Qde.mk
      refine rgs hc Kd3 [oN,oN,oN,oN,oc (I a5),some (.el (.bool a7)),oN,oN,oN,some (.el (.bool a9)),oN,oN,oN,oN,some (.el (.bool d2)),oN,oF,oN,oN,oN,oN,oN,oN,oc (I b4),some (.el (.bool b6)),oN,oN,oN,some (.el (.bool b8)),oN,oN,o_,o_,o_,o_,oF,oN,oF,oN,oN,oN,some (.el (.bool c4)),oN,oN,oN,oN,oN,oc (.bool c7),oT,oN,o_,o_,o_,o_,o_,oF,oF] [(1,sB in1),(2,.ra 1 0),(5,I a0),(6,I a1),(84,.bool false)] (cq (K96 _ _ a6) K2m (ab (Qdw (enc := AV.bool) (x := .bool a7) a8 (Qe9 a7)) (Qdw (enc := AV.bool) (x := .bool a9) b1 (Qe9 a9)) (ar 3 b2 (ai (Qdw (enc := AV.bool) (x := .bool d2) d3 (Qe9 d2)) (ar 2 b2 (ar 5 (nF b3) (cq (K9d _ _ b5) K2o (ab (nF b3) (Qdw (enc := AV.bool) (x := .bool b6) b7 (Qe9 b6)) (ar 4 (nF b3) (ai (Qdw (enc := AV.bool) (x := .bool b8) b9 (Qe9 b8)) (ar 2 (nF b3) (ar 4 (neT c0) (ab (nF b3) c0 (ar 2 (nF b3) (ar 3 (nF c3) (ai (Qdw (enc := AV.bool) (x := .bool c4) c5 (Qe9 c4)) (ar 2 (nF c3) (ar 4 c6 (cq (K9g _ _ c8) K2q (ac (nF c3) c6 (nF c3) (ar 5 (neT c9) (ac (nF c3) c9 (nF c3) tv)))))))))))))))))))))) ?_
      obtain rfl := os h
      exact Qde.mk
     refine rgs hc Kd3 [oN,oN,oN,oN,oc (I a5),some (.el (.bool a7)),oN,oN,oN,some (.el (.bool a9)),oN,oN,oN,oN,some (.el (.bool d2)),oN,oF,oN,oN,oN,oN,oN,oN,oc (I b4),some (.el (.bool b6)),oN,oN,oN,some (.el (.bool b8)),oN,oN,o_,o_,o_,o_,oF,oN,oF,oN,oN,oN,some (.el (.bool c4)),oN,oN,o_,o_,o_,o_,oF,oN,o_,o_,o_,o_,o_,oF,oF] [(1,sB in1),(2,.ra 1 0),(5,I a0),(6,I a1),(84,.bool false)] (cq (K96 _ _ a6) K2m (ab (Qdw (enc := AV.bool) (x := .bool a7) a8 (Qe9 a7)) (Qdw (enc := AV.bool) (x := .bool a9) b1 (Qe9 a9)) (ar 3 b2 (ai (Qdw (enc := AV.bool) (x := .bool d2) d3 (Qe9 d2)) (ar 2 b2 (ar 5 (nF b3) (cq (K9d _ _ b5) K2o (ab (nF b3) (Qdw (enc := AV.bool) (x := .bool b6) b7 (Qe9 b6)) (ar 4 (nF b3) (ai (Qdw (enc := AV.bool) (x := .bool b8) b9 (Qe9 b8)) (ar 2 (nF b3) (ar 4 (neT c0) (ab (nF b3) c0 (ar 2 (nF b3) (ar 3 (nF c3) (ai (Qdw (enc := AV.bool) (x := .bool c4) c5 (Qe9 c4)) (ar 2 (nF c3) (ar 4 (neT c6) (ac (nF c3) c6 (nF c3) (ar 5 (neT (rfl : false = false)) (ac (nF c3) (rfl : false = false) (nF c3) tv))))))))))))))))))))) ?_
     obtain rfl := os h
     exact Qde.mk
    refine rgs hc Kd3 [oN,oN,oN,oN,oc (I a5),some (.el (.bool a7)),oN,oN,oN,some (.el (.bool a9)),oN,oN,oN,oN,some (.el (.bool d2)),oN,oF,oN,oN,oN,oN,oN,oN,oc (I b4),some (.el (.bool b6)),oN,oN,oN,some (.el (.bool b8)),oN,oN,o_,o_,o_,o_,oF,oN,oF,oN,o_,o_,o_,o_,o_,o_,o_,o_,o_,o_,o_,o_,o_,o_,o_,o_,o_,oT] [(1,sB in1),(2,.ra 1 0),(5,I a0),(6,I a1),(84,.bool true)] (cq (K96 _ _ a6) K2m (ab (Qdw (enc := AV.bool) (x := .bool a7) a8 (Qe9 a7)) (Qdw (enc := AV.bool) (x := .bool a9) b1 (Qe9 a9)) (ar 3 b2 (ai (Qdw (enc := AV.bool) (x := .bool d2) d3 (Qe9 d2)) (ar 2 b2 (ar 5 (nF b3) (cq (K9d _ _ b5) K2o (ab (nF b3) (Qdw (enc := AV.bool) (x := .bool b6) b7 (Qe9 b6)) (ar 4 (nF b3) (ai (Qdw (enc := AV.bool) (x := .bool b8) b9 (Qe9 b8)) (ar 2 (nF b3) (ar 4 (neT c0) (ab (nF b3) c0 (ar 2 (nF b3) (ar 8 (neF (nT c3)) (ai (nT c3) tv)))))))))))))))) ?_
    obtain rfl := os h
    exact Qde.mk
   refine rgs hc Kd3 [oN,oN,oN,oN,oc (I a5),some (.el (.bool a7)),oN,oN,oN,some (.el (.bool a9)),oN,oN,oN,oN,some (.el (.bool d2)),oN,oF,oN,oN,o_,o_,o_,o_,o_,o_,o_,o_,o_,o_,o_,o_,o_,o_,o_,o_,o_,o_,oT,oN,o_,o_,o_,o_,o_,o_,o_,o_,o_,o_,o_,o_,o_,o_,o_,o_,o_,oT] [(1,sB in1),(2,.ra 1 0),(5,I a0),(6,I a1),(84,.bool true)] (cq (K96 _ _ a6) K2m (ab (Qdw (enc := AV.bool) (x := .bool a7) a8 (Qe9 a7)) (Qdw (enc := AV.bool) (x := .bool a9) b1 (Qe9 a9)) (ar 3 b2 (ai (Qdw (enc := AV.bool) (x := .bool d2) d3 (Qe9 d2)) (ar 2 b2 (ar 14 (neF (nT b3)) (ai (nT b3) (ar 8 nf (ai tt tv))))))))) ?_
   obtain rfl := os h
   exact Qde.mk
  clear a4
  refine ic h (fun d4 h => ?_) fun d4 h => ?_
  ·refine rs0 hc 1 [(4,.bool false)] [] ?_
   refine rt ?_
   obtain rfl := os h
   exact re [true]
  refine sk ?_
  refine K7d hc 3 [(1,sB in1),(2,.ra 1 0),(5,I a0),(6,I (wr (a1 + 1)))] ?_
  refine Qda ?_
  exact (spec_l1View_l0_ih _ _ h c hc)
 refine xt 2 ?_
 refine Qd4 ?_
 refine Qdb ?_
 obtain rfl := os h
 exact iv []
def Kd7 : Option (List (List Nat)) := rx [[0],[1],[2],[3],[3],[5],[6],[3],[3],[3,8],[3,7,8,9],[3,7,8,9,10],[12],[13]]
def Kd8 (c : Ctx) : (Unit) ⊕ (Bool) → Exit → Q0a → Prop
 | .inl _ => Qde c (.exit 0) (mkS [] [])
 | .inr r => Qdn TIx Tryz.f177 [] (.bool r)
def Kd9 (p : K00 × (List Bool) × Int) : Option ((Unit) ⊕ (Bool)) :=
 match p with
 | (s0,in1,a0) =>
  if (decide (a0 < s0.fSize)) = true then
  (Kd4 (s0,in1,a0,0)) >>= fun fl => match fl with
  | .inl () =>
   Kd9 (s0,in1,(wr (a0 + 1)))
  | .inr r =>
   some (.inr r)
  else
  some (.inl ())
 partial_fixpoint
def Kda (p : K00 × (List Bool) × Int) (fl : (Unit) ⊕ (Bool)) : Prop :=
 match p with
 | (s0,in1,a0) => ∀ c : Ctx,c.nt = 85 → WpL Tryz.prog c (cl (cl (cr (cl (cr (cr K45)))))) (Kd8 c fl) (mkS [(1,sB in1),(2,.ra 1 0),(5,I a0)] [(1,K19 s0)])
theorem Kdb : ∀ p r,Kd9 p = some r → Kda p r := by
 refine Kd9.partial_correctness Kda ?_
 rintro spec_l1View_l1_f spec_l1View_l1_ih ⟨s0,in1,a0⟩ r h
 intro c hc
 refine WpL.step ?_
 refine sN ?_
 refine K7e hc 4 [(1,sB in1),(2,.ra 1 0),(5,I a0),(19,.bool (decide (a0 < s0.fSize)))] ?_
 refine ic h (fun a1 h => ?_) fun a1 h => ?_
 ·refine sk ?_
  refine sN ?_
  refine bk 1 ?_
  refine K7e hc 1 [(1,sB in1),(2,.ra 1 0),(5,I a0),(6,I 0)] ?_
  refine bk 2 ?_
  obtain ⟨fl,a2,h⟩ := Qds h
  have hL := Kd6 _ _ a2 c hc
  refine lp ?_
  rcases fl with ⟨⟩ | r
  ·refine WpL.into (e := (.exit 2)) (mkS [(1,sB in1),(2,.ra 1 0),(5,I a0)] [(1,K19 s0)]) hL ?_
   refine Qd6 ?_
   refine K7d hc 3 [(1,sB in1),(2,.ra 1 0),(5,I (wr (a0 + 1)))] ?_
   refine Qda ?_
   exact (spec_l1View_l1_ih _ _ h c hc)
  refine WpL.mono hL ?_
  rintro _ _ ⟨rfl,hfin⟩
  obtain rfl := os h
  exact ⟨rfl,hfin⟩
 refine xt 0 ?_
 refine Qd4 ?_
 refine Qdb ?_
 obtain rfl := os h
 exact iv []
def Kdc (p : K00 × (List Bool)) : Option (Bool) :=
 match p with
 | (s0,in1) =>
  ((
  (idx in1 0) >>= fun a0 =>
  if a0 = true then
   some (true)
  else
   (idx in1 1) >>= fun a1 =>
   some ((!a1))
  ) : Option (Bool)) >>= fun a2 =>
  if a2 = true then
  some false
  else
  (Kd9 (s0,in1,0)) >>= fun fl => match fl with
  | .inl () =>
   some true
  | .inr r =>
   some r
def Kdd (p : K00 × (List Bool)) (r : Bool) : Prop :=
 match p with
 | (s0,in1) => Q75 Tryz.prog 177 [K1a s0,sB in1] (.bool r) []
theorem Kde : ∀ p r,Kdc p = some r → Kdd p r := by
 rintro ⟨s0,in1⟩ r h
 unfold Kdc at h
 refine b0 Tryz.f177 K45 85 [(0,K1a s0),(1,sB in1)] fun c hc => ?_
 refine rs hc none [some (.new 1),oN] [(1,sB in1),(2,.ra 1 0)] [(1,K19 s0)] tv ?_
 refine sN ?_
 refine sN ?_
 obtain ⟨a0,a1,h⟩ := Qds h
 refine Wp.into (x := .normal) (mkS [(1,sB in1),(2,.ra 1 0),(15,.bool a0)] [(1,K19 s0)]) ?_ ?_
 ·replace h := a1
  obtain ⟨a2,a3,h⟩ := Qds h
  rcases is h with ⟨a4,h⟩ | ⟨a4,h⟩
  ·refine rgs hc none [oN,some (.el (.bool a2)),oN,oN,o_,o_,o_,o_,oT] [(1,sB in1),(2,.ra 1 0),(15,.bool true)] (ai (Qdw (enc := AV.bool) (x := .bool a2) a3 (Qe9 a2)) (ar 4 (neF a4) (ai a4 tv))) ?_
   obtain rfl := os h
   exact Qde.mk
  obtain ⟨a5,a6,h⟩ := Qds h
  refine rgs hc none [oN,some (.el (.bool a2)),oN,oN,oN,some (.el (.bool a5)),oN,oN,oF] [(1,sB in1),(2,.ra 1 0),(15,.bool (!a5))] (ai (Qdw (enc := AV.bool) (x := .bool a2) a3 (Qe9 a2)) (ar 2 a4 (ai (Qdw (enc := AV.bool) (x := .bool a5) a6 (Qe9 a5)) (ar 3 a4 tv)))) ?_
  obtain rfl := os h
  exact Qde.mk
 clear a1
 refine ic h (fun a7 h => ?_) fun a7 h => ?_
 ·refine rs0 hc 1 [(4,.bool false)] [] ?_
  refine rt ?_
  obtain rfl := os h
  exact rq [true]
 refine sk ?_
 refine sN ?_
 refine K7e hc 1 [(1,sB in1),(2,.ra 1 0),(5,I 0)] ?_
 refine bk 0 ?_
 obtain ⟨fl,a8,h⟩ := Qds h
 have hL := Kdb _ _ a8 c hc
 refine lp ?_
 rcases fl with ⟨⟩ | r
 ·refine WpL.into (e := (.exit 0)) (mkS [] []) hL ?_
  refine Qd6 ?_
  refine rs0 hc 1 [(4,.bool true)] [] ?_
  refine rt ?_
  obtain rfl := os h
  exact rq [true]
 refine WpL.mono hL ?_
 rintro _ _ ⟨rfl,hfin⟩
 obtain rfl := os h
 exact ⟨.inl rfl,hfin⟩
def Kdf (c : Ctx) : (List Int) → Exit → Q0a → Prop
 | a0 => Qde c (.exit 0) (mkS [(7,.rs 2)] [(2,rI a0)])
def Kdg (c : Ctx) : LL → Exit → Q0a → Prop
 | a0 => Qde c (.exit 2) (mkS [(9,.rs 8)] [(8,.arr (List.map K0j a0))])
def Kdh (p : K00 × (List Bool) × (List Int) × Int) : Option ((List Int)) :=
 match p with
 | (s0,in1,a0,a1) =>
  if (decide (a1 < s0.fSize)) = true then
  (idx in1 a1) >>= fun a2 =>
  ((
  if a2 = true then
  (Qe5 (a0.length + [a1].length) 8) >>= fun _ =>
  some ((a0 ++ [a1]))
  else
  some (a0)
  ) : Option ((List Int))) >>= fun a3 =>
  Kdh (s0,in1,a3,(wr (a1 + 1)))
  else
  some (a0)
 partial_fixpoint
def Kdi (p : K00 × (List Bool) × (List Int) × Int) (fl : (List Int)) : Prop :=
 match p with
 | (s0,in1,a0,a1) => ∀ c : Ctx,c.nt = 58 → WpL Tryz.prog c (cl (cl (cr (cl (cr (cr (cl (cr (cl (cr K47)))))))))) (Kdf c fl) (mkS [(1,sB in1),(3,.ra 1 0),(7,.rs 2),(8,I a1)] [(1,K19 s0),(2,rI a0)])
theorem Kdj : ∀ p r,Kdh p = some r → Kdi p r := by
 refine Kdh.partial_correctness Kdi ?_
 rintro spec_l1Views_l0_f spec_l1Views_l0_ih ⟨s0,in1,a0,a1⟩ r h
 intro c hc
 refine WpL.step ?_
 refine sN ?_
 refine K7e hc 4 [(1,sB in1),(3,.ra 1 0),(7,.rs 2),(8,I a1),(24,.bool (decide (a1 < s0.fSize)))] ?_
 refine ic h (fun a2 h => ?_) fun a2 h => ?_
 ·refine sk ?_
  refine sN ?_
  refine bk 1 ?_
  obtain ⟨a3,a4,h⟩ := Qds h
  refine rss hc none [oN,oN,some (.el (.bool a3)),oN] [(1,sB in1),(3,.ra 1 0),(7,.rs 2),(8,I a1),(30,.bool a3)] (ai (Qdw (enc := AV.bool) (x := .bool a3) a4 (Qe9 a3)) tv) ?_
  obtain ⟨a5,a6,h⟩ := Qds h
  refine Wp.into (x := .normal) (mkS [(1,sB in1),(3,.ra 1 0),(7,.rs 6),(8,I a1)] [(1,K19 s0),(6,rI a5)]) ?_ ?_
  ·replace h := a6
   refine ic h (fun a7 h => ?_) fun a7 h => ?_
   ·obtain ⟨_,a8,h⟩ := Qds h
    refine rg hc none [oN,oN,some (.mk 5 true),some (.eqv (.mk 6 true) ⟨[(34,.rs 6)],[(6,some (rI (a0 ++ [a1]))),(2,none),(5,none)],[6]⟩),oN] [(1,sB in1),(3,.ra 1 0),(7,.rs 6),(8,I a1)] [(1,K19 s0),(6,rI (a0 ++ [a1]))] (ab (congrArg (fun z => (⟨[(34,.rs 6)],[(6,some (.arr z)),(2,none),(5,none)],[6]⟩ : Wr)) ((List.map_append).symm : (List.map I a0) ++ (List.map I [a1]) = List.map I (a0 ++ [a1]))) (Qe6 (enc1 := I) (enc2 := I) (e1 := a0) (e2 := [a1]) (sz := 1) Qef Qef a8) tv) ?_
    obtain rfl := os h
    exact Qde.mk
   refine sk ?_
   obtain rfl := os h
   exact iv [(6,2)]
  clear a6
  refine K7d hc 3 [(1,sB in1),(3,.ra 1 0),(7,.rs 6),(8,I (wr (a1 + 1)))] ?_
  refine Qda ?_
  exact WpL.view (fun a w hv => SRx.renL [(2,6)] hv (by kernel_rfl) (by kernel_rfl) (by kernel_rfl)) (spec_l1Views_l0_ih _ _ h c hc)
 refine xt 0 ?_
 refine Qd4 ?_
 refine Qdb ?_
 obtain rfl := os h
 exact iv []
mutual
def Kdk (p : K00 × (List Bool) × Int) : Option (LL) :=
 match p with
 | (s0,in1,g2) =>
  if (g2 == s0.fSize) = true then
  (Kdc (s0,in1)) >>= fun a0 =>
  if a0 = true then
  (Kdh (s0,in1,[],0)) >>= fun a1 =>
  some [a1]
  else
  some []
  else
  (Kdl (s0,in1,g2,[],0)) >>= fun a2 =>
  some a2
 partial_fixpoint
def Kdl (p : K00 × (List Bool) × Int × LL × Int) : Option (LL) :=
 match p with
 | (s0,in1,g2,a0,a1) =>
  if (decide (a1 < 2)) = true then
  (Qe5 (([] : List Bool).length + in1.length) 1) >>= fun _ =>
  (idx in1 g2) >>= fun a2 =>
  (Kdk (s0,(List.set in1 (Int.toNat g2) (a1 == 0)),(wr (g2 + 1)))) >>= fun a3 =>
  (Qe5 (a0.length + a3.length) 24) >>= fun _ =>
  Kdl (s0,in1,g2,(a0 ++ a3),(wr (a1 + 1)))
  else
  some (a0)
 partial_fixpoint
end
def Kdm (p : K00 × (List Bool) × Int) (r : LL) : Prop :=
 match p with
 | (s0,in1,g2) => Q75 Tryz.prog 223 [K1a s0,sB in1,I g2] (.osl (List.map K0j r)) []
def Kdn (p : K00 × (List Bool) × Int × LL × Int) (fl : LL) : Prop :=
 match p with
 | (s0,in1,g2,a0,a1) => ∀ c : Ctx,c.nt = 58 → WpL Tryz.prog c (cl (cl (cr (cl (cr (cr (cr K47))))))) (Kdg c fl) (mkS [(1,sB in1),(2,I g2),(3,.ra 1 0),(9,.rs 8),(10,I a1)] [(1,K19 s0),(8,.arr (List.map K0j a0))])
theorem Kdo : (∀ p r,Kdk p = some r → Kdm p r) ∧ (∀ p r,Kdl p = some r → Kdn p r) := by
 refine Kdk.mutual_partial_correctness Kdm Kdn ?_ ?_
 ·rintro spec_l1Views_l1_f spec_l1Views_l1_ih ⟨s0,in1,g2⟩ r h
  refine b0 Tryz.f223 K47 58 [(0,K1a s0),(1,sB in1),(2,I g2)] fun c hc => ?_
  refine rs hc none [some (.new 1),oN] [(1,sB in1),(2,I g2),(3,.ra 1 0)] [(1,K19 s0)] tv ?_
  refine sN ?_
  refine K7e hc 4 [(1,sB in1),(2,I g2),(3,.ra 1 0),(15,.bool (g2 == s0.fSize))] ?_
  refine ic h (fun a0 h => ?_) fun a0 h => ?_
  ·refine sN ?_
   obtain ⟨a1,a2,h⟩ := Qds h
   refine rss hc none [oN,oN,oc (.bool a1),oN] [(1,sB in1),(3,.ra 1 0),(19,.bool (!a1))] (cq (Kde _ _ a2) K46 tv) ?_
   rcases is h with ⟨a3,h⟩ | ⟨a3,h⟩
   ·refine cF (!a1) (nF a3) ?_
    refine sk ?_
    refine rs hc none [some (.mk 2 true),oN] [(1,sB in1),(3,.ra 1 0),(7,.rs 2)] [(1,K19 s0),(2,.arr (List.map I []))] tv ?_
    refine sN ?_
    refine K7e hc 1 [(1,sB in1),(3,.ra 1 0),(7,.rs 2),(8,I 0)] ?_
    refine bk 0 ?_
    obtain ⟨a4,a5,h⟩ := Qds h
    have hL := Kdj _ _ a5 c hc
    refine lp ?_
    refine WpL.into (e := (.exit 0)) (mkS [(7,.rs 2)] [(2,rI a4)]) hL ?_
    refine Qd6 ?_
    refine rs hc none [oN,some (.mk 7 true),oN] [(6,.rs 7)] [(7,.arr (List.map K0j [a4]))] tv ?_
    refine rt ?_
    obtain rfl := os h
    exact rq [true]
   refine cT (!a1) (nT a3) ?_
   refine rs0 hc 1 [(6,.nils)] [] ?_
   refine rt ?_
   obtain rfl := os h
   exact rq [true]
  refine sk ?_
  refine rs hc none [some (.mk 8 true),oN] [(1,sB in1),(2,I g2),(3,.ra 1 0),(9,.rs 8)] [(1,K19 s0),(8,.arr (List.map K0j []))] tv ?_
  refine sN ?_
  refine K7e hc 1 [(1,sB in1),(2,I g2),(3,.ra 1 0),(9,.rs 8),(10,I 0)] ?_
  refine bk 2 ?_
  obtain ⟨a6,a7,h⟩ := Qds h
  have hL := spec_l1Views_l1_ih _ _ a7 c hc
  refine lp ?_
  refine WpL.into (e := (.exit 2)) (mkS [(9,.rs 8)] [(8,.arr (List.map K0j a6))]) hL ?_
  refine Qd6 ?_
  refine K7e hc 2 [(6,.rs 8)] ?_
  refine rt ?_
  obtain rfl := os h
  exact rq [true]
 ·rintro spec_l1Views_f spec_l1Views_l1_f spec_l1Views_ih spec_l1Views_l1_ih ⟨s0,in1,g2,a8,a9⟩ r h
  intro c hc
  refine WpL.step ?_
  refine sN ?_
  refine K7e hc 2 [(1,sB in1),(2,I g2),(3,.ra 1 0),(9,.rs 8),(10,I a9),(39,.bool (decide (a9 < 2)))] ?_
  refine ic h (fun b1 h => ?_) fun b1 h => ?_
  ·refine sk ?_
   refine sN ?_
   refine bk 3 ?_
   obtain ⟨_,b2,h⟩ := Qds h
   refine rs hc none [some (.mk 13 true),oN,some (.eqv (.mk 14 true) ⟨[(44,.rs 14)],[(14,some (.arr (List.map AV.bool in1))),(13,none)],[14]⟩),oN] [(1,sB in1),(2,I g2),(3,.ra 1 0),(9,.rs 8),(10,I a9),(11,.rs 14)] [(1,K19 s0),(8,.arr (List.map K0j a8)),(14,.arr (List.map AV.bool in1))] (ab (congrArg (fun z => (⟨[(44,.rs 14)],[(14,some (.arr z)),(13,none)],[14]⟩ : Wr)) (List.nil_append _ : [] ++ (List.map AV.bool in1) = List.map AV.bool in1)) (Qe6 (enc1 := AV.bool) (enc2 := AV.bool) (e1 := []) (e2 := in1) (sz := 1) Qeh Qeh b2) tv) ?_
   obtain ⟨b3,b4,h⟩ := Qds h
   refine rs hc none [oN,oN,oN,oN,oN,some (.eqv (.mk 0 true) ⟨[],[(14,some (.arr (List.map AV.bool (List.set in1 (Int.toNat g2) (a9 == 0)))))],[]⟩)] [(1,sB in1),(2,I g2),(3,.ra 1 0),(9,.rs 8),(10,I a9),(11,.rs 14)] [(1,K19 s0),(8,.arr (List.map K0j a8)),(14,.arr (List.map AV.bool (List.set in1 (Int.toNat g2) (a9 == 0))))] (ac (Qdx (enc := AV.bool) b4) (congrArg (fun z => (⟨[],[(14,some (.arr z))],[]⟩ : Wr)) (Qev (enc := AV.bool) (i := Int.toNat g2) (l := in1) (v := (a9 == 0)) (x := AV.bool (a9 == 0)) (Qe9 (a9 == 0)))) (Qew (enc := AV.bool) (sz := 1) Qed b4) tv) ?_
   obtain ⟨b5,b6,_,b7,h⟩ := bq2 h
   refine rg hc none [oN,oN,oN,oN,oN,some (.call (.osl (List.map K0j b5)) [] 15),some (.eqv (.mk 16 true) ⟨[(56,.rs 16)],[(16,some (.arr (List.map K0j (a8 ++ b5)))),(8,none),(15,none)],[16]⟩),oN] [(1,sB in1),(2,I g2),(3,.ra 1 0),(9,.rs 16),(10,I a9)] [(1,K19 s0),(16,.arr (List.map K0j (a8 ++ b5)))] (ad (Q75.args (A1 := [K1a s0,.sl (Q02 (List.map AV.bool (List.set in1 (Int.toNat g2) (a9 == 0)))),I (wr (g2 + 1))]) (A2 := [K1a s0,.sl (List.map AV.bool (List.set in1 (Int.toNat g2) (a9 == 0))),I (wr (g2 + 1))]) (by simp only [List.map_nil,Qem]) (spec_l1Views_ih _ _ b6)) K48 (Or.inr (Qes K0t b5) : ([14] : List Nat) = [] ∨ noSh (.osl (List.map K0j b5)) = true) (congrArg (fun z => (⟨[(56,.rs 16)],[(16,some (.arr z)),(8,none),(15,none)],[16]⟩ : Wr)) ((List.map_append).symm : (List.map K0j a8) ++ (List.map K0j b5) = List.map K0j (a8 ++ b5))) (ai (Qe6 (enc1 := K0j) (enc2 := K0j) (e1 := a8) (e2 := b5) (sz := 1) K0m K0m b7) tv)) ?_
   refine K7d hc 3 [(1,sB in1),(2,I g2),(3,.ra 1 0),(9,.rs 16),(10,I (wr (a9 + 1)))] ?_
   refine Qda ?_
   exact WpL.view (fun a w hv => SRx.renL [(8,16)] hv (by kernel_rfl) (by kernel_rfl) (by kernel_rfl)) (spec_l1Views_l1_ih _ _ h c hc)
  refine xt 2 ?_
  refine Qd4 ?_
  refine Qdb ?_
  obtain rfl := os h
  exact iv []
theorem Kdp : ∀ p r,Kdk p = some r → Kdm p r := Kdo.1
theorem Kdq : ∀ p r,Kdl p = some r → Kdn p r := Kdo.2
def Kdr (c : Ctx) (a0 : List Int) (b1 : List Int) : (Unit) ⊕ (Bool) → Exit → Q0a → Prop
 | .inl _ => Qde c (.exit 0) (mkS [(0,sI a0),(1,sI b1)] [])
 | .inr r => Qdn TIx Tryz.f224 [] (.bool r)
def Kds (p : (List Int) × (List Int) × Int) : Option ((Unit) ⊕ (Bool)) :=
 match p with
 | (a0,b1,a1) =>
  ((
  if (decide (a1 < (a0.length : Int))) = true then
  some ((decide (a1 < (b1.length : Int))))
  else
  some (false)
  ) : Option (Bool)) >>= fun a2 =>
  if a2 = true then
  (idx a0 a1) >>= fun a3 =>
  (idx b1 a1) >>= fun a4 =>
  if (a3 != a4) = true then
  (idx a0 a1) >>= fun a5 =>
  (idx b1 a1) >>= fun a6 =>
  some (.inr (decide (a5 < a6)))
  else
  Kds (a0,b1,(wr (a1 + 1)))
  else
  some (.inl ())
 partial_fixpoint
def Kdt (p : (List Int) × (List Int) × Int) (fl : (Unit) ⊕ (Bool)) : Prop :=
 match p with
 | (a0,b1,a1) => ∀ c : Ctx,c.nt = 41 → WpL Tryz.prog c (cl (cl (cr (cl (cr K49))))) (Kdr c a0 b1 fl) (mkS [(0,sI a0),(1,sI b1),(5,I a1)] [])
theorem Kdu : ∀ p r,Kds p = some r → Kdt p r := by
 refine Kds.partial_correctness Kdt ?_
 rintro spec_l1Less_l0_f spec_l1Less_l0_ih ⟨a0,b1,a1⟩ r h
 intro c hc
 refine WpL.step ?_
 refine sN ?_
 refine sN ?_
 obtain ⟨a2,a3,h⟩ := Qds h
 refine Wp.into (x := .normal) (mkS [(0,sI a0),(1,sI b1),(5,I a1),(15,.bool a2)] []) ?_ ?_
 ·replace h := a3
  rcases is h with ⟨a4,h⟩ | ⟨a4,h⟩
  ·refine rg hc none [oN,oN,some (.eqv (.no) ⟨[(8,I (a0.length : Int))],[],[]⟩),oN,oN,oN,oN,some (.eqv (.no) ⟨[(13,I (b1.length : Int))],[],[]⟩),oN,oT] [(0,sI a0),(1,sI b1),(5,I a1),(15,.bool (decide (a1 < (b1.length : Int))))] [] (ai (Qdy (d := 8) I a0) (ar 3 a4 (ai (Qdy (d := 13) I b1) (ar 2 a4 tv)))) ?_
   obtain rfl := os h
   exact Qde.mk
  refine rg hc none [oN,oN,some (.eqv (.no) ⟨[(8,I (a0.length : Int))],[],[]⟩),oN,oN,o_,o_,o_,o_,oF] [(0,sI a0),(1,sI b1),(5,I a1),(15,.bool false)] [] (ai (Qdy (d := 8) I a0) (ar 4 (neT a4) (ai a4 tv))) ?_
  obtain rfl := os h
  exact Qde.mk
 clear a3
 refine ic h (fun a5 h => ?_) fun a5 h => ?_
 ·refine sk ?_
  refine sN ?_
  refine bk 1 ?_
  obtain ⟨a6,a7,a8,a9,h⟩ := bq2 h
  refine rs hc (rx [[0],[0],[2],[3],[0],[0],[0,4,5],[0,4,5,6],[8]]) [oN,oN,some (.el (I a6)),oN,oN,oN,some (.el (I a8)),oN,oN] [(0,sI a0),(1,sI b1),(5,I a1),(26,.bool (a6 != a8))] [] (ab (ix a7) (ix a9) tv) ?_
  refine ic h (fun b2 h => ?_) fun b2 h => ?_
  ·obtain ⟨b3,b4,b5,b6,h⟩ := bq2 h
   refine rs hc (rx [[0],[0],[2],[3],[0],[0],[0,4,5],[0,4,5,6],[8],[9]]) [oN,oN,some (.el (I b3)),oN,oN,oN,some (.el (I b5)),oN,oN,oN] [(4,.bool (decide (b3 < b5)))] [] (ab (ix b4) (ix b6) tv) ?_
   refine rt ?_
   obtain rfl := os h
   exact re [true]
  refine sk ?_
  refine rg0 hc 3 [(0,sI a0),(1,sI b1),(5,I (wr (a1 + 1)))] [] ?_
  refine Qda ?_
  exact (spec_l1Less_l0_ih _ _ h c hc)
 refine xt 0 ?_
 refine Qd4 ?_
 refine Qdb ?_
 obtain rfl := os h
 exact iv []
def Kdv (p : (List Int) × (List Int)) : Option (Bool) :=
 match p with
 | (a0,b1) =>
  (Kds (a0,b1,0)) >>= fun fl => match fl with
  | .inl () =>
   some (decide ((a0.length : Int) < (b1.length : Int)))
  | .inr r =>
   some r
def Kdw (p : (List Int) × (List Int)) (r : Bool) : Prop :=
 match p with
 | (a0,b1) => Q75 Tryz.prog 224 [sI a0,sI b1] (.bool r) []
theorem Kdx : ∀ p r,Kdv p = some r → Kdw p r := by
 rintro ⟨a0,b1⟩ r h
 unfold Kdv at h
 refine b0 Tryz.f224 K49 41 [(0,sI a0),(1,sI b1)] fun c hc => ?_
 refine rs0 hc 1 [(0,sI a0),(1,sI b1)] [] ?_
 refine sN ?_
 refine rs0 hc 1 [(0,sI a0),(1,sI b1),(5,I 0)] [] ?_
 refine bk 0 ?_
 obtain ⟨fl,a1,h⟩ := Qds h
 have hL := Kdu _ _ a1 c hc
 refine lp ?_
 rcases fl with ⟨⟩ | r
 ·refine WpL.into (e := (.exit 0)) (mkS [(0,sI a0),(1,sI b1)] []) hL ?_
  refine Qd6 ?_
  refine rs hc none [oN,some (.eqv (.no) ⟨[(37,I (a0.length : Int))],[],[]⟩),oN,some (.eqv (.no) ⟨[(39,I (b1.length : Int))],[],[]⟩),oN,oN] [(4,.bool (decide ((a0.length : Int) < (b1.length : Int))))] [] (ab (Qdy (d := 37) I a0) (Qdy (d := 39) I b1) tv) ?_
  refine rt ?_
  obtain rfl := os h
  exact rq [true]
 refine WpL.mono hL ?_
 rintro _ _ ⟨rfl,hfin⟩
 obtain rfl := os h
 exact ⟨.inl rfl,hfin⟩
def Kdy (c : Ctx) (a0 : LL) (a1 : LL) (a2 : Int) : Int → Exit → Q0a → Prop
 | a3 => Qde c (.exit 2) (mkS [(4,sL a0),(5,.rs 3),(6,I a2),(7,I a3)] [(3,.arr (List.map K0n a1))])
def Kdz (p : LL × LL × Int × Int) : Option (Int) :=
 match p with
 | (a0,a1,a2,a3) =>
  ((
  if (decide (a3 > 0)) = true then
  (idx a0 a2) >>= fun a4 =>
  (idx a1 (wr (a3 - 1))) >>= fun a5 =>
  (Kdv (a4,a5)) >>= fun a6 =>
  some (a6)
  else
  some (false)
  ) : Option (Bool)) >>= fun a7 =>
  if a7 = true then
  Kdz (a0,a1,a2,(wr (a3 - 1)))
  else
  some (a3)
 partial_fixpoint
def Ke0 (p : LL × LL × Int × Int) (fl : Int) : Prop :=
 match p with
 | (a0,a1,a2,a3) => ∀ c : Ctx,c.nt = 63 → WpL Tryz.prog c (cl (cl (cl (cr (cl (cl (cr (cl (cl (cr (cl (cr (cr (cr (cr (cr (cr K4b))))))))))))))))) (Kdy c a0 a1 a2 fl) (mkS [(4,sL a0),(5,.rs 3),(6,I a2),(7,I a3)] [(3,.arr (List.map K0n a1))])
theorem Ke1 : ∀ p r,Kdz p = some r → Ke0 p r := by
 refine Kdz.partial_correctness Ke0 ?_
 rintro spec_ViewsOf_l0_f spec_ViewsOf_l0_ih ⟨a0,a1,a2,a3⟩ r h
 intro c hc
 refine WpL.step ?_
 refine sN ?_
 refine sN ?_
 obtain ⟨a4,a5,h⟩ := Qds h
 refine Wp.into (x := .normal) (mkS [(4,sL a0),(5,.rs 3),(6,I a2),(7,I a3),(41,.bool a4)] [(3,.arr (List.map K0n a1))]) ?_ ?_
 ·replace h := a5
  rcases is h with ⟨a6,h⟩ | ⟨a6,h⟩
  ·obtain ⟨a7,a8,a9,b1,b2,b3,h⟩ := bq3 h
   refine rgs hc Kd7 [oN,oN,oN,oN,oN,some (.el (sI a7)),oN,oN,oN,oN,oN,some (.el (sI a9)),oc (.bool b2),oT] [(4,sL a0),(5,.rs 3),(6,I a2),(7,I a3),(41,.bool b2)] (ar 3 a6 (ai (xL a8) (ar 5 a6 (ad (Qdx (enc := K0n) b1) a6 (xL b1).2 a6 (cq (Kdx _ _ b3) K4a (ai a6 tv)))))) ?_
   obtain rfl := os h
   exact Qde.mk
  refine rgs hc Kd7 [oN,oN,oN,o_,o_,o_,o_,o_,o_,o_,o_,o_,o_,oF] [(4,sL a0),(5,.rs 3),(6,I a2),(7,I a3),(41,.bool false)] (ar 10 (neT a6) (ai a6 tv)) ?_
  obtain rfl := os h
  exact Qde.mk
 clear a5
 refine ic h (fun b4 h => ?_) fun b4 h => ?_
 ·refine sk ?_
  refine bk 3 ?_
  refine K7d hc 3 [(4,sL a0),(5,.rs 3),(6,I a2),(7,I (wr (a3 - 1)))] ?_
  refine Qda ?_
  exact (spec_ViewsOf_l0_ih _ _ h c hc)
 refine xt 2 ?_
 refine Qd4 ?_
 refine Qdb ?_
 obtain rfl := os h
 exact iv []
def Ke2 (c : Ctx) : LL → Exit → Q0a → Prop
 | a0 => Qde c (.exit 0) (mkS [(5,.rs 3)] [(3,.arr (List.map K0n a0))])
def Ke3 (p : LL × LL × Int) : Option (LL) :=
 match p with
 | (a0,a1,a2) =>
  if (decide (a2 < (a0.length : Int))) = true then
  (Kdz (a0,a1,a2,(a1.length : Int))) >>= fun a3 =>
  (Qe5 (a1.length + ([[]] : LL).length) 24) >>= fun _ =>
  (chk (0 < (a1 ++ ([[]] : LL)).length ∧ 0 ≤ (wr (a3 + 1)) ∧ (wr (a3 + 1)) ≤ ((a1 ++ ([[]] : LL)).length : Int))) >>= fun _ =>
  (chk (0 < (a1 ++ ([[]] : LL)).length ∧ 0 ≤ a3 ∧ a3 ≤ ((a1 ++ ([[]] : LL)).length : Int))) >>= fun _ =>
  (idx a0 a2) >>= fun a4 =>
  (idx (cpy (a1 ++ ([[]] : LL)) (Int.toNat (wr (a3 + 1))) (Int.toNat a3)) a3) >>= fun a5 =>
  Ke3 (a0,(List.set (cpy (a1 ++ ([[]] : LL)) (Int.toNat (wr (a3 + 1))) (Int.toNat a3)) (Int.toNat a3) a4),(wr (a2 + 1)))
  else
  some (a1)
 partial_fixpoint
def Ke4 (p : LL × LL × Int) (fl : LL) : Prop :=
 match p with
 | (a0,a1,a2) => ∀ c : Ctx,c.nt = 63 → WpL Tryz.prog c (cl (cl (cr (cl (cr (cr (cr (cr (cr (cr K4b)))))))))) (Ke2 c fl) (mkS [(4,sL a0),(5,.rs 3),(6,I a2)] [(3,.arr (List.map K0n a1))])
theorem Ke5 : ∀ p r,Ke3 p = some r → Ke4 p r := by
 refine Ke3.partial_correctness Ke4 ?_
 rintro spec_ViewsOf_l1_f spec_ViewsOf_l1_ih ⟨a0,a1,a2⟩ r h
 intro c hc
 refine WpL.step ?_
 refine sN ?_
 refine rss hc none [oN,oN,some (.eqv (.no) ⟨[(22,I (a0.length : Int))],[],[]⟩),oN] [(4,sL a0),(5,.rs 3),(6,I a2),(23,.bool (decide (a2 < (a0.length : Int))))] (ai (Qdy (d := 22) K0n a0) tv) ?_
 refine ic h (fun a3 h => ?_) fun a3 h => ?_
 ·refine sk ?_
  refine sN ?_
  refine bk 1 ?_
  refine rss hc none [oN,some (.eqv (.no) ⟨[(27,I (a1.length : Int))],[],[]⟩),oN] [(4,sL a0),(5,.rs 3),(6,I a2),(7,I (a1.length : Int))] (ai (Qdy (d := 27) K0n a1) tv) ?_
  refine sN ?_
  refine bk 2 ?_
  obtain ⟨a4,a5,h⟩ := Qds h
  have hL := Ke1 _ _ a5 c hc
  refine lp ?_
  refine WpL.into (e := (.exit 2)) (mkS [(4,sL a0),(5,.rs 3),(6,I a2),(7,I a4)] [(3,.arr (List.map K0n a1))]) hL ?_
  refine Qd6 ?_
  obtain ⟨_,a6,h⟩ := Qds h
  refine rs hc none [oN,some (.call .undef [] 6),some (.eqv (.mk 7 true) ⟨[(46,.rs 7)],[(7,some (.arr (List.map K0n (a1 ++ ([[]] : LL))))),(3,none)],[7]⟩),oN] [(4,sL a0),(5,.rs 7),(6,I a2),(7,I a4)] [(7,.arr (List.map K0n (a1 ++ ([[]] : LL))))] (ab (congrArg (fun z => (⟨[(46,.rs 7)],[(7,some (.arr z)),(3,none)],[7]⟩ : Wr)) ((List.map_append).symm : (List.map K0n a1) ++ (List.map K0n ([[]] : LL)) = List.map K0n (a1 ++ ([[]] : LL)))) (Qe6 (enc1 := K0n) (enc2 := K0n) (e1 := a1) (e2 := ([[]] : LL)) (sz := 1) K0q K0q a6) tv) ?_
  obtain ⟨_,a7,_,a8,h⟩ := bq2 h
  refine rs hc (rx [[0],[0],[0,1],[3],[0],[0],[0,4,5],[7]]) [oN,oN,oN,oT,oN,oN,oT,some (.eqv (.no) ⟨[(54,I ((min ((List.map K0n (a1 ++ ([[]] : LL))).length - Int.toNat a4) ((List.map K0n (a1 ++ ([[]] : LL))).length - Int.toNat (wr (a4 + 1))) : Nat) : Int))],[(7,some (.arr (List.map K0n (cpy (a1 ++ ([[]] : LL)) (Int.toNat (wr (a4 + 1))) (Int.toNat a4)))))],[]⟩)] [(4,sL a0),(5,.rs 7),(6,I a2),(7,I a4)] [(7,.arr (List.map K0n (cpy (a1 ++ ([[]] : LL)) (Int.toNat (wr (a4 + 1))) (Int.toNat a4))))] (ad (Qfm (enc := K0n) (xs := (a1 ++ ([[]] : LL))) a7) (Qfm (enc := K0n) (xs := (a1 ++ ([[]] : LL))) a8) (congrArg (fun z => (⟨[(54,I ((min ((List.map K0n (a1 ++ ([[]] : LL))).length - Int.toNat a4) ((List.map K0n (a1 ++ ([[]] : LL))).length - Int.toNat (wr (a4 + 1))) : Nat) : Int))],[(7,some (.arr z))],[]⟩ : Wr)) (Qfn K0n (a1 ++ ([[]] : LL)) (Int.toNat (wr (a4 + 1))) (Int.toNat a4))) (Qfo (enc := K0n) (xs := (a1 ++ ([[]] : LL))) (fun _ => rfl) a7 a8) tv) ?_
  obtain ⟨a9,b1,b2,b3,h⟩ := bq2 h
  refine rg hc none [oN,oN,oN,oN,some (.el (sI a9)),oN,oN,some (.eqv (.mk 0 false) ⟨[],[(7,some (.arr (List.map K0n (List.set (cpy (a1 ++ ([[]] : LL)) (Int.toNat (wr (a4 + 1))) (Int.toNat a4)) (Int.toNat a4) a9))))],[]⟩)] [(4,sL a0),(5,.rs 7),(6,I a2)] [(7,.arr (List.map K0n (List.set (cpy (a1 ++ ([[]] : LL)) (Int.toNat (wr (a4 + 1))) (Int.toNat a4)) (Int.toNat a4) a9)))] (ad (xL b1) (Qdx (enc := K0n) b3) (congrArg (fun z => (⟨[],[(7,some (.arr z))],[]⟩ : Wr)) (Qev (enc := K0n) (i := Int.toNat a4) (l := (cpy (a1 ++ ([[]] : LL)) (Int.toNat (wr (a4 + 1))) (Int.toNat a4))) (v := a9) (x := sI a9) (K0o a9))) (Qew (enc := K0n) (sz := 1) K0p b3) tv) ?_
  refine K7d hc 3 [(4,sL a0),(5,.rs 7),(6,I (wr (a2 + 1)))] ?_
  refine Qda ?_
  exact WpL.view (fun a w hv => SRx.renL [(3,7)] hv (by kernel_rfl) (by kernel_rfl) (by kernel_rfl)) (spec_ViewsOf_l1_ih _ _ h c hc)
 refine xt 0 ?_
 refine Qd4 ?_
 refine Qdb ?_
 obtain rfl := os h
 exact iv []
def Ke6 (s0 : K00) : Option (LL) :=
 (Kaf s0) >>= fun a0 =>
 if a0 = true then
 (chk (0 ≤ s0.fSize ∧ (Int.toNat s0.fSize) * 1 ≤ 140737488355328)) >>= fun _ =>
 (idx (List.replicate (Int.toNat s0.fSize) false) 1) >>= fun a1 =>
 (Kdk (s0,(List.set (List.replicate (Int.toNat s0.fSize) false) (Int.toNat 1) true),2)) >>= fun a2 =>
 (Ke3 (a2,[],0)) >>= fun a3 =>
 some a3
 else
 some []
def Ke7 (s0 : K00) (r : LL) : Prop :=
 Q75 Tryz.prog 175 [K1a s0] (.osl (List.map K0n r)) []
theorem Ke8 : ∀ p r,Ke6 p = some r → Ke7 p r := by
 rintro s0 r h
 unfold Ke6 at h
 refine b0 Tryz.f175 K4b 63 [(0,K1a s0)] fun c hc => ?_
 refine rs hc none [some (.new 1),oN] [(1,.ra 1 0)] [(1,K19 s0)] tv ?_
 refine sN ?_
 obtain ⟨a0,a1,h⟩ := Qds h
 refine rss hc none [oN,oc (.bool a0),oN] [(1,.ra 1 0),(10,.bool (!a0))] (cq (Kah _ _ a1) K2z tv) ?_
 rcases is h with ⟨a2,h⟩ | ⟨a2,h⟩
 ·refine cF (!a0) (nF a2) ?_
  refine sk ?_
  obtain ⟨_,a3,h⟩ := Qds h
  refine rs hc none [oN,oN,some (.eqv (.mk 2 true) ⟨[(13,.rs 2)],[(2,some (.arr (List.map AV.bool (List.replicate (Int.toNat s0.fSize) false))))],[2]⟩),oN] [(1,.ra 1 0),(3,.rs 2)] [(1,K19 s0),(2,.arr (List.map AV.bool (List.replicate (Int.toNat s0.fSize) false)))] (ab (congrArg (fun z => (⟨[(13,.rs 2)],[(2,some (.arr z))],[2]⟩ : Wr)) (Qex (enc := AV.bool) (n := Int.toNat s0.fSize) (x := AV.bool false) (Qe9 false))) (And.intro (Eq.refl s0.fSize) (Qdu a3)) tv) ?_
  obtain ⟨a4,a5,h⟩ := Qds h
  refine rs hc none [oN,oN,some (.eqv (.mk 0 true) ⟨[],[(2,some (.arr (List.map AV.bool (List.set (List.replicate (Int.toNat s0.fSize) false) (Int.toNat 1) true))))],[]⟩)] [(1,.ra 1 0),(3,.rs 2)] [(1,K19 s0),(2,.arr (List.map AV.bool (List.set (List.replicate (Int.toNat s0.fSize) false) (Int.toNat 1) true)))] (ac (Qdx (enc := AV.bool) a5) (congrArg (fun z => (⟨[],[(2,some (.arr z))],[]⟩ : Wr)) (Qev (enc := AV.bool) (i := Int.toNat 1) (l := (List.replicate (Int.toNat s0.fSize) false)) (v := true) (x := AV.bool true) (Qe9 true))) (Qew (enc := AV.bool) (sz := 1) Qed a5) tv) ?_
  refine sN ?_
  refine vz 2 (Qem (List.set (List.replicate (Int.toNat s0.fSize) false) (Int.toNat 1) true)) [(1,.ra 1 0),(3,.sl (List.map AV.bool (List.set (List.replicate (Int.toNat s0.fSize) false) (Int.toNat 1) true)))] [(1,K19 s0)] ?_
  obtain ⟨a6,a7,h⟩ := Qds h
  refine rg hc none [oN,oN,oc (sL a6),oN] [(4,sL a6)] [] (cq (Q75.res (r2 := sL a6) (by simp only [share,Q02,K0s]) (Q75.shr (Kdp _ _ a7))) K48 tv) ?_
  refine rs hc none [some (.mk 3 false),oN] [(4,sL a6),(5,.rs 3)] [(3,.arr (List.map K0n []))] tv ?_
  refine sN ?_
  refine K7e hc 1 [(4,sL a6),(5,.rs 3),(6,I 0)] ?_
  refine bk 0 ?_
  obtain ⟨a8,a9,h⟩ := Qds h
  have hL := Ke5 _ _ a9 c hc
  refine lp ?_
  refine WpL.into (e := (.exit 0)) (mkS [(5,.rs 3)] [(3,.arr (List.map K0n a8))]) hL ?_
  refine Qd6 ?_
  refine K7e hc 2 [(2,.rs 3)] ?_
  refine rt ?_
  obtain rfl := os h
  exact rq [true]
 refine cT (!a0) (nT a2) ?_
 refine rs0 hc 1 [(2,.nils)] [] ?_
 refine rt ?_
 obtain rfl := os h
 exact rq [true]
def Ke9 (c0 : K02) : Option (Int × K02) :=
 (Kcr (c0,[(-1),0,1,2,3,7,8,15,16,17,40,9223372036854775807,(-9223372036854775808)])) >>= fun (a0,a1) =>
 some (a0,a1)
def Kea (c0 : K02) (r : Int × K02) : Prop :=
 Q75 Tryz.prog 99 [.optr [.sl (List.map U8 c0.fb),I c0.fi,I c0.fh]] (I r.1) [.optr [.sl (List.map U8 r.2.fb),I r.2.fi,I r.2.fh]]
theorem Keb : ∀ p r,Ke9 p = some r → Kea p r := by
 rintro c0 r h
 unfold Ke9 at h
 refine Q75.bodyO K20 (fn := Tryz.f99) (code := B99) (by kernel_rfl) (by kernel_rfl) (by kernel_rfl) (nt := 6) (by kernel_rfl) (by kernel_rfl) (T := [(0,.ra 1000 0)]) (O := [(1000,K1d c0)]) (by kernel_rfl) (by kernel_rfl) (fun c hc => ?_)
 refine K7e hc 1 [(0,.ra 1000 0)] ?_
 obtain ⟨⟨a0,a1⟩,a2,h⟩ := Qds h
 refine rs hc none [oN,some (.call .undef [] 2),some (.call (I a0) [.optr [.sl (List.map U8 a1.fb),I a1.fi,I a1.fh],.undef] 1),oN] [(2,I a0)] [(1000,K1d a1)] (ab (Kct _ _ a2) K42 tv) ?_
 refine rt ?_
 obtain rfl := os h
 exact Qdp.ret (fl := [true]) (by kernel_rfl)
def Kec (p : K02 × K00) : Option (Int × K02) :=
 match p with
 | (c0,s1) =>
  (Kc7 (c0,30)) >>= fun (a0,a1) =>
  if a0 = true then
  (Ke9 a1) >>= fun (a2,a3) =>
  some (a2,a3)
  else
  (K7t (a1,s1.fSize)) >>= fun (a4,a5) =>
  some (a4,a5)
def Ked (p : K02 × K00) (r : Int × K02) : Prop :=
 match p with
 | (c0,s1) => Q75 Tryz.prog 204 [.optr [.sl (List.map U8 c0.fb),I c0.fi,I c0.fh],K1a s1] (I r.1) [.optr [.sl (List.map U8 r.2.fb),I r.2.fi,I r.2.fh],.undef]
theorem Kee : ∀ p r,Kec p = some r → Ked p r := by
 rintro ⟨c0,s1⟩ r h
 unfold Kec at h
 refine Q75.bodyO K20 (fn := Tryz.f204) (code := K4e) (by kernel_rfl) (by kernel_rfl) (by kernel_rfl) (nt := 13) (by kernel_rfl) (by kernel_rfl) (T := [(0,.ra 1000 0),(1,K1a s1)]) (O := [(1000,K1d c0)]) (by kernel_rfl) (by kernel_rfl) (fun c hc => ?_)
 refine rs hc none [some (.new 1),oN] [(0,.ra 1000 0),(3,.ra 1 0)] [(1,K19 s1),(1000,K1d c0)] tv ?_
 refine sN ?_
 obtain ⟨⟨a0,a1⟩,a2,h⟩ := Qds h
 refine rs hc none [oN,some (.call (.bool a0) [.optr [.sl (List.map U8 a1.fb),I a1.fi,I a1.fh],.undef] 1)] [(0,.ra 1000 0),(3,.ra 1 0),(6,.bool a0)] [(1,K19 s1),(1000,K1d a1)] (ab (Kc9 _ _ a2) K3u tv) ?_
 refine ic h (fun a3 h => ?_) fun a3 h => ?_
 ·obtain ⟨⟨a4,a5⟩,a6,h⟩ := Qds h
  refine rs hc none [oN,some (.call (I a4) [.optr [.sl (List.map U8 a5.fb),I a5.fi,I a5.fh]] 1),oN] [(4,I a4)] [(1000,K1d a5)] (ab (Keb _ _ a6) K4d tv) ?_
  refine rt ?_
  obtain rfl := os h
  exact Qdp.ret (fl := [true]) (by kernel_rfl)
 refine sk ?_
 obtain ⟨⟨a7,a8⟩,a9,h⟩ := Qds h
 refine rs hc none [oN,oN,oN,some (.call (I a7) [.optr [.sl (List.map U8 a8.fb),I a8.fi,I a8.fh],.undef] 1),oN] [(4,I a7)] [(1000,K1d a8)] (ab (K7v _ _ a9) K25 tv) ?_
 refine rt ?_
 obtain rfl := os h
 exact Qdp.ret (fl := [true]) (by kernel_rfl)
def Kef (c : Ctx) : (List Int) × (List Int) × Int × Int → Exit → Q0a → Prop
 | (a0,a1,a2,a3) => Qde c (.exit 0) (mkS [(7,.rs 2)] [(2,rI a0),(1000,.box [.sl (List.map U8 a1),I a2,I a3])])
def Keg (p : K00 × Int × (List Int) × Int × Int × (List Int) × Int) : Option ((List Int) × (List Int) × Int × Int) :=
 match p with
 | (s1,n2,a0,a1,a2,a3,a4) =>
  if (decide (a4 < n2)) = true then
  (Kec ((K02.mk a0 a1 a2),s1)) >>= fun (a5,a6) =>
  (Qe5 (a3.length + [a5].length) 8) >>= fun _ =>
  Keg (s1,n2,a6.fb,a6.fi,a6.fh,(a3 ++ [a5]),(wr (a4 + 1)))
  else
  some ((a3,a0,a1,a2))
 partial_fixpoint
def Keh (p : K00 × Int × (List Int) × Int × Int × (List Int) × Int) (fl : (List Int) × (List Int) × Int × Int) : Prop :=
 match p with
 | (s1,n2,a0,a1,a2,a3,a4) => ∀ c : Ctx,c.nt = 22 → WpL Tryz.prog c (cl (cl (cr (cl (cr (cr K4g)))))) (Kef c fl) (mkS [(0,.ra 1000 0),(2,I n2),(4,.ra 1 0),(7,.rs 2),(8,I a4)] [(1,K19 s1),(2,rI a3),(1000,.box [.sl (List.map U8 a0),I a1,I a2])])
theorem Kei : ∀ p r,Keg p = some r → Keh p r := by
 refine Keg.partial_correctness Keh ?_
 rintro spec_dGrades_l0_f spec_dGrades_l0_ih ⟨s1,n2,a0,a1,a2,a3,a4⟩ r h
 intro c hc
 refine WpL.step ?_
 refine sN ?_
 refine K7e hc 3 [(0,.ra 1000 0),(2,I n2),(4,.ra 1 0),(7,.rs 2),(8,I a4),(12,.bool (decide (a4 < n2)))] ?_
 refine ic h (fun a5 h => ?_) fun a5 h => ?_
 ·refine sk ?_
  refine sN ?_
  refine bk 1 ?_
  obtain ⟨⟨a6,a7⟩,a8,h⟩ := Qds h
  obtain ⟨_,a9,h⟩ := Qds h
  refine rg hc none [oN,oN,oN,some (.call (I a6) [.optr [.sl (List.map U8 a7.fb),I a7.fi,I a7.fh],.undef] 1),some (.mk 5 true),some (.eqv (.mk 6 true) ⟨[(20,.rs 6)],[(6,some (rI (a3 ++ [a6]))),(2,none),(5,none)],[6]⟩),oN] [(0,.ra 1000 0),(2,I n2),(4,.ra 1 0),(7,.rs 6),(8,I a4)] [(1,K19 s1),(6,rI (a3 ++ [a6])),(1000,K1d a7)] (ad (Kee _ _ a8) K4f (congrArg (fun z => (⟨[(20,.rs 6)],[(6,some (.arr z)),(2,none),(5,none)],[6]⟩ : Wr)) ((List.map_append).symm : (List.map I a3) ++ (List.map I [a6]) = List.map I (a3 ++ [a6]))) (Qe6 (enc1 := I) (enc2 := I) (e1 := a3) (e2 := [a6]) (sz := 1) Qef Qef a9) tv) ?_
  refine K7d hc 3 [(0,.ra 1000 0),(2,I n2),(4,.ra 1 0),(7,.rs 6),(8,I (wr (a4 + 1)))] ?_
  refine Qda ?_
  exact WpL.view (fun a w hv => SRx.renL [(2,6)] hv (by kernel_rfl) (by kernel_rfl) (by kernel_rfl)) (spec_dGrades_l0_ih _ _ h c hc)
 refine xt 0 ?_
 refine Qd4 ?_
 refine Qdb ?_
 obtain ⟨rfl,hq0⟩ := Prod.mk.inj (Option.some.inj h)
 obtain ⟨rfl,hq1⟩ := Prod.mk.inj (hq0)
 obtain ⟨rfl,rfl⟩ := Prod.mk.inj (hq1)
 exact iv []
def Kej (p : K02 × K00 × Int) : Option ((List Int) × K02) :=
 match p with
 | (c0,s1,n2) =>
  (Keg (s1,n2,c0.fb,c0.fi,c0.fh,[],0)) >>= fun (a0,a1,a2,a3) =>
  some (a0,(K02.mk a1 a2 a3))
def Kek (p : K02 × K00 × Int) (r : (List Int) × K02) : Prop :=
 match p with
 | (c0,s1,n2) => Q75 Tryz.prog 143 [.optr [.sl (List.map U8 c0.fb),I c0.fi,I c0.fh],K1a s1,I n2] (oI r.1) [.optr [.sl (List.map U8 r.2.fb),I r.2.fi,I r.2.fh],.undef,.undef]
theorem Kel : ∀ p r,Kej p = some r → Kek p r := by
 rintro ⟨c0,s1,n2⟩ r h
 unfold Kej at h
 refine Q75.bodyO K20 (fn := Tryz.f143) (code := K4g) (by kernel_rfl) (by kernel_rfl) (by kernel_rfl) (nt := 22) (by kernel_rfl) (by kernel_rfl) (T := [(0,.ra 1000 0),(1,K1a s1),(2,I n2)]) (O := [(1000,K1d c0)]) (by kernel_rfl) (by kernel_rfl) (fun c hc => ?_)
 refine rs hc none [some (.new 1),oN] [(0,.ra 1000 0),(2,I n2),(4,.ra 1 0)] [(1,K19 s1),(1000,K1d c0)] tv ?_
 refine rs hc none [some (.mk 2 true),oN] [(0,.ra 1000 0),(2,I n2),(4,.ra 1 0),(7,.rs 2)] [(1,K19 s1),(2,.arr (List.map I [])),(1000,K1d c0)] tv ?_
 refine sN ?_
 refine K7e hc 1 [(0,.ra 1000 0),(2,I n2),(4,.ra 1 0),(7,.rs 2),(8,I 0)] ?_
 refine bk 0 ?_
 obtain ⟨⟨a0,a1,a2,a3⟩,a4,h⟩ := Qds h
 have hL := Kei _ _ a4 c hc
 refine lp ?_
 refine WpL.into (e := (.exit 0)) (mkS [(7,.rs 2)] [(2,rI a0),(1000,.box [.sl (List.map U8 a1),I a2,I a3])]) hL ?_
 refine Qd6 ?_
 refine K7e hc 2 [(6,.rs 2)] ?_
 refine rt ?_
 obtain rfl := os h
 exact Qdp.ret (fl := [true]) (by kernel_rfl)
def Kem (p : K02 × K00) : Option ((List Int) × K02) :=
 match p with
 | (c0,s1) =>
  (Ke6 s1) >>= fun a0 =>
  ((
  if ((a0.length : Int) == 0) = true then
  some ((c0.fb,c0.fi,c0.fh,true))
  else
  (Kc7 (c0,12)) >>= fun (a1,a2) =>
  some ((a2.fb,a2.fi,a2.fh,a1))
  ) : Option ((List Int) × Int × Int × Bool)) >>= fun (a3,a4,a5,a6) =>
  if a6 = true then
  (K7t ((K02.mk a3 a4 a5),3)) >>= fun (a7,a8) =>
  (Kej (a8,s1,a7)) >>= fun (a9,b1) =>
  some (a9,b1)
  else
  (K7t ((K02.mk a3 a4 a5),(a0.length : Int))) >>= fun (b2,b3) =>
  (idx a0 b2) >>= fun b4 =>
  (Kc1 b4) >>= fun b5 =>
  some (b5,b3)
def Ken (p : K02 × K00) (r : (List Int) × K02) : Prop :=
 match p with
 | (c0,s1) => Q75 Tryz.prog 91 [.optr [.sl (List.map U8 c0.fb),I c0.fi,I c0.fh],K1a s1] (oI r.1) [.optr [.sl (List.map U8 r.2.fb),I r.2.fi,I r.2.fh],.undef]
theorem Keo : ∀ p r,Kem p = some r → Ken p r := by
 rintro ⟨c0,s1⟩ r h
 unfold Kem at h
 refine Q75.bodyO K20 (fn := Tryz.f91) (code := B91) (by kernel_rfl) (by kernel_rfl) (by kernel_rfl) (nt := 28) (by kernel_rfl) (by kernel_rfl) (T := [(0,.ra 1000 0),(1,K1a s1)]) (O := [(1000,K1d c0)]) (by kernel_rfl) (by kernel_rfl) (fun c hc => ?_)
 refine rs hc none [some (.new 1),oN] [(0,.ra 1000 0),(3,.ra 1 0)] [(1,K19 s1),(1000,K1d c0)] tv ?_
 obtain ⟨a0,a1,h⟩ := Qds h
 refine rs hc none [oN,some (.call (.osl (List.map K0n a0)) [] 2),oN] [(0,.ra 1000 0),(3,.ra 1 0),(5,.rs 2)] [(1,K19 s1),(2,.arr (List.map K0n a0)),(1000,K1d c0)] (cq (Ke8 _ _ a1) K4c tv) ?_
 refine sN ?_
 refine sN ?_
 obtain ⟨⟨a2,a3,a4,a5⟩,a6,h⟩ := Qds h
 refine Wp.into (x := .normal) (mkS [(0,.ra 1000 0),(3,.ra 1 0),(5,.rs 2),(14,.bool a5)] [(1,K19 s1),(2,.arr (List.map K0n a0)),(1000,.box [.sl (List.map U8 a2),I a3,I a4])]) ?_ ?_
 ·replace h := a6
  rcases is h with ⟨a7,h⟩ | ⟨a7,h⟩
  ·refine rgs hc none [oN,some (.eqv (.no) ⟨[(9,I (a0.length : Int))],[],[]⟩),oN,oN,o_,o_,oT] [(0,.ra 1000 0),(3,.ra 1 0),(5,.rs 2),(14,.bool true)] (ai (Qdy (d := 9) K0n a0) (ar 2 (neF a7) (ai a7 tv))) ?_
   obtain ⟨rfl,hq0⟩ := Prod.mk.inj (Option.some.inj h)
   obtain ⟨rfl,hq1⟩ := Prod.mk.inj (hq0)
   obtain ⟨rfl,rfl⟩ := Prod.mk.inj (hq1)
   exact Qde.mk
  obtain ⟨⟨a8,a9⟩,b1,h⟩ := Qds h
  refine rg hc none [oN,some (.eqv (.no) ⟨[(9,I (a0.length : Int))],[],[]⟩),oN,oN,oN,some (.call (.bool a8) [.optr [.sl (List.map U8 a9.fb),I a9.fi,I a9.fh],.undef] 1),oF] [(0,.ra 1000 0),(3,.ra 1 0),(5,.rs 2),(14,.bool a8)] [(1,K19 s1),(2,.arr (List.map K0n a0)),(1000,K1d a9)] (ai (Qdy (d := 9) K0n a0) (ar 2 a7 (ac (Kc9 _ _ b1) K3u a7 tv))) ?_
  obtain ⟨rfl,hq0⟩ := Prod.mk.inj (Option.some.inj h)
  obtain ⟨rfl,hq1⟩ := Prod.mk.inj (hq0)
  obtain ⟨rfl,rfl⟩ := Prod.mk.inj (hq1)
  exact Qde.mk
 clear a6
 refine ic h (fun b2 h => ?_) fun b2 h => ?_
 ·obtain ⟨⟨b3,b4⟩,b5,h⟩ := Qds h
  obtain ⟨⟨b6,b7⟩,b8,h⟩ := Qds h
  refine rs hc (rx [[0],[0],[0],[0,2],[4],[5]]) [oN,oN,oN,some (.call (I b3) [.optr [.sl (List.map U8 b4.fb),I b4.fi,I b4.fh],.undef] 1),some (.call (oI b6) [.optr [.sl (List.map U8 b7.fb),I b7.fi,I b7.fh],.undef,.undef] 3),oN] [(4,.rs 3)] [(3,rI b6),(1000,K1d b7)] (ad (K7v _ _ b5) K25 (Kel _ _ b8) K4h tv) ?_
  refine rt ?_
  obtain rfl := os h
  exact Qdp.ret (fl := [true]) (by kernel_rfl)
 refine sk ?_
 obtain ⟨⟨b9,c1⟩,c2,h⟩ := Qds h
 obtain ⟨c3,c4,c5,c6,h⟩ := bq2 h
 refine rs hc none [oN,oN,oN,some (.eqv (.no) ⟨[(23,I (a0.length : Int))],[],[]⟩),some (.call (I b9) [.optr [.sl (List.map U8 c1.fb),I c1.fi,I c1.fh],.undef] 1),oN,some (.el (sI c3)),some (.call (oI c5) [] 4),oN] [(4,.rs 4)] [(4,rI c5),(1000,K1d c1)] (ad (Qdy (d := 23) K0n a0) (K7v _ _ c2) K25 (Qdx (enc := K0n) c4) (ai (xL c4).2 (cq (Kc3 _ _ c6) K3p tv))) ?_
 refine rt ?_
 obtain rfl := os h
 exact Qdp.ret (fl := [true]) (by kernel_rfl)
def Kep (code0 : (List Int)) : Option (K00 × (List Int) × (List Int) × K01 × K01) :=
 (K7n code0) >>= fun a0 =>
 (Kb5 a0) >>= fun (a1,a2) =>
 (Kbf (a2,a1,3,true)) >>= fun (a3,a4) =>
 (Kcd (a4,a3)) >>= fun (a5,a6) =>
 (Kcd (a6,a3)) >>= fun (a7,a8) =>
 (Kc7 (a8,5)) >>= fun (a9,b1) =>
 ((
 if a9 = true then
 (Kcz (b1,a5)) >>= fun (b2,b3) =>
 some ((b3.fb,b3.fi,b3.fh,b2.fOp,b2.fN,b2.fType,b2.fKids))
 else
 some ((b1.fb,b1.fi,b1.fh,a7.fOp,a7.fN,a7.fType,a7.fKids))
 ) : Option ((List Int) × Int × Int × Int × Int × (List Int) × (List K01))) >>= fun (b4,b5,b6,b7,b8,b9,c0) =>
 (Kem ((K02.mk b4 b5 b6),a1)) >>= fun (c1,c2) =>
 some (a1,c1,a3,a5,(K01.mk b7 b8 b9 c0))
def Keq (code0 : (List Int)) (r : K00 × (List Int) × (List Int) × K01 × K01) : Prop :=
 Q75 Tryz.prog 35 [.sl (List.map U8 code0)] (.tup [.agg [I r.1.fSize,.sl (List.map I r.1.fPlus),.sl (List.map I r.1.fTimes),.sl (List.map AV.bool r.1.fBelow)],.osl (List.map I r.2.1),.sl (List.map I r.2.2.1),.agg [I r.2.2.2.1.fOp,I r.2.2.2.1.fN,.sl (List.map I r.2.2.2.1.fType),.sl (List.map K06 r.2.2.2.1.fKids)],.agg [I r.2.2.2.2.fOp,I r.2.2.2.2.fN,.sl (List.map I r.2.2.2.2.fType),.sl (List.map K06 r.2.2.2.2.fKids)]]) []
theorem Ker : ∀ p r,Kep p = some r → Keq p r := by
 rintro code0 r h
 unfold Kep at h
 refine b0 Tryz.f35 B35 37 [(0,.sl (List.map U8 code0))] fun c hc => ?_
 refine rs hc none [some (.new 1),oN,oN,some (.new 2),some (.new 3)] [(0,.sl (List.map U8 code0)),(2,.ra 1 0),(5,.ra 2 0),(6,.ra 3 0)] [(1,.box [I 0,.nils,.nils,.nils]),(2,.box [I 0,I 0,.nils,.nils]),(3,.box [I 0,I 0,.nils,.nils])] tv ?_
 obtain ⟨a0,a1,h⟩ := Qds h
 refine rs hc none [oN,some (.call (.optr [.sl (List.map U8 a0.fb),I a0.fi,I a0.fh]) [.tup []] 4),oN] [(2,.ra 1 0),(5,.ra 2 0),(6,.ra 3 0),(7,.ra 4 0)] [(1,.box [I 0,.nils,.nils,.nils]),(2,.box [I 0,I 0,.nils,.nils]),(3,.box [I 0,I 0,.nils,.nils]),(4,K1d a0)] (ab (K7p _ _ a1) K22 tv) ?_
 obtain ⟨⟨a2,a3⟩,a4,h⟩ := Qds h
 refine rs hc none [oN,some (.call (K1f a2) [.optr [.sl (List.map U8 a3.fb),I a3.fi,I a3.fh]] 5),some (.new 8),oN] [(2,.ra 1 0),(5,.ra 2 0),(6,.ra 3 0),(7,.ra 4 0),(8,.ra 8 0)] [(1,.box [I 0,.nils,.nils,.nils]),(2,.box [I 0,I 0,.nils,.nils]),(3,.box [I 0,I 0,.nils,.nils]),(4,K1d a3),(5,rI a2.fPlus),(6,rI a2.fTimes),(7,.arr (List.map AV.bool a2.fBelow)),(8,.box [I a2.fSize,.rs 5,.rs 6,.rs 7])] (ab (Kb7 _ _ a4) K3a tv) ?_
 refine sN ?_
 refine vz 5 (Qek a2.fPlus) [(2,.ra 1 0),(5,.ra 2 0),(6,.ra 3 0),(7,.ra 4 0),(8,.ra 8 0)] [(1,.box [I 0,.nils,.nils,.nils]),(2,.box [I 0,I 0,.nils,.nils]),(3,.box [I 0,I 0,.nils,.nils]),(4,K1d a3),(6,rI a2.fTimes),(7,.arr (List.map AV.bool a2.fBelow)),(8,.box [I a2.fSize,sI a2.fPlus,.rs 6,.rs 7])] ?_
 refine vz 6 (Qek a2.fTimes) [(2,.ra 1 0),(5,.ra 2 0),(6,.ra 3 0),(7,.ra 4 0),(8,.ra 8 0)] [(1,.box [I 0,.nils,.nils,.nils]),(2,.box [I 0,I 0,.nils,.nils]),(3,.box [I 0,I 0,.nils,.nils]),(4,K1d a3),(7,.arr (List.map AV.bool a2.fBelow)),(8,.box [I a2.fSize,sI a2.fPlus,sI a2.fTimes,.rs 7])] ?_
 refine vz 7 (Qem a2.fBelow) [(2,.ra 1 0),(5,.ra 2 0),(6,.ra 3 0),(7,.ra 4 0),(8,.ra 8 0)] [(1,.box [I 0,.nils,.nils,.nils]),(2,.box [I 0,I 0,.nils,.nils]),(3,.box [I 0,I 0,.nils,.nils]),(4,K1d a3),(8,K19 a2)] ?_
 obtain ⟨⟨a5,a6⟩,a7,h⟩ := Qds h
 refine rg hc none [oN,oN,some (.call (oI a5) [.optr [.sl (List.map U8 a6.fb),I a6.fi,I a6.fh],.undef,.undef,.undef] 9),oN] [(2,.ra 1 0),(5,.ra 2 0),(6,.ra 3 0),(7,.ra 4 0),(8,.ra 8 0),(9,.rs 9)] [(1,.box [I 0,.nils,.nils,.nils]),(2,.box [I 0,I 0,.nils,.nils]),(3,.box [I 0,I 0,.nils,.nils]),(4,K1d a6),(8,K19 a2),(9,rI a5)] (ab (Kbh _ _ a7) K3b tv) ?_
 refine sN ?_
 refine vz 9 (Qek a5) [(2,.ra 1 0),(5,.ra 2 0),(6,.ra 3 0),(7,.ra 4 0),(8,.ra 8 0),(9,sI a5)] [(1,.box [I 0,.nils,.nils,.nils]),(2,.box [I 0,I 0,.nils,.nils]),(3,.box [I 0,I 0,.nils,.nils]),(4,K1d a6),(8,K19 a2)] ?_
 obtain ⟨⟨a8,a9⟩,b1,h⟩ := Qds h
 refine rg hc none [oN,oN,some (.call (K1c a8) [.optr [.sl (List.map U8 a9.fb),I a9.fi,I a9.fh],.undef] 1),some (.new 10),oN] [(2,.ra 1 0),(5,.ra 2 0),(6,.ra 3 0),(7,.ra 4 0),(8,.ra 8 0),(9,sI a5),(10,.ra 10 0)] [(1,.box [I 0,.nils,.nils,.nils]),(2,.box [I 0,I 0,.nils,.nils]),(3,.box [I 0,I 0,.nils,.nils]),(4,K1d a9),(8,K19 a2),(10,K1b a8)] (ab (Kcf _ _ b1) K3t tv) ?_
 obtain ⟨⟨b2,b3⟩,b4,h⟩ := Qds h
 refine rs hc none [oN,oN,some (.call (K1c b2) [.optr [.sl (List.map U8 b3.fb),I b3.fi,I b3.fh],.undef] 1),some (.new 11),oN] [(2,.ra 1 0),(5,.ra 2 0),(6,.ra 3 0),(7,.ra 4 0),(8,.ra 8 0),(9,sI a5),(10,.ra 10 0),(11,.ra 11 0)] [(1,.box [I 0,.nils,.nils,.nils]),(2,.box [I 0,I 0,.nils,.nils]),(3,.box [I 0,I 0,.nils,.nils]),(4,K1d b3),(8,K19 a2),(10,K1b a8),(11,K1b b2)] (ab (Kcf _ _ b4) K3t tv) ?_
 refine sN ?_
 obtain ⟨⟨b5,b6⟩,b7,h⟩ := Qds h
 refine rs hc none [oN,some (.call (.bool b5) [.optr [.sl (List.map U8 b6.fb),I b6.fi,I b6.fh],.undef] 1)] [(2,.ra 1 0),(5,.ra 2 0),(6,.ra 3 0),(7,.ra 4 0),(8,.ra 8 0),(9,sI a5),(10,.ra 10 0),(11,.ra 11 0),(26,.bool b5)] [(1,.box [I 0,.nils,.nils,.nils]),(2,.box [I 0,I 0,.nils,.nils]),(3,.box [I 0,I 0,.nils,.nils]),(4,K1d b6),(8,K19 a2),(10,K1b a8),(11,K1b b2)] (ab (Kc9 _ _ b7) K3u tv) ?_
 obtain ⟨⟨b8,b9,c0,c1,c2,c3,c4⟩,c5,h⟩ := Qds h
 refine Wp.into (x := .normal) (mkS [(2,.ra 1 0),(5,.ra 2 0),(6,.ra 3 0),(7,.ra 4 0),(8,.ra 8 0),(9,sI a5),(10,.ra 10 0),(11,.ra 11 0)] [(1,.box [I 0,.nils,.nils,.nils]),(2,.box [I 0,I 0,.nils,.nils]),(3,.box [I 0,I 0,.nils,.nils]),(4,.box [.sl (List.map U8 b8),I b9,I c0]),(8,K19 a2),(10,K1b a8),(11,.box [I c1,I c2,sI c3,.sl (List.map K06 c4)])]) ?_ ?_
 ·replace h := c5
  refine ic h (fun c6 h => ?_) fun c6 h => ?_
  ·obtain ⟨⟨c7,c8⟩,c9,h⟩ := Qds h
   refine rg hc none [oN,oN,some (.call (K1c c7) [.optr [.sl (List.map U8 c8.fb),I c8.fi,I c8.fh],.undef] 1),oN] [(2,.ra 1 0),(5,.ra 2 0),(6,.ra 3 0),(7,.ra 4 0),(8,.ra 8 0),(9,sI a5),(10,.ra 10 0),(11,.ra 11 0)] [(1,.box [I 0,.nils,.nils,.nils]),(2,.box [I 0,I 0,.nils,.nils]),(3,.box [I 0,I 0,.nils,.nils]),(4,K1d c8),(8,K19 a2),(10,K1b a8),(11,K1b c7)] (ab (Kd1 _ _ c9) K44 tv) ?_
   obtain ⟨rfl,hq0⟩ := Prod.mk.inj (Option.some.inj h)
   obtain ⟨rfl,hq1⟩ := Prod.mk.inj (hq0)
   obtain ⟨rfl,hq2⟩ := Prod.mk.inj (hq1)
   obtain ⟨rfl,hq3⟩ := Prod.mk.inj (hq2)
   obtain ⟨rfl,hq4⟩ := Prod.mk.inj (hq3)
   obtain ⟨rfl,rfl⟩ := Prod.mk.inj (hq4)
   exact Qde.mk
  refine sk ?_
  obtain ⟨rfl,hq0⟩ := Prod.mk.inj (Option.some.inj h)
  obtain ⟨rfl,hq1⟩ := Prod.mk.inj (hq0)
  obtain ⟨rfl,hq2⟩ := Prod.mk.inj (hq1)
  obtain ⟨rfl,hq3⟩ := Prod.mk.inj (hq2)
  obtain ⟨rfl,hq4⟩ := Prod.mk.inj (hq3)
  obtain ⟨rfl,rfl⟩ := Prod.mk.inj (hq4)
  exact iv []
 clear c5
 obtain ⟨⟨d0,d1⟩,d2,h⟩ := Qds h
 refine rs hc (rx [[0],[0],[0],[0,1,2],[0],[0],[0],[4],[4,7],[5,7,8],[6,7,8,9],[11]]) [oN,oN,oN,some (.call (oI d0) [.optr [.sl (List.map U8 d1.fb),I d1.fi,I d1.fh],.undef] 12),oN,oN,oN,oN,oN,oN,oN,oN] [(2,.ra 1 0),(3,.rs 12),(4,sI a5),(5,.ra 2 0),(6,.ra 3 0)] [(1,K19 a2),(2,K1b a8),(3,.box [I c1,I c2,sI c3,.sl (List.map K06 c4)]),(12,rI d0)] (ab (Keo _ _ d2) K4i tv) ?_
 refine rt ?_
 obtain rfl := os h
 exact rq [false,true,false,false,false]
def Kes (p : Int × Int × Int) : Option (Bool) :=
 match p with
 | (n0,low1,high2) =>
  ((
  if (decide (n0 ≥ low1)) = true then
  some ((decide (n0 ≤ high2)))
  else
  some (false)
  ) : Option (Bool)) >>= fun a0 =>
  some a0
def Ket (p : Int × Int × Int) (r : Bool) : Prop :=
 match p with
 | (n0,low1,high2) => Q75 Tryz.prog 95 [I n0,I low1,I high2] (.bool r) []
theorem Keu : ∀ p r,Kes p = some r → Ket p r := by
 rintro ⟨n0,low1,high2⟩ r h
 unfold Kes at h
 refine b0 Tryz.f95 B95 15 [(0,I n0),(1,I low1),(2,I high2)] fun c hc => ?_
 refine rs0 hc 1 [(0,I n0),(1,I low1),(2,I high2)] [] ?_
 refine sN ?_
 obtain ⟨a0,a1,h⟩ := Qds h
 refine Wp.into (x := .normal) (mkS [(6,.bool a0)] []) ?_ ?_
 ·replace h := a1
  rcases is h with ⟨a2,h⟩ | ⟨a2,h⟩
  ·refine rg hc none [oN,oN,oN,oN,oN,oN,oN,oT,oN] [(6,.bool (decide (n0 ≤ high2)))] [] (ar 4 a2 tv) ?_
   obtain rfl := os h
   exact Qde.mk
  refine rg hc none [oN,oN,oN,oN,o_,o_,o_,oF,oN] [(6,.bool false)] [] (ar 3 (neT a2) (ai a2 tv)) ?_
  obtain rfl := os h
  exact Qde.mk
 clear a1
 refine rt ?_
 obtain rfl := os h
 exact rq [true]
def Kev (p : K00 × Int) : Option (Bool) :=
 match p with
 | (s0,g1) =>
  (Kes (g1,0,(wr (s0.fSize - 1)))) >>= fun a0 =>
  some a0
def Kew (p : K00 × Int) (r : Bool) : Prop :=
 match p with
 | (s0,g1) => Q75 Tryz.prog 145 [K1a s0,I g1] (.bool r) []
theorem Kex : ∀ p r,Kev p = some r → Kew p r := by
 rintro ⟨s0,g1⟩ r h
 unfold Kev at h
 refine b0 Tryz.f145 K4l 10 [(0,K1a s0),(1,I g1)] fun c hc => ?_
 refine rs hc none [some (.new 1),oN] [(1,I g1),(2,.ra 1 0)] [(1,K19 s0)] tv ?_
 obtain ⟨a0,a1,h⟩ := Qds h
 refine rs hc none [oN,oN,oN,oN,oc (.bool a0),oN] [(4,.bool a0)] [] (cq (Keu _ _ a1) K4k tv) ?_
 refine rt ?_
 obtain rfl := os h
 exact rq [true]
def Key (p : K00 × Int × Int) : Option (Int) :=
 match p with
 | (s0,a1,b2) =>
  (idx s0.fPlus (wr ((wr (a1 * s0.fSize)) + b2))) >>= fun a0 =>
  some a0
def Kez (p : K00 × Int × Int) (r : Int) : Prop :=
 match p with
 | (s0,a1,b2) => Q75 Tryz.prog 160 [K1a s0,I a1,I b2] (I r) []
theorem Kf0 : ∀ p r,Key p = some r → Kez p r := by
 rintro ⟨s0,a1,b2⟩ r h
 unfold Key at h
 refine b0 Tryz.f160 K4n 17 [(0,K1a s0),(1,I a1),(2,I b2)] fun c hc => ?_
 refine rs hc none [some (.new 1),oN] [(1,I a1),(2,I b2),(3,.ra 1 0)] [(1,K19 s0)] tv ?_
 obtain ⟨a0,a2,h⟩ := Qds h
 refine rs hc none [oN,oN,oN,oN,oN,oN,oN,oN,some (.el (I a0)),oN,oN] [(6,I a0)] [] (ai (ix a2) tv) ?_
 refine rt ?_
 obtain rfl := os h
 exact rq [true]
def Kf1 (p : K00 × Int × Int) : Option (Int) :=
 match p with
 | (s0,a1,b2) =>
  (idx s0.fTimes (wr ((wr (a1 * s0.fSize)) + b2))) >>= fun a0 =>
  some a0
def Kf2 (p : K00 × Int × Int) (r : Int) : Prop :=
 match p with
 | (s0,a1,b2) => Q75 Tryz.prog 161 [K1a s0,I a1,I b2] (I r) []
theorem Kf3 : ∀ p r,Kf1 p = some r → Kf2 p r := by
 rintro ⟨s0,a1,b2⟩ r h
 unfold Kf1 at h
 refine b0 Tryz.f161 K4p 17 [(0,K1a s0),(1,I a1),(2,I b2)] fun c hc => ?_
 refine rs hc none [some (.new 1),oN] [(1,I a1),(2,I b2),(3,.ra 1 0)] [(1,K19 s0)] tv ?_
 obtain ⟨a0,a2,h⟩ := Qds h
 refine rs hc none [oN,oN,oN,oN,oN,oN,oN,oN,some (.el (I a0)),oN,oN] [(6,I a0)] [] (ai (ix a2) tv) ?_
 refine rt ?_
 obtain rfl := os h
 exact rq [true]
def Kf4 (p : K00 × Int × Int) : Option (Bool) :=
 match p with
 | (s0,a1,b2) =>
  (idx s0.fBelow (wr ((wr (a1 * s0.fSize)) + b2))) >>= fun a0 =>
  some a0
def Kf5 (p : K00 × Int × Int) (r : Bool) : Prop :=
 match p with
 | (s0,a1,b2) => Q75 Tryz.prog 89 [K1a s0,I a1,I b2] (.bool r) []
theorem Kf6 : ∀ p r,Kf4 p = some r → Kf5 p r := by
 rintro ⟨s0,a1,b2⟩ r h
 unfold Kf4 at h
 refine b0 Tryz.f89 B89 17 [(0,K1a s0),(1,I a1),(2,I b2)] fun c hc => ?_
 refine rs hc none [some (.new 1),oN] [(1,I a1),(2,I b2),(3,.ra 1 0)] [(1,K19 s0)] tv ?_
 obtain ⟨a0,a2,h⟩ := Qds h
 refine rs hc none [oN,oN,oN,oN,oN,oN,oN,oN,some (.el (.bool a0)),oN,oN] [(6,.bool a0)] [] (ai (Qdw (enc := AV.bool) (x := .bool a0) a2 (Qe9 a0)) tv) ?_
 refine rt ?_
 obtain rfl := os h
 exact rq [true]
def Kf7 (c : Ctx) (s0 : K00) (a1 : Int) (b2 : Int) (a0 : Int) : Bool → Exit → Q0a → Prop
 | a2 => Qde c (.exit 2) (mkS [(1,I a1),(2,I b2),(3,.ra 1 0),(7,I a0),(8,.bool a2)] [(1,K19 s0)])
end Go.Am
