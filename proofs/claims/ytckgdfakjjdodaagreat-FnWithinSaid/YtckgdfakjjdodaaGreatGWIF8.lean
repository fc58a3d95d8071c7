/- Walks, printed. -/
import Derived.Test.YtckgdfakjjdodaaGreatGWIF6
set_option linter.unusedVariables false
set_option linter.unusedSimpArgs false
set_option maxRecDepth 100000
namespace Go.Am
open Go Go.Proofs
def Kii (p : K02 × (List K01) × Int) : Option (List K01 × K02) :=
 match p with
 | (c0,xs,ix) =>
  (idx xs ix) >>= fun e0 =>
  ((
  if (decide ((e0.fKids.length : Int) > 0)) = true then
  (Ka2 (c0,3)) >>= fun (a0,a1) =>
  some ((a1.fb,a1.fi,a1.fh,(decide (a0 > 0))))
  else
  some ((c0.fb,c0.fi,c0.fh,false))
  ) : Option ((List Int) × Int × Int × Bool)) >>= fun (a2,a3,a4,a5) =>
  if a5 = true then
  (Ka2 ((K02.mk a2 a3 a4),(e0.fKids.length : Int))) >>= fun (a6,a7) =>
  (idx e0.fKids a6) >>= fun a8 =>
  (Kii (a7,e0.fKids,a6)) >>= fun (ks,c2) => some ((List.set xs (Int.toNat ix) (K01.mk e0.fOp e0.fN e0.fType ks)),c2)
  else
  (Ka2 ((K02.mk a2 a3 a4),6)) >>= fun (a9,b1) =>
  if (a9 == 0) = true then
  (Ka2 (b1,15)) >>= fun (b2,b3) =>
  some ((List.set xs (Int.toNat ix) (K01.mk (wr (b2 - 1)) e0.fN e0.fType e0.fKids)),b3)
  else
  ((
  if (a9 == 1) = true then
  some ((a9 == 1))
  else
  some ((a9 == 2))
  ) : Option (Bool)) >>= fun b4 =>
  if b4 = true then
  (Ki0 (b1,[(-2),(-1),0,1,2,3,7,8,16])) >>= fun (b5,b6) =>
  some ((List.set xs (Int.toNat ix) (K01.mk e0.fOp b5 e0.fType e0.fKids)),b6)
  else
  if (a9 == 3) = true then
  (Ki0 (b1,[0,1,35,99])) >>= fun (b7,b8) =>
  some ((List.set xs (Int.toNat ix) (K01.mk e0.fOp e0.fN [b7] e0.fKids)),b8)
  else
  if (a9 == 4) = true then
  (Qei (e0.fKids.length + [(K01.mk 0 0 [] [])].length) 64) >>= fun _ =>
  (idx (e0.fKids ++ [(K01.mk 0 0 [] [])]) (e0.fKids.length : Int)) >>= fun b9 =>
  some ((List.set xs (Int.toNat ix) (K01.mk e0.fOp e0.fN e0.fType (List.set (e0.fKids ++ [(K01.mk 0 0 [] [])]) (Int.toNat (e0.fKids.length : Int)) (K01.mk 1 0 [] [])))),b1)
  else
  if (decide ((e0.fKids.length : Int) > 1)) = true then
  (idx e0.fKids 0) >>= fun c1 =>
  (idx e0.fKids 1) >>= fun c3 =>
  (idx e0.fKids 0) >>= fun c4 =>
  (idx (List.set e0.fKids (Int.toNat 0) c3) 1) >>= fun c5 =>
  some ((List.set xs (Int.toNat ix) (K01.mk e0.fOp e0.fN e0.fType (List.set (List.set e0.fKids (Int.toNat 0) c3) (Int.toNat 1) c1))),b1)
  else
  some (xs,b1)
 partial_fixpoint
def Kij (p : K02 × (List K01) × Int) (r : List K01 × K02) : Prop :=
 match p with
 | (c0,xs,ix) => ∀ c : Ctx,c.nt = 108 → ∀ (v4 v5 : Value) (e0 : K01),idx xs ix = some e0 → ∀ a w,SRx c (mkS [(0,.ra 1000 0),(4,.raw v4),(5,.raw v5),(6,.ea 1001 4 (Int.toNat ix) 0)] [(1000,K21 c0),(1001,.arx (List.map K0k xs) (Int.toNat ix) 3 1002),(1002,rM K0k e0.fKids)]) a w → WpR Tryz.prog (cl (cl (cl (cr (cr (cr (cr K6n))))))) (Qfv Tryz.prog c 0 (cl (cr (cr (cr (cr (cr K6n)))))) (mkS [(4,.raw v4),(5,.raw v5)] [(1000,K21 r.2),(1001,rM K0h r.1)])) a w
theorem Kik : ∀ p r,Kii p = some r → Kij p r := by
 refine Kii.partial_correctness Kij ?_
 rintro spec_dSpoil_l0_f spec_dSpoil_l0_ih ⟨c0,xs,ix⟩ r h
 intro c hc v4 v5 e0 he0 a w hs
 refine WpR.deep (σ := mkS [(0,.ra 1000 0),(4,.raw v4),(5,.raw v5),(6,.ea 1001 4 (Int.toNat ix) 0)] [(1000,K21 c0),(1001,.arx (List.map K0k xs) (Int.toNat ix) 3 1002),(1002,rM K0k e0.fKids)]) ?_ hs
 clear hs a w
 obtain ⟨e0,he1,h⟩ := Qe5 h
 obtain rfl := Option.some.inj (he0.symm.trans he1)
 refine sN (sN ?_)
 obtain ⟨⟨a0,a4,a5,a6⟩,a7,h⟩ := Qe5 h
 refine Wp.into (x := .normal) (mkS [(0,.ra 1000 0),(4,.raw v4),(5,.raw v5),(6,.ea 1001 4 (Int.toNat ix) 0),(24,.bool a6)] [(1000,.box [sM U8 a0,I a4,I a5]),(1001,.arx (List.map K0k xs) (Int.toNat ix) 3 1002),(1002,rM K0k e0.fKids)]) ?_ ?_
 ·replace h := a7
  rcases is h with ⟨a8,h⟩ | ⟨a8,h⟩
  ·obtain ⟨⟨a9,b1⟩,b2,h⟩ := Qe5 h
   obtain ⟨rfl,hq0⟩ := Prod.mk.inj (os h)
   obtain ⟨rfl,hq1⟩ := Prod.mk.inj (hq0)
   obtain ⟨rfl,rfl⟩ := Prod.mk.inj (hq1)
   exact rj hc none [oN,oN,oN,eL (K2f e0),nQ ⟨[(18,I (e0.fKids.length : Int))],[],[]⟩,oN,oN,oN,some (.call (I a9) [K23 b1,.undef] 1),oN,oT] (ab (And.intro (Qe9 he0 (K0q e0)).2 (rfl : Int.toNat ix = Int.toNat ix)) (Qeb (d := 18) K0k e0.fKids) (ar 2 a8 (ab (Ka4 _ _ b2) K3m (ar 2 a8 tv))))
  obtain ⟨rfl,hq0⟩ := Prod.mk.inj (os h)
  obtain ⟨rfl,hq1⟩ := Prod.mk.inj (hq0)
  obtain ⟨rfl,rfl⟩ := Prod.mk.inj (hq1)
  exact rj hc none [oN,oN,oN,eL (K2f e0),nQ ⟨[(18,I (e0.fKids.length : Int))],[],[]⟩,oN,oN,o_,o_,o_,oF] (ab (And.intro (Qe9 he0 (K0q e0)).2 (rfl : Int.toNat ix = Int.toNat ix)) (Qeb (d := 18) K0k e0.fKids) (ar 3 (neT a8) (ai a8 tv)))
 clear a7
 refine ic h (fun b3 h => ?_) fun b3 h => ?_
 ·refine sk (bk 1 ?_)
  obtain ⟨⟨b4,b5⟩,b6,h⟩ := Qe5 h
  obtain ⟨b7,b8,h⟩ := Qe5 h
  refine rg hc (rx [[0],[1],[2],[3],[0],[0],[0,5],[0,5,6],[0,5,6,7],[0,5,6,7,8],[0,4,5,6,7,8,9],[11],[12]]) ([oN,oN,oN,eL (K2f e0)]++nN 4 [eL (K2f e0),nQ ⟨[(34,I (e0.fKids.length : Int))],[],[]⟩,some (.call (I b4) [K23 b5,.undef] 1),oN,oN]) [(0,.ra 1000 0),(4,.raw v4),(5,.raw v5),(6,.ea 1002 4 (Int.toNat b4) 0)] [(1000,K21 b5),(1001,.arx (List.map K0k xs) (Int.toNat ix) 3 1002),(1002,rM K0k e0.fKids)] (ar 2 (And.intro (Qe9 he0 (K0q e0)).2 (rfl : Int.toNat ix = Int.toNat ix)) (ad (Qeb (d := 34) K0k e0.fKids) (Ka4 _ _ b6) K3m (Qea (enc := K0k) b8) tv)) ?_
  obtain ⟨⟨ks,c2⟩,hz,h⟩ := Qe5 h
  obtain rfl := os h
  intro a1 w1 hs1
  have hs2 := SRx.openL 1002 (Int.toNat b4) 3 8 [8,1000,1001,1002] (O' := [(8,rM K0k b7.fKids),(1000,K21 b5),(1001,.arx (List.map K0k xs) (Int.toNat ix) 3 1002),(1002,.arx (List.map K0k e0.fKids) (Int.toNat b4) 3 8)]) (xs := List.map K0k e0.fKids) (ys := List.map K0k b7.fKids) (x0 := K2f b7) hs1 (by kernel_rfl) (Qe9 b8 (K0q b7)).2 (by kernel_rfl) (by kernel_rfl) (by kernel_rfl)
  obtain ⟨c',hc',hz1,hout⟩ := SRx.zoomB (T' := [(0,.ra 1000 0),(4,.raw v4),(5,.raw v5),(6,.ea 1001 4 (Int.toNat b4) 0)]) (O' := [(1000,K21 b5),(1001,.arx (List.map K0k e0.fKids) (Int.toNat b4) 3 1002),(1002,rM K0k b7.fKids)]) [(1000,1000),(1001,1002),(1002,8)] hs2 (by intro p hp; simp only [List.mem_cons,List.not_mem_nil,or_false] at hp; rcases hp with rfl | rfl | rfl | rfl <;> exact .inr (by kernel_rfl)) (by kernel_rfl) (by kernel_rfl)
  refine WpR.mono (spec_dSpoil_l0_ih _ _ hz c' (hc'.trans hc) v4 v5 b7 b8 a1 w1 hz1) (fun e a2 w2 hd => Qfv.mono (fun a3 w3 h3 => ?_) hd)
  have h4 := hout a3 w3 [(4,.raw v4),(5,.raw v5)] [(1000,K21 c2),(1001,rM K0h ks)] h3 (by kernel_rfl) [(4,.raw v4),(5,.raw v5)] [(1000,K21 c2),(1001,.arx (List.map K0k xs) (Int.toNat ix) 3 1002),(1002,rM K0h ks)] (by intro p hp; simp only [List.mem_cons,List.not_mem_nil,or_false] at hp; rcases hp with rfl | rfl <;> exact .inl ⟨rfl,by kernel_rfl⟩) (by intro p hp; simp only [List.mem_cons,List.not_mem_nil,or_false] at hp; rcases hp with rfl | rfl | rfl <;> first | exact .inr ⟨1000,rfl,rfl⟩ | exact .inr ⟨1001,rfl,rfl⟩ | exact .inl ⟨rfl,by kernel_rfl⟩)
  exact SRx.shareL 1001 [1000,1001] (xs := List.set (List.map K0k xs) (Int.toNat ix) (AV.agg [I e0.fOp,I e0.fN,oI e0.fType,oM K0h ks])) (xs' := List.map K0h (List.set xs (Int.toNat ix) (K01.mk e0.fOp e0.fN e0.fType ks))) (SRx.closeL 1001 (Int.toNat ix) 3 1002 [1000,1001] (O' := [(1000,K21 c2),(1001,.arr (List.set (List.map K0k xs) (Int.toNat ix) (AV.agg [I e0.fOp,I e0.fN,oI e0.fType,oM K0h ks])))]) (xs := List.map K0k xs) (ys := List.map K0h ks) (x0 := K2f e0) (x1 := AV.agg [I e0.fOp,I e0.fN,oI e0.fType,oM K0h ks]) h4 (by kernel_rfl) (by kernel_rfl) (by kernel_rfl) (Qe9 he0 (K0q e0)).2 (by kernel_rfl) (by kernel_rfl) rfl (by kernel_rfl)) (by kernel_rfl) (Qg3 (enc := K0k) (enc' := K0h) K1i (v := (K01.mk e0.fOp e0.fN e0.fType ks)) (x1 := AV.agg [I e0.fOp,I e0.fN,oI e0.fType,oM K0h ks]) (Kig (K1d _))) (by kernel_rfl)
 refine xt 0 (Qdh (Qfw.exit ?_))
 obtain ⟨⟨b9,c1⟩,c3,h⟩ := Qe5 h
 refine rs hc none [oN,some (.call (I b9) [K23 c1,.undef] 1)] [(0,.ra 1000 0),(4,.raw v4),(5,.raw v5),(6,.ea 1001 4 (Int.toNat ix) 0),(38,I b9)] [(1000,K21 c1),(1001,.arx (List.map K0k xs) (Int.toNat ix) 3 1002),(1002,rM K0k e0.fKids)] (ab (Ka4 _ _ c3) K3m tv) (bk 2 (K9e hc 2 [(0,.ra 1000 0),(4,.raw v4),(5,.raw v5),(6,.ea 1001 4 (Int.toNat ix) 0),(38,I b9),(68,.bool (b9 == 0))] (ic h (fun c4 h => ?_) fun c4 h => ?_)))
 ·refine Wp.view (fun a w hv => SRx.closeL 1001 (Int.toNat ix) 3 1002 [1000,1001] (xs := List.map K0k xs) (ys := List.map K0k e0.fKids) (x0 := K2f e0) (x1 := K2f e0) hv (by kernel_rfl) (by kernel_rfl) (by kernel_rfl) (Qe9 he0 (K0q e0)).2 (by kernel_rfl) (by kernel_rfl) (Qg4 (Qe9 he0 (K0q e0)).2) (by kernel_rfl)) (?_ : Wp Tryz.prog c _ _ (mkS [(0,.ra 1000 0),(4,.raw v4),(5,.raw v5),(6,.ea 1001 4 (Int.toNat ix) 0),(38,I b9),(68,.bool (b9 == 0))] [(1000,K21 c1),(1001,rM K0k xs)]))
  obtain ⟨⟨c5,c6⟩,c7,h⟩ := Qe5 h
  obtain rfl := os h
  exact rg hc none [oN,oN,some (.call (I c5) [K23 c6,.undef] 1),oN,oN,oN,some (.eqv (.el (K2f e0)) ⟨[],[(1001,some (.arr (List.map K0k (List.set xs (Int.toNat ix) (K01.mk (wr (c5 - 1)) e0.fN e0.fType e0.fKids)))))],[]⟩)] [(4,.raw v4),(5,.raw v5)] [(1000,K21 c6),(1001,.arr (List.map K0k (List.set xs (Int.toNat ix) (K01.mk (wr (c5 - 1)) e0.fN e0.fType e0.fKids))))] (ad (Ka4 _ _ c7) K3m (congrArg (fun z => (⟨[],[(1001,some (.arr z))],[]⟩ : Wr)) (Qf8 (enc := K0k) (i := Int.toNat ix) (l := xs) (v := (K01.mk (wr (c5 - 1)) e0.fN e0.fType e0.fKids)) (x := AV.agg [I (wr (c5 - 1)),I e0.fN,oI e0.fType,oM K0k e0.fKids]) (K0q (K01.mk (wr (c5 - 1)) e0.fN e0.fType e0.fKids)))) (Qe9 he0 (K0q e0)).2 tv) (Qdr.view (fun a w hv => SRx.renL [] (SRx.shareL 1001 [1000,1001] (O' := [(1000,K21 c6),(1001,.arr (List.map K0h (List.set xs (Int.toNat ix) (K01.mk (wr (c5 - 1)) e0.fN e0.fType e0.fKids))))]) (xs := List.map K0k (List.set xs (Int.toNat ix) (K01.mk (wr (c5 - 1)) e0.fN e0.fType e0.fKids))) (xs' := List.map K0h (List.set xs (Int.toNat ix) (K01.mk (wr (c5 - 1)) e0.fN e0.fType e0.fKids))) hv (by kernel_rfl) (K1i _) (by kernel_rfl)) (by kernel_rfl) (by kernel_rfl) (by kernel_rfl)))
 refine sN (K9h hc 2 [68] [(76,.bool (b9 == 1))] ?_)
 obtain ⟨c8,c9,h⟩ := Qe5 h
 refine Wp.into (x := .normal) (mkS [(0,.ra 1000 0),(4,.raw v4),(5,.raw v5),(6,.ea 1001 4 (Int.toNat ix) 0),(38,I b9),(76,.bool c8)] [(1000,K21 c1),(1001,.arx (List.map K0k xs) (Int.toNat ix) 3 1002),(1002,rM K0k e0.fKids)]) ?_ ?_
 ·replace h := c9
  refine ic h (fun d0 h => ?_) fun d0 h => ?_
  ·obtain rfl := os h
   exact sk im
  obtain rfl := os h
  exact rj0 hc 2
 clear c9
 refine ic h (fun d1 h => ?_) fun d1 h => ?_
 ·refine Wp.view (fun a w hv => SRx.closeL 1001 (Int.toNat ix) 3 1002 [1000,1001] (xs := List.map K0k xs) (ys := List.map K0k e0.fKids) (x0 := K2f e0) (x1 := K2f e0) hv (by kernel_rfl) (by kernel_rfl) (by kernel_rfl) (Qe9 he0 (K0q e0)).2 (by kernel_rfl) (by kernel_rfl) (Qg4 (Qe9 he0 (K0q e0)).2) (by kernel_rfl)) (?_ : Wp Tryz.prog c _ _ (mkS [(0,.ra 1000 0),(4,.raw v4),(5,.raw v5),(6,.ea 1001 4 (Int.toNat ix) 0),(38,I b9),(76,.bool c8)] [(1000,K21 c1),(1001,rM K0k xs)]))
  obtain ⟨⟨d2,d3⟩,d4,h⟩ := Qe5 h
  obtain rfl := os h
  exact rg hc none [oN,oN,some (.call .undef [] 9),some (.call (I d2) [K23 d3,.undef] 1),oN,oN,some (.eqv (.el (K2f e0)) ⟨[],[(1001,some (rM K0k (List.set xs (Int.toNat ix) (K01.mk e0.fOp d2 e0.fType e0.fKids))))],[]⟩)] [(4,.raw v4),(5,.raw v5)] [(1000,K21 d3),(1001,rM K0k (List.set xs (Int.toNat ix) (K01.mk e0.fOp d2 e0.fType e0.fKids)))] (ad (Ki2 _ _ d4) K6j (congrArg (fun z => (⟨[],[(1001,some (.arr z))],[]⟩ : Wr)) (Qf8 (enc := K0k) (i := Int.toNat ix) (l := xs) (v := (K01.mk e0.fOp d2 e0.fType e0.fKids)) (x := AV.agg [I e0.fOp,I d2,oI e0.fType,oM K0k e0.fKids]) (K0q (K01.mk e0.fOp d2 e0.fType e0.fKids)))) (Qe9 he0 (K0q e0)).2 tv) (Qdr.view (fun a w hv => SRx.renL [] (SRx.shareL 1001 [1000,1001] (O' := [(1000,K21 d3),(1001,rM K0h (List.set xs (Int.toNat ix) (K01.mk e0.fOp d2 e0.fType e0.fKids)))]) (xs := List.map K0k (List.set xs (Int.toNat ix) (K01.mk e0.fOp d2 e0.fType e0.fKids))) (xs' := List.map K0h (List.set xs (Int.toNat ix) (K01.mk e0.fOp d2 e0.fType e0.fKids))) hv (by kernel_rfl) (K1i _) (by kernel_rfl)) (by kernel_rfl) (by kernel_rfl) (by kernel_rfl)))
 refine K9e hc 2 [(0,.ra 1000 0),(4,.raw v4),(5,.raw v5),(6,.ea 1001 4 (Int.toNat ix) 0),(38,I b9),(85,.bool (b9 == 3))] (ic h (fun d5 h => ?_) fun d5 h => ?_)
 ·refine Wp.view (fun a w hv => SRx.closeL 1001 (Int.toNat ix) 3 1002 [1000,1001] (xs := List.map K0k xs) (ys := List.map K0k e0.fKids) (x0 := K2f e0) (x1 := K2f e0) hv (by kernel_rfl) (by kernel_rfl) (by kernel_rfl) (Qe9 he0 (K0q e0)).2 (by kernel_rfl) (by kernel_rfl) (Qg4 (Qe9 he0 (K0q e0)).2) (by kernel_rfl)) (?_ : Wp Tryz.prog c _ _ (mkS [(0,.ra 1000 0),(4,.raw v4),(5,.raw v5),(6,.ea 1001 4 (Int.toNat ix) 0),(38,I b9),(85,.bool (b9 == 3))] [(1000,K21 c1),(1001,rM K0k xs)]))
  refine Wp.view (fun a w hv => SRx.shareL 1001 [1000,1001] (xs := List.map K0k xs) (xs' := List.map K0h xs) hv (by kernel_rfl) (K1i _) (by kernel_rfl)) (?_ : Wp Tryz.prog c _ _ (mkS [(0,.ra 1000 0),(4,.raw v4),(5,.raw v5),(6,.ea 1001 4 (Int.toNat ix) 0),(38,I b9),(85,.bool (b9 == 3))] [(1000,K21 c1),(1001,rM K0h xs)]))
  obtain ⟨⟨d6,d7⟩,d8,h⟩ := Qe5 h
  obtain rfl := os h
  exact rg hc none [oN,oN,some (.call .undef [] 10),some (.call (I d6) [K23 d7,.undef] 1),some (.call .undef [] 11),oN,oN,some (.eqv (.el (K1z e0)) ⟨[],[(1001,some (rM K0h (List.set xs (Int.toNat ix) (K01.mk e0.fOp e0.fN [d6] e0.fKids))))],[]⟩)] [(4,.raw v4),(5,.raw v5)] [(1000,K21 d7),(1001,rM K0h (List.set xs (Int.toNat ix) (K01.mk e0.fOp e0.fN [d6] e0.fKids)))] (ad (Ki2 _ _ d8) K6j (congrArg (fun z => (⟨[],[(1001,some (.arr z))],[]⟩ : Wr)) (Qf8 (enc := K0h) (i := Int.toNat ix) (l := xs) (v := (K01.mk e0.fOp e0.fN [d6] e0.fKids)) (x := AV.agg [I e0.fOp,I e0.fN,.sl (List.map I [d6]),sM K0h e0.fKids]) (K0o (K01.mk e0.fOp e0.fN [d6] e0.fKids)))) (Qe9 he0 (K0o e0)).2 tv) (Qdr.view (fun a w hv => SRx.renL [] (hv) (by kernel_rfl) (by kernel_rfl) (by kernel_rfl)))
 refine K9h hc 2 [0,38,85] [(94,.bool (b9 == 4))] (ic h (fun d9 h => ?_) fun d9 h => ?_)
 ·obtain ⟨_,e3,e4,e5,h⟩ := bq2 h
  obtain rfl := os h
  exact rgd hc (rx [[0],[1],[2],[3],[0],[4],[0],[7],[8],[9],[8],[8,10],[8,10,11]]) [oN,oN,oN,eL (K2f e0),oN,nQ ⟨[(101,I (e0.fKids.length : Int))],[],[]⟩,some (.eqv (.mk 12 true) ⟨[(102,.rs 12)],[(12,some (.arr (List.map K0k [(K01.mk 0 0 [] [])])))],[12]⟩),some (.eqv (.mk 13 true) ⟨[(103,.rs 13)],[(13,some (rM K0k (e0.fKids ++ [(K01.mk 0 0 [] [])]))),(1002,none),(12,none)],[13]⟩),oN,some (.eqv (.mk 0 true) ⟨[],[(13,some (.arr (List.map K0k (List.set (e0.fKids ++ [(K01.mk 0 0 [] [])]) (Int.toNat (e0.fKids.length : Int)) (K01.mk 1 0 [] [])))))],[]⟩),oN,oN,eL (K2f e0)] [94,6] [] [(13,.arr (List.map K0k (List.set (e0.fKids ++ [(K01.mk 0 0 [] [])]) (Int.toNat (e0.fKids.length : Int)) (K01.mk 1 0 [] [])))),(1000,K21 c1),(1001,.arx (List.map K0k xs) (Int.toNat ix) 3 13)] (ad (And.intro (Qe9 he0 (K0q e0)).2 (rfl : Int.toNat ix = Int.toNat ix)) (Qeb (d := 101) K0k e0.fKids) (congrArg (fun z => (⟨[(102,.rs 12)],[(12,some (.arr z))],[12]⟩ : Wr)) ((Qfc (K0q (K01.mk 0 0 [] [])) Qfb) : [AV.agg [I 0,I 0,AV.osl [],AV.osl []]] = List.map K0k [(K01.mk 0 0 [] [])])) (congrArg (fun z => (⟨[(103,.rs 13)],[(13,some (.arr z)),(1002,none),(12,none)],[13]⟩ : Wr)) ((List.map_append).symm : (List.map K0k e0.fKids) ++ (List.map K0k [(K01.mk 0 0 [] [])]) = List.map K0k (e0.fKids ++ [(K01.mk 0 0 [] [])]))) (ad (Qej (enc1 := K0k) (enc2 := K0k) (e1 := e0.fKids) (e2 := [(K01.mk 0 0 [] [])]) (sz := 4) K1f K1f e3) (Qea (enc := K0k) e5) (congrArg (fun z => (⟨[],[(13,some (.arr z))],[]⟩ : Wr)) (Qf8 (enc := K0k) (i := Int.toNat (e0.fKids.length : Int)) (l := (e0.fKids ++ [(K01.mk 0 0 [] [])])) (v := (K01.mk 1 0 [] [])) (x := AV.agg [I 1,I 0,AV.osl [],AV.osl []]) (K0q (K01.mk 1 0 [] [])))) (Qf9 (enc := K0k) (sz := 4) K1e e5) (ai (And.intro (Qe9 he0 (K0q e0)).2 (rfl : Int.toNat ix = Int.toNat ix)) tv))) (Qdr.view (fun a w hv => SRx.renL [] (SRx.shareL 1001 [1000,1001] (O' := [(1000,K21 c1),(1001,.arr (List.map K0h (List.set xs (Int.toNat ix) (K01.mk e0.fOp e0.fN e0.fType (List.set (e0.fKids ++ [(K01.mk 0 0 [] [])]) (Int.toNat (e0.fKids.length : Int)) (K01.mk 1 0 [] []))))))]) (xs := List.set (List.map K0k xs) (Int.toNat ix) (AV.agg [I e0.fOp,I e0.fN,oI e0.fType,.osl (List.map K0k (List.set (e0.fKids ++ [(K01.mk 0 0 [] [])]) (Int.toNat (e0.fKids.length : Int)) (K01.mk 1 0 [] [])))])) (xs' := List.map K0h (List.set xs (Int.toNat ix) (K01.mk e0.fOp e0.fN e0.fType (List.set (e0.fKids ++ [(K01.mk 0 0 [] [])]) (Int.toNat (e0.fKids.length : Int)) (K01.mk 1 0 [] []))))) (SRx.closeL 1001 (Int.toNat ix) 3 13 [1000,1001] (O' := [(1000,K21 c1),(1001,.arr (List.set (List.map K0k xs) (Int.toNat ix) (AV.agg [I e0.fOp,I e0.fN,oI e0.fType,.osl (List.map K0k (List.set (e0.fKids ++ [(K01.mk 0 0 [] [])]) (Int.toNat (e0.fKids.length : Int)) (K01.mk 1 0 [] [])))])))]) (xs := List.map K0k xs) (ys := List.map K0k (List.set (e0.fKids ++ [(K01.mk 0 0 [] [])]) (Int.toNat (e0.fKids.length : Int)) (K01.mk 1 0 [] []))) (x0 := K2f e0) (x1 := AV.agg [I e0.fOp,I e0.fN,oI e0.fType,.osl (List.map K0k (List.set (e0.fKids ++ [(K01.mk 0 0 [] [])]) (Int.toNat (e0.fKids.length : Int)) (K01.mk 1 0 [] [])))]) hv (by kernel_rfl) (by kernel_rfl) (by kernel_rfl) (Qe9 he0 (K0q e0)).2 (by kernel_rfl) (by kernel_rfl) rfl (by kernel_rfl)) (by kernel_rfl) (Qg3 (enc := K0k) (enc' := K0h) K1i (v := (K01.mk e0.fOp e0.fN e0.fType (List.set (e0.fKids ++ [(K01.mk 0 0 [] [])]) (Int.toNat (e0.fKids.length : Int)) (K01.mk 1 0 [] [])))) (x1 := AV.agg [I e0.fOp,I e0.fN,oI e0.fType,.osl (List.map K0k (List.set (e0.fKids ++ [(K01.mk 0 0 [] [])]) (Int.toNat (e0.fKids.length : Int)) (K01.mk 1 0 [] [])))]) (Kig (K1i _))) (by kernel_rfl)) (by kernel_rfl) (by kernel_rfl) (by kernel_rfl)))
 refine rss hc none [oN,oN,oN,eL (K2f e0),nQ ⟨[(43,I (e0.fKids.length : Int))],[],[]⟩,oN] [(4,.raw v4),(5,.raw v5),(6,.ea 1001 4 (Int.toNat ix) 0),(44,.bool (decide ((e0.fKids.length : Int) > 1)))] (ab (And.intro (Qe9 he0 (K0q e0)).2 (rfl : Int.toNat ix = Int.toNat ix)) (Qeb (d := 43) K0k e0.fKids) tv) (ic h (fun e6 h => ?_) fun e6 h => ?_)
 ·refine sN (Wp.view (fun a w hv => SRx.shareL 1002 [1000,1001,1002] (xs := List.map K0k e0.fKids) (xs' := List.map K0h e0.fKids) hv (by kernel_rfl) (K1i _) (by kernel_rfl)) (?_ : Wp Tryz.prog c _ _ (mkS [(4,.raw v4),(5,.raw v5),(6,.ea 1001 4 (Int.toNat ix) 0),(44,.bool (decide ((e0.fKids.length : Int) > 1)))] [(1000,K21 c1),(1001,.arx (List.map K0k xs) (Int.toNat ix) 3 1002),(1002,rM K0h e0.fKids)])))
  obtain ⟨e7,e8,h⟩ := Qe5 h
  refine rg hc none [oN,oN,oN,eL (K2f e0),oN,eL (K1z e7),nW 14,oN] [(4,.raw v4),(5,.raw v5),(6,.ea 1001 4 (Int.toNat ix) 0),(7,.ra 14 0)] [(14,K1y e7),(1000,K21 c1),(1001,.arx (List.map K0k xs) (Int.toNat ix) 3 1002),(1002,rM K0h e0.fKids)] (ac (And.intro (Qe9 he0 (K0q e0)).2 (rfl : Int.toNat ix = Int.toNat ix)) (Qea (enc := K0h) e8) (Qe9 e8 (K0o e7)).2 tv) ?_
  obtain ⟨e9,f0,f1,f2,h⟩ := bq2 h
  refine rsd hc (rx [[0],[1],[2],[3],[0],[0,4],[0,4,5],[0,4,5,6],[0,4,5,6,7],[0,4,5,6,7,8],[10],[11]]) [oN,oN,oN,eL (K2f e0),oN,oN,oN,eL (K2f e0),oN,eL (K1z e9),oN,some (.eqv (.mk 0 false) ⟨[],[(1002,some (rM K0h (List.set e0.fKids (Int.toNat 0) e9)))],[]⟩)] [] [] [(14,K1y e7),(1000,K21 c1),(1001,.arx (List.map K0k xs) (Int.toNat ix) 3 1002),(1002,rM K0h (List.set e0.fKids (Int.toNat 0) e9))] (ar 2 (And.intro (Qe9 he0 (K0q e0)).2 (rfl : Int.toNat ix = Int.toNat ix)) (ad (Qea (enc := K0h) f0) (Qe9 f0 (K0o e9)).2 (Qea (enc := K0h) f2) (congrArg (fun z => (⟨[],[(1002,some (.arr z))],[]⟩ : Wr)) (Qf8 (enc := K0h) (i := Int.toNat 0) (l := e0.fKids) (v := e9) (x := K1z e9) (K0o e9))) (ai (Qf9 (enc := K0h) (sz := 4) K1b f2) tv))) ?_
  obtain ⟨f3,f4,h⟩ := Qe5 h
  obtain rfl := os h
  exact rgd hc (rh [0,1,2,3,0,5,6]) [oN,oN,oN,eL (K2f e0),oN,oN,some (.eqv (.mk 0 false) ⟨[],[(1002,some (.arr (List.map K0h (List.set (List.set e0.fKids (Int.toNat 0) e9) (Int.toNat 1) e7))))],[]⟩)] [6,7] [] [(1000,K21 c1),(1001,.arx (List.map K0k xs) (Int.toNat ix) 3 1002),(1002,.arr (List.map K0h (List.set (List.set e0.fKids (Int.toNat 0) e9) (Int.toNat 1) e7)))] (ad (And.intro (Qe9 he0 (K0q e0)).2 (rfl : Int.toNat ix = Int.toNat ix)) (Qea (enc := K0h) f4) (congrArg (fun z => (⟨[],[(1002,some (.arr z))],[]⟩ : Wr)) (Qf8 (enc := K0h) (i := Int.toNat 1) (l := (List.set e0.fKids (Int.toNat 0) e9)) (v := e7) (x := K1z e7) (K0o e7))) (Qf9 (enc := K0h) (sz := 4) K1b f4) tv) (Qdr.view (fun a w hv => SRx.renL [] (SRx.shareL 1001 [1000,1001] (O' := [(1000,K21 c1),(1001,.arr (List.map K0h (List.set xs (Int.toNat ix) (K01.mk e0.fOp e0.fN e0.fType (List.set (List.set e0.fKids (Int.toNat 0) e9) (Int.toNat 1) e7)))))]) (xs := List.set (List.map K0k xs) (Int.toNat ix) (AV.agg [I e0.fOp,I e0.fN,oI e0.fType,.osl (List.map K0h (List.set (List.set e0.fKids (Int.toNat 0) e9) (Int.toNat 1) e7))])) (xs' := List.map K0h (List.set xs (Int.toNat ix) (K01.mk e0.fOp e0.fN e0.fType (List.set (List.set e0.fKids (Int.toNat 0) e9) (Int.toNat 1) e7)))) (SRx.closeL 1001 (Int.toNat ix) 3 1002 [1000,1001] (O' := [(1000,K21 c1),(1001,.arr (List.set (List.map K0k xs) (Int.toNat ix) (AV.agg [I e0.fOp,I e0.fN,oI e0.fType,.osl (List.map K0h (List.set (List.set e0.fKids (Int.toNat 0) e9) (Int.toNat 1) e7))])))]) (xs := List.map K0k xs) (ys := List.map K0h (List.set (List.set e0.fKids (Int.toNat 0) e9) (Int.toNat 1) e7)) (x0 := K2f e0) (x1 := AV.agg [I e0.fOp,I e0.fN,oI e0.fType,.osl (List.map K0h (List.set (List.set e0.fKids (Int.toNat 0) e9) (Int.toNat 1) e7))]) hv (by kernel_rfl) (by kernel_rfl) (by kernel_rfl) (Qe9 he0 (K0q e0)).2 (by kernel_rfl) (by kernel_rfl) rfl (by kernel_rfl)) (by kernel_rfl) (Qg3 (enc := K0k) (enc' := K0h) K1i (v := (K01.mk e0.fOp e0.fN e0.fType (List.set (List.set e0.fKids (Int.toNat 0) e9) (Int.toNat 1) e7))) (x1 := AV.agg [I e0.fOp,I e0.fN,oI e0.fType,.osl (List.map K0h (List.set (List.set e0.fKids (Int.toNat 0) e9) (Int.toNat 1) e7))]) (Kig (K1d _))) (by kernel_rfl)) (by kernel_rfl) (by kernel_rfl) (by kernel_rfl)))
 obtain rfl := os h
 exact sk (Qdr.view (fun a w hv => SRx.renL [] (SRx.shareL 1001 [1000,1001] (O' := [(1000,K21 c1),(1001,rM K0h xs)]) (xs := List.set (List.map K0k xs) (Int.toNat ix) (K2f e0)) (xs' := List.map K0h xs) (SRx.closeL 1001 (Int.toNat ix) 3 1002 [1000,1001] (O' := [(1000,K21 c1),(1001,.arr (List.set (List.map K0k xs) (Int.toNat ix) (K2f e0)))]) (xs := List.map K0k xs) (ys := List.map K0k e0.fKids) (x0 := K2f e0) (x1 := K2f e0) hv (by kernel_rfl) (by kernel_rfl) (by kernel_rfl) (Qe9 he0 (K0q e0)).2 (by kernel_rfl) (by kernel_rfl) rfl (by kernel_rfl)) (by kernel_rfl) ((Qg3 (enc := K0k) (enc' := K0h) K1i (v := (K01.mk e0.fOp e0.fN e0.fType e0.fKids)) (x1 := K2f e0) (Kig (K1i _))).trans (congrArg (List.map K0h) ((congrArg (List.set xs (Int.toNat ix)) (Kih e0)).trans (Qg4 (Qe8 he0).2)))) (by kernel_rfl)) (by kernel_rfl) (by kernel_rfl) (by kernel_rfl)))
def Kil (p : K02 × K01) : Option (K01 × K02) :=
 match p with
 | (c0,t1) =>
  (Ka5 (c0,6)) >>= fun (a0,a1) =>
  if a0 = true then
  (Kgm (t1,0,0)) >>= fun a2 =>
  (Kii (a1,[a2],0)) >>= fun (a3,a4) =>
  (idx a3 0) >>= fun a5 =>
  some (a5,a4)
  else
  some (t1,a1)
def Kim (p : K02 × K01) (r : K01 × K02) : Prop :=
 match p with
 | (c0,t1) => Q77 Tryz.prog 105 [K23 c0,K1z t1] (K1z r.1) [K23 r.2,.undef]
theorem Kin : ∀ p r,Kil p = some r → Kim p r := by
 rintro ⟨c0,t1⟩ r h
 unfold Kil at h
 refine Q77.bodyO K3d (fn := Tryz.f105) (code := K6n) (by kernel_rfl) (by kernel_rfl) (by kernel_rfl) (nt := 108) (by kernel_rfl) (by kernel_rfl) (T := [(0,.ra 1000 0),(1,K1z t1)]) (O := [(1000,K21 c0)]) (by kernel_rfl) (by kernel_rfl) (fun c hc => ?_)
 refine rs hc none [nW 1,nW 2] [(0,.ra 1000 0),(3,.ra 1 0),(4,.ra 2 0)] [(1,K1y t1),(2,zT),(1000,K21 c0)] tv (sN ?_)
 obtain ⟨⟨a0,a1⟩,a4,h⟩ := Qe5 h
 refine rsd hc none [oN,some (.call (.bool a0) [K23 a1,.undef] 1),oN] [] [(10,.bool (!a0))] [(1,K1y t1),(2,zT),(1000,K21 a1)] (ab (Ka7 _ _ a4) K3n tv) ?_
 rcases is h with ⟨a5,h⟩ | ⟨a5,h⟩
 ·refine cF (!a0) (nF a5) (sk ?_)
  obtain ⟨a6,a7,h⟩ := Qe5 h
  refine rsd hc none [oN,some (.call (K2f a6) [] 3),nW 5,oN] [10,3] [(5,.ra 5 0)] [(2,zT),(3,rI a6.fType),(4,rM K0k a6.fKids),(5,.box [I a6.fOp,I a6.fN,.rs 3,.rs 4]),(1000,K21 a1)] (cq (Kgr _ _ a7) K6b tv) (K9e hc 1 [(0,.ra 1000 0),(4,.ra 2 0),(5,.ra 5 0),(6,.ra 5 0)] ?_)
  obtain ⟨⟨a8,a9⟩,b1,h⟩ := Qe5 h
  refine Wp.view (fun a w hv => SRx.boxRowL 5 6 [2,6,1000] (cs := [I a6.fOp,I a6.fN,.rs 3,.rs 4]) (x1 := K0k a6) hv (by kernel_rfl) (by kernel_rfl) (by kernel_rfl) ((by kernel_rfl : _ = K2f a6).trans (K0q a6).symm) (by kernel_rfl) (by kernel_rfl)) (?_ : Wp Tryz.prog c _ _ (mkS [(0,.ra 1000 0),(4,.ra 2 0),(5,.ea 6 4 (Int.toNat 0) 0),(6,.ea 6 4 (Int.toNat 0) 0)] [(2,zT),(6,.arr (List.map K0k [a6])),(1000,K21 a1)]))
  refine Wp.view (fun a w hv => SRx.openL 6 (Int.toNat 0) 3 7 [2,6,7,1000] (xs := List.map K0k [a6]) (ys := List.map K0k a6.fKids) (x0 := K2f a6) hv (by kernel_rfl) (Qe9 (enc := K0k) (i := 0) (l := [a6]) (x := K2f a6) rfl (K0q a6)).2 (by kernel_rfl) (by kernel_rfl) (by kernel_rfl)) (?_ : Wp Tryz.prog c _ _ (mkS [(0,.ra 1000 0),(4,.ra 2 0),(5,.ea 6 4 (Int.toNat 0) 0),(6,.ea 6 4 (Int.toNat 0) 0)] [(2,zT),(6,.arx (List.map K0k [a6]) (Int.toNat 0) 3 7),(7,rM K0k a6.fKids),(1000,K21 a1)]))
  refine Wp.descend (mkS [(4,.ra 2 0),(5,.ea 6 4 (Int.toNat 0) 0)] [(2,zT),(6,rM K0h a8),(1000,K21 a9)]) 0 (by kernel_rfl) (by kernel_rfl) (by kernel_rfl) (by kernel_rfl) (fun a w hv => ?_) ?_
  ·obtain ⟨c',hc',hz1,hout⟩ := SRx.zoomB (T' := [(0,.ra 1000 0),(4,.raw (a.tmps.getD 4 undef)),(5,.raw (a.tmps.getD 5 undef)),(6,.ea 1001 4 (Int.toNat 0) 0)]) (O' := [(1000,K21 a1),(1001,.arx (List.map K0k [a6]) (Int.toNat 0) 3 1002),(1002,rM K0k a6.fKids)]) [(1000,1000),(1001,6),(1002,7)] hv
    (by intro p hp; simp only [List.mem_cons,List.not_mem_nil,or_false] at hp; rcases hp with rfl | rfl | rfl | rfl <;> first | exact .inl ⟨rfl,by kernel_rfl⟩ | exact .inr (by kernel_rfl)) (by kernel_rfl) (by kernel_rfl)
   refine WpR.mono (Kik _ _ b1 c' (hc'.trans hc) (a.tmps.getD 4 undef) (a.tmps.getD 5 undef) a6 rfl a w hz1) (fun e a2 w2 hd => Qfv.mono (fun a3 w3 h3 => ?_) hd)
   exact hout a3 w3 [(4,.raw (a.tmps.getD 4 undef)),(5,.raw (a.tmps.getD 5 undef))] [(1000,K21 a9),(1001,rM K0h a8)] h3 (by kernel_rfl) [(4,.ra 2 0),(5,.ea 6 4 (Int.toNat 0) 0)] [(2,zT),(6,rM K0h a8),(1000,K21 a9)] (by intro p hp; simp only [List.mem_cons,List.not_mem_nil,or_false] at hp; rcases hp with rfl | rfl <;> exact .inr ⟨rfl,rfl⟩) (by intro p hp; simp only [List.mem_cons,List.not_mem_nil,or_false] at hp; rcases hp with rfl | rfl | rfl <;> first | exact .inr ⟨1000,rfl,rfl⟩ | exact .inr ⟨1001,rfl,rfl⟩ | exact .inl ⟨rfl,by kernel_rfl⟩)
  obtain ⟨b2,b3,h⟩ := Qe5 h
  obtain rfl := os h
  exact rs hc none [eL (K1z b2),oN] [(4,.ra 2 0)] [(2,K1y b2),(1000,K21 a9)] (ai (Qe9 b3 (K0o b2)).2 tv) (rt (rr [false]))
 refine cT (!a0) (nT a5) ?_
 obtain rfl := os h
 exact K9f hc 2 [10,0,3] [] [(2,K1y t1),(1000,K21 a1)] (rt (rr [false]))
def Kio (code0 : (List Int)) : Option (K00 × LL × K01) :=
 (K9q code0) >>= fun a0 =>
 (K9w code0) >>= fun a1 =>
 (Ka5 (a0,2)) >>= fun (a2,a3) =>
 (Khx (a3,a1,3,a2)) >>= fun (a4,a5,a6,a7) =>
 (Ka5 (a7,20)) >>= fun (a8,a9) =>
 ((
 if a8 = true then
 (Ki6 a9) >>= fun (b1,b2) =>
 some ((b2.fb,b2.fi,b2.fh,b1.fSize,b1.fPlus,b1.fTimes,b1.fBelow))
 else
 some ((a9.fb,a9.fi,a9.fh,a4.fSize,a4.fPlus,a4.fTimes,a4.fBelow))
 ) : Option ((List Int) × Int × Int × Int × (List Int) × (List Int) × (List Bool))) >>= fun (b3,b4,b5,b6,b7,b8,b9) =>
 (Ka5 ((K02.mk b3 b4 b5),20)) >>= fun (c0,c1) =>
 ((
 if c0 = true then
 (Kid (c1,(K00.mk b6 b7 b8 b9))) >>= fun (c2,c3) =>
 (Qei (a5.length + [c2].length) 24) >>= fun _ =>
 some ((c3.fb,c3.fi,c3.fh,(a5 ++ [c2])))
 else
 some ((c1.fb,c1.fi,c1.fh,a5))
 ) : Option ((List Int) × Int × Int × LL)) >>= fun (c4,c5,c6,c7) =>
 (Ka5 ((K02.mk c4 c5 c6),4)) >>= fun (c8,c9) =>
 ((
 if c8 = true then
 (Kil (c9,a6)) >>= fun (d0,d1) =>
 some ((d0.fOp,d0.fN,d0.fType,d0.fKids))
 else
 some ((a6.fOp,a6.fN,a6.fType,a6.fKids))
 ) : Option (Int × Int × (List Int) × (List K01))) >>= fun (d2,d3,d4,d5) =>
 some ((K00.mk b6 b7 b8 b9),c7,(K01.mk d2 d3 d4 d5))
def Kip (code0 : (List Int)) (r : K00 × LL × K01) : Prop :=
 Q77 Tryz.prog 60 [sM U8 code0] (.tup [K1w r.1,.osl (List.map K14 r.2.1),K1z r.2.2]) []
theorem Kiq : ∀ p r,Kio p = some r → Kip p r := by
 rintro code0 r h
 unfold Kio at h
 refine b0 Tryz.f60 B60 41 [(0,sM U8 code0)] fun c hc => (rsd hc none [nW 1,oN,nW 2] [] [(2,.ra 1 0),(4,.ra 2 0)] [(1,zS),(2,zT)] tv ?_)
 obtain ⟨a0,a1,h⟩ := Qe5 h
 refine rsd hc none [oN,some (.call (K23 a0) [.tup []] 3),oN] [] [(5,.ra 3 0)] [(1,zS),(2,zT),(3,K21 a0)] (ab (K9s _ _ a1) K3f tv) ?_
 obtain ⟨a2,a3,⟨a4,a5⟩,a6,h⟩ := bq2 h
 obtain ⟨⟨a7,a8,a9,b1⟩,b2,h⟩ := Qe5 h
 refine rsd hc none ([oN,oN,oc (I a2),oN,some (.call (.bool a4) [K23 a5,.undef] 1),some (.call (.tup [K1w a7,.osl (List.map K14 a8),K1z a9]) [K23 b1,.undef,.undef,.undef] 4)]++nN 4 [nW 5,nW 6,oN,oN,oN]) [0] [(6,.ra 5 0),(7,.rs 4),(8,.ra 6 0)] [(1,zS),(2,zT),(3,K21 b1),(4,rM K14 a8),(5,K1v a7),(6,K1y a9)] (cq (K9y _ _ a3) K3j (ad (Ka7 _ _ a6) K3n (Khz _ _ b2) K6h tv)) (sN ?_)
 obtain ⟨⟨b3,b4⟩,b5,h⟩ := Qe5 h
 refine rsd hc none [oN,some (.call (.bool b3) [K23 b4,.undef] 1)] [] [(22,.bool b3)] [(1,zS),(2,zT),(3,K21 b4),(4,rM K14 a8),(5,K1v a7),(6,K1y a9)] (ab (Ka7 _ _ b5) K3n tv) ?_
 obtain ⟨⟨b6,b7,b8,b9,c0,c1,c2⟩,c3,h⟩ := Qe5 h
 refine Wp.into (x := .normal) (mkS [(2,.ra 1 0),(4,.ra 2 0),(5,.ra 3 0),(6,.ra 5 0),(7,.rs 4),(8,.ra 6 0)] [(1,zS),(2,zT),(3,.box [sM U8 b6,I b7,I b8]),(4,rM K14 a8),(5,.box [I b9,sI c0,sI c1,sB c2]),(6,K1y a9)]) ?_ ?_
 ·replace h := c3
  refine ic h (fun c4 h => ?_) fun c4 h => ?_
  ·obtain ⟨⟨c5,c6⟩,c7,h⟩ := Qe5 h
   refine rgd hc none [oN,some (.call (K2d c5) [K23 c6] 7),oN] [22] [] [(1,zS),(2,zT),(3,K21 c6),(4,rM K14 a8),(5,.box [I c5.fSize,.rs 7,.rs 8,.rs 9]),(6,K1y a9),(7,rI c5.fPlus),(8,rI c5.fTimes),(9,rM AV.bool c5.fBelow)] (ab (Ki8 _ _ c7) K6l tv) ?_
   obtain ⟨rfl,hq0⟩ := Prod.mk.inj (os h)
   obtain ⟨rfl,hq1⟩ := Prod.mk.inj (hq0)
   obtain ⟨rfl,hq2⟩ := Prod.mk.inj (hq1)
   obtain ⟨rfl,hq3⟩ := Prod.mk.inj (hq2)
   obtain ⟨rfl,hq4⟩ := Prod.mk.inj (hq3)
   obtain ⟨rfl,rfl⟩ := Prod.mk.inj (hq4)
   exact Qdr.view (fun a w hv => SRx.renL [] (SRx.frzC 9 (xs := List.map AV.bool c5.fBelow) (xs' := List.map AV.bool c5.fBelow) (SRx.frzC 8 (xs := List.map I c5.fTimes) (xs' := List.map I c5.fTimes) (SRx.frzC 7 (xs := List.map I c5.fPlus) (xs' := List.map I c5.fPlus) hv (by kernel_rfl) (Qex _)) (by kernel_rfl) (Qex _)) (by kernel_rfl) (Qez _)) (by kernel_rfl) (by kernel_rfl) (by kernel_rfl))
  refine sk ?_
  obtain ⟨rfl,hq0⟩ := Prod.mk.inj (os h)
  obtain ⟨rfl,hq1⟩ := Prod.mk.inj (hq0)
  obtain ⟨rfl,hq2⟩ := Prod.mk.inj (hq1)
  obtain ⟨rfl,hq3⟩ := Prod.mk.inj (hq2)
  obtain ⟨rfl,hq4⟩ := Prod.mk.inj (hq3)
  obtain ⟨rfl,rfl⟩ := Prod.mk.inj (hq4)
  exact iv []
 clear c3
 refine sN ?_
 obtain ⟨⟨c8,c9⟩,d0,h⟩ := Qe5 h
 refine rsd hc none [oN,some (.call (.bool c8) [K23 c9,.undef] 1)] [] [(26,.bool c8)] [(1,zS),(2,zT),(3,K21 c9),(4,rM K14 a8),(5,.box [I b9,sI c0,sI c1,sB c2]),(6,K1y a9)] (ab (Ka7 _ _ d0) K3n tv) ?_
 obtain ⟨⟨d1,d2,d3,d4⟩,d5,h⟩ := Qe5 h
 refine Wp.into (x := .normal) (mkS [(2,.ra 1 0),(4,.ra 2 0),(5,.ra 3 0),(6,.ra 5 0),(7,.rs 11),(8,.ra 6 0)] [(1,zS),(2,zT),(3,.box [sM U8 d1,I d2,I d3]),(5,.box [I b9,sI c0,sI c1,sB c2]),(6,K1y a9),(11,rM K14 d4)]) ?_ ?_
 ·replace h := d5
  refine ic h (fun d6 h => ?_) fun d6 h => ?_
  ·obtain ⟨⟨d7,d8⟩,d9,h⟩ := Qe5 h
   obtain ⟨_,e0,h⟩ := Qe5 h
   obtain ⟨rfl,hq0⟩ := Prod.mk.inj (os h)
   obtain ⟨rfl,hq1⟩ := Prod.mk.inj (hq0)
   obtain ⟨rfl,rfl⟩ := Prod.mk.inj (hq1)
   exact rj hc none [oN,oN,oN,some (.call (sI d7) [K23 d8,.undef] 1),some (.mk 10 false),some (.eqv (.mk 11 true) ⟨[(32,.rs 11)],[(11,some (rM K14 (a8 ++ [d7]))),(4,none),(10,none)],[11]⟩),oN] (ad (Kif _ _ d9) K6m (congrArg (fun z => (⟨[(32,.rs 11)],[(11,some (.arr z)),(4,none),(10,none)],[11]⟩ : Wr)) ((List.map_append).symm : (List.map K14 a8) ++ (List.map K14 [d7]) = List.map K14 (a8 ++ [d7]))) (Qej (enc1 := K14) (enc2 := K14) (e1 := a8) (e2 := [d7]) (sz := 1) K17 K17 e0) tv)
  refine sk ?_
  obtain ⟨rfl,hq0⟩ := Prod.mk.inj (os h)
  obtain ⟨rfl,hq1⟩ := Prod.mk.inj (hq0)
  obtain ⟨rfl,rfl⟩ := Prod.mk.inj (hq1)
  exact iv [(11,4)]
 clear d5
 refine sN ?_
 obtain ⟨⟨e3,e4⟩,e5,h⟩ := Qe5 h
 refine rsd hc none [oN,some (.call (.bool e3) [K23 e4,.undef] 1)] [] [(34,.bool e3)] [(1,zS),(2,zT),(3,K21 e4),(5,.box [I b9,sI c0,sI c1,sB c2]),(6,K1y a9),(11,rM K14 d4)] (ab (Ka7 _ _ e5) K3n tv) ?_
 obtain ⟨⟨e6,e7,e8,e9⟩,f0,h⟩ := Qe5 h
 refine Wp.into (x := .normal) (mkS [(2,.ra 1 0),(4,.ra 2 0),(6,.ra 5 0),(7,.rs 11),(8,.ra 6 0)] [(1,zS),(2,zT),(5,.box [I b9,sI c0,sI c1,sB c2]),(6,.box [I e6,I e7,sI e8,sM K0h e9]),(11,rM K14 d4)]) ?_ ?_
 ·replace h := f0
  refine ic h (fun f1 h => ?_) fun f1 h => ?_
  ·obtain ⟨⟨f2,f3⟩,f4,h⟩ := Qe5 h
   obtain ⟨rfl,hq0⟩ := Prod.mk.inj (os h)
   obtain ⟨rfl,hq1⟩ := Prod.mk.inj (hq0)
   obtain ⟨rfl,rfl⟩ := Prod.mk.inj (hq1)
   exact rj hc none [oN,oN,some (.call (K1z f2) [K23 f3,.undef] 1),oN] (ab (Kin _ _ f4) K6o tv)
  refine sk ?_
  obtain ⟨rfl,hq0⟩ := Prod.mk.inj (os h)
  obtain ⟨rfl,hq1⟩ := Prod.mk.inj (hq0)
  obtain ⟨rfl,rfl⟩ := Prod.mk.inj (hq1)
  exact iv []
 clear f0
 obtain rfl := os h
 exact rsd hc (rx [[0],[0],[0],[1],[2,3],[5]]) (nN 6 []) [6,7,8] [(3,.rs 11)] [(1,.box [I b9,sI c0,sI c1,sB c2]),(2,.box [I e6,I e7,sI e8,sM K0h e9]),(11,rM K14 d4)] tv (rt (rq [false,true,false]))
def Kir (p : Int × Int × Int) : Option (Bool) :=
 match p with
 | (n0,low1,high2) =>
  ((
  if (decide (n0 ≥ low1)) = true then
  some ((decide (n0 ≤ high2)))
  else
  some (false)
  ) : Option (Bool)) >>= fun a0 =>
  some a0
def Kis (p : Int × Int × Int) (r : Bool) : Prop :=
 match p with
 | (n0,low1,high2) => Q77 Tryz.prog 95 [I n0,I low1,I high2] (.bool r) []
theorem Kit : ∀ p r,Kir p = some r → Kis p r := by
 rintro ⟨n0,low1,high2⟩ r h
 unfold Kir at h
 refine b0 Tryz.f95 B95 15 [(0,I n0),(1,I low1),(2,I high2)] fun c hc => (K9f hc 1 [] [] [] (sN ?_))
 obtain ⟨a0,a1,h⟩ := Qe5 h
 refine Wp.into (x := .normal) (mkS [(6,.bool a0)] []) ?_ ?_
 ·replace h := a1
  rcases is h with ⟨a2,h⟩ | ⟨a2,h⟩
  ·obtain rfl := os h
   exact rj hc none (nN 7 [oT,oN]) (ar 4 a2 tv)
  obtain rfl := os h
  exact rj hc none (nN 4 [o_,o_,o_,oF,oN]) (ar 3 (neT a2) (ai a2 tv))
 clear a1
 obtain rfl := os h
 exact rt (rq [true])
def Kiu (p : K00 × Int) : Option (Bool) :=
 match p with
 | (s0,g1) =>
  (Kir (g1,0,(wr (s0.fSize - 1)))) >>= fun a0 =>
  some a0
def Kiv (p : K00 × Int) (r : Bool) : Prop :=
 match p with
 | (s0,g1) => Q77 Tryz.prog 145 [K1w s0,I g1] (.bool r) []
theorem Kiw : ∀ p r,Kiu p = some r → Kiv p r := by
 rintro ⟨s0,g1⟩ r h
 unfold Kiu at h
 refine b0 Tryz.f145 K6r 10 [(0,K1w s0),(1,I g1)] fun c hc => (rsd hc none [nW 1,oN] [0] [(2,.ra 1 0)] [(1,K1v s0)] tv ?_)
 obtain ⟨a0,a1,h⟩ := Qe5 h
 obtain rfl := os h
 exact rs hc none (nN 4 [oc (.bool a0),oN]) [(4,.bool a0)] [] (cq (Kit _ _ a1) K6q tv) (rt (rq [true]))
def Kix (p : K00 × Int × Int) : Option (Int) :=
 match p with
 | (s0,a1,b2) =>
  (idx s0.fPlus (wr ((wr (a1 * s0.fSize)) + b2))) >>= fun a0 =>
  some a0
def Kiy (p : K00 × Int × Int) (r : Int) : Prop :=
 match p with
 | (s0,a1,b2) => Q77 Tryz.prog 160 [K1w s0,I a1,I b2] (I r) []
theorem Kiz : ∀ p r,Kix p = some r → Kiy p r := by
 rintro ⟨s0,a1,b2⟩ r h
 unfold Kix at h
 refine b0 Tryz.f160 K6t 17 [(0,K1w s0),(1,I a1),(2,I b2)] fun c hc => (rsd hc none [nW 1,oN] [0] [(3,.ra 1 0)] [(1,K1v s0)] tv ?_)
 obtain ⟨a0,a2,h⟩ := Qe5 h
 obtain rfl := os h
 exact rs hc none (nN 8 [eL (I a0),oN,oN]) [(6,I a0)] [] (ai (ix a2) tv) (rt (rq [true]))
def Kj0 (p : K00 × Int × Int) : Option (Int) :=
 match p with
 | (s0,a1,b2) =>
  (idx s0.fTimes (wr ((wr (a1 * s0.fSize)) + b2))) >>= fun a0 =>
  some a0
def Kj1 (p : K00 × Int × Int) (r : Int) : Prop :=
 match p with
 | (s0,a1,b2) => Q77 Tryz.prog 161 [K1w s0,I a1,I b2] (I r) []
theorem Kj2 : ∀ p r,Kj0 p = some r → Kj1 p r := by
 rintro ⟨s0,a1,b2⟩ r h
 unfold Kj0 at h
 refine b0 Tryz.f161 K6v 17 [(0,K1w s0),(1,I a1),(2,I b2)] fun c hc => (rsd hc none [nW 1,oN] [0] [(3,.ra 1 0)] [(1,K1v s0)] tv ?_)
 obtain ⟨a0,a2,h⟩ := Qe5 h
 obtain rfl := os h
 exact rs hc none (nN 8 [eL (I a0),oN,oN]) [(6,I a0)] [] (ai (ix a2) tv) (rt (rq [true]))
def Kj3 (p : K00 × Int × Int) : Option (Bool) :=
 match p with
 | (s0,a1,b2) =>
  (idx s0.fBelow (wr ((wr (a1 * s0.fSize)) + b2))) >>= fun a0 =>
  some a0
def Kj4 (p : K00 × Int × Int) (r : Bool) : Prop :=
 match p with
 | (s0,a1,b2) => Q77 Tryz.prog 89 [K1w s0,I a1,I b2] (.bool r) []
theorem Kj5 : ∀ p r,Kj3 p = some r → Kj4 p r := by
 rintro ⟨s0,a1,b2⟩ r h
 unfold Kj3 at h
 refine b0 Tryz.f89 B89 17 [(0,K1w s0),(1,I a1),(2,I b2)] fun c hc => (rsd hc none [nW 1,oN] [0] [(3,.ra 1 0)] [(1,K1v s0)] tv ?_)
 obtain ⟨a0,a2,h⟩ := Qe5 h
 obtain rfl := os h
 exact rs hc none (nN 8 [eB a0,oN,oN]) [(6,.bool a0)] [] (ai (xB a2) tv) (rt (rq [true]))
def Kj6 (c : Ctx) (s0 : K00) (a1 : Int) (b2 : Int) (a0 : Int) : Bool → Exit → Q0a → Prop
 | a2 => Qdr c (.exit 2) (mkS [(1,I a1),(2,I b2),(3,.ra 1 0),(7,I a0),(8,.bool a2)] [(1,K1v s0)])
def Kj7 (p : K00 × Int × Int × Int × Bool × Int) : Option (Bool) :=
 match p with
 | (s0,a1,b2,a0,a2,a3) =>
  if (decide (a3 < s0.fSize)) = true then
  ((
  if a2 = true then
  (Kj3 (s0,a1,a3)) >>= fun a4 =>
  if a4 = true then
  (Kj3 (s0,b2,a3)) >>= fun a5 =>
  if a5 = true then
  (Kj3 (s0,a0,a3)) >>= fun a6 =>
  some (a6)
  else
  some (true)
  else
  some (true)
  else
  some (false)
  ) : Option (Bool)) >>= fun a7 =>
  Kj7 (s0,a1,b2,a0,a7,(wr (a3 + 1)))
  else
  some (a2)
 partial_fixpoint
def Kj8 (p : K00 × Int × Int × Int × Bool × Int) (fl : Bool) : Prop :=
 match p with
 | (s0,a1,b2,a0,a2,a3) => ∀ c : Ctx,c.nt = 57 → WpL Tryz.prog c (cl (cl (cr (cl (cr (cr (cl (cl (cr (cl (cl (cr (cl (cr K6y)))))))))))))) (Kj6 c s0 a1 b2 a0 fl) (mkS [(1,I a1),(2,I b2),(3,.ra 1 0),(7,I a0),(8,.bool a2),(9,I a3)] [(1,K1v s0)])
theorem Kj9 : ∀ p r,Kj7 p = some r → Kj8 p r := by
 refine Kj7.partial_correctness Kj8 ?_
 rintro impl_Systemjoin_l0_f impl_Systemjoin_l0_ih ⟨s0,a1,b2,a0,a2,a3⟩ r h
 intro c hc
 refine WpL.step (sN (K9h hc 4 [] [(31,.bool (decide (a3 < s0.fSize)))] (ic h (fun a4 h => ?_) fun a4 h => ?_)))
 ·refine sk (sN (bk 3 ?_))
  obtain ⟨a5,a6,h⟩ := Qe5 h
  refine wi [31,8] [(8,.bool a5)] ?_ ?_
  ·replace h := a6
   rcases is h with ⟨a7,h⟩ | ⟨a7,h⟩
   ·obtain ⟨a8,a9,h⟩ := Qe5 h
    rcases is h with ⟨b1,h⟩ | ⟨b1,h⟩
    ·obtain ⟨b3,b4,h⟩ := Qe5 h
     rcases is h with ⟨b5,h⟩ | ⟨b5,h⟩
     ·obtain ⟨b6,b7,h⟩ := Qe5 h
      obtain rfl := os h
      exact rj hc none (nN 5 ([oc (.bool a8)]++nN 5 ([oc (.bool b3),oN,oF]++nN 4 [oc (.bool b6),oF,oT,oN]))) (ar 4 a7 (cq (Kj5 _ _ a9) K6x (ar 2 a7 (ar 4 (nF b1) (cq (Kj5 _ _ b4) K6x (ad (nF b1) a7 (nF b1) a7 (ar 4 (nF b5) (cq (Kj5 _ _ b7) K6x (ac a7 (nF b5) a7 tv)))))))))
     obtain rfl := os h
     exact rj hc none (nN 5 ([oc (.bool a8)]++nN 5 ([oc (.bool b3),oN,oF,oN]++n_ 4 [oT,oT,oN]))) (ar 4 a7 (cq (Kj5 _ _ a9) K6x (ar 2 a7 (ar 4 (nF b1) (cq (Kj5 _ _ b4) K6x (ad (nF b1) a7 (nF b1) a7 (ar 4 (neF (nT b5)) (ac a7 (nT b5) a7 tv))))))))
    obtain rfl := os h
    exact rj hc none (nN 5 ([oc (.bool a8),oN,oN]++n_ 5 ([oT,oN]++n_ 4 [oT,oT,oN]))) (ar 4 a7 (cq (Kj5 _ _ a9) K6x (ar 2 a7 (ar 5 (neF (nT b1)) (ac a7 (nT b1) a7 (ar 4 nf (ac a7 tt a7 tv)))))))
   obtain rfl := os h
   exact rj hc none ([oN,oN]++n_ 18 [oF,oN]) (ar 9 (neT a7) (ai a7 tv))
  clear a6
  exact ri0 hc 3 (Qdn (impl_Systemjoin_l0_ih _ _ h c hc))
 obtain rfl := os h
 exact xt 2 (Qdh (Qdo (iv [])))
def Kja (c : Ctx) (s0 : K00) (a1 : Int) (b2 : Int) (a0 : Int) : (Unit) ⊕ (Int) → Exit → Q0a → Prop
 | .inl _ => Qdr c .normal (mkS [(1,I a1),(2,I b2),(3,.ra 1 0),(7,I a0)] [(1,K1v s0)])
 | .inr r => Qe0 TIx Tryz.f149 [] (I r)
def Kjb (c : Ctx) : (Unit) ⊕ (Int) → Exit → Q0a → Prop
 | .inl _ => Qdr c (.exit 0) (mkS [] [])
 | .inr r => Qe0 TIx Tryz.f149 [] (I r)
def Kjc (p : K00 × Int × Int × Int) : Option ((Unit) ⊕ (Int)) :=
 match p with
 | (s0,a1,b2,a0) =>
  if (decide (a0 < s0.fSize)) = true then
  ((
   ((
   (Kj3 (s0,a1,a0)) >>= fun a2 =>
   if a2 = true then
   (Kj3 (s0,b2,a0)) >>= fun a3 =>
   some ((!a3))
   else
   some (true)
   ) : Option (Bool)) >>= fun a4 =>
   if a4 = true then
   some (.inl ())
   else
   (Kj7 (s0,a1,b2,a0,true,0)) >>= fun a5 =>
   if a5 = true then
   some (.inr a0)
   else
   some (.inl ())) : Option ((Unit) ⊕ (Int))) >>= fun fl => match fl with
  | .inl () =>
   Kjc (s0,a1,b2,(wr (a0 + 1)))
  | .inr r =>
   some (.inr r)
  else
  some (.inl ())
 partial_fixpoint
def Kjd (p : K00 × Int × Int × Int) (fl : (Unit) ⊕ (Int)) : Prop :=
 match p with
 | (s0,a1,b2,a0) => ∀ c : Ctx,c.nt = 57 → WpL Tryz.prog c (cl (cl (cr (cl (cr K6y))))) (Kjb c fl) (mkS [(1,I a1),(2,I b2),(3,.ra 1 0),(7,I a0)] [(1,K1v s0)])
theorem Kje : ∀ p r,Kjc p = some r → Kjd p r := by
 refine Kjc.partial_correctness Kjd ?_
 rintro impl_Systemjoin_l1_f impl_Systemjoin_l1_ih ⟨s0,a1,b2,a0⟩ r h
 intro c hc
 refine WpL.step (sN (K9e hc 4 [(1,I a1),(2,I b2),(3,.ra 1 0),(7,I a0),(13,.bool (decide (a0 < s0.fSize)))] (ic h (fun a2 h => ?_) fun a2 h => ?_)))
 ·refine sk (sN ?_)
  obtain ⟨fl,a3,h⟩ := Qe5 h
  refine flw (Kja c s0 a1 b2 a0 fl) ?_ (fun hF => ?_)
  ·replace h := a3
   refine bk 1 (sN (sN ?_))
   obtain ⟨a4,a5,h⟩ := Qe5 h
   refine wi [13] [(27,.bool a4)] ?_ ?_
   ·replace h := a5
    obtain ⟨a6,a7,h⟩ := Qe5 h
    rcases is h with ⟨a8,h⟩ | ⟨a8,h⟩
    ·obtain ⟨a9,b1,h⟩ := Qe5 h
     obtain rfl := os h
     exact rj hc none ([oN,oN,oN,oc (.bool a6)]++nN 5 [oc (.bool a9),oN,oF]) (cq (Kj5 _ _ a7) K6x (ar 4 (nF a8) (cq (Kj5 _ _ b1) K6x (ar 2 (nF a8) tv))))
    obtain rfl := os h
    exact rj hc none ([oN,oN,oN,oc (.bool a6),oN,oN]++n_ 5 [oT]) (cq (Kj5 _ _ a7) K6x (ar 5 (neF (nT a8)) (ai (nT a8) tv)))
   clear a5
   refine ic h (fun b3 h => ?_) fun b3 h => ?_
   ·obtain rfl := os h
    exact xt 1 (Qdh (Qdj (iv [])))
   refine sk (K9h hc 1 [27] [(8,.bool true)] (sN (K9e hc 1 [(1,I a1),(2,I b2),(3,.ra 1 0),(7,I a0),(8,.bool true),(9,I 0)] (bk 2 ?_))))
   obtain ⟨b4,b5,h⟩ := Qe5 h
   have hL := Kj9 _ _ b5 c hc
   refine lp (wl hL (Qdj (K9h hc 1 [8] [(55,.bool b4)] (ic h (fun b6 h => ?_) fun b6 h => ?_))))
   ·obtain rfl := os h
    exact rs0 hc 2 [(6,I a0)] [] (rt (re [true]))
   obtain rfl := os h
   exact sk (iv [])
  rcases fl with ⟨⟩ | r
  ·exact wf hF (ri0 hc 3 (Qdn (impl_Systemjoin_l1_ih _ _ h c hc)))
  refine Wp.mono hF ?_
  rintro _ _ ⟨rfl,hfin⟩
  obtain rfl := os h
  exact ⟨rfl,hfin⟩
 obtain rfl := os h
 exact xt 0 (Qdh (Qdo (iv [])))
def Kjf (p : K00 × Int × Int) : Option (Int) :=
 match p with
 | (s0,a1,b2) =>
  (Kjc (s0,a1,b2,0)) >>= fun fl => match fl with
  | .inl () =>
   some (-1)
  | .inr r =>
   some r
def Kjg (p : K00 × Int × Int) (r : Int) : Prop :=
 match p with
 | (s0,a1,b2) => Q77 Tryz.prog 149 [K1w s0,I a1,I b2] (I r) []
theorem Kjh : ∀ p r,Kjf p = some r → Kjg p r := by
 rintro ⟨s0,a1,b2⟩ r h
 unfold Kjf at h
 refine b0 Tryz.f149 K6y 57 [(0,K1w s0),(1,I a1),(2,I b2)] fun c hc => (rsd hc none [nW 1,oN] [0] [(3,.ra 1 0)] [(1,K1v s0)] tv (sN (K9e hc 1 [(1,I a1),(2,I b2),(3,.ra 1 0),(7,I 0)] (bk 0 ?_))))
 obtain ⟨fl,a0,h⟩ := Qe5 h
 have hL := Kje _ _ a0 c hc
 refine lp ?_
 rcases fl with ⟨⟩ | r
 ·refine wl hL ?_
  obtain rfl := os h
  exact Qdj (rs0 hc 1 [(6,I (-1))] [] (rt (rq [true])))
 refine WpL.mono hL ?_
 rintro _ _ ⟨rfl,hfin⟩
 obtain rfl := os h
 exact ⟨.inl rfl,hfin⟩
def Kji : Option (List (List Nat)) := rx [[0],[0],[0],[0],[0,1,2,3],[0],[6],[0],[0],[0],[0],[0],[7,9,10,11],[13],[14],[15],[16],[16],[16],[16],[16,17,18,19],[16],[22],[16],[16],[16],[16],[16],[23,25,26,27],[29],[30],[31]]
def Kjj : Option (List (List Nat)) := rx [[0],[0],[0],[0],[0],[0,2,3,4],[6],[0],[0],[0],[0],[7,8,9,10],[0],[0],[0],[7,8,9,10,11,12,13,14],[16],[17],[18],[19],[19],[19],[19],[19,20,21,22],[19],[25],[19],[19],[19],[19],[26,27,28,29],[19],[19],[19],[26,27,28,29,30,31,32,33],[35],[36],[37]]
def Kjk : Option (List (List Nat)) := rx [[0],[0],[0],[3],[4],[5],[6],[6],[6],[6],[6,7,8,9],[6],[6],[6],[6,7,8,9,10,11,12,13],[15],[16],[17],[17],[17],[17],[17,18,19,20],[17],[17],[17],[17,18,19,20,21,22,23,24],[26],[27],[28],[29],[29],[29],[29],[29,30,31,32],[29],[29],[29],[29,30,31,32,33,34,35,36],[38],[39],[40],[41]]
def Kjl : Option (List (List Nat)) := rx [[0],[0],[0,1],[0],[0,1,2,3],[0,1,2,3,4],[6],[7],[8],[9],[9],[9,10],[9],[9,10,11,12],[9,10,11,12,13],[15],[16],[17]]
def Kjm : Option (List (List Nat)) := rh [0,0,0,3,0,0,0,7,8,9,10,10,12,13,14,14,14,17,18,19,20,20,20,23,24,25,26,27,27,27,30,31,32]
def Kjn (p : K00 × Int × Int × Int) : Option (Bool) :=
 match p with
 | (s0,a1,b2,c3) =>
  ((
  (Kix (s0,a1,b2)) >>= fun a0 =>
  (Kix (s0,a0,c3)) >>= fun a2 =>
  (Kix (s0,b2,c3)) >>= fun a3 =>
  (Kix (s0,a1,a3)) >>= fun a4 =>
  if (a2 != a4) = true then
  some (true)
  else
  (Kj0 (s0,a1,b2)) >>= fun a5 =>
  (Kj0 (s0,a5,c3)) >>= fun a6 =>
  (Kj0 (s0,b2,c3)) >>= fun a7 =>
  (Kj0 (s0,a1,a7)) >>= fun a8 =>
  some ((a6 != a8))
  ) : Option (Bool)) >>= fun a9 =>
  if a9 = true then
  some false
  else
  ((
  (Kix (s0,b2,c3)) >>= fun b1 =>
  (Kj0 (s0,a1,b1)) >>= fun b3 =>
  (Kj0 (s0,a1,b2)) >>= fun b4 =>
  (Kj0 (s0,a1,c3)) >>= fun b5 =>
  (Kix (s0,b4,b5)) >>= fun b6 =>
  if (b3 != b6) = true then
  some (true)
  else
  (Kix (s0,a1,b2)) >>= fun b7 =>
  (Kj0 (s0,b7,c3)) >>= fun b8 =>
  (Kj0 (s0,a1,c3)) >>= fun b9 =>
  (Kj0 (s0,b2,c3)) >>= fun c0 =>
  (Kix (s0,b9,c0)) >>= fun c1 =>
  some ((b8 != c1))
  ) : Option (Bool)) >>= fun c2 =>
  if c2 = true then
  some false
  else
  ((
  (Kj3 (s0,a1,b2)) >>= fun c4 =>
  if c4 = true then
  (Kj3 (s0,b2,c3)) >>= fun c5 =>
  if c5 = true then
  (Kj3 (s0,a1,c3)) >>= fun c6 =>
  some ((!c6))
  else
  some (false)
  else
  some (false)
  ) : Option (Bool)) >>= fun c7 =>
  if c7 = true then
  some false
  else
  ((
  (Kj3 (s0,a1,b2)) >>= fun c8 =>
  if c8 = true then
  (Kix (s0,a1,c3)) >>= fun c9 =>
  (Kix (s0,b2,c3)) >>= fun d0 =>
  (Kj3 (s0,c9,d0)) >>= fun d1 =>
  if d1 = true then
  (Kj0 (s0,a1,c3)) >>= fun d2 =>
  (Kj0 (s0,b2,c3)) >>= fun d3 =>
  (Kj3 (s0,d2,d3)) >>= fun d4 =>
  if d4 = true then
  (Kj0 (s0,c3,a1)) >>= fun d5 =>
  (Kj0 (s0,c3,b2)) >>= fun d6 =>
  (Kj3 (s0,d5,d6)) >>= fun d7 =>
  some (d7)
  else
  some (false)
  else
  some (false)
  else
  some (true)
  ) : Option (Bool)) >>= fun d8 =>
  some d8
def Kjo (p : K00 × Int × Int × Int) (r : Bool) : Prop :=
 match p with
 | (s0,a1,b2,c3) => Q77 Tryz.prog 162 [K1w s0,I a1,I b2,I c3] (.bool r) []
theorem Kjp : ∀ p r,Kjn p = some r → Kjo p r := by
 rintro ⟨s0,a1,b2,c3⟩ r h
 unfold Kjn at h
 refine b0 Tryz.f162 K70 137 [(0,K1w s0),(1,I a1),(2,I b2),(3,I c3)] fun c hc => (rsd hc none [nW 1,oN] [0] [(4,.ra 1 0)] [(1,K1v s0)] tv (sN (sN ?_)))
 obtain ⟨a0,a2,h⟩ := Qe5 h
 refine wi [] [(40,.bool a0)] ?_ ?_
 ·replace h := a2
  obtain ⟨a3,a4,a5,a6,a7,a8,a9,b1,h⟩ := bq4 h
  rcases is h with ⟨b3,h⟩ | ⟨b3,h⟩
  ·obtain rfl := os h
   exact rj hc Kji (nN 4 ([oc (I a3),oN,oc (I a5)]++nN 5 ([oc (I a7),oc (I a9),oN,oN]++n_ 15 [oT]))) (cq (Kiz _ _ a4) K6u (cq (Kiz _ _ a6) K6u (cq (Kiz _ _ a8) K6u (cq (Kiz _ _ b1) K6u (ar 15 (neF b3) (ai b3 tv))))))
  obtain ⟨b4,b5,b6,b7,b8,b9,c0,c1,h⟩ := bq4 h
  obtain rfl := os h
  exact rj hc Kji (nN 4 ([oc (I a3),oN,oc (I a5)]++nN 5 ([oc (I a7),oc (I a9)]++nN 6 ([oc (I b4),oN,oc (I b6)]++nN 5 [oc (I b8),oc (I c0),oN,oF])))) (cq (Kiz _ _ a4) K6u (cq (Kiz _ _ a6) K6u (cq (Kiz _ _ a8) K6u (cq (Kiz _ _ b1) K6u (ar 5 b3 (cq (Kj2 _ _ b5) K6w (ar 2 b3 (cq (Kj2 _ _ b7) K6w (ar 6 b3 (cq (Kj2 _ _ b9) K6w (ai b3 (cq (Kj2 _ _ c1) K6w (ar 2 b3 tv)))))))))))))
 clear a2
 refine ic h (fun c2 h => ?_) fun c2 h => ?_
 ·obtain rfl := os h
  exact rs0 hc 1 [(8,.bool false)] [] (rt (rq [true]))
 refine sk (sN (sN ?_))
 obtain ⟨c4,c5,h⟩ := Qe5 h
 refine wi [40] [(78,.bool c4)] ?_ ?_
 ·replace h := c5
  obtain ⟨c6,c7,c8,c9,d0,d1,d2,d3,h⟩ := bq4 h
  obtain ⟨d4,d5,h⟩ := Qe5 h
  rcases is h with ⟨d6,h⟩ | ⟨d6,h⟩
  ·obtain rfl := os h
   exact rj hc Kjj (nN 5 ([oc (I c6),oc (I c8)]++nN 4 ([oc (I d0),oN,oN,oN,oc (I d2),oc (I d4),oN,oN]++n_ 18 [oT]))) (cq (Kiz _ _ c7) K6u (cq (Kj2 _ _ c9) K6w (cq (Kj2 _ _ d1) K6w (cq (Kj2 _ _ d3) K6w (cq (Kiz _ _ d5) K6u (ar 18 (neF d6) (ai d6 tv)))))))
  obtain ⟨d7,d8,d9,e0,e1,e2,e3,e4,h⟩ := bq4 h
  obtain ⟨e5,e6,h⟩ := Qe5 h
  obtain rfl := os h
  exact rj hc Kjj (nN 5 ([oc (I c6),oc (I c8)]++nN 4 ([oc (I d0),oN,oN,oN,oc (I d2),oc (I d4)]++nN 6 ([oc (I d7),oN,oc (I d9)]++nN 4 [oc (I e1),oN,oN,oN,oc (I e3),oc (I e5),oN,oF])))) (cq (Kiz _ _ c7) K6u (cq (Kj2 _ _ c9) K6w (cq (Kj2 _ _ d1) K6w (cq (Kj2 _ _ d3) K6w (cq (Kiz _ _ d5) K6u (ar 5 d6 (cq (Kiz _ _ d8) K6u (ar 2 d6 (cq (Kj2 _ _ e0) K6w (ar 5 d6 (cq (Kj2 _ _ e2) K6w (ar 4 d6 (cq (Kj2 _ _ e4) K6w (ai d6 (cq (Kiz _ _ e6) K6u (ar 2 d6 tv))))))))))))))))
 clear c5
 refine ic h (fun e7 h => ?_) fun e7 h => ?_
 ·obtain rfl := os h
  exact rs0 hc 1 [(8,.bool false)] [] (rt (rq [true]))
 refine sk (sN (sN ?_))
 obtain ⟨e8,e9,h⟩ := Qe5 h
 refine wi [78] [(95,.bool e8)] ?_ ?_
 ·replace h := e9
  obtain ⟨f0,f1,h⟩ := Qe5 h
  rcases is h with ⟨f2,h⟩ | ⟨f2,h⟩
  ·obtain ⟨f3,f4,h⟩ := Qe5 h
   rcases is h with ⟨f5,h⟩ | ⟨f5,h⟩
   ·obtain ⟨f6,f7,h⟩ := Qe5 h
    obtain rfl := os h
    exact rj hc none ([oN,oN,oN,oc (.bool f0)]++nN 4 ([oc (.bool f3),oT]++nN 4 [oc (.bool f6),oN,oT])) (cq (Kj5 _ _ f1) K6x (ar 4 f2 (cq (Kj5 _ _ f4) K6x (ai f2 (ar 4 f5 (cq (Kj5 _ _ f7) K6x (ar 2 f5 tv)))))))
   obtain rfl := os h
   exact rj hc none ([oN,oN,oN,oc (.bool f0)]++nN 4 ([oc (.bool f3),oT,oN]++n_ 5 [oF])) (cq (Kj5 _ _ f1) K6x (ar 4 f2 (cq (Kj5 _ _ f4) K6x (ai f2 (ar 5 (neT f5) (ai f5 tv))))))
  obtain rfl := os h
  exact rj hc none ([oN,oN,oN,oc (.bool f0),oN]++n_ 4 ([oF,oN]++n_ 5 [oF])) (cq (Kj5 _ _ f1) K6x (ar 4 (neT f2) (ai f2 (ar 5 (neT fF) (ai fF tv)))))
 clear e9
 refine ic h (fun f8 h => ?_) fun f8 h => ?_
 ·obtain rfl := os h
  exact rs0 hc 1 [(8,.bool false)] [] (rt (rq [true]))
 refine sk (sN ?_)
 obtain ⟨f9,g0,h⟩ := Qe5 h
 refine Wp.into (x := .normal) (mkS [(8,.bool f9)] []) ?_ ?_
 ·replace h := g0
  obtain ⟨g1,g2,h⟩ := Qe5 h
  rcases is h with ⟨g3,h⟩ | ⟨g3,h⟩
  ·obtain ⟨g4,g5,g6,g7,g8,g9,h⟩ := bq3 h
   rcases is h with ⟨i0,h⟩ | ⟨i0,h⟩
   ·obtain ⟨i1,i2,i3,i4,i5,i6,h⟩ := bq3 h
    rcases is h with ⟨i7,h⟩ | ⟨i7,h⟩
    ·obtain ⟨i8,i9,j0,j8,j9,k0,h⟩ := bq3 h
     obtain rfl := os h
     exact rj hc Kjk ([oN,oN,oN,oc (.bool g1)]++nN 6 ([oc (I g4),oN,oN,oN,oc (I g6),oc (.bool g8)]++nN 5 ([oc (I i1),oN,oN,oN,oc (I i3),oc (.bool i5),oT]++nN 5 [oc (I i8),oN,oN,oN,oc (I j0),oc (.bool j9),oT,oF,oN]))) (cq (Kj5 _ _ g2) K6x (ar 5 (nF g3) (cq (Kiz _ _ g5) K6u (ar 4 (nF g3) (cq (Kiz _ _ g7) K6u (ai (nF g3) (cq (Kj5 _ _ g9) K6x (ai (nF g3) (ar 5 i0 (cq (Kj2 _ _ i2) K6w (ar 4 i0 (cq (Kj2 _ _ i4) K6w (ai i0 (cq (Kj5 _ _ i6) K6x (ac (nF g3) i0 (nF g3) (ar 5 i7 (cq (Kj2 _ _ i9) K6w (ar 4 i7 (cq (Kj2 _ _ j8) K6w (ai i7 (cq (Kj5 _ _ k0) K6x (ac (nF g3) i7 (nF g3) tv))))))))))))))))))))))
    obtain rfl := os h
    exact rj hc Kjk ([oN,oN,oN,oc (.bool g1)]++nN 6 ([oc (I g4),oN,oN,oN,oc (I g6),oc (.bool g8)]++nN 5 ([oc (I i1),oN,oN,oN,oc (I i3),oc (.bool i5),oT,oN]++n_ 10 [oF,oF,oN]))) (cq (Kj5 _ _ g2) K6x (ar 5 (nF g3) (cq (Kiz _ _ g5) K6u (ar 4 (nF g3) (cq (Kiz _ _ g7) K6u (ai (nF g3) (cq (Kj5 _ _ g9) K6x (ai (nF g3) (ar 5 i0 (cq (Kj2 _ _ i2) K6w (ar 4 i0 (cq (Kj2 _ _ i4) K6w (ai i0 (cq (Kj5 _ _ i6) K6x (ac (nF g3) i0 (nF g3) (ar 10 (neT i7) (ac (nF g3) i7 (nF g3) tv)))))))))))))))))
   obtain rfl := os h
   exact rj hc Kjk ([oN,oN,oN,oc (.bool g1)]++nN 6 ([oc (I g4),oN,oN,oN,oc (I g6),oc (.bool g8),oN]++n_ 10 ([oF,oN]++n_ 10 [oF,oF,oN]))) (cq (Kj5 _ _ g2) K6x (ar 5 (nF g3) (cq (Kiz _ _ g5) K6u (ar 4 (nF g3) (cq (Kiz _ _ g7) K6u (ai (nF g3) (cq (Kj5 _ _ g9) K6x (ai (nF g3) (ar 10 (neT i0) (ac (nF g3) i0 (nF g3) (ar 10 (neT fF) (ac (nF g3) fF (nF g3) tv))))))))))))
  obtain rfl := os h
  exact rj hc Kjk ([oN,oN,oN,oc (.bool g1),oN,oN]++n_ 34 [oT,oN]) (cq (Kj5 _ _ g2) K6x (ar 14 (neF (nT g3)) (ai (nT g3) tv)))
 clear g0
 obtain rfl := os h
 exact rt (rq [true])
def Kjq (c : Ctx) (s0 : K00) : (Unit) ⊕ (Bool) → Exit → Q0a → Prop
 | .inl _ => Qdr c (.exit 0) (mkS [(1,.ra 1 0),(3,I s0.fSize)] [(1,K1v s0)])
 | .inr r => Qe0 TIx Tryz.f79 [] (.bool r)
def Kjr (p : K00 × Int) : Option ((Unit) ⊕ (Bool)) :=
 match p with
 | (s0,a0) =>
  if (decide (a0 < (s0.fPlus.length : Int))) = true then
  ((
  (idx s0.fPlus a0) >>= fun a1 =>
  (Kiu (s0,a1)) >>= fun a2 =>
  if a2 = true then
  (idx s0.fTimes a0) >>= fun a3 =>
  (Kiu (s0,a3)) >>= fun a4 =>
  some ((!a4))
  else
  some (true)
  ) : Option (Bool)) >>= fun a5 =>
  if a5 = true then
  some (.inr false)
  else
  Kjr (s0,(wr (a0 + 1)))
  else
  some (.inl ())
 partial_fixpoint
def Kjs (p : K00 × Int) (fl : (Unit) ⊕ (Bool)) : Prop :=
 match p with
 | (s0,a0) => ∀ c : Ctx,c.nt = 157 → WpL Tryz.prog c (cl (cl (cr (cl (cr (cr (cr B79))))))) (Kjq c s0 fl) (mkS [(1,.ra 1 0),(3,I s0.fSize),(42,I (s0.fPlus.length : Int)),(43,I a0)] [(1,K1v s0)])
theorem Kjt : ∀ p r,Kjr p = some r → Kjs p r := by
 refine Kjr.partial_correctness Kjs ?_
 rintro impl_IsSystem_l0_f impl_IsSystem_l0_ih ⟨s0,a0⟩ r h
 intro c hc
 refine WpL.step (K9h hc 1 [] [(44,.bool (decide (a0 < (s0.fPlus.length : Int))))] (sN (ic h (fun a1 h => ?_) fun a1 h => ?_)))
 ·refine sk (sN (bk 1 (K9h hc 2 [44] [(4,I a0)] (sN ?_))))
  obtain ⟨a2,a3,h⟩ := Qe5 h
  refine wi [4] [(63,.bool a2)] ?_ ?_
  ·replace h := a3
   obtain ⟨a4,a5,a6,a7,h⟩ := bq2 h
   rcases is h with ⟨a8,h⟩ | ⟨a8,h⟩
   ·obtain ⟨a9,b1,b2,b3,h⟩ := bq2 h
    obtain rfl := os h
    exact rj hc Kjl (nN 4 ([eL (I a4),oN,oc (.bool a6)]++nN 6 [eL (I a9),oN,oc (.bool b2),oN,oF])) (ai (ix a5) (cq (Kiw _ _ a7) K6s (ar 5 (nF a8) (ai (ix b1) (ar 2 (nF a8) (cq (Kiw _ _ b3) K6s (ar 2 (nF a8) tv)))))))
   obtain rfl := os h
   exact rj hc Kjl (nN 4 ([eL (I a4),oN,oc (.bool a6),oN,oN]++n_ 8 [oT])) (ai (ix a5) (cq (Kiw _ _ a7) K6s (ar 8 (neF (nT a8)) (ai (nT a8) tv))))
  clear a3
  refine ic h (fun b4 h => ?_) fun b4 h => ?_
  ·obtain rfl := os h
   exact rs0 hc 1 [(2,.bool false)] [] (rt (re [true]))
  exact sk (ri0 hc 2 (Qdn (impl_IsSystem_l0_ih _ _ h c hc)))
 obtain rfl := os h
 exact xt 0 (Qdh (Qdo (iv [])))
def Kju (c : Ctx) (s0 : K00) (a0 : Int) (a1 : Int) : (Unit) ⊕ (Bool) → Exit → Q0a → Prop
 | .inl _ => Qdr c (.exit 6) (mkS [(1,.ra 1 0),(3,I s0.fSize),(5,I a0),(6,I a1)] [(1,K1v s0)])
 | .inr r => Qe0 TIx Tryz.f79 [] (.bool r)
def Kjv (p : K00 × Int × Int × Int) : Option ((Unit) ⊕ (Bool)) :=
 match p with
 | (s0,a0,a1,a2) =>
  if (decide (a2 < s0.fSize)) = true then
  (Kjn (s0,a0,a1,a2)) >>= fun a3 =>
  if a3 = true then
  Kjv (s0,a0,a1,(wr (a2 + 1)))
  else
  some (.inr false)
  else
  some (.inl ())
 partial_fixpoint
def Kjw (p : K00 × Int × Int × Int) (fl : (Unit) ⊕ (Bool)) : Prop :=
 match p with
 | (s0,a0,a1,a2) => ∀ c : Ctx,c.nt = 157 → WpL Tryz.prog c (cl (cl (cr (cr (cl (cl (cr (cl (cl (cr (cr (cl (cl (cr (cl (cl (cr (cl (cr (cr (cr (cr B79)))))))))))))))))))))) (Kju c s0 a0 a1 fl) (mkS [(1,.ra 1 0),(3,I s0.fSize),(5,I a0),(6,I a1),(7,I a2)] [(1,K1v s0)])
theorem Kjx : ∀ p r,Kjv p = some r → Kjw p r := by
 refine Kjv.partial_correctness Kjw ?_
 rintro impl_IsSystem_l1_f impl_IsSystem_l1_ih ⟨s0,a0,a1,a2⟩ r h
 intro c hc
 refine WpL.step (sN (K9h hc 3 [] [(148,.bool (decide (a2 < s0.fSize)))] (ic h (fun a3 h => ?_) fun a3 h => ?_)))
 ·refine sk (sN (bk 7 ?_))
  obtain ⟨a4,a5,h⟩ := Qe5 h
  refine K9g hc none (nN 4 [oc (.bool a4),oN]) [148] [(156,.bool (!a4))] (cq (Kjp _ _ a5) K71 tv) ?_
  rcases is h with ⟨a6,h⟩ | ⟨a6,h⟩
  ·exact cF (!a4) (nF a6) (sk (ri0 hc 3 (Qdn (impl_IsSystem_l1_ih _ _ h c hc))))
  refine cT (!a4) (nT a6) ?_
  obtain rfl := os h
  exact rs0 hc 1 [(2,.bool false)] [] (rt (re [true]))
 obtain rfl := os h
 exact xt 6 (Qdh (Qdo (iv [])))
def Kjy (c : Ctx) (s0 : K00) (a0 : Int) : (Unit) ⊕ (Bool) → Exit → Q0a → Prop
 | .inl _ => Qdr c (.exit 4) (mkS [(1,.ra 1 0),(3,I s0.fSize),(5,I a0)] [(1,K1v s0)])
 | .inr r => Qe0 TIx Tryz.f79 [] (.bool r)
def Kjz (p : K00 × Int × Int) : Option ((Unit) ⊕ (Bool)) :=
 match p with
 | (s0,a0,a1) =>
  if (decide (a1 < s0.fSize)) = true then
  ((
  (Kix (s0,a0,a1)) >>= fun a2 =>
  (Kix (s0,a1,a0)) >>= fun a3 =>
  if (a2 != a3) = true then
   some (true)
  else
   if (a0 != a1) = true then
   (Kj3 (s0,a0,a1)) >>= fun a4 =>
   if a4 = true then
   (Kj3 (s0,a1,a0)) >>= fun a5 =>
   if a5 = true then
   some (true)
   else
   (Kjf (s0,a0,a1)) >>= fun a6 =>
   some ((decide (a6 < 0)))
   else
   (Kjf (s0,a0,a1)) >>= fun a6 =>
   some ((decide (a6 < 0)))
   else
   (Kjf (s0,a0,a1)) >>= fun a6 =>
   some ((decide (a6 < 0)))
  ) : Option (Bool)) >>= fun a7 =>
  if a7 = true then
  some (.inr false)
  else
  (Kjv (s0,a0,a1,0)) >>= fun fl => match fl with
  | .inl () =>
   Kjz (s0,a0,(wr (a1 + 1)))
  | .inr r =>
   some (.inr r)
  else
  some (.inl ())
 partial_fixpoint
def Kk0 (p : K00 × Int × Int) (fl : (Unit) ⊕ (Bool)) : Prop :=
 match p with
 | (s0,a0,a1) => ∀ c : Ctx,c.nt = 157 → WpL Tryz.prog c (cl (cl (cr (cr (cl (cl (cr (cl (cl (cr (cl (cr (cr (cr (cr B79))))))))))))))) (Kjy c s0 a0 fl) (mkS [(1,.ra 1 0),(3,I s0.fSize),(5,I a0),(6,I a1)] [(1,K1v s0)])
theorem Kk1 : ∀ p r,Kjz p = some r → Kk0 p r := by
 refine Kjz.partial_correctness Kk0 ?_
 rintro impl_IsSystem_l2_f impl_IsSystem_l2_ih ⟨s0,a0,a1⟩ r h
 intro c hc
 refine WpL.step (sN (K9h hc 3 [] [(110,.bool (decide (a1 < s0.fSize)))] (ic h (fun a2 h => ?_) fun a2 h => ?_)))
 ·refine sk (sN (bk 5 (sN (sN ?_))))
  obtain ⟨a3,a4,h⟩ := Qe5 h
  refine wi [110] [(145,.bool a3)] ?_ ?_
  ·replace h := a4
   obtain ⟨a5,a6,a7,a8,h⟩ := bq2 h
   rcases is h with ⟨a9,h⟩ | ⟨a9,h⟩
   ·obtain rfl := os h
    exact rj hc Kjm ([oN,oN,oN,oc (I a5),oN,oN,oN,oc (I a7),oN,oN]++n_ 15 ([oT,oN]++n_ 5 [oT])) (cq (Kiz _ _ a6) K6u (cq (Kiz _ _ a8) K6u (ar 7 (neF a9) (ai a9 (ar 5 nf (ai tt tv))))))
   rcases is h with ⟨b1,h⟩ | ⟨b1,h⟩
   ·obtain ⟨b2,b3,h⟩ := Qe5 h
    rcases is h with ⟨b4,h⟩ | ⟨b4,h⟩
    ·obtain ⟨b5,b6,h⟩ := Qe5 h
     rcases is h with ⟨b7,h⟩ | ⟨b7,h⟩
     ·obtain rfl := os h
      exact rj hc Kjm ([oN,oN,oN,oc (I a5),oN,oN,oN,oc (I a7)]++nN 9 ([oc (.bool b2),oT]++nN 4 ([oc (.bool b5),oT,oF,oN]++n_ 5 [oT]))) (cq (Kiz _ _ a6) K6u (cq (Kiz _ _ a8) K6u (ar 4 a9 (ar 4 b1 (cq (Kj5 _ _ b3) K6x (ac a9 b1 a9 (ar 4 b4 (cq (Kj5 _ _ b6) K6x (ac a9 b4 a9 (ar 5 (neF b7) (ai b7 tv)))))))))))
     obtain ⟨b8,b9,h⟩ := Qe5 h
     obtain rfl := os h
     exact rj hc Kjm ([oN,oN,oN,oc (I a5),oN,oN,oN,oc (I a7)]++nN 9 ([oc (.bool b2),oT]++nN 4 ([oc (.bool b5),oT,oF]++nN 4 [oc (I b8),oN,oF]))) (cq (Kiz _ _ a6) K6u (cq (Kiz _ _ a8) K6u (ar 4 a9 (ar 4 b1 (cq (Kj5 _ _ b3) K6x (ac a9 b1 a9 (ar 4 b4 (cq (Kj5 _ _ b6) K6x (ac a9 b4 a9 (ar 4 b7 (cq (Kjh _ _ b9) K6z (ar 2 b7 tv))))))))))))
    obtain ⟨b8,b9,h⟩ := Qe5 h
    obtain rfl := os h
    exact rj hc Kjm ([oN,oN,oN,oc (I a5),oN,oN,oN,oc (I a7)]++nN 9 ([oc (.bool b2),oT,oN]++n_ 4 ([oF,oF]++nN 4 [oc (I b8),oN,oF]))) (cq (Kiz _ _ a6) K6u (cq (Kiz _ _ a8) K6u (ar 4 a9 (ar 4 b1 (cq (Kj5 _ _ b3) K6x (ac a9 b1 a9 (ar 4 (neT b4) (ac a9 b4 a9 (ar 4 fF (cq (Kjh _ _ b9) K6z (ar 2 fF tv)))))))))))
   obtain ⟨b8,b9,h⟩ := Qe5 h
   obtain rfl := os h
   exact rj hc Kjm ([oN,oN,oN,oc (I a5),oN,oN,oN,oc (I a7)]++nN 6 (n_ 4 ([oF,oN]++n_ 4 ([oF,oF]++nN 4 [oc (I b8),oN,oF])))) (cq (Kiz _ _ a6) K6u (cq (Kiz _ _ a8) K6u (ar 4 a9 (ar 4 (neT b1) (ac a9 b1 a9 (ar 4 (neT fF) (ac a9 fF a9 (ar 4 fF (cq (Kjh _ _ b9) K6z (ar 2 fF tv))))))))))
  clear a4
  refine ic h (fun c0 h => ?_) fun c0 h => ?_
  ·obtain rfl := os h
   exact rs0 hc 1 [(2,.bool false)] [] (rt (re [true]))
  refine sk (K9e hc 1 [(1,.ra 1 0),(3,I s0.fSize),(5,I a0),(6,I a1),(7,I 0)] (bk 6 ?_))
  obtain ⟨fl,c1,h⟩ := Qe5 h
  have hL := Kjx _ _ c1 c hc
  refine lp ?_
  rcases fl with ⟨⟩ | r
  ·exact wl hL (Qdj (ri0 hc 3 (Qdn (impl_IsSystem_l2_ih _ _ h c hc))))
  refine WpL.mono hL ?_
  rintro _ _ ⟨rfl,hfin⟩
  obtain rfl := os h
  exact ⟨rfl,hfin⟩
 obtain rfl := os h
 exact xt 4 (Qdh (Qdo (iv [])))
def Kk2 (c : Ctx) : (Unit) ⊕ (Bool) → Exit → Q0a → Prop
 | .inl _ => Qdr c (.exit 2) (mkS [] [])
 | .inr r => Qe0 TIx Tryz.f79 [] (.bool r)
def Kk3 (p : K00 × Int) : Option ((Unit) ⊕ (Bool)) :=
 match p with
 | (s0,a0) =>
  if (decide (a0 < s0.fSize)) = true then
  ((
  (Kix (s0,0,a0)) >>= fun a1 =>
  if (a1 != a0) = true then
   some (true)
  else
   (Kj0 (s0,1,a0)) >>= fun a2 =>
   if (a2 != a0) = true then
   some (true)
   else
   (Kj0 (s0,a0,1)) >>= fun a3 =>
   if (a3 != a0) = true then
   some (true)
   else
   (Kj0 (s0,0,a0)) >>= fun a4 =>
   if (a4 != 0) = true then
   some (true)
   else
   (Kj0 (s0,a0,0)) >>= fun a5 =>
   if (a5 != 0) = true then
   some (true)
   else
   (Kj3 (s0,a0,a0)) >>= fun a6 =>
   some ((!a6))
  ) : Option (Bool)) >>= fun a7 =>
  if a7 = true then
  some (.inr false)
  else
  (Kjz (s0,a0,0)) >>= fun fl => match fl with
  | .inl () =>
   Kk3 (s0,(wr (a0 + 1)))
  | .inr r =>
   some (.inr r)
  else
  some (.inl ())
 partial_fixpoint
def Kk4 (p : K00 × Int) (fl : (Unit) ⊕ (Bool)) : Prop :=
 match p with
 | (s0,a0) => ∀ c : Ctx,c.nt = 157 → WpL Tryz.prog c (cl (cl (cr (cl (cr (cr (cr (cr B79)))))))) (Kk2 c fl) (mkS [(1,.ra 1 0),(3,I s0.fSize),(5,I a0)] [(1,K1v s0)])
theorem Kk5 : ∀ p r,Kk3 p = some r → Kk4 p r := by
 refine Kk3.partial_correctness Kk4 ?_
 rintro impl_IsSystem_l3_f impl_IsSystem_l3_ih ⟨s0,a0⟩ r h
 intro c hc
 refine WpL.step (sN (K9h hc 3 [] [(67,.bool (decide (a0 < s0.fSize)))] (ic h (fun a1 h => ?_) fun a1 h => ?_)))
 ·refine sk (sN (bk 3 (sN (sN ?_))))
  obtain ⟨a2,a3,h⟩ := Qe5 h
  refine wi [67] [(107,.bool a2)] ?_ ?_
  ·replace h := a3
   obtain ⟨a4,a5,h⟩ := Qe5 h
   rcases is h with ⟨a6,h⟩ | ⟨a6,h⟩
   ·obtain rfl := os h
    exact rj hc none ([oN,oN,oc (I a4),oN,oN,oN]++n_ 5 ([oT,oN]++n_ 5 ([oT,oN]++n_ 4 ([oT,oN]++n_ 4 ([oT,oN]++n_ 5 [oT]))))) (cq (Kiz _ _ a5) K6u (ar 5 (neF a6) (ai a6 (ar 5 nf (ai tt (ar 4 nf (ai tt (ar 4 nf (ai tt (ar 5 nf (ai tt tv)))))))))))
   obtain ⟨a7,a8,h⟩ := Qe5 h
   rcases is h with ⟨a9,h⟩ | ⟨a9,h⟩
   ·obtain rfl := os h
    exact rj hc none ([oN,oN,oc (I a4)]++nN 5 ([oc (I a7),oN,oN,oF,oN]++n_ 5 ([oT,oN]++n_ 4 ([oT,oN]++n_ 4 ([oT,oN]++n_ 5 [oT]))))) (cq (Kiz _ _ a5) K6u (ar 3 a6 (cq (Kj2 _ _ a8) K6w (ar 3 a6 (ar 5 (neF a9) (ai a9 (ar 4 nf (ai tt (ar 4 nf (ai tt (ar 5 nf (ai tt tv))))))))))))
   obtain ⟨b1,b2,h⟩ := Qe5 h
   rcases is h with ⟨b3,h⟩ | ⟨b3,h⟩
   ·obtain rfl := os h
    exact rj hc none ([oN,oN,oc (I a4)]++nN 5 ([oc (I a7),oN,oN,oF,oN,oN,oN,oc (I b1),oN,oN,oF,oN]++n_ 4 ([oT,oN]++n_ 4 ([oT,oN]++n_ 5 [oT])))) (cq (Kiz _ _ a5) K6u (ar 3 a6 (cq (Kj2 _ _ a8) K6w (ar 3 a6 (ar 3 a9 (cq (Kj2 _ _ b2) K6w (ar 3 a9 (ar 4 (neF b3) (ai b3 (ar 4 nf (ai tt (ar 5 nf (ai tt tv)))))))))))))
   obtain ⟨b4,b5,h⟩ := Qe5 h
   rcases is h with ⟨b6,h⟩ | ⟨b6,h⟩
   ·obtain rfl := os h
    exact rj hc none ([oN,oN,oc (I a4)]++nN 5 ([oc (I a7),oN,oN,oF,oN,oN,oN,oc (I b1),oN,oN,oF,oN,oN,oN,oc (I b4),oN,oF,oN]++n_ 4 ([oT,oN]++n_ 5 [oT]))) (cq (Kiz _ _ a5) K6u (ar 3 a6 (cq (Kj2 _ _ a8) K6w (ar 3 a6 (ar 3 a9 (cq (Kj2 _ _ b2) K6w (ar 3 a9 (ar 3 b3 (cq (Kj2 _ _ b5) K6w (ar 2 b3 (ar 4 (neF b6) (ai b6 (ar 5 nf (ai tt tv))))))))))))))
   obtain ⟨b7,b8,h⟩ := Qe5 h
   rcases is h with ⟨b9,h⟩ | ⟨b9,h⟩
   ·obtain rfl := os h
    exact rj hc none ([oN,oN,oc (I a4)]++nN 5 ([oc (I a7),oN,oN,oF,oN,oN,oN,oc (I b1),oN,oN,oF,oN,oN,oN,oc (I b4),oN,oF,oN,oN,oN,oc (I b7),oN,oF,oN]++n_ 5 [oT])) (cq (Kiz _ _ a5) K6u (ar 3 a6 (cq (Kj2 _ _ a8) K6w (ar 3 a6 (ar 3 a9 (cq (Kj2 _ _ b2) K6w (ar 3 a9 (ar 3 b3 (cq (Kj2 _ _ b5) K6w (ar 2 b3 (ar 3 b6 (cq (Kj2 _ _ b8) K6w (ar 2 b6 (ar 5 (neF b9) (ai b9 tv)))))))))))))))
   obtain ⟨c0,c1,h⟩ := Qe5 h
   obtain rfl := os h
   exact rj hc none ([oN,oN,oc (I a4)]++nN 5 ([oc (I a7),oN,oN,oF,oN,oN,oN,oc (I b1),oN,oN,oF,oN,oN,oN,oc (I b4),oN,oF,oN,oN,oN,oc (I b7),oN,oF]++nN 4 [oc (.bool c0),oN,oF])) (cq (Kiz _ _ a5) K6u (ar 3 a6 (cq (Kj2 _ _ a8) K6w (ar 3 a6 (ar 3 a9 (cq (Kj2 _ _ b2) K6w (ar 3 a9 (ar 3 b3 (cq (Kj2 _ _ b5) K6w (ar 2 b3 (ar 3 b6 (cq (Kj2 _ _ b8) K6w (ar 2 b6 (ar 4 b9 (cq (Kj5 _ _ c1) K6x (ar 2 b9 tv))))))))))))))))
  clear a3
  refine ic h (fun c2 h => ?_) fun c2 h => ?_
  ·obtain rfl := os h
   exact rs0 hc 1 [(2,.bool false)] [] (rt (re [true]))
  refine sk (K9e hc 1 [(1,.ra 1 0),(3,I s0.fSize),(5,I a0),(6,I 0)] (bk 4 ?_))
  obtain ⟨fl,c3,h⟩ := Qe5 h
  have hL := Kk1 _ _ c3 c hc
  refine lp ?_
  rcases fl with ⟨⟩ | r
  ·exact wl hL (Qdj (ri0 hc 3 (Qdn (impl_IsSystem_l3_ih _ _ h c hc))))
  refine WpL.mono hL ?_
  rintro _ _ ⟨rfl,hfin⟩
  obtain rfl := os h
  exact ⟨rfl,hfin⟩
 obtain rfl := os h
 exact xt 2 (Qdh (Qdo (iv [])))
def Kk6 (s0 : K00) : Option (Bool) :=
 ((
 (Kir (s0.fSize,2,16)) >>= fun a0 =>
 if a0 = true then
  if ((s0.fPlus.length : Int) != (wr (s0.fSize * s0.fSize))) = true then
   some (true)
  else
   if ((s0.fTimes.length : Int) != (wr (s0.fSize * s0.fSize))) = true then
   some (true)
   else
   some (((s0.fBelow.length : Int) != (wr (s0.fSize * s0.fSize))))
 else
  some (true)
 ) : Option (Bool)) >>= fun a1 =>
 if a1 = true then
 some false
 else
 (Kjr (s0,0)) >>= fun fl => match fl with
 | .inl () =>
  (Kk3 (s0,0)) >>= fun fl => match fl with
  | .inl () =>
   some true
  | .inr r =>
   some r
 | .inr r =>
  some r
def Kk7 (s0 : K00) (r : Bool) : Prop :=
 Q77 Tryz.prog 79 [K1w s0] (.bool r) []
theorem Kk8 : ∀ p r,Kk6 p = some r → Kk7 p r := by
 rintro s0 r h
 unfold Kk6 at h
 refine b0 Tryz.f79 B79 157 [(0,K1w s0)] fun c hc => (rs hc none [nW 1,oN] [(1,.ra 1 0)] [(1,K1v s0)] tv (K9h hc 3 [] [(3,I s0.fSize)] (sN (sN ?_))))
 obtain ⟨a0,a1,h⟩ := Qe5 h
 refine wi [] [(39,.bool a0)] ?_ ?_
 ·replace h := a1
  obtain ⟨a2,a3,h⟩ := Qe5 h
  rcases is h with ⟨a4,h⟩ | ⟨a4,h⟩
  ·rcases is h with ⟨a5,h⟩ | ⟨a5,h⟩
   ·obtain rfl := os h
    exact rj hc none ([oN,oc (.bool a2)]++nN 4 ([nQ ⟨[(16,I (s0.fPlus.length : Int))],[],[]⟩]++nN 4 ([oF,oN]++n_ 7 ([oT,oN]++n_ 7 [oT])))) (cq (Kit _ _ a3) K6q (ar 3 (nF a4) (ai (Qeb (d := 16) I s0.fPlus) (ar 5 (nF a4) (ar 7 (neF a5) (ai a5 (ar 7 nf (ai tt tv))))))))
   rcases is h with ⟨a6,h⟩ | ⟨a6,h⟩
   ·obtain rfl := os h
    exact rj hc none ([oN,oc (.bool a2)]++nN 4 ([nQ ⟨[(16,I (s0.fPlus.length : Int))],[],[]⟩]++nN 4 ([oF,oN,oN,oN,nQ ⟨[(25,I (s0.fTimes.length : Int))],[],[]⟩]++nN 4 ([oF,oN]++n_ 7 [oT])))) (cq (Kit _ _ a3) K6q (ar 3 (nF a4) (ai (Qeb (d := 16) I s0.fPlus) (ar 5 (nF a4) (ar 3 a5 (ai (Qeb (d := 25) I s0.fTimes) (ar 5 a5 (ar 7 (neF a6) (ai a6 tv)))))))))
   obtain rfl := os h
   exact rj hc none ([oN,oc (.bool a2)]++nN 4 ([nQ ⟨[(16,I (s0.fPlus.length : Int))],[],[]⟩]++nN 4 ([oF,oN,oN,oN,nQ ⟨[(25,I (s0.fTimes.length : Int))],[],[]⟩]++nN 4 ([oF,oN,oN,oN,nQ ⟨[(34,I (s0.fBelow.length : Int))],[],[]⟩]++nN 4 [oF])))) (cq (Kit _ _ a3) K6q (ar 3 (nF a4) (ai (Qeb (d := 16) I s0.fPlus) (ar 5 (nF a4) (ar 3 a5 (ai (Qeb (d := 25) I s0.fTimes) (ar 5 a5 (ar 3 a6 (ai (Qeb (d := 34) AV.bool s0.fBelow) (ar 5 a6 tv))))))))))
  obtain rfl := os h
  exact rj hc none ([oN,oc (.bool a2),oN,oN]++n_ 7 ([oT,oN]++n_ 7 ([oT,oN]++n_ 7 [oT]))) (cq (Kit _ _ a3) K6q (ar 7 (neF (nT a4)) (ai (nT a4) (ar 7 nf (ai tt (ar 7 nf (ai tt tv)))))))
 clear a1
 refine ic h (fun a7 h => ?_) fun a7 h => ?_
 ·obtain rfl := os h
  exact rs0 hc 1 [(2,.bool false)] [] (rt (rq [true]))
 refine sk (sN (rss hc none [oN,oN,nQ ⟨[(42,I (s0.fPlus.length : Int))],[],[]⟩,oN] [(1,.ra 1 0),(3,I s0.fSize),(42,I (s0.fPlus.length : Int)),(43,I 0)] (ai (Qeb (d := 42) I s0.fPlus) tv) (bk 0 ?_)))
 obtain ⟨fl,a8,h⟩ := Qe5 h
 have hL := Kjt _ _ a8 c hc
 refine lp ?_
 rcases fl with ⟨⟩ | r
 ·refine wl hL (Qdj (sN (K9e hc 1 [(1,.ra 1 0),(3,I s0.fSize),(5,I 0)] (bk 2 ?_))))
  obtain ⟨fl,a9,h⟩ := Qe5 h
  have hL := Kk5 _ _ a9 c hc
  refine lp ?_
  rcases fl with ⟨⟩ | r
  ·refine wl hL ?_
   obtain rfl := os h
   exact Qdj (rs0 hc 1 [(2,.bool true)] [] (rt (rq [true])))
  refine WpL.mono hL ?_
  rintro _ _ ⟨rfl,hfin⟩
  obtain rfl := os h
  exact ⟨.inl rfl,hfin⟩
 refine WpL.mono hL ?_
 rintro _ _ ⟨rfl,hfin⟩
 obtain rfl := os h
 exact ⟨.inl rfl,hfin⟩
def Kk9 (code0 : Int) : Option (Int × Int) :=
 (Kir (code0,0,2)) >>= fun a0 =>
 if a0 = true then
 some (code0,(-1))
 else
 (Kir (code0,3,18)) >>= fun a1 =>
 if a1 = true then
 some (3,(wr (code0 - 3)))
 else
 (Kir (code0,19,34)) >>= fun a2 =>
 if a2 = true then
 some (4,(wr (code0 - 19)))
 else
 if (code0 == 35) = true then
 some (3,(-1))
 else
 if (code0 == 36) = true then
 some (4,(-1))
 else
 some (5,(-1))
def Kka (code0 : Int) (r : Int × Int) : Prop :=
 Q77 Tryz.prog 157 [I code0] (.tup [I r.1,I r.2]) []
theorem Kkb : ∀ p r,Kk9 p = some r → Kka p r := by
 rintro code0 r h
 unfold Kk9 at h
 refine b0 Tryz.f157 K73 24 [(0,I code0)] fun c hc => (K9f hc 2 [] [] [] (sN (bk 0 ?_)))
 obtain ⟨a0,a1,h⟩ := Qe5 h
 refine rsd hc none [oN,oc (.bool a0),oN] [] [(4,.bool a0)] [] (cq (Kit _ _ a1) K6q tv) (ic h (fun a2 h => ?_) fun a2 h => ?_)
 ·obtain rfl := os h
  exact rs0 hc 3 [(2,I code0),(3,I (-1))] [] (rt (rq [true,true]))
 obtain ⟨a3,a4,h⟩ := Qe5 h
 refine rsd hc none [oN,oc (.bool a3),oN] [4] [(8,.bool a3)] [] (cq (Kit _ _ a4) K6q tv) (ic h (fun a5 h => ?_) fun a5 h => ?_)
 ·obtain rfl := os h
  exact rs0 hc 4 [(2,I 3),(3,I (wr (code0 - 3)))] [] (rt (rq [true,true]))
 obtain ⟨a6,a7,h⟩ := Qe5 h
 refine rsd hc none [oN,oc (.bool a6),oN] [8] [(13,.bool a6)] [] (cq (Kit _ _ a7) K6q tv) (ic h (fun a8 h => ?_) fun a8 h => ?_)
 ·obtain rfl := os h
  exact rs0 hc 4 [(2,I 4),(3,I (wr (code0 - 19)))] [] (rt (rq [true,true]))
 refine K9f hc 3 [13] [(18,.bool (code0 == 35))] [] (ic h (fun a9 h => ?_) fun a9 h => ?_)
 ·obtain rfl := os h
  exact rs0 hc 2 [(2,I 3),(3,I (-1))] [] (rt (rq [true,true]))
 refine rs0 hc 3 [(21,.bool (code0 == 36))] [] (ic h (fun b1 h => ?_) fun b1 h => ?_)
 ·obtain rfl := os h
  exact rs0 hc 2 [(2,I 4),(3,I (-1))] [] (rt (rq [true,true]))
 obtain rfl := os h
 exact sk (rs0 hc 2 [(2,I 5),(3,I (-1))] [] (rt (rq [true,true])))
def Kkc (p : (List Int) × Int) : Option (Int) :=
 match p with
 | (ty0,at1) =>
  ((
  if (decide (at1 < 0)) = true then
  some (true)
  else
  some ((decide (at1 ≥ (ty0.length : Int))))
  ) : Option (Bool)) >>= fun a0 =>
  if a0 = true then
  some (-1)
  else
  (idx ty0 at1) >>= fun a1 =>
  (Kk9 a1) >>= fun (a2,a3) =>
  if (a2 == 0) = true then
  some (wr (at1 + 1))
  else
  if (a2 == 4) = true then
  (Kkc (ty0,(wr (at1 + 1)))) >>= fun a4 =>
  some a4
  else
  if (a2 == 5) = true then
  some (-1)
  else
  (Kkc (ty0,(wr (at1 + 1)))) >>= fun a5 =>
  (Kkc (ty0,a5)) >>= fun a6 =>
  some a6
 partial_fixpoint
def Kkd (p : (List Int) × Int) (r : Int) : Prop :=
 match p with
 | (ty0,at1) => Q77 Tryz.prog 213 [sI ty0,I at1] (I r) []
theorem Kke : ∀ p r,Kkc p = some r → Kkd p r := by
 refine Kkc.partial_correctness Kkd ?_
 rintro impl_typeEnd_f impl_typeEnd_ih ⟨ty0,at1⟩ r h
 refine b0 Tryz.f213 K75 42 [(0,sI ty0),(1,I at1)] fun c hc => (K9f hc 1 [] [] [] (sN (sN ?_)))
 obtain ⟨a0,a1,h⟩ := Qe5 h
 refine wi [] [(14,.bool a0)] ?_ ?_
 ·replace h := a1
  rcases is h with ⟨a2,h⟩ | ⟨a2,h⟩
  ·obtain rfl := os h
   exact rj hc none ([oN,oN,oN]++n_ 4 [oT]) (ar 4 (neF a2) (ai a2 tv))
  obtain rfl := os h
  exact rj hc none (nN 5 [nQ ⟨[(12,I (ty0.length : Int))],[],[]⟩,oN,oF]) (ar 3 a2 (ai (Qeb (d := 12) I ty0) (ar 2 a2 tv)))
 clear a1
 refine ic h (fun a3 h => ?_) fun a3 h => ?_
 ·obtain rfl := os h
  exact rs0 hc 1 [(4,I (-1))] [] (rt (rq [true]))
 refine sk ?_
 obtain ⟨a4,a5,⟨a6,a7⟩,a8,h⟩ := bq2 h
 refine rsd hc none ([oN,oN,eL (I a4),oN,oc (.tup [I a6,I a7])]++nN 5 []) [14] [(5,I a6)] [] (ai (ix a5) (cq (Kkb _ _ a8) K74 tv)) (sN (K9f hc 1 [5] [(23,I a6)] [] (bk 0 (K9f hc 2 [] [(24,.bool (a6 == 0))] [] (ic h (fun a9 h => ?_) fun a9 h => ?_)))))
 ·obtain rfl := os h
  exact rs0 hc 3 [(4,I (wr (at1 + 1)))] [] (rt (rq [true]))
 refine rs0 hc 2 [(0,sI ty0),(1,I at1),(23,I a6),(28,.bool (a6 == 4))] [] (ic h (fun b1 h => ?_) fun b1 h => ?_)
 ·obtain ⟨b2,b3,h⟩ := Qe5 h
  obtain rfl := os h
  exact rs hc none [oN,oN,oN,oc (I b2),oN] [(4,I b2)] [] (cq (impl_typeEnd_ih _ _ b3) K76 tv) (rt (rq [true]))
 refine K9f hc 2 [23,28] [(34,.bool (a6 == 5))] [] (ic h (fun b4 h => ?_) fun b4 h => ?_)
 ·obtain rfl := os h
  exact rs0 hc 1 [(4,I (-1))] [] (rt (rq [true]))
 refine sk ?_
 obtain ⟨b5,b6,b7,b8,h⟩ := bq2 h
 obtain rfl := os h
 exact rs hc none (nN 4 [oc (I b5),oc (I b7),oN]) [(4,I b7)] [] (cq (impl_typeEnd_ih _ _ b6) K76 (cq (impl_typeEnd_ih _ _ b8) K76 tv)) (rt (rq [true]))
def Kkf (ty0 : (List Int)) : Option (Bool) :=
 ((
 (Kir ((ty0.length : Int),1,40)) >>= fun a0 =>
 if a0 = true then
 (Kkc (ty0,0)) >>= fun a1 =>
 some ((a1 == (ty0.length : Int)))
 else
 some (false)
 ) : Option (Bool)) >>= fun a2 =>
 some a2
def Kkg (ty0 : (List Int)) (r : Bool) : Prop :=
 Q77 Tryz.prog 159 [sI ty0] (.bool r) []
theorem Kkh : ∀ p r,Kkf p = some r → Kkg p r := by
 rintro ty0 r h
 unfold Kkf at h
 refine b0 Tryz.f159 K77 13 [(0,sI ty0)] fun c hc => (K9f hc 1 [] [] [] (sN ?_))
 obtain ⟨a0,a1,h⟩ := Qe5 h
 refine Wp.into (x := .normal) (mkS [(2,.bool a0)] []) ?_ ?_
 ·replace h := a1
  obtain ⟨a2,a3,h⟩ := Qe5 h
  rcases is h with ⟨a4,h⟩ | ⟨a4,h⟩
  ·obtain ⟨a5,a6,h⟩ := Qe5 h
   obtain rfl := os h
   exact rj hc none [oN,nQ ⟨[(4,I (ty0.length : Int))],[],[]⟩,oc (.bool a2),oN,oN,oc (I a5),oN,nQ ⟨[(10,I (ty0.length : Int))],[],[]⟩,oN,oT,oN] (ai (Qeb (d := 4) I ty0) (cq (Kit _ _ a3) K6q (ar 2 a4 (cq (Kke _ _ a6) K76 (ar 2 a4 (ai (Qeb (d := 10) I ty0) (ar 2 a4 tv)))))))
  obtain rfl := os h
  exact rj hc none ([oN,nQ ⟨[(4,I (ty0.length : Int))],[],[]⟩,oc (.bool a2),oN]++n_ 5 [oF,oN]) (ai (Qeb (d := 4) I ty0) (cq (Kit _ _ a3) K6q (ar 5 (neT a4) (ai a4 tv))))
 clear a1
 obtain rfl := os h
 exact rt (rq [true])
def Kki (c : Ctx) : (Unit) ⊕ (Bool) → Exit → Q0a → Prop
 | .inl _ => Qdr c (.exit 0) (mkS [] [])
 | .inr r => Qe0 TIx Tryz.f78 [] (.bool r)
def Kkj (p : K00 × (List Int) × Int) : Option ((Unit) ⊕ (Bool)) :=
 match p with
 | (s0,ty1,a0) =>
  if (decide (a0 < (ty1.length : Int))) = true then
  (idx ty1 a0) >>= fun a1 =>
  (Kk9 a1) >>= fun (a2,a3) =>
  ((
  if (a2 == 3) = true then
  (Kiu (s0,a3)) >>= fun a4 =>
  some ((!a4))
  else
  if (a2 == 4) = true then
  (Kiu (s0,a3)) >>= fun a4 =>
  some ((!a4))
  else
  some (false)
  ) : Option (Bool)) >>= fun a5 =>
  if a5 = true then
  some (.inr false)
  else
  Kkj (s0,ty1,(wr (a0 + 1)))
  else
  some (.inl ())
 partial_fixpoint
def Kkk (p : K00 × (List Int) × Int) (fl : (Unit) ⊕ (Bool)) : Prop :=
 match p with
 | (s0,ty1,a0) => ∀ c : Ctx,c.nt = 36 → WpL Tryz.prog c (cl (cl (cr (cl (cr (cr B78)))))) (Kki c fl) (mkS [(2,.ra 1 0),(12,sI ty1),(13,I (ty1.length : Int)),(14,I a0)] [(1,K1v s0)])
theorem Kkl : ∀ p r,Kkj p = some r → Kkk p r := by
 refine Kkj.partial_correctness Kkk ?_
 rintro impl_isTypeOf_l0_f impl_isTypeOf_l0_ih ⟨s0,ty1,a0⟩ r h
 intro c hc
 refine WpL.step (K9h hc 1 [] [(15,.bool (decide (a0 < (ty1.length : Int))))] (sN (ic h (fun a1 h => ?_) fun a1 h => ?_)))
 ·refine sk (sN (bk 1 ?_))
  obtain ⟨a2,a3,h⟩ := Qe5 h
  refine K9g hc none [eL (I a2),oN,oN] [15] [(6,I a2)] (ai (ix a3) tv) ?_
  obtain ⟨⟨a4,a5⟩,a6,h⟩ := Qe5 h
  refine K9g hc none ([oN,oc (.tup [I a4,I a5])]++nN 5 []) [6] [(7,I a4),(8,I a5)] (cq (Kkb _ _ a6) K74 tv) (sN ?_)
  obtain ⟨a7,a8,h⟩ := Qe5 h
  refine wi [7,8] [(34,.bool a7)] ?_ ?_
  ·replace h := a8
   rcases is h with ⟨a9,h⟩ | ⟨a9,h⟩
   ·obtain ⟨b1,b2,h⟩ := Qe5 h
    obtain rfl := os h
    exact rj hc none [oN,oN,oN,o_,o_,oT,oN,oN,oN,oc (.bool b1),oN,oT] (ar 2 (neF a9) (ai a9 (ar 3 tt (cq (Kiw _ _ b2) K6s (ar 2 tt tv)))))
   rcases is h with ⟨b3,h⟩ | ⟨b3,h⟩
   ·obtain ⟨b1,b2,h⟩ := Qe5 h
    obtain rfl := os h
    exact rj hc none (nN 5 [oF,oN,oN,oN,oc (.bool b1),oN,oT]) (ar 3 a9 (ar 3 b3 (cq (Kiw _ _ b2) K6s (ar 2 b3 tv))))
   obtain rfl := os h
   exact rj hc none (nN 5 ([oF,oN]++n_ 4 [oF])) (ar 3 a9 (ar 4 (neT b3) (ai b3 tv)))
  clear a8
  refine ic h (fun b4 h => ?_) fun b4 h => ?_
  ·obtain rfl := os h
   exact rs0 hc 1 [(4,.bool false)] [] (rt (re [true]))
  exact sk (ri0 hc 2 (Qdn (impl_isTypeOf_l0_ih _ _ h c hc)))
 obtain rfl := os h
 exact xt 0 (Qdh (Qdo (iv [])))
def Kkm (p : K00 × (List Int)) : Option (Bool) :=
 match p with
 | (s0,ty1) =>
  (Kkf ty1) >>= fun a0 =>
  if a0 = true then
  (Kkj (s0,ty1,0)) >>= fun fl => match fl with
  | .inl () =>
   some true
  | .inr r =>
   some r
  else
  some false
def Kkn (p : K00 × (List Int)) (r : Bool) : Prop :=
 match p with
 | (s0,ty1) => Q77 Tryz.prog 78 [K1w s0,sI ty1] (.bool r) []
theorem Kko : ∀ p r,Kkm p = some r → Kkn p r := by
 rintro ⟨s0,ty1⟩ r h
 unfold Kkm at h
 refine b0 Tryz.f78 B78 36 [(0,K1w s0),(1,sI ty1)] fun c hc => (rsd hc none [nW 1,oN] [0] [(2,.ra 1 0)] [(1,K1v s0)] tv (sN ?_))
 obtain ⟨a0,a1,h⟩ := Qe5 h
 refine K9g hc none [oN,oc (.bool a0),oN] [] [(11,.bool (!a0))] (cq (Kkh _ _ a1) K78 tv) ?_
 rcases is h with ⟨a2,h⟩ | ⟨a2,h⟩
 ·refine cF (!a0) (nF a2) (sk (sN (rss hc none [oN,nQ ⟨[(13,I (ty1.length : Int))],[],[]⟩,oN] [(2,.ra 1 0),(12,sI ty1),(13,I (ty1.length : Int)),(14,I 0)] (ai (Qeb (d := 13) I ty1) tv) (bk 0 ?_))))
  obtain ⟨fl,a3,h⟩ := Qe5 h
  have hL := Kkl _ _ a3 c hc
  refine lp ?_
  rcases fl with ⟨⟩ | r
  ·refine wl hL ?_
   obtain rfl := os h
   exact Qdj (rs0 hc 1 [(4,.bool true)] [] (rt (rq [true])))
  refine WpL.mono hL ?_
  rintro _ _ ⟨rfl,hfin⟩
  obtain rfl := os h
  exact ⟨.inl rfl,hfin⟩
 refine cT (!a0) (nT a2) ?_
 obtain rfl := os h
 exact rs0 hc 1 [(4,.bool false)] [] (rt (rq [true]))
def Kkp (p : (List Int) × K00) : Option (Bool) :=
 match p with
 | (ty0,cap0) =>
  (Kkm (cap0,ty0)) >>= fun a0 =>
  some (!a0)
def Kkq (p : (List Int) × K00) (r : Bool) : Prop :=
 match p with
 | (ty0,cap0) => Q77 Tryz.prog 217 [sI ty0,.ptr [I cap0.fSize,sI cap0.fPlus,sI cap0.fTimes,sB cap0.fBelow] 0] (.bool r) []
theorem Kkr : ∀ p r,Kkp p = some r → Kkq p r := by
 rintro ⟨ty0,cap0⟩ r h
 unfold Kkp at h
 refine b0 Tryz.f217 K7a 8 [(0,sI ty0),(1,.ptr [I cap0.fSize,sI cap0.fPlus,sI cap0.fTimes,sB cap0.fBelow] 0)] fun c hc => (K9f hc 1 [] [] [] ?_)
 obtain ⟨a0,a1,h⟩ := Qe5 h
 obtain rfl := os h
 exact rs hc none [oN,oN,oc (.bool a0),oN,oN] [(3,.bool (!a0))] [] (cq (Kko _ _ a1) K79 tv) (rt (rq [true]))
def Kks (c : Ctx) : (Unit) ⊕ (Int) → Exit → Q0a → Prop
 | .inl _ => Qdr c (.exit 0) (mkS [] [])
 | .inr r => Qe0 TIx Tryz.f241 [] (I r)
def Kkt (p : LL × K00 × Int) : Option ((Unit) ⊕ (Int)) :=
 match p with
 | (s0,clo1_0,a0) =>
  if (decide (a0 < (s0.length : Int))) = true then
  (idx s0 a0) >>= fun a1 =>
  (Kkp (a1,clo1_0)) >>= fun a2 =>
  if a2 = true then
  some (.inr a0)
  else
  Kkt (s0,clo1_0,(wr (a0 + 1)))
  else
  some (.inl ())
 partial_fixpoint
def Kku (p : LL × K00 × Int) (fl : (Unit) ⊕ (Int)) : Prop :=
 match p with
 | (s0,clo1_0,a0) => ∀ c : Ctx,c.nt = 19 → WpL Tryz.prog c (cl (cl (cr (cl (cr K7c))))) (Kks c fl) (mkS [(0,sL s0),(1,.fn 217 [.ptr [I clo1_0.fSize,sI clo1_0.fPlus,sI clo1_0.fTimes,sB clo1_0.fBelow] 0]),(7,I (s0.length : Int)),(8,I a0)] [])
theorem Kkv : ∀ p r,Kkt p = some r → Kku p r := by
 refine Kkt.partial_correctness Kku ?_
 rintro slices_IndexFunc_Lint_Kimpl_isContext_c1_l0_f slices_IndexFunc_Lint_Kimpl_isContext_c1_l0_ih ⟨s0,clo1_0,a0⟩ r h
 intro c hc
 refine WpL.step (K9f hc 1 [] [(9,.bool (decide (a0 < (s0.length : Int))))] [] (sN (ic h (fun a1 h => ?_) fun a1 h => ?_)))
 ·refine sk (sN (bk 1 (K9f hc 2 [9] [(5,I a0)] [] ?_)))
  obtain ⟨a2,a3,a4,a5,h⟩ := bq2 h
  refine rsd hc none [oN,oN,oN,eL (sI a2),oN,oc (.bool a4)] [] [(16,.bool a4)] [] (ai (xL a3) (cq (Kkr _ _ a5) K7b tv)) (ic h (fun a6 h => ?_) fun a6 h => ?_)
  ·obtain rfl := os h
   exact rs0 hc 2 [(4,I a0)] [] (rt (re [true]))
  exact sk (ri0 hc 2 (Qdn (slices_IndexFunc_Lint_Kimpl_isContext_c1_l0_ih _ _ h c hc)))
 obtain rfl := os h
 exact xt 0 (Qdh (Qdo (iv [])))
def Kkw (p : LL × K00) : Option (Int) :=
 match p with
 | (s0,clo1_0) =>
  (Kkt (s0,clo1_0,0)) >>= fun fl => match fl with
  | .inl () =>
   some (-1)
  | .inr r =>
   some r
def Kkx (p : LL × K00) (r : Int) : Prop :=
 match p with
 | (s0,clo1_0) => Q77 Tryz.prog 241 [sL s0,.fn 217 [.ptr [I clo1_0.fSize,sI clo1_0.fPlus,sI clo1_0.fTimes,sB clo1_0.fBelow] 0]] (I r) []
theorem Kky : ∀ p r,Kkw p = some r → Kkx p r := by
 rintro ⟨s0,clo1_0⟩ r h
 unfold Kkw at h
 refine b0 Tryz.f241 K7c 19 [(0,sL s0),(1,.fn 217 [.ptr [I clo1_0.fSize,sI clo1_0.fPlus,sI clo1_0.fTimes,sB clo1_0.fBelow] 0])] fun c hc => (K9f hc 1 [] [] [] (sN (rs hc none [oN,nQ ⟨[(7,I (s0.length : Int))],[],[]⟩,oN] [(0,sL s0),(1,.fn 217 [.ptr [I clo1_0.fSize,sI clo1_0.fPlus,sI clo1_0.fTimes,sB clo1_0.fBelow] 0]),(7,I (s0.length : Int)),(8,I 0)] [] (ai (Qeb (d := 7) K14 s0) tv) (bk 0 ?_))))
 obtain ⟨fl,a0,h⟩ := Qe5 h
 have hL := Kkv _ _ a0 c hc
 refine lp ?_
 rcases fl with ⟨⟩ | r
 ·refine wl hL ?_
  obtain rfl := os h
  exact Qdj (rs0 hc 1 [(4,I (-1))] [] (rt (rq [true])))
 refine WpL.mono hL ?_
 rintro _ _ ⟨rfl,hfin⟩
 obtain rfl := os h
 exact ⟨.inl rfl,hfin⟩
def Kkz (p : LL × K00) : Option (Bool) :=
 match p with
 | (s0,clo1_0) =>
  (Kkw (s0,clo1_0)) >>= fun a0 =>
  some (decide (a0 ≥ 0))
def Kl0 (p : LL × K00) (r : Bool) : Prop :=
 match p with
 | (s0,clo1_0) => Q77 Tryz.prog 216 [sL s0,.fn 217 [.ptr [I clo1_0.fSize,sI clo1_0.fPlus,sI clo1_0.fTimes,sB clo1_0.fBelow] 0]] (.bool r) []
theorem Kl1 : ∀ p r,Kkz p = some r → Kl0 p r := by
 rintro ⟨s0,clo1_0⟩ r h
 unfold Kkz at h
 refine b0 Tryz.f216 K7e 9 [(0,sL s0),(1,.fn 217 [.ptr [I clo1_0.fSize,sI clo1_0.fPlus,sI clo1_0.fTimes,sB clo1_0.fBelow] 0])] fun c hc => (K9f hc 1 [] [] [] ?_)
 obtain ⟨a0,a1,h⟩ := Qe5 h
 obtain rfl := os h
 exact rs hc none [oN,oN,oc (I a0),oN,oN] [(4,.bool (decide (a0 ≥ 0)))] [] (cq (Kky _ _ a1) K7d tv) (rt (rq [true]))
def Kl2 (p : K00 × LL) : Option (Bool) :=
 match p with
 | (s0,ctx1) =>
  ((
  if (decide ((ctx1.length : Int) ≤ 8)) = true then
  (Kkz (ctx1,s0)) >>= fun a0 =>
  some ((!a0))
  else
  some (false)
  ) : Option (Bool)) >>= fun a1 =>
  some a1
def Kl3 (p : K00 × LL) (r : Bool) : Prop :=
 match p with
 | (s0,ctx1) => Q77 Tryz.prog 171 [K1w s0,sL ctx1] (.bool r) []
theorem Kl4 : ∀ p r,Kl2 p = some r → Kl3 p r := by
 rintro ⟨s0,ctx1⟩ r h
 unfold Kl2 at h
 refine b0 Tryz.f171 K7g 14 [(0,K1w s0),(1,sL ctx1)] fun c hc => (rsd hc none [nW 1,oN] [0] [(2,.ra 1 0)] [(1,K1v s0)] tv (sN ?_))
 obtain ⟨a0,a1,h⟩ := Qe5 h
 refine Wp.into (x := .normal) (mkS [(4,.bool a0)] []) ?_ ?_
 ·replace h := a1
  rcases is h with ⟨a2,h⟩ | ⟨a2,h⟩
  ·obtain ⟨a3,a4,h⟩ := Qe5 h
   obtain rfl := os h
   exact rj hc none ([oN,nQ ⟨[(6,I (ctx1.length : Int))],[],[]⟩]++nN 4 [oc (.bool a3),oN,oT,oN]) (ai (Qeb (d := 6) K14 ctx1) (ar 3 a2 (ac (Kl1 _ _ a4) K7f (Or.inr rfl : ([1] : List Nat) = [] ∨ noSh (.bool a3) = true) (ar 2 a2 tv))))
  obtain rfl := os h
  exact rj hc none ([oN,nQ ⟨[(6,I (ctx1.length : Int))],[],[]⟩,oN,oN]++n_ 4 [oF,oN]) (ai (Qeb (d := 6) K14 ctx1) (ar 4 (neT a2) (ai a2 tv)))
 clear a1
 obtain rfl := os h
 exact rt (rq [true])
def Kl5 (op0 : Int) : Option (K05 × Bool) :=
 (Kir (op0,0,12)) >>= fun a0 =>
 if a0 = true then
 (idx [(K05.mk (ByteArray.mk #[120]) 0 false false),(K05.mk ByteArray.empty 0 false false),(K05.mk (ByteArray.mk #[97,100,100]) 2 false false),(K05.mk (ByteArray.mk #[105,102]) 3 false false),(K05.mk (ByteArray.mk #[112,97,105,114]) 2 false false),(K05.mk (ByteArray.mk #[115,112,108,105,116]) 2 true false),(K05.mk (ByteArray.mk #[108,101,102,116]) 1 false true),(K05.mk (ByteArray.mk #[114,105,103,104,116]) 1 false true),(K05.mk (ByteArray.mk #[99,97,115,101]) 3 true false),(K05.mk (ByteArray.mk #[102,117,110]) 1 true true),(K05.mk (ByteArray.mk #[97,112,112]) 2 false false),(K05.mk (ByteArray.mk #[98,111,120]) 1 true false),(K05.mk (ByteArray.mk #[111,112,101,110]) 2 true false)] op0) >>= fun a1 =>
 some (a1,true)
 else
 some ((K05.mk ByteArray.empty 0 false false),false)
def Kl6 (op0 : Int) (r : K05 × Bool) : Prop :=
 Q77 Tryz.prog 188 [I op0] (.tup [.agg [.str r.1.fword,I r.1.fkids,.bool r.1.fgrade,.bool r.1.ftyped],.bool r.2]) []
theorem Kl7 : ∀ p r,Kl5 p = some r → Kl6 p r := by
 rintro op0 r h
 unfold Kl5 at h
 refine b0 Tryz.f188 K7i 25 [(0,I op0)] fun c hc => (rsd hc none [nW 1,oN] [] [(2,.ra 1 0)] [(1,.box [.str ByteArray.empty,I 0,.bool false,.bool false])] tv (sN ?_))
 obtain ⟨a0,a1,h⟩ := Qe5 h
 refine K9g hc none [oN,oc (.bool a0),oN] [] [(6,.bool (!a0))] (cq (Kit _ _ a1) K6q tv) ?_
 rcases is h with ⟨a2,h⟩ | ⟨a2,h⟩
 ·refine cF (!a0) (nF a2) (sk ?_)
  obtain ⟨a3,a4,h⟩ := Qe5 h
  obtain rfl := os h
  exact rsd hc none (nN 13 [mK 2,oN,oN,eL (.agg [.str a3.fword,I a3.fkids,.bool a3.fgrade,.bool a3.ftyped]),oN,oN]) [6,0] [(3,.bool true)] [(1,.box [.str a3.fword,I a3.fkids,.bool a3.fgrade,.bool a3.ftyped])] (ab (Qea (enc := K0x) a4) (Qe9 (enc := K0x) (x := .agg [.str a3.fword,I a3.fkids,.bool a3.fgrade,.bool a3.ftyped]) a4 (K1l a3)).2 tv) (rt (rq [true,true]))
 refine cT (!a0) (nT a2) ?_
 obtain rfl := os h
 exact K9h hc 3 [6,0] [(3,.bool false)] (rt (rq [true,true]))
def Kl8 (p : (List Int) × K00) : Option (Bool) :=
 match p with
 | (ty0,cap0) =>
  (Kkm (cap0,ty0)) >>= fun a0 =>
  some a0
def Kl9 (p : (List Int) × K00) (r : Bool) : Prop :=
 match p with
 | (ty0,cap0) => Q77 Tryz.prog 218 [sI ty0,.ptr [I cap0.fSize,sI cap0.fPlus,sI cap0.fTimes,sB cap0.fBelow] 0] (.bool r) []
theorem Kla : ∀ p r,Kl8 p = some r → Kl9 p r := by
 rintro ⟨ty0,cap0⟩ r h
 unfold Kl8 at h
 refine b0 Tryz.f218 K7k 7 [(0,sI ty0),(1,.ptr [I cap0.fSize,sI cap0.fPlus,sI cap0.fTimes,sB cap0.fBelow] 0)] fun c hc => (K9f hc 1 [] [] [] ?_)
 obtain ⟨a0,a1,h⟩ := Qe5 h
 obtain rfl := os h
 exact rs hc none [oN,oN,oc (.bool a0),oN] [(3,.bool a0)] [] (cq (Kko _ _ a1) K79 tv) (rt (rq [true]))
def Klb (p : Int × Int) : Option (Int) :=
 match p with
 | (op0,kid1) =>
  ((
  if (op0 == 5) = true then
  some ((kid1 == 1))
  else
  some (false)
  ) : Option (Bool)) >>= fun a0 =>
  if a0 = true then
  some 2
  else
  ((
  if (op0 == 8) = true then
  some ((decide (kid1 > 0)))
  else
  some (false)
  ) : Option (Bool)) >>= fun a1 =>
  ((
  if a1 = true then
  some (a1)
  else
  ((
  if (op0 == 9) = true then
  some ((op0 == 9))
  else
  ((
  if (op0 == 12) = true then
  some ((kid1 == 1))
  else
  some (false)
  ) : Option (Bool)) >>= fun a2 =>
  some (a2)
  ) : Option (Bool)) >>= fun a3 =>
  some (a3)
  ) : Option (Bool)) >>= fun a4 =>
  if a4 = true then
  some 1
  else
  some 0
def Klc (p : Int × Int) (r : Int) : Prop :=
 match p with
 | (op0,kid1) => Q77 Tryz.prog 199 [I op0,I kid1] (I r) []
theorem Kld : ∀ p r,Klb p = some r → Klc p r := by
 rintro ⟨op0,kid1⟩ r h
 unfold Klb at h
 refine b0 Tryz.f199 K7m 27 [(0,I op0),(1,I kid1)] fun c hc => (K9f hc 1 [] [] [] (sN (bk 0 (sN ?_))))
 obtain ⟨a0,a1,h⟩ := Qe5 h
 refine wi [] [(5,.bool a0)] ?_ ?_
 ·replace h := a1
  rcases is h with ⟨a2,h⟩ | ⟨a2,h⟩
  ·obtain rfl := os h
   exact rj hc none (nN 5 [oT,oN]) (ar 3 a2 tv)
  obtain rfl := os h
  exact rj hc none [oN,oN,oN,o_,o_,oF,oN] (ar 2 (neT a2) (ai a2 tv))
 clear a1
 refine ic h (fun a3 h => ?_) fun a3 h => ?_
 ·obtain rfl := os h
  exact rs0 hc 1 [(4,I 2)] [] (rt (rq [true]))
 refine sN (sN ?_)
 obtain ⟨a4,a5,h⟩ := Qe5 h
 refine wi [5] [(12,.bool a4)] ?_ ?_
 ·replace h := a5
  rcases is h with ⟨a6,h⟩ | ⟨a6,h⟩
  ·obtain rfl := os h
   exact rj hc none (nN 5 [oT,oN]) (ar 3 a6 tv)
  obtain rfl := os h
  exact rj hc none [oN,oN,oN,o_,o_,oF,oN] (ar 2 (neT a6) (ai a6 tv))
 clear a5
 obtain ⟨a7,a8,h⟩ := Qe5 h
 refine Wp.into (x := .normal) (mkS [(12,.bool a7)] []) ?_ ?_
 ·replace h := a8
  refine ic h (fun a9 h => ?_) fun a9 h => ?_
  ·obtain rfl := os h
   exact sk (iv [])
  refine K9f hc 3 [12] [(12,.bool (op0 == 9))] [] ?_
  obtain ⟨b1,b2,h⟩ := Qe5 h
  refine Wp.into (x := .normal) (mkS [(12,.bool b1)] []) ?_ ?_
  ·replace h := b2
   refine ic h (fun b3 h => ?_) fun b3 h => ?_
   ·obtain rfl := os h
    exact sk (iv [])
   obtain ⟨b4,b5,h⟩ := Qe5 h
   refine Wp.into (x := .normal) (mkS [(12,.bool b4)] []) ?_ ?_
   ·replace h := b5
    rcases is h with ⟨b6,h⟩ | ⟨b6,h⟩
    ·obtain rfl := os h
     exact rj hc none (nN 5 [oT,oN]) (ar 3 b6 tv)
    obtain rfl := os h
    exact rj hc none [oN,oN,oN,o_,o_,oF,oN] (ar 2 (neT b6) (ai b6 tv))
   clear b5
   obtain rfl := os h
   exact im
  clear b2
  obtain rfl := os h
  exact im
 clear a8
 refine ic h (fun b7 h => ?_) fun b7 h => ?_
 ·obtain rfl := os h
  exact rs0 hc 1 [(4,I 1)] [] (rt (rq [true]))
 obtain rfl := os h
 exact sk (rs0 hc 1 [(4,I 0)] [] (rt (rq [true])))
def Kle (c : Ctx) : (Int) ⊕ (Int) → Exit → Q0a → Prop
 | .inl a0 => Qdr c (.exit 1) (mkS [(4,I a0)] [])
 | .inr r => Qe0 TIx Tryz.f134 [] (I r)
end Go.Am
