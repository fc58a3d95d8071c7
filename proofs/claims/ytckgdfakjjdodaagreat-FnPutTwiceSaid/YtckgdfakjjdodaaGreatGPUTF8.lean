/- Walks, printed. -/
import Derived.Test.YtckgdfakjjdodaaGreatGPUTF6
set_option linter.unusedVariables false
set_option linter.unusedSimpArgs false
set_option maxRecDepth 100000
namespace Go.Am
open Go Go.Proofs
def Kgt : Option (List (List Nat)) := rx [[0],[0],[0,1],[0],[0,1,2,3],[5],[6],[7]]
def Kgu (p : K01 × (List K00) × Int) : Option (List K00 × K01) :=
 match p with
 | (c0,xs,ix) =>
  (idx xs ix) >>= fun e0 =>
  ((
  if (decide ((e0.fKids.length : Int) > 0)) = true then
  (K8a (c0,3)) >>= fun (a0,a1) =>
  some ((a1.fb,a1.fi,a1.fh,(decide (a0 > 0))))
  else
  some ((c0.fb,c0.fi,c0.fh,false))
  ) : Option ((List Int) × Int × Int × Bool)) >>= fun (a2,a3,a4,a5) =>
  if a5 = true then
  (K8a ((K01.mk a2 a3 a4),(e0.fKids.length : Int))) >>= fun (a6,a7) =>
  (idx e0.fKids a6) >>= fun a8 =>
  (Kgu (a7,e0.fKids,a6)) >>= fun (ks,c2) => some ((List.set xs (Int.toNat ix) (K00.mk e0.fOp e0.fN e0.fType ks)),c2)
  else
  (K8a ((K01.mk a2 a3 a4),6)) >>= fun (a9,b1) =>
  if (a9 == 0) = true then
  (K8a (b1,15)) >>= fun (b2,b3) =>
  some ((List.set xs (Int.toNat ix) (K00.mk (wr (b2 - 1)) e0.fN e0.fType e0.fKids)),b3)
  else
  ((
  if (a9 == 1) = true then
  some ((a9 == 1))
  else
  some ((a9 == 2))
  ) : Option (Bool)) >>= fun b4 =>
  if b4 = true then
  (Kgo (b1,[(-2),(-1),0,1,2,3,7,8,16])) >>= fun (b5,b6) =>
  some ((List.set xs (Int.toNat ix) (K00.mk e0.fOp b5 e0.fType e0.fKids)),b6)
  else
  if (a9 == 3) = true then
  (Kgo (b1,[0,1,35,99])) >>= fun (b7,b8) =>
  some ((List.set xs (Int.toNat ix) (K00.mk e0.fOp e0.fN [b7] e0.fKids)),b8)
  else
  if (a9 == 4) = true then
  (Qdw (e0.fKids.length + [(K00.mk 0 0 [] [])].length) 64) >>= fun _ =>
  (idx (e0.fKids ++ [(K00.mk 0 0 [] [])]) (e0.fKids.length : Int)) >>= fun b9 =>
  some ((List.set xs (Int.toNat ix) (K00.mk e0.fOp e0.fN e0.fType (List.set (e0.fKids ++ [(K00.mk 0 0 [] [])]) (Int.toNat (e0.fKids.length : Int)) (K00.mk 1 0 [] [])))),b1)
  else
  if (decide ((e0.fKids.length : Int) > 1)) = true then
  (idx e0.fKids 0) >>= fun c1 =>
  (idx e0.fKids 1) >>= fun c3 =>
  (idx e0.fKids 0) >>= fun c4 =>
  (idx (List.set e0.fKids (Int.toNat 0) c3) 1) >>= fun c5 =>
  some ((List.set xs (Int.toNat ix) (K00.mk e0.fOp e0.fN e0.fType (List.set (List.set e0.fKids (Int.toNat 0) c3) (Int.toNat 1) c1))),b1)
  else
  some (xs,b1)
 partial_fixpoint
def Kgv (p : K01 × (List K00) × Int) (r : List K00 × K01) : Prop :=
 match p with
 | (c0,xs,ix) => ∀ c : Ctx,c.nt = 108 → ∀ (v4 v5 : Value) (e0 : K00),idx xs ix = some e0 → ∀ a w,SRx c (mkS [(0,.ra 1000 0),(4,.raw v4),(5,.raw v5),(6,.ea 1001 4 (Int.toNat ix) 0)] [(1000,K1e c0),(1001,.arx (List.map K08 xs) (Int.toNat ix) 3 1002),(1002,.arr (List.map K08 e0.fKids))]) a w → WpR Tryz.prog (cl (cl (cl (cr (cr (cr (cr K5l))))))) (Qf8 Tryz.prog c 0 (cl (cr (cr (cr (cr (cr K5l)))))) (mkS [(4,.raw v4),(5,.raw v5)] [(1000,.box [.sl (List.map U8 r.2.fb),I r.2.fi,I r.2.fh]),(1001,.arr (List.map K05 r.1))])) a w
theorem Kgw : ∀ p r,Kgu p = some r → Kgv p r := by
 refine Kgu.partial_correctness Kgv ?_
 rintro spec_dSpoil_l0_f spec_dSpoil_l0_ih ⟨c0,xs,ix⟩ r h
 intro c hc v4 v5 e0 he0 a w hs
 refine WpR.deep (σ := mkS [(0,.ra 1000 0),(4,.raw v4),(5,.raw v5),(6,.ea 1001 4 (Int.toNat ix) 0)] [(1000,K1e c0),(1001,.arx (List.map K08 xs) (Int.toNat ix) 3 1002),(1002,.arr (List.map K08 e0.fKids))]) ?_ hs
 clear hs a w
 obtain ⟨e0,he1,h⟩ := Qdj h
 obtain rfl := Option.some.inj (he0.symm.trans he1)
 refine sN ?_
 refine sN ?_
 obtain ⟨⟨a0,a4,a5,a6⟩,a7,h⟩ := Qdj h
 refine Wp.into (x := .normal) (mkS [(0,.ra 1000 0),(4,.raw v4),(5,.raw v5),(6,.ea 1001 4 (Int.toNat ix) 0),(24,.bool a6)] [(1000,.box [.sl (List.map U8 a0),I a4,I a5]),(1001,.arx (List.map K08 xs) (Int.toNat ix) 3 1002),(1002,.arr (List.map K08 e0.fKids))]) ?_ ?_
 ·replace h := a7
  rcases is h with ⟨a8,h⟩ | ⟨a8,h⟩
  ·obtain ⟨⟨a9,b1⟩,b2,h⟩ := Qdj h
   refine rg hc none [oN,oN,oN,some (.el (K1k e0)),some (.eqv (.no) ⟨[(18,I (e0.fKids.length : Int))],[],[]⟩),oN,oN,oN,some (.call (I a9) [.optr [.sl (List.map U8 b1.fb),I b1.fi,I b1.fh],.undef] 1),oN,oT] [(0,.ra 1000 0),(4,.raw v4),(5,.raw v5),(6,.ea 1001 4 (Int.toNat ix) 0),(24,.bool (decide (a9 > 0)))] [(1000,K1e b1),(1001,.arx (List.map K08 xs) (Int.toNat ix) 3 1002),(1002,.arr (List.map K08 e0.fKids))] (ab (And.intro (Qdn he0 (K0e e0)).2 (rfl : Int.toNat ix = Int.toNat ix)) (Qdp (d := 18) K08 e0.fKids) (ar 2 a8 (ab (K8c _ _ b2) K2h (ar 2 a8 tv)))) ?_
   obtain ⟨rfl,hq0⟩ := Prod.mk.inj (Option.some.inj h)
   obtain ⟨rfl,hq1⟩ := Prod.mk.inj (hq0)
   obtain ⟨rfl,rfl⟩ := Prod.mk.inj (hq1)
   exact Qd5.mk
  refine rgs hc none [oN,oN,oN,some (.el (K1k e0)),some (.eqv (.no) ⟨[(18,I (e0.fKids.length : Int))],[],[]⟩),oN,oN,o_,o_,o_,oF] [(0,.ra 1000 0),(4,.raw v4),(5,.raw v5),(6,.ea 1001 4 (Int.toNat ix) 0),(24,.bool false)] (ab (And.intro (Qdn he0 (K0e e0)).2 (rfl : Int.toNat ix = Int.toNat ix)) (Qdp (d := 18) K08 e0.fKids) (ar 3 (neT a8) (ai a8 tv))) ?_
  obtain ⟨rfl,hq0⟩ := Prod.mk.inj (Option.some.inj h)
  obtain ⟨rfl,hq1⟩ := Prod.mk.inj (hq0)
  obtain ⟨rfl,rfl⟩ := Prod.mk.inj (hq1)
  exact Qd5.mk
 clear a7
 refine ic h (fun b3 h => ?_) fun b3 h => ?_
 ·refine sk ?_
  refine bk 1 ?_
  obtain ⟨⟨b4,b5⟩,b6,h⟩ := Qdj h
  obtain ⟨b7,b8,h⟩ := Qdj h
  refine rg hc (rx [[0],[1],[2],[3],[0],[0],[0,5],[0,5,6],[0,5,6,7],[0,5,6,7,8],[0,4,5,6,7,8,9],[11],[12]]) [oN,oN,oN,some (.el (K1k e0)),oN,oN,oN,oN,some (.el (K1k e0)),some (.eqv (.no) ⟨[(34,I (e0.fKids.length : Int))],[],[]⟩),some (.call (I b4) [.optr [.sl (List.map U8 b5.fb),I b5.fi,I b5.fh],.undef] 1),oN,oN] [(0,.ra 1000 0),(4,.raw v4),(5,.raw v5),(6,.ea 1002 4 (Int.toNat b4) 0)] [(1000,K1e b5),(1001,.arx (List.map K08 xs) (Int.toNat ix) 3 1002),(1002,.arr (List.map K08 e0.fKids))] (ar 2 (And.intro (Qdn he0 (K0e e0)).2 (rfl : Int.toNat ix = Int.toNat ix)) (ad (Qdp (d := 34) K08 e0.fKids) (K8c _ _ b6) K2h (Qdo (enc := K08) b8) tv)) ?_
  obtain ⟨⟨ks,c2⟩,hz,h⟩ := Qdj h
  obtain rfl := os h
  intro a1 w1 hs1
  have hs2 := SRx.openL 1002 (Int.toNat b4) 3 8 [8,1000,1001,1002] (O' := [(8,.arr (List.map K08 b7.fKids)),(1000,K1e b5),(1001,.arx (List.map K08 xs) (Int.toNat ix) 3 1002),(1002,.arx (List.map K08 e0.fKids) (Int.toNat b4) 3 8)]) (xs := List.map K08 e0.fKids) (ys := List.map K08 b7.fKids) (x0 := K1k b7) hs1 (by kernel_rfl) (Qdn b8 (K0e b7)).2 (by kernel_rfl) (by kernel_rfl) (by kernel_rfl)
  obtain ⟨c',hc',hz1,hout⟩ := SRx.zoomB (T' := [(0,.ra 1000 0),(4,.raw v4),(5,.raw v5),(6,.ea 1001 4 (Int.toNat b4) 0)]) (O' := [(1000,K1e b5),(1001,.arx (List.map K08 e0.fKids) (Int.toNat b4) 3 1002),(1002,.arr (List.map K08 b7.fKids))]) [(1000,1000),(1001,1002),(1002,8)] hs2 (by intro p hp; simp only [List.mem_cons,List.not_mem_nil,or_false] at hp; rcases hp with rfl | rfl | rfl | rfl <;> exact .inr (by kernel_rfl)) (by kernel_rfl) (by kernel_rfl)
  refine WpR.mono (spec_dSpoil_l0_ih _ _ hz c' (hc'.trans hc) v4 v5 b7 b8 a1 w1 hz1) (fun e a2 w2 hd => Qf8.mono (fun a3 w3 h3 => ?_) hd)
  have h4 := hout a3 w3 [(4,.raw v4),(5,.raw v5)] [(1000,K1e c2),(1001,.arr (List.map K05 ks))] h3 (by kernel_rfl) [(4,.raw v4),(5,.raw v5)] [(1000,K1e c2),(1001,.arx (List.map K08 xs) (Int.toNat ix) 3 1002),(1002,.arr (List.map K05 ks))] (by intro p hp; simp only [List.mem_cons,List.not_mem_nil,or_false] at hp; rcases hp with rfl | rfl <;> exact .inl ⟨rfl,by kernel_rfl⟩) (by intro p hp; simp only [List.mem_cons,List.not_mem_nil,or_false] at hp; rcases hp with rfl | rfl | rfl <;> first | exact .inr ⟨1000,rfl,rfl⟩ | exact .inr ⟨1001,rfl,rfl⟩ | exact .inl ⟨rfl,by kernel_rfl⟩)
  exact SRx.shareL 1001 [1000,1001] (xs := List.set (List.map K08 xs) (Int.toNat ix) (AV.agg [I e0.fOp,I e0.fN,oI e0.fType,.osl (List.map K05 ks)])) (xs' := List.map K05 (List.set xs (Int.toNat ix) (K00.mk e0.fOp e0.fN e0.fType ks))) (SRx.closeL 1001 (Int.toNat ix) 3 1002 [1000,1001] (O' := [(1000,K1e c2),(1001,.arr (List.set (List.map K08 xs) (Int.toNat ix) (AV.agg [I e0.fOp,I e0.fN,oI e0.fType,.osl (List.map K05 ks)])))]) (xs := List.map K08 xs) (ys := List.map K05 ks) (x0 := K1k e0) (x1 := AV.agg [I e0.fOp,I e0.fN,oI e0.fType,.osl (List.map K05 ks)]) h4 (by kernel_rfl) (by kernel_rfl) (by kernel_rfl) (Qdn he0 (K0e e0)).2 (by kernel_rfl) (by kernel_rfl) rfl (by kernel_rfl)) (by kernel_rfl) (Qfd (enc := K08) (enc' := K05) K14 (v := (K00.mk e0.fOp e0.fN e0.fType ks)) (x1 := AV.agg [I e0.fOp,I e0.fN,oI e0.fType,.osl (List.map K05 ks)]) (Kgr (K0z _))) (by kernel_rfl)
 refine xt 0 ?_
 refine Qcv ?_
 refine Qf9.exit ?_
 obtain ⟨⟨b9,c1⟩,c3,h⟩ := Qdj h
 refine rs hc none [oN,some (.call (I b9) [.optr [.sl (List.map U8 c1.fb),I c1.fi,I c1.fh],.undef] 1)] [(0,.ra 1000 0),(4,.raw v4),(5,.raw v5),(6,.ea 1001 4 (Int.toNat ix) 0),(38,I b9)] [(1000,K1e c1),(1001,.arx (List.map K08 xs) (Int.toNat ix) 3 1002),(1002,.arr (List.map K08 e0.fKids))] (ab (K8c _ _ c3) K2h tv) ?_
 refine bk 2 ?_
 refine K7p hc 2 [(0,.ra 1000 0),(4,.raw v4),(5,.raw v5),(6,.ea 1001 4 (Int.toNat ix) 0),(38,I b9),(68,.bool (b9 == 0))] ?_
 refine ic h (fun c4 h => ?_) fun c4 h => ?_
 ·refine Wp.view (fun a w hv => SRx.closeL 1001 (Int.toNat ix) 3 1002 [1000,1001] (xs := List.map K08 xs) (ys := List.map K08 e0.fKids) (x0 := K1k e0) (x1 := K1k e0) hv (by kernel_rfl) (by kernel_rfl) (by kernel_rfl) (Qdn he0 (K0e e0)).2 (by kernel_rfl) (by kernel_rfl) (Qfe (Qdn he0 (K0e e0)).2) (by kernel_rfl)) (?_ : Wp Tryz.prog c _ _ (mkS [(0,.ra 1000 0),(4,.raw v4),(5,.raw v5),(6,.ea 1001 4 (Int.toNat ix) 0),(38,I b9),(68,.bool (b9 == 0))] [(1000,K1e c1),(1001,.arr (List.map K08 xs))]))
  obtain ⟨⟨c5,c6⟩,c7,h⟩ := Qdj h
  refine rg hc none [oN,oN,some (.call (I c5) [.optr [.sl (List.map U8 c6.fb),I c6.fi,I c6.fh],.undef] 1),oN,oN,oN,some (.eqv (.el (K1k e0)) ⟨[],[(1001,some (.arr (List.map K08 (List.set xs (Int.toNat ix) (K00.mk (wr (c5 - 1)) e0.fN e0.fType e0.fKids)))))],[]⟩)] [(4,.raw v4),(5,.raw v5)] [(1000,K1e c6),(1001,.arr (List.map K08 (List.set xs (Int.toNat ix) (K00.mk (wr (c5 - 1)) e0.fN e0.fType e0.fKids))))] (ad (K8c _ _ c7) K2h (congrArg (fun z => (⟨[],[(1001,some (.arr z))],[]⟩ : Wr)) (Qem (enc := K08) (i := Int.toNat ix) (l := xs) (v := (K00.mk (wr (c5 - 1)) e0.fN e0.fType e0.fKids)) (x := AV.agg [I (wr (c5 - 1)),I e0.fN,oI e0.fType,.osl (List.map K08 e0.fKids)]) (K0e (K00.mk (wr (c5 - 1)) e0.fN e0.fType e0.fKids)))) (Qdn he0 (K0e e0)).2 tv) ?_
  obtain rfl := os h
  exact Qd5.view (fun a w hv => SRx.renL [] (SRx.shareL 1001 [1000,1001] (O' := [(1000,K1e c6),(1001,.arr (List.map K05 (List.set xs (Int.toNat ix) (K00.mk (wr (c5 - 1)) e0.fN e0.fType e0.fKids))))]) (xs := List.map K08 (List.set xs (Int.toNat ix) (K00.mk (wr (c5 - 1)) e0.fN e0.fType e0.fKids))) (xs' := List.map K05 (List.set xs (Int.toNat ix) (K00.mk (wr (c5 - 1)) e0.fN e0.fType e0.fKids))) hv (by kernel_rfl) (K14 _) (by kernel_rfl)) (by kernel_rfl) (by kernel_rfl) (by kernel_rfl))
 refine sN ?_
 refine K7p hc 2 [(0,.ra 1000 0),(4,.raw v4),(5,.raw v5),(6,.ea 1001 4 (Int.toNat ix) 0),(38,I b9),(76,.bool (b9 == 1))] ?_
 obtain ⟨c8,c9,h⟩ := Qdj h
 refine Wp.into (x := .normal) (mkS [(0,.ra 1000 0),(4,.raw v4),(5,.raw v5),(6,.ea 1001 4 (Int.toNat ix) 0),(38,I b9),(76,.bool c8)] [(1000,K1e c1),(1001,.arx (List.map K08 xs) (Int.toNat ix) 3 1002),(1002,.arr (List.map K08 e0.fKids))]) ?_ ?_
 ·replace h := c9
  refine ic h (fun d0 h => ?_) fun d0 h => ?_
  ·refine sk ?_
   obtain rfl := os h
   exact Qd5.mk
  refine K7o hc 2 [(0,.ra 1000 0),(4,.raw v4),(5,.raw v5),(6,.ea 1001 4 (Int.toNat ix) 0),(38,I b9),(76,.bool (b9 == 2))] ?_
  obtain rfl := os h
  exact Qd5.mk
 clear c9
 refine ic h (fun d1 h => ?_) fun d1 h => ?_
 ·refine Wp.view (fun a w hv => SRx.closeL 1001 (Int.toNat ix) 3 1002 [1000,1001] (xs := List.map K08 xs) (ys := List.map K08 e0.fKids) (x0 := K1k e0) (x1 := K1k e0) hv (by kernel_rfl) (by kernel_rfl) (by kernel_rfl) (Qdn he0 (K0e e0)).2 (by kernel_rfl) (by kernel_rfl) (Qfe (Qdn he0 (K0e e0)).2) (by kernel_rfl)) (?_ : Wp Tryz.prog c _ _ (mkS [(0,.ra 1000 0),(4,.raw v4),(5,.raw v5),(6,.ea 1001 4 (Int.toNat ix) 0),(38,I b9),(76,.bool c8)] [(1000,K1e c1),(1001,.arr (List.map K08 xs))]))
  obtain ⟨⟨d2,d3⟩,d4,h⟩ := Qdj h
  refine rg hc none [oN,oN,some (.call .undef [] 9),some (.call (I d2) [.optr [.sl (List.map U8 d3.fb),I d3.fi,I d3.fh],.undef] 1),oN,oN,some (.eqv (.el (K1k e0)) ⟨[],[(1001,some (.arr (List.map K08 (List.set xs (Int.toNat ix) (K00.mk e0.fOp d2 e0.fType e0.fKids)))))],[]⟩)] [(4,.raw v4),(5,.raw v5)] [(1000,K1e d3),(1001,.arr (List.map K08 (List.set xs (Int.toNat ix) (K00.mk e0.fOp d2 e0.fType e0.fKids))))] (ad (Kgq _ _ d4) K5k (congrArg (fun z => (⟨[],[(1001,some (.arr z))],[]⟩ : Wr)) (Qem (enc := K08) (i := Int.toNat ix) (l := xs) (v := (K00.mk e0.fOp d2 e0.fType e0.fKids)) (x := AV.agg [I e0.fOp,I d2,oI e0.fType,.osl (List.map K08 e0.fKids)]) (K0e (K00.mk e0.fOp d2 e0.fType e0.fKids)))) (Qdn he0 (K0e e0)).2 tv) ?_
  obtain rfl := os h
  exact Qd5.view (fun a w hv => SRx.renL [] (SRx.shareL 1001 [1000,1001] (O' := [(1000,K1e d3),(1001,.arr (List.map K05 (List.set xs (Int.toNat ix) (K00.mk e0.fOp d2 e0.fType e0.fKids))))]) (xs := List.map K08 (List.set xs (Int.toNat ix) (K00.mk e0.fOp d2 e0.fType e0.fKids))) (xs' := List.map K05 (List.set xs (Int.toNat ix) (K00.mk e0.fOp d2 e0.fType e0.fKids))) hv (by kernel_rfl) (K14 _) (by kernel_rfl)) (by kernel_rfl) (by kernel_rfl) (by kernel_rfl))
 refine K7p hc 2 [(0,.ra 1000 0),(4,.raw v4),(5,.raw v5),(6,.ea 1001 4 (Int.toNat ix) 0),(38,I b9),(85,.bool (b9 == 3))] ?_
 refine ic h (fun d5 h => ?_) fun d5 h => ?_
 ·refine Wp.view (fun a w hv => SRx.closeL 1001 (Int.toNat ix) 3 1002 [1000,1001] (xs := List.map K08 xs) (ys := List.map K08 e0.fKids) (x0 := K1k e0) (x1 := K1k e0) hv (by kernel_rfl) (by kernel_rfl) (by kernel_rfl) (Qdn he0 (K0e e0)).2 (by kernel_rfl) (by kernel_rfl) (Qfe (Qdn he0 (K0e e0)).2) (by kernel_rfl)) (?_ : Wp Tryz.prog c _ _ (mkS [(0,.ra 1000 0),(4,.raw v4),(5,.raw v5),(6,.ea 1001 4 (Int.toNat ix) 0),(38,I b9),(85,.bool (b9 == 3))] [(1000,K1e c1),(1001,.arr (List.map K08 xs))]))
  refine Wp.view (fun a w hv => SRx.shareL 1001 [1000,1001] (xs := List.map K08 xs) (xs' := List.map K05 xs) hv (by kernel_rfl) (K14 _) (by kernel_rfl)) (?_ : Wp Tryz.prog c _ _ (mkS [(0,.ra 1000 0),(4,.raw v4),(5,.raw v5),(6,.ea 1001 4 (Int.toNat ix) 0),(38,I b9),(85,.bool (b9 == 3))] [(1000,K1e c1),(1001,.arr (List.map K05 xs))]))
  obtain ⟨⟨d6,d7⟩,d8,h⟩ := Qdj h
  refine rg hc none [oN,oN,some (.call .undef [] 10),some (.call (I d6) [.optr [.sl (List.map U8 d7.fb),I d7.fi,I d7.fh],.undef] 1),some (.call .undef [] 11),oN,oN,some (.eqv (.el (K1d e0)) ⟨[],[(1001,some (.arr (List.map K05 (List.set xs (Int.toNat ix) (K00.mk e0.fOp e0.fN [d6] e0.fKids)))))],[]⟩)] [(4,.raw v4),(5,.raw v5)] [(1000,K1e d7),(1001,.arr (List.map K05 (List.set xs (Int.toNat ix) (K00.mk e0.fOp e0.fN [d6] e0.fKids))))] (ad (Kgq _ _ d8) K5k (congrArg (fun z => (⟨[],[(1001,some (.arr z))],[]⟩ : Wr)) (Qem (enc := K05) (i := Int.toNat ix) (l := xs) (v := (K00.mk e0.fOp e0.fN [d6] e0.fKids)) (x := AV.agg [I e0.fOp,I e0.fN,.sl (List.map I [d6]),.sl (List.map K05 e0.fKids)]) (K0c (K00.mk e0.fOp e0.fN [d6] e0.fKids)))) (Qdn he0 (K0c e0)).2 tv) ?_
  obtain rfl := os h
  exact Qd5.view (fun a w hv => SRx.renL [] (hv) (by kernel_rfl) (by kernel_rfl) (by kernel_rfl))
 refine K7p hc 2 [(4,.raw v4),(5,.raw v5),(6,.ea 1001 4 (Int.toNat ix) 0),(94,.bool (b9 == 4))] ?_
 refine ic h (fun d9 h => ?_) fun d9 h => ?_
 ·obtain ⟨_,e3,e4,e5,h⟩ := bq2 h
  refine rg hc (rx [[0],[1],[2],[3],[0],[4],[0],[7],[8],[9],[8],[8,10],[8,10,11]]) [oN,oN,oN,some (.el (K1k e0)),oN,some (.eqv (.no) ⟨[(101,I (e0.fKids.length : Int))],[],[]⟩),some (.eqv (.mk 12 true) ⟨[(102,.rs 12)],[(12,some (.arr (List.map K08 [(K00.mk 0 0 [] [])])))],[12]⟩),some (.eqv (.mk 13 true) ⟨[(103,.rs 13)],[(13,some (.arr (List.map K08 (e0.fKids ++ [(K00.mk 0 0 [] [])])))),(1002,none),(12,none)],[13]⟩),oN,some (.eqv (.mk 0 true) ⟨[],[(13,some (.arr (List.map K08 (List.set (e0.fKids ++ [(K00.mk 0 0 [] [])]) (Int.toNat (e0.fKids.length : Int)) (K00.mk 1 0 [] [])))))],[]⟩),oN,oN,some (.el (K1k e0))] [(4,.raw v4),(5,.raw v5)] [(13,.arr (List.map K08 (List.set (e0.fKids ++ [(K00.mk 0 0 [] [])]) (Int.toNat (e0.fKids.length : Int)) (K00.mk 1 0 [] [])))),(1000,K1e c1),(1001,.arx (List.map K08 xs) (Int.toNat ix) 3 13)] (ad (And.intro (Qdn he0 (K0e e0)).2 (rfl : Int.toNat ix = Int.toNat ix)) (Qdp (d := 101) K08 e0.fKids) (congrArg (fun z => (⟨[(102,.rs 12)],[(12,some (.arr z))],[12]⟩ : Wr)) ((Qeq (K0e (K00.mk 0 0 [] [])) Qep) : [AV.agg [I 0,I 0,AV.osl [],AV.osl []]] = List.map K08 [(K00.mk 0 0 [] [])])) (congrArg (fun z => (⟨[(103,.rs 13)],[(13,some (.arr z)),(1002,none),(12,none)],[13]⟩ : Wr)) ((List.map_append).symm : (List.map K08 e0.fKids) ++ (List.map K08 [(K00.mk 0 0 [] [])]) = List.map K08 (e0.fKids ++ [(K00.mk 0 0 [] [])]))) (ad (Qdx (enc1 := K08) (enc2 := K08) (e1 := e0.fKids) (e2 := [(K00.mk 0 0 [] [])]) (sz := 4) K11 K11 e3) (Qdo (enc := K08) e5) (congrArg (fun z => (⟨[],[(13,some (.arr z))],[]⟩ : Wr)) (Qem (enc := K08) (i := Int.toNat (e0.fKids.length : Int)) (l := (e0.fKids ++ [(K00.mk 0 0 [] [])])) (v := (K00.mk 1 0 [] [])) (x := AV.agg [I 1,I 0,AV.osl [],AV.osl []]) (K0e (K00.mk 1 0 [] [])))) (Qen (enc := K08) (sz := 4) K10 e5) (ai (And.intro (Qdn he0 (K0e e0)).2 (rfl : Int.toNat ix = Int.toNat ix)) tv))) ?_
  obtain rfl := os h
  exact Qd5.view (fun a w hv => SRx.renL [] (SRx.shareL 1001 [1000,1001] (O' := [(1000,K1e c1),(1001,.arr (List.map K05 (List.set xs (Int.toNat ix) (K00.mk e0.fOp e0.fN e0.fType (List.set (e0.fKids ++ [(K00.mk 0 0 [] [])]) (Int.toNat (e0.fKids.length : Int)) (K00.mk 1 0 [] []))))))]) (xs := List.set (List.map K08 xs) (Int.toNat ix) (AV.agg [I e0.fOp,I e0.fN,oI e0.fType,.osl (List.map K08 (List.set (e0.fKids ++ [(K00.mk 0 0 [] [])]) (Int.toNat (e0.fKids.length : Int)) (K00.mk 1 0 [] [])))])) (xs' := List.map K05 (List.set xs (Int.toNat ix) (K00.mk e0.fOp e0.fN e0.fType (List.set (e0.fKids ++ [(K00.mk 0 0 [] [])]) (Int.toNat (e0.fKids.length : Int)) (K00.mk 1 0 [] []))))) (SRx.closeL 1001 (Int.toNat ix) 3 13 [1000,1001] (O' := [(1000,K1e c1),(1001,.arr (List.set (List.map K08 xs) (Int.toNat ix) (AV.agg [I e0.fOp,I e0.fN,oI e0.fType,.osl (List.map K08 (List.set (e0.fKids ++ [(K00.mk 0 0 [] [])]) (Int.toNat (e0.fKids.length : Int)) (K00.mk 1 0 [] [])))])))]) (xs := List.map K08 xs) (ys := List.map K08 (List.set (e0.fKids ++ [(K00.mk 0 0 [] [])]) (Int.toNat (e0.fKids.length : Int)) (K00.mk 1 0 [] []))) (x0 := K1k e0) (x1 := AV.agg [I e0.fOp,I e0.fN,oI e0.fType,.osl (List.map K08 (List.set (e0.fKids ++ [(K00.mk 0 0 [] [])]) (Int.toNat (e0.fKids.length : Int)) (K00.mk 1 0 [] [])))]) hv (by kernel_rfl) (by kernel_rfl) (by kernel_rfl) (Qdn he0 (K0e e0)).2 (by kernel_rfl) (by kernel_rfl) rfl (by kernel_rfl)) (by kernel_rfl) (Qfd (enc := K08) (enc' := K05) K14 (v := (K00.mk e0.fOp e0.fN e0.fType (List.set (e0.fKids ++ [(K00.mk 0 0 [] [])]) (Int.toNat (e0.fKids.length : Int)) (K00.mk 1 0 [] [])))) (x1 := AV.agg [I e0.fOp,I e0.fN,oI e0.fType,.osl (List.map K08 (List.set (e0.fKids ++ [(K00.mk 0 0 [] [])]) (Int.toNat (e0.fKids.length : Int)) (K00.mk 1 0 [] [])))]) (Kgr (K14 _))) (by kernel_rfl)) (by kernel_rfl) (by kernel_rfl) (by kernel_rfl))
 refine rss hc none [oN,oN,oN,some (.el (K1k e0)),some (.eqv (.no) ⟨[(43,I (e0.fKids.length : Int))],[],[]⟩),oN] [(4,.raw v4),(5,.raw v5),(6,.ea 1001 4 (Int.toNat ix) 0),(44,.bool (decide ((e0.fKids.length : Int) > 1)))] (ab (And.intro (Qdn he0 (K0e e0)).2 (rfl : Int.toNat ix = Int.toNat ix)) (Qdp (d := 43) K08 e0.fKids) tv) ?_
 refine ic h (fun e6 h => ?_) fun e6 h => ?_
 ·refine sN ?_
  refine Wp.view (fun a w hv => SRx.shareL 1002 [1000,1001,1002] (xs := List.map K08 e0.fKids) (xs' := List.map K05 e0.fKids) hv (by kernel_rfl) (K14 _) (by kernel_rfl)) (?_ : Wp Tryz.prog c _ _ (mkS [(4,.raw v4),(5,.raw v5),(6,.ea 1001 4 (Int.toNat ix) 0),(44,.bool (decide ((e0.fKids.length : Int) > 1)))] [(1000,K1e c1),(1001,.arx (List.map K08 xs) (Int.toNat ix) 3 1002),(1002,.arr (List.map K05 e0.fKids))]))
  obtain ⟨e7,e8,h⟩ := Qdj h
  refine rg hc none [oN,oN,oN,some (.el (K1k e0)),oN,some (.el (K1d e7)),some (.new 14),oN] [(4,.raw v4),(5,.raw v5),(6,.ea 1001 4 (Int.toNat ix) 0),(7,.ra 14 0)] [(14,K1c e7),(1000,K1e c1),(1001,.arx (List.map K08 xs) (Int.toNat ix) 3 1002),(1002,.arr (List.map K05 e0.fKids))] (ac (And.intro (Qdn he0 (K0e e0)).2 (rfl : Int.toNat ix = Int.toNat ix)) (Qdo (enc := K05) e8) (Qdn e8 (K0c e7)).2 tv) ?_
  obtain ⟨e9,f0,f1,f2,h⟩ := bq2 h
  refine rs hc (rx [[0],[1],[2],[3],[0],[0,4],[0,4,5],[0,4,5,6],[0,4,5,6,7],[0,4,5,6,7,8],[10],[11]]) [oN,oN,oN,some (.el (K1k e0)),oN,oN,oN,some (.el (K1k e0)),oN,some (.el (K1d e9)),oN,some (.eqv (.mk 0 false) ⟨[],[(1002,some (.arr (List.map K05 (List.set e0.fKids (Int.toNat 0) e9))))],[]⟩)] [(4,.raw v4),(5,.raw v5),(6,.ea 1001 4 (Int.toNat ix) 0),(7,.ra 14 0)] [(14,K1c e7),(1000,K1e c1),(1001,.arx (List.map K08 xs) (Int.toNat ix) 3 1002),(1002,.arr (List.map K05 (List.set e0.fKids (Int.toNat 0) e9)))] (ar 2 (And.intro (Qdn he0 (K0e e0)).2 (rfl : Int.toNat ix = Int.toNat ix)) (ad (Qdo (enc := K05) f0) (Qdn f0 (K0c e9)).2 (Qdo (enc := K05) f2) (congrArg (fun z => (⟨[],[(1002,some (.arr z))],[]⟩ : Wr)) (Qem (enc := K05) (i := Int.toNat 0) (l := e0.fKids) (v := e9) (x := K1d e9) (K0c e9))) (ai (Qen (enc := K05) (sz := 4) K0x f2) tv))) ?_
  obtain ⟨f3,f4,h⟩ := Qdj h
  refine rg hc (rh [0,1,2,3,0,5,6]) [oN,oN,oN,some (.el (K1k e0)),oN,oN,some (.eqv (.mk 0 false) ⟨[],[(1002,some (.arr (List.map K05 (List.set (List.set e0.fKids (Int.toNat 0) e9) (Int.toNat 1) e7))))],[]⟩)] [(4,.raw v4),(5,.raw v5)] [(1000,K1e c1),(1001,.arx (List.map K08 xs) (Int.toNat ix) 3 1002),(1002,.arr (List.map K05 (List.set (List.set e0.fKids (Int.toNat 0) e9) (Int.toNat 1) e7)))] (ad (And.intro (Qdn he0 (K0e e0)).2 (rfl : Int.toNat ix = Int.toNat ix)) (Qdo (enc := K05) f4) (congrArg (fun z => (⟨[],[(1002,some (.arr z))],[]⟩ : Wr)) (Qem (enc := K05) (i := Int.toNat 1) (l := (List.set e0.fKids (Int.toNat 0) e9)) (v := e7) (x := K1d e7) (K0c e7))) (Qen (enc := K05) (sz := 4) K0x f4) tv) ?_
  obtain rfl := os h
  exact Qd5.view (fun a w hv => SRx.renL [] (SRx.shareL 1001 [1000,1001] (O' := [(1000,K1e c1),(1001,.arr (List.map K05 (List.set xs (Int.toNat ix) (K00.mk e0.fOp e0.fN e0.fType (List.set (List.set e0.fKids (Int.toNat 0) e9) (Int.toNat 1) e7)))))]) (xs := List.set (List.map K08 xs) (Int.toNat ix) (AV.agg [I e0.fOp,I e0.fN,oI e0.fType,.osl (List.map K05 (List.set (List.set e0.fKids (Int.toNat 0) e9) (Int.toNat 1) e7))])) (xs' := List.map K05 (List.set xs (Int.toNat ix) (K00.mk e0.fOp e0.fN e0.fType (List.set (List.set e0.fKids (Int.toNat 0) e9) (Int.toNat 1) e7)))) (SRx.closeL 1001 (Int.toNat ix) 3 1002 [1000,1001] (O' := [(1000,K1e c1),(1001,.arr (List.set (List.map K08 xs) (Int.toNat ix) (AV.agg [I e0.fOp,I e0.fN,oI e0.fType,.osl (List.map K05 (List.set (List.set e0.fKids (Int.toNat 0) e9) (Int.toNat 1) e7))])))]) (xs := List.map K08 xs) (ys := List.map K05 (List.set (List.set e0.fKids (Int.toNat 0) e9) (Int.toNat 1) e7)) (x0 := K1k e0) (x1 := AV.agg [I e0.fOp,I e0.fN,oI e0.fType,.osl (List.map K05 (List.set (List.set e0.fKids (Int.toNat 0) e9) (Int.toNat 1) e7))]) hv (by kernel_rfl) (by kernel_rfl) (by kernel_rfl) (Qdn he0 (K0e e0)).2 (by kernel_rfl) (by kernel_rfl) rfl (by kernel_rfl)) (by kernel_rfl) (Qfd (enc := K08) (enc' := K05) K14 (v := (K00.mk e0.fOp e0.fN e0.fType (List.set (List.set e0.fKids (Int.toNat 0) e9) (Int.toNat 1) e7))) (x1 := AV.agg [I e0.fOp,I e0.fN,oI e0.fType,.osl (List.map K05 (List.set (List.set e0.fKids (Int.toNat 0) e9) (Int.toNat 1) e7))]) (Kgr (K0z _))) (by kernel_rfl)) (by kernel_rfl) (by kernel_rfl) (by kernel_rfl))
 refine sk ?_
 obtain rfl := os h
 exact Qd5.view (fun a w hv => SRx.renL [] (SRx.shareL 1001 [1000,1001] (O' := [(1000,K1e c1),(1001,.arr (List.map K05 xs))]) (xs := List.set (List.map K08 xs) (Int.toNat ix) (K1k e0)) (xs' := List.map K05 xs) (SRx.closeL 1001 (Int.toNat ix) 3 1002 [1000,1001] (O' := [(1000,K1e c1),(1001,.arr (List.set (List.map K08 xs) (Int.toNat ix) (K1k e0)))]) (xs := List.map K08 xs) (ys := List.map K08 e0.fKids) (x0 := K1k e0) (x1 := K1k e0) hv (by kernel_rfl) (by kernel_rfl) (by kernel_rfl) (Qdn he0 (K0e e0)).2 (by kernel_rfl) (by kernel_rfl) rfl (by kernel_rfl)) (by kernel_rfl) ((Qfd (enc := K08) (enc' := K05) K14 (v := (K00.mk e0.fOp e0.fN e0.fType e0.fKids)) (x1 := K1k e0) (Kgr (K14 _))).trans (congrArg (List.map K05) ((congrArg (List.set xs (Int.toNat ix)) (Kgs e0)).trans (Qfe (Qdm he0).2)))) (by kernel_rfl)) (by kernel_rfl) (by kernel_rfl) (by kernel_rfl))
def Kgx (p : K01 × K00) : Option (K00 × K01) :=
 match p with
 | (c0,t1) =>
  (K8d (c0,6)) >>= fun (a0,a1) =>
  if a0 = true then
  (Kes (t1,0,0)) >>= fun a2 =>
  (Kgu (a1,[a2],0)) >>= fun (a3,a4) =>
  (idx a3 0) >>= fun a5 =>
  some (a5,a4)
  else
  some (t1,a1)
def Kgy (p : K01 × K00) (r : K00 × K01) : Prop :=
 match p with
 | (c0,t1) => Q75 Tryz.prog 105 [.optr [.sl (List.map U8 c0.fb),I c0.fi,I c0.fh],K1d t1] (.agg [I r.1.fOp,I r.1.fN,.sl (List.map I r.1.fType),.sl (List.map K05 r.1.fKids)]) [.optr [.sl (List.map U8 r.2.fb),I r.2.fi,I r.2.fh],.undef]
theorem Kgz : ∀ p r,Kgx p = some r → Kgy p r := by
 rintro ⟨c0,t1⟩ r h
 unfold Kgx at h
 refine Q75.bodyO K28 (fn := Tryz.f105) (code := K5l) (by kernel_rfl) (by kernel_rfl) (by kernel_rfl) (nt := 108) (by kernel_rfl) (by kernel_rfl) (T := [(0,.ra 1000 0),(1,K1d t1)]) (O := [(1000,K1e c0)]) (by kernel_rfl) (by kernel_rfl) (fun c hc => ?_)
 refine rs hc none [some (.new 1),some (.new 2)] [(0,.ra 1000 0),(3,.ra 1 0),(4,.ra 2 0)] [(1,K1c t1),(2,.box [I 0,I 0,.nils,.nils]),(1000,K1e c0)] tv ?_
 refine sN ?_
 obtain ⟨⟨a0,a1⟩,a4,h⟩ := Qdj h
 refine rs hc none [oN,some (.call (.bool a0) [.optr [.sl (List.map U8 a1.fb),I a1.fi,I a1.fh],.undef] 1),oN] [(0,.ra 1000 0),(3,.ra 1 0),(4,.ra 2 0),(10,.bool (!a0))] [(1,K1c t1),(2,.box [I 0,I 0,.nils,.nils]),(1000,K1e a1)] (ab (K8f _ _ a4) K2i tv) ?_
 rcases is h with ⟨a5,h⟩ | ⟨a5,h⟩
 ·refine cF (!a0) (nF a5) ?_
  refine sk ?_
  obtain ⟨a6,a7,h⟩ := Qdj h
  refine rs hc none [oN,some (.call (K1k a6) [] 3),some (.new 5),oN] [(0,.ra 1000 0),(4,.ra 2 0),(5,.ra 5 0)] [(2,.box [I 0,I 0,.nils,.nils]),(3,rI a6.fType),(4,.arr (List.map K08 a6.fKids)),(5,.box [I a6.fOp,I a6.fN,.rs 3,.rs 4]),(1000,K1e a1)] (cq (Kex _ _ a7) K56 tv) ?_
  refine K7p hc 1 [(0,.ra 1000 0),(4,.ra 2 0),(5,.ra 5 0),(6,.ra 5 0)] ?_
  obtain ⟨⟨a8,a9⟩,b1,h⟩ := Qdj h
  refine Wp.view (fun a w hv => SRx.boxRowL 5 6 [2,6,1000] (cs := [I a6.fOp,I a6.fN,.rs 3,.rs 4]) (x1 := K08 a6) hv (by kernel_rfl) (by kernel_rfl) (by kernel_rfl) ((by kernel_rfl : _ = K1k a6).trans (K0e a6).symm) (by kernel_rfl) (by kernel_rfl)) (?_ : Wp Tryz.prog c _ _ (mkS [(0,.ra 1000 0),(4,.ra 2 0),(5,.ea 6 4 (Int.toNat 0) 0),(6,.ea 6 4 (Int.toNat 0) 0)] [(2,.box [I 0,I 0,.nils,.nils]),(6,.arr (List.map K08 [a6])),(1000,K1e a1)]))
  refine Wp.view (fun a w hv => SRx.openL 6 (Int.toNat 0) 3 7 [2,6,7,1000] (xs := List.map K08 [a6]) (ys := List.map K08 a6.fKids) (x0 := K1k a6) hv (by kernel_rfl) (Qdn (enc := K08) (i := 0) (l := [a6]) (x := K1k a6) rfl (K0e a6)).2 (by kernel_rfl) (by kernel_rfl) (by kernel_rfl)) (?_ : Wp Tryz.prog c _ _ (mkS [(0,.ra 1000 0),(4,.ra 2 0),(5,.ea 6 4 (Int.toNat 0) 0),(6,.ea 6 4 (Int.toNat 0) 0)] [(2,.box [I 0,I 0,.nils,.nils]),(6,.arx (List.map K08 [a6]) (Int.toNat 0) 3 7),(7,.arr (List.map K08 a6.fKids)),(1000,K1e a1)]))
  refine Wp.descend (mkS [(4,.ra 2 0),(5,.ea 6 4 (Int.toNat 0) 0)] [(2,.box [I 0,I 0,.nils,.nils]),(6,.arr (List.map K05 a8)),(1000,K1e a9)]) 0 (by kernel_rfl) (by kernel_rfl) (by kernel_rfl) (by kernel_rfl) (fun a w hv => ?_) ?_
  ·obtain ⟨c',hc',hz1,hout⟩ := SRx.zoomB (T' := [(0,.ra 1000 0),(4,.raw (a.tmps.getD 4 undef)),(5,.raw (a.tmps.getD 5 undef)),(6,.ea 1001 4 (Int.toNat 0) 0)]) (O' := [(1000,K1e a1),(1001,.arx (List.map K08 [a6]) (Int.toNat 0) 3 1002),(1002,.arr (List.map K08 a6.fKids))]) [(1000,1000),(1001,6),(1002,7)] hv
    (by intro p hp; simp only [List.mem_cons,List.not_mem_nil,or_false] at hp; rcases hp with rfl | rfl | rfl | rfl <;> first | exact .inl ⟨rfl,by kernel_rfl⟩ | exact .inr (by kernel_rfl)) (by kernel_rfl) (by kernel_rfl)
   refine WpR.mono (Kgw _ _ b1 c' (hc'.trans hc) (a.tmps.getD 4 undef) (a.tmps.getD 5 undef) a6 rfl a w hz1) (fun e a2 w2 hd => Qf8.mono (fun a3 w3 h3 => ?_) hd)
   exact hout a3 w3 [(4,.raw (a.tmps.getD 4 undef)),(5,.raw (a.tmps.getD 5 undef))] [(1000,K1e a9),(1001,.arr (List.map K05 a8))] h3 (by kernel_rfl) [(4,.ra 2 0),(5,.ea 6 4 (Int.toNat 0) 0)] [(2,.box [I 0,I 0,.nils,.nils]),(6,.arr (List.map K05 a8)),(1000,K1e a9)] (by intro p hp; simp only [List.mem_cons,List.not_mem_nil,or_false] at hp; rcases hp with rfl | rfl <;> exact .inr ⟨rfl,rfl⟩) (by intro p hp; simp only [List.mem_cons,List.not_mem_nil,or_false] at hp; rcases hp with rfl | rfl | rfl <;> first | exact .inr ⟨1000,rfl,rfl⟩ | exact .inr ⟨1001,rfl,rfl⟩ | exact .inl ⟨rfl,by kernel_rfl⟩)
  obtain ⟨b2,b3,h⟩ := Qdj h
  refine rs hc none [some (.el (K1d b2)),oN] [(4,.ra 2 0)] [(2,K1c b2),(1000,K1e a9)] (ai (Qdn b3 (K0c b2)).2 tv) ?_
  refine rt ?_
  obtain rfl := os h
  exact Qdg.ret (fl := [false]) (by kernel_rfl)
 refine cT (!a0) (nT a5) ?_
 refine rs0 hc 2 [(4,.ra 2 0)] [(2,K1c t1),(1000,K1e a1)] ?_
 refine rt ?_
 obtain rfl := os h
 exact Qdg.ret (fl := [false]) (by kernel_rfl)
def Kh0 (p : K01 × Int) : Option (K00 × K01) :=
 match p with
 | (c0,deep1) =>
  (K8d (c0,2)) >>= fun (a0,a1) =>
  (Kg3 (a1,deep1,3,a0)) >>= fun (a2,a3,a4,a5) =>
  (K8d (a5,4)) >>= fun (a6,a7) =>
  ((
  if a6 = true then
  (Kgh (a7,a4)) >>= fun (a8,a9) =>
  some ((a9.fb,a9.fi,a9.fh,a8.fOp,a8.fN,a8.fType,a8.fKids))
  else
  some ((a7.fb,a7.fi,a7.fh,a4.fOp,a4.fN,a4.fType,a4.fKids))
  ) : Option ((List Int) × Int × Int × Int × Int × (List Int) × (List K00))) >>= fun (b1,b2,b3,b4,b5,b6,b7) =>
  (Kgx ((K01.mk b1 b2 b3),(K00.mk b4 b5 b6 b7))) >>= fun (b8,b9) =>
  some (b8,b9)
def Kh1 (p : K01 × Int) (r : K00 × K01) : Prop :=
 match p with
 | (c0,deep1) => Q75 Tryz.prog 109 [.optr [.sl (List.map U8 c0.fb),I c0.fi,I c0.fh],I deep1] (.agg [I r.1.fOp,I r.1.fN,.sl (List.map I r.1.fType),.sl (List.map K05 r.1.fKids)]) [.optr [.sl (List.map U8 r.2.fb),I r.2.fi,I r.2.fh],.undef]
theorem Kh2 : ∀ p r,Kh0 p = some r → Kh1 p r := by
 rintro ⟨c0,deep1⟩ r h
 unfold Kh0 at h
 refine Q75.bodyO K28 (fn := Tryz.f109) (code := K5n) (by kernel_rfl) (by kernel_rfl) (by kernel_rfl) (nt := 25) (by kernel_rfl) (by kernel_rfl) (T := [(0,.ra 1000 0),(1,I deep1)]) (O := [(1000,K1e c0)]) (by kernel_rfl) (by kernel_rfl) (fun c hc => ?_)
 refine rs hc none [some (.new 1)] [(0,.ra 1000 0),(1,I deep1),(4,.ra 1 0)] [(1,.box [I 0,I 0,.nils,.nils]),(1000,K1e c0)] tv ?_
 obtain ⟨⟨a0,a1⟩,a2,h⟩ := Qdj h
 obtain ⟨⟨a3,a4,a5,a6⟩,a7,h⟩ := Qdj h
 refine rs hc none [oN,oN,oN,some (.call (.bool a0) [.optr [.sl (List.map U8 a1.fb),I a1.fi,I a1.fh],.undef] 1),some (.call (.tup [K1h a3,sL a4,K1d a5]) [.optr [.sl (List.map U8 a6.fb),I a6.fi,I a6.fh],.undef,.undef,.undef] 1),oN,oN,oN,oN,some (.new 2),some (.new 3),oN,oN,oN] [(0,.ra 1000 0),(4,.ra 1 0),(7,.ra 3 0)] [(1,.box [I 0,I 0,.nils,.nils]),(3,K1c a5),(1000,K1e a6)] (ad (K8f _ _ a2) K2i (Kg5 _ _ a7) K5c tv) ?_
 refine sN ?_
 obtain ⟨⟨a8,a9⟩,b1,h⟩ := Qdj h
 refine rs hc none [oN,some (.call (.bool a8) [.optr [.sl (List.map U8 a9.fb),I a9.fi,I a9.fh],.undef] 1)] [(0,.ra 1000 0),(4,.ra 1 0),(7,.ra 3 0),(18,.bool a8)] [(1,.box [I 0,I 0,.nils,.nils]),(3,K1c a5),(1000,K1e a9)] (ab (K8f _ _ b1) K2i tv) ?_
 obtain ⟨⟨b2,b3,b4,b5,b6,b7,b8⟩,b9,h⟩ := Qdj h
 refine Wp.into (x := .normal) (mkS [(0,.ra 1000 0),(4,.ra 1 0),(7,.ra 3 0)] [(1,.box [I 0,I 0,.nils,.nils]),(3,.box [I b5,I b6,sI b7,.sl (List.map K05 b8)]),(1000,.box [.sl (List.map U8 b2),I b3,I b4])]) ?_ ?_
 ·replace h := b9
  refine ic h (fun c1 h => ?_) fun c1 h => ?_
  ·obtain ⟨⟨c2,c3⟩,c4,h⟩ := Qdj h
   refine rg hc none [oN,oN,some (.call (K1k c2) [.optr [.sl (List.map U8 c3.fb),I c3.fi,I c3.fh],.undef] 4),oN] [(0,.ra 1000 0),(4,.ra 1 0),(7,.ra 3 0)] [(1,.box [I 0,I 0,.nils,.nils]),(3,.box [I c2.fOp,I c2.fN,.rs 4,.rs 5]),(4,rI c2.fType),(5,.arr (List.map K08 c2.fKids)),(1000,K1e c3)] (ab (Kgm _ _ c4) K5i tv) ?_
   obtain ⟨rfl,hq0⟩ := Prod.mk.inj (Option.some.inj h)
   obtain ⟨rfl,hq1⟩ := Prod.mk.inj (hq0)
   obtain ⟨rfl,hq2⟩ := Prod.mk.inj (hq1)
   obtain ⟨rfl,hq3⟩ := Prod.mk.inj (hq2)
   obtain ⟨rfl,hq4⟩ := Prod.mk.inj (hq3)
   obtain ⟨rfl,rfl⟩ := Prod.mk.inj (hq4)
   exact Qd5.view (fun a w hv => SRx.renL [] (SRx.frzC 5 (xs := List.map K08 c2.fKids) (xs' := List.map K05 c2.fKids) (SRx.frzC 4 (xs := List.map I c2.fType) (xs' := List.map I c2.fType) hv (by kernel_rfl) (Qeb _)) (by kernel_rfl) (K14 _)) (by kernel_rfl) (by kernel_rfl) (by kernel_rfl))
  refine sk ?_
  obtain ⟨rfl,hq0⟩ := Prod.mk.inj (Option.some.inj h)
  obtain ⟨rfl,hq1⟩ := Prod.mk.inj (hq0)
  obtain ⟨rfl,hq2⟩ := Prod.mk.inj (hq1)
  obtain ⟨rfl,hq3⟩ := Prod.mk.inj (hq2)
  obtain ⟨rfl,hq4⟩ := Prod.mk.inj (hq3)
  obtain ⟨rfl,rfl⟩ := Prod.mk.inj (hq4)
  exact iv []
 clear b9
 obtain ⟨⟨c5,c6⟩,c7,h⟩ := Qdj h
 refine rs hc none [oN,oN,some (.call (K1d c5) [.optr [.sl (List.map U8 c6.fb),I c6.fi,I c6.fh],.undef] 1),oN] [(4,.ra 1 0)] [(1,K1c c5),(1000,K1e c6)] (ab (Kgz _ _ c7) K5m tv) ?_
 refine rt ?_
 obtain rfl := os h
 exact Qdg.ret (fl := [false]) (by kernel_rfl)
def Kh3 (c0 : K01) : Option (Int × K01) :=
 (Kgo (c0,[(-1),0,1,2,3,7,8,15,16,17,40,9223372036854775807,(-9223372036854775808)])) >>= fun (a0,a1) =>
 some (a0,a1)
def Kh4 (c0 : K01) (r : Int × K01) : Prop :=
 Q75 Tryz.prog 99 [.optr [.sl (List.map U8 c0.fb),I c0.fi,I c0.fh]] (I r.1) [.optr [.sl (List.map U8 r.2.fb),I r.2.fi,I r.2.fh]]
theorem Kh5 : ∀ p r,Kh3 p = some r → Kh4 p r := by
 rintro c0 r h
 unfold Kh3 at h
 refine Q75.bodyO K28 (fn := Tryz.f99) (code := B99) (by kernel_rfl) (by kernel_rfl) (by kernel_rfl) (nt := 6) (by kernel_rfl) (by kernel_rfl) (T := [(0,.ra 1000 0)]) (O := [(1000,K1e c0)]) (by kernel_rfl) (by kernel_rfl) (fun c hc => ?_)
 refine K7p hc 1 [(0,.ra 1000 0)] ?_
 obtain ⟨⟨a0,a1⟩,a2,h⟩ := Qdj h
 refine rs hc none [oN,some (.call .undef [] 2),some (.call (I a0) [.optr [.sl (List.map U8 a1.fb),I a1.fi,I a1.fh],.undef] 1),oN] [(2,I a0)] [(1000,K1e a1)] (ab (Kgq _ _ a2) K5k tv) ?_
 refine rt ?_
 obtain rfl := os h
 exact Qdg.ret (fl := [true]) (by kernel_rfl)
def Kh6 (code0 : (List Int)) : Option (K00 × Int × K00) :=
 (K7y code0) >>= fun a0 =>
 (K84 code0) >>= fun a1 =>
 (Kh0 (a0,a1)) >>= fun (a2,a3) =>
 (K8d (a3,12)) >>= fun (a4,a5) =>
 if a4 = true then
 (Kh3 a5) >>= fun (a6,a7) =>
 (Kh0 (a7,1)) >>= fun (a8,a9) =>
 some (a2,a6,a8)
 else
 (K8a (a5,3)) >>= fun (b1,b2) =>
 (Kh0 (b2,2)) >>= fun (b3,b4) =>
 some (a2,b1,b3)
def Kh7 (code0 : (List Int)) (r : K00 × Int × K00) : Prop :=
 Q75 Tryz.prog 45 [.sl (List.map U8 code0)] (.tup [.agg [I r.1.fOp,I r.1.fN,.sl (List.map I r.1.fType),.sl (List.map K05 r.1.fKids)],I r.2.1,.agg [I r.2.2.fOp,I r.2.2.fN,.sl (List.map I r.2.2.fType),.sl (List.map K05 r.2.2.fKids)]]) []
theorem Kh8 : ∀ p r,Kh6 p = some r → Kh7 p r := by
 rintro code0 r h
 unfold Kh6 at h
 refine b0 Tryz.f45 B45 25 [(0,.sl (List.map U8 code0))] fun c hc => ?_
 refine rs hc none [some (.new 1),oN,some (.new 2)] [(0,.sl (List.map U8 code0)),(2,.ra 1 0),(4,.ra 2 0)] [(1,.box [I 0,I 0,.nils,.nils]),(2,.box [I 0,I 0,.nils,.nils])] tv ?_
 obtain ⟨a0,a1,h⟩ := Qdj h
 refine rs hc none [oN,some (.call (.optr [.sl (List.map U8 a0.fb),I a0.fi,I a0.fh]) [.tup []] 3),oN] [(0,.sl (List.map U8 code0)),(2,.ra 1 0),(4,.ra 2 0),(5,.ra 3 0)] [(1,.box [I 0,I 0,.nils,.nils]),(2,.box [I 0,I 0,.nils,.nils]),(3,K1e a0)] (ab (K80 _ _ a1) K2a tv) ?_
 obtain ⟨a2,a3,⟨a4,a5⟩,a6,h⟩ := bq2 h
 refine rs hc none [oN,oN,oc (I a2),some (.call (K1d a4) [.optr [.sl (List.map U8 a5.fb),I a5.fi,I a5.fh],.undef] 1),some (.new 4),oN] [(2,.ra 1 0),(4,.ra 2 0),(5,.ra 3 0),(6,.ra 4 0)] [(1,.box [I 0,I 0,.nils,.nils]),(2,.box [I 0,I 0,.nils,.nils]),(3,K1e a5),(4,K1c a4)] (cq (K86 _ _ a3) K2e (ab (Kh2 _ _ a6) K5o tv)) ?_
 refine sN ?_
 obtain ⟨⟨a7,a8⟩,a9,h⟩ := Qdj h
 refine rs hc none [oN,some (.call (.bool a7) [.optr [.sl (List.map U8 a8.fb),I a8.fi,I a8.fh],.undef] 1)] [(2,.ra 1 0),(4,.ra 2 0),(5,.ra 3 0),(6,.ra 4 0),(14,.bool a7)] [(1,.box [I 0,I 0,.nils,.nils]),(2,.box [I 0,I 0,.nils,.nils]),(3,K1e a8),(4,K1c a4)] (ab (K8f _ _ a9) K2i tv) ?_
 refine ic h (fun b1 h => ?_) fun b1 h => ?_
 ·obtain ⟨⟨b2,b3⟩,b4,h⟩ := Qdj h
  obtain ⟨⟨b5,b6⟩,b7,h⟩ := Qdj h
  refine rs hc Kgt [oN,oN,some (.call (I b2) [.optr [.sl (List.map U8 b3.fb),I b3.fi,I b3.fh]] 1),oN,some (.call (K1d b5) [.optr [.sl (List.map U8 b6.fb),I b6.fi,I b6.fh],.undef] 1),oN,oN,oN] [(2,.ra 1 0),(3,I b2),(4,.ra 2 0)] [(1,K1c a4),(2,K1c b5)] (ad (Kh5 _ _ b4) K5p (Kh2 _ _ b7) K5o tv) ?_
  refine rt ?_
  obtain rfl := os h
  exact rq [false,true,false]
 refine sk ?_
 obtain ⟨⟨b8,b9⟩,c0,h⟩ := Qdj h
 obtain ⟨⟨c1,c2⟩,c3,h⟩ := Qdj h
 refine rs hc Kgt [oN,oN,some (.call (I b8) [.optr [.sl (List.map U8 b9.fb),I b9.fi,I b9.fh],.undef] 1),oN,some (.call (K1d c1) [.optr [.sl (List.map U8 c2.fb),I c2.fi,I c2.fh],.undef] 1),oN,oN,oN] [(2,.ra 1 0),(3,I b8),(4,.ra 2 0)] [(1,K1c a4),(2,K1c c1)] (ad (K8c _ _ c0) K2h (Kh2 _ _ c3) K5o tv) ?_
 refine rt ?_
 obtain rfl := os h
 exact rq [false,true,false]
def Kh9 (p : (List Int) × Int) : Option (Int) :=
 match p with
 | (code0,i1) =>
  if (decide (i1 < (code0.length : Int))) = true then
  (idx code0 i1) >>= fun a0 =>
  some (wr a0)
  else
  some (Int.tmod (wr ((wr (i1 * 7)) + (code0.length : Int))) 256)
def Kha (p : (List Int) × Int) (r : Int) : Prop :=
 match p with
 | (code0,i1) => Q75 Tryz.prog 48 [.sl (List.map U8 code0),I i1] (I r) []
theorem Khb : ∀ p r,Kh9 p = some r → Kha p r := by
 rintro ⟨code0,i1⟩ r h
 unfold Kh9 at h
 refine b0 Tryz.f48 B48 20 [(0,.sl (List.map U8 code0)),(1,I i1)] fun c hc => ?_
 refine rs0 hc 1 [(0,.sl (List.map U8 code0)),(1,I i1)] [] ?_
 refine sN ?_
 refine rs hc none [oN,oN,some (.eqv (.no) ⟨[(7,I (code0.length : Int))],[],[]⟩),oN] [(0,.sl (List.map U8 code0)),(1,I i1),(8,.bool (decide (i1 < (code0.length : Int))))] [] (ai (Qdp (d := 7) U8 code0) tv) ?_
 refine ic h (fun a0 h => ?_) fun a0 h => ?_
 ·obtain ⟨a1,a2,h⟩ := Qdj h
  refine rs hc none [oN,oN,some (.el (.int .u8 a1)),oN,oN,oN] [(4,I (wr a1))] [] (ai (Qdn (enc := U8) (x := .int .u8 a1) a2 (Qdz a1)) tv) ?_
  refine rt ?_
  obtain rfl := os h
  exact rq [true]
 refine sk ?_
 refine rs hc none [oN,oN,oN,some (.eqv (.no) ⟨[(17,I (code0.length : Int))],[],[]⟩),oN,oN,oN] [(4,I (Int.tmod (wr ((wr (i1 * 7)) + (code0.length : Int))) 256))] [] (ab (Qdp (d := 17) U8 code0) ((by decide) : (256 : Int) ≠ 0) tv) ?_
 refine rt ?_
 obtain rfl := os h
 exact rq [true]
def Khc (ty0 : (List Int)) : Option (Bool) :=
 ((
 if (decide ((ty0.length : Int) ≤ 40)) = true then
 (Kct (ty0,0)) >>= fun a0 =>
 if (a0 == (ty0.length : Int)) = true then
 some ((decide ((ty0.length : Int) > 0)))
 else
 some (false)
 else
 some (false)
 ) : Option (Bool)) >>= fun a1 =>
 some a1
def Khd (ty0 : (List Int)) (r : Bool) : Prop :=
 Q75 Tryz.prog 81 [sI ty0] (.bool r) []
theorem Khe : ∀ p r,Khc p = some r → Khd p r := by
 rintro ty0 r h
 unfold Khc at h
 refine b0 Tryz.f81 B81 18 [(0,sI ty0)] fun c hc => ?_
 refine rs0 hc 1 [(0,sI ty0)] [] ?_
 refine sN ?_
 obtain ⟨a0,a1,h⟩ := Qdj h
 refine Wp.into (x := .normal) (mkS [(2,.bool a0)] []) ?_ ?_
 ·replace h := a1
  rcases is h with ⟨a2,h⟩ | ⟨a2,h⟩
  ·obtain ⟨a3,a4,h⟩ := Qdj h
   rcases is h with ⟨a5,h⟩ | ⟨a5,h⟩
   ·refine rg hc none [oN,some (.eqv (.no) ⟨[(4,I (ty0.length : Int))],[],[]⟩),oN,oN,oN,oc (I a3),oN,some (.eqv (.no) ⟨[(10,I (ty0.length : Int))],[],[]⟩),oN,oT,oN,oN,some (.eqv (.no) ⟨[(15,I (ty0.length : Int))],[],[]⟩),oN,oT,oN] [(2,.bool (decide ((ty0.length : Int) > 0)))] [] (ai (Qdp (d := 4) I ty0) (ar 2 a2 (cq (Kcv _ _ a4) K46 (ar 2 a2 (ai (Qdp (d := 10) I ty0) (ar 2 a2 (ar 2 a5 (ai (Qdp (d := 15) I ty0) (ar 2 a5 tv))))))))) ?_
    obtain rfl := os h
    exact Qd5.mk
   refine rg hc none [oN,some (.eqv (.no) ⟨[(4,I (ty0.length : Int))],[],[]⟩),oN,oN,oN,oc (I a3),oN,some (.eqv (.no) ⟨[(10,I (ty0.length : Int))],[],[]⟩),oN,oT,oN,o_,o_,o_,oF,oN] [(2,.bool false)] [] (ai (Qdp (d := 4) I ty0) (ar 2 a2 (cq (Kcv _ _ a4) K46 (ar 2 a2 (ai (Qdp (d := 10) I ty0) (ar 2 a2 (ar 3 (neT a5) (ai a5 tv)))))))) ?_
   obtain rfl := os h
   exact Qd5.mk
  refine rg hc none [oN,some (.eqv (.no) ⟨[(4,I (ty0.length : Int))],[],[]⟩),oN,oN,o_,o_,o_,o_,o_,oF,oN,o_,o_,o_,oF,oN] [(2,.bool false)] [] (ai (Qdp (d := 4) I ty0) (ar 5 (neT a2) (ai a2 (ar 3 (neT (rfl : false = false)) (ai (rfl : false = false) tv))))) ?_
  obtain rfl := os h
  exact Qd5.mk
 clear a1
 refine rt ?_
 obtain rfl := os h
 exact rq [true]
def Khf (c : Ctx) (ty0 : List Int) (size1 : Int) (closed2 : Bool) (a0 : Int) : (Unit) ⊕ (Bool) → Exit → Q0a → Prop
 | .inl _ => Qd5 c .normal (mkS [(0,sI ty0),(1,I size1),(2,.bool closed2),(7,I a0)] [])
 | .inr r => Qde TIx Tryz.f82 [] (.bool r)
def Khg (c : Ctx) : (Unit) ⊕ (Bool) → Exit → Q0a → Prop
 | .inl _ => Qd5 c (.exit 0) (mkS [] [])
 | .inr r => Qde TIx Tryz.f82 [] (.bool r)
def Khh (p : (List Int) × Int × Bool × Int) : Option ((Unit) ⊕ (Bool)) :=
 match p with
 | (ty0,size1,closed2,a0) =>
  if (decide (a0 < (ty0.length : Int))) = true then
  ((
   (idx ty0 a0) >>= fun a1 =>
   (Kcm a1) >>= fun a2 =>
   if (decide (a2 > 0)) = true then
   (idx ty0 a0) >>= fun a3 =>
   some ((decide (a3 > 2)))
   else
   some (false)
  ) : Option (Bool)) >>= fun a4 =>
  ((
   if a4 = true then
   (idx ty0 a0) >>= fun a5 =>
   (Kd2 a5) >>= fun a6 =>
   ((
   if (decide (a6 ≥ size1)) = true then
   some (true)
   else
   if closed2 = true then
   some ((decide (a6 < 0)))
   else
   some (false)
   ) : Option (Bool)) >>= fun a7 =>
   if a7 = true then
   some (.inr false)
   else
   some (.inl ())
   else
   some (.inl ())) : Option ((Unit) ⊕ (Bool))) >>= fun fl => match fl with
  | .inl () =>
   Khh (ty0,size1,closed2,(wr (a0 + 1)))
  | .inr r =>
   some (.inr r)
  else
  some (.inl ())
 partial_fixpoint
def Khi (p : (List Int) × Int × Bool × Int) (fl : (Unit) ⊕ (Bool)) : Prop :=
 match p with
 | (ty0,size1,closed2,a0) => ∀ c : Ctx,c.nt = 43 → WpL Tryz.prog c (cl (cl (cr (cl (cr B82))))) (Khg c fl) (mkS [(0,sI ty0),(1,I size1),(2,.bool closed2),(7,I a0)] [])
theorem Khj : ∀ p r,Khh p = some r → Khi p r := by
 refine Khh.partial_correctness Khi ?_
 rintro spec_l2Graded_l0_f spec_l2Graded_l0_ih ⟨ty0,size1,closed2,a0⟩ r h
 intro c hc
 refine WpL.step ?_
 refine sN ?_
 refine rs hc none [oN,oN,some (.eqv (.no) ⟨[(11,I (ty0.length : Int))],[],[]⟩),oN] [(0,sI ty0),(1,I size1),(2,.bool closed2),(7,I a0),(12,.bool (decide (a0 < (ty0.length : Int))))] [] (ai (Qdp (d := 11) I ty0) tv) ?_
 refine ic h (fun a1 h => ?_) fun a1 h => ?_
 ·refine sk ?_
  refine sN ?_
  refine bk 1 ?_
  refine sN ?_
  obtain ⟨a2,a3,h⟩ := Qdj h
  refine Wp.into (x := .normal) (mkS [(0,sI ty0),(1,I size1),(2,.bool closed2),(7,I a0),(27,.bool a2)] []) ?_ ?_
  ·replace h := a3
   obtain ⟨a4,a5,a6,a7,h⟩ := bq2 h
   rcases is h with ⟨a8,h⟩ | ⟨a8,h⟩
   ·obtain ⟨a9,b1,h⟩ := Qdj h
    refine rg hc none [oN,oN,some (.el (I a4)),oN,oc (I a6),oN,oN,oN,oN,some (.el (I a9)),oN,oN,oT] [(0,sI ty0),(1,I size1),(2,.bool closed2),(7,I a0),(27,.bool (decide (a9 > 2)))] [] (ai (ix a5) (cq (Kco _ _ a7) K44 (ar 3 a8 (ai (ix b1) (ar 3 a8 tv))))) ?_
    obtain rfl := os h
    exact Qd5.mk
   refine rg hc none [oN,oN,some (.el (I a4)),oN,oc (I a6),oN,oN,o_,o_,o_,o_,o_,oF] [(0,sI ty0),(1,I size1),(2,.bool closed2),(7,I a0),(27,.bool false)] [] (ai (ix a5) (cq (Kco _ _ a7) K44 (ar 5 (neT a8) (ai a8 tv)))) ?_
   obtain rfl := os h
   exact Qd5.mk
  clear a3
  obtain ⟨fl,b2,h⟩ := Qdj h
  refine flw (Khf c ty0 size1 closed2 a0 fl) ?_ (fun hF => ?_)
  ·replace h := b2
   refine ic h (fun b3 h => ?_) fun b3 h => ?_
   ·obtain ⟨b4,b5,b6,b7,h⟩ := bq2 h
    refine rs hc none [oN,oN,some (.el (I b4)),oN,oc (I b6),oN] [(0,sI ty0),(1,I size1),(2,.bool closed2),(7,I a0),(8,I b6)] [] (ai (ix b5) (cq (Kd4 _ _ b7) K4c tv)) ?_
    refine sN ?_
    obtain ⟨b8,b9,h⟩ := Qdj h
    refine Wp.into (x := .normal) (mkS [(0,sI ty0),(1,I size1),(2,.bool closed2),(7,I a0),(42,.bool b8)] []) ?_ ?_
    ·replace h := b9
     rcases is h with ⟨c0,h⟩ | ⟨c0,h⟩
     ·refine rg hc none [oN,oN,oN,oN,o_,o_,o_,o_,o_,oT] [(0,sI ty0),(1,I size1),(2,.bool closed2),(7,I a0),(42,.bool true)] [] (ar 3 (neF c0) (ai c0 tv)) ?_
      obtain rfl := os h
      exact Qd5.mk
     rcases is h with ⟨c1,h⟩ | ⟨c1,h⟩
     ·refine rg hc none [oN,oN,oN,oN,oN,oN,oN,oN,oT,oF] [(0,sI ty0),(1,I size1),(2,.bool closed2),(7,I a0),(42,.bool (decide (b6 < 0)))] [] (ar 2 c0 (ar 2 c1 (ac c0 c1 c0 tv))) ?_
      obtain rfl := os h
      exact Qd5.mk
     refine rg hc none [oN,oN,oN,oN,oN,oN,o_,o_,oF,oF] [(0,sI ty0),(1,I size1),(2,.bool closed2),(7,I a0),(42,.bool false)] [] (ar 2 c0 (ar 2 (neT c1) (ac c0 c1 c0 tv))) ?_
     obtain rfl := os h
     exact Qd5.mk
    clear b9
    refine ic h (fun c2 h => ?_) fun c2 h => ?_
    ·refine rs0 hc 1 [(6,.bool false)] [] ?_
     refine rt ?_
     obtain rfl := os h
     exact re [true]
    refine sk ?_
    obtain rfl := os h
    exact iv []
   refine sk ?_
   obtain rfl := os h
   exact iv []
  rcases fl with ⟨⟩ | r
  ·refine Wp.into (x := .normal) (mkS [(0,sI ty0),(1,I size1),(2,.bool closed2),(7,I a0)] []) hF ?_
   refine rg0 hc 3 [(0,sI ty0),(1,I size1),(2,.bool closed2),(7,I (wr (a0 + 1)))] [] ?_
   refine Qd1 ?_
   exact (spec_l2Graded_l0_ih _ _ h c hc)
  refine Wp.mono hF ?_
  rintro _ _ ⟨rfl,hfin⟩
  obtain rfl := os h
  exact ⟨rfl,hfin⟩
 refine xt 0 ?_
 refine Qcv ?_
 refine Qd2 ?_
 obtain rfl := os h
 exact iv []
def Khk (p : (List Int) × Int × Bool) : Option (Bool) :=
 match p with
 | (ty0,size1,closed2) =>
  (Khh (ty0,size1,closed2,0)) >>= fun fl => match fl with
  | .inl () =>
   some true
  | .inr r =>
   some r
def Khl (p : (List Int) × Int × Bool) (r : Bool) : Prop :=
 match p with
 | (ty0,size1,closed2) => Q75 Tryz.prog 82 [sI ty0,I size1,.bool closed2] (.bool r) []
theorem Khm : ∀ p r,Khk p = some r → Khl p r := by
 rintro ⟨ty0,size1,closed2⟩ r h
 unfold Khk at h
 refine b0 Tryz.f82 B82 43 [(0,sI ty0),(1,I size1),(2,.bool closed2)] fun c hc => ?_
 refine rs0 hc 1 [(0,sI ty0),(1,I size1),(2,.bool closed2)] [] ?_
 refine sN ?_
 refine rs0 hc 1 [(0,sI ty0),(1,I size1),(2,.bool closed2),(7,I 0)] [] ?_
 refine bk 0 ?_
 obtain ⟨fl,a0,h⟩ := Qdj h
 have hL := Khj _ _ a0 c hc
 refine lp ?_
 rcases fl with ⟨⟩ | r
 ·refine WpL.into (e := (.exit 0)) (mkS [] []) hL ?_
  refine Qcx ?_
  refine rs0 hc 1 [(6,.bool true)] [] ?_
  refine rt ?_
  obtain rfl := os h
  exact rq [true]
 refine WpL.mono hL ?_
 rintro _ _ ⟨rfl,hfin⟩
 obtain rfl := os h
 exact ⟨.inl rfl,hfin⟩
def Khn (p : K02 × (List Int)) : Option (Bool) :=
 match p with
 | (s0,ty1) =>
  ((
  (Kaw s0) >>= fun a0 =>
  if a0 = true then
  (Khc ty1) >>= fun a1 =>
  if a1 = true then
  (Khk (ty1,s0.fSize,true)) >>= fun a2 =>
  some (a2)
  else
  some (false)
  else
  some (false)
  ) : Option (Bool)) >>= fun a3 =>
  some a3
def Kho (p : K02 × (List Int)) (r : Bool) : Prop :=
 match p with
 | (s0,ty1) => Q75 Tryz.prog 18 [K1h s0,sI ty1] (.bool r) []
theorem Khp : ∀ p r,Khn p = some r → Kho p r := by
 rintro ⟨s0,ty1⟩ r h
 unfold Khn at h
 refine b0 Tryz.f18 B18 17 [(0,K1h s0),(1,sI ty1)] fun c hc => ?_
 refine rs hc none [some (.new 1),oN] [(1,sI ty1),(2,.ra 1 0)] [(1,K1g s0)] tv ?_
 refine sN ?_
 obtain ⟨a0,a1,h⟩ := Qdj h
 refine Wp.into (x := .normal) (mkS [(4,.bool a0)] []) ?_ ?_
 ·replace h := a1
  obtain ⟨a2,a3,h⟩ := Qdj h
  rcases is h with ⟨a4,h⟩ | ⟨a4,h⟩
  ·obtain ⟨a5,a6,h⟩ := Qdj h
   rcases is h with ⟨a7,h⟩ | ⟨a7,h⟩
   ·obtain ⟨a8,a9,h⟩ := Qdj h
    refine rg hc none [oN,oc (.bool a2),oN,oN,oc (.bool a5),oT,oN,oN,oN,oN,oc (.bool a8),oT,oN] [(4,.bool a8)] [] (cq (Kay _ _ a3) K3a (ar 2 a4 (cq (Khe _ _ a6) K5s (ai a4 (ar 4 a7 (cq (Khm _ _ a9) K5t (ai a7 tv))))))) ?_
    obtain rfl := os h
    exact Qd5.mk
   refine rg hc none [oN,oc (.bool a2),oN,oN,oc (.bool a5),oT,oN,o_,o_,o_,o_,oF,oN] [(4,.bool false)] [] (cq (Kay _ _ a3) K3a (ar 2 a4 (cq (Khe _ _ a6) K5s (ai a4 (ar 4 (neT a7) (ai a7 tv)))))) ?_
   obtain rfl := os h
   exact Qd5.mk
  refine rg hc none [oN,oc (.bool a2),oN,o_,o_,oF,oN,o_,o_,o_,o_,oF,oN] [(4,.bool false)] [] (cq (Kay _ _ a3) K3a (ar 2 (neT a4) (ai a4 (ar 4 (neT (rfl : false = false)) (ai (rfl : false = false) tv))))) ?_
  obtain rfl := os h
  exact Qd5.mk
 clear a1
 refine rt ?_
 obtain rfl := os h
 exact rq [true]
def Khq (c : Ctx) : (Unit) ⊕ (Bool) → Exit → Q0a → Prop
 | .inl _ => Qd5 c (.exit 0) (mkS [] [])
 | .inr r => Qde TIx Tryz.f181 [] (.bool r)
def Khr (p : (List Int) × Int) : Option ((Unit) ⊕ (Bool)) :=
 match p with
 | (ty0,a0) =>
  if (decide (a0 < (ty0.length : Int))) = true then
  (idx ty0 a0) >>= fun a1 =>
  (Kcg a1) >>= fun a2 =>
  if a2 = true then
  some (.inr false)
  else
  Khr (ty0,(wr (a0 + 1)))
  else
  some (.inl ())
 partial_fixpoint
def Khs (p : (List Int) × Int) (fl : (Unit) ⊕ (Bool)) : Prop :=
 match p with
 | (ty0,a0) => ∀ c : Ctx,c.nt = 15 → WpL Tryz.prog c (cl (cl (cr (cl (cr K5v))))) (Khq c fl) (mkS [(0,sI ty0),(3,I a0)] [])
theorem Kht : ∀ p r,Khr p = some r → Khs p r := by
 refine Khr.partial_correctness Khs ?_
 rintro spec_l2Data_l0_f spec_l2Data_l0_ih ⟨ty0,a0⟩ r h
 intro c hc
 refine WpL.step ?_
 refine sN ?_
 refine rs hc none [oN,oN,some (.eqv (.no) ⟨[(6,I (ty0.length : Int))],[],[]⟩),oN] [(0,sI ty0),(3,I a0),(7,.bool (decide (a0 < (ty0.length : Int))))] [] (ai (Qdp (d := 6) I ty0) tv) ?_
 refine ic h (fun a1 h => ?_) fun a1 h => ?_
 ·refine sk ?_
  refine sN ?_
  refine bk 1 ?_
  obtain ⟨a2,a3,a4,a5,h⟩ := bq2 h
  refine rs hc none [oN,oN,some (.el (I a2)),oN,oc (.bool a4)] [(0,sI ty0),(3,I a0),(14,.bool a4)] [] (ai (ix a3) (cq (Kci _ _ a5) K40 tv)) ?_
  refine ic h (fun a6 h => ?_) fun a6 h => ?_
  ·refine rs0 hc 1 [(2,.bool false)] [] ?_
   refine rt ?_
   obtain rfl := os h
   exact re [true]
  refine sk ?_
  refine rg0 hc 3 [(0,sI ty0),(3,I (wr (a0 + 1)))] [] ?_
  refine Qd1 ?_
  exact (spec_l2Data_l0_ih _ _ h c hc)
 refine xt 0 ?_
 refine Qcv ?_
 refine Qd2 ?_
 obtain rfl := os h
 exact iv []
def Khu (ty0 : (List Int)) : Option (Bool) :=
 (Khr (ty0,0)) >>= fun fl => match fl with
 | .inl () =>
  some true
 | .inr r =>
  some r
def Khv (ty0 : (List Int)) (r : Bool) : Prop :=
 Q75 Tryz.prog 181 [sI ty0] (.bool r) []
theorem Khw : ∀ p r,Khu p = some r → Khv p r := by
 rintro ty0 r h
 unfold Khu at h
 refine b0 Tryz.f181 K5v 15 [(0,sI ty0)] fun c hc => ?_
 refine rs0 hc 1 [(0,sI ty0)] [] ?_
 refine sN ?_
 refine rs0 hc 1 [(0,sI ty0),(3,I 0)] [] ?_
 refine bk 0 ?_
 obtain ⟨fl,a0,h⟩ := Qdj h
 have hL := Kht _ _ a0 c hc
 refine lp ?_
 rcases fl with ⟨⟩ | r
 ·refine WpL.into (e := (.exit 0)) (mkS [] []) hL ?_
  refine Qcx ?_
  refine rs0 hc 1 [(2,.bool true)] [] ?_
  refine rt ?_
  obtain rfl := os h
  exact rq [true]
 refine WpL.mono hL ?_
 rintro _ _ ⟨rfl,hfin⟩
 obtain rfl := os h
 exact ⟨.inl rfl,hfin⟩
def Khx (p : K02 × (List Int)) : Option (Bool) :=
 match p with
 | (s0,ty1) =>
  ((
  (Khn (s0,ty1)) >>= fun a0 =>
  if a0 = true then
  (Khu ty1) >>= fun a1 =>
  some (a1)
  else
  some (false)
  ) : Option (Bool)) >>= fun a2 =>
  some a2
def Khy (p : K02 × (List Int)) (r : Bool) : Prop :=
 match p with
 | (s0,ty1) => Q75 Tryz.prog 101 [K1h s0,sI ty1] (.bool r) []
theorem Khz : ∀ p r,Khx p = some r → Khy p r := by
 rintro ⟨s0,ty1⟩ r h
 unfold Khx at h
 refine b0 Tryz.f101 K5x 12 [(0,K1h s0),(1,sI ty1)] fun c hc => ?_
 refine rs hc none [some (.new 1),oN] [(1,sI ty1),(2,.ra 1 0)] [(1,K1g s0)] tv ?_
 refine sN ?_
 obtain ⟨a0,a1,h⟩ := Qdj h
 refine Wp.into (x := .normal) (mkS [(4,.bool a0)] []) ?_ ?_
 ·replace h := a1
  obtain ⟨a2,a3,h⟩ := Qdj h
  rcases is h with ⟨a4,h⟩ | ⟨a4,h⟩
  ·obtain ⟨a5,a6,h⟩ := Qdj h
   refine rg hc none [oN,oN,oc (.bool a2),oN,oN,oc (.bool a5),oT,oN] [(4,.bool a5)] [] (cq (Khp _ _ a3) K5u (ar 2 a4 (cq (Khw _ _ a6) K5w (ai a4 tv)))) ?_
   obtain rfl := os h
   exact Qd5.mk
  refine rg hc none [oN,oN,oc (.bool a2),oN,o_,o_,oF,oN] [(4,.bool false)] [] (cq (Khp _ _ a3) K5u (ar 2 (neT a4) (ai a4 tv))) ?_
  obtain rfl := os h
  exact Qd5.mk
 clear a1
 refine rt ?_
 obtain rfl := os h
 exact rq [true]
def Ki0 (ty0 : (List Int)) : Option (Int) :=
 (idx ty0 0) >>= fun a0 =>
 if (a0 == 0) = true then
 some 3
 else
 if (a0 == 1) = true then
 (Kcz (ty0,0)) >>= fun a1 =>
 (Ki0 a1) >>= fun a2 =>
 (Kcz (ty0,1)) >>= fun a3 =>
 (Ki0 a3) >>= fun a4 =>
 (K81 ((wr (a2 * a4)),301)) >>= fun a5 =>
 some a5
 else
 if (a0 == 2) = true then
 (Kcz (ty0,0)) >>= fun a6 =>
 (Ki0 a6) >>= fun a7 =>
 (Kcz (ty0,1)) >>= fun a8 =>
 (Ki0 a8) >>= fun a9 =>
 (K81 ((wr (a7 + a9)),301)) >>= fun b1 =>
 some b1
 else
 (Kcz (ty0,0)) >>= fun b2 =>
 (Ki0 b2) >>= fun b3 =>
 some b3
 partial_fixpoint
def Ki1 (ty0 : (List Int)) (r : Int) : Prop :=
 Q75 Tryz.prog 102 [sI ty0] (I r) []
theorem Ki2 : ∀ p r,Ki0 p = some r → Ki1 p r := by
 refine Ki0.partial_correctness Ki1 ?_
 rintro spec_l5Count_f spec_l5Count_ih ty0 r h
 refine b0 Tryz.f102 K5z 35 [(0,sI ty0)] fun c hc => ?_
 refine rs0 hc 1 [(0,sI ty0)] [] ?_
 obtain ⟨a0,a1,h⟩ := Qdj h
 refine rs hc none [oN,some (.el (I a0)),oN,oN] [(0,sI ty0),(3,I a0)] [] (ai (ix a1) tv) ?_
 refine sN ?_
 refine bk 0 ?_
 refine rs0 hc 3 [(0,sI ty0),(3,I a0),(7,.bool (a0 == 0))] [] ?_
 refine ic h (fun a2 h => ?_) fun a2 h => ?_
 ·refine rs0 hc 1 [(2,I 3)] [] ?_
  refine rt ?_
  obtain rfl := os h
  exact rq [true]
 refine rs0 hc 3 [(0,sI ty0),(3,I a0),(10,.bool (a0 == 1))] [] ?_
 refine ic h (fun a3 h => ?_) fun a3 h => ?_
 ·obtain ⟨a4,a5,a6,a7,a8,a9,b1,b2,h⟩ := bq4 h
  obtain ⟨b3,b4,h⟩ := Qdj h
  refine rs hc none [oN,oc (oI a4),oc (I a6),oN,some (.call (oI a8) [] 2),oc (I b1),oN,oc (I b3),oN] [(2,I b3)] [] (cq (Kd1 _ _ a5) K4a (ac (Q75.args (A1 := [.sl (Q02 (List.map I a4))]) (A2 := [sI a4]) (by simp only [List.map_nil,Qeb]) (spec_l5Count_ih _ _ a7)) K60 (Or.inr rfl : ([1] : List Nat) = [] ∨ noSh (I a6) = true) (cq (Kd1 _ _ a9) K4a (ac (Q75.args (A1 := [.sl (Q02 (List.map I a8))]) (A2 := [sI a8]) (by simp only [List.map_nil,Qeb]) (spec_l5Count_ih _ _ b2)) K60 (Or.inr rfl : ([2] : List Nat) = [] ∨ noSh (I b1) = true) (cq (K83 _ _ b4) K2c tv))))) ?_
  refine rt ?_
  obtain rfl := os h
  exact rq [true]
 refine rs0 hc 3 [(0,sI ty0),(21,.bool (a0 == 2))] [] ?_
 refine ic h (fun b5 h => ?_) fun b5 h => ?_
 ·obtain ⟨b6,b7,b8,b9,c0,c1,c2,c3,h⟩ := bq4 h
  obtain ⟨c4,c5,h⟩ := Qdj h
  refine rs hc none [oN,some (.call (oI b6) [] 3),oc (I b8),oN,some (.call (oI c0) [] 4),oc (I c2),oN,oc (I c4),oN] [(2,I c4)] [] (cq (Kd1 _ _ b7) K4a (ac (Q75.args (A1 := [.sl (Q02 (List.map I b6))]) (A2 := [sI b6]) (by simp only [List.map_nil,Qeb]) (spec_l5Count_ih _ _ b9)) K60 (Or.inr rfl : ([3] : List Nat) = [] ∨ noSh (I b8) = true) (cq (Kd1 _ _ c1) K4a (ac (Q75.args (A1 := [.sl (Q02 (List.map I c0))]) (A2 := [sI c0]) (by simp only [List.map_nil,Qeb]) (spec_l5Count_ih _ _ c3)) K60 (Or.inr rfl : ([4] : List Nat) = [] ∨ noSh (I c2) = true) (cq (K83 _ _ c5) K2c tv))))) ?_
  refine rt ?_
  obtain rfl := os h
  exact rq [true]
 refine sk ?_
 obtain ⟨c6,c7,c8,c9,h⟩ := bq2 h
 refine rs hc none [oN,some (.call (oI c6) [] 5),oc (I c8),oN] [(2,I c8)] [] (cq (Kd1 _ _ c7) K4a (ac (Q75.args (A1 := [.sl (Q02 (List.map I c6))]) (A2 := [sI c6]) (by simp only [List.map_nil,Qeb]) (spec_l5Count_ih _ _ c9)) K60 (Or.inr rfl : ([5] : List Nat) = [] ∨ noSh (I c8) = true) tv)) ?_
 refine rt ?_
 obtain rfl := os h
 exact rq [true]
def Ki3 (p : K02 × (List Int)) : Option (Int) :=
 match p with
 | (s0,ty1) =>
  ((
  (Khx (s0,ty1)) >>= fun a0 =>
  if a0 = true then
  (Ki0 ty1) >>= fun a1 =>
  some ((decide (a1 > 300)))
  else
  some (true)
  ) : Option (Bool)) >>= fun a2 =>
  if a2 = true then
  some (-1)
  else
  (Ki0 ty1) >>= fun a3 =>
  some a3
def Ki4 (p : K02 × (List Int)) (r : Int) : Prop :=
 match p with
 | (s0,ty1) => Q75 Tryz.prog 33 [K1h s0,sI ty1] (I r) []
theorem Ki5 : ∀ p r,Ki3 p = some r → Ki4 p r := by
 rintro ⟨s0,ty1⟩ r h
 unfold Ki3 at h
 refine b0 Tryz.f33 B33 16 [(0,K1h s0),(1,sI ty1)] fun c hc => ?_
 refine rs hc none [some (.new 1),oN] [(1,sI ty1),(2,.ra 1 0)] [(1,K1g s0)] tv ?_
 refine sN ?_
 refine sN ?_
 obtain ⟨a0,a1,h⟩ := Qdj h
 refine Wp.into (x := .normal) (mkS [(1,sI ty1),(13,.bool a0)] []) ?_ ?_
 ·replace h := a1
  obtain ⟨a2,a3,h⟩ := Qdj h
  rcases is h with ⟨a4,h⟩ | ⟨a4,h⟩
  ·obtain ⟨a5,a6,h⟩ := Qdj h
   refine rg hc none [oN,oN,oc (.bool a2),oN,oN,oN,oc (I a5),oN,oF] [(1,sI ty1),(13,.bool (decide (a5 > 300)))] [] (cq (Khz _ _ a3) K5y (ar 2 (nF a4) (cq (Ki2 _ _ a6) K60 (ar 2 (nF a4) tv)))) ?_
   obtain rfl := os h
   exact Qd5.mk
  refine rg hc none [oN,oN,oc (.bool a2),oN,oN,o_,o_,o_,oT] [(1,sI ty1),(13,.bool true)] [] (cq (Khz _ _ a3) K5y (ar 3 (neF (nT a4)) (ai (nT a4) tv))) ?_
  obtain rfl := os h
  exact Qd5.mk
 clear a1
 refine ic h (fun a7 h => ?_) fun a7 h => ?_
 ·refine rs0 hc 1 [(4,I (-1))] [] ?_
  refine rt ?_
  obtain rfl := os h
  exact rq [true]
 refine sk ?_
 obtain ⟨a8,a9,h⟩ := Qdj h
 refine rs hc none [oN,oc (I a8),oN] [(4,I a8)] [] (cq (Ki2 _ _ a9) K60 tv) ?_
 refine rt ?_
 obtain rfl := os h
 exact rq [true]
def Ki6 (p : (List Int) × Int) : Option (K00) :=
 match p with
 | (ty0,k1) =>
  (idx ty0 0) >>= fun a0 =>
  if (a0 == 0) = true then
  some (K00.mk 1 k1 [] [])
  else
  (Kcz (ty0,0)) >>= fun a1 =>
  (Kcj a0) >>= fun a2 =>
  if a2 = true then
  (Kd2 a0) >>= fun a3 =>
  (Ki6 (a1,k1)) >>= fun a4 =>
  some (K00.mk 11 a3 [] [a4])
  else
  (Kcz (ty0,1)) >>= fun a5 =>
  if (a0 == 1) = true then
  (Ki0 a5) >>= fun a6 =>
  (chk (a6 ≠ 0)) >>= fun _ =>
  (Ki6 (a1,(wr (Int.tdiv k1 a6)))) >>= fun a7 =>
  (chk (a6 ≠ 0)) >>= fun _ =>
  (Ki6 (a5,(Int.tmod k1 a6))) >>= fun a8 =>
  some (K00.mk 4 0 [] [a7,a8])
  else
  (Ki0 a1) >>= fun a9 =>
  if (decide (k1 < a9)) = true then
  (Ki6 (a1,k1)) >>= fun b1 =>
  some (K00.mk 6 0 a5 [b1])
  else
  (Ki6 (a5,(wr (k1 - a9)))) >>= fun b2 =>
  some (K00.mk 7 0 a1 [b2])
 partial_fixpoint
def Ki7 (p : (List Int) × Int) (r : K00) : Prop :=
 match p with
 | (ty0,k1) => Q75 Tryz.prog 120 [sI ty0,I k1] (K1k r) []
theorem Ki8 : ∀ p r,Ki6 p = some r → Ki7 p r := by
 refine Ki6.partial_correctness Ki7 ?_
 rintro spec_l5At_f spec_l5At_ih ⟨ty0,k1⟩ r h
 refine b0 Tryz.f120 K62 65 [(0,sI ty0),(1,I k1)] fun c hc => ?_
 refine rs hc none [some (.new 1)] [(0,sI ty0),(1,I k1),(4,.ra 1 0)] [(1,.box [I 0,I 0,.nils,.nils])] tv ?_
 obtain ⟨a0,a1,h⟩ := Qdj h
 refine rss hc none [oN,some (.el (I a0)),oN,oN] [(0,sI ty0),(1,I k1),(4,.ra 1 0),(5,I a0)] (ai (ix a1) tv) ?_
 refine sN ?_
 refine K7p hc 2 [(0,sI ty0),(1,I k1),(4,.ra 1 0),(5,I a0),(14,.bool (a0 == 0))] ?_
 refine ic h (fun a2 h => ?_) fun a2 h => ?_
 ·refine rs0 hc 3 [(4,.ra 1 0)] [(1,.box [I 1,I k1,.nils,.nils])] ?_
  refine rt ?_
  obtain rfl := os h
  exact rq [true]
 refine sk ?_
 obtain ⟨a3,a4,h⟩ := Qdj h
 refine rs hc none [oN,some (.call (oI a3) [] 2),oN] [(0,sI ty0),(1,I k1),(4,.ra 1 0),(5,I a0),(6,.rs 2)] [(1,.box [I 0,I 0,.nils,.nils]),(2,rI a3)] (cq (Kd1 _ _ a4) K4a tv) ?_
 refine sN ?_
 obtain ⟨a5,a6,h⟩ := Qdj h
 refine rss hc none [oN,oc (.bool a5)] [(0,sI ty0),(1,I k1),(4,.ra 1 0),(5,I a0),(6,.rs 2),(20,.bool a5)] (cq (Kcl _ _ a6) K42 tv) ?_
 refine ic h (fun a7 h => ?_) fun a7 h => ?_
 ·obtain ⟨a8,a9,b1,b2,h⟩ := bq2 h
  refine rs hc none [oN,oc (I a8),oN,oN,some (.call (K1k b1) [] 3),some (.eqv (.mk 5 true) ⟨[(26,.rs 5)],[(5,some (.arr (List.map K08 [b1]))),(3,none),(4,none)],[5]⟩),oN,oN] [(4,.ra 1 0)] [(1,.box [I 11,I a8,.nils,.rs 5]),(5,.arr (List.map K08 [b1]))] (cq (Kd4 _ _ a9) K4c (ad (Q75.args (A1 := [.sl (Q02 (List.map I a3)),I k1]) (A2 := [sI a3,I k1]) (by simp only [List.map_nil,Qeb]) (spec_l5At_ih _ _ b2)) K63 (Or.inr (Qel rfl (Qel rfl (Qel (Qej Qef b1.fType) (Qel (Qej K15 b1.fKids) rfl)))) : ([2] : List Nat) = [] ∨ noSh (K1k b1) = true) (congrArg (fun z => (⟨[(26,.rs 5)],[(5,some (.arr z)),(3,none),(4,none)],[5]⟩ : Wr)) ((Qeq (K0e b1) Qep) : [AV.agg [I b1.fOp,I b1.fN,oI b1.fType,AV.osl (List.map K08 b1.fKids)]] = List.map K08 [b1])) tv)) ?_
  refine rt ?_
  obtain rfl := os h
  exact rq [true]
 refine sk ?_
 obtain ⟨b3,b4,h⟩ := Qdj h
 refine rs hc none [oN,some (.call (oI b3) [] 6),oN] [(1,I k1),(4,.ra 1 0),(5,I a0),(6,.rs 2),(7,.rs 6)] [(1,.box [I 0,I 0,.nils,.nils]),(2,rI a3),(6,rI b3)] (cq (Kd1 _ _ b4) K4a tv) ?_
 refine sN ?_
 refine K7p hc 2 [(1,I k1),(4,.ra 1 0),(6,.rs 2),(7,.rs 6),(31,.bool (a0 == 1))] ?_
 refine ic h (fun b5 h => ?_) fun b5 h => ?_
 ·obtain ⟨b6,b7,h⟩ := Qdj h
  refine rss hc none [oN,oc (I b6),oN] [(1,I k1),(4,.ra 1 0),(6,.rs 2),(7,.rs 6),(8,I b6)] (ac (Q75.args (A1 := [.sl (Q02 (List.map I b3))]) (A2 := [sI b3]) (by simp only [List.map_nil,Qeb]) (Ki2 _ _ b7)) K60 (Or.inr rfl : ([6] : List Nat) = [] ∨ noSh (I b6) = true) tv) ?_
  obtain ⟨_,b8,b9,c0,_,c1,c2,c3,h⟩ := bq4 h
  refine rs hc (rx [[0],[0],[0],[0,1,2],[4],[0],[0],[0],[0,6,7],[9],[10],[11],[12]]) [oN,oN,oN,oN,some (.call (K1k b9) [] 7),oN,oN,oN,oN,some (.call (K1k c2) [] 9),some (.eqv (.mk 11 true) ⟨[(44,.rs 11)],[(11,some (.arr (List.map K08 [b9,c2]))),(7,none),(8,none),(9,none),(10,none)],[11]⟩),oN,oN] [(4,.ra 1 0)] [(1,.box [I 4,I 0,.nils,.rs 11]),(11,.arr (List.map K08 [b9,c2]))] (ad (Qdl b8) (Q75.args (A1 := [.sl (Q02 (List.map I a3)),I (wr (Int.tdiv k1 b6))]) (A2 := [sI a3,I (wr (Int.tdiv k1 b6))]) (by simp only [List.map_nil,Qeb]) (spec_l5At_ih _ _ c0)) K63 (Or.inr (Qel rfl (Qel rfl (Qel (Qej Qef b9.fType) (Qel (Qej K15 b9.fKids) rfl)))) : ([2] : List Nat) = [] ∨ noSh (K1k b9) = true) (ad (Qdl c1) (Q75.args (A1 := [.sl (Q02 (List.map I b3)),I (Int.tmod k1 b6)]) (A2 := [sI b3,I (Int.tmod k1 b6)]) (by simp only [List.map_nil,Qeb]) (spec_l5At_ih _ _ c3)) K63 (Or.inr (Qel rfl (Qel rfl (Qel (Qej Qef c2.fType) (Qel (Qej K15 c2.fKids) rfl)))) : ([6] : List Nat) = [] ∨ noSh (K1k c2) = true) (ai (congrArg (fun z => (⟨[(44,.rs 11)],[(11,some (.arr z)),(7,none),(8,none),(9,none),(10,none)],[11]⟩ : Wr)) ((Qeq (K0e b9) (Qeq (K0e c2) Qep)) : [AV.agg [I b9.fOp,I b9.fN,oI b9.fType,AV.osl (List.map K08 b9.fKids)],AV.agg [I c2.fOp,I c2.fN,oI c2.fType,AV.osl (List.map K08 c2.fKids)]] = List.map K08 [b9,c2])) tv))) ?_
  refine rt ?_
  obtain rfl := os h
  exact rq [true]
 refine sk ?_
 obtain ⟨c4,c5,h⟩ := Qdj h
 refine rss hc none [oN,oc (I c4),oN] [(1,I k1),(4,.ra 1 0),(6,.rs 2),(7,.rs 6),(9,I c4)] (ac (Q75.args (A1 := [.sl (Q02 (List.map I a3))]) (A2 := [sI a3]) (by simp only [List.map_nil,Qeb]) (Ki2 _ _ c5)) K60 (Or.inr rfl : ([2] : List Nat) = [] ∨ noSh (I c4) = true) tv) ?_
 refine sN ?_
 refine K7p hc 3 [(1,I k1),(4,.ra 1 0),(6,.rs 2),(7,.rs 6),(9,I c4),(50,.bool (decide (k1 < c4)))] ?_
 refine ic h (fun c6 h => ?_) fun c6 h => ?_
 ·obtain ⟨c7,c8,h⟩ := Qdj h
  refine rs hc none [oN,oN,oN,some (.call (K1k c7) [] 12),some (.eqv (.mk 14 true) ⟨[(55,.rs 14)],[(14,some (.arr (List.map K08 [c7]))),(12,none),(13,none)],[14]⟩),oN,oN] [(4,.ra 1 0)] [(1,.box [I 6,I 0,.rs 6,.rs 14]),(6,rI b3),(14,.arr (List.map K08 [c7]))] (ad (Q75.args (A1 := [.sl (Q02 (List.map I a3)),I k1]) (A2 := [sI a3,I k1]) (by simp only [List.map_nil,Qeb]) (spec_l5At_ih _ _ c8)) K63 (Or.inr (Qel rfl (Qel rfl (Qel (Qej Qef c7.fType) (Qel (Qej K15 c7.fKids) rfl)))) : ([2] : List Nat) = [] ∨ noSh (K1k c7) = true) (congrArg (fun z => (⟨[(55,.rs 14)],[(14,some (.arr z)),(12,none),(13,none)],[14]⟩ : Wr)) ((Qeq (K0e c7) Qep) : [AV.agg [I c7.fOp,I c7.fN,oI c7.fType,AV.osl (List.map K08 c7.fKids)]] = List.map K08 [c7])) tv) ?_
  refine rt ?_
  obtain rfl := os h
  exact rq [true]
 refine sk ?_
 obtain ⟨c9,d0,h⟩ := Qdj h
 refine rs hc none [oN,oN,oN,oN,oN,some (.call (K1k c9) [] 15),some (.eqv (.mk 17 true) ⟨[(63,.rs 17)],[(17,some (.arr (List.map K08 [c9]))),(15,none),(16,none)],[17]⟩),oN,oN] [(4,.ra 1 0)] [(1,.box [I 7,I 0,.rs 2,.rs 17]),(2,rI a3),(17,.arr (List.map K08 [c9]))] (ad (Q75.args (A1 := [.sl (Q02 (List.map I b3)),I (wr (k1 - c4))]) (A2 := [sI b3,I (wr (k1 - c4))]) (by simp only [List.map_nil,Qeb]) (spec_l5At_ih _ _ d0)) K63 (Or.inr (Qel rfl (Qel rfl (Qel (Qej Qef c9.fType) (Qel (Qej K15 c9.fKids) rfl)))) : ([6] : List Nat) = [] ∨ noSh (K1k c9) = true) (congrArg (fun z => (⟨[(63,.rs 17)],[(17,some (.arr z)),(15,none),(16,none)],[17]⟩ : Wr)) ((Qeq (K0e c9) Qep) : [AV.agg [I c9.fOp,I c9.fN,oI c9.fType,AV.osl (List.map K08 c9.fKids)]] = List.map K08 [c9])) tv) ?_
 refine rt ?_
 obtain rfl := os h
 exact rq [true]
def Ki9 (p : K02 × (List Int) × Int) : Option (K00 × Bool) :=
 match p with
 | (s0,ty1,k2) =>
  (Ki3 (s0,ty1)) >>= fun a0 =>
  (K8g (k2,0,(wr (a0 - 1)))) >>= fun a1 =>
  if a1 = true then
  (Ki6 (ty1,k2)) >>= fun a2 =>
  some (a2,true)
  else
  some ((K00.mk 0 0 [] []),false)
def Kia (p : K02 × (List Int) × Int) (r : K00 × Bool) : Prop :=
 match p with
 | (s0,ty1,k2) => Q75 Tryz.prog 46 [K1h s0,sI ty1,I k2] (.tup [.agg [I r.1.fOp,I r.1.fN,.osl (List.map I r.1.fType),.osl (List.map K08 r.1.fKids)],.bool r.2]) []
theorem Kib : ∀ p r,Ki9 p = some r → Kia p r := by
 rintro ⟨s0,ty1,k2⟩ r h
 unfold Ki9 at h
 refine b0 Tryz.f46 B46 19 [(0,K1h s0),(1,sI ty1),(2,I k2)] fun c hc => ?_
 refine rs hc none [some (.new 1),some (.new 2),oN] [(1,sI ty1),(2,I k2),(3,.ra 1 0),(6,.ra 2 0)] [(1,K1g s0),(2,.box [I 0,I 0,.nils,.nils])] tv ?_
 refine sN ?_
 obtain ⟨a0,a1,a2,a3,h⟩ := bq2 h
 refine rs hc none [oN,oN,oN,oc (I a0),oN,oc (.bool a2),oN] [(1,sI ty1),(2,I k2),(6,.ra 2 0),(14,.bool (!a2))] [(2,.box [I 0,I 0,.nils,.nils])] (cq (Ki5 _ _ a1) K61 (cq (K8i _ _ a3) K2k tv)) ?_
 rcases is h with ⟨a4,h⟩ | ⟨a4,h⟩
 ·refine cF (!a2) (nF a4) ?_
  refine sk ?_
  obtain ⟨a5,a6,h⟩ := Qdj h
  refine rs hc none [oN,oN,some (.call (K1k a5) [] 3),oN,oN] [(6,.ra 2 0),(7,.bool true)] [(2,.box [I a5.fOp,I a5.fN,.rs 3,.rs 4]),(3,rI a5.fType),(4,.arr (List.map K08 a5.fKids))] (cq (Ki8 _ _ a6) K63 tv) ?_
  refine rt ?_
  obtain rfl := os h
  exact rq [true,true]
 refine cT (!a2) (nT a4) ?_
 refine K7p hc 3 [(6,.ra 2 0),(7,.bool false)] ?_
 refine rt ?_
 obtain rfl := os h
 exact rq [true,true]
def Kic (p : Int × Int × Int) : Option (Bool) :=
 match p with
 | (n0,low1,high2) =>
  ((
  if (decide (n0 ≥ low1)) = true then
  some ((decide (n0 ≤ high2)))
  else
  some (false)
  ) : Option (Bool)) >>= fun a0 =>
  some a0
def Kid (p : Int × Int × Int) (r : Bool) : Prop :=
 match p with
 | (n0,low1,high2) => Q75 Tryz.prog 95 [I n0,I low1,I high2] (.bool r) []
theorem Kie : ∀ p r,Kic p = some r → Kid p r := by
 rintro ⟨n0,low1,high2⟩ r h
 unfold Kic at h
 refine b0 Tryz.f95 B95 15 [(0,I n0),(1,I low1),(2,I high2)] fun c hc => ?_
 refine rs0 hc 1 [(0,I n0),(1,I low1),(2,I high2)] [] ?_
 refine sN ?_
 obtain ⟨a0,a1,h⟩ := Qdj h
 refine Wp.into (x := .normal) (mkS [(6,.bool a0)] []) ?_ ?_
 ·replace h := a1
  rcases is h with ⟨a2,h⟩ | ⟨a2,h⟩
  ·refine rg hc none [oN,oN,oN,oN,oN,oN,oN,oT,oN] [(6,.bool (decide (n0 ≤ high2)))] [] (ar 4 a2 tv) ?_
   obtain rfl := os h
   exact Qd5.mk
  refine rg hc none [oN,oN,oN,oN,o_,o_,o_,oF,oN] [(6,.bool false)] [] (ar 3 (neT a2) (ai a2 tv)) ?_
  obtain rfl := os h
  exact Qd5.mk
 clear a1
 refine rt ?_
 obtain rfl := os h
 exact rq [true]
def Kif (op0 : Int) : Option (K04 × Bool) :=
 (Kic (op0,0,12)) >>= fun a0 =>
 if a0 = true then
 (idx [(K04.mk (ByteArray.mk #[120]) 0 false false),(K04.mk ByteArray.empty 0 false false),(K04.mk (ByteArray.mk #[97,100,100]) 2 false false),(K04.mk (ByteArray.mk #[105,102]) 3 false false),(K04.mk (ByteArray.mk #[112,97,105,114]) 2 false false),(K04.mk (ByteArray.mk #[115,112,108,105,116]) 2 true false),(K04.mk (ByteArray.mk #[108,101,102,116]) 1 false true),(K04.mk (ByteArray.mk #[114,105,103,104,116]) 1 false true),(K04.mk (ByteArray.mk #[99,97,115,101]) 3 true false),(K04.mk (ByteArray.mk #[102,117,110]) 1 true true),(K04.mk (ByteArray.mk #[97,112,112]) 2 false false),(K04.mk (ByteArray.mk #[98,111,120]) 1 true false),(K04.mk (ByteArray.mk #[111,112,101,110]) 2 true false)] op0) >>= fun a1 =>
 some (a1,true)
 else
 some ((K04.mk ByteArray.empty 0 false false),false)
def Kig (op0 : Int) (r : K04 × Bool) : Prop :=
 Q75 Tryz.prog 188 [I op0] (.tup [.agg [.str r.1.fword,I r.1.fkids,.bool r.1.fgrade,.bool r.1.ftyped],.bool r.2]) []
theorem Kih : ∀ p r,Kif p = some r → Kig p r := by
 rintro op0 r h
 unfold Kif at h
 refine b0 Tryz.f188 K66 25 [(0,I op0)] fun c hc => ?_
 refine rs hc none [some (.new 1),oN] [(0,I op0),(2,.ra 1 0)] [(1,.box [.str ByteArray.empty,I 0,.bool false,.bool false])] tv ?_
 refine sN ?_
 obtain ⟨a0,a1,h⟩ := Qdj h
 refine rss hc none [oN,oc (.bool a0),oN] [(0,I op0),(2,.ra 1 0),(6,.bool (!a0))] (cq (Kie _ _ a1) K65 tv) ?_
 rcases is h with ⟨a2,h⟩ | ⟨a2,h⟩
 ·refine cF (!a0) (nF a2) ?_
  refine sk ?_
  obtain ⟨a3,a4,h⟩ := Qdj h
  refine rs hc none [oN,oN,oN,oN,oN,oN,oN,oN,oN,oN,oN,oN,oN,some (.mk 2 true),oN,oN,some (.el (.agg [.str a3.fword,I a3.fkids,.bool a3.fgrade,.bool a3.ftyped])),oN,oN] [(2,.ra 1 0),(3,.bool true)] [(1,.box [.str a3.fword,I a3.fkids,.bool a3.fgrade,.bool a3.ftyped])] (ab (Qdo (enc := K0l) a4) (Qdn (enc := K0l) (x := .agg [.str a3.fword,I a3.fkids,.bool a3.fgrade,.bool a3.ftyped]) a4 (K17 a3)).2 tv) ?_
  refine rt ?_
  obtain rfl := os h
  exact rq [true,true]
 refine cT (!a0) (nT a2) ?_
 refine K7p hc 3 [(2,.ra 1 0),(3,.bool false)] ?_
 refine rt ?_
 obtain rfl := os h
 exact rq [true,true]
def Kii (g0 : Int) : Option (Bool) :=
 (Kic (g0,(-1),15)) >>= fun a0 =>
 some a0
def Kij (g0 : Int) (r : Bool) : Prop :=
 Q75 Tryz.prog 189 [I g0] (.bool r) []
theorem Kik : ∀ p r,Kii p = some r → Kij p r := by
 rintro g0 r h
 unfold Kii at h
 refine b0 Tryz.f189 K68 5 [(0,I g0)] fun c hc => ?_
 refine rs0 hc 1 [(0,I g0)] [] ?_
 obtain ⟨a0,a1,h⟩ := Qdj h
 refine rs hc none [oN,oc (.bool a0),oN] [(2,.bool a0)] [] (cq (Kie _ _ a1) K65 tv) ?_
 refine rt ?_
 obtain rfl := os h
 exact rq [true]
def Kil (code0 : Int) : Option (Int × Int) :=
 (Kic (code0,0,2)) >>= fun a0 =>
 if a0 = true then
 some (code0,(-1))
 else
 (Kic (code0,3,18)) >>= fun a1 =>
 if a1 = true then
 some (3,(wr (code0 - 3)))
 else
 (Kic (code0,19,34)) >>= fun a2 =>
 if a2 = true then
 some (4,(wr (code0 - 19)))
 else
 if (code0 == 35) = true then
 some (3,(-1))
 else
 if (code0 == 36) = true then
 some (4,(-1))
 else
 some (5,(-1))
def Kim (code0 : Int) (r : Int × Int) : Prop :=
 Q75 Tryz.prog 157 [I code0] (.tup [I r.1,I r.2]) []
theorem Kin : ∀ p r,Kil p = some r → Kim p r := by
 rintro code0 r h
 unfold Kil at h
 refine b0 Tryz.f157 K6a 24 [(0,I code0)] fun c hc => ?_
 refine rs0 hc 2 [(0,I code0)] [] ?_
 refine sN ?_
 refine bk 0 ?_
 obtain ⟨a0,a1,h⟩ := Qdj h
 refine rs hc none [oN,oc (.bool a0),oN] [(0,I code0),(4,.bool a0)] [] (cq (Kie _ _ a1) K65 tv) ?_
 refine ic h (fun a2 h => ?_) fun a2 h => ?_
 ·refine rs0 hc 3 [(2,I code0),(3,I (-1))] [] ?_
  refine rt ?_
  obtain rfl := os h
  exact rq [true,true]
 obtain ⟨a3,a4,h⟩ := Qdj h
 refine rs hc none [oN,oc (.bool a3),oN] [(0,I code0),(8,.bool a3)] [] (cq (Kie _ _ a4) K65 tv) ?_
 refine ic h (fun a5 h => ?_) fun a5 h => ?_
 ·refine rs0 hc 4 [(2,I 3),(3,I (wr (code0 - 3)))] [] ?_
  refine rt ?_
  obtain rfl := os h
  exact rq [true,true]
 obtain ⟨a6,a7,h⟩ := Qdj h
 refine rs hc none [oN,oc (.bool a6),oN] [(0,I code0),(13,.bool a6)] [] (cq (Kie _ _ a7) K65 tv) ?_
 refine ic h (fun a8 h => ?_) fun a8 h => ?_
 ·refine rs0 hc 4 [(2,I 4),(3,I (wr (code0 - 19)))] [] ?_
  refine rt ?_
  obtain rfl := os h
  exact rq [true,true]
 refine rs0 hc 3 [(0,I code0),(18,.bool (code0 == 35))] [] ?_
 refine ic h (fun a9 h => ?_) fun a9 h => ?_
 ·refine rs0 hc 2 [(2,I 3),(3,I (-1))] [] ?_
  refine rt ?_
  obtain rfl := os h
  exact rq [true,true]
 refine rs0 hc 3 [(21,.bool (code0 == 36))] [] ?_
 refine ic h (fun b1 h => ?_) fun b1 h => ?_
 ·refine rs0 hc 2 [(2,I 4),(3,I (-1))] [] ?_
  refine rt ?_
  obtain rfl := os h
  exact rq [true,true]
 refine sk ?_
 refine rs0 hc 2 [(2,I 5),(3,I (-1))] [] ?_
 refine rt ?_
 obtain rfl := os h
 exact rq [true,true]
def Kio (p : (List Int) × Int) : Option (Int) :=
 match p with
 | (ty0,at1) =>
  ((
  if (decide (at1 < 0)) = true then
  some (true)
  else
  some ((decide (at1 ≥ (ty0.length : Int))))
  ) : Option (Bool)) >>= fun a0 =>
  if a0 = true then
  some (-1)
  else
  (idx ty0 at1) >>= fun a1 =>
  (Kil a1) >>= fun (a2,a3) =>
  if (a2 == 0) = true then
  some (wr (at1 + 1))
  else
  if (a2 == 4) = true then
  (Kio (ty0,(wr (at1 + 1)))) >>= fun a4 =>
  some a4
  else
  if (a2 == 5) = true then
  some (-1)
  else
  (Kio (ty0,(wr (at1 + 1)))) >>= fun a5 =>
  (Kio (ty0,a5)) >>= fun a6 =>
  some a6
 partial_fixpoint
def Kip (p : (List Int) × Int) (r : Int) : Prop :=
 match p with
 | (ty0,at1) => Q75 Tryz.prog 213 [sI ty0,I at1] (I r) []
theorem Kiq : ∀ p r,Kio p = some r → Kip p r := by
 refine Kio.partial_correctness Kip ?_
 rintro impl_typeEnd_f impl_typeEnd_ih ⟨ty0,at1⟩ r h
 refine b0 Tryz.f213 K6c 42 [(0,sI ty0),(1,I at1)] fun c hc => ?_
 refine rs0 hc 1 [(0,sI ty0),(1,I at1)] [] ?_
 refine sN ?_
 refine sN ?_
 obtain ⟨a0,a1,h⟩ := Qdj h
 refine Wp.into (x := .normal) (mkS [(0,sI ty0),(1,I at1),(14,.bool a0)] []) ?_ ?_
 ·replace h := a1
  rcases is h with ⟨a2,h⟩ | ⟨a2,h⟩
  ·refine rg hc none [oN,oN,oN,o_,o_,o_,o_,oT] [(0,sI ty0),(1,I at1),(14,.bool true)] [] (ar 4 (neF a2) (ai a2 tv)) ?_
   obtain rfl := os h
   exact Qd5.mk
  refine rg hc none [oN,oN,oN,oN,oN,some (.eqv (.no) ⟨[(12,I (ty0.length : Int))],[],[]⟩),oN,oF] [(0,sI ty0),(1,I at1),(14,.bool (decide (at1 ≥ (ty0.length : Int))))] [] (ar 3 a2 (ai (Qdp (d := 12) I ty0) (ar 2 a2 tv))) ?_
  obtain rfl := os h
  exact Qd5.mk
 clear a1
 refine ic h (fun a3 h => ?_) fun a3 h => ?_
 ·refine rs0 hc 1 [(4,I (-1))] [] ?_
  refine rt ?_
  obtain rfl := os h
  exact rq [true]
 refine sk ?_
 obtain ⟨a4,a5,⟨a6,a7⟩,a8,h⟩ := bq2 h
 refine rs hc none [oN,oN,some (.el (I a4)),oN,oc (.tup [I a6,I a7]),oN,oN,oN,oN,oN] [(0,sI ty0),(1,I at1),(5,I a6)] [] (ai (ix a5) (cq (Kin _ _ a8) K6b tv)) ?_
 refine sN ?_
 refine rs0 hc 1 [(0,sI ty0),(1,I at1),(23,I a6)] [] ?_
 refine bk 0 ?_
 refine rs0 hc 2 [(0,sI ty0),(1,I at1),(23,I a6),(24,.bool (a6 == 0))] [] ?_
 refine ic h (fun a9 h => ?_) fun a9 h => ?_
 ·refine rs0 hc 3 [(4,I (wr (at1 + 1)))] [] ?_
  refine rt ?_
  obtain rfl := os h
  exact rq [true]
 refine rs0 hc 2 [(0,sI ty0),(1,I at1),(23,I a6),(28,.bool (a6 == 4))] [] ?_
 refine ic h (fun b1 h => ?_) fun b1 h => ?_
 ·obtain ⟨b2,b3,h⟩ := Qdj h
  refine rs hc none [oN,oN,oN,oc (I b2),oN] [(4,I b2)] [] (cq (impl_typeEnd_ih _ _ b3) K6d tv) ?_
  refine rt ?_
  obtain rfl := os h
  exact rq [true]
 refine rs0 hc 2 [(0,sI ty0),(1,I at1),(34,.bool (a6 == 5))] [] ?_
 refine ic h (fun b4 h => ?_) fun b4 h => ?_
 ·refine rs0 hc 1 [(4,I (-1))] [] ?_
  refine rt ?_
  obtain rfl := os h
  exact rq [true]
 refine sk ?_
 obtain ⟨b5,b6,b7,b8,h⟩ := bq2 h
 refine rs hc none [oN,oN,oN,oN,oc (I b5),oc (I b7),oN] [(4,I b7)] [] (cq (impl_typeEnd_ih _ _ b6) K6d (cq (impl_typeEnd_ih _ _ b8) K6d tv)) ?_
 refine rt ?_
 obtain rfl := os h
 exact rq [true]
def Kir (ty0 : (List Int)) : Option (Bool) :=
 ((
 (Kic ((ty0.length : Int),1,40)) >>= fun a0 =>
 if a0 = true then
 (Kio (ty0,0)) >>= fun a1 =>
 some ((a1 == (ty0.length : Int)))
 else
 some (false)
 ) : Option (Bool)) >>= fun a2 =>
 some a2
def Kis (ty0 : (List Int)) (r : Bool) : Prop :=
 Q75 Tryz.prog 159 [sI ty0] (.bool r) []
theorem Kit : ∀ p r,Kir p = some r → Kis p r := by
 rintro ty0 r h
 unfold Kir at h
 refine b0 Tryz.f159 K6e 13 [(0,sI ty0)] fun c hc => ?_
 refine rs0 hc 1 [(0,sI ty0)] [] ?_
 refine sN ?_
 obtain ⟨a0,a1,h⟩ := Qdj h
 refine Wp.into (x := .normal) (mkS [(2,.bool a0)] []) ?_ ?_
 ·replace h := a1
  obtain ⟨a2,a3,h⟩ := Qdj h
  rcases is h with ⟨a4,h⟩ | ⟨a4,h⟩
  ·obtain ⟨a5,a6,h⟩ := Qdj h
   refine rg hc none [oN,some (.eqv (.no) ⟨[(4,I (ty0.length : Int))],[],[]⟩),oc (.bool a2),oN,oN,oc (I a5),oN,some (.eqv (.no) ⟨[(10,I (ty0.length : Int))],[],[]⟩),oN,oT,oN] [(2,.bool (a5 == (ty0.length : Int)))] [] (ai (Qdp (d := 4) I ty0) (cq (Kie _ _ a3) K65 (ar 2 a4 (cq (Kiq _ _ a6) K6d (ar 2 a4 (ai (Qdp (d := 10) I ty0) (ar 2 a4 tv))))))) ?_
   obtain rfl := os h
   exact Qd5.mk
  refine rg hc none [oN,some (.eqv (.no) ⟨[(4,I (ty0.length : Int))],[],[]⟩),oc (.bool a2),oN,o_,o_,o_,o_,o_,oF,oN] [(2,.bool false)] [] (ai (Qdp (d := 4) I ty0) (cq (Kie _ _ a3) K65 (ar 5 (neT a4) (ai a4 tv)))) ?_
  obtain rfl := os h
  exact Qd5.mk
 clear a1
 refine rt ?_
 obtain rfl := os h
 exact rq [true]
def Kiu (p : Int × Int) : Option (Int) :=
 match p with
 | (op0,kid1) =>
  ((
  if (op0 == 5) = true then
  some ((kid1 == 1))
  else
  some (false)
  ) : Option (Bool)) >>= fun a0 =>
  if a0 = true then
  some 2
  else
  ((
  if (op0 == 8) = true then
  some ((decide (kid1 > 0)))
  else
  some (false)
  ) : Option (Bool)) >>= fun a1 =>
  ((
  if a1 = true then
  some (a1)
  else
  ((
  if (op0 == 9) = true then
  some ((op0 == 9))
  else
  ((
  if (op0 == 12) = true then
  some ((kid1 == 1))
  else
  some (false)
  ) : Option (Bool)) >>= fun a2 =>
  some (a2)
  ) : Option (Bool)) >>= fun a3 =>
  some (a3)
  ) : Option (Bool)) >>= fun a4 =>
  if a4 = true then
  some 1
  else
  some 0
def Kiv (p : Int × Int) (r : Int) : Prop :=
 match p with
 | (op0,kid1) => Q75 Tryz.prog 199 [I op0,I kid1] (I r) []
theorem Kiw : ∀ p r,Kiu p = some r → Kiv p r := by
 rintro ⟨op0,kid1⟩ r h
 unfold Kiu at h
 refine b0 Tryz.f199 K6g 27 [(0,I op0),(1,I kid1)] fun c hc => ?_
 refine rs0 hc 1 [(0,I op0),(1,I kid1)] [] ?_
 refine sN ?_
 refine bk 0 ?_
 refine sN ?_
 obtain ⟨a0,a1,h⟩ := Qdj h
 refine Wp.into (x := .normal) (mkS [(0,I op0),(1,I kid1),(5,.bool a0)] []) ?_ ?_
 ·replace h := a1
  rcases is h with ⟨a2,h⟩ | ⟨a2,h⟩
  ·refine rg hc none [oN,oN,oN,oN,oN,oT,oN] [(0,I op0),(1,I kid1),(5,.bool (kid1 == 1))] [] (ar 3 a2 tv) ?_
   obtain rfl := os h
   exact Qd5.mk
  refine rg hc none [oN,oN,oN,o_,o_,oF,oN] [(0,I op0),(1,I kid1),(5,.bool false)] [] (ar 2 (neT a2) (ai a2 tv)) ?_
  obtain rfl := os h
  exact Qd5.mk
 clear a1
 refine ic h (fun a3 h => ?_) fun a3 h => ?_
 ·refine rs0 hc 1 [(4,I 2)] [] ?_
  refine rt ?_
  obtain rfl := os h
  exact rq [true]
 refine sN ?_
 refine sN ?_
 obtain ⟨a4,a5,h⟩ := Qdj h
 refine Wp.into (x := .normal) (mkS [(0,I op0),(1,I kid1),(12,.bool a4)] []) ?_ ?_
 ·replace h := a5
  rcases is h with ⟨a6,h⟩ | ⟨a6,h⟩
  ·refine rg hc none [oN,oN,oN,oN,oN,oT,oN] [(0,I op0),(1,I kid1),(12,.bool (decide (kid1 > 0)))] [] (ar 3 a6 tv) ?_
   obtain rfl := os h
   exact Qd5.mk
  refine rg hc none [oN,oN,oN,o_,o_,oF,oN] [(0,I op0),(1,I kid1),(12,.bool false)] [] (ar 2 (neT a6) (ai a6 tv)) ?_
  obtain rfl := os h
  exact Qd5.mk
 clear a5
 obtain ⟨a7,a8,h⟩ := Qdj h
 refine Wp.into (x := .normal) (mkS [(12,.bool a7)] []) ?_ ?_
 ·replace h := a8
  refine ic h (fun a9 h => ?_) fun a9 h => ?_
  ·refine sk ?_
   obtain rfl := os h
   exact iv []
  refine rs0 hc 3 [(0,I op0),(1,I kid1),(12,.bool (op0 == 9))] [] ?_
  obtain ⟨b1,b2,h⟩ := Qdj h
  refine Wp.into (x := .normal) (mkS [(12,.bool b1)] []) ?_ ?_
  ·replace h := b2
   refine ic h (fun b3 h => ?_) fun b3 h => ?_
   ·refine sk ?_
    obtain rfl := os h
    exact iv []
   obtain ⟨b4,b5,h⟩ := Qdj h
   refine Wp.into (x := .normal) (mkS [(12,.bool b4)] []) ?_ ?_
   ·replace h := b5
    rcases is h with ⟨b6,h⟩ | ⟨b6,h⟩
    ·refine rg hc none [oN,oN,oN,oN,oN,oT,oN] [(12,.bool (kid1 == 1))] [] (ar 3 b6 tv) ?_
     obtain rfl := os h
     exact Qd5.mk
    refine rg hc none [oN,oN,oN,o_,o_,oF,oN] [(12,.bool false)] [] (ar 2 (neT b6) (ai b6 tv)) ?_
    obtain rfl := os h
    exact Qd5.mk
   clear b5
   obtain rfl := os h
   exact Qd5.mk
  clear b2
  obtain rfl := os h
  exact Qd5.mk
 clear a8
 refine ic h (fun b7 h => ?_) fun b7 h => ?_
 ·refine rs0 hc 1 [(4,I 1)] [] ?_
  refine rt ?_
  obtain rfl := os h
  exact rq [true]
 refine sk ?_
 refine rs0 hc 1 [(4,I 0)] [] ?_
 refine rt ?_
 obtain rfl := os h
 exact rq [true]
def Kix (c : Ctx) : (Int) ⊕ (Int) → Exit → Q0a → Prop
 | .inl a0 => Qd5 c (.exit 1) (mkS [(4,I a0)] [])
 | .inr r => Qde TIx Tryz.f134 [] (I r)
mutual
def Kiy (p : K00 × Int × Int) : Option (Int) :=
 match p with
 | (t0,n1,nodes4) =>
  (Kif t0.fOp) >>= fun (a0,a1) =>
  ((
  if a1 = true then
  if (decide ((wr (nodes4 + 1)) > 400)) = true then
   some (true)
  else
   some (((t0.fKids.length : Int) != a0.fkids))
  else
  some (true)
  ) : Option (Bool)) >>= fun a2 =>
  if a2 = true then
  some 401
  else
  ((
  if (t0.fOp == 0) = true then
   (Kic (t0.fN,0,(wr (n1 - 1)))) >>= fun a3 =>
   some (a3)
  else
   ((
   if (t0.fOp == 1) = true then
   (Kic (t0.fN,0,2)) >>= fun a4 =>
   some (a4)
   else
   ((
   if a0.fgrade = true then
   (Kii t0.fN) >>= fun a5 =>
   some (a5)
   else
   some ((t0.fN == 0))
   ) : Option (Bool)) >>= fun a6 =>
   some (a6)
   ) : Option (Bool)) >>= fun a7 =>
   some (a7)
  ) : Option (Bool)) >>= fun a8 =>
  ((
  if a0.ftyped = true then
   ((
   if a8 = true then
   (Kir t0.fType) >>= fun a9 =>
   some (a9)
   else
   some (false)
   ) : Option (Bool)) >>= fun b1 =>
   some (b1)
  else
   ((
   if a8 = true then
   some (((t0.fType.length : Int) == 0))
   else
   some (false)
   ) : Option (Bool)) >>= fun b2 =>
   some (b2)
  ) : Option (Bool)) >>= fun b3 =>
  if b3 = true then
  (Kiz (t0,n1,(wr (nodes4 + 1)),0)) >>= fun fl => match fl with
  | .inl b4 =>
   some b4
  | .inr r =>
   some r
  else
  some 401
 partial_fixpoint
def Kiz (p : K00 × Int × Int × Int) : Option ((Int) ⊕ (Int)) :=
 match p with
 | (t0,n1,a0,a1) =>
  if (decide (a1 < (t0.fKids.length : Int))) = true then
  (idx t0.fKids a1) >>= fun a2 =>
  (Kiu (t0.fOp,a1)) >>= fun a3 =>
  (Kiy (a2,(wr (n1 + a3)),a0)) >>= fun a4 =>
  if (decide (a4 > 400)) = true then
  some (.inr 401)
  else
  Kiz (t0,n1,a4,(wr (a1 + 1)))
  else
  some (.inl a0)
 partial_fixpoint
end
def Kj0 (p : K00 × Int × Int) (r : Int) : Prop :=
 match p with
 | (t0,n1,nodes4) => Q75 Tryz.prog 134 [K1d t0,I n1,.fn 189 [],.fn 159 [],I nodes4] (I r) []
def Kj1 (p : K00 × Int × Int × Int) (fl : (Int) ⊕ (Int)) : Prop :=
 match p with
 | (t0,n1,a0,a1) => ∀ c : Ctx,c.nt = 104 → WpL Tryz.prog c (cl (cl (cr (cl (cr (cr (cr (cr (cr (cr (cr K6i))))))))))) (Kix c fl) (mkS [(1,I n1),(2,.fn 189 []),(3,.fn 159 []),(4,I a0),(5,.ra 1 0),(82,.sl (List.map K05 t0.fKids)),(83,I (t0.fKids.length : Int)),(84,I a1)] [(1,K1c t0)])
theorem Kj2 : (∀ p r,Kiy p = some r → Kj0 p r) ∧ (∀ p r,Kiz p = some r → Kj1 p r) := by
 refine Kiy.mutual_partial_correctness Kj0 Kj1 ?_ ?_
 ·rintro impl_check_Kimpl_writtenSize_c1_Kimpl_isWrittenType_l0_f impl_check_Kimpl_writtenSize_c1_Kimpl_isWrittenType_l0_ih ⟨t0,n1,nodes4⟩ r h
  refine b0 Tryz.f134 K6i 104 [(0,K1d t0),(1,I n1),(2,.fn 189 []),(3,.fn 159 []),(4,I nodes4)] fun c hc => ?_
  refine rs hc none [some (.new 1),oN] [(1,I n1),(2,.fn 189 []),(3,.fn 159 []),(4,I nodes4),(5,.ra 1 0)] [(1,K1c t0)] tv ?_
  refine K7p hc 3 [(1,I n1),(2,.fn 189 []),(3,.fn 159 []),(4,I (wr (nodes4 + 1))),(5,.ra 1 0)] ?_
  obtain ⟨⟨a0,a1⟩,a2,h⟩ := Qdj h
  refine rs hc none [oN,oN,oc (.tup [.agg [.str a0.fword,I a0.fkids,.bool a0.fgrade,.bool a0.ftyped],.bool a1]),oN,oN,oN,some (.new 2),oN,oN] [(1,I n1),(2,.fn 189 []),(3,.fn 159 []),(4,I (wr (nodes4 + 1))),(5,.ra 1 0),(11,.ra 2 0),(12,.bool a1)] [(1,K1c t0),(2,.box [.str a0.fword,I a0.fkids,.bool a0.fgrade,.bool a0.ftyped])] (cq (Kih _ _ a2) K67 tv) ?_
  refine sN ?_
  refine sN ?_
  obtain ⟨a3,a4,h⟩ := Qdj h
  refine Wp.into (x := .normal) (mkS [(1,I n1),(2,.fn 189 []),(3,.fn 159 []),(4,I (wr (nodes4 + 1))),(5,.ra 1 0),(11,.ra 2 0),(36,.bool a3)] [(1,K1c t0),(2,.box [.str a0.fword,I a0.fkids,.bool a0.fgrade,.bool a0.ftyped])]) ?_ ?_
  ·replace h := a4
   rcases is h with ⟨a5,h⟩ | ⟨a5,h⟩
   ·rcases is h with ⟨a6,h⟩ | ⟨a6,h⟩
    ·refine rgs hc none [oN,oN,oN,oN,oN,oF,oN,o_,o_,o_,o_,o_,o_,oT] [(1,I n1),(2,.fn 189 []),(3,.fn 159 []),(4,I (wr (nodes4 + 1))),(5,.ra 1 0),(11,.ra 2 0),(36,.bool true)] (ar 3 (nF a5) (ar 6 (neF a6) (ai a6 tv))) ?_
     obtain rfl := os h
     exact Qd5.mk
    refine rgs hc none [oN,oN,oN,oN,oN,oF,oN,oN,oN,some (.eqv (.no) ⟨[(32,I (t0.fKids.length : Int))],[],[]⟩),oN,oN,oN,oF] [(1,I n1),(2,.fn 189 []),(3,.fn 159 []),(4,I (wr (nodes4 + 1))),(5,.ra 1 0),(11,.ra 2 0),(36,.bool ((t0.fKids.length : Int) != a0.fkids))] (ar 3 (nF a5) (ar 3 a6 (ai (Qdp (d := 32) K05 t0.fKids) (ar 4 a6 tv)))) ?_
    obtain rfl := os h
    exact Qd5.mk
   refine rgs hc none [oN,oN,oN,o_,o_,oT,oN,o_,o_,o_,o_,o_,o_,oT] [(1,I n1),(2,.fn 189 []),(3,.fn 159 []),(4,I (wr (nodes4 + 1))),(5,.ra 1 0),(11,.ra 2 0),(36,.bool true)] (ar 2 (neF (nT a5)) (ai (nT a5) (ar 6 nf (ai tt tv)))) ?_
   obtain rfl := os h
   exact Qd5.mk
  clear a4
  refine ic h (fun a7 h => ?_) fun a7 h => ?_
  ·refine rs0 hc 1 [(10,I 401)] [] ?_
   refine rt ?_
   obtain rfl := os h
   exact rq [true]
  refine sk ?_
  refine sN ?_
  refine bk 0 ?_
  refine K7p hc 4 [(1,I n1),(2,.fn 189 []),(3,.fn 159 []),(4,I (wr (nodes4 + 1))),(5,.ra 1 0),(11,.ra 2 0),(40,.bool (t0.fOp == 0))] ?_
  obtain ⟨a8,a9,h⟩ := Qdj h
  refine Wp.into (x := .normal) (mkS [(1,I n1),(2,.fn 189 []),(3,.fn 159 []),(4,I (wr (nodes4 + 1))),(5,.ra 1 0),(11,.ra 2 0),(12,.bool a8)] [(1,K1c t0),(2,.box [.str a0.fword,I a0.fkids,.bool a0.fgrade,.bool a0.ftyped])]) ?_ ?_
  ·replace h := a9
   refine ic h (fun b1 h => ?_) fun b1 h => ?_
   ·obtain ⟨b2,b3,h⟩ := Qdj h
    refine rgs hc none [oN,oN,oN,oN,oc (.bool b2),oN] [(1,I n1),(2,.fn 189 []),(3,.fn 159 []),(4,I (wr (nodes4 + 1))),(5,.ra 1 0),(11,.ra 2 0),(12,.bool b2)] (cq (Kie _ _ b3) K65 tv) ?_
    obtain rfl := os h
    exact Qd5.mk
   refine K7p hc 4 [(1,I n1),(2,.fn 189 []),(3,.fn 159 []),(4,I (wr (nodes4 + 1))),(5,.ra 1 0),(11,.ra 2 0),(49,.bool (t0.fOp == 1))] ?_
   obtain ⟨b4,b5,h⟩ := Qdj h
   refine Wp.into (x := .normal) (mkS [(1,I n1),(2,.fn 189 []),(3,.fn 159 []),(4,I (wr (nodes4 + 1))),(5,.ra 1 0),(11,.ra 2 0),(12,.bool b4)] [(1,K1c t0),(2,.box [.str a0.fword,I a0.fkids,.bool a0.fgrade,.bool a0.ftyped])]) ?_ ?_
   ·replace h := b5
    refine ic h (fun b6 h => ?_) fun b6 h => ?_
    ·obtain ⟨b7,b8,h⟩ := Qdj h
     refine rgs hc none [oN,oN,oc (.bool b7),oN] [(1,I n1),(2,.fn 189 []),(3,.fn 159 []),(4,I (wr (nodes4 + 1))),(5,.ra 1 0),(11,.ra 2 0),(12,.bool b7)] (cq (Kie _ _ b8) K65 tv) ?_
     obtain rfl := os h
     exact Qd5.mk
    refine K7p hc 3 [(1,I n1),(2,.fn 189 []),(3,.fn 159 []),(4,I (wr (nodes4 + 1))),(5,.ra 1 0),(11,.ra 2 0),(56,.bool a0.fgrade)] ?_
    obtain ⟨b9,c0,h⟩ := Qdj h
    refine Wp.into (x := .normal) (mkS [(1,I n1),(2,.fn 189 []),(3,.fn 159 []),(4,I (wr (nodes4 + 1))),(5,.ra 1 0),(11,.ra 2 0),(12,.bool b9)] [(1,K1c t0),(2,.box [.str a0.fword,I a0.fkids,.bool a0.fgrade,.bool a0.ftyped])]) ?_ ?_
    ·replace h := c0
     refine ic h (fun c1 h => ?_) fun c1 h => ?_
     ·obtain ⟨c2,c3,h⟩ := Qdj h
      refine rgs hc none [oN,oN,oN,oc (.bool c2),oN] [(1,I n1),(2,.fn 189 []),(3,.fn 159 []),(4,I (wr (nodes4 + 1))),(5,.ra 1 0),(11,.ra 2 0),(12,.bool c2)] (cq (Kik _ _ c3) K69 tv) ?_
      obtain rfl := os h
      exact Qd5.mk
     refine K7o hc 4 [(1,I n1),(2,.fn 189 []),(3,.fn 159 []),(4,I (wr (nodes4 + 1))),(5,.ra 1 0),(11,.ra 2 0),(12,.bool (t0.fN == 0))] ?_
     obtain rfl := os h
     exact Qd5.mk
    clear c0
    obtain rfl := os h
    exact Qd5.mk
   clear b5
   obtain rfl := os h
   exact Qd5.mk
  clear a9
  refine sN ?_
  refine rs0 hc 2 [(1,I n1),(2,.fn 189 []),(3,.fn 159 []),(4,I (wr (nodes4 + 1))),(5,.ra 1 0),(12,.bool a8),(64,.bool a0.ftyped)] [(1,K1c t0)] ?_
  obtain ⟨c4,c5,h⟩ := Qdj h
  refine Wp.into (x := .normal) (mkS [(1,I n1),(2,.fn 189 []),(3,.fn 159 []),(4,I (wr (nodes4 + 1))),(5,.ra 1 0),(12,.bool c4)] [(1,K1c t0)]) ?_ ?_
  ·replace h := c5
   refine ic h (fun c6 h => ?_) fun c6 h => ?_
   ·obtain ⟨c7,c8,h⟩ := Qdj h
    refine Wp.into (x := .normal) (mkS [(1,I n1),(2,.fn 189 []),(3,.fn 159 []),(4,I (wr (nodes4 + 1))),(5,.ra 1 0),(12,.bool c7)] [(1,K1c t0)]) ?_ ?_
    ·replace h := c8
     rcases is h with ⟨c9,h⟩ | ⟨c9,h⟩
     ·obtain ⟨d0,d1,h⟩ := Qdj h
      refine rgs hc none [oN,oN,oN,oN,oN,oc (.bool d0),oT,oN] [(1,I n1),(2,.fn 189 []),(3,.fn 159 []),(4,I (wr (nodes4 + 1))),(5,.ra 1 0),(12,.bool d0)] (ar 4 c9 (cq (Kit _ _ d1) K6f (ai c9 tv))) ?_
      obtain rfl := os h
      exact Qd5.mk
     refine rgs hc none [oN,oN,o_,o_,o_,o_,oF,oN] [(1,I n1),(2,.fn 189 []),(3,.fn 159 []),(4,I (wr (nodes4 + 1))),(5,.ra 1 0),(12,.bool false)] (ar 4 (neT c9) (ai c9 tv)) ?_
     obtain rfl := os h
     exact Qd5.mk
    clear c8
    obtain rfl := os h
    exact Qd5.mk
   obtain ⟨d2,d3,h⟩ := Qdj h
   refine Wp.into (x := .normal) (mkS [(1,I n1),(2,.fn 189 []),(3,.fn 159 []),(4,I (wr (nodes4 + 1))),(5,.ra 1 0),(12,.bool d2)] [(1,K1c t0)]) ?_ ?_
   ·replace h := d3
    rcases is h with ⟨d4,h⟩ | ⟨d4,h⟩
    ·refine rgs hc none [oN,oN,oN,oN,some (.eqv (.no) ⟨[(76,I (t0.fType.length : Int))],[],[]⟩),oN,oT,oN] [(1,I n1),(2,.fn 189 []),(3,.fn 159 []),(4,I (wr (nodes4 + 1))),(5,.ra 1 0),(12,.bool ((t0.fType.length : Int) == 0))] (ar 3 d4 (ai (Qdp (d := 76) I t0.fType) (ar 2 d4 tv))) ?_
     obtain rfl := os h
     exact Qd5.mk
    refine rgs hc none [oN,oN,o_,o_,o_,o_,oF,oN] [(1,I n1),(2,.fn 189 []),(3,.fn 159 []),(4,I (wr (nodes4 + 1))),(5,.ra 1 0),(12,.bool false)] (ar 4 (neT d4) (ai d4 tv)) ?_
    obtain rfl := os h
    exact Qd5.mk
   clear d3
   obtain rfl := os h
   exact Qd5.mk
  clear c5
  refine sN ?_
  refine K7p hc 2 [(1,I n1),(2,.fn 189 []),(3,.fn 159 []),(4,I (wr (nodes4 + 1))),(5,.ra 1 0),(80,.bool (!c4))] ?_
  rcases is h with ⟨d5,h⟩ | ⟨d5,h⟩
  ·refine cF (!c4) (nF d5) ?_
   refine sk ?_
   refine sN ?_
   refine rss hc none [oN,oN,some (.eqv (.no) ⟨[(83,I (t0.fKids.length : Int))],[],[]⟩),oN] [(1,I n1),(2,.fn 189 []),(3,.fn 159 []),(4,I (wr (nodes4 + 1))),(5,.ra 1 0),(82,.sl (List.map K05 t0.fKids)),(83,I (t0.fKids.length : Int)),(84,I 0)] (ai (Qdp (d := 83) K05 t0.fKids) tv) ?_
   refine bk 1 ?_
   obtain ⟨fl,d6,h⟩ := Qdj h
   have hL := impl_check_Kimpl_writtenSize_c1_Kimpl_isWrittenType_l0_ih _ _ d6 c hc
   refine lp ?_
   rcases fl with d7 | r
   ·refine WpL.into (e := (.exit 1)) (mkS [(4,I d7)] []) hL ?_
    refine Qcx ?_
    refine rs0 hc 2 [(10,I d7)] [] ?_
    refine rt ?_
    obtain rfl := os h
    exact rq [true]
   refine WpL.mono hL ?_
   rintro _ _ ⟨rfl,hfin⟩
   obtain rfl := os h
   exact ⟨.inl rfl,hfin⟩
  refine cT (!c4) (nT d5) ?_
  refine rs0 hc 1 [(10,I 401)] [] ?_
  refine rt ?_
  obtain rfl := os h
  exact rq [true]
 ·rintro impl_check_Kimpl_writtenSize_c1_Kimpl_isWrittenType_f impl_check_Kimpl_writtenSize_c1_Kimpl_isWrittenType_l0_f impl_check_Kimpl_writtenSize_c1_Kimpl_isWrittenType_ih impl_check_Kimpl_writtenSize_c1_Kimpl_isWrittenType_l0_ih ⟨t0,n1,d8,d9⟩ r h
  intro c hc
  refine WpL.step ?_
  refine K7p hc 1 [(1,I n1),(2,.fn 189 []),(3,.fn 159 []),(4,I d8),(5,.ra 1 0),(82,.sl (List.map K05 t0.fKids)),(83,I (t0.fKids.length : Int)),(84,I d9),(85,.bool (decide (d9 < (t0.fKids.length : Int))))] ?_
  refine sN ?_
  refine ic h (fun e0 h => ?_) fun e0 h => ?_
  ·refine sk ?_
   refine sN ?_
   refine bk 2 ?_
   obtain ⟨e1,e2,h⟩ := Qdj h
   refine rs hc none [oN,some (.el (K1d e1)),oN,some (.new 4),oN,oN] [(1,I n1),(2,.fn 189 []),(3,.fn 159 []),(4,I d8),(5,.ra 1 0),(13,I d9),(14,.ra 4 0),(82,.sl (List.map K05 t0.fKids)),(83,I (t0.fKids.length : Int)),(84,I d9)] [(1,K1c t0),(4,K1c e1)] (ai (Qdn e2 (K0c e1)) tv) ?_
   obtain ⟨e3,e4,e5,e6,h⟩ := bq2 h
   refine rs hc (rx [[0],[0],[0],[0,2],[0],[0,2,3,4],[0,1,2,3,4,5],[0],[0],[0],[10],[11]]) [oN,oN,oN,oN,oN,oc (I e3),oN,oN,oN,oN,oc (I e5),oN] [(1,I n1),(2,.fn 189 []),(3,.fn 159 []),(4,I e5),(5,.ra 1 0),(82,.sl (List.map K05 t0.fKids)),(83,I (t0.fKids.length : Int)),(84,I d9)] [(1,K1c t0)] (cq (Kiw _ _ e4) K6h (cq (impl_check_Kimpl_writtenSize_c1_Kimpl_isWrittenType_ih _ _ e6) K6j tv)) ?_
   refine K7p hc 2 [(1,I n1),(2,.fn 189 []),(3,.fn 159 []),(4,I e5),(5,.ra 1 0),(82,.sl (List.map K05 t0.fKids)),(83,I (t0.fKids.length : Int)),(84,I d9),(101,.bool (decide (e5 > 400)))] ?_
   refine ic h (fun e7 h => ?_) fun e7 h => ?_
   ·refine rs0 hc 1 [(10,I 401)] [] ?_
    refine rt ?_
    obtain rfl := os h
    exact re [true]
   refine sk ?_
   refine K7o hc 2 [(1,I n1),(2,.fn 189 []),(3,.fn 159 []),(4,I e5),(5,.ra 1 0),(82,.sl (List.map K05 t0.fKids)),(83,I (t0.fKids.length : Int)),(84,I (wr (d9 + 1)))] ?_
   refine Qd1 ?_
   exact (impl_check_Kimpl_writtenSize_c1_Kimpl_isWrittenType_l0_ih _ _ h c hc)
  refine xt 1 ?_
  refine Qcv ?_
  refine Qd2 ?_
  obtain rfl := os h
  exact iv []
theorem Kj3 : ∀ p r,Kiy p = some r → Kj0 p r := Kj2.1
theorem Kj4 : ∀ p r,Kiz p = some r → Kj1 p r := Kj2.2
def Kj5 (t0 : K00) : Option (Int) :=
 (Kiy (t0,8,0)) >>= fun a0 =>
 some a0
def Kj6 (t0 : K00) (r : Int) : Prop :=
 Q75 Tryz.prog 112 [K1d t0] (I r) []
theorem Kj7 : ∀ p r,Kj5 p = some r → Kj6 p r := by
 rintro t0 r h
 unfold Kj5 at h
 refine b0 Tryz.f112 K6k 5 [(0,K1d t0)] fun c hc => ?_
 refine rs hc none [some (.new 1),oN] [(1,.ra 1 0)] [(1,K1c t0)] tv ?_
 obtain ⟨a0,a1,h⟩ := Qdj h
 refine rs hc none [oN,oc (I a0),oN] [(2,I a0)] [] (cq (Kj3 _ _ a1) K6j tv) ?_
 refine rt ?_
 obtain rfl := os h
 exact rq [true]
def Kj8 (t0 : K00) : Option (Bool) :=
 (Kj5 t0) >>= fun a0 =>
 some (decide (a0 ≤ 400))
def Kj9 (t0 : K00) (r : Bool) : Prop :=
 Q75 Tryz.prog 40 [K1d t0] (.bool r) []
theorem Kja : ∀ p r,Kj8 p = some r → Kj9 p r := by
 rintro t0 r h
 unfold Kj8 at h
 refine b0 Tryz.f40 B40 6 [(0,K1d t0)] fun c hc => ?_
 refine rs hc none [some (.new 1),oN] [(1,.ra 1 0)] [(1,K1c t0)] tv ?_
 obtain ⟨a0,a1,h⟩ := Qdj h
 refine rs hc none [oN,oc (I a0),oN,oN] [(2,.bool (decide (a0 ≤ 400)))] [] (cq (Kj7 _ _ a1) K6l tv) ?_
 refine rt ?_
 obtain rfl := os h
 exact rq [true]
def Kjb (s0 : (List Int)) : Option ((List Int)) :=
 (Qdw (([] : List Int).length + s0.length) 8) >>= fun _ =>
 some s0
def Kjc (s0 : (List Int)) (r : (List Int)) : Prop :=
 Q75 Tryz.prog 88 [sI s0] (oI r) []
theorem Kjd : ∀ p r,Kjb p = some r → Kjc p r := by
 rintro s0 r h
 unfold Kjb at h
 refine b0 Tryz.f88 B88 8 [(0,sI s0)] fun c hc => ?_
 refine rs0 hc 1 [(0,sI s0)] [] ?_
 refine sN ?_
 refine rs0 hc 2 [(0,sI s0),(4,.nilq (List.map I s0))] [] ?_
 refine Wp.condNil (xs := List.map I s0) (by kernel_rfl) (by kernel_rfl) (fun hn => ?_) ?_
 ·replace hn := List.map_eq_nil_iff.1 hn
  replace h : (some []) = some r := by rw [hn] at h; simpa [Qdw,chk] using h
  refine rs0 hc 1 [(2,.nils)] [] ?_
  refine rt ?_
  obtain rfl := os h
  exact rq [true]
 refine sk ?_
 obtain ⟨_,a0,h⟩ := Qdj h
 refine rs hc none [some (.mk 1 true),oN,some (.eqv (.mk 2 true) ⟨[(7,.rs 2)],[(2,some (rI s0)),(1,none)],[2]⟩),oN] [(2,.rs 2)] [(2,rI s0)] (ab (congrArg (fun z => (⟨[(7,.rs 2)],[(2,some (.arr z)),(1,none)],[2]⟩ : Wr)) (List.nil_append _ : [] ++ (List.map I s0) = List.map I s0)) (Qdx (enc1 := I) (enc2 := I) (e1 := []) (e2 := s0) (sz := 1) Qe6 Qe6 a0) tv) ?_
 refine rt ?_
 obtain rfl := os h
 exact rq [true]
def Kje (c : Ctx) (t0 : K00) (a0 : List Int) : (List K00) → Exit → Q0a → Prop
 | a1 => Qd5 c (.exit 0) (mkS [(2,.ra 2 0),(3,.ra 4 0)] [(2,.box [I 0,I 0,.nils,.nils]),(3,rI a0),(4,.box [I t0.fOp,I t0.fN,.rs 3,.rs 10]),(10,.arr (List.map K08 a1))])
end Go.Am
