/- Walks, printed. -/
import Derived.Test.YtckgdfakjjdodaaGreatGCONF6
set_option linter.unusedVariables false
set_option linter.unusedSimpArgs false
set_option maxRecDepth 100000
namespace Go.Am
open Go Go.Proofs
def Kh0 (p : K01 × (List K00) × Int) : Option (List K00 × K01) :=
 match p with
 | (c0,xs,ix) =>
  (idx xs ix) >>= fun e0 =>
  ((
  if (decide ((e0.fKids.length : Int) > 0)) = true then
  (K8h (c0,3)) >>= fun (a0,a1) =>
  some ((a1.fb,a1.fi,a1.fh,(decide (a0 > 0))))
  else
  some ((c0.fb,c0.fi,c0.fh,false))
  ) : Option ((List Int) × Int × Int × Bool)) >>= fun (a2,a3,a4,a5) =>
  if a5 = true then
  (K8h ((K01.mk a2 a3 a4),(e0.fKids.length : Int))) >>= fun (a6,a7) =>
  (idx e0.fKids a6) >>= fun a8 =>
  (Kh0 (a7,e0.fKids,a6)) >>= fun (ks,c2) => some ((List.set xs (Int.toNat ix) (K00.mk e0.fOp e0.fN e0.fType ks)),c2)
  else
  (K8h ((K01.mk a2 a3 a4),6)) >>= fun (a9,b1) =>
  if (a9 == 0) = true then
  (K8h (b1,15)) >>= fun (b2,b3) =>
  some ((List.set xs (Int.toNat ix) (K00.mk (wr (b2 - 1)) e0.fN e0.fType e0.fKids)),b3)
  else
  ((
  if (a9 == 1) = true then
  some ((a9 == 1))
  else
  some ((a9 == 2))
  ) : Option (Bool)) >>= fun b4 =>
  if b4 = true then
  (Kgv (b1,[(-2),(-1),0,1,2,3,7,8,16])) >>= fun (b5,b6) =>
  some ((List.set xs (Int.toNat ix) (K00.mk e0.fOp b5 e0.fType e0.fKids)),b6)
  else
  if (a9 == 3) = true then
  (Kgv (b1,[0,1,35,99])) >>= fun (b7,b8) =>
  some ((List.set xs (Int.toNat ix) (K00.mk e0.fOp e0.fN [b7] e0.fKids)),b8)
  else
  if (a9 == 4) = true then
  (Qdw (e0.fKids.length + [(K00.mk 0 0 [] [])].length) 64) >>= fun _ =>
  (idx (e0.fKids ++ [(K00.mk 0 0 [] [])]) (e0.fKids.length : Int)) >>= fun b9 =>
  some ((List.set xs (Int.toNat ix) (K00.mk e0.fOp e0.fN e0.fType (List.set (e0.fKids ++ [(K00.mk 0 0 [] [])]) (Int.toNat (e0.fKids.length : Int)) (K00.mk 1 0 [] [])))),b1)
  else
  if (decide ((e0.fKids.length : Int) > 1)) = true then
  (idx e0.fKids 0) >>= fun c1 =>
  (idx e0.fKids 1) >>= fun c3 =>
  (idx e0.fKids 0) >>= fun c4 =>
  (idx (List.set e0.fKids (Int.toNat 0) c3) 1) >>= fun c5 =>
  some ((List.set xs (Int.toNat ix) (K00.mk e0.fOp e0.fN e0.fType (List.set (List.set e0.fKids (Int.toNat 0) c3) (Int.toNat 1) c1))),b1)
  else
  some (xs,b1)
 partial_fixpoint
def Kh1 (p : K01 × (List K00) × Int) (r : List K00 × K01) : Prop :=
 match p with
 | (c0,xs,ix) => ∀ c : Ctx,c.nt = 108 → ∀ (v4 v5 : Value) (e0 : K00),idx xs ix = some e0 → ∀ a w,SRx c (mkS [(0,.ra 1000 0),(4,.raw v4),(5,.raw v5),(6,.ea 1001 4 (Int.toNat ix) 0)] [(1000,K1e c0),(1001,.arx (List.map K08 xs) (Int.toNat ix) 3 1002),(1002,.arr (List.map K08 e0.fKids))]) a w → WpR Tryz.prog (cl (cl (cl (cr (cr (cr (cr K5l))))))) (Qf8 Tryz.prog c 0 (cl (cr (cr (cr (cr (cr K5l)))))) (mkS [(4,.raw v4),(5,.raw v5)] [(1000,.box [.sl (List.map U8 r.2.fb),I r.2.fi,I r.2.fh]),(1001,.arr (List.map K05 r.1))])) a w
theorem Kh2 : ∀ p r,Kh0 p = some r → Kh1 p r := by
 refine Kh0.partial_correctness Kh1 ?_
 rintro spec_dSpoil_l0_f spec_dSpoil_l0_ih ⟨c0,xs,ix⟩ r h
 intro c hc v4 v5 e0 he0 a w hs
 refine WpR.deep (σ := mkS [(0,.ra 1000 0),(4,.raw v4),(5,.raw v5),(6,.ea 1001 4 (Int.toNat ix) 0)] [(1000,K1e c0),(1001,.arx (List.map K08 xs) (Int.toNat ix) 3 1002),(1002,.arr (List.map K08 e0.fKids))]) ?_ hs
 clear hs a w
 obtain ⟨e0,he1,h⟩ := Qdj h
 obtain rfl := Option.some.inj (he0.symm.trans he1)
 refine sN ?_
 refine sN ?_
 obtain ⟨⟨a0,a4,a5,a6⟩,a7,h⟩ := Qdj h
 refine Wp.into (x := .normal) (mkS [(0,.ra 1000 0),(4,.raw v4),(5,.raw v5),(6,.ea 1001 4 (Int.toNat ix) 0),(24,.bool a6)] [(1000,.box [.sl (List.map U8 a0),I a4,I a5]),(1001,.arx (List.map K08 xs) (Int.toNat ix) 3 1002),(1002,.arr (List.map K08 e0.fKids))]) ?_ ?_
 ·replace h := a7
  rcases is h with ⟨a8,h⟩ | ⟨a8,h⟩
  ·obtain ⟨⟨a9,b1⟩,b2,h⟩ := Qdj h
   refine rg hc none [oN,oN,oN,some (.el (K1k e0)),some (.eqv (.no) ⟨[(18,I (e0.fKids.length : Int))],[],[]⟩),oN,oN,oN,some (.call (I a9) [.optr [.sl (List.map U8 b1.fb),I b1.fi,I b1.fh],.undef] 1),oN,oT] [(0,.ra 1000 0),(4,.raw v4),(5,.raw v5),(6,.ea 1001 4 (Int.toNat ix) 0),(24,.bool (decide (a9 > 0)))] [(1000,K1e b1),(1001,.arx (List.map K08 xs) (Int.toNat ix) 3 1002),(1002,.arr (List.map K08 e0.fKids))] (ab (And.intro (Qdn he0 (K0e e0)).2 (rfl : Int.toNat ix = Int.toNat ix)) (Qdp (d := 18) K08 e0.fKids) (ar 2 a8 (ab (K8j _ _ b2) K2h (ar 2 a8 tv)))) ?_
   obtain ⟨rfl,hq0⟩ := Prod.mk.inj (Option.some.inj h)
   obtain ⟨rfl,hq1⟩ := Prod.mk.inj (hq0)
   obtain ⟨rfl,rfl⟩ := Prod.mk.inj (hq1)
   exact Qd5.mk
  refine rgs hc none [oN,oN,oN,some (.el (K1k e0)),some (.eqv (.no) ⟨[(18,I (e0.fKids.length : Int))],[],[]⟩),oN,oN,o_,o_,o_,oF] [(0,.ra 1000 0),(4,.raw v4),(5,.raw v5),(6,.ea 1001 4 (Int.toNat ix) 0),(24,.bool false)] (ab (And.intro (Qdn he0 (K0e e0)).2 (rfl : Int.toNat ix = Int.toNat ix)) (Qdp (d := 18) K08 e0.fKids) (ar 3 (neT a8) (ai a8 tv))) ?_
  obtain ⟨rfl,hq0⟩ := Prod.mk.inj (Option.some.inj h)
  obtain ⟨rfl,hq1⟩ := Prod.mk.inj (hq0)
  obtain ⟨rfl,rfl⟩ := Prod.mk.inj (hq1)
  exact Qd5.mk
 clear a7
 refine ic h (fun b3 h => ?_) fun b3 h => ?_
 ·refine sk ?_
  refine bk 1 ?_
  obtain ⟨⟨b4,b5⟩,b6,h⟩ := Qdj h
  obtain ⟨b7,b8,h⟩ := Qdj h
  refine rg hc (rx [[0],[1],[2],[3],[0],[0],[0,5],[0,5,6],[0,5,6,7],[0,5,6,7,8],[0,4,5,6,7,8,9],[11],[12]]) [oN,oN,oN,some (.el (K1k e0)),oN,oN,oN,oN,some (.el (K1k e0)),some (.eqv (.no) ⟨[(34,I (e0.fKids.length : Int))],[],[]⟩),some (.call (I b4) [.optr [.sl (List.map U8 b5.fb),I b5.fi,I b5.fh],.undef] 1),oN,oN] [(0,.ra 1000 0),(4,.raw v4),(5,.raw v5),(6,.ea 1002 4 (Int.toNat b4) 0)] [(1000,K1e b5),(1001,.arx (List.map K08 xs) (Int.toNat ix) 3 1002),(1002,.arr (List.map K08 e0.fKids))] (ar 2 (And.intro (Qdn he0 (K0e e0)).2 (rfl : Int.toNat ix = Int.toNat ix)) (ad (Qdp (d := 34) K08 e0.fKids) (K8j _ _ b6) K2h (Qdo (enc := K08) b8) tv)) ?_
  obtain ⟨⟨ks,c2⟩,hz,h⟩ := Qdj h
  obtain rfl := os h
  intro a1 w1 hs1
  have hs2 := SRx.openL 1002 (Int.toNat b4) 3 8 [8,1000,1001,1002] (O' := [(8,.arr (List.map K08 b7.fKids)),(1000,K1e b5),(1001,.arx (List.map K08 xs) (Int.toNat ix) 3 1002),(1002,.arx (List.map K08 e0.fKids) (Int.toNat b4) 3 8)]) (xs := List.map K08 e0.fKids) (ys := List.map K08 b7.fKids) (x0 := K1k b7) hs1 (by kernel_rfl) (Qdn b8 (K0e b7)).2 (by kernel_rfl) (by kernel_rfl) (by kernel_rfl)
  obtain ⟨c',hc',hz1,hout⟩ := SRx.zoomB (T' := [(0,.ra 1000 0),(4,.raw v4),(5,.raw v5),(6,.ea 1001 4 (Int.toNat b4) 0)]) (O' := [(1000,K1e b5),(1001,.arx (List.map K08 e0.fKids) (Int.toNat b4) 3 1002),(1002,.arr (List.map K08 b7.fKids))]) [(1000,1000),(1001,1002),(1002,8)] hs2 (by intro p hp; simp only [List.mem_cons,List.not_mem_nil,or_false] at hp; rcases hp with rfl | rfl | rfl | rfl <;> exact .inr (by kernel_rfl)) (by kernel_rfl) (by kernel_rfl)
  refine WpR.mono (spec_dSpoil_l0_ih _ _ hz c' (hc'.trans hc) v4 v5 b7 b8 a1 w1 hz1) (fun e a2 w2 hd => Qf8.mono (fun a3 w3 h3 => ?_) hd)
  have h4 := hout a3 w3 [(4,.raw v4),(5,.raw v5)] [(1000,K1e c2),(1001,.arr (List.map K05 ks))] h3 (by kernel_rfl) [(4,.raw v4),(5,.raw v5)] [(1000,K1e c2),(1001,.arx (List.map K08 xs) (Int.toNat ix) 3 1002),(1002,.arr (List.map K05 ks))] (by intro p hp; simp only [List.mem_cons,List.not_mem_nil,or_false] at hp; rcases hp with rfl | rfl <;> exact .inl ⟨rfl,by kernel_rfl⟩) (by intro p hp; simp only [List.mem_cons,List.not_mem_nil,or_false] at hp; rcases hp with rfl | rfl | rfl <;> first | exact .inr ⟨1000,rfl,rfl⟩ | exact .inr ⟨1001,rfl,rfl⟩ | exact .inl ⟨rfl,by kernel_rfl⟩)
  exact SRx.shareL 1001 [1000,1001] (xs := List.set (List.map K08 xs) (Int.toNat ix) (AV.agg [I e0.fOp,I e0.fN,oI e0.fType,.osl (List.map K05 ks)])) (xs' := List.map K05 (List.set xs (Int.toNat ix) (K00.mk e0.fOp e0.fN e0.fType ks))) (SRx.closeL 1001 (Int.toNat ix) 3 1002 [1000,1001] (O' := [(1000,K1e c2),(1001,.arr (List.set (List.map K08 xs) (Int.toNat ix) (AV.agg [I e0.fOp,I e0.fN,oI e0.fType,.osl (List.map K05 ks)])))]) (xs := List.map K08 xs) (ys := List.map K05 ks) (x0 := K1k e0) (x1 := AV.agg [I e0.fOp,I e0.fN,oI e0.fType,.osl (List.map K05 ks)]) h4 (by kernel_rfl) (by kernel_rfl) (by kernel_rfl) (Qdn he0 (K0e e0)).2 (by kernel_rfl) (by kernel_rfl) rfl (by kernel_rfl)) (by kernel_rfl) (Qfd (enc := K08) (enc' := K05) K14 (v := (K00.mk e0.fOp e0.fN e0.fType ks)) (x1 := AV.agg [I e0.fOp,I e0.fN,oI e0.fType,.osl (List.map K05 ks)]) (Kgy (K0z _))) (by kernel_rfl)
 refine xt 0 ?_
 refine Qcv ?_
 refine Qf9.exit ?_
 obtain ⟨⟨b9,c1⟩,c3,h⟩ := Qdj h
 refine rs hc none [oN,some (.call (I b9) [.optr [.sl (List.map U8 c1.fb),I c1.fi,I c1.fh],.undef] 1)] [(0,.ra 1000 0),(4,.raw v4),(5,.raw v5),(6,.ea 1001 4 (Int.toNat ix) 0),(38,I b9)] [(1000,K1e c1),(1001,.arx (List.map K08 xs) (Int.toNat ix) 3 1002),(1002,.arr (List.map K08 e0.fKids))] (ab (K8j _ _ c3) K2h tv) ?_
 refine bk 2 ?_
 refine K7w hc 2 [(0,.ra 1000 0),(4,.raw v4),(5,.raw v5),(6,.ea 1001 4 (Int.toNat ix) 0),(38,I b9),(68,.bool (b9 == 0))] ?_
 refine ic h (fun c4 h => ?_) fun c4 h => ?_
 ·refine Wp.view (fun a w hv => SRx.closeL 1001 (Int.toNat ix) 3 1002 [1000,1001] (xs := List.map K08 xs) (ys := List.map K08 e0.fKids) (x0 := K1k e0) (x1 := K1k e0) hv (by kernel_rfl) (by kernel_rfl) (by kernel_rfl) (Qdn he0 (K0e e0)).2 (by kernel_rfl) (by kernel_rfl) (Qfe (Qdn he0 (K0e e0)).2) (by kernel_rfl)) (?_ : Wp Tryz.prog c _ _ (mkS [(0,.ra 1000 0),(4,.raw v4),(5,.raw v5),(6,.ea 1001 4 (Int.toNat ix) 0),(38,I b9),(68,.bool (b9 == 0))] [(1000,K1e c1),(1001,.arr (List.map K08 xs))]))
  obtain ⟨⟨c5,c6⟩,c7,h⟩ := Qdj h
  refine rg hc none [oN,oN,some (.call (I c5) [.optr [.sl (List.map U8 c6.fb),I c6.fi,I c6.fh],.undef] 1),oN,oN,oN,some (.eqv (.el (K1k e0)) ⟨[],[(1001,some (.arr (List.map K08 (List.set xs (Int.toNat ix) (K00.mk (wr (c5 - 1)) e0.fN e0.fType e0.fKids)))))],[]⟩)] [(4,.raw v4),(5,.raw v5)] [(1000,K1e c6),(1001,.arr (List.map K08 (List.set xs (Int.toNat ix) (K00.mk (wr (c5 - 1)) e0.fN e0.fType e0.fKids))))] (ad (K8j _ _ c7) K2h (congrArg (fun z => (⟨[],[(1001,some (.arr z))],[]⟩ : Wr)) (Qem (enc := K08) (i := Int.toNat ix) (l := xs) (v := (K00.mk (wr (c5 - 1)) e0.fN e0.fType e0.fKids)) (x := AV.agg [I (wr (c5 - 1)),I e0.fN,oI e0.fType,.osl (List.map K08 e0.fKids)]) (K0e (K00.mk (wr (c5 - 1)) e0.fN e0.fType e0.fKids)))) (Qdn he0 (K0e e0)).2 tv) ?_
  obtain rfl := os h
  exact Qd5.view (fun a w hv => SRx.renL [] (SRx.shareL 1001 [1000,1001] (O' := [(1000,K1e c6),(1001,.arr (List.map K05 (List.set xs (Int.toNat ix) (K00.mk (wr (c5 - 1)) e0.fN e0.fType e0.fKids))))]) (xs := List.map K08 (List.set xs (Int.toNat ix) (K00.mk (wr (c5 - 1)) e0.fN e0.fType e0.fKids))) (xs' := List.map K05 (List.set xs (Int.toNat ix) (K00.mk (wr (c5 - 1)) e0.fN e0.fType e0.fKids))) hv (by kernel_rfl) (K14 _) (by kernel_rfl)) (by kernel_rfl) (by kernel_rfl) (by kernel_rfl))
 refine sN ?_
 refine K7w hc 2 [(0,.ra 1000 0),(4,.raw v4),(5,.raw v5),(6,.ea 1001 4 (Int.toNat ix) 0),(38,I b9),(76,.bool (b9 == 1))] ?_
 obtain ⟨c8,c9,h⟩ := Qdj h
 refine Wp.into (x := .normal) (mkS [(0,.ra 1000 0),(4,.raw v4),(5,.raw v5),(6,.ea 1001 4 (Int.toNat ix) 0),(38,I b9),(76,.bool c8)] [(1000,K1e c1),(1001,.arx (List.map K08 xs) (Int.toNat ix) 3 1002),(1002,.arr (List.map K08 e0.fKids))]) ?_ ?_
 ·replace h := c9
  refine ic h (fun d0 h => ?_) fun d0 h => ?_
  ·refine sk ?_
   obtain rfl := os h
   exact Qd5.mk
  refine K7v hc 2 [(0,.ra 1000 0),(4,.raw v4),(5,.raw v5),(6,.ea 1001 4 (Int.toNat ix) 0),(38,I b9),(76,.bool (b9 == 2))] ?_
  obtain rfl := os h
  exact Qd5.mk
 clear c9
 refine ic h (fun d1 h => ?_) fun d1 h => ?_
 ·refine Wp.view (fun a w hv => SRx.closeL 1001 (Int.toNat ix) 3 1002 [1000,1001] (xs := List.map K08 xs) (ys := List.map K08 e0.fKids) (x0 := K1k e0) (x1 := K1k e0) hv (by kernel_rfl) (by kernel_rfl) (by kernel_rfl) (Qdn he0 (K0e e0)).2 (by kernel_rfl) (by kernel_rfl) (Qfe (Qdn he0 (K0e e0)).2) (by kernel_rfl)) (?_ : Wp Tryz.prog c _ _ (mkS [(0,.ra 1000 0),(4,.raw v4),(5,.raw v5),(6,.ea 1001 4 (Int.toNat ix) 0),(38,I b9),(76,.bool c8)] [(1000,K1e c1),(1001,.arr (List.map K08 xs))]))
  obtain ⟨⟨d2,d3⟩,d4,h⟩ := Qdj h
  refine rg hc none [oN,oN,some (.call .undef [] 9),some (.call (I d2) [.optr [.sl (List.map U8 d3.fb),I d3.fi,I d3.fh],.undef] 1),oN,oN,some (.eqv (.el (K1k e0)) ⟨[],[(1001,some (.arr (List.map K08 (List.set xs (Int.toNat ix) (K00.mk e0.fOp d2 e0.fType e0.fKids)))))],[]⟩)] [(4,.raw v4),(5,.raw v5)] [(1000,K1e d3),(1001,.arr (List.map K08 (List.set xs (Int.toNat ix) (K00.mk e0.fOp d2 e0.fType e0.fKids))))] (ad (Kgx _ _ d4) K5k (congrArg (fun z => (⟨[],[(1001,some (.arr z))],[]⟩ : Wr)) (Qem (enc := K08) (i := Int.toNat ix) (l := xs) (v := (K00.mk e0.fOp d2 e0.fType e0.fKids)) (x := AV.agg [I e0.fOp,I d2,oI e0.fType,.osl (List.map K08 e0.fKids)]) (K0e (K00.mk e0.fOp d2 e0.fType e0.fKids)))) (Qdn he0 (K0e e0)).2 tv) ?_
  obtain rfl := os h
  exact Qd5.view (fun a w hv => SRx.renL [] (SRx.shareL 1001 [1000,1001] (O' := [(1000,K1e d3),(1001,.arr (List.map K05 (List.set xs (Int.toNat ix) (K00.mk e0.fOp d2 e0.fType e0.fKids))))]) (xs := List.map K08 (List.set xs (Int.toNat ix) (K00.mk e0.fOp d2 e0.fType e0.fKids))) (xs' := List.map K05 (List.set xs (Int.toNat ix) (K00.mk e0.fOp d2 e0.fType e0.fKids))) hv (by kernel_rfl) (K14 _) (by kernel_rfl)) (by kernel_rfl) (by kernel_rfl) (by kernel_rfl))
 refine K7w hc 2 [(0,.ra 1000 0),(4,.raw v4),(5,.raw v5),(6,.ea 1001 4 (Int.toNat ix) 0),(38,I b9),(85,.bool (b9 == 3))] ?_
 refine ic h (fun d5 h => ?_) fun d5 h => ?_
 ·refine Wp.view (fun a w hv => SRx.closeL 1001 (Int.toNat ix) 3 1002 [1000,1001] (xs := List.map K08 xs) (ys := List.map K08 e0.fKids) (x0 := K1k e0) (x1 := K1k e0) hv (by kernel_rfl) (by kernel_rfl) (by kernel_rfl) (Qdn he0 (K0e e0)).2 (by kernel_rfl) (by kernel_rfl) (Qfe (Qdn he0 (K0e e0)).2) (by kernel_rfl)) (?_ : Wp Tryz.prog c _ _ (mkS [(0,.ra 1000 0),(4,.raw v4),(5,.raw v5),(6,.ea 1001 4 (Int.toNat ix) 0),(38,I b9),(85,.bool (b9 == 3))] [(1000,K1e c1),(1001,.arr (List.map K08 xs))]))
  refine Wp.view (fun a w hv => SRx.shareL 1001 [1000,1001] (xs := List.map K08 xs) (xs' := List.map K05 xs) hv (by kernel_rfl) (K14 _) (by kernel_rfl)) (?_ : Wp Tryz.prog c _ _ (mkS [(0,.ra 1000 0),(4,.raw v4),(5,.raw v5),(6,.ea 1001 4 (Int.toNat ix) 0),(38,I b9),(85,.bool (b9 == 3))] [(1000,K1e c1),(1001,.arr (List.map K05 xs))]))
  obtain ⟨⟨d6,d7⟩,d8,h⟩ := Qdj h
  refine rg hc none [oN,oN,some (.call .undef [] 10),some (.call (I d6) [.optr [.sl (List.map U8 d7.fb),I d7.fi,I d7.fh],.undef] 1),some (.call .undef [] 11),oN,oN,some (.eqv (.el (K1d e0)) ⟨[],[(1001,some (.arr (List.map K05 (List.set xs (Int.toNat ix) (K00.mk e0.fOp e0.fN [d6] e0.fKids)))))],[]⟩)] [(4,.raw v4),(5,.raw v5)] [(1000,K1e d7),(1001,.arr (List.map K05 (List.set xs (Int.toNat ix) (K00.mk e0.fOp e0.fN [d6] e0.fKids))))] (ad (Kgx _ _ d8) K5k (congrArg (fun z => (⟨[],[(1001,some (.arr z))],[]⟩ : Wr)) (Qem (enc := K05) (i := Int.toNat ix) (l := xs) (v := (K00.mk e0.fOp e0.fN [d6] e0.fKids)) (x := AV.agg [I e0.fOp,I e0.fN,.sl (List.map I [d6]),.sl (List.map K05 e0.fKids)]) (K0c (K00.mk e0.fOp e0.fN [d6] e0.fKids)))) (Qdn he0 (K0c e0)).2 tv) ?_
  obtain rfl := os h
  exact Qd5.view (fun a w hv => SRx.renL [] (hv) (by kernel_rfl) (by kernel_rfl) (by kernel_rfl))
 refine K7w hc 2 [(4,.raw v4),(5,.raw v5),(6,.ea 1001 4 (Int.toNat ix) 0),(94,.bool (b9 == 4))] ?_
 refine ic h (fun d9 h => ?_) fun d9 h => ?_
 ·obtain ⟨_,e3,e4,e5,h⟩ := bq2 h
  refine rg hc (rx [[0],[1],[2],[3],[0],[4],[0],[7],[8],[9],[8],[8,10],[8,10,11]]) [oN,oN,oN,some (.el (K1k e0)),oN,some (.eqv (.no) ⟨[(101,I (e0.fKids.length : Int))],[],[]⟩),some (.eqv (.mk 12 true) ⟨[(102,.rs 12)],[(12,some (.arr (List.map K08 [(K00.mk 0 0 [] [])])))],[12]⟩),some (.eqv (.mk 13 true) ⟨[(103,.rs 13)],[(13,some (.arr (List.map K08 (e0.fKids ++ [(K00.mk 0 0 [] [])])))),(1002,none),(12,none)],[13]⟩),oN,some (.eqv (.mk 0 true) ⟨[],[(13,some (.arr (List.map K08 (List.set (e0.fKids ++ [(K00.mk 0 0 [] [])]) (Int.toNat (e0.fKids.length : Int)) (K00.mk 1 0 [] [])))))],[]⟩),oN,oN,some (.el (K1k e0))] [(4,.raw v4),(5,.raw v5)] [(13,.arr (List.map K08 (List.set (e0.fKids ++ [(K00.mk 0 0 [] [])]) (Int.toNat (e0.fKids.length : Int)) (K00.mk 1 0 [] [])))),(1000,K1e c1),(1001,.arx (List.map K08 xs) (Int.toNat ix) 3 13)] (ad (And.intro (Qdn he0 (K0e e0)).2 (rfl : Int.toNat ix = Int.toNat ix)) (Qdp (d := 101) K08 e0.fKids) (congrArg (fun z => (⟨[(102,.rs 12)],[(12,some (.arr z))],[12]⟩ : Wr)) ((Qeq (K0e (K00.mk 0 0 [] [])) Qep) : [AV.agg [I 0,I 0,AV.osl [],AV.osl []]] = List.map K08 [(K00.mk 0 0 [] [])])) (congrArg (fun z => (⟨[(103,.rs 13)],[(13,some (.arr z)),(1002,none),(12,none)],[13]⟩ : Wr)) ((List.map_append).symm : (List.map K08 e0.fKids) ++ (List.map K08 [(K00.mk 0 0 [] [])]) = List.map K08 (e0.fKids ++ [(K00.mk 0 0 [] [])]))) (ad (Qdx (enc1 := K08) (enc2 := K08) (e1 := e0.fKids) (e2 := [(K00.mk 0 0 [] [])]) (sz := 4) K11 K11 e3) (Qdo (enc := K08) e5) (congrArg (fun z => (⟨[],[(13,some (.arr z))],[]⟩ : Wr)) (Qem (enc := K08) (i := Int.toNat (e0.fKids.length : Int)) (l := (e0.fKids ++ [(K00.mk 0 0 [] [])])) (v := (K00.mk 1 0 [] [])) (x := AV.agg [I 1,I 0,AV.osl [],AV.osl []]) (K0e (K00.mk 1 0 [] [])))) (Qen (enc := K08) (sz := 4) K10 e5) (ai (And.intro (Qdn he0 (K0e e0)).2 (rfl : Int.toNat ix = Int.toNat ix)) tv))) ?_
  obtain rfl := os h
  exact Qd5.view (fun a w hv => SRx.renL [] (SRx.shareL 1001 [1000,1001] (O' := [(1000,K1e c1),(1001,.arr (List.map K05 (List.set xs (Int.toNat ix) (K00.mk e0.fOp e0.fN e0.fType (List.set (e0.fKids ++ [(K00.mk 0 0 [] [])]) (Int.toNat (e0.fKids.length : Int)) (K00.mk 1 0 [] []))))))]) (xs := List.set (List.map K08 xs) (Int.toNat ix) (AV.agg [I e0.fOp,I e0.fN,oI e0.fType,.osl (List.map K08 (List.set (e0.fKids ++ [(K00.mk 0 0 [] [])]) (Int.toNat (e0.fKids.length : Int)) (K00.mk 1 0 [] [])))])) (xs' := List.map K05 (List.set xs (Int.toNat ix) (K00.mk e0.fOp e0.fN e0.fType (List.set (e0.fKids ++ [(K00.mk 0 0 [] [])]) (Int.toNat (e0.fKids.length : Int)) (K00.mk 1 0 [] []))))) (SRx.closeL 1001 (Int.toNat ix) 3 13 [1000,1001] (O' := [(1000,K1e c1),(1001,.arr (List.set (List.map K08 xs) (Int.toNat ix) (AV.agg [I e0.fOp,I e0.fN,oI e0.fType,.osl (List.map K08 (List.set (e0.fKids ++ [(K00.mk 0 0 [] [])]) (Int.toNat (e0.fKids.length : Int)) (K00.mk 1 0 [] [])))])))]) (xs := List.map K08 xs) (ys := List.map K08 (List.set (e0.fKids ++ [(K00.mk 0 0 [] [])]) (Int.toNat (e0.fKids.length : Int)) (K00.mk 1 0 [] []))) (x0 := K1k e0) (x1 := AV.agg [I e0.fOp,I e0.fN,oI e0.fType,.osl (List.map K08 (List.set (e0.fKids ++ [(K00.mk 0 0 [] [])]) (Int.toNat (e0.fKids.length : Int)) (K00.mk 1 0 [] [])))]) hv (by kernel_rfl) (by kernel_rfl) (by kernel_rfl) (Qdn he0 (K0e e0)).2 (by kernel_rfl) (by kernel_rfl) rfl (by kernel_rfl)) (by kernel_rfl) (Qfd (enc := K08) (enc' := K05) K14 (v := (K00.mk e0.fOp e0.fN e0.fType (List.set (e0.fKids ++ [(K00.mk 0 0 [] [])]) (Int.toNat (e0.fKids.length : Int)) (K00.mk 1 0 [] [])))) (x1 := AV.agg [I e0.fOp,I e0.fN,oI e0.fType,.osl (List.map K08 (List.set (e0.fKids ++ [(K00.mk 0 0 [] [])]) (Int.toNat (e0.fKids.length : Int)) (K00.mk 1 0 [] [])))]) (Kgy (K14 _))) (by kernel_rfl)) (by kernel_rfl) (by kernel_rfl) (by kernel_rfl))
 refine rss hc none [oN,oN,oN,some (.el (K1k e0)),some (.eqv (.no) ⟨[(43,I (e0.fKids.length : Int))],[],[]⟩),oN] [(4,.raw v4),(5,.raw v5),(6,.ea 1001 4 (Int.toNat ix) 0),(44,.bool (decide ((e0.fKids.length : Int) > 1)))] (ab (And.intro (Qdn he0 (K0e e0)).2 (rfl : Int.toNat ix = Int.toNat ix)) (Qdp (d := 43) K08 e0.fKids) tv) ?_
 refine ic h (fun e6 h => ?_) fun e6 h => ?_
 ·refine sN ?_
  refine Wp.view (fun a w hv => SRx.shareL 1002 [1000,1001,1002] (xs := List.map K08 e0.fKids) (xs' := List.map K05 e0.fKids) hv (by kernel_rfl) (K14 _) (by kernel_rfl)) (?_ : Wp Tryz.prog c _ _ (mkS [(4,.raw v4),(5,.raw v5),(6,.ea 1001 4 (Int.toNat ix) 0),(44,.bool (decide ((e0.fKids.length : Int) > 1)))] [(1000,K1e c1),(1001,.arx (List.map K08 xs) (Int.toNat ix) 3 1002),(1002,.arr (List.map K05 e0.fKids))]))
  obtain ⟨e7,e8,h⟩ := Qdj h
  refine rg hc none [oN,oN,oN,some (.el (K1k e0)),oN,some (.el (K1d e7)),some (.new 14),oN] [(4,.raw v4),(5,.raw v5),(6,.ea 1001 4 (Int.toNat ix) 0),(7,.ra 14 0)] [(14,K1c e7),(1000,K1e c1),(1001,.arx (List.map K08 xs) (Int.toNat ix) 3 1002),(1002,.arr (List.map K05 e0.fKids))] (ac (And.intro (Qdn he0 (K0e e0)).2 (rfl : Int.toNat ix = Int.toNat ix)) (Qdo (enc := K05) e8) (Qdn e8 (K0c e7)).2 tv) ?_
  obtain ⟨e9,f0,f1,f2,h⟩ := bq2 h
  refine rs hc (rx [[0],[1],[2],[3],[0],[0,4],[0,4,5],[0,4,5,6],[0,4,5,6,7],[0,4,5,6,7,8],[10],[11]]) [oN,oN,oN,some (.el (K1k e0)),oN,oN,oN,some (.el (K1k e0)),oN,some (.el (K1d e9)),oN,some (.eqv (.mk 0 false) ⟨[],[(1002,some (.arr (List.map K05 (List.set e0.fKids (Int.toNat 0) e9))))],[]⟩)] [(4,.raw v4),(5,.raw v5),(6,.ea 1001 4 (Int.toNat ix) 0),(7,.ra 14 0)] [(14,K1c e7),(1000,K1e c1),(1001,.arx (List.map K08 xs) (Int.toNat ix) 3 1002),(1002,.arr (List.map K05 (List.set e0.fKids (Int.toNat 0) e9)))] (ar 2 (And.intro (Qdn he0 (K0e e0)).2 (rfl : Int.toNat ix = Int.toNat ix)) (ad (Qdo (enc := K05) f0) (Qdn f0 (K0c e9)).2 (Qdo (enc := K05) f2) (congrArg (fun z => (⟨[],[(1002,some (.arr z))],[]⟩ : Wr)) (Qem (enc := K05) (i := Int.toNat 0) (l := e0.fKids) (v := e9) (x := K1d e9) (K0c e9))) (ai (Qen (enc := K05) (sz := 4) K0x f2) tv))) ?_
  obtain ⟨f3,f4,h⟩ := Qdj h
  refine rg hc (rh [0,1,2,3,0,5,6]) [oN,oN,oN,some (.el (K1k e0)),oN,oN,some (.eqv (.mk 0 false) ⟨[],[(1002,some (.arr (List.map K05 (List.set (List.set e0.fKids (Int.toNat 0) e9) (Int.toNat 1) e7))))],[]⟩)] [(4,.raw v4),(5,.raw v5)] [(1000,K1e c1),(1001,.arx (List.map K08 xs) (Int.toNat ix) 3 1002),(1002,.arr (List.map K05 (List.set (List.set e0.fKids (Int.toNat 0) e9) (Int.toNat 1) e7)))] (ad (And.intro (Qdn he0 (K0e e0)).2 (rfl : Int.toNat ix = Int.toNat ix)) (Qdo (enc := K05) f4) (congrArg (fun z => (⟨[],[(1002,some (.arr z))],[]⟩ : Wr)) (Qem (enc := K05) (i := Int.toNat 1) (l := (List.set e0.fKids (Int.toNat 0) e9)) (v := e7) (x := K1d e7) (K0c e7))) (Qen (enc := K05) (sz := 4) K0x f4) tv) ?_
  obtain rfl := os h
  exact Qd5.view (fun a w hv => SRx.renL [] (SRx.shareL 1001 [1000,1001] (O' := [(1000,K1e c1),(1001,.arr (List.map K05 (List.set xs (Int.toNat ix) (K00.mk e0.fOp e0.fN e0.fType (List.set (List.set e0.fKids (Int.toNat 0) e9) (Int.toNat 1) e7)))))]) (xs := List.set (List.map K08 xs) (Int.toNat ix) (AV.agg [I e0.fOp,I e0.fN,oI e0.fType,.osl (List.map K05 (List.set (List.set e0.fKids (Int.toNat 0) e9) (Int.toNat 1) e7))])) (xs' := List.map K05 (List.set xs (Int.toNat ix) (K00.mk e0.fOp e0.fN e0.fType (List.set (List.set e0.fKids (Int.toNat 0) e9) (Int.toNat 1) e7)))) (SRx.closeL 1001 (Int.toNat ix) 3 1002 [1000,1001] (O' := [(1000,K1e c1),(1001,.arr (List.set (List.map K08 xs) (Int.toNat ix) (AV.agg [I e0.fOp,I e0.fN,oI e0.fType,.osl (List.map K05 (List.set (List.set e0.fKids (Int.toNat 0) e9) (Int.toNat 1) e7))])))]) (xs := List.map K08 xs) (ys := List.map K05 (List.set (List.set e0.fKids (Int.toNat 0) e9) (Int.toNat 1) e7)) (x0 := K1k e0) (x1 := AV.agg [I e0.fOp,I e0.fN,oI e0.fType,.osl (List.map K05 (List.set (List.set e0.fKids (Int.toNat 0) e9) (Int.toNat 1) e7))]) hv (by kernel_rfl) (by kernel_rfl) (by kernel_rfl) (Qdn he0 (K0e e0)).2 (by kernel_rfl) (by kernel_rfl) rfl (by kernel_rfl)) (by kernel_rfl) (Qfd (enc := K08) (enc' := K05) K14 (v := (K00.mk e0.fOp e0.fN e0.fType (List.set (List.set e0.fKids (Int.toNat 0) e9) (Int.toNat 1) e7))) (x1 := AV.agg [I e0.fOp,I e0.fN,oI e0.fType,.osl (List.map K05 (List.set (List.set e0.fKids (Int.toNat 0) e9) (Int.toNat 1) e7))]) (Kgy (K0z _))) (by kernel_rfl)) (by kernel_rfl) (by kernel_rfl) (by kernel_rfl))
 refine sk ?_
 obtain rfl := os h
 exact Qd5.view (fun a w hv => SRx.renL [] (SRx.shareL 1001 [1000,1001] (O' := [(1000,K1e c1),(1001,.arr (List.map K05 xs))]) (xs := List.set (List.map K08 xs) (Int.toNat ix) (K1k e0)) (xs' := List.map K05 xs) (SRx.closeL 1001 (Int.toNat ix) 3 1002 [1000,1001] (O' := [(1000,K1e c1),(1001,.arr (List.set (List.map K08 xs) (Int.toNat ix) (K1k e0)))]) (xs := List.map K08 xs) (ys := List.map K08 e0.fKids) (x0 := K1k e0) (x1 := K1k e0) hv (by kernel_rfl) (by kernel_rfl) (by kernel_rfl) (Qdn he0 (K0e e0)).2 (by kernel_rfl) (by kernel_rfl) rfl (by kernel_rfl)) (by kernel_rfl) ((Qfd (enc := K08) (enc' := K05) K14 (v := (K00.mk e0.fOp e0.fN e0.fType e0.fKids)) (x1 := K1k e0) (Kgy (K14 _))).trans (congrArg (List.map K05) ((congrArg (List.set xs (Int.toNat ix)) (Kgz e0)).trans (Qfe (Qdm he0).2)))) (by kernel_rfl)) (by kernel_rfl) (by kernel_rfl) (by kernel_rfl))
def Kh3 (p : K01 × K00) : Option (K00 × K01) :=
 match p with
 | (c0,t1) =>
  (K8k (c0,6)) >>= fun (a0,a1) =>
  if a0 = true then
  (Kez (t1,0,0)) >>= fun a2 =>
  (Kh0 (a1,[a2],0)) >>= fun (a3,a4) =>
  (idx a3 0) >>= fun a5 =>
  some (a5,a4)
  else
  some (t1,a1)
def Kh4 (p : K01 × K00) (r : K00 × K01) : Prop :=
 match p with
 | (c0,t1) => Q75 Tryz.prog 105 [.optr [.sl (List.map U8 c0.fb),I c0.fi,I c0.fh],K1d t1] (.agg [I r.1.fOp,I r.1.fN,.sl (List.map I r.1.fType),.sl (List.map K05 r.1.fKids)]) [.optr [.sl (List.map U8 r.2.fb),I r.2.fi,I r.2.fh],.undef]
theorem Kh5 : ∀ p r,Kh3 p = some r → Kh4 p r := by
 rintro ⟨c0,t1⟩ r h
 unfold Kh3 at h
 refine Q75.bodyO K28 (fn := Tryz.f105) (code := K5l) (by kernel_rfl) (by kernel_rfl) (by kernel_rfl) (nt := 108) (by kernel_rfl) (by kernel_rfl) (T := [(0,.ra 1000 0),(1,K1d t1)]) (O := [(1000,K1e c0)]) (by kernel_rfl) (by kernel_rfl) (fun c hc => ?_)
 refine rs hc none [some (.new 1),some (.new 2)] [(0,.ra 1000 0),(3,.ra 1 0),(4,.ra 2 0)] [(1,K1c t1),(2,.box [I 0,I 0,.nils,.nils]),(1000,K1e c0)] tv ?_
 refine sN ?_
 obtain ⟨⟨a0,a1⟩,a4,h⟩ := Qdj h
 refine rs hc none [oN,some (.call (.bool a0) [.optr [.sl (List.map U8 a1.fb),I a1.fi,I a1.fh],.undef] 1),oN] [(0,.ra 1000 0),(3,.ra 1 0),(4,.ra 2 0),(10,.bool (!a0))] [(1,K1c t1),(2,.box [I 0,I 0,.nils,.nils]),(1000,K1e a1)] (ab (K8m _ _ a4) K2i tv) ?_
 rcases is h with ⟨a5,h⟩ | ⟨a5,h⟩
 ·refine cF (!a0) (nF a5) ?_
  refine sk ?_
  obtain ⟨a6,a7,h⟩ := Qdj h
  refine rs hc none [oN,some (.call (K1k a6) [] 3),some (.new 5),oN] [(0,.ra 1000 0),(4,.ra 2 0),(5,.ra 5 0)] [(2,.box [I 0,I 0,.nils,.nils]),(3,rI a6.fType),(4,.arr (List.map K08 a6.fKids)),(5,.box [I a6.fOp,I a6.fN,.rs 3,.rs 4]),(1000,K1e a1)] (cq (Kf4 _ _ a7) K56 tv) ?_
  refine K7w hc 1 [(0,.ra 1000 0),(4,.ra 2 0),(5,.ra 5 0),(6,.ra 5 0)] ?_
  obtain ⟨⟨a8,a9⟩,b1,h⟩ := Qdj h
  refine Wp.view (fun a w hv => SRx.boxRowL 5 6 [2,6,1000] (cs := [I a6.fOp,I a6.fN,.rs 3,.rs 4]) (x1 := K08 a6) hv (by kernel_rfl) (by kernel_rfl) (by kernel_rfl) ((by kernel_rfl : _ = K1k a6).trans (K0e a6).symm) (by kernel_rfl) (by kernel_rfl)) (?_ : Wp Tryz.prog c _ _ (mkS [(0,.ra 1000 0),(4,.ra 2 0),(5,.ea 6 4 (Int.toNat 0) 0),(6,.ea 6 4 (Int.toNat 0) 0)] [(2,.box [I 0,I 0,.nils,.nils]),(6,.arr (List.map K08 [a6])),(1000,K1e a1)]))
  refine Wp.view (fun a w hv => SRx.openL 6 (Int.toNat 0) 3 7 [2,6,7,1000] (xs := List.map K08 [a6]) (ys := List.map K08 a6.fKids) (x0 := K1k a6) hv (by kernel_rfl) (Qdn (enc := K08) (i := 0) (l := [a6]) (x := K1k a6) rfl (K0e a6)).2 (by kernel_rfl) (by kernel_rfl) (by kernel_rfl)) (?_ : Wp Tryz.prog c _ _ (mkS [(0,.ra 1000 0),(4,.ra 2 0),(5,.ea 6 4 (Int.toNat 0) 0),(6,.ea 6 4 (Int.toNat 0) 0)] [(2,.box [I 0,I 0,.nils,.nils]),(6,.arx (List.map K08 [a6]) (Int.toNat 0) 3 7),(7,.arr (List.map K08 a6.fKids)),(1000,K1e a1)]))
  refine Wp.descend (mkS [(4,.ra 2 0),(5,.ea 6 4 (Int.toNat 0) 0)] [(2,.box [I 0,I 0,.nils,.nils]),(6,.arr (List.map K05 a8)),(1000,K1e a9)]) 0 (by kernel_rfl) (by kernel_rfl) (by kernel_rfl) (by kernel_rfl) (fun a w hv => ?_) ?_
  ·obtain ⟨c',hc',hz1,hout⟩ := SRx.zoomB (T' := [(0,.ra 1000 0),(4,.raw (a.tmps.getD 4 undef)),(5,.raw (a.tmps.getD 5 undef)),(6,.ea 1001 4 (Int.toNat 0) 0)]) (O' := [(1000,K1e a1),(1001,.arx (List.map K08 [a6]) (Int.toNat 0) 3 1002),(1002,.arr (List.map K08 a6.fKids))]) [(1000,1000),(1001,6),(1002,7)] hv
    (by intro p hp; simp only [List.mem_cons,List.not_mem_nil,or_false] at hp; rcases hp with rfl | rfl | rfl | rfl <;> first | exact .inl ⟨rfl,by kernel_rfl⟩ | exact .inr (by kernel_rfl)) (by kernel_rfl) (by kernel_rfl)
   refine WpR.mono (Kh2 _ _ b1 c' (hc'.trans hc) (a.tmps.getD 4 undef) (a.tmps.getD 5 undef) a6 rfl a w hz1) (fun e a2 w2 hd => Qf8.mono (fun a3 w3 h3 => ?_) hd)
   exact hout a3 w3 [(4,.raw (a.tmps.getD 4 undef)),(5,.raw (a.tmps.getD 5 undef))] [(1000,K1e a9),(1001,.arr (List.map K05 a8))] h3 (by kernel_rfl) [(4,.ra 2 0),(5,.ea 6 4 (Int.toNat 0) 0)] [(2,.box [I 0,I 0,.nils,.nils]),(6,.arr (List.map K05 a8)),(1000,K1e a9)] (by intro p hp; simp only [List.mem_cons,List.not_mem_nil,or_false] at hp; rcases hp with rfl | rfl <;> exact .inr ⟨rfl,rfl⟩) (by intro p hp; simp only [List.mem_cons,List.not_mem_nil,or_false] at hp; rcases hp with rfl | rfl | rfl <;> first | exact .inr ⟨1000,rfl,rfl⟩ | exact .inr ⟨1001,rfl,rfl⟩ | exact .inl ⟨rfl,by kernel_rfl⟩)
  obtain ⟨b2,b3,h⟩ := Qdj h
  refine rs hc none [some (.el (K1d b2)),oN] [(4,.ra 2 0)] [(2,K1c b2),(1000,K1e a9)] (ai (Qdn b3 (K0c b2)).2 tv) ?_
  refine rt ?_
  obtain rfl := os h
  exact Qdg.ret (fl := [false]) (by kernel_rfl)
 refine cT (!a0) (nT a5) ?_
 refine rs0 hc 2 [(4,.ra 2 0)] [(2,K1c t1),(1000,K1e a1)] ?_
 refine rt ?_
 obtain rfl := os h
 exact Qdg.ret (fl := [false]) (by kernel_rfl)
def Kh6 (p : K01 × Int) : Option (K00 × K01) :=
 match p with
 | (c0,deep1) =>
  (K8k (c0,2)) >>= fun (a0,a1) =>
  (Kga (a1,deep1,3,a0)) >>= fun (a2,a3,a4,a5) =>
  (K8k (a5,4)) >>= fun (a6,a7) =>
  ((
  if a6 = true then
  (Kgo (a7,a4)) >>= fun (a8,a9) =>
  some ((a9.fb,a9.fi,a9.fh,a8.fOp,a8.fN,a8.fType,a8.fKids))
  else
  some ((a7.fb,a7.fi,a7.fh,a4.fOp,a4.fN,a4.fType,a4.fKids))
  ) : Option ((List Int) × Int × Int × Int × Int × (List Int) × (List K00))) >>= fun (b1,b2,b3,b4,b5,b6,b7) =>
  (Kh3 ((K01.mk b1 b2 b3),(K00.mk b4 b5 b6 b7))) >>= fun (b8,b9) =>
  some (b8,b9)
def Kh7 (p : K01 × Int) (r : K00 × K01) : Prop :=
 match p with
 | (c0,deep1) => Q75 Tryz.prog 109 [.optr [.sl (List.map U8 c0.fb),I c0.fi,I c0.fh],I deep1] (.agg [I r.1.fOp,I r.1.fN,.sl (List.map I r.1.fType),.sl (List.map K05 r.1.fKids)]) [.optr [.sl (List.map U8 r.2.fb),I r.2.fi,I r.2.fh],.undef]
theorem Kh8 : ∀ p r,Kh6 p = some r → Kh7 p r := by
 rintro ⟨c0,deep1⟩ r h
 unfold Kh6 at h
 refine Q75.bodyO K28 (fn := Tryz.f109) (code := K5n) (by kernel_rfl) (by kernel_rfl) (by kernel_rfl) (nt := 25) (by kernel_rfl) (by kernel_rfl) (T := [(0,.ra 1000 0),(1,I deep1)]) (O := [(1000,K1e c0)]) (by kernel_rfl) (by kernel_rfl) (fun c hc => ?_)
 refine rs hc none [some (.new 1)] [(0,.ra 1000 0),(1,I deep1),(4,.ra 1 0)] [(1,.box [I 0,I 0,.nils,.nils]),(1000,K1e c0)] tv ?_
 obtain ⟨⟨a0,a1⟩,a2,h⟩ := Qdj h
 obtain ⟨⟨a3,a4,a5,a6⟩,a7,h⟩ := Qdj h
 refine rs hc none [oN,oN,oN,some (.call (.bool a0) [.optr [.sl (List.map U8 a1.fb),I a1.fi,I a1.fh],.undef] 1),some (.call (.tup [K1h a3,sL a4,K1d a5]) [.optr [.sl (List.map U8 a6.fb),I a6.fi,I a6.fh],.undef,.undef,.undef] 1),oN,oN,oN,oN,some (.new 2),some (.new 3),oN,oN,oN] [(0,.ra 1000 0),(4,.ra 1 0),(7,.ra 3 0)] [(1,.box [I 0,I 0,.nils,.nils]),(3,K1c a5),(1000,K1e a6)] (ad (K8m _ _ a2) K2i (Kgc _ _ a7) K5c tv) ?_
 refine sN ?_
 obtain ⟨⟨a8,a9⟩,b1,h⟩ := Qdj h
 refine rs hc none [oN,some (.call (.bool a8) [.optr [.sl (List.map U8 a9.fb),I a9.fi,I a9.fh],.undef] 1)] [(0,.ra 1000 0),(4,.ra 1 0),(7,.ra 3 0),(18,.bool a8)] [(1,.box [I 0,I 0,.nils,.nils]),(3,K1c a5),(1000,K1e a9)] (ab (K8m _ _ b1) K2i tv) ?_
 obtain ⟨⟨b2,b3,b4,b5,b6,b7,b8⟩,b9,h⟩ := Qdj h
 refine Wp.into (x := .normal) (mkS [(0,.ra 1000 0),(4,.ra 1 0),(7,.ra 3 0)] [(1,.box [I 0,I 0,.nils,.nils]),(3,.box [I b5,I b6,sI b7,.sl (List.map K05 b8)]),(1000,.box [.sl (List.map U8 b2),I b3,I b4])]) ?_ ?_
 ·replace h := b9
  refine ic h (fun c1 h => ?_) fun c1 h => ?_
  ·obtain ⟨⟨c2,c3⟩,c4,h⟩ := Qdj h
   refine rg hc none [oN,oN,some (.call (K1k c2) [.optr [.sl (List.map U8 c3.fb),I c3.fi,I c3.fh],.undef] 4),oN] [(0,.ra 1000 0),(4,.ra 1 0),(7,.ra 3 0)] [(1,.box [I 0,I 0,.nils,.nils]),(3,.box [I c2.fOp,I c2.fN,.rs 4,.rs 5]),(4,rI c2.fType),(5,.arr (List.map K08 c2.fKids)),(1000,K1e c3)] (ab (Kgt _ _ c4) K5i tv) ?_
   obtain ⟨rfl,hq0⟩ := Prod.mk.inj (Option.some.inj h)
   obtain ⟨rfl,hq1⟩ := Prod.mk.inj (hq0)
   obtain ⟨rfl,hq2⟩ := Prod.mk.inj (hq1)
   obtain ⟨rfl,hq3⟩ := Prod.mk.inj (hq2)
   obtain ⟨rfl,hq4⟩ := Prod.mk.inj (hq3)
   obtain ⟨rfl,rfl⟩ := Prod.mk.inj (hq4)
   exact Qd5.view (fun a w hv => SRx.renL [] (SRx.frzC 5 (xs := List.map K08 c2.fKids) (xs' := List.map K05 c2.fKids) (SRx.frzC 4 (xs := List.map I c2.fType) (xs' := List.map I c2.fType) hv (by kernel_rfl) (Qeb _)) (by kernel_rfl) (K14 _)) (by kernel_rfl) (by kernel_rfl) (by kernel_rfl))
  refine sk ?_
  obtain ⟨rfl,hq0⟩ := Prod.mk.inj (Option.some.inj h)
  obtain ⟨rfl,hq1⟩ := Prod.mk.inj (hq0)
  obtain ⟨rfl,hq2⟩ := Prod.mk.inj (hq1)
  obtain ⟨rfl,hq3⟩ := Prod.mk.inj (hq2)
  obtain ⟨rfl,hq4⟩ := Prod.mk.inj (hq3)
  obtain ⟨rfl,rfl⟩ := Prod.mk.inj (hq4)
  exact iv []
 clear b9
 obtain ⟨⟨c5,c6⟩,c7,h⟩ := Qdj h
 refine rs hc none [oN,oN,some (.call (K1d c5) [.optr [.sl (List.map U8 c6.fb),I c6.fi,I c6.fh],.undef] 1),oN] [(4,.ra 1 0)] [(1,K1c c5),(1000,K1e c6)] (ab (Kh5 _ _ c7) K5m tv) ?_
 refine rt ?_
 obtain rfl := os h
 exact Qdg.ret (fl := [false]) (by kernel_rfl)
def Kh9 (op0 : Int) : Option (Int) :=
 (K8n (op0,0,12)) >>= fun a0 =>
 if a0 = true then
 (idx [0,0,2,3,2,2,1,1,3,1,2,1,2] op0) >>= fun a1 =>
 some a1
 else
 some (-1)
def Kha (op0 : Int) (r : Int) : Prop :=
 Q75 Tryz.prog 227 [I op0] (I r) []
theorem Khb : ∀ p r,Kh9 p = some r → Kha p r := by
 rintro op0 r h
 unfold Kh9 at h
 refine b0 Tryz.f227 K5p 10 [(0,I op0)] fun c hc => ?_
 refine rs0 hc 1 [(0,I op0)] [] ?_
 refine sN ?_
 obtain ⟨a0,a1,h⟩ := Qdj h
 refine rs hc none [oN,oc (.bool a0),oN] [(0,I op0),(5,.bool (!a0))] [] (cq (K8p _ _ a1) K2k tv) ?_
 rcases is h with ⟨a2,h⟩ | ⟨a2,h⟩
 ·refine cF (!a0) (nF a2) ?_
  refine sk ?_
  obtain ⟨a3,a4,h⟩ := Qdj h
  refine rs hc none [some (.mk 1 true),oN,oN,some (.el (I a3)),oN] [(2,I a3)] [] (ab (Qdo (enc := I) a4) (ix a4).2 tv) ?_
  refine rt ?_
  obtain rfl := os h
  exact rq [true]
 refine cT (!a0) (nT a2) ?_
 refine rs0 hc 1 [(2,I (-1))] [] ?_
 refine rt ?_
 obtain rfl := os h
 exact rq [true]
def Khc (op0 : Int) : Option (Bool) :=
 ((
 if (op0 == 6) = true then
 some (true)
 else
 if (op0 == 7) = true then
 some (true)
 else
 some ((op0 == 9))
 ) : Option (Bool)) >>= fun a0 =>
 some a0
def Khd (op0 : Int) (r : Bool) : Prop :=
 Q75 Tryz.prog 228 [I op0] (.bool r) []
theorem Khe : ∀ p r,Khc p = some r → Khd p r := by
 rintro op0 r h
 unfold Khc at h
 refine b0 Tryz.f228 K5r 13 [(0,I op0)] fun c hc => ?_
 refine rs0 hc 1 [(0,I op0)] [] ?_
 refine sN ?_
 obtain ⟨a0,a1,h⟩ := Qdj h
 refine Wp.into (x := .normal) (mkS [(2,.bool a0)] []) ?_ ?_
 ·replace h := a1
  rcases is h with ⟨a2,h⟩ | ⟨a2,h⟩
  ·refine rg hc none [oN,oN,oN,o_,o_,oT,oN,o_,o_,oT,oN] [(2,.bool true)] [] (ar 2 (neF a2) (ai a2 (ar 2 nf (ai tt tv)))) ?_
   obtain rfl := os h
   exact Qd5.mk
  rcases is h with ⟨a3,h⟩ | ⟨a3,h⟩
  ·refine rg hc none [oN,oN,oN,oN,oN,oF,oN,o_,o_,oT,oN] [(2,.bool true)] [] (ar 3 a2 (ar 2 (neF a3) (ai a3 tv))) ?_
   obtain rfl := os h
   exact Qd5.mk
  refine rg hc none [oN,oN,oN,oN,oN,oF,oN,oN,oN,oF,oN] [(2,.bool (op0 == 9))] [] (ar 3 a2 (ar 3 a3 tv)) ?_
  obtain rfl := os h
  exact Qd5.mk
 clear a1
 refine rt ?_
 obtain rfl := os h
 exact rq [true]
def Khf (ty0 : (List Int)) : Option (Bool) :=
 ((
 if (decide ((ty0.length : Int) ≤ 40)) = true then
 (Kd0 (ty0,0)) >>= fun a0 =>
 if (a0 == (ty0.length : Int)) = true then
 some ((decide ((ty0.length : Int) > 0)))
 else
 some (false)
 else
 some (false)
 ) : Option (Bool)) >>= fun a1 =>
 some a1
def Khg (ty0 : (List Int)) (r : Bool) : Prop :=
 Q75 Tryz.prog 81 [sI ty0] (.bool r) []
theorem Khh : ∀ p r,Khf p = some r → Khg p r := by
 rintro ty0 r h
 unfold Khf at h
 refine b0 Tryz.f81 B81 18 [(0,sI ty0)] fun c hc => ?_
 refine rs0 hc 1 [(0,sI ty0)] [] ?_
 refine sN ?_
 obtain ⟨a0,a1,h⟩ := Qdj h
 refine Wp.into (x := .normal) (mkS [(2,.bool a0)] []) ?_ ?_
 ·replace h := a1
  rcases is h with ⟨a2,h⟩ | ⟨a2,h⟩
  ·obtain ⟨a3,a4,h⟩ := Qdj h
   rcases is h with ⟨a5,h⟩ | ⟨a5,h⟩
   ·refine rg hc none [oN,some (.eqv (.no) ⟨[(4,I (ty0.length : Int))],[],[]⟩),oN,oN,oN,oc (I a3),oN,some (.eqv (.no) ⟨[(10,I (ty0.length : Int))],[],[]⟩),oN,oT,oN,oN,some (.eqv (.no) ⟨[(15,I (ty0.length : Int))],[],[]⟩),oN,oT,oN] [(2,.bool (decide ((ty0.length : Int) > 0)))] [] (ai (Qdp (d := 4) I ty0) (ar 2 a2 (cq (Kd2 _ _ a4) K46 (ar 2 a2 (ai (Qdp (d := 10) I ty0) (ar 2 a2 (ar 2 a5 (ai (Qdp (d := 15) I ty0) (ar 2 a5 tv))))))))) ?_
    obtain rfl := os h
    exact Qd5.mk
   refine rg hc none [oN,some (.eqv (.no) ⟨[(4,I (ty0.length : Int))],[],[]⟩),oN,oN,oN,oc (I a3),oN,some (.eqv (.no) ⟨[(10,I (ty0.length : Int))],[],[]⟩),oN,oT,oN,o_,o_,o_,oF,oN] [(2,.bool false)] [] (ai (Qdp (d := 4) I ty0) (ar 2 a2 (cq (Kd2 _ _ a4) K46 (ar 2 a2 (ai (Qdp (d := 10) I ty0) (ar 2 a2 (ar 3 (neT a5) (ai a5 tv)))))))) ?_
   obtain rfl := os h
   exact Qd5.mk
  refine rg hc none [oN,some (.eqv (.no) ⟨[(4,I (ty0.length : Int))],[],[]⟩),oN,oN,o_,o_,o_,o_,o_,oF,oN,o_,o_,o_,oF,oN] [(2,.bool false)] [] (ai (Qdp (d := 4) I ty0) (ar 5 (neT a2) (ai a2 (ar 3 (neT (rfl : false = false)) (ai (rfl : false = false) tv))))) ?_
  obtain rfl := os h
  exact Qd5.mk
 clear a1
 refine rt ?_
 obtain rfl := os h
 exact rq [true]
def Khi (c : Ctx) (ty0 : List Int) (size1 : Int) (closed2 : Bool) (a0 : Int) : (Unit) ⊕ (Bool) → Exit → Q0a → Prop
 | .inl _ => Qd5 c .normal (mkS [(0,sI ty0),(1,I size1),(2,.bool closed2),(7,I a0)] [])
 | .inr r => Qde TIx Tryz.f82 [] (.bool r)
def Khj (c : Ctx) : (Unit) ⊕ (Bool) → Exit → Q0a → Prop
 | .inl _ => Qd5 c (.exit 0) (mkS [] [])
 | .inr r => Qde TIx Tryz.f82 [] (.bool r)
def Khk (p : (List Int) × Int × Bool × Int) : Option ((Unit) ⊕ (Bool)) :=
 match p with
 | (ty0,size1,closed2,a0) =>
  if (decide (a0 < (ty0.length : Int))) = true then
  ((
   (idx ty0 a0) >>= fun a1 =>
   (Kct a1) >>= fun a2 =>
   if (decide (a2 > 0)) = true then
   (idx ty0 a0) >>= fun a3 =>
   some ((decide (a3 > 2)))
   else
   some (false)
  ) : Option (Bool)) >>= fun a4 =>
  ((
   if a4 = true then
   (idx ty0 a0) >>= fun a5 =>
   (Kd9 a5) >>= fun a6 =>
   ((
   if (decide (a6 ≥ size1)) = true then
   some (true)
   else
   if closed2 = true then
   some ((decide (a6 < 0)))
   else
   some (false)
   ) : Option (Bool)) >>= fun a7 =>
   if a7 = true then
   some (.inr false)
   else
   some (.inl ())
   else
   some (.inl ())) : Option ((Unit) ⊕ (Bool))) >>= fun fl => match fl with
  | .inl () =>
   Khk (ty0,size1,closed2,(wr (a0 + 1)))
  | .inr r =>
   some (.inr r)
  else
  some (.inl ())
 partial_fixpoint
def Khl (p : (List Int) × Int × Bool × Int) (fl : (Unit) ⊕ (Bool)) : Prop :=
 match p with
 | (ty0,size1,closed2,a0) => ∀ c : Ctx,c.nt = 43 → WpL Tryz.prog c (cl (cl (cr (cl (cr B82))))) (Khj c fl) (mkS [(0,sI ty0),(1,I size1),(2,.bool closed2),(7,I a0)] [])
theorem Khm : ∀ p r,Khk p = some r → Khl p r := by
 refine Khk.partial_correctness Khl ?_
 rintro spec_l2Graded_l0_f spec_l2Graded_l0_ih ⟨ty0,size1,closed2,a0⟩ r h
 intro c hc
 refine WpL.step ?_
 refine sN ?_
 refine rs hc none [oN,oN,some (.eqv (.no) ⟨[(11,I (ty0.length : Int))],[],[]⟩),oN] [(0,sI ty0),(1,I size1),(2,.bool closed2),(7,I a0),(12,.bool (decide (a0 < (ty0.length : Int))))] [] (ai (Qdp (d := 11) I ty0) tv) ?_
 refine ic h (fun a1 h => ?_) fun a1 h => ?_
 ·refine sk ?_
  refine sN ?_
  refine bk 1 ?_
  refine sN ?_
  obtain ⟨a2,a3,h⟩ := Qdj h
  refine Wp.into (x := .normal) (mkS [(0,sI ty0),(1,I size1),(2,.bool closed2),(7,I a0),(27,.bool a2)] []) ?_ ?_
  ·replace h := a3
   obtain ⟨a4,a5,a6,a7,h⟩ := bq2 h
   rcases is h with ⟨a8,h⟩ | ⟨a8,h⟩
   ·obtain ⟨a9,b1,h⟩ := Qdj h
    refine rg hc none [oN,oN,some (.el (I a4)),oN,oc (I a6),oN,oN,oN,oN,some (.el (I a9)),oN,oN,oT] [(0,sI ty0),(1,I size1),(2,.bool closed2),(7,I a0),(27,.bool (decide (a9 > 2)))] [] (ai (ix a5) (cq (Kcv _ _ a7) K44 (ar 3 a8 (ai (ix b1) (ar 3 a8 tv))))) ?_
    obtain rfl := os h
    exact Qd5.mk
   refine rg hc none [oN,oN,some (.el (I a4)),oN,oc (I a6),oN,oN,o_,o_,o_,o_,o_,oF] [(0,sI ty0),(1,I size1),(2,.bool closed2),(7,I a0),(27,.bool false)] [] (ai (ix a5) (cq (Kcv _ _ a7) K44 (ar 5 (neT a8) (ai a8 tv)))) ?_
   obtain rfl := os h
   exact Qd5.mk
  clear a3
  obtain ⟨fl,b2,h⟩ := Qdj h
  refine flw (Khi c ty0 size1 closed2 a0 fl) ?_ (fun hF => ?_)
  ·replace h := b2
   refine ic h (fun b3 h => ?_) fun b3 h => ?_
   ·obtain ⟨b4,b5,b6,b7,h⟩ := bq2 h
    refine rs hc none [oN,oN,some (.el (I b4)),oN,oc (I b6),oN] [(0,sI ty0),(1,I size1),(2,.bool closed2),(7,I a0),(8,I b6)] [] (ai (ix b5) (cq (Kdb _ _ b7) K4c tv)) ?_
    refine sN ?_
    obtain ⟨b8,b9,h⟩ := Qdj h
    refine Wp.into (x := .normal) (mkS [(0,sI ty0),(1,I size1),(2,.bool closed2),(7,I a0),(42,.bool b8)] []) ?_ ?_
    ·replace h := b9
     rcases is h with ⟨c0,h⟩ | ⟨c0,h⟩
     ·refine rg hc none [oN,oN,oN,oN,o_,o_,o_,o_,o_,oT] [(0,sI ty0),(1,I size1),(2,.bool closed2),(7,I a0),(42,.bool true)] [] (ar 3 (neF c0) (ai c0 tv)) ?_
      obtain rfl := os h
      exact Qd5.mk
     rcases is h with ⟨c1,h⟩ | ⟨c1,h⟩
     ·refine rg hc none [oN,oN,oN,oN,oN,oN,oN,oN,oT,oF] [(0,sI ty0),(1,I size1),(2,.bool closed2),(7,I a0),(42,.bool (decide (b6 < 0)))] [] (ar 2 c0 (ar 2 c1 (ac c0 c1 c0 tv))) ?_
      obtain rfl := os h
      exact Qd5.mk
     refine rg hc none [oN,oN,oN,oN,oN,oN,o_,o_,oF,oF] [(0,sI ty0),(1,I size1),(2,.bool closed2),(7,I a0),(42,.bool false)] [] (ar 2 c0 (ar 2 (neT c1) (ac c0 c1 c0 tv))) ?_
     obtain rfl := os h
     exact Qd5.mk
    clear b9
    refine ic h (fun c2 h => ?_) fun c2 h => ?_
    ·refine rs0 hc 1 [(6,.bool false)] [] ?_
     refine rt ?_
     obtain rfl := os h
     exact re [true]
    refine sk ?_
    obtain rfl := os h
    exact iv []
   refine sk ?_
   obtain rfl := os h
   exact iv []
  rcases fl with ⟨⟩ | r
  ·refine Wp.into (x := .normal) (mkS [(0,sI ty0),(1,I size1),(2,.bool closed2),(7,I a0)] []) hF ?_
   refine rg0 hc 3 [(0,sI ty0),(1,I size1),(2,.bool closed2),(7,I (wr (a0 + 1)))] [] ?_
   refine Qd1 ?_
   exact (spec_l2Graded_l0_ih _ _ h c hc)
  refine Wp.mono hF ?_
  rintro _ _ ⟨rfl,hfin⟩
  obtain rfl := os h
  exact ⟨rfl,hfin⟩
 refine xt 0 ?_
 refine Qcv ?_
 refine Qd2 ?_
 obtain rfl := os h
 exact iv []
def Khn (p : (List Int) × Int × Bool) : Option (Bool) :=
 match p with
 | (ty0,size1,closed2) =>
  (Khk (ty0,size1,closed2,0)) >>= fun fl => match fl with
  | .inl () =>
   some true
  | .inr r =>
   some r
def Kho (p : (List Int) × Int × Bool) (r : Bool) : Prop :=
 match p with
 | (ty0,size1,closed2) => Q75 Tryz.prog 82 [sI ty0,I size1,.bool closed2] (.bool r) []
theorem Khp : ∀ p r,Khn p = some r → Kho p r := by
 rintro ⟨ty0,size1,closed2⟩ r h
 unfold Khn at h
 refine b0 Tryz.f82 B82 43 [(0,sI ty0),(1,I size1),(2,.bool closed2)] fun c hc => ?_
 refine rs0 hc 1 [(0,sI ty0),(1,I size1),(2,.bool closed2)] [] ?_
 refine sN ?_
 refine rs0 hc 1 [(0,sI ty0),(1,I size1),(2,.bool closed2),(7,I 0)] [] ?_
 refine bk 0 ?_
 obtain ⟨fl,a0,h⟩ := Qdj h
 have hL := Khm _ _ a0 c hc
 refine lp ?_
 rcases fl with ⟨⟩ | r
 ·refine WpL.into (e := (.exit 0)) (mkS [] []) hL ?_
  refine Qcx ?_
  refine rs0 hc 1 [(6,.bool true)] [] ?_
  refine rt ?_
  obtain rfl := os h
  exact rq [true]
 refine WpL.mono hL ?_
 rintro _ _ ⟨rfl,hfin⟩
 obtain rfl := os h
 exact ⟨.inl rfl,hfin⟩
def Khq (c : Ctx) (t0 : K00) (size2 : Int) (closed3 : Bool) : (Unit) ⊕ (Bool) → Exit → Q0a → Prop
 | .inl _ => Qd5 c .normal (mkS [(2,I size2),(3,.bool closed3),(4,.ra 1 0)] [(1,K1c t0)])
 | .inr r => Qde TIx Tryz.f190 [] (.bool r)
def Khr (c : Ctx) (t0 : K00) (size2 : Int) (closed3 : Bool) : (Unit) ⊕ (Bool) → Exit → Q0a → Prop
 | .inl _ => Qd5 c .normal (mkS [(2,I size2),(3,.bool closed3),(4,.ra 1 0)] [(1,K1c t0)])
 | .inr r => Qde TIx Tryz.f190 [] (.bool r)
def Khs (c : Ctx) (t0 : K00) (size2 : Int) (closed3 : Bool) : (Unit) ⊕ (Bool) → Exit → Q0a → Prop
 | .inl _ => Qd5 c .normal (mkS [(2,I size2),(3,.bool closed3),(4,.ra 1 0)] [(1,K1c t0)])
 | .inr r => Qde TIx Tryz.f190 [] (.bool r)
def Kht (p : K00 × Int × Int × Bool) : Option (Bool) :=
 match p with
 | (t0,n1,size2,closed3) =>
  (Kh9 t0.fOp) >>= fun a0 =>
  if ((t0.fKids.length : Int) != a0) = true then
  some false
  else
  ((
   if (t0.fOp == 0) = true then
   (K8n (t0.fN,0,(wr (n1 - 1)))) >>= fun a1 =>
   if a1 = true then
    some (.inl ())
   else
    some (.inr false)
   else
   ((
    if (t0.fOp == 1) = true then
    (K8n (t0.fN,0,2)) >>= fun a2 =>
    if a2 = true then
     some (.inl ())
    else
     some (.inr false)
    else
    (Kgd t0.fOp) >>= fun a3 =>
    ((
     if a3 = true then
     ((
     if (decide (t0.fN ≥ size2)) = true then
     some (true)
     else
     if (decide (t0.fN < (-1))) = true then
     some (true)
     else
     if closed3 = true then
     some ((decide (t0.fN < 0)))
     else
     some (false)
     ) : Option (Bool)) >>= fun a4 =>
     if a4 = true then
     some (.inr false)
     else
     some (.inl ())
     else
     if (t0.fN != 0) = true then
     some (.inr false)
     else
     some (.inl ())) : Option ((Unit) ⊕ (Bool))) >>= fun fl => match fl with
    | .inl () =>
     some (.inl ())
    | .inr r =>
     some (.inr r)) : Option ((Unit) ⊕ (Bool))) >>= fun fl => match fl with
   | .inl () =>
    some (.inl ())
   | .inr r =>
    some (.inr r)) : Option ((Unit) ⊕ (Bool))) >>= fun fl => match fl with
  | .inl () =>
   (Khc t0.fOp) >>= fun a5 =>
   if a5 = true then
   ((
    (Khf t0.fType) >>= fun a6 =>
    if a6 = true then
    (Khn (t0.fType,size2,closed3)) >>= fun a7 =>
    some (a7)
    else
    some (false)
   ) : Option (Bool)) >>= fun a8 =>
   some a8
   else
   some ((t0.fType.length : Int) == 0)
  | .inr r =>
   some r
def Khu (p : K00 × Int × Int × Bool) (r : Bool) : Prop :=
 match p with
 | (t0,n1,size2,closed3) => Q75 Tryz.prog 190 [K1d t0,I n1,I size2,.bool closed3] (.bool r) []
theorem Khv : ∀ p r,Kht p = some r → Khu p r := by
 rintro ⟨t0,n1,size2,closed3⟩ r h
 unfold Kht at h
 refine b0 Tryz.f190 K5v 76 [(0,K1d t0),(1,I n1),(2,I size2),(3,.bool closed3)] fun c hc => ?_
 refine rs hc none [some (.new 1),oN] [(1,I n1),(2,I size2),(3,.bool closed3),(4,.ra 1 0)] [(1,K1c t0)] tv ?_
 refine sN ?_
 obtain ⟨a0,a1,h⟩ := Qdj h
 refine rss hc (rx [[0],[1],[2],[0],[0,3],[0,3,4],[6]]) [oN,oN,some (.eqv (.no) ⟨[(11,I (t0.fKids.length : Int))],[],[]⟩),oN,oN,oc (I a0),oN] [(1,I n1),(2,I size2),(3,.bool closed3),(4,.ra 1 0),(15,.bool ((t0.fKids.length : Int) != a0))] (ai (Qdp (d := 11) K05 t0.fKids) (cq (Khb _ _ a1) K5q tv)) ?_
 refine ic h (fun a2 h => ?_) fun a2 h => ?_
 ·refine rs0 hc 1 [(8,.bool false)] [] ?_
  refine rt ?_
  obtain rfl := os h
  exact rq [true]
 refine sk ?_
 refine sN ?_
 refine bk 0 ?_
 refine K7w hc 4 [(1,I n1),(2,I size2),(3,.bool closed3),(4,.ra 1 0),(19,.bool (t0.fOp == 0))] ?_
 obtain ⟨fl,a3,h⟩ := Qdj h
 refine flw (Khs c t0 size2 closed3 fl) ?_ (fun hF => ?_)
 ·replace h := a3
  refine ic h (fun a4 h => ?_) fun a4 h => ?_
  ·obtain ⟨a5,a6,h⟩ := Qdj h
   refine rss hc none [oN,oN,oN,oN,oc (.bool a5),oN] [(2,I size2),(3,.bool closed3),(4,.ra 1 0),(28,.bool (!a5))] (cq (K8p _ _ a6) K2k tv) ?_
   rcases is h with ⟨a7,h⟩ | ⟨a7,h⟩
   ·refine cF (!a5) (nF a7) ?_
    refine sk ?_
    obtain rfl := os h
    exact iv []
   refine cT (!a5) (nT a7) ?_
   refine rs0 hc 1 [(8,.bool false)] [] ?_
   refine rt ?_
   obtain rfl := os h
   exact re [true]
  refine K7w hc 4 [(2,I size2),(3,.bool closed3),(4,.ra 1 0),(29,.bool (t0.fOp == 1))] ?_
  obtain ⟨fl,a8,h⟩ := Qdj h
  refine flw (Khr c t0 size2 closed3 fl) ?_ (fun hF => ?_)
  ·replace h := a8
   refine ic h (fun a9 h => ?_) fun a9 h => ?_
   ·obtain ⟨b1,b2,h⟩ := Qdj h
    refine rss hc none [oN,oN,oc (.bool b1),oN] [(2,I size2),(3,.bool closed3),(4,.ra 1 0),(36,.bool (!b1))] (cq (K8p _ _ b2) K2k tv) ?_
    rcases is h with ⟨b3,h⟩ | ⟨b3,h⟩
    ·refine cF (!b1) (nF b3) ?_
     refine sk ?_
     obtain rfl := os h
     exact iv []
    refine cT (!b1) (nT b3) ?_
    refine rs0 hc 1 [(8,.bool false)] [] ?_
    refine rt ?_
    obtain rfl := os h
    exact re [true]
   obtain ⟨b4,b5,h⟩ := Qdj h
   refine rss hc none [oN,oN,oc (.bool b4),oN] [(2,I size2),(3,.bool closed3),(4,.ra 1 0),(37,.bool b4)] (cq (Kgf _ _ b5) K5e tv) ?_
   obtain ⟨fl,b6,h⟩ := Qdj h
   refine flw (Khq c t0 size2 closed3 fl) ?_ (fun hF => ?_)
   ·replace h := b6
    refine ic h (fun b7 h => ?_) fun b7 h => ?_
    ·refine sN ?_
     obtain ⟨b8,b9,h⟩ := Qdj h
     refine Wp.into (x := .normal) (mkS [(2,I size2),(3,.bool closed3),(4,.ra 1 0),(57,.bool b8)] [(1,K1c t0)]) ?_ ?_
     ·replace h := b9
      rcases is h with ⟨c0,h⟩ | ⟨c0,h⟩
      ·refine rgs hc none [oN,oN,oN,oN,oN,o_,o_,o_,oT,oN,o_,o_,o_,o_,o_,o_,oT] [(2,I size2),(3,.bool closed3),(4,.ra 1 0),(57,.bool true)] (ar 3 (neF c0) (ai c0 (ar 3 nf (ai tt tv)))) ?_
       obtain rfl := os h
       exact Qd5.mk
      rcases is h with ⟨c1,h⟩ | ⟨c1,h⟩
      ·refine rgs hc none [oN,oN,oN,oN,oN,oN,oN,oN,oF,oN,o_,o_,o_,o_,o_,o_,oT] [(2,I size2),(3,.bool closed3),(4,.ra 1 0),(57,.bool true)] (ar 4 c0 (ar 3 (neF c1) (ai c1 tv))) ?_
       obtain rfl := os h
       exact Qd5.mk
      rcases is h with ⟨c2,h⟩ | ⟨c2,h⟩
      ·refine rgs hc none [oN,oN,oN,oN,oN,oN,oN,oN,oF,oN,oN,oN,oN,oN,oN,oT,oF] [(2,I size2),(3,.bool closed3),(4,.ra 1 0),(57,.bool (decide (t0.fN < 0)))] (ar 4 c0 (ar 2 c1 (ar 3 c2 (ac c1 c2 c1 tv)))) ?_
       obtain rfl := os h
       exact Qd5.mk
      refine rgs hc none [oN,oN,oN,oN,oN,oN,oN,oN,oF,oN,oN,oN,o_,o_,o_,oF,oF] [(2,I size2),(3,.bool closed3),(4,.ra 1 0),(57,.bool false)] (ar 4 c0 (ar 2 c1 (ar 3 (neT c2) (ac c1 c2 c1 tv)))) ?_
      obtain rfl := os h
      exact Qd5.mk
     clear b9
     refine ic h (fun c3 h => ?_) fun c3 h => ?_
     ·refine rs0 hc 1 [(8,.bool false)] [] ?_
      refine rt ?_
      obtain rfl := os h
      exact re [true]
     refine sk ?_
     obtain rfl := os h
     exact iv []
    refine K7w hc 3 [(2,I size2),(3,.bool closed3),(4,.ra 1 0),(18,.bool (t0.fN != 0))] ?_
    refine ic h (fun c4 h => ?_) fun c4 h => ?_
    ·refine rs0 hc 1 [(8,.bool false)] [] ?_
     refine rt ?_
     obtain rfl := os h
     exact re [true]
    refine sk ?_
    obtain rfl := os h
    exact iv []
   rcases fl with ⟨⟩ | r
   ·refine Wp.into (x := .normal) (mkS [(2,I size2),(3,.bool closed3),(4,.ra 1 0)] [(1,K1c t0)]) hF ?_
    obtain rfl := os h
    exact Qd5.mk
   refine Wp.mono hF ?_
   rintro _ _ ⟨rfl,hfin⟩
   obtain rfl := os h
   exact ⟨rfl,hfin⟩
  rcases fl with ⟨⟩ | r
  ·refine Wp.into (x := .normal) (mkS [(2,I size2),(3,.bool closed3),(4,.ra 1 0)] [(1,K1c t0)]) hF ?_
   obtain rfl := os h
   exact Qd5.mk
  refine Wp.mono hF ?_
  rintro _ _ ⟨rfl,hfin⟩
  obtain rfl := os h
  exact ⟨rfl,hfin⟩
 rcases fl with ⟨⟩ | r
 ·refine Wp.into (x := .normal) (mkS [(2,I size2),(3,.bool closed3),(4,.ra 1 0)] [(1,K1c t0)]) hF ?_
  refine sN ?_
  obtain ⟨c5,c6,h⟩ := Qdj h
  refine rss hc none [oN,oN,oc (.bool c5),oN] [(2,I size2),(3,.bool closed3),(4,.ra 1 0),(61,.bool (!c5))] (cq (Khe _ _ c6) K5s tv) ?_
  rcases is h with ⟨c7,h⟩ | ⟨c7,h⟩
  ·refine cF (!c5) (nF c7) ?_
   refine sk ?_
   refine sN ?_
   obtain ⟨c8,c9,h⟩ := Qdj h
   refine Wp.into (x := .normal) (mkS [(8,.bool c8)] []) ?_ ?_
   ·replace h := c9
    obtain ⟨d0,d1,h⟩ := Qdj h
    rcases is h with ⟨d2,h⟩ | ⟨d2,h⟩
    ·obtain ⟨d3,d4,h⟩ := Qdj h
     refine rg hc none [oN,oN,oc (.bool d0),oN,oN,oN,oN,oN,oc (.bool d3),oT,oN] [(8,.bool d3)] [] (cq (Khh _ _ d1) K5t (ar 5 d2 (cq (Khp _ _ d4) K5u (ai d2 tv)))) ?_
     obtain rfl := os h
     exact Qd5.mk
    refine rg hc none [oN,oN,oc (.bool d0),oN,o_,o_,o_,o_,o_,oF,oN] [(8,.bool false)] [] (cq (Khh _ _ d1) K5t (ar 5 (neT d2) (ai d2 tv))) ?_
    obtain rfl := os h
    exact Qd5.mk
   clear c9
   refine rt ?_
   obtain rfl := os h
   exact rq [true]
  refine cT (!c5) (nT c7) ?_
  refine rs hc none [oN,oN,some (.eqv (.no) ⟨[(64,I (t0.fType.length : Int))],[],[]⟩),oN,oN] [(8,.bool ((t0.fType.length : Int) == 0))] [] (ai (Qdp (d := 64) I t0.fType) tv) ?_
  refine rt ?_
  obtain rfl := os h
  exact rq [true]
 refine Wp.mono hF ?_
 rintro _ _ ⟨rfl,hfin⟩
 obtain rfl := os h
 exact ⟨.inl rfl,hfin⟩
def Khw (c : Ctx) : (Unit) ⊕ (Bool) → Exit → Q0a → Prop
 | .inl _ => Qd5 c (.exit 0) (mkS [] [])
 | .inr r => Qde TIx Tryz.f114 [] (.bool r)
mutual
def Khx (p : K00 × Int × Int × Bool) : Option (Bool) :=
 match p with
 | (t0,n1,size2,closed3) =>
  (Kht (t0,n1,size2,closed3)) >>= fun a0 =>
  if a0 = true then
  (Khy (t0,n1,size2,closed3,0)) >>= fun fl => match fl with
  | .inl () =>
   some true
  | .inr r =>
   some r
  else
  some false
 partial_fixpoint
def Khy (p : K00 × Int × Int × Bool × Int) : Option ((Unit) ⊕ (Bool)) :=
 match p with
 | (t0,n1,size2,closed3,a0) =>
  if (decide (a0 < (t0.fKids.length : Int))) = true then
  (idx t0.fKids a0) >>= fun a1 =>
  (Kev (t0.fOp,a0)) >>= fun a2 =>
  (Khx (a1,(wr (n1 + a2)),size2,closed3)) >>= fun a3 =>
  if a3 = true then
  Khy (t0,n1,size2,closed3,(wr (a0 + 1)))
  else
  some (.inr false)
  else
  some (.inl ())
 partial_fixpoint
end
def Khz (p : K00 × Int × Int × Bool) (r : Bool) : Prop :=
 match p with
 | (t0,n1,size2,closed3) => Q75 Tryz.prog 114 [K1d t0,I n1,I size2,.bool closed3] (.bool r) []
def Ki0 (p : K00 × Int × Int × Bool × Int) (fl : (Unit) ⊕ (Bool)) : Prop :=
 match p with
 | (t0,n1,size2,closed3,a0) => ∀ c : Ctx,c.nt = 38 → WpL Tryz.prog c (cl (cl (cr (cl (cr (cr K5x)))))) (Khw c fl) (mkS [(1,I n1),(2,I size2),(3,.bool closed3),(4,.ra 1 0),(9,I a0)] [(1,K1c t0)])
theorem Ki1 : (∀ p r,Khx p = some r → Khz p r) ∧ (∀ p r,Khy p = some r → Ki0 p r) := by
 refine Khx.mutual_partial_correctness Khz Ki0 ?_ ?_
 ·rintro spec_l2Term_l0_f spec_l2Term_l0_ih ⟨t0,n1,size2,closed3⟩ r h
  refine b0 Tryz.f114 K5x 38 [(0,K1d t0),(1,I n1),(2,I size2),(3,.bool closed3)] fun c hc => ?_
  refine rs hc none [some (.new 1),oN] [(1,I n1),(2,I size2),(3,.bool closed3),(4,.ra 1 0)] [(1,K1c t0)] tv ?_
  refine sN ?_
  obtain ⟨a0,a1,h⟩ := Qdj h
  refine rss hc none [oN,oN,oN,oN,oc (.bool a0),oN] [(1,I n1),(2,I size2),(3,.bool closed3),(4,.ra 1 0),(15,.bool (!a0))] (cq (Khv _ _ a1) K5w tv) ?_
  rcases is h with ⟨a2,h⟩ | ⟨a2,h⟩
  ·refine cF (!a0) (nF a2) ?_
   refine sk ?_
   refine sN ?_
   refine K7w hc 1 [(1,I n1),(2,I size2),(3,.bool closed3),(4,.ra 1 0),(9,I 0)] ?_
   refine bk 0 ?_
   obtain ⟨fl,a3,h⟩ := Qdj h
   have hL := spec_l2Term_l0_ih _ _ a3 c hc
   refine lp ?_
   rcases fl with ⟨⟩ | r
   ·refine WpL.into (e := (.exit 0)) (mkS [] []) hL ?_
    refine Qcx ?_
    refine rs0 hc 1 [(8,.bool true)] [] ?_
    refine rt ?_
    obtain rfl := os h
    exact rq [true]
   refine WpL.mono hL ?_
   rintro _ _ ⟨rfl,hfin⟩
   obtain rfl := os h
   exact ⟨.inl rfl,hfin⟩
  refine cT (!a0) (nT a2) ?_
  refine rs0 hc 1 [(8,.bool false)] [] ?_
  refine rt ?_
  obtain rfl := os h
  exact rq [true]
 ·rintro spec_l2Term_f spec_l2Term_l0_f spec_l2Term_ih spec_l2Term_l0_ih ⟨t0,n1,size2,closed3,a4⟩ r h
  intro c hc
  refine WpL.step ?_
  refine sN ?_
  refine rss hc none [oN,oN,oN,some (.eqv (.no) ⟨[(19,I (t0.fKids.length : Int))],[],[]⟩),oN] [(1,I n1),(2,I size2),(3,.bool closed3),(4,.ra 1 0),(9,I a4),(20,.bool (decide (a4 < (t0.fKids.length : Int))))] (ai (Qdp (d := 19) K05 t0.fKids) tv) ?_
  refine ic h (fun a5 h => ?_) fun a5 h => ?_
  ·refine sk ?_
   refine sN ?_
   refine bk 1 ?_
   obtain ⟨a6,a7,a8,a9,b1,b2,h⟩ := bq3 h
   refine rss hc (rx [[0],[1],[0],[3],[4],[0],[0],[0,6],[0],[0,6,7,8],[0,5,6,7,8,9],[0],[0],[13],[14]]) [oN,oN,oN,some (.el (K1d a6)),oN,oN,oN,oN,oN,oc (I a8),oN,oN,oN,oc (.bool b1),oN] [(1,I n1),(2,I size2),(3,.bool closed3),(4,.ra 1 0),(9,I a4),(37,.bool (!b1))] (ai (Qdn a7 (K0c a6)) (cq (Kex _ _ a9) K54 (cq (spec_l2Term_ih _ _ b2) K5y tv))) ?_
   rcases is h with ⟨b3,h⟩ | ⟨b3,h⟩
   ·refine cF (!b1) (nF b3) ?_
    refine sk ?_
    refine K7v hc 3 [(1,I n1),(2,I size2),(3,.bool closed3),(4,.ra 1 0),(9,I (wr (a4 + 1)))] ?_
    refine Qd1 ?_
    exact (spec_l2Term_l0_ih _ _ h c hc)
   refine cT (!b1) (nT b3) ?_
   refine rs0 hc 1 [(8,.bool false)] [] ?_
   refine rt ?_
   obtain rfl := os h
   exact re [true]
  refine xt 0 ?_
  refine Qcv ?_
  refine Qd2 ?_
  obtain rfl := os h
  exact iv []
theorem Ki2 : ∀ p r,Khx p = some r → Khz p r := Ki1.1
theorem Ki3 : ∀ p r,Khy p = some r → Ki0 p r := Ki1.2
def Ki4 (t0 : K00) : Option (Bool) :=
 ((
 (Kfw (t0,400)) >>= fun a0 =>
 if (decide (a0 ≥ 0)) = true then
 (Khx (t0,8,16,false)) >>= fun a1 =>
 some (a1)
 else
 some (false)
 ) : Option (Bool)) >>= fun a2 =>
 some a2
def Ki5 (t0 : K00) (r : Bool) : Prop :=
 Q75 Tryz.prog 41 [K1d t0] (.bool r) []
theorem Ki6 : ∀ p r,Ki4 p = some r → Ki5 p r := by
 rintro t0 r h
 unfold Ki4 at h
 refine b0 Tryz.f41 B41 10 [(0,K1d t0)] fun c hc => ?_
 refine rs hc none [some (.new 1),oN] [(1,.ra 1 0)] [(1,K1c t0)] tv ?_
 refine sN ?_
 obtain ⟨a0,a1,h⟩ := Qdj h
 refine Wp.into (x := .normal) (mkS [(2,.bool a0)] []) ?_ ?_
 ·replace h := a1
  obtain ⟨a2,a3,h⟩ := Qdj h
  rcases is h with ⟨a4,h⟩ | ⟨a4,h⟩
  ·obtain ⟨a5,a6,h⟩ := Qdj h
   refine rg hc none [oN,oc (I a2),oN,oN,oN,oc (.bool a5),oT,oN] [(2,.bool a5)] [] (cq (Kg1 _ _ a3) K58 (ar 2 a4 (cq (Ki2 _ _ a6) K5y (ai a4 tv)))) ?_
   obtain rfl := os h
   exact Qd5.mk
  refine rg hc none [oN,oc (I a2),oN,oN,o_,o_,oF,oN] [(2,.bool false)] [] (cq (Kg1 _ _ a3) K58 (ar 2 (neT a4) (ai a4 tv))) ?_
  obtain rfl := os h
  exact Qd5.mk
 clear a1
 refine rt ?_
 obtain rfl := os h
 exact rq [true]
def Ki7 (t0 : K00) : Option (Bool) :=
 if ((t0.fKids.length : Int) == 0) = true then
 some false
 else
 (idx t0.fKids 0) >>= fun a0 =>
 if (t0.fOp == 2) = true then
 ((
 if (a0.fOp == 1) = true then
 (idx t0.fKids 1) >>= fun a1 =>
 some ((a1.fOp == 1))
 else
 some (false)
 ) : Option (Bool)) >>= fun a2 =>
 some a2
 else
 if (t0.fOp == 3) = true then
 some (a0.fOp == 1)
 else
 if (t0.fOp == 10) = true then
 some (a0.fOp == 9)
 else
 if (t0.fOp == 5) = true then
 some (a0.fOp == 4)
 else
 if (t0.fOp == 8) = true then
 ((
 if (a0.fOp == 6) = true then
 some (true)
 else
 some ((a0.fOp == 7))
 ) : Option (Bool)) >>= fun a3 =>
 some a3
 else
 if (t0.fOp == 12) = true then
 some (a0.fOp == 11)
 else
 some false
def Ki8 (t0 : K00) (r : Bool) : Prop :=
 Q75 Tryz.prog 250 [K1d t0] (.bool r) []
theorem Ki9 : ∀ p r,Ki7 p = some r → Ki8 p r := by
 rintro t0 r h
 unfold Ki7 at h
 refine b0 Tryz.f250 K60 51 [(0,K1d t0)] fun c hc => ?_
 refine rs hc none [some (.new 1),oN] [(1,.ra 1 0)] [(1,K1c t0)] tv ?_
 refine sN ?_
 refine rss hc none [oN,oN,some (.eqv (.no) ⟨[(6,I (t0.fKids.length : Int))],[],[]⟩),oN] [(1,.ra 1 0),(7,.bool ((t0.fKids.length : Int) == 0))] (ai (Qdp (d := 6) K05 t0.fKids) tv) ?_
 refine ic h (fun a0 h => ?_) fun a0 h => ?_
 ·refine rs0 hc 1 [(2,.bool false)] [] ?_
  refine rt ?_
  obtain rfl := os h
  exact rq [true]
 refine sk ?_
 obtain ⟨a1,a2,h⟩ := Qdj h
 refine rss hc none [oN,oN,some (.el (K1d a1)),oN,oN,oN] [(1,.ra 1 0),(3,I a1.fOp)] (ai (Qdn a2 (K0c a1)) tv) ?_
 refine sN ?_
 refine K7w hc 2 [(1,.ra 1 0),(3,I a1.fOp),(14,I t0.fOp)] ?_
 refine bk 0 ?_
 refine K7w hc 2 [(1,.ra 1 0),(3,I a1.fOp),(14,I t0.fOp),(15,.bool (t0.fOp == 2))] ?_
 refine ic h (fun a3 h => ?_) fun a3 h => ?_
 ·refine sN ?_
  obtain ⟨a4,a5,h⟩ := Qdj h
  refine Wp.into (x := .normal) (mkS [(2,.bool a4)] []) ?_ ?_
  ·replace h := a5
   rcases is h with ⟨a6,h⟩ | ⟨a6,h⟩
   ·obtain ⟨a7,a8,h⟩ := Qdj h
    refine rg hc none [oN,oN,oN,oN,oN,some (.el (K1d a7)),oN,oN,oN,oT,oN] [(2,.bool (a7.fOp == 1))] [] (ar 3 a6 (ai (Qdn a8 (K0c a7)) (ar 4 a6 tv))) ?_
    obtain rfl := os h
    exact Qd5.mk
   refine rg hc none [oN,oN,oN,o_,o_,o_,o_,o_,o_,oF,oN] [(2,.bool false)] [] (ar 6 (neT a6) (ai a6 tv)) ?_
   obtain rfl := os h
   exact Qd5.mk
  clear a5
  refine rt ?_
  obtain rfl := os h
  exact rq [true]
 refine rs0 hc 2 [(3,I a1.fOp),(14,I t0.fOp),(27,.bool (t0.fOp == 3))] [] ?_
 refine ic h (fun a9 h => ?_) fun a9 h => ?_
 ·refine rs0 hc 3 [(2,.bool (a1.fOp == 1))] [] ?_
  refine rt ?_
  obtain rfl := os h
  exact rq [true]
 refine rs0 hc 2 [(3,I a1.fOp),(14,I t0.fOp),(31,.bool (t0.fOp == 10))] [] ?_
 refine ic h (fun b1 h => ?_) fun b1 h => ?_
 ·refine rs0 hc 3 [(2,.bool (a1.fOp == 9))] [] ?_
  refine rt ?_
  obtain rfl := os h
  exact rq [true]
 refine rs0 hc 2 [(3,I a1.fOp),(14,I t0.fOp),(35,.bool (t0.fOp == 5))] [] ?_
 refine ic h (fun b2 h => ?_) fun b2 h => ?_
 ·refine rs0 hc 3 [(2,.bool (a1.fOp == 4))] [] ?_
  refine rt ?_
  obtain rfl := os h
  exact rq [true]
 refine rs0 hc 2 [(3,I a1.fOp),(14,I t0.fOp),(39,.bool (t0.fOp == 8))] [] ?_
 refine ic h (fun b3 h => ?_) fun b3 h => ?_
 ·refine sN ?_
  obtain ⟨b4,b5,h⟩ := Qdj h
  refine Wp.into (x := .normal) (mkS [(2,.bool b4)] []) ?_ ?_
  ·replace h := b5
   rcases is h with ⟨b6,h⟩ | ⟨b6,h⟩
   ·refine rg hc none [oN,oN,oN,o_,o_,oT,oN] [(2,.bool true)] [] (ar 2 (neF b6) (ai b6 tv)) ?_
    obtain rfl := os h
    exact Qd5.mk
   refine rg hc none [oN,oN,oN,oN,oN,oF,oN] [(2,.bool (a1.fOp == 7))] [] (ar 3 b6 tv) ?_
   obtain rfl := os h
   exact Qd5.mk
  clear b5
  refine rt ?_
  obtain rfl := os h
  exact rq [true]
 refine rs0 hc 2 [(3,I a1.fOp),(47,.bool (t0.fOp == 12))] [] ?_
 refine ic h (fun b7 h => ?_) fun b7 h => ?_
 ·refine rs0 hc 3 [(2,.bool (a1.fOp == 11))] [] ?_
  refine rt ?_
  obtain rfl := os h
  exact rq [true]
 refine sk ?_
 refine rs0 hc 1 [(2,.bool false)] [] ?_
 refine rt ?_
 obtain rfl := os h
 exact rq [true]
def Kia (c : Ctx) : LL → Exit → Q0a → Prop
 | a0 => Qd5 c (.exit 0) (mkS [(5,.rs 5)] [(5,.arr (List.map K0m a0))])
mutual
def Kib (p : K00 × (List Int)) : Option (LL) :=
 match p with
 | (t0,path1) =>
  (Ki7 t0) >>= fun a0 =>
  ((
  if a0 = true then
  (Kd3 path1) >>= fun a1 =>
  (Qdw (([] : LL).length + [a1].length) 24) >>= fun _ =>
  some ([a1])
  else
  some ([])
  ) : Option (LL)) >>= fun a2 =>
  (Kic (t0,path1,a2,0)) >>= fun a3 =>
  some a3
 partial_fixpoint
def Kic (p : K00 × (List Int) × LL × Int) : Option (LL) :=
 match p with
 | (t0,path1,a0,a1) =>
  if (decide (a1 < (t0.fKids.length : Int))) = true then
  (idx t0.fKids a1) >>= fun a2 =>
  (Kd3 path1) >>= fun a3 =>
  (Qdw (a3.length + [a1].length) 8) >>= fun _ =>
  (Kib (a2,(a3 ++ [a1]))) >>= fun a4 =>
  (Qdw (a0.length + a4.length) 24) >>= fun _ =>
  Kic (t0,path1,(a0 ++ a4),(wr (a1 + 1)))
  else
  some (a0)
 partial_fixpoint
end
def Kid (p : K00 × (List Int)) (r : LL) : Prop :=
 match p with
 | (t0,path1) => Q75 Tryz.prog 230 [K1d t0,sI path1] (.osl (List.map K0m r)) []
def Kie (p : K00 × (List Int) × LL × Int) (fl : LL) : Prop :=
 match p with
 | (t0,path1,a0,a1) => ∀ c : Ctx,c.nt = 36 → WpL Tryz.prog c (cl (cl (cr (cl (cr (cr (cr K62))))))) (Kia c fl) (mkS [(1,sI path1),(2,.ra 1 0),(5,.rs 5),(6,I a1)] [(1,K1c t0),(5,.arr (List.map K0m a0))])
theorem Kif : (∀ p r,Kib p = some r → Kid p r) ∧ (∀ p r,Kic p = some r → Kie p r) := by
 refine Kib.mutual_partial_correctness Kid Kie ?_ ?_
 ·rintro spec_l4Paths_l0_f spec_l4Paths_l0_ih ⟨t0,path1⟩ r h
  refine b0 Tryz.f230 K62 36 [(0,K1d t0),(1,sI path1)] fun c hc => ?_
  refine rs hc none [some (.new 1),oN] [(1,sI path1),(2,.ra 1 0)] [(1,K1c t0)] tv ?_
  refine rs hc none [some (.mk 2 true),oN] [(1,sI path1),(2,.ra 1 0),(5,.rs 2)] [(1,K1c t0),(2,.arr (List.map K0m []))] tv ?_
  refine sN ?_
  obtain ⟨a0,a1,h⟩ := Qdj h
  refine rss hc none [oN,oc (.bool a0)] [(1,sI path1),(2,.ra 1 0),(5,.rs 2),(9,.bool a0)] (cq (Ki9 _ _ a1) K61 tv) ?_
  obtain ⟨a2,a3,h⟩ := Qdj h
  refine Wp.into (x := .normal) (mkS [(1,sI path1),(2,.ra 1 0),(5,.rs 5)] [(1,K1c t0),(5,.arr (List.map K0m a2))]) ?_ ?_
  ·replace h := a3
   refine ic h (fun a4 h => ?_) fun a4 h => ?_
   ·obtain ⟨a5,a6,_,a7,h⟩ := bq2 h
    refine rg hc none [oN,oN,some (.call (oI a5) [] 3),some (.mk 4 true),some (.eqv (.mk 5 true) ⟨[(14,.rs 5)],[(5,some (.arr (List.map K0m [a5]))),(2,none),(4,none)],[5]⟩),oN] [(1,sI path1),(2,.ra 1 0),(5,.rs 5)] [(1,K1c t0),(5,.arr (List.map K0m [a5]))] (cq (Kd5 _ _ a6) K48 (ab (congrArg (fun z => (⟨[(14,.rs 5)],[(5,some (.arr z)),(2,none),(4,none)],[5]⟩ : Wr)) (List.nil_append _ : [] ++ (List.map K0m [a5]) = List.map K0m [a5])) (Qdx (enc1 := K0m) (enc2 := K0m) (e1 := []) (e2 := [a5]) (sz := 1) K0p K0p a7) tv)) ?_
    obtain rfl := os h
    exact Qd5.mk
   refine sk ?_
   obtain rfl := os h
   exact iv [(5,2)]
  clear a3
  refine sN ?_
  refine K7w hc 1 [(1,sI path1),(2,.ra 1 0),(5,.rs 5),(6,I 0)] ?_
  refine bk 0 ?_
  obtain ⟨a8,a9,h⟩ := Qdj h
  have hL := spec_l4Paths_l0_ih _ _ a9 c hc
  refine lp ?_
  refine WpL.into (e := (.exit 0)) (mkS [(5,.rs 5)] [(5,.arr (List.map K0m a8))]) hL ?_
  refine Qcx ?_
  refine K7w hc 2 [(4,.rs 5)] ?_
  refine rt ?_
  obtain rfl := os h
  exact rq [true]
 ·rintro spec_l4Paths_f spec_l4Paths_l0_f spec_l4Paths_ih spec_l4Paths_l0_ih ⟨t0,path1,b1,b2⟩ r h
  intro c hc
  refine WpL.step ?_
  refine sN ?_
  refine rss hc none [oN,oN,oN,some (.eqv (.no) ⟨[(18,I (t0.fKids.length : Int))],[],[]⟩),oN] [(1,sI path1),(2,.ra 1 0),(5,.rs 5),(6,I b2),(19,.bool (decide (b2 < (t0.fKids.length : Int))))] (ai (Qdp (d := 18) K05 t0.fKids) tv) ?_
  refine ic h (fun b3 h => ?_) fun b3 h => ?_
  ·refine sk ?_
   refine sN ?_
   refine bk 1 ?_
   obtain ⟨b4,b5,b6,b7,_,b8,b9,c0,h⟩ := bq4 h
   obtain ⟨_,c1,h⟩ := Qdj h
   refine rg hc (rx [[0],[0],[0,1],[0],[0,1,2,3],[0,1,2,3,4],[0],[0,6],[0],[0,8],[0,6,7,8,9],[0,1,2,3,4,5,6,7,8,9,10],[12],[13]]) [oN,oN,oN,oN,some (.el (K1d b4)),oN,oN,some (.call (oI b6) [] 11),oN,some (.mk 12 true),some (.eqv (.mk 13 true) ⟨[(32,.rs 13)],[(13,some (rI (b6 ++ [b2]))),(11,none),(12,none)],[13]⟩),some (.call (.osl (List.map K0m b9)) [] 14),some (.eqv (.mk 15 true) ⟨[(34,.rs 15)],[(15,some (.arr (List.map K0m (b1 ++ b9)))),(5,none),(14,none)],[15]⟩),oN] [(1,sI path1),(2,.ra 1 0),(5,.rs 15),(6,I b2)] [(1,K1c t0),(15,.arr (List.map K0m (b1 ++ b9)))] (ai (Qdn b5 (K0c b4)) (cq (Kd5 _ _ b7) K48 (ad (congrArg (fun z => (⟨[(32,.rs 13)],[(13,some (.arr z)),(11,none),(12,none)],[13]⟩ : Wr)) ((List.map_append).symm : (List.map I b6) ++ (List.map I [b2]) = List.map I (b6 ++ [b2]))) (Qdx (enc1 := I) (enc2 := I) (e1 := b6) (e2 := [b2]) (sz := 1) Qe6 Qe6 b8) (Q75.args (A1 := [K1d b4,.sl (Q02 (List.map I (b6 ++ [b2])))]) (A2 := [K1d b4,sI (b6 ++ [b2])]) (by simp only [List.map_nil,Qeb]) (spec_l4Paths_ih _ _ c0)) K63 (ac (Or.inr (Qej K0w b9) : ([13] : List Nat) = [] ∨ noSh (.osl (List.map K0m b9)) = true) (congrArg (fun z => (⟨[(34,.rs 15)],[(15,some (.arr z)),(5,none),(14,none)],[15]⟩ : Wr)) ((List.map_append).symm : (List.map K0m b1) ++ (List.map K0m b9) = List.map K0m (b1 ++ b9))) (Qdx (enc1 := K0m) (enc2 := K0m) (e1 := b1) (e2 := b9) (sz := 1) K0p K0p c1) tv)))) ?_
   refine K7v hc 3 [(1,sI path1),(2,.ra 1 0),(5,.rs 15),(6,I (wr (b2 + 1)))] ?_
   refine Qd1 ?_
   exact WpL.view (fun a w hv => SRx.renL [(5,15)] hv (by kernel_rfl) (by kernel_rfl) (by kernel_rfl)) (spec_l4Paths_l0_ih _ _ h c hc)
  refine xt 0 ?_
  refine Qcv ?_
  refine Qd2 ?_
  obtain rfl := os h
  exact iv []
theorem Kig : ∀ p r,Kib p = some r → Kid p r := Kif.1
theorem Kih : ∀ p r,Kic p = some r → Kie p r := Kif.2
def Kii (t0 : K00) : Option (LL) :=
 (Ki4 t0) >>= fun a0 =>
 if a0 = true then
 (Kib (t0,[])) >>= fun a1 =>
 some a1
 else
 some []
def Kij (t0 : K00) (r : LL) : Prop :=
 Q75 Tryz.prog 198 [K1d t0] (.osl (List.map K0m r)) []
theorem Kik : ∀ p r,Kii p = some r → Kij p r := by
 rintro t0 r h
 unfold Kii at h
 refine b0 Tryz.f198 K64 8 [(0,K1d t0)] fun c hc => ?_
 refine rs hc none [some (.new 1),oN] [(1,.ra 1 0)] [(1,K1c t0)] tv ?_
 refine sN ?_
 obtain ⟨a0,a1,h⟩ := Qdj h
 refine rss hc none [oN,oc (.bool a0),oN] [(1,.ra 1 0),(5,.bool (!a0))] (cq (Ki6 _ _ a1) K5z tv) ?_
 rcases is h with ⟨a2,h⟩ | ⟨a2,h⟩
 ·refine cF (!a0) (nF a2) ?_
  refine sk ?_
  obtain ⟨a3,a4,h⟩ := Qdj h
  refine rs hc none [oN,some (.call (.osl (List.map K0m a3)) [] 2),oN] [(2,.rs 2)] [(2,.arr (List.map K0m a3))] (cq (Q75.args (A1 := [K1d t0,.sl []]) (A2 := [K1d t0,.sl (List.map I [])]) (by simp only [List.map_nil]) (Kig _ _ a4)) K63 tv) ?_
  refine rt ?_
  obtain rfl := os h
  exact rq [true]
 refine cT (!a0) (nT a2) ?_
 refine rs0 hc 1 [(2,.nils)] [] ?_
 refine rt ?_
 obtain rfl := os h
 exact rq [true]
def Kil (c0 : K01) : Option (Int × K01) :=
 (Kgv (c0,[(-1),0,1,2,3,7,8,15,16,17,40,9223372036854775807,(-9223372036854775808)])) >>= fun (a0,a1) =>
 some (a0,a1)
def Kim (c0 : K01) (r : Int × K01) : Prop :=
 Q75 Tryz.prog 99 [.optr [.sl (List.map U8 c0.fb),I c0.fi,I c0.fh]] (I r.1) [.optr [.sl (List.map U8 r.2.fb),I r.2.fi,I r.2.fh]]
theorem Kin : ∀ p r,Kil p = some r → Kim p r := by
 rintro c0 r h
 unfold Kil at h
 refine Q75.bodyO K28 (fn := Tryz.f99) (code := B99) (by kernel_rfl) (by kernel_rfl) (by kernel_rfl) (nt := 6) (by kernel_rfl) (by kernel_rfl) (T := [(0,.ra 1000 0)]) (O := [(1000,K1e c0)]) (by kernel_rfl) (by kernel_rfl) (fun c hc => ?_)
 refine K7w hc 1 [(0,.ra 1000 0)] ?_
 obtain ⟨⟨a0,a1⟩,a2,h⟩ := Qdj h
 refine rs hc none [oN,some (.call .undef [] 2),some (.call (I a0) [.optr [.sl (List.map U8 a1.fb),I a1.fi,I a1.fh],.undef] 1),oN] [(2,I a0)] [(1000,K1e a1)] (ab (Kgx _ _ a2) K5k tv) ?_
 refine rt ?_
 obtain rfl := os h
 exact Qdg.ret (fl := [true]) (by kernel_rfl)
def Kio (c : Ctx) : (List Int) × Int × Int × (List Int) → Exit → Q0a → Prop
 | (a0,a1,a2,a3) => Qd5 c (.exit 0) (mkS [(0,.ra 1000 0),(6,.rs 4)] [(4,rI a3),(1000,.box [.sl (List.map U8 a0),I a1,I a2])])
def Kip (p : (List Int) × Int × Int × Int × Int × (List Int) × (List K00) × (List Int)) : Option ((List Int) × Int × Int × (List Int)) :=
 match p with
 | (a0,a1,a2,a3,a4,a5,a6,a7) =>
  ((
  if (decide ((a6.length : Int) > 0)) = true then
  (K8h ((K01.mk a0 a1 a2),3)) >>= fun (a8,a9) =>
  some ((a9.fb,a9.fi,a9.fh,(decide (a8 > 0))))
  else
  some ((a0,a1,a2,false))
  ) : Option ((List Int) × Int × Int × Bool)) >>= fun (b1,b2,b3,b4) =>
  if b4 = true then
  (K8h ((K01.mk b1 b2 b3),(a6.length : Int))) >>= fun (b5,b6) =>
  (Qdw (a7.length + [b5].length) 8) >>= fun _ =>
  (idx a6 b5) >>= fun b7 =>
  Kip (b6.fb,b6.fi,b6.fh,b7.fOp,b7.fN,b7.fType,b7.fKids,(a7 ++ [b5]))
  else
  some ((b1,b2,b3,a7))
 partial_fixpoint
def Kiq (p : (List Int) × Int × Int × Int × Int × (List Int) × (List K00) × (List Int)) (fl : (List Int) × Int × Int × (List Int)) : Prop :=
 match p with
 | (a0,a1,a2,a3,a4,a5,a6,a7) => ∀ c : Ctx,c.nt = 58 → WpL Tryz.prog c (cl (cl (cl (cr (cr (cr (cr K67))))))) (Kio c fl) (mkS [(0,.ra 1000 0),(3,.ra 1 0),(6,.rs 4)] [(1,.box [I a3,I a4,sI a5,.sl (List.map K05 a6)]),(4,rI a7),(1000,.box [.sl (List.map U8 a0),I a1,I a2])])
theorem Kir : ∀ p r,Kip p = some r → Kiq p r := by
 refine Kip.partial_correctness Kiq ?_
 rintro spec_dPath_l0_f spec_dPath_l0_ih ⟨a0,a1,a2,a3,a4,a5,a6,a7⟩ r h
 intro c hc
 refine WpL.step ?_
 refine sN ?_
 refine sN ?_
 obtain ⟨⟨a8,a9,b1,b2⟩,b3,h⟩ := Qdj h
 refine Wp.into (x := .normal) (mkS [(0,.ra 1000 0),(3,.ra 1 0),(6,.rs 4),(35,.bool b2)] [(1,.box [I a3,I a4,sI a5,.sl (List.map K05 a6)]),(4,rI a7),(1000,.box [.sl (List.map U8 a8),I a9,I b1])]) ?_ ?_
 ·replace h := b3
  rcases is h with ⟨b4,h⟩ | ⟨b4,h⟩
  ·obtain ⟨⟨b5,b6⟩,b7,h⟩ := Qdj h
   refine rg hc none [oN,oN,some (.eqv (.no) ⟨[(29,I (a6.length : Int))],[],[]⟩),oN,oN,oN,some (.call (I b5) [.optr [.sl (List.map U8 b6.fb),I b6.fi,I b6.fh],.undef] 1),oN,oT] [(0,.ra 1000 0),(3,.ra 1 0),(6,.rs 4),(35,.bool (decide (b5 > 0)))] [(1,.box [I a3,I a4,sI a5,.sl (List.map K05 a6)]),(4,rI a7),(1000,K1e b6)] (ai (Qdp (d := 29) K05 a6) (ar 2 b4 (ab (K8j _ _ b7) K2h (ar 2 b4 tv)))) ?_
   obtain ⟨rfl,hq0⟩ := Prod.mk.inj (Option.some.inj h)
   obtain ⟨rfl,hq1⟩ := Prod.mk.inj (hq0)
   obtain ⟨rfl,rfl⟩ := Prod.mk.inj (hq1)
   exact Qd5.mk
  refine rgs hc none [oN,oN,some (.eqv (.no) ⟨[(29,I (a6.length : Int))],[],[]⟩),oN,oN,o_,o_,o_,oF] [(0,.ra 1000 0),(3,.ra 1 0),(6,.rs 4),(35,.bool false)] (ai (Qdp (d := 29) K05 a6) (ar 3 (neT b4) (ai b4 tv))) ?_
  obtain ⟨rfl,hq0⟩ := Prod.mk.inj (Option.some.inj h)
  obtain ⟨rfl,hq1⟩ := Prod.mk.inj (hq0)
  obtain ⟨rfl,rfl⟩ := Prod.mk.inj (hq1)
  exact Qd5.mk
 clear b3
 refine ic h (fun b8 h => ?_) fun b8 h => ?_
 ·refine sk ?_
  refine bk 1 ?_
  obtain ⟨⟨b9,c0⟩,c1,h⟩ := Qdj h
  refine rs hc none [oN,oN,oN,some (.eqv (.no) ⟨[(39,I (a6.length : Int))],[],[]⟩),some (.call (I b9) [.optr [.sl (List.map U8 c0.fb),I c0.fi,I c0.fh],.undef] 1),oN] [(0,.ra 1000 0),(3,.ra 1 0),(6,.rs 4),(7,I b9)] [(1,.box [I a3,I a4,sI a5,.sl (List.map K05 a6)]),(4,rI a7),(1000,K1e c0)] (ac (Qdp (d := 39) K05 a6) (K8j _ _ c1) K2h tv) ?_
  obtain ⟨_,c2,h⟩ := Qdj h
  refine rs hc none [oN,oN,some (.mk 7 true),some (.eqv (.mk 8 true) ⟨[(44,.rs 8)],[(8,some (rI (a7 ++ [b9]))),(4,none),(7,none)],[8]⟩),oN] [(0,.ra 1000 0),(3,.ra 1 0),(6,.rs 8),(7,I b9)] [(1,.box [I a3,I a4,sI a5,.sl (List.map K05 a6)]),(8,rI (a7 ++ [b9])),(1000,K1e c0)] (ab (congrArg (fun z => (⟨[(44,.rs 8)],[(8,some (.arr z)),(4,none),(7,none)],[8]⟩ : Wr)) ((List.map_append).symm : (List.map I a7) ++ (List.map I [b9]) = List.map I (a7 ++ [b9]))) (Qdx (enc1 := I) (enc2 := I) (e1 := a7) (e2 := [b9]) (sz := 1) Qe6 Qe6 c2) tv) ?_
  obtain ⟨c3,c4,h⟩ := Qdj h
  refine rg hc none [oN,oN,oN,some (.el (K1d c3)),oN,oN] [(0,.ra 1000 0),(3,.ra 1 0),(6,.rs 8)] [(1,K1c c3),(8,rI (a7 ++ [b9])),(1000,K1e c0)] (ai (Qdn c4 (K0c c3)) tv) ?_
  refine Qd1 ?_
  exact WpL.view (fun a w hv => SRx.renL [(4,8)] hv (by kernel_rfl) (by kernel_rfl) (by kernel_rfl)) (spec_dPath_l0_ih _ _ h c hc)
 refine xt 0 ?_
 refine Qcv ?_
 refine Qd2 ?_
 obtain ⟨rfl,hq0⟩ := Prod.mk.inj (Option.some.inj h)
 obtain ⟨rfl,hq1⟩ := Prod.mk.inj (hq0)
 obtain ⟨rfl,rfl⟩ := Prod.mk.inj (hq1)
 exact iv []
def Kis (p : K01 × K00) : Option ((List Int) × K01) :=
 match p with
 | (c0,t1) =>
  (Kii t1) >>= fun a0 =>
  ((
  if (decide ((a0.length : Int) > 0)) = true then
  (K8h (c0,3)) >>= fun (a1,a2) =>
  some ((a2.fb,a2.fi,a2.fh,(decide (a1 > 0))))
  else
  some ((c0.fb,c0.fi,c0.fh,false))
  ) : Option ((List Int) × Int × Int × Bool)) >>= fun (a3,a4,a5,a6) =>
  if a6 = true then
  (K8h ((K01.mk a3 a4 a5),(a0.length : Int))) >>= fun (a7,a8) =>
  (idx a0 a7) >>= fun a9 =>
  (Kd3 a9) >>= fun b1 =>
  some (b1,a8)
  else
  (Kip (a3,a4,a5,t1.fOp,t1.fN,t1.fType,t1.fKids,[])) >>= fun (b2,b3,b4,b5) =>
  (K8k ((K01.mk b2 b3 b4),14)) >>= fun (b6,b7) =>
  ((
  if b6 = true then
  (Kil b7) >>= fun (b8,b9) =>
  (Qdw (b5.length + [b8].length) 8) >>= fun _ =>
  some (((b5 ++ [b8]),b9.fb,b9.fi,b9.fh))
  else
  some ((b5,b7.fb,b7.fi,b7.fh))
  ) : Option ((List Int) × (List Int) × Int × Int)) >>= fun (c1,c2,c3,c4) =>
  some (c1,(K01.mk c2 c3 c4))
def Kit (p : K01 × K00) (r : (List Int) × K01) : Prop :=
 match p with
 | (c0,t1) => Q75 Tryz.prog 126 [.optr [.sl (List.map U8 c0.fb),I c0.fi,I c0.fh],K1d t1] (oI r.1) [.optr [.sl (List.map U8 r.2.fb),I r.2.fi,I r.2.fh],.undef]
theorem Kiu : ∀ p r,Kis p = some r → Kit p r := by
 rintro ⟨c0,t1⟩ r h
 unfold Kis at h
 refine Q75.bodyO K28 (fn := Tryz.f126) (code := K67) (by kernel_rfl) (by kernel_rfl) (by kernel_rfl) (nt := 58) (by kernel_rfl) (by kernel_rfl) (T := [(0,.ra 1000 0),(1,K1d t1)]) (O := [(1000,K1e c0)]) (by kernel_rfl) (by kernel_rfl) (fun c hc => ?_)
 refine rs hc none [some (.new 1),oN] [(0,.ra 1000 0),(3,.ra 1 0)] [(1,K1c t1),(1000,K1e c0)] tv ?_
 obtain ⟨a0,a1,h⟩ := Qdj h
 refine rs hc none [oN,some (.call (.osl (List.map K0m a0)) [] 2),oN] [(0,.ra 1000 0),(3,.ra 1 0),(5,.rs 2)] [(1,K1c t1),(2,.arr (List.map K0m a0)),(1000,K1e c0)] (cq (Kik _ _ a1) K65 tv) ?_
 refine sN ?_
 refine sN ?_
 obtain ⟨⟨a2,a3,a4,a5⟩,a6,h⟩ := Qdj h
 refine Wp.into (x := .normal) (mkS [(0,.ra 1000 0),(3,.ra 1 0),(5,.rs 2),(17,.bool a5)] [(1,K1c t1),(2,.arr (List.map K0m a0)),(1000,.box [.sl (List.map U8 a2),I a3,I a4])]) ?_ ?_
 ·replace h := a6
  rcases is h with ⟨a7,h⟩ | ⟨a7,h⟩
  ·obtain ⟨⟨a8,a9⟩,b1,h⟩ := Qdj h
   refine rg hc none [oN,some (.eqv (.no) ⟨[(11,I (a0.length : Int))],[],[]⟩),oN,oN,oN,some (.call (I a8) [.optr [.sl (List.map U8 a9.fb),I a9.fi,I a9.fh],.undef] 1),oN,oT] [(0,.ra 1000 0),(3,.ra 1 0),(5,.rs 2),(17,.bool (decide (a8 > 0)))] [(1,K1c t1),(2,.arr (List.map K0m a0)),(1000,K1e a9)] (ai (Qdp (d := 11) K0m a0) (ar 2 a7 (ab (K8j _ _ b1) K2h (ar 2 a7 tv)))) ?_
   obtain ⟨rfl,hq0⟩ := Prod.mk.inj (Option.some.inj h)
   obtain ⟨rfl,hq1⟩ := Prod.mk.inj (hq0)
   obtain ⟨rfl,rfl⟩ := Prod.mk.inj (hq1)
   exact Qd5.mk
  refine rgs hc none [oN,some (.eqv (.no) ⟨[(11,I (a0.length : Int))],[],[]⟩),oN,oN,o_,o_,o_,oF] [(0,.ra 1000 0),(3,.ra 1 0),(5,.rs 2),(17,.bool false)] (ai (Qdp (d := 11) K0m a0) (ar 3 (neT a7) (ai a7 tv))) ?_
  obtain ⟨rfl,hq0⟩ := Prod.mk.inj (Option.some.inj h)
  obtain ⟨rfl,hq1⟩ := Prod.mk.inj (hq0)
  obtain ⟨rfl,rfl⟩ := Prod.mk.inj (hq1)
  exact Qd5.mk
 clear a6
 refine ic h (fun b2 h => ?_) fun b2 h => ?_
 ·refine sN ?_
  refine vz 2 (K0v a0) [(0,.ra 1000 0),(3,.ra 1 0),(5,sL a0),(17,.bool a5)] [(1,K1c t1),(1000,.box [.sl (List.map U8 a2),I a3,I a4])] ?_
  obtain ⟨⟨b3,b4⟩,b5,h⟩ := Qdj h
  obtain ⟨b6,b7,b8,b9,h⟩ := bq2 h
  refine rg hc none [oN,oN,oN,some (.eqv (.no) ⟨[(21,I (a0.length : Int))],[],[]⟩),some (.call (I b3) [.optr [.sl (List.map U8 b4.fb),I b4.fi,I b4.fh],.undef] 1),some (.el (sI b6)),oN,some (.call (oI b8) [] 3),oN] [(4,.rs 3)] [(3,rI b8),(1000,K1e b4)] (ad (Qdp (d := 21) K0q a0) (K8j _ _ b5) K2h (xL b7) (cq (Kd5 _ _ b9) K48 tv)) ?_
  refine rt ?_
  obtain rfl := os h
  exact Qdg.ret (fl := [true]) (by kernel_rfl)
 refine sk ?_
 refine rs hc none [some (.mk 4 true),oN] [(0,.ra 1000 0),(3,.ra 1 0),(6,.rs 4)] [(1,K1c t1),(4,.arr (List.map I [])),(1000,.box [.sl (List.map U8 a2),I a3,I a4])] tv ?_
 refine sN ?_
 refine bk 0 ?_
 obtain ⟨⟨c1,c2,c3,c4⟩,c5,h⟩ := Qdj h
 have hL := Kir _ _ c5 c hc
 refine lp ?_
 refine WpL.into (e := (.exit 0)) (mkS [(0,.ra 1000 0),(6,.rs 4)] [(4,rI c4),(1000,.box [.sl (List.map U8 c1),I c2,I c3])]) hL ?_
 refine Qcx ?_
 refine sN ?_
 obtain ⟨⟨c6,c7⟩,c8,h⟩ := Qdj h
 refine rs hc none [oN,some (.call (.bool c6) [.optr [.sl (List.map U8 c7.fb),I c7.fi,I c7.fh],.undef] 1)] [(0,.ra 1000 0),(6,.rs 4),(51,.bool c6)] [(4,rI c4),(1000,K1e c7)] (ab (K8m _ _ c8) K2i tv) ?_
 obtain ⟨⟨c9,d0,d1,d2⟩,d3,h⟩ := Qdj h
 refine Wp.into (x := .normal) (mkS [(6,.rs 10)] [(10,rI c9),(1000,.box [.sl (List.map U8 d0),I d1,I d2])]) ?_ ?_
 ·replace h := d3
  refine ic h (fun d4 h => ?_) fun d4 h => ?_
  ·obtain ⟨⟨d5,d6⟩,d7,h⟩ := Qdj h
   obtain ⟨_,d8,h⟩ := Qdj h
   refine rg hc none [oN,oN,some (.call (I d5) [.optr [.sl (List.map U8 d6.fb),I d6.fi,I d6.fh]] 1),some (.mk 9 true),some (.eqv (.mk 10 true) ⟨[(56,.rs 10)],[(10,some (rI (c4 ++ [d5]))),(4,none),(9,none)],[10]⟩),oN] [(6,.rs 10)] [(10,rI (c4 ++ [d5])),(1000,K1e d6)] (ad (Kin _ _ d7) K66 (congrArg (fun z => (⟨[(56,.rs 10)],[(10,some (.arr z)),(4,none),(9,none)],[10]⟩ : Wr)) ((List.map_append).symm : (List.map I c4) ++ (List.map I [d5]) = List.map I (c4 ++ [d5]))) (Qdx (enc1 := I) (enc2 := I) (e1 := c4) (e2 := [d5]) (sz := 1) Qe6 Qe6 d8) tv) ?_
   obtain ⟨rfl,hq0⟩ := Prod.mk.inj (Option.some.inj h)
   obtain ⟨rfl,hq1⟩ := Prod.mk.inj (hq0)
   obtain ⟨rfl,rfl⟩ := Prod.mk.inj (hq1)
   exact Qd5.mk
  refine sk ?_
  obtain ⟨rfl,hq0⟩ := Prod.mk.inj (Option.some.inj h)
  obtain ⟨rfl,hq1⟩ := Prod.mk.inj (hq0)
  obtain ⟨rfl,rfl⟩ := Prod.mk.inj (hq1)
  exact iv [(10,4)]
 clear d3
 refine K7w hc 2 [(4,.rs 10)] ?_
 refine rt ?_
 obtain rfl := os h
 exact Qdg.ret (fl := [true]) (by kernel_rfl)
def Kiv (code0 : (List Int)) : Option (K00 × (List Int)) :=
 (K85 code0) >>= fun a0 =>
 (K8b code0) >>= fun a1 =>
 (Kh6 (a0,a1)) >>= fun (a2,a3) =>
 (Kis (a3,a2)) >>= fun (a4,a5) =>
 some (a2,a4)
def Kiw (code0 : (List Int)) (r : K00 × (List Int)) : Prop :=
 Q75 Tryz.prog 51 [.sl (List.map U8 code0)] (.tup [.agg [I r.1.fOp,I r.1.fN,.sl (List.map I r.1.fType),.sl (List.map K05 r.1.fKids)],oI r.2]) []
theorem Kix : ∀ p r,Kiv p = some r → Kiw p r := by
 rintro code0 r h
 unfold Kiv at h
 refine b0 Tryz.f51 B51 16 [(0,.sl (List.map U8 code0))] fun c hc => ?_
 refine rs hc none [some (.new 1),oN] [(0,.sl (List.map U8 code0)),(2,.ra 1 0)] [(1,.box [I 0,I 0,.nils,.nils])] tv ?_
 obtain ⟨a0,a1,h⟩ := Qdj h
 refine rs hc none [oN,some (.call (.optr [.sl (List.map U8 a0.fb),I a0.fi,I a0.fh]) [.tup []] 2),oN] [(0,.sl (List.map U8 code0)),(2,.ra 1 0),(4,.ra 2 0)] [(1,.box [I 0,I 0,.nils,.nils]),(2,K1e a0)] (ab (K87 _ _ a1) K2a tv) ?_
 obtain ⟨a2,a3,⟨a4,a5⟩,a6,h⟩ := bq2 h
 refine rs hc none [oN,oN,oc (I a2),some (.call (K1d a4) [.optr [.sl (List.map U8 a5.fb),I a5.fi,I a5.fh],.undef] 1),some (.new 3),oN] [(2,.ra 1 0),(4,.ra 2 0),(5,.ra 3 0)] [(1,.box [I 0,I 0,.nils,.nils]),(2,K1e a5),(3,K1c a4)] (cq (K8d _ _ a3) K2e (ab (Kh8 _ _ a6) K5o tv)) ?_
 obtain ⟨⟨a7,a8⟩,a9,h⟩ := Qdj h
 refine rs hc (rx [[0],[0],[0],[0,1,2],[4],[5]]) [oN,oN,oN,some (.call (oI a7) [.optr [.sl (List.map U8 a8.fb),I a8.fi,I a8.fh],.undef] 4),oN,oN] [(2,.ra 1 0),(3,.rs 4)] [(1,K1c a4),(4,rI a7)] (ab (Kiu _ _ a9) K68 tv) ?_
 refine rt ?_
 obtain rfl := os h
 exact rq [false,true]
def Kiy (p : Int × Int × Int) : Option (Bool) :=
 match p with
 | (n0,low1,high2) =>
  ((
  if (decide (n0 ≥ low1)) = true then
  some ((decide (n0 ≤ high2)))
  else
  some (false)
  ) : Option (Bool)) >>= fun a0 =>
  some a0
def Kiz (p : Int × Int × Int) (r : Bool) : Prop :=
 match p with
 | (n0,low1,high2) => Q75 Tryz.prog 95 [I n0,I low1,I high2] (.bool r) []
theorem Kj0 : ∀ p r,Kiy p = some r → Kiz p r := by
 rintro ⟨n0,low1,high2⟩ r h
 unfold Kiy at h
 refine b0 Tryz.f95 B95 15 [(0,I n0),(1,I low1),(2,I high2)] fun c hc => ?_
 refine rs0 hc 1 [(0,I n0),(1,I low1),(2,I high2)] [] ?_
 refine sN ?_
 obtain ⟨a0,a1,h⟩ := Qdj h
 refine Wp.into (x := .normal) (mkS [(6,.bool a0)] []) ?_ ?_
 ·replace h := a1
  rcases is h with ⟨a2,h⟩ | ⟨a2,h⟩
  ·refine rg hc none [oN,oN,oN,oN,oN,oN,oN,oT,oN] [(6,.bool (decide (n0 ≤ high2)))] [] (ar 4 a2 tv) ?_
   obtain rfl := os h
   exact Qd5.mk
  refine rg hc none [oN,oN,oN,oN,o_,o_,o_,oF,oN] [(6,.bool false)] [] (ar 3 (neT a2) (ai a2 tv)) ?_
  obtain rfl := os h
  exact Qd5.mk
 clear a1
 refine rt ?_
 obtain rfl := os h
 exact rq [true]
def Kj1 (op0 : Int) : Option (K04 × Bool) :=
 (Kiy (op0,0,12)) >>= fun a0 =>
 if a0 = true then
 (idx [(K04.mk (ByteArray.mk #[120]) 0 false false),(K04.mk ByteArray.empty 0 false false),(K04.mk (ByteArray.mk #[97,100,100]) 2 false false),(K04.mk (ByteArray.mk #[105,102]) 3 false false),(K04.mk (ByteArray.mk #[112,97,105,114]) 2 false false),(K04.mk (ByteArray.mk #[115,112,108,105,116]) 2 true false),(K04.mk (ByteArray.mk #[108,101,102,116]) 1 false true),(K04.mk (ByteArray.mk #[114,105,103,104,116]) 1 false true),(K04.mk (ByteArray.mk #[99,97,115,101]) 3 true false),(K04.mk (ByteArray.mk #[102,117,110]) 1 true true),(K04.mk (ByteArray.mk #[97,112,112]) 2 false false),(K04.mk (ByteArray.mk #[98,111,120]) 1 true false),(K04.mk (ByteArray.mk #[111,112,101,110]) 2 true false)] op0) >>= fun a1 =>
 some (a1,true)
 else
 some ((K04.mk ByteArray.empty 0 false false),false)
def Kj2 (op0 : Int) (r : K04 × Bool) : Prop :=
 Q75 Tryz.prog 188 [I op0] (.tup [.agg [.str r.1.fword,I r.1.fkids,.bool r.1.fgrade,.bool r.1.ftyped],.bool r.2]) []
theorem Kj3 : ∀ p r,Kj1 p = some r → Kj2 p r := by
 rintro op0 r h
 unfold Kj1 at h
 refine b0 Tryz.f188 K6b 25 [(0,I op0)] fun c hc => ?_
 refine rs hc none [some (.new 1),oN] [(0,I op0),(2,.ra 1 0)] [(1,.box [.str ByteArray.empty,I 0,.bool false,.bool false])] tv ?_
 refine sN ?_
 obtain ⟨a0,a1,h⟩ := Qdj h
 refine rss hc none [oN,oc (.bool a0),oN] [(0,I op0),(2,.ra 1 0),(6,.bool (!a0))] (cq (Kj0 _ _ a1) K6a tv) ?_
 rcases is h with ⟨a2,h⟩ | ⟨a2,h⟩
 ·refine cF (!a0) (nF a2) ?_
  refine sk ?_
  obtain ⟨a3,a4,h⟩ := Qdj h
  refine rs hc none [oN,oN,oN,oN,oN,oN,oN,oN,oN,oN,oN,oN,oN,some (.mk 2 true),oN,oN,some (.el (.agg [.str a3.fword,I a3.fkids,.bool a3.fgrade,.bool a3.ftyped])),oN,oN] [(2,.ra 1 0),(3,.bool true)] [(1,.box [.str a3.fword,I a3.fkids,.bool a3.fgrade,.bool a3.ftyped])] (ab (Qdo (enc := K0l) a4) (Qdn (enc := K0l) (x := .agg [.str a3.fword,I a3.fkids,.bool a3.fgrade,.bool a3.ftyped]) a4 (K17 a3)).2 tv) ?_
  refine rt ?_
  obtain rfl := os h
  exact rq [true,true]
 refine cT (!a0) (nT a2) ?_
 refine K7w hc 3 [(2,.ra 1 0),(3,.bool false)] ?_
 refine rt ?_
 obtain rfl := os h
 exact rq [true,true]
def Kj4 (g0 : Int) : Option (Bool) :=
 (Kiy (g0,(-1),15)) >>= fun a0 =>
 some a0
def Kj5 (g0 : Int) (r : Bool) : Prop :=
 Q75 Tryz.prog 189 [I g0] (.bool r) []
theorem Kj6 : ∀ p r,Kj4 p = some r → Kj5 p r := by
 rintro g0 r h
 unfold Kj4 at h
 refine b0 Tryz.f189 K6d 5 [(0,I g0)] fun c hc => ?_
 refine rs0 hc 1 [(0,I g0)] [] ?_
 obtain ⟨a0,a1,h⟩ := Qdj h
 refine rs hc none [oN,oc (.bool a0),oN] [(2,.bool a0)] [] (cq (Kj0 _ _ a1) K6a tv) ?_
 refine rt ?_
 obtain rfl := os h
 exact rq [true]
def Kj7 (code0 : Int) : Option (Int × Int) :=
 (Kiy (code0,0,2)) >>= fun a0 =>
 if a0 = true then
 some (code0,(-1))
 else
 (Kiy (code0,3,18)) >>= fun a1 =>
 if a1 = true then
 some (3,(wr (code0 - 3)))
 else
 (Kiy (code0,19,34)) >>= fun a2 =>
 if a2 = true then
 some (4,(wr (code0 - 19)))
 else
 if (code0 == 35) = true then
 some (3,(-1))
 else
 if (code0 == 36) = true then
 some (4,(-1))
 else
 some (5,(-1))
def Kj8 (code0 : Int) (r : Int × Int) : Prop :=
 Q75 Tryz.prog 157 [I code0] (.tup [I r.1,I r.2]) []
theorem Kj9 : ∀ p r,Kj7 p = some r → Kj8 p r := by
 rintro code0 r h
 unfold Kj7 at h
 refine b0 Tryz.f157 K6f 24 [(0,I code0)] fun c hc => ?_
 refine rs0 hc 2 [(0,I code0)] [] ?_
 refine sN ?_
 refine bk 0 ?_
 obtain ⟨a0,a1,h⟩ := Qdj h
 refine rs hc none [oN,oc (.bool a0),oN] [(0,I code0),(4,.bool a0)] [] (cq (Kj0 _ _ a1) K6a tv) ?_
 refine ic h (fun a2 h => ?_) fun a2 h => ?_
 ·refine rs0 hc 3 [(2,I code0),(3,I (-1))] [] ?_
  refine rt ?_
  obtain rfl := os h
  exact rq [true,true]
 obtain ⟨a3,a4,h⟩ := Qdj h
 refine rs hc none [oN,oc (.bool a3),oN] [(0,I code0),(8,.bool a3)] [] (cq (Kj0 _ _ a4) K6a tv) ?_
 refine ic h (fun a5 h => ?_) fun a5 h => ?_
 ·refine rs0 hc 4 [(2,I 3),(3,I (wr (code0 - 3)))] [] ?_
  refine rt ?_
  obtain rfl := os h
  exact rq [true,true]
 obtain ⟨a6,a7,h⟩ := Qdj h
 refine rs hc none [oN,oc (.bool a6),oN] [(0,I code0),(13,.bool a6)] [] (cq (Kj0 _ _ a7) K6a tv) ?_
 refine ic h (fun a8 h => ?_) fun a8 h => ?_
 ·refine rs0 hc 4 [(2,I 4),(3,I (wr (code0 - 19)))] [] ?_
  refine rt ?_
  obtain rfl := os h
  exact rq [true,true]
 refine rs0 hc 3 [(0,I code0),(18,.bool (code0 == 35))] [] ?_
 refine ic h (fun a9 h => ?_) fun a9 h => ?_
 ·refine rs0 hc 2 [(2,I 3),(3,I (-1))] [] ?_
  refine rt ?_
  obtain rfl := os h
  exact rq [true,true]
 refine rs0 hc 3 [(21,.bool (code0 == 36))] [] ?_
 refine ic h (fun b1 h => ?_) fun b1 h => ?_
 ·refine rs0 hc 2 [(2,I 4),(3,I (-1))] [] ?_
  refine rt ?_
  obtain rfl := os h
  exact rq [true,true]
 refine sk ?_
 refine rs0 hc 2 [(2,I 5),(3,I (-1))] [] ?_
 refine rt ?_
 obtain rfl := os h
 exact rq [true,true]
def Kja (p : (List Int) × Int) : Option (Int) :=
 match p with
 | (ty0,at1) =>
  ((
  if (decide (at1 < 0)) = true then
  some (true)
  else
  some ((decide (at1 ≥ (ty0.length : Int))))
  ) : Option (Bool)) >>= fun a0 =>
  if a0 = true then
  some (-1)
  else
  (idx ty0 at1) >>= fun a1 =>
  (Kj7 a1) >>= fun (a2,a3) =>
  if (a2 == 0) = true then
  some (wr (at1 + 1))
  else
  if (a2 == 4) = true then
  (Kja (ty0,(wr (at1 + 1)))) >>= fun a4 =>
  some a4
  else
  if (a2 == 5) = true then
  some (-1)
  else
  (Kja (ty0,(wr (at1 + 1)))) >>= fun a5 =>
  (Kja (ty0,a5)) >>= fun a6 =>
  some a6
 partial_fixpoint
def Kjb (p : (List Int) × Int) (r : Int) : Prop :=
 match p with
 | (ty0,at1) => Q75 Tryz.prog 213 [sI ty0,I at1] (I r) []
theorem Kjc : ∀ p r,Kja p = some r → Kjb p r := by
 refine Kja.partial_correctness Kjb ?_
 rintro impl_typeEnd_f impl_typeEnd_ih ⟨ty0,at1⟩ r h
 refine b0 Tryz.f213 K6h 42 [(0,sI ty0),(1,I at1)] fun c hc => ?_
 refine rs0 hc 1 [(0,sI ty0),(1,I at1)] [] ?_
 refine sN ?_
 refine sN ?_
 obtain ⟨a0,a1,h⟩ := Qdj h
 refine Wp.into (x := .normal) (mkS [(0,sI ty0),(1,I at1),(14,.bool a0)] []) ?_ ?_
 ·replace h := a1
  rcases is h with ⟨a2,h⟩ | ⟨a2,h⟩
  ·refine rg hc none [oN,oN,oN,o_,o_,o_,o_,oT] [(0,sI ty0),(1,I at1),(14,.bool true)] [] (ar 4 (neF a2) (ai a2 tv)) ?_
   obtain rfl := os h
   exact Qd5.mk
  refine rg hc none [oN,oN,oN,oN,oN,some (.eqv (.no) ⟨[(12,I (ty0.length : Int))],[],[]⟩),oN,oF] [(0,sI ty0),(1,I at1),(14,.bool (decide (at1 ≥ (ty0.length : Int))))] [] (ar 3 a2 (ai (Qdp (d := 12) I ty0) (ar 2 a2 tv))) ?_
  obtain rfl := os h
  exact Qd5.mk
 clear a1
 refine ic h (fun a3 h => ?_) fun a3 h => ?_
 ·refine rs0 hc 1 [(4,I (-1))] [] ?_
  refine rt ?_
  obtain rfl := os h
  exact rq [true]
 refine sk ?_
 obtain ⟨a4,a5,⟨a6,a7⟩,a8,h⟩ := bq2 h
 refine rs hc none [oN,oN,some (.el (I a4)),oN,oc (.tup [I a6,I a7]),oN,oN,oN,oN,oN] [(0,sI ty0),(1,I at1),(5,I a6)] [] (ai (ix a5) (cq (Kj9 _ _ a8) K6g tv)) ?_
 refine sN ?_
 refine rs0 hc 1 [(0,sI ty0),(1,I at1),(23,I a6)] [] ?_
 refine bk 0 ?_
 refine rs0 hc 2 [(0,sI ty0),(1,I at1),(23,I a6),(24,.bool (a6 == 0))] [] ?_
 refine ic h (fun a9 h => ?_) fun a9 h => ?_
 ·refine rs0 hc 3 [(4,I (wr (at1 + 1)))] [] ?_
  refine rt ?_
  obtain rfl := os h
  exact rq [true]
 refine rs0 hc 2 [(0,sI ty0),(1,I at1),(23,I a6),(28,.bool (a6 == 4))] [] ?_
 refine ic h (fun b1 h => ?_) fun b1 h => ?_
 ·obtain ⟨b2,b3,h⟩ := Qdj h
  refine rs hc none [oN,oN,oN,oc (I b2),oN] [(4,I b2)] [] (cq (impl_typeEnd_ih _ _ b3) K6i tv) ?_
  refine rt ?_
  obtain rfl := os h
  exact rq [true]
 refine rs0 hc 2 [(0,sI ty0),(1,I at1),(34,.bool (a6 == 5))] [] ?_
 refine ic h (fun b4 h => ?_) fun b4 h => ?_
 ·refine rs0 hc 1 [(4,I (-1))] [] ?_
  refine rt ?_
  obtain rfl := os h
  exact rq [true]
 refine sk ?_
 obtain ⟨b5,b6,b7,b8,h⟩ := bq2 h
 refine rs hc none [oN,oN,oN,oN,oc (I b5),oc (I b7),oN] [(4,I b7)] [] (cq (impl_typeEnd_ih _ _ b6) K6i (cq (impl_typeEnd_ih _ _ b8) K6i tv)) ?_
 refine rt ?_
 obtain rfl := os h
 exact rq [true]
def Kjd (ty0 : (List Int)) : Option (Bool) :=
 ((
 (Kiy ((ty0.length : Int),1,40)) >>= fun a0 =>
 if a0 = true then
 (Kja (ty0,0)) >>= fun a1 =>
 some ((a1 == (ty0.length : Int)))
 else
 some (false)
 ) : Option (Bool)) >>= fun a2 =>
 some a2
def Kje (ty0 : (List Int)) (r : Bool) : Prop :=
 Q75 Tryz.prog 159 [sI ty0] (.bool r) []
theorem Kjf : ∀ p r,Kjd p = some r → Kje p r := by
 rintro ty0 r h
 unfold Kjd at h
 refine b0 Tryz.f159 K6j 13 [(0,sI ty0)] fun c hc => ?_
 refine rs0 hc 1 [(0,sI ty0)] [] ?_
 refine sN ?_
 obtain ⟨a0,a1,h⟩ := Qdj h
 refine Wp.into (x := .normal) (mkS [(2,.bool a0)] []) ?_ ?_
 ·replace h := a1
  obtain ⟨a2,a3,h⟩ := Qdj h
  rcases is h with ⟨a4,h⟩ | ⟨a4,h⟩
  ·obtain ⟨a5,a6,h⟩ := Qdj h
   refine rg hc none [oN,some (.eqv (.no) ⟨[(4,I (ty0.length : Int))],[],[]⟩),oc (.bool a2),oN,oN,oc (I a5),oN,some (.eqv (.no) ⟨[(10,I (ty0.length : Int))],[],[]⟩),oN,oT,oN] [(2,.bool (a5 == (ty0.length : Int)))] [] (ai (Qdp (d := 4) I ty0) (cq (Kj0 _ _ a3) K6a (ar 2 a4 (cq (Kjc _ _ a6) K6i (ar 2 a4 (ai (Qdp (d := 10) I ty0) (ar 2 a4 tv))))))) ?_
   obtain rfl := os h
   exact Qd5.mk
  refine rg hc none [oN,some (.eqv (.no) ⟨[(4,I (ty0.length : Int))],[],[]⟩),oc (.bool a2),oN,o_,o_,o_,o_,o_,oF,oN] [(2,.bool false)] [] (ai (Qdp (d := 4) I ty0) (cq (Kj0 _ _ a3) K6a (ar 5 (neT a4) (ai a4 tv)))) ?_
  obtain rfl := os h
  exact Qd5.mk
 clear a1
 refine rt ?_
 obtain rfl := os h
 exact rq [true]
def Kjg (p : Int × Int) : Option (Int) :=
 match p with
 | (op0,kid1) =>
  ((
  if (op0 == 5) = true then
  some ((kid1 == 1))
  else
  some (false)
  ) : Option (Bool)) >>= fun a0 =>
  if a0 = true then
  some 2
  else
  ((
  if (op0 == 8) = true then
  some ((decide (kid1 > 0)))
  else
  some (false)
  ) : Option (Bool)) >>= fun a1 =>
  ((
  if a1 = true then
  some (a1)
  else
  ((
  if (op0 == 9) = true then
  some ((op0 == 9))
  else
  ((
  if (op0 == 12) = true then
  some ((kid1 == 1))
  else
  some (false)
  ) : Option (Bool)) >>= fun a2 =>
  some (a2)
  ) : Option (Bool)) >>= fun a3 =>
  some (a3)
  ) : Option (Bool)) >>= fun a4 =>
  if a4 = true then
  some 1
  else
  some 0
def Kjh (p : Int × Int) (r : Int) : Prop :=
 match p with
 | (op0,kid1) => Q75 Tryz.prog 199 [I op0,I kid1] (I r) []
theorem Kji : ∀ p r,Kjg p = some r → Kjh p r := by
 rintro ⟨op0,kid1⟩ r h
 unfold Kjg at h
 refine b0 Tryz.f199 K6l 27 [(0,I op0),(1,I kid1)] fun c hc => ?_
 refine rs0 hc 1 [(0,I op0),(1,I kid1)] [] ?_
 refine sN ?_
 refine bk 0 ?_
 refine sN ?_
 obtain ⟨a0,a1,h⟩ := Qdj h
 refine Wp.into (x := .normal) (mkS [(0,I op0),(1,I kid1),(5,.bool a0)] []) ?_ ?_
 ·replace h := a1
  rcases is h with ⟨a2,h⟩ | ⟨a2,h⟩
  ·refine rg hc none [oN,oN,oN,oN,oN,oT,oN] [(0,I op0),(1,I kid1),(5,.bool (kid1 == 1))] [] (ar 3 a2 tv) ?_
   obtain rfl := os h
   exact Qd5.mk
  refine rg hc none [oN,oN,oN,o_,o_,oF,oN] [(0,I op0),(1,I kid1),(5,.bool false)] [] (ar 2 (neT a2) (ai a2 tv)) ?_
  obtain rfl := os h
  exact Qd5.mk
 clear a1
 refine ic h (fun a3 h => ?_) fun a3 h => ?_
 ·refine rs0 hc 1 [(4,I 2)] [] ?_
  refine rt ?_
  obtain rfl := os h
  exact rq [true]
 refine sN ?_
 refine sN ?_
 obtain ⟨a4,a5,h⟩ := Qdj h
 refine Wp.into (x := .normal) (mkS [(0,I op0),(1,I kid1),(12,.bool a4)] []) ?_ ?_
 ·replace h := a5
  rcases is h with ⟨a6,h⟩ | ⟨a6,h⟩
  ·refine rg hc none [oN,oN,oN,oN,oN,oT,oN] [(0,I op0),(1,I kid1),(12,.bool (decide (kid1 > 0)))] [] (ar 3 a6 tv) ?_
   obtain rfl := os h
   exact Qd5.mk
  refine rg hc none [oN,oN,oN,o_,o_,oF,oN] [(0,I op0),(1,I kid1),(12,.bool false)] [] (ar 2 (neT a6) (ai a6 tv)) ?_
  obtain rfl := os h
  exact Qd5.mk
 clear a5
 obtain ⟨a7,a8,h⟩ := Qdj h
 refine Wp.into (x := .normal) (mkS [(12,.bool a7)] []) ?_ ?_
 ·replace h := a8
  refine ic h (fun a9 h => ?_) fun a9 h => ?_
  ·refine sk ?_
   obtain rfl := os h
   exact iv []
  refine rs0 hc 3 [(0,I op0),(1,I kid1),(12,.bool (op0 == 9))] [] ?_
  obtain ⟨b1,b2,h⟩ := Qdj h
  refine Wp.into (x := .normal) (mkS [(12,.bool b1)] []) ?_ ?_
  ·replace h := b2
   refine ic h (fun b3 h => ?_) fun b3 h => ?_
   ·refine sk ?_
    obtain rfl := os h
    exact iv []
   obtain ⟨b4,b5,h⟩ := Qdj h
   refine Wp.into (x := .normal) (mkS [(12,.bool b4)] []) ?_ ?_
   ·replace h := b5
    rcases is h with ⟨b6,h⟩ | ⟨b6,h⟩
    ·refine rg hc none [oN,oN,oN,oN,oN,oT,oN] [(12,.bool (kid1 == 1))] [] (ar 3 b6 tv) ?_
     obtain rfl := os h
     exact Qd5.mk
    refine rg hc none [oN,oN,oN,o_,o_,oF,oN] [(12,.bool false)] [] (ar 2 (neT b6) (ai b6 tv)) ?_
    obtain rfl := os h
    exact Qd5.mk
   clear b5
   obtain rfl := os h
   exact Qd5.mk
  clear b2
  obtain rfl := os h
  exact Qd5.mk
 clear a8
 refine ic h (fun b7 h => ?_) fun b7 h => ?_
 ·refine rs0 hc 1 [(4,I 1)] [] ?_
  refine rt ?_
  obtain rfl := os h
  exact rq [true]
 refine sk ?_
 refine rs0 hc 1 [(4,I 0)] [] ?_
 refine rt ?_
 obtain rfl := os h
 exact rq [true]
def Kjj (c : Ctx) : (Int) ⊕ (Int) → Exit → Q0a → Prop
 | .inl a0 => Qd5 c (.exit 1) (mkS [(4,I a0)] [])
 | .inr r => Qde TIx Tryz.f134 [] (I r)
end Go.Am
