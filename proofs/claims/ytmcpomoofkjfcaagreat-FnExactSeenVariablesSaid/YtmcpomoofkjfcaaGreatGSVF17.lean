/- Functions of the program as pure functions,and that it computes them. Printed by a program of mine (gen.py). -/
import Derived.Test.YtmcpomoofkjfcaaGreatGSVF14
set_option linter.unusedVariables false
set_option linter.unusedSimpArgs false
set_option maxRecDepth 100000
namespace Go.Am
open Go Go.Proofs
def Kq0 : Option (List (List Nat)) := rh [0,1,0,3,0,5,0,7,8,9]
def Kq1 : Option (List (List Nat)) := rx [[0],[0],[0,1],[3],[4]]
def Kq2 (p : K00 × Int) : Option (Int × K00) :=
 match p with
 | (a0,k1) =>
  (Kpq (a0.fPlus,k1)) >>= fun (a1,a2) =>
  (Kpq (a0.fTimes,a1)) >>= fun (a3,a4) =>
  (Kpx (a0.fBelow,a3)) >>= fun (a5,a6) =>
  some (a5,(K00.mk a0.fSize a2 a4 a6))
def Kq3 (p : K00 × Int) (r : Int × K00) : Prop :=
 match p with
 | (a0,k1) => Q71 Tryz.prog 27 [K22 a0,I k1] (I r.1) [.agg [.undef,.osl (List.map I r.2.fPlus),.osl (List.map I r.2.fTimes),.osl (List.map AV.bool r.2.fBelow)],.undef]
theorem Kq4 : ∀ p r,Kq2 p = some r → Kq3 p r := by
 rintro ⟨a0,k1⟩ r h
 unfold Kq2 at h
 refine Q71.bodyO K2w (fn := Tryz.f27) (code := B27) (by kernel_rfl) (by kernel_rfl) (by kernel_rfl) (nt := 18) (by kernel_rfl) (by kernel_rfl) (T := [(0,.agg [I a0.fSize,.rs 1000,.rs 1001,.rs 1002]),(1,I k1)]) (O := [(1000,rI a0.fPlus),(1001,rI a0.fTimes),(1002,.arr (List.map AV.bool a0.fBelow))]) (by kernel_rfl) (by kernel_rfl) (fun c hc => ?_)
 refine rs hc none [some (.new 1),oN] [(1,I k1),(2,.ra 1 0)] [(1,.box [I a0.fSize,.rs 1000,.rs 1001,.rs 1002]),(1000,rI a0.fPlus),(1001,rI a0.fTimes),(1002,.arr (List.map AV.bool a0.fBelow))] tv ?_
 obtain ⟨⟨a1,a2⟩,a3,h⟩ := Qct h
 refine rs hc none [oN,oN,oN,some (.call (I a1) [oI a2,.undef] 1),oN] [(1,I a1),(2,.ra 1 0)] [(1,.box [I a0.fSize,.rs 1000,.rs 1001,.rs 1002]),(1000,rI a2),(1001,rI a0.fTimes),(1002,.arr (List.map AV.bool a0.fBelow))] (ab (Kps _ _ a3) K88 tv) ?_
 obtain ⟨⟨a4,a5⟩,a6,h⟩ := Qct h
 refine rs hc none [oN,oN,oN,some (.call (I a4) [oI a5,.undef] 1),oN] [(1,I a4),(2,.ra 1 0)] [(1,.box [I a0.fSize,.rs 1000,.rs 1001,.rs 1002]),(1000,rI a2),(1001,rI a5),(1002,.arr (List.map AV.bool a0.fBelow))] (ab (Kps _ _ a6) K88 tv) ?_
 obtain ⟨⟨a7,a8⟩,a9,h⟩ := Qct h
 refine rs hc none [oN,oN,oN,some (.call (I a7) [.osl (List.map AV.bool a8),.undef] 1),oN] [(1,I a7)] [(1000,rI a2),(1001,rI a5),(1002,.arr (List.map AV.bool a8))] (ab (Kpz _ _ a9) K89 tv) ?_
 refine K8h hc 2 [(4,I a7)] ?_
 refine rt ?_
 obtain rfl := os h
 exact Qcq.ret (fl := [true]) (by kernel_rfl)
def Kq5 (c : Ctx) : Int × LL → Exit → Q0a → Prop
 | (a0,a1) => Qcf c (.exit 0) (mkS [(1,I a0)] [(1000,.arr (List.map K15 a1))])
def Kq6 (p : LL × Int × Int) : Option (Int × LL) :=
 match p with
 | (a0,a1,a2) =>
  if (decide (a2 < (a0.length : Int))) = true then
  (idx a0 a2) >>= fun a3 =>
  (Kpq (a3,a1)) >>= fun (a4,a5) =>
  Kq6 ((List.set a0 (Int.toNat a2) a5),a4,(wr (a2 + 1)))
  else
  some ((a1,a0))
 partial_fixpoint
def Kq7 (p : LL × Int × Int) (fl : Int × LL) : Prop :=
 match p with
 | (a0,a1,a2) => ∀ c : Ctx,c.nt = 19 → WpL Tryz.prog c (cl (cl (cr (cl (cr B28))))) (Kq5 c fl) (mkS [(0,.rs 1000),(1,I a1),(5,I a2)] [(1000,.arr (List.map K15 a0))])
theorem Kq8 : ∀ p r,Kq6 p = some r → Kq7 p r := by
 refine Kq6.partial_correctness Kq7 ?_
 rintro laws_markIntSS_l0_f laws_markIntSS_l0_ih ⟨a0,a1,a2⟩ r h
 intro c hc
 refine WpL.step ?_
 refine sN ?_
 refine rss hc none [oN,oN,some (.eqv (.no) ⟨[(8,I (a0.length : Int))],[],[]⟩),oN] [(0,.rs 1000),(1,I a1),(5,I a2),(9,.bool (decide (a2 < (a0.length : Int))))] (ai (Qcz (d := 8) K15 a0) tv) ?_
 refine ic h (fun a3 h => ?_) fun a3 h => ?_
 ·refine sk ?_
  refine sN ?_
  refine bk 1 ?_
  obtain ⟨a4,a5,h⟩ := Qct h
  refine Wp.view (fun a w hv => SRx.openL 1000 (Int.toNat a2) 0 2 [2,1000] (xs := List.map K15 a0) (ys := List.map I a4) (x0 := oI a4) hv (by kernel_rfl) (Qcx a5 (K16 a4)).2 (by kernel_rfl) (by kernel_rfl) (by kernel_rfl)) (?_ : Wp Tryz.prog c _ _ (mkS [(0,.rs 1000),(1,I a1),(5,I a2),(9,.bool (decide (a2 < (a0.length : Int))))] [(2,rI a4),(1000,.arx (List.map K15 a0) (Int.toNat a2) 0 2)]))
  obtain ⟨⟨a6,a7⟩,a8,h⟩ := Qct h
  refine rg hc none [oN,oN,oN,some (.el (oI a4)),oN,some (.call (I a6) [oI a7,.undef] 1),oN] [(0,.rs 1000),(1,I a6),(5,I a2)] [(2,rI a7),(1000,.arx (List.map K15 a0) (Int.toNat a2) 0 2)] (ad (Qcy (enc := K15) a5) (And.intro (Qcx a5 (K16 a4)).2 (rfl : Int.toNat a2 = Int.toNat a2)) (Kps _ _ a8) K88 tv) ?_
  refine Wp.view (fun a w hv => SRx.closeL 1000 (Int.toNat a2) 0 2 [1000] (xs := List.map K15 a0) (ys := List.map I a7) (x0 := oI a4) (x1 := oI a7) hv (by kernel_rfl) (by kernel_rfl) (by kernel_rfl) (Qcx a5 (K16 a4)).2 (by kernel_rfl) (by kernel_rfl : _ = oI a7) (Qdw (enc := K15) (i := Int.toNat a2) (l := a0) (v := a7) (x := oI a7) (K16 a7)) (by kernel_rfl)) (?_ : Wp Tryz.prog c _ _ (mkS [(0,.rs 1000),(1,I a6),(5,I a2)] [(1000,.arr (List.map K15 (List.set a0 (Int.toNat a2) a7)))]))
  refine K8g hc 3 [(0,.rs 1000),(1,I a6),(5,I (wr (a2 + 1)))] ?_
  refine Qcb ?_
  exact (laws_markIntSS_l0_ih _ _ h c hc)
 refine xt 0 ?_
 refine Qc5 ?_
 refine Qcc ?_
 obtain ⟨rfl,rfl⟩ := Prod.mk.inj (Option.some.inj h)
 exact iv []
def Kq9 (p : LL × Int) : Option (Int × LL) :=
 match p with
 | (a0,k1) =>
  (Kq6 (a0,k1,0)) >>= fun (a1,a2) =>
  some (a1,a2)
def Kqa (p : LL × Int) (r : Int × LL) : Prop :=
 match p with
 | (a0,k1) => Q71 Tryz.prog 28 [.osl (List.map K15 a0),I k1] (I r.1) [.osl (List.map K15 r.2),.undef]
theorem Kqb : ∀ p r,Kq9 p = some r → Kqa p r := by
 rintro ⟨a0,k1⟩ r h
 unfold Kq9 at h
 refine Q71.bodyO K2w (fn := Tryz.f28) (code := B28) (by kernel_rfl) (by kernel_rfl) (by kernel_rfl) (nt := 19) (by kernel_rfl) (by kernel_rfl) (T := [(0,.rs 1000),(1,I k1)]) (O := [(1000,.arr (List.map K15 a0))]) (by kernel_rfl) (by kernel_rfl) (fun c hc => ?_)
 refine K8h hc 1 [(0,.rs 1000),(1,I k1)] ?_
 refine sN ?_
 refine K8h hc 1 [(0,.rs 1000),(1,I k1),(5,I 0)] ?_
 refine bk 0 ?_
 obtain ⟨⟨a1,a2⟩,a3,h⟩ := Qct h
 have hL := Kq8 _ _ a3 c hc
 refine lp ?_
 refine WpL.into (e := (.exit 0)) (mkS [(1,I a1)] [(1000,.arr (List.map K15 a2))]) hL ?_
 refine Qc7 ?_
 refine K8h hc 2 [(4,I a1)] ?_
 refine rt ?_
 obtain rfl := os h
 exact Qcq.ret (fl := [true]) (by kernel_rfl)
def Kqc (c : Ctx) : Int × (List K01) → Exit → Q0a → Prop
 | (a0,a1) => Qcf c (.exit 0) (mkS [(1,I a0)] [(1000,.arr (List.map K0j a1))])
mutual
def Kqd (p : (List K01) × Int) : Option (Int × (List K01)) :=
 match p with
 | (a0,k1) =>
  (Kqe (a0,k1,0)) >>= fun (a1,a2) =>
  some (a1,a2)
 partial_fixpoint
def Kqe (p : (List K01) × Int × Int) : Option (Int × (List K01)) :=
 match p with
 | (a0,a1,a2) =>
  if (decide (a2 < (a0.length : Int))) = true then
  (idx a0 a2) >>= fun a3 =>
  (idx (List.set a0 (Int.toNat a2) (K01.mk a1 a3.fN a3.fType a3.fKids)) a2) >>= fun a4 =>
  (idx (List.set (List.set a0 (Int.toNat a2) (K01.mk a1 a3.fN a3.fType a3.fKids)) (Int.toNat a2) (K01.mk a4.fOp (wr (a1 + 1)) a4.fType a4.fKids)) a2) >>= fun a5 =>
  (Kpq (a5.fType,(wr ((wr (a1 + 1)) + 1)))) >>= fun (a6,a7) =>
  (idx (List.set (List.set (List.set a0 (Int.toNat a2) (K01.mk a1 a3.fN a3.fType a3.fKids)) (Int.toNat a2) (K01.mk a4.fOp (wr (a1 + 1)) a4.fType a4.fKids)) (Int.toNat a2) (K01.mk a5.fOp a5.fN a7 a5.fKids)) a2) >>= fun a8 =>
  (Kqd (a8.fKids,a6)) >>= fun (a9,b1) =>
  Kqe ((List.set (List.set (List.set (List.set a0 (Int.toNat a2) (K01.mk a1 a3.fN a3.fType a3.fKids)) (Int.toNat a2) (K01.mk a4.fOp (wr (a1 + 1)) a4.fType a4.fKids)) (Int.toNat a2) (K01.mk a5.fOp a5.fN a7 a5.fKids)) (Int.toNat a2) (K01.mk a8.fOp a8.fN a8.fType b1)),a9,(wr (a2 + 1)))
  else
  some ((a1,a0))
 partial_fixpoint
end
def Kqf (p : (List K01) × Int) (r : Int × (List K01)) : Prop :=
 match p with
 | (a0,k1) => Q71 Tryz.prog 81 [.osl (List.map K0j a0),I k1] (I r.1) [.osl (List.map K0j r.2),.undef]
def Kqg (p : (List K01) × Int × Int) (fl : Int × (List K01)) : Prop :=
 match p with
 | (a0,a1,a2) => ∀ c : Ctx,c.nt = 41 → WpL Tryz.prog c (cl (cl (cr (cl (cr B81))))) (Kqc c fl) (mkS [(0,.rs 1000),(1,I a1),(5,I a2)] [(1000,.arr (List.map K0j a0))])
theorem Kqh : (∀ p r,Kqd p = some r → Kqf p r) ∧ (∀ p r,Kqe p = some r → Kqg p r) := by
 refine Kqd.mutual_partial_correctness Kqf Kqg ?_ ?_
 ·rintro laws_markTermS_l0_f laws_markTermS_l0_ih ⟨a0,k1⟩ r h
  refine Q71.bodyO K2w (fn := Tryz.f81) (code := B81) (by kernel_rfl) (by kernel_rfl) (by kernel_rfl) (nt := 41) (by kernel_rfl) (by kernel_rfl) (T := [(0,.rs 1000),(1,I k1)]) (O := [(1000,.arr (List.map K0j a0))]) (by kernel_rfl) (by kernel_rfl) (fun c hc => ?_)
  refine K8h hc 1 [(0,.rs 1000),(1,I k1)] ?_
  refine sN ?_
  refine K8h hc 1 [(0,.rs 1000),(1,I k1),(5,I 0)] ?_
  refine bk 0 ?_
  obtain ⟨⟨a1,a2⟩,a3,h⟩ := Qct h
  have hL := laws_markTermS_l0_ih _ _ a3 c hc
  refine lp ?_
  refine WpL.into (e := (.exit 0)) (mkS [(1,I a1)] [(1000,.arr (List.map K0j a2))]) hL ?_
  refine Qc7 ?_
  refine K8h hc 2 [(4,I a1)] ?_
  refine rt ?_
  obtain rfl := os h
  exact Qcq.ret (fl := [true]) (by kernel_rfl)
 ·rintro laws_markTermS_f laws_markTermS_l0_f laws_markTermS_ih laws_markTermS_l0_ih ⟨a4,a5,a6⟩ r h
  intro c hc
  refine WpL.step ?_
  refine sN ?_
  refine rss hc none [oN,oN,some (.eqv (.no) ⟨[(8,I (a4.length : Int))],[],[]⟩),oN] [(0,.rs 1000),(1,I a5),(5,I a6),(9,.bool (decide (a6 < (a4.length : Int))))] (ai (Qcz (d := 8) K0j a4) tv) ?_
  refine ic h (fun a7 h => ?_) fun a7 h => ?_
  ·refine sk ?_
   refine sN ?_
   refine bk 1 ?_
   obtain ⟨a8,a9,h⟩ := Qct h
   refine rs hc none [oN,oN,oN,oN,oN,some (.eqv (.el (K24 a8)) ⟨[],[(1000,some (.arr (List.map K0j (List.set a4 (Int.toNat a6) (K01.mk a5 a8.fN a8.fType a8.fKids)))))],[]⟩)] [(0,.rs 1000),(1,I a5),(5,I a6)] [(1000,.arr (List.map K0j (List.set a4 (Int.toNat a6) (K01.mk a5 a8.fN a8.fType a8.fKids))))] (ac (Qcy (enc := K0j) a9) (congrArg (fun z => (⟨[],[(1000,some (.arr z))],[]⟩ : Wr)) (Qdw (enc := K0j) (i := Int.toNat a6) (l := a4) (v := (K01.mk a5 a8.fN a8.fType a8.fKids)) (x := AV.agg [I a5,I a8.fN,oI a8.fType,.osl (List.map K0j a8.fKids)]) (K0p (K01.mk a5 a8.fN a8.fType a8.fKids)))) (Qcx a9 (K0p a8)).2 tv) ?_
   refine K8h hc 3 [(0,.rs 1000),(1,I (wr (a5 + 1))),(5,I a6)] ?_
   obtain ⟨b1,b2,h⟩ := Qct h
   refine rs hc none [oN,oN,oN,oN,oN,some (.eqv (.el (K24 b1)) ⟨[],[(1000,some (.arr (List.map K0j (List.set (List.set a4 (Int.toNat a6) (K01.mk a5 a8.fN a8.fType a8.fKids)) (Int.toNat a6) (K01.mk b1.fOp (wr (a5 + 1)) b1.fType b1.fKids)))))],[]⟩)] [(0,.rs 1000),(1,I (wr (a5 + 1))),(5,I a6)] [(1000,.arr (List.map K0j (List.set (List.set a4 (Int.toNat a6) (K01.mk a5 a8.fN a8.fType a8.fKids)) (Int.toNat a6) (K01.mk b1.fOp (wr (a5 + 1)) b1.fType b1.fKids))))] (ac (Qcy (enc := K0j) b2) (congrArg (fun z => (⟨[],[(1000,some (.arr z))],[]⟩ : Wr)) (Qdw (enc := K0j) (i := Int.toNat a6) (l := (List.set a4 (Int.toNat a6) (K01.mk a5 a8.fN a8.fType a8.fKids))) (v := (K01.mk b1.fOp (wr (a5 + 1)) b1.fType b1.fKids)) (x := AV.agg [I b1.fOp,I (wr (a5 + 1)),oI b1.fType,.osl (List.map K0j b1.fKids)]) (K0p (K01.mk b1.fOp (wr (a5 + 1)) b1.fType b1.fKids)))) (Qcx b2 (K0p b1)).2 tv) ?_
   refine K8h hc 3 [(0,.rs 1000),(1,I (wr ((wr (a5 + 1)) + 1))),(5,I a6)] ?_
   refine sN ?_
   obtain ⟨b3,b4,h⟩ := Qct h
   refine Wp.view (fun a w hv => SRx.openL 1000 (Int.toNat a6) 2 3 [3,1000] (xs := List.map K0j (List.set (List.set a4 (Int.toNat a6) (K01.mk a5 a8.fN a8.fType a8.fKids)) (Int.toNat a6) (K01.mk b1.fOp (wr (a5 + 1)) b1.fType b1.fKids))) (ys := List.map I b3.fType) (x0 := K24 b3) hv (by kernel_rfl) (Qcx b4 (K0p b3)).2 (by kernel_rfl) (by kernel_rfl) (by kernel_rfl)) (?_ : Wp Tryz.prog c _ _ (mkS [(0,.rs 1000),(1,I (wr ((wr (a5 + 1)) + 1))),(5,I a6)] [(3,rI b3.fType),(1000,.arx (List.map K0j (List.set (List.set a4 (Int.toNat a6) (K01.mk a5 a8.fN a8.fType a8.fKids)) (Int.toNat a6) (K01.mk b1.fOp (wr (a5 + 1)) b1.fType b1.fKids))) (Int.toNat a6) 2 3)]))
   obtain ⟨⟨b5,b6⟩,b7,h⟩ := Qct h
   refine rg hc none [oN,oN,oN,oN,some (.el (K24 b3)),oN,some (.call (I b5) [oI b6,.undef] 1),oN] [(0,.rs 1000),(1,I b5),(5,I a6)] [(3,rI b6),(1000,.arx (List.map K0j (List.set (List.set a4 (Int.toNat a6) (K01.mk a5 a8.fN a8.fType a8.fKids)) (Int.toNat a6) (K01.mk b1.fOp (wr (a5 + 1)) b1.fType b1.fKids))) (Int.toNat a6) 2 3)] (ad (Qcy (enc := K0j) b4) (And.intro (Qcx b4 (K0p b3)).2 (rfl : Int.toNat a6 = Int.toNat a6)) (Kps _ _ b7) K88 tv) ?_
   refine Wp.view (fun a w hv => SRx.closeL 1000 (Int.toNat a6) 2 3 [1000] (xs := List.map K0j (List.set (List.set a4 (Int.toNat a6) (K01.mk a5 a8.fN a8.fType a8.fKids)) (Int.toNat a6) (K01.mk b1.fOp (wr (a5 + 1)) b1.fType b1.fKids))) (ys := List.map I b6) (x0 := K24 b3) (x1 := AV.agg [I b3.fOp,I b3.fN,oI b6,.osl (List.map K0j b3.fKids)]) hv (by kernel_rfl) (by kernel_rfl) (by kernel_rfl) (Qcx b4 (K0p b3)).2 (by kernel_rfl) (by kernel_rfl : _ = AV.agg [I b3.fOp,I b3.fN,oI b6,.osl (List.map K0j b3.fKids)]) (Qdw (enc := K0j) (i := Int.toNat a6) (l := (List.set (List.set a4 (Int.toNat a6) (K01.mk a5 a8.fN a8.fType a8.fKids)) (Int.toNat a6) (K01.mk b1.fOp (wr (a5 + 1)) b1.fType b1.fKids))) (v := (K01.mk b3.fOp b3.fN b6 b3.fKids)) (x := AV.agg [I b3.fOp,I b3.fN,oI b6,.osl (List.map K0j b3.fKids)]) (K0p (K01.mk b3.fOp b3.fN b6 b3.fKids))) (by kernel_rfl)) (?_ : Wp Tryz.prog c _ _ (mkS [(0,.rs 1000),(1,I b5),(5,I a6)] [(1000,.arr (List.map K0j (List.set (List.set (List.set a4 (Int.toNat a6) (K01.mk a5 a8.fN a8.fType a8.fKids)) (Int.toNat a6) (K01.mk b1.fOp (wr (a5 + 1)) b1.fType b1.fKids)) (Int.toNat a6) (K01.mk b3.fOp b3.fN b6 b3.fKids))))]))
   obtain ⟨b8,b9,h⟩ := Qct h
   refine Wp.view (fun a w hv => SRx.openL 1000 (Int.toNat a6) 3 4 [4,1000] (xs := List.map K0j (List.set (List.set (List.set a4 (Int.toNat a6) (K01.mk a5 a8.fN a8.fType a8.fKids)) (Int.toNat a6) (K01.mk b1.fOp (wr (a5 + 1)) b1.fType b1.fKids)) (Int.toNat a6) (K01.mk b3.fOp b3.fN b6 b3.fKids))) (ys := List.map K0j b8.fKids) (x0 := K24 b8) hv (by kernel_rfl) (Qcx b9 (K0p b8)).2 (by kernel_rfl) (by kernel_rfl) (by kernel_rfl)) (?_ : Wp Tryz.prog c _ _ (mkS [(0,.rs 1000),(1,I b5),(5,I a6)] [(4,.arr (List.map K0j b8.fKids)),(1000,.arx (List.map K0j (List.set (List.set (List.set a4 (Int.toNat a6) (K01.mk a5 a8.fN a8.fType a8.fKids)) (Int.toNat a6) (K01.mk b1.fOp (wr (a5 + 1)) b1.fType b1.fKids)) (Int.toNat a6) (K01.mk b3.fOp b3.fN b6 b3.fKids))) (Int.toNat a6) 3 4)]))
   obtain ⟨⟨c0,c1⟩,c2,h⟩ := Qct h
   refine rg hc none [oN,oN,oN,oN,some (.el (K24 b8)),oN,some (.call (I c0) [.osl (List.map K0j c1),.undef] 1),oN] [(0,.rs 1000),(1,I c0),(5,I a6)] [(4,.arr (List.map K0j c1)),(1000,.arx (List.map K0j (List.set (List.set (List.set a4 (Int.toNat a6) (K01.mk a5 a8.fN a8.fType a8.fKids)) (Int.toNat a6) (K01.mk b1.fOp (wr (a5 + 1)) b1.fType b1.fKids)) (Int.toNat a6) (K01.mk b3.fOp b3.fN b6 b3.fKids))) (Int.toNat a6) 3 4)] (ad (Qcy (enc := K0j) b9) (And.intro (Qcx b9 (K0p b8)).2 (rfl : Int.toNat a6 = Int.toNat a6)) (laws_markTermS_ih _ _ c2) K8c tv) ?_
   refine Wp.view (fun a w hv => SRx.closeL 1000 (Int.toNat a6) 3 4 [1000] (xs := List.map K0j (List.set (List.set (List.set a4 (Int.toNat a6) (K01.mk a5 a8.fN a8.fType a8.fKids)) (Int.toNat a6) (K01.mk b1.fOp (wr (a5 + 1)) b1.fType b1.fKids)) (Int.toNat a6) (K01.mk b3.fOp b3.fN b6 b3.fKids))) (ys := List.map K0j c1) (x0 := K24 b8) (x1 := AV.agg [I b8.fOp,I b8.fN,oI b8.fType,.osl (List.map K0j c1)]) hv (by kernel_rfl) (by kernel_rfl) (by kernel_rfl) (Qcx b9 (K0p b8)).2 (by kernel_rfl) (by kernel_rfl : _ = AV.agg [I b8.fOp,I b8.fN,oI b8.fType,.osl (List.map K0j c1)]) (Qdw (enc := K0j) (i := Int.toNat a6) (l := (List.set (List.set (List.set a4 (Int.toNat a6) (K01.mk a5 a8.fN a8.fType a8.fKids)) (Int.toNat a6) (K01.mk b1.fOp (wr (a5 + 1)) b1.fType b1.fKids)) (Int.toNat a6) (K01.mk b3.fOp b3.fN b6 b3.fKids))) (v := (K01.mk b8.fOp b8.fN b8.fType c1)) (x := AV.agg [I b8.fOp,I b8.fN,oI b8.fType,.osl (List.map K0j c1)]) (K0p (K01.mk b8.fOp b8.fN b8.fType c1))) (by kernel_rfl)) (?_ : Wp Tryz.prog c _ _ (mkS [(0,.rs 1000),(1,I c0),(5,I a6)] [(1000,.arr (List.map K0j (List.set (List.set (List.set (List.set a4 (Int.toNat a6) (K01.mk a5 a8.fN a8.fType a8.fKids)) (Int.toNat a6) (K01.mk b1.fOp (wr (a5 + 1)) b1.fType b1.fKids)) (Int.toNat a6) (K01.mk b3.fOp b3.fN b6 b3.fKids)) (Int.toNat a6) (K01.mk b8.fOp b8.fN b8.fType c1))))]))
   refine K8g hc 3 [(0,.rs 1000),(1,I c0),(5,I (wr (a6 + 1)))] ?_
   refine Qcb ?_
   exact (laws_markTermS_l0_ih _ _ h c hc)
  refine xt 0 ?_
  refine Qc5 ?_
  refine Qcc ?_
  obtain ⟨rfl,rfl⟩ := Prod.mk.inj (Option.some.inj h)
  exact iv []
theorem Kqi : ∀ p r,Kqd p = some r → Kqf p r := Kqh.1
theorem Kqj : ∀ p r,Kqe p = some r → Kqg p r := Kqh.2
def Kqk (p : K01 × Int) : Option (Int × K01) :=
 match p with
 | (a0,k1) =>
  (Kpq (a0.fType,k1)) >>= fun (a1,a2) =>
  (Kqd (a0.fKids,a1)) >>= fun (a3,a4) =>
  some (a3,(K01.mk a0.fOp a0.fN a2 a4))
def Kql (p : K01 × Int) (r : Int × K01) : Prop :=
 match p with
 | (a0,k1) => Q71 Tryz.prog 29 [K24 a0,I k1] (I r.1) [.agg [.undef,.undef,.osl (List.map I r.2.fType),.osl (List.map K0j r.2.fKids)],.undef]
theorem Kqm : ∀ p r,Kqk p = some r → Kql p r := by
 rintro ⟨a0,k1⟩ r h
 unfold Kqk at h
 refine Q71.bodyO K2w (fn := Tryz.f29) (code := B29) (by kernel_rfl) (by kernel_rfl) (by kernel_rfl) (nt := 14) (by kernel_rfl) (by kernel_rfl) (T := [(0,.agg [I a0.fOp,I a0.fN,.rs 1000,.rs 1001]),(1,I k1)]) (O := [(1000,rI a0.fType),(1001,.arr (List.map K0j a0.fKids))]) (by kernel_rfl) (by kernel_rfl) (fun c hc => ?_)
 refine rs hc none [some (.new 1),oN] [(1,I k1),(2,.ra 1 0)] [(1,.box [I a0.fOp,I a0.fN,.rs 1000,.rs 1001]),(1000,rI a0.fType),(1001,.arr (List.map K0j a0.fKids))] tv ?_
 obtain ⟨⟨a1,a2⟩,a3,h⟩ := Qct h
 refine rs hc none [oN,oN,oN,some (.call (I a1) [oI a2,.undef] 1),oN] [(1,I a1),(2,.ra 1 0)] [(1,.box [I a0.fOp,I a0.fN,.rs 1000,.rs 1001]),(1000,rI a2),(1001,.arr (List.map K0j a0.fKids))] (ab (Kps _ _ a3) K88 tv) ?_
 obtain ⟨⟨a4,a5⟩,a6,h⟩ := Qct h
 refine rs hc none [oN,oN,oN,some (.call (I a4) [.osl (List.map K0j a5),.undef] 1),oN] [(1,I a4)] [(1000,rI a2),(1001,.arr (List.map K0j a5))] (ab (Kqi _ _ a6) K8c tv) ?_
 refine K8h hc 2 [(4,I a4)] ?_
 refine rt ?_
 obtain rfl := os h
 exact Qcq.ret (fl := [true]) (by kernel_rfl)
def Kqn (c : Ctx) : (Int) ⊕ (Int) → Exit → Q0a → Prop
 | .inl a0 => Qcf c (.exit 0) (mkS [(1,I a0)] [])
 | .inr r => Qco TIx Tryz.f31 [] (I r)
def Kqo (p : (List Int) × Int × Int) : Option ((Int) ⊕ (Int)) :=
 match p with
 | (a0,a1,a2) =>
  if (decide (a2 < (a0.length : Int))) = true then
  (idx a0 a2) >>= fun a3 =>
  if (a3 != a1) = true then
  some (.inr (-1))
  else
  Kqo (a0,(wr (a1 + 1)),(wr (a2 + 1)))
  else
  some (.inl a1)
 partial_fixpoint
def Kqp (p : (List Int) × Int × Int) (fl : (Int) ⊕ (Int)) : Prop :=
 match p with
 | (a0,a1,a2) => ∀ c : Ctx,c.nt = 21 → WpL Tryz.prog c (cl (cl (cr (cl (cr B31))))) (Kqn c fl) (mkS [(0,sI a0),(1,I a1),(5,I a2)] [])
theorem Kqq : ∀ p r,Kqo p = some r → Kqp p r := by
 refine Kqo.partial_correctness Kqp ?_
 rintro laws_heldIntS_l0_f laws_heldIntS_l0_ih ⟨a0,a1,a2⟩ r h
 intro c hc
 refine WpL.step ?_
 refine sN ?_
 refine rs hc none [oN,oN,some (.eqv (.no) ⟨[(8,I (a0.length : Int))],[],[]⟩),oN] [(0,sI a0),(1,I a1),(5,I a2),(9,.bool (decide (a2 < (a0.length : Int))))] [] (ai (Qcz (d := 8) I a0) tv) ?_
 refine ic h (fun a3 h => ?_) fun a3 h => ?_
 ·refine sk ?_
  refine sN ?_
  refine bk 1 ?_
  refine sN ?_
  obtain ⟨a4,a5,h⟩ := Qct h
  refine rs hc none [oN,oN,some (.el (I a4)),oN,oN,oN] [(0,sI a0),(1,I a1),(5,I a2),(17,.bool (a4 != a1))] [] (ai (ix a5) tv) ?_
  refine ic h (fun a6 h => ?_) fun a6 h => ?_
  ·refine rs0 hc 1 [(4,I (-1))] [] ?_
   refine rt ?_
   obtain rfl := os h
   exact re [true]
  refine sk ?_
  refine rg0 hc 3 [(0,sI a0),(1,I (wr (a1 + 1))),(5,I a2)] [] ?_
  refine rg0 hc 3 [(0,sI a0),(1,I (wr (a1 + 1))),(5,I (wr (a2 + 1)))] [] ?_
  refine Qcb ?_
  exact (laws_heldIntS_l0_ih _ _ h c hc)
 refine xt 0 ?_
 refine Qc5 ?_
 refine Qcc ?_
 obtain rfl := os h
 exact iv []
def Kqr (p : (List Int) × Int) : Option (Int) :=
 match p with
 | (a0,k1) =>
  (Kqo (a0,k1,0)) >>= fun fl => match fl with
  | .inl a1 =>
   some a1
  | .inr r =>
   some r
def Kqs (p : (List Int) × Int) (r : Int) : Prop :=
 match p with
 | (a0,k1) => Q71 Tryz.prog 31 [sI a0,I k1] (I r) []
theorem Kqt : ∀ p r,Kqr p = some r → Kqs p r := by
 rintro ⟨a0,k1⟩ r h
 unfold Kqr at h
 refine b0 Tryz.f31 B31 21 [(0,sI a0),(1,I k1)] fun c hc => ?_
 refine rs0 hc 1 [(0,sI a0),(1,I k1)] [] ?_
 refine sN ?_
 refine rs0 hc 1 [(0,sI a0),(1,I k1),(5,I 0)] [] ?_
 refine bk 0 ?_
 obtain ⟨fl,a1,h⟩ := Qct h
 have hL := Kqq _ _ a1 c hc
 refine lp ?_
 rcases fl with a2 | r
 ·refine WpL.into (e := (.exit 0)) (mkS [(1,I a2)] []) hL ?_
  refine Qc7 ?_
  refine rs0 hc 2 [(4,I a2)] [] ?_
  refine rt ?_
  obtain rfl := os h
  exact rq [true]
 refine WpL.mono hL ?_
 rintro _ _ ⟨rfl,hfin⟩
 obtain rfl := os h
 exact ⟨.inl rfl,hfin⟩
def Kqu (p : K00 × (List Int) × LL × K01) : Option (Bool) :=
 match p with
 | (aS0,aView1,aCtx2,aT3) =>
  if (decide ((aView1.length : Int) > 1048576)) = true then
  some true
  else
  (K8p (aS0,1048576)) >>= fun a0 =>
  if (decide (a0 < 0)) = true then
  some true
  else
  (K8w (aCtx2,a0)) >>= fun a1 =>
  if (decide (a1 < 0)) = true then
  some true
  else
  (K90 (aT3,a1)) >>= fun a2 =>
  if (decide (a2 < 0)) = true then
  some true
  else
  (K9o aS0) >>= fun a3 =>
  (K9e aView1) >>= fun a4 =>
  (K9v aCtx2) >>= fun a5 =>
  (K9z aT3) >>= fun a6 =>
  (Kgs (a3,a4,a5,a6)) >>= fun a7 =>
  (K9o aS0) >>= fun a8 =>
  (K9e aView1) >>= fun a9 =>
  (K9v aCtx2) >>= fun b1 =>
  (K9z aT3) >>= fun b2 =>
  (Kok (a8,a9,b1,b2)) >>= fun b3 =>
  (Kor (b3,a7)) >>= fun b4 =>
  if b4 = true then
  (K9o aS0) >>= fun b5 =>
  (Kp1 (a8,b5)) >>= fun b6 =>
  if b6 = true then
  (K9e aView1) >>= fun b7 =>
  (Kor (a9,b7)) >>= fun b8 =>
  if b8 = true then
  (K9v aCtx2) >>= fun b9 =>
  (Kp8 (b1,b9)) >>= fun c0 =>
  if c0 = true then
  (K9z aT3) >>= fun c1 =>
  (Kpc (b2,c1)) >>= fun c2 =>
  if c2 = true then
  (Kq2 (a8,1)) >>= fun (c3,c4) =>
  (Kpq (a9,c3)) >>= fun (c5,c6) =>
  (Kq9 (b1,c5)) >>= fun (c7,c8) =>
  (Kqk (b2,c7)) >>= fun (c9,d0) =>
  ((
  if (decide (c9 < 0)) = true then
  some (true)
  else
  (Kor (b3,a7)) >>= fun d1 =>
  some ((!d1))
  ) : Option (Bool)) >>= fun d2 =>
  if d2 = true then
  some false
  else
  (Kpq (b3,1)) >>= fun (d3,d4) =>
  (Kqr (d4,1)) >>= fun d5 =>
  if (decide (d5 < 0)) = true then
  some false
  else
  if (d5 != d3) = true then
  some false
  else
  (K9o aS0) >>= fun d6 =>
  (K9e aView1) >>= fun d7 =>
  (K9v aCtx2) >>= fun d8 =>
  (K9z aT3) >>= fun d9 =>
  (Kok (d6,d7,d8,d9)) >>= fun e0 =>
  (Kor (e0,a7)) >>= fun e1 =>
  if e1 = true then
  (Kqr (d4,1)) >>= fun e2 =>
  if (decide (e2 < 0)) = true then
  some false
  else
  if (e2 != d3) = true then
  some false
  else
  some true
  else
  some false
  else
  some false
  else
  some false
  else
  some false
  else
  some false
  else
  some false
def Kqv (p : K00 × (List Int) × LL × K01) (r : Bool) : Prop :=
 match p with
 | (aS0,aView1,aCtx2,aT3) => Q71 Tryz.prog 7 [K1t aS0,sI aView1,sL aCtx2,K1v aT3] (.bool r) []
theorem Kqw : ∀ p r,Kqu p = some r → Kqv p r := by
 rintro ⟨aS0,aView1,aCtx2,aT3⟩ r h
 unfold Kqu at h
 refine b0 Tryz.f7 B7 136 [(0,K1t aS0),(1,sI aView1),(2,sL aCtx2),(3,K1v aT3)] fun c hc => ?_
 refine rs hc none [some (.new 1),some (.new 2),oN] [(1,sI aView1),(2,sL aCtx2),(4,.ra 1 0),(7,.ra 2 0)] [(1,K1s aS0),(2,K1u aT3)] tv ?_
 refine sN ?_
 refine rss hc none [oN,some (.eqv (.no) ⟨[(21,I (aView1.length : Int))],[],[]⟩),oN] [(1,sI aView1),(2,sL aCtx2),(4,.ra 1 0),(7,.ra 2 0),(22,.bool (decide ((aView1.length : Int) > 1048576)))] (ai (Qcz (d := 21) I aView1) tv) ?_
 refine ic h (fun a0 h => ?_) fun a0 h => ?_
 ·refine rs0 hc 1 [(8,.bool true)] [] ?_
  refine rt ?_
  obtain rfl := os h
  exact rq [true]
 refine sk ?_
 refine K8h hc 1 [(1,sI aView1),(2,sL aCtx2),(4,.ra 1 0),(7,.ra 2 0),(9,I 1048576)] ?_
 obtain ⟨a1,a2,h⟩ := Qct h
 refine rss hc none [oN,oN,oc (I a1),oN] [(1,sI aView1),(2,sL aCtx2),(4,.ra 1 0),(7,.ra 2 0),(9,I a1)] (cq (K8r _ _ a2) K2z tv) ?_
 refine sN ?_
 refine K8h hc 2 [(1,sI aView1),(2,sL aCtx2),(4,.ra 1 0),(7,.ra 2 0),(9,I a1),(27,.bool (decide (a1 < 0)))] ?_
 refine ic h (fun a3 h => ?_) fun a3 h => ?_
 ·refine rs0 hc 1 [(8,.bool true)] [] ?_
  refine rt ?_
  obtain rfl := os h
  exact rq [true]
 refine sk ?_
 obtain ⟨a4,a5,h⟩ := Qct h
 refine rss hc none [oN,oN,oc (I a4),oN] [(1,sI aView1),(2,sL aCtx2),(4,.ra 1 0),(7,.ra 2 0),(9,I a4)] (cq (K8y _ _ a5) K30 tv) ?_
 refine sN ?_
 refine K8h hc 2 [(1,sI aView1),(2,sL aCtx2),(4,.ra 1 0),(7,.ra 2 0),(9,I a4),(32,.bool (decide (a4 < 0)))] ?_
 refine ic h (fun a6 h => ?_) fun a6 h => ?_
 ·refine rs0 hc 1 [(8,.bool true)] [] ?_
  refine rt ?_
  obtain rfl := os h
  exact rq [true]
 refine sk ?_
 obtain ⟨a7,a8,h⟩ := Qct h
 refine rss hc none [oN,oN,oc (I a7),oN] [(1,sI aView1),(2,sL aCtx2),(4,.ra 1 0),(7,.ra 2 0),(9,I a7)] (cq (K97 _ _ a8) K32 tv) ?_
 refine sN ?_
 refine K8h hc 2 [(1,sI aView1),(2,sL aCtx2),(4,.ra 1 0),(7,.ra 2 0),(37,.bool (decide (a7 < 0)))] ?_
 refine ic h (fun a9 h => ?_) fun a9 h => ?_
 ·refine rs0 hc 1 [(8,.bool true)] [] ?_
  refine rt ?_
  obtain rfl := os h
  exact rq [true]
 refine sk ?_
 obtain ⟨b1,b2,b3,b4,b5,b6,b7,b8,h⟩ := bq4 h
 obtain ⟨b9,c0,h⟩ := Qct h
 refine rs hc Kq0 [oN,some (.call (K22 b1) [] 3),oN,some (.call (oI b3) [] 6),oN,some (.call (.osl (List.map K15 b5)) [] 7),oN,some (.call (K24 b7) [] 8),some (.call (oI b9) [] 10),oN] [(1,sI aView1),(2,sL aCtx2),(4,.ra 1 0),(7,.ra 2 0),(10,.rs 10)] [(1,K1s aS0),(2,K1u aT3),(10,rI b9)] (cq (K9q _ _ b2) K35 (cq (K9g _ _ b4) K33 (cq (K9x _ _ b6) K36 (cq (Ka6 _ _ b8) K38 (ac (Q71.args (A1 := [K23 b1,.sl (Q02 (List.map I b3)),.sl (Q02 (List.map K15 b5)),K25 b7]) (A2 := [K1t b1,sI b3,sL b5,K1v b7]) (by simp only [K23,K25,List.map_nil,Qdn,K1f,Qdl,K19]) (Kgu _ _ c0)) K5k (Or.inr (Qdt Qdp b9) : ([3,4,5,6,7,8,9] : List Nat) = [] ∨ noSh (oI b9) = true) tv))))) ?_
 obtain ⟨c1,c2,h⟩ := Qct h
 refine rs hc none [oN,some (.call (K22 c1) [] 11),some (.new 14),oN] [(1,sI aView1),(2,sL aCtx2),(4,.ra 1 0),(7,.ra 2 0),(10,.rs 10),(11,.ra 14 0)] [(1,K1s aS0),(2,K1u aT3),(10,rI b9),(11,rI c1.fPlus),(12,rI c1.fTimes),(13,.arr (List.map AV.bool c1.fBelow)),(14,.box [I c1.fSize,.rs 11,.rs 12,.rs 13])] (cq (K9q _ _ c2) K35 tv) ?_
 obtain ⟨c3,c4,h⟩ := Qct h
 refine rs hc none [oN,some (.call (oI c3) [] 15),oN] [(1,sI aView1),(2,sL aCtx2),(4,.ra 1 0),(7,.ra 2 0),(10,.rs 10),(11,.ra 14 0),(12,.rs 15)] [(1,K1s aS0),(2,K1u aT3),(10,rI b9),(11,rI c1.fPlus),(12,rI c1.fTimes),(13,.arr (List.map AV.bool c1.fBelow)),(14,.box [I c1.fSize,.rs 11,.rs 12,.rs 13]),(15,rI c3)] (cq (K9g _ _ c4) K33 tv) ?_
 obtain ⟨c5,c6,h⟩ := Qct h
 refine rs hc none [oN,some (.call (.osl (List.map K15 c5)) [] 16),oN] [(1,sI aView1),(2,sL aCtx2),(4,.ra 1 0),(7,.ra 2 0),(10,.rs 10),(11,.ra 14 0),(12,.rs 15),(13,.rs 16)] [(1,K1s aS0),(2,K1u aT3),(10,rI b9),(11,rI c1.fPlus),(12,rI c1.fTimes),(13,.arr (List.map AV.bool c1.fBelow)),(14,.box [I c1.fSize,.rs 11,.rs 12,.rs 13]),(15,rI c3),(16,.arr (List.map K15 c5))] (cq (K9x _ _ c6) K36 tv) ?_
 obtain ⟨c7,c8,h⟩ := Qct h
 refine rs hc none [oN,some (.call (K24 c7) [] 17),some (.new 19),oN] [(1,sI aView1),(2,sL aCtx2),(4,.ra 1 0),(7,.ra 2 0),(10,.rs 10),(11,.ra 14 0),(12,.rs 15),(13,.rs 16),(14,.ra 19 0)] [(1,K1s aS0),(2,K1u aT3),(10,rI b9),(11,rI c1.fPlus),(12,rI c1.fTimes),(13,.arr (List.map AV.bool c1.fBelow)),(14,.box [I c1.fSize,.rs 11,.rs 12,.rs 13]),(15,rI c3),(16,.arr (List.map K15 c5)),(17,rI c7.fType),(18,.arr (List.map K0j c7.fKids)),(19,.box [I c7.fOp,I c7.fN,.rs 17,.rs 18])] (cq (Ka6 _ _ c8) K38 tv) ?_
 obtain ⟨c9,d0,h⟩ := Qct h
 refine rs hc none [oN,oN,oN,oN,some (.call (oI c9) [] 20),oN] [(1,sI aView1),(2,sL aCtx2),(4,.ra 1 0),(7,.ra 2 0),(10,.rs 10),(11,.ra 14 0),(12,.rs 15),(13,.rs 16),(14,.ra 19 0),(15,.rs 20)] [(1,K1s aS0),(2,K1u aT3),(10,rI b9),(11,rI c1.fPlus),(12,rI c1.fTimes),(13,.arr (List.map AV.bool c1.fBelow)),(14,.box [I c1.fSize,.rs 11,.rs 12,.rs 13]),(15,rI c3),(16,.arr (List.map K15 c5)),(17,rI c7.fType),(18,.arr (List.map K0j c7.fKids)),(19,.box [I c7.fOp,I c7.fN,.rs 17,.rs 18]),(20,rI c9)] (ac (Q71.args (A1 := [K23 c1,.sl (Q02 (List.map I c3)),.sl (Q02 (List.map K15 c5)),K25 c7]) (A2 := [K1t c1,sI c3,sL c5,K1v c7]) (by simp only [K23,K25,List.map_nil,Qdn,K1f,Qdl,K19]) (Kom _ _ d0)) K81 (Or.inr (Qdt Qdp c9) : ([11,12,13,15,16,17,18] : List Nat) = [] ∨ noSh (oI c9) = true) tv) ?_
 refine sN ?_
 obtain ⟨d1,d2,h⟩ := Qct h
 refine rss hc none [oN,oN,oc (.bool d1),oN] [(1,sI aView1),(2,sL aCtx2),(4,.ra 1 0),(7,.ra 2 0),(10,.rs 10),(11,.ra 14 0),(12,.rs 15),(13,.rs 16),(14,.ra 19 0),(15,.rs 20),(63,.bool (!d1))] (ac (Q71.args (A1 := [.sl (Q02 (List.map I c9)),.sl (Q02 (List.map I b9))]) (A2 := [sI c9,sI b9]) (by simp only [List.map_nil,Qdl]) (Kot _ _ d2)) K82 (Or.inr rfl : ([20,10] : List Nat) = [] ∨ noSh (.bool d1) = true) tv) ?_
 rcases is h with ⟨d3,h⟩ | ⟨d3,h⟩
 ·refine cF (!d1) (nF d3) ?_
  refine sk ?_
  refine sN ?_
  obtain ⟨d4,d5,d6,d7,h⟩ := bq2 h
  refine rss hc Kq1 [oN,oN,some (.call (K22 d4) [] 21),oc (.bool d6),oN] [(1,sI aView1),(2,sL aCtx2),(4,.ra 1 0),(7,.ra 2 0),(10,.rs 10),(11,.ra 14 0),(12,.rs 15),(13,.rs 16),(14,.ra 19 0),(15,.rs 20),(68,.bool (!d6))] (cq (K9q _ _ d5) K35 (ac (Q71.args (A1 := [K23 c1,K23 d4]) (A2 := [K1t c1,K1t d4]) (by simp only [K23,List.map_nil,Qdn,Qdl]) (Kp3 _ _ d7)) K84 (Or.inr rfl : ([11,12,13,21,22,23] : List Nat) = [] ∨ noSh (.bool d6) = true) tv)) ?_
  rcases is h with ⟨d8,h⟩ | ⟨d8,h⟩
  ·refine cF (!d6) (nF d8) ?_
   refine sk ?_
   refine sN ?_
   obtain ⟨d9,e0,e1,e2,h⟩ := bq2 h
   refine rss hc none [oN,oN,some (.call (oI d9) [] 24),oc (.bool e1),oN] [(1,sI aView1),(2,sL aCtx2),(4,.ra 1 0),(7,.ra 2 0),(10,.rs 10),(11,.ra 14 0),(12,.rs 15),(13,.rs 16),(14,.ra 19 0),(15,.rs 20),(73,.bool (!e1))] (cq (K9g _ _ e0) K33 (ac (Q71.args (A1 := [.sl (Q02 (List.map I c3)),.sl (Q02 (List.map I d9))]) (A2 := [sI c3,sI d9]) (by simp only [List.map_nil,Qdl]) (Kot _ _ e2)) K82 (Or.inr rfl : ([15,24] : List Nat) = [] ∨ noSh (.bool e1) = true) tv)) ?_
   rcases is h with ⟨e3,h⟩ | ⟨e3,h⟩
   ·refine cF (!e1) (nF e3) ?_
    refine sk ?_
    refine sN ?_
    obtain ⟨e4,e5,e6,e7,h⟩ := bq2 h
    refine rss hc none [oN,oN,some (.call (.osl (List.map K15 e4)) [] 25),oc (.bool e6),oN] [(1,sI aView1),(2,sL aCtx2),(4,.ra 1 0),(7,.ra 2 0),(10,.rs 10),(11,.ra 14 0),(12,.rs 15),(13,.rs 16),(14,.ra 19 0),(15,.rs 20),(78,.bool (!e6))] (cq (K9x _ _ e5) K36 (ac (Q71.args (A1 := [.sl (Q02 (List.map K15 c5)),.sl (Q02 (List.map K15 e4))]) (A2 := [sL c5,sL e4]) (by simp only [List.map_nil,K19]) (Kpa _ _ e7)) K85 (Or.inr rfl : ([16,25] : List Nat) = [] ∨ noSh (.bool e6) = true) tv)) ?_
    rcases is h with ⟨e8,h⟩ | ⟨e8,h⟩
    ·refine cF (!e6) (nF e8) ?_
     refine sk ?_
     refine sN ?_
     obtain ⟨e9,f0,f1,f2,h⟩ := bq2 h
     refine rss hc Kq1 [oN,oN,some (.call (K24 e9) [] 26),oc (.bool f1),oN] [(1,sI aView1),(2,sL aCtx2),(4,.ra 1 0),(7,.ra 2 0),(10,.rs 10),(11,.ra 14 0),(12,.rs 15),(13,.rs 16),(14,.ra 19 0),(15,.rs 20),(83,.bool (!f1))] (cq (Ka6 _ _ f0) K38 (ac (Q71.args (A1 := [K25 c7,K25 e9]) (A2 := [K1v c7,K1v e9]) (by simp only [K25,List.map_nil,K1f,Qdl]) (Kpj _ _ f2)) K87 (Or.inr rfl : ([17,18,26,27] : List Nat) = [] ∨ noSh (.bool f1) = true) tv)) ?_
     rcases is h with ⟨f3,h⟩ | ⟨f3,h⟩
     ·refine cF (!f1) (nF f3) ?_
      refine sk ?_
      refine K8h hc 1 [(1,sI aView1),(2,sL aCtx2),(4,.ra 1 0),(7,.ra 2 0),(10,.rs 10),(11,.ra 14 0),(12,.rs 15),(13,.rs 16),(14,.ra 19 0),(15,.rs 20),(16,I 1)] ?_
      obtain ⟨⟨f4,f5⟩,f6,h⟩ := Qct h
      refine rs hc none [oN,oN,some (.call (I f4) [.agg [.undef,oI f5.fPlus,oI f5.fTimes,.osl (List.map AV.bool f5.fBelow)],.undef] 1),oN] [(1,sI aView1),(2,sL aCtx2),(4,.ra 1 0),(7,.ra 2 0),(10,.rs 10),(12,.rs 15),(13,.rs 16),(14,.ra 19 0),(15,.rs 20),(16,I f4)] [(1,K1s aS0),(2,K1u aT3),(10,rI b9),(15,rI c3),(16,.arr (List.map K15 c5)),(17,rI c7.fType),(18,.arr (List.map K0j c7.fKids)),(19,.box [I c7.fOp,I c7.fN,.rs 17,.rs 18]),(20,rI c9)] (ab (Kq4 _ _ f6) K8a tv) ?_
      obtain ⟨⟨f8,f9⟩,g0,h⟩ := Qct h
      refine rs hc none [oN,oN,some (.call (I f8) [oI f9,.undef] 1),oN] [(1,sI aView1),(2,sL aCtx2),(4,.ra 1 0),(7,.ra 2 0),(10,.rs 10),(13,.rs 16),(14,.ra 19 0),(15,.rs 20),(16,I f8)] [(1,K1s aS0),(2,K1u aT3),(10,rI b9),(16,.arr (List.map K15 c5)),(17,rI c7.fType),(18,.arr (List.map K0j c7.fKids)),(19,.box [I c7.fOp,I c7.fN,.rs 17,.rs 18]),(20,rI c9)] (ab (Kps _ _ g0) K88 tv) ?_
      obtain ⟨⟨g1,g2⟩,g3,h⟩ := Qct h
      refine rs hc none [oN,oN,some (.call (I g1) [.osl (List.map K15 g2),.undef] 1),oN] [(1,sI aView1),(2,sL aCtx2),(4,.ra 1 0),(7,.ra 2 0),(10,.rs 10),(14,.ra 19 0),(15,.rs 20),(16,I g1)] [(1,K1s aS0),(2,K1u aT3),(10,rI b9),(17,rI c7.fType),(18,.arr (List.map K0j c7.fKids)),(19,.box [I c7.fOp,I c7.fN,.rs 17,.rs 18]),(20,rI c9)] (ab (Kqb _ _ g3) K8b tv) ?_
      obtain ⟨⟨g4,g5⟩,g6,h⟩ := Qct h
      refine rs hc none [oN,oN,some (.call (I g4) [.agg [.undef,.undef,oI g5.fType,.osl (List.map K0j g5.fKids)],.undef] 1),oN] [(1,sI aView1),(2,sL aCtx2),(4,.ra 1 0),(7,.ra 2 0),(10,.rs 10),(15,.rs 20),(16,I g4)] [(1,K1s aS0),(2,K1u aT3),(10,rI b9),(20,rI c9)] (ab (Kqm _ _ g6) K8d tv) ?_
      refine sN ?_
      refine sN ?_
      obtain ⟨g7,g8,h⟩ := Qct h
      refine Wp.into (x := .normal) (mkS [(1,sI aView1),(2,sL aCtx2),(4,.ra 1 0),(7,.ra 2 0),(10,.rs 10),(15,.rs 20),(103,.bool g7)] [(1,K1s aS0),(2,K1u aT3),(10,rI b9),(20,rI c9)]) ?_ ?_
      ·replace h := g8
       rcases is h with ⟨g9,h⟩ | ⟨g9,h⟩
       ·refine rgs hc none [oN,oN,oN,o_,o_,o_,o_,oT] [(1,sI aView1),(2,sL aCtx2),(4,.ra 1 0),(7,.ra 2 0),(10,.rs 10),(15,.rs 20),(103,.bool true)] (ar 4 (neF g9) (ai g9 tv)) ?_
        obtain rfl := os h
        exact Qcf.mk
       obtain ⟨i0,i1,h⟩ := Qct h
       refine rgs hc none [oN,oN,oN,oN,oN,oc (.bool i0),oN,oF] [(1,sI aView1),(2,sL aCtx2),(4,.ra 1 0),(7,.ra 2 0),(10,.rs 10),(15,.rs 20),(103,.bool (!i0))] (ar 3 g9 (ac (Q71.args (A1 := [.sl (Q02 (List.map I c9)),.sl (Q02 (List.map I b9))]) (A2 := [sI c9,sI b9]) (by simp only [List.map_nil,Qdl]) (Kot _ _ i1)) K82 (Or.inr rfl : ([20,10] : List Nat) = [] ∨ noSh (.bool i0) = true) (ar 2 g9 tv))) ?_
       obtain rfl := os h
       exact Qcf.mk
      clear g8
      refine ic h (fun i2 h => ?_) fun i2 h => ?_
      ·refine rs0 hc 1 [(8,.bool false)] [] ?_
       refine rt ?_
       obtain rfl := os h
       exact rq [true]
      refine sk ?_
      refine K8h hc 1 [(1,sI aView1),(2,sL aCtx2),(4,.ra 1 0),(7,.ra 2 0),(10,.rs 10),(15,.rs 20),(17,I 1)] ?_
      obtain ⟨⟨i3,i4⟩,i5,h⟩ := Qct h
      refine rs hc none [oN,oN,some (.call (I i3) [oI i4,.undef] 1),oN] [(1,sI aView1),(2,sL aCtx2),(4,.ra 1 0),(7,.ra 2 0),(10,.rs 10),(15,.rs 20),(17,I i3)] [(1,K1s aS0),(2,K1u aT3),(10,rI b9),(20,rI i4)] (ab (Kps _ _ i5) K88 tv) ?_
      refine K8h hc 1 [(1,sI aView1),(2,sL aCtx2),(4,.ra 1 0),(7,.ra 2 0),(10,.rs 10),(15,.rs 20),(17,I i3),(18,I 1)] ?_
      obtain ⟨i6,i7,h⟩ := Qct h
      refine rss hc none [oN,oN,oc (I i6),oN] [(1,sI aView1),(2,sL aCtx2),(4,.ra 1 0),(7,.ra 2 0),(10,.rs 10),(15,.rs 20),(17,I i3),(18,I i6)] (ac (Q71.args (A1 := [.sl (Q02 (List.map I i4)),I 1]) (A2 := [sI i4,I 1]) (by simp only [List.map_nil,Qdl]) (Kqt _ _ i7)) K8e (Or.inr rfl : ([20] : List Nat) = [] ∨ noSh (I i6) = true) tv) ?_
      refine sN ?_
      refine K8h hc 2 [(1,sI aView1),(2,sL aCtx2),(4,.ra 1 0),(7,.ra 2 0),(10,.rs 10),(15,.rs 20),(17,I i3),(18,I i6),(111,.bool (decide (i6 < 0)))] ?_
      refine ic h (fun i8 h => ?_) fun i8 h => ?_
      ·refine rs0 hc 1 [(8,.bool false)] [] ?_
       refine rt ?_
       obtain rfl := os h
       exact rq [true]
      refine sk ?_
      refine sN ?_
      refine K8h hc 3 [(1,sI aView1),(2,sL aCtx2),(4,.ra 1 0),(7,.ra 2 0),(10,.rs 10),(15,.rs 20),(17,I i3),(114,.bool (i6 != i3))] ?_
      refine ic h (fun i9 h => ?_) fun i9 h => ?_
      ·refine rs0 hc 1 [(8,.bool false)] [] ?_
       refine rt ?_
       obtain rfl := os h
       exact rq [true]
      refine sk ?_
      obtain ⟨j0,j8,j9,k0,k1,k2,k3,k4,h⟩ := bq4 h
      obtain ⟨k5,k6,h⟩ := Qct h
      refine rs hc Kq0 [oN,some (.call (K22 j0) [] 28),oN,some (.call (oI j9) [] 31),oN,some (.call (.osl (List.map K15 k1)) [] 32),oN,some (.call (K24 k3) [] 33),some (.call (oI k5) [] 35),oN] [(10,.rs 10),(15,.rs 20),(17,I i3),(19,.rs 35)] [(10,rI b9),(20,rI i4),(35,rI k5)] (cq (K9q _ _ j8) K35 (cq (K9g _ _ k0) K33 (cq (K9x _ _ k2) K36 (cq (Ka6 _ _ k4) K38 (ac (Q71.args (A1 := [K23 j0,.sl (Q02 (List.map I j9)),.sl (Q02 (List.map K15 k1)),K25 k3]) (A2 := [K1t j0,sI j9,sL k1,K1v k3]) (by simp only [K23,K25,List.map_nil,Qdn,K1f,Qdl,K19]) (Kom _ _ k6)) K81 (Or.inr (Qdt Qdp k5) : ([28,29,30,31,32,33,34] : List Nat) = [] ∨ noSh (oI k5) = true) tv))))) ?_
      refine sN ?_
      obtain ⟨k7,k8,h⟩ := Qct h
      refine rs hc none [oN,oN,oc (.bool k7),oN] [(15,.rs 20),(17,I i3),(127,.bool (!k7))] [(20,rI i4)] (ac (Q71.args (A1 := [.sl (Q02 (List.map I k5)),.sl (Q02 (List.map I b9))]) (A2 := [sI k5,sI b9]) (by simp only [List.map_nil,Qdl]) (Kot _ _ k8)) K82 (Or.inr rfl : ([35,10] : List Nat) = [] ∨ noSh (.bool k7) = true) tv) ?_
      rcases is h with ⟨k9,h⟩ | ⟨k9,h⟩
      ·refine cF (!k7) (nF k9) ?_
       refine sk ?_
       refine K8h hc 1 [(15,.rs 20),(17,I i3),(18,I 1)] ?_
       obtain ⟨l0,l1,h⟩ := Qct h
       refine rs hc none [oN,oN,oc (I l0),oN] [(17,I i3),(18,I l0)] [] (ac (Q71.args (A1 := [.sl (Q02 (List.map I i4)),I 1]) (A2 := [sI i4,I 1]) (by simp only [List.map_nil,Qdl]) (Kqt _ _ l1)) K8e (Or.inr rfl : ([20] : List Nat) = [] ∨ noSh (I l0) = true) tv) ?_
       refine sN ?_
       refine rs0 hc 2 [(17,I i3),(18,I l0),(132,.bool (decide (l0 < 0)))] [] ?_
       refine ic h (fun l2 h => ?_) fun l2 h => ?_
       ·refine rs0 hc 1 [(8,.bool false)] [] ?_
        refine rt ?_
        obtain rfl := os h
        exact rq [true]
       refine sk ?_
       refine sN ?_
       refine rs0 hc 3 [(135,.bool (l0 != i3))] [] ?_
       refine ic h (fun l3 h => ?_) fun l3 h => ?_
       ·refine rs0 hc 1 [(8,.bool false)] [] ?_
        refine rt ?_
        obtain rfl := os h
        exact rq [true]
       refine sk ?_
       refine rs0 hc 1 [(8,.bool true)] [] ?_
       refine rt ?_
       obtain rfl := os h
       exact rq [true]
      refine cT (!k7) (nT k9) ?_
      refine rs0 hc 1 [(8,.bool false)] [] ?_
      refine rt ?_
      obtain rfl := os h
      exact rq [true]
     refine cT (!f1) (nT f3) ?_
     refine rs0 hc 1 [(8,.bool false)] [] ?_
     refine rt ?_
     obtain rfl := os h
     exact rq [true]
    refine cT (!e6) (nT e8) ?_
    refine rs0 hc 1 [(8,.bool false)] [] ?_
    refine rt ?_
    obtain rfl := os h
    exact rq [true]
   refine cT (!e1) (nT e3) ?_
   refine rs0 hc 1 [(8,.bool false)] [] ?_
   refine rt ?_
   obtain rfl := os h
   exact rq [true]
  refine cT (!d6) (nT d8) ?_
  refine rs0 hc 1 [(8,.bool false)] [] ?_
  refine rt ?_
  obtain rfl := os h
  exact rq [true]
 refine cT (!d1) (nT d3) ?_
 refine rs0 hc 1 [(8,.bool false)] [] ?_
 refine rt ?_
 obtain rfl := os h
 exact rq [true]
end Go.Am
