/- Functions of the program as pure functions,and that it computes them. Printed by a program of mine (gen.py). -/
import Derived.Test.YtmcpomoofkjfcaaGreatGCTF12
set_option linter.unusedVariables false
set_option linter.unusedSimpArgs false
set_option maxRecDepth 100000
namespace Go.Am
open Go Go.Proofs
def Kps (p : (List Int) × Int) : Option (Int × (List Int)) :=
 match p with
 | (a0,k1) =>
  (Kpp (a0,k1,0)) >>= fun (a1,a2) =>
  some (a1,a2)
def Kpt (p : (List Int) × Int) (r : Int × (List Int)) : Prop :=
 match p with
 | (a0,k1) => Q71 Tryz.prog 30 [oI a0,I k1] (I r.1) [oI r.2,.undef]
theorem Kpu : ∀ p r,Kps p = some r → Kpt p r := by
 rintro ⟨a0,k1⟩ r h
 unfold Kps at h
 refine Q71.bodyO K2w (fn := Tryz.f30) (code := B30) (by kernel_rfl) (by kernel_rfl) (by kernel_rfl) (nt := 19) (by kernel_rfl) (by kernel_rfl) (T := [(0,.rs 1000),(1,I k1)]) (O := [(1000,rI a0)]) (by kernel_rfl) (by kernel_rfl) (fun c hc => ?_)
 refine K8k hc 1 [(0,.rs 1000),(1,I k1)] ?_
 refine sN ?_
 refine K8k hc 1 [(0,.rs 1000),(1,I k1),(5,I 0)] ?_
 refine bk 0 ?_
 obtain ⟨⟨a1,a2⟩,a3,h⟩ := Qct h
 have hL := Kpr _ _ a3 c hc
 refine lp ?_
 refine WpL.into (e := (.exit 0)) (mkS [(1,I a1)] [(1000,rI a2)]) hL ?_
 refine Qc7 ?_
 refine K8k hc 2 [(4,I a1)] ?_
 refine rt ?_
 obtain rfl := os h
 exact Qcq.ret (fl := [true]) (by kernel_rfl)
def Kpv (c : Ctx) : Int × (List Bool) → Exit → Q0a → Prop
 | (a0,a1) => Qcf c (.exit 0) (mkS [(1,I a0)] [(1000,.arr (List.map AV.bool a1))])
def Kpw (p : (List Bool) × Int × Int) : Option (Int × (List Bool)) :=
 match p with
 | (a0,a1,a2) =>
  if (decide (a2 < (a0.length : Int))) = true then
  (idx a0 a2) >>= fun a3 =>
  Kpw ((List.set a0 (Int.toNat a2) ((Int.tmod a1 3) == 0)),(wr (a1 + 1)),(wr (a2 + 1)))
  else
  some ((a1,a0))
 partial_fixpoint
def Kpx (p : (List Bool) × Int × Int) (fl : Int × (List Bool)) : Prop :=
 match p with
 | (a0,a1,a2) => ∀ c : Ctx,c.nt = 21 → WpL Tryz.prog c (cl (cl (cr (cl (cr B80))))) (Kpv c fl) (mkS [(0,.rs 1000),(1,I a1),(5,I a2)] [(1000,.arr (List.map AV.bool a0))])
theorem Kpy : ∀ p r,Kpw p = some r → Kpx p r := by
 refine Kpw.partial_correctness Kpx ?_
 rintro laws_markBoolS_l0_f laws_markBoolS_l0_ih ⟨a0,a1,a2⟩ r h
 intro c hc
 refine WpL.step ?_
 refine sN ?_
 refine rss hc none [oN,oN,some (.eqv (.no) ⟨[(8,I (a0.length : Int))],[],[]⟩),oN] [(0,.rs 1000),(1,I a1),(5,I a2),(9,.bool (decide (a2 < (a0.length : Int))))] (ai (Qcz (d := 8) AV.bool a0) tv) ?_
 refine ic h (fun a3 h => ?_) fun a3 h => ?_
 ·refine sk ?_
  refine sN ?_
  refine bk 1 ?_
  obtain ⟨a4,a5,h⟩ := Qct h
  refine rs hc none [oN,oN,oN,oN,oN,oN,some (.eqv (.mk 0 true) ⟨[],[(1000,some (.arr (List.map AV.bool (List.set a0 (Int.toNat a2) ((Int.tmod a1 3) == 0)))))],[]⟩)] [(0,.rs 1000),(1,I a1),(5,I a2)] [(1000,.arr (List.map AV.bool (List.set a0 (Int.toNat a2) ((Int.tmod a1 3) == 0))))] (ad ((by decide) : (3 : Int) ≠ 0) (Qcy (enc := AV.bool) a5) (congrArg (fun z => (⟨[],[(1000,some (.arr z))],[]⟩ : Wr)) (Qdw (enc := AV.bool) (i := Int.toNat a2) (l := a0) (v := ((Int.tmod a1 3) == 0)) (x := AV.bool ((Int.tmod a1 3) == 0)) (Qda ((Int.tmod a1 3) == 0)))) (Qdx (enc := AV.bool) (sz := 1) Qde a5) tv) ?_
  refine K8j hc 3 [(0,.rs 1000),(1,I (wr (a1 + 1))),(5,I a2)] ?_
  refine K8j hc 3 [(0,.rs 1000),(1,I (wr (a1 + 1))),(5,I (wr (a2 + 1)))] ?_
  refine Qcb ?_
  exact (laws_markBoolS_l0_ih _ _ h c hc)
 refine xt 0 ?_
 refine Qc5 ?_
 refine Qcc ?_
 obtain ⟨rfl,rfl⟩ := Prod.mk.inj (Option.some.inj h)
 exact iv []
def Kpz (p : (List Bool) × Int) : Option (Int × (List Bool)) :=
 match p with
 | (a0,k1) =>
  (Kpw (a0,k1,0)) >>= fun (a1,a2) =>
  some (a1,a2)
def Kq0 (p : (List Bool) × Int) (r : Int × (List Bool)) : Prop :=
 match p with
 | (a0,k1) => Q71 Tryz.prog 80 [.osl (List.map AV.bool a0),I k1] (I r.1) [.osl (List.map AV.bool r.2),.undef]
theorem Kq1 : ∀ p r,Kpz p = some r → Kq0 p r := by
 rintro ⟨a0,k1⟩ r h
 unfold Kpz at h
 refine Q71.bodyO K2w (fn := Tryz.f80) (code := B80) (by kernel_rfl) (by kernel_rfl) (by kernel_rfl) (nt := 21) (by kernel_rfl) (by kernel_rfl) (T := [(0,.rs 1000),(1,I k1)]) (O := [(1000,.arr (List.map AV.bool a0))]) (by kernel_rfl) (by kernel_rfl) (fun c hc => ?_)
 refine K8k hc 1 [(0,.rs 1000),(1,I k1)] ?_
 refine sN ?_
 refine K8k hc 1 [(0,.rs 1000),(1,I k1),(5,I 0)] ?_
 refine bk 0 ?_
 obtain ⟨⟨a1,a2⟩,a3,h⟩ := Qct h
 have hL := Kpy _ _ a3 c hc
 refine lp ?_
 refine WpL.into (e := (.exit 0)) (mkS [(1,I a1)] [(1000,.arr (List.map AV.bool a2))]) hL ?_
 refine Qc7 ?_
 refine K8k hc 2 [(4,I a1)] ?_
 refine rt ?_
 obtain rfl := os h
 exact Qcq.ret (fl := [true]) (by kernel_rfl)
def Kq2 (p : K00 × Int) : Option (Int × K00) :=
 match p with
 | (a0,k1) =>
  (Kps (a0.fPlus,k1)) >>= fun (a1,a2) =>
  (Kps (a0.fTimes,a1)) >>= fun (a3,a4) =>
  (Kpz (a0.fBelow,a3)) >>= fun (a5,a6) =>
  some (a5,(K00.mk a0.fSize a2 a4 a6))
def Kq3 (p : K00 × Int) (r : Int × K00) : Prop :=
 match p with
 | (a0,k1) => Q71 Tryz.prog 27 [K22 a0,I k1] (I r.1) [.agg [.undef,.osl (List.map I r.2.fPlus),.osl (List.map I r.2.fTimes),.osl (List.map AV.bool r.2.fBelow)],.undef]
theorem Kq4 : ∀ p r,Kq2 p = some r → Kq3 p r := by
 rintro ⟨a0,k1⟩ r h
 unfold Kq2 at h
 refine Q71.bodyO K2w (fn := Tryz.f27) (code := B27) (by kernel_rfl) (by kernel_rfl) (by kernel_rfl) (nt := 18) (by kernel_rfl) (by kernel_rfl) (T := [(0,.agg [I a0.fSize,.rs 1000,.rs 1001,.rs 1002]),(1,I k1)]) (O := [(1000,rI a0.fPlus),(1001,rI a0.fTimes),(1002,.arr (List.map AV.bool a0.fBelow))]) (by kernel_rfl) (by kernel_rfl) (fun c hc => ?_)
 refine rs hc none [some (.new 1),oN] [(1,I k1),(2,.ra 1 0)] [(1,.box [I a0.fSize,.rs 1000,.rs 1001,.rs 1002]),(1000,rI a0.fPlus),(1001,rI a0.fTimes),(1002,.arr (List.map AV.bool a0.fBelow))] tv ?_
 obtain ⟨⟨a1,a2⟩,a3,h⟩ := Qct h
 refine rs hc none [oN,oN,oN,some (.call (I a1) [oI a2,.undef] 1),oN] [(1,I a1),(2,.ra 1 0)] [(1,.box [I a0.fSize,.rs 1000,.rs 1001,.rs 1002]),(1000,rI a2),(1001,rI a0.fTimes),(1002,.arr (List.map AV.bool a0.fBelow))] (ab (Kpu _ _ a3) K89 tv) ?_
 obtain ⟨⟨a4,a5⟩,a6,h⟩ := Qct h
 refine rs hc none [oN,oN,oN,some (.call (I a4) [oI a5,.undef] 1),oN] [(1,I a4),(2,.ra 1 0)] [(1,.box [I a0.fSize,.rs 1000,.rs 1001,.rs 1002]),(1000,rI a2),(1001,rI a5),(1002,.arr (List.map AV.bool a0.fBelow))] (ab (Kpu _ _ a6) K89 tv) ?_
 obtain ⟨⟨a7,a8⟩,a9,h⟩ := Qct h
 refine rs hc none [oN,oN,oN,some (.call (I a7) [.osl (List.map AV.bool a8),.undef] 1),oN] [(1,I a7)] [(1000,rI a2),(1001,rI a5),(1002,.arr (List.map AV.bool a8))] (ab (Kq1 _ _ a9) K8a tv) ?_
 refine K8k hc 2 [(4,I a7)] ?_
 refine rt ?_
 obtain rfl := os h
 exact Qcq.ret (fl := [true]) (by kernel_rfl)
def Kq5 (c : Ctx) : Int × LL → Exit → Q0a → Prop
 | (a0,a1) => Qcf c (.exit 0) (mkS [(1,I a0)] [(1000,.arr (List.map K15 a1))])
def Kq6 (p : LL × Int × Int) : Option (Int × LL) :=
 match p with
 | (a0,a1,a2) =>
  if (decide (a2 < (a0.length : Int))) = true then
  (idx a0 a2) >>= fun a3 =>
  (Kps (a3,a1)) >>= fun (a4,a5) =>
  Kq6 ((List.set a0 (Int.toNat a2) a5),a4,(wr (a2 + 1)))
  else
  some ((a1,a0))
 partial_fixpoint
def Kq7 (p : LL × Int × Int) (fl : Int × LL) : Prop :=
 match p with
 | (a0,a1,a2) => ∀ c : Ctx,c.nt = 19 → WpL Tryz.prog c (cl (cl (cr (cl (cr B28))))) (Kq5 c fl) (mkS [(0,.rs 1000),(1,I a1),(5,I a2)] [(1000,.arr (List.map K15 a0))])
theorem Kq8 : ∀ p r,Kq6 p = some r → Kq7 p r := by
 refine Kq6.partial_correctness Kq7 ?_
 rintro laws_markIntSS_l0_f laws_markIntSS_l0_ih ⟨a0,a1,a2⟩ r h
 intro c hc
 refine WpL.step ?_
 refine sN ?_
 refine rss hc none [oN,oN,some (.eqv (.no) ⟨[(8,I (a0.length : Int))],[],[]⟩),oN] [(0,.rs 1000),(1,I a1),(5,I a2),(9,.bool (decide (a2 < (a0.length : Int))))] (ai (Qcz (d := 8) K15 a0) tv) ?_
 refine ic h (fun a3 h => ?_) fun a3 h => ?_
 ·refine sk ?_
  refine sN ?_
  refine bk 1 ?_
  obtain ⟨a4,a5,h⟩ := Qct h
  refine Wp.view (fun a w hv => SRx.openL 1000 (Int.toNat a2) 0 2 [2,1000] (xs := List.map K15 a0) (ys := List.map I a4) (x0 := oI a4) hv (by kernel_rfl) (Qcx a5 (K16 a4)).2 (by kernel_rfl) (by kernel_rfl) (by kernel_rfl)) (?_ : Wp Tryz.prog c _ _ (mkS [(0,.rs 1000),(1,I a1),(5,I a2),(9,.bool (decide (a2 < (a0.length : Int))))] [(2,rI a4),(1000,.arx (List.map K15 a0) (Int.toNat a2) 0 2)]))
  obtain ⟨⟨a6,a7⟩,a8,h⟩ := Qct h
  refine rg hc none [oN,oN,oN,some (.el (oI a4)),oN,some (.call (I a6) [oI a7,.undef] 1),oN] [(0,.rs 1000),(1,I a6),(5,I a2)] [(2,rI a7),(1000,.arx (List.map K15 a0) (Int.toNat a2) 0 2)] (ad (Qcy (enc := K15) a5) (And.intro (Qcx a5 (K16 a4)).2 (rfl : Int.toNat a2 = Int.toNat a2)) (Kpu _ _ a8) K89 tv) ?_
  refine Wp.view (fun a w hv => SRx.closeL 1000 (Int.toNat a2) 0 2 [1000] (xs := List.map K15 a0) (ys := List.map I a7) (x0 := oI a4) (x1 := oI a7) hv (by kernel_rfl) (by kernel_rfl) (by kernel_rfl) (Qcx a5 (K16 a4)).2 (by kernel_rfl) (by kernel_rfl : _ = oI a7) (Qdw (enc := K15) (i := Int.toNat a2) (l := a0) (v := a7) (x := oI a7) (K16 a7)) (by kernel_rfl)) (?_ : Wp Tryz.prog c _ _ (mkS [(0,.rs 1000),(1,I a6),(5,I a2)] [(1000,.arr (List.map K15 (List.set a0 (Int.toNat a2) a7)))]))
  refine K8j hc 3 [(0,.rs 1000),(1,I a6),(5,I (wr (a2 + 1)))] ?_
  refine Qcb ?_
  exact (laws_markIntSS_l0_ih _ _ h c hc)
 refine xt 0 ?_
 refine Qc5 ?_
 refine Qcc ?_
 obtain ⟨rfl,rfl⟩ := Prod.mk.inj (Option.some.inj h)
 exact iv []
def Kq9 (p : LL × Int) : Option (Int × LL) :=
 match p with
 | (a0,k1) =>
  (Kq6 (a0,k1,0)) >>= fun (a1,a2) =>
  some (a1,a2)
def Kqa (p : LL × Int) (r : Int × LL) : Prop :=
 match p with
 | (a0,k1) => Q71 Tryz.prog 28 [.osl (List.map K15 a0),I k1] (I r.1) [.osl (List.map K15 r.2),.undef]
theorem Kqb : ∀ p r,Kq9 p = some r → Kqa p r := by
 rintro ⟨a0,k1⟩ r h
 unfold Kq9 at h
 refine Q71.bodyO K2w (fn := Tryz.f28) (code := B28) (by kernel_rfl) (by kernel_rfl) (by kernel_rfl) (nt := 19) (by kernel_rfl) (by kernel_rfl) (T := [(0,.rs 1000),(1,I k1)]) (O := [(1000,.arr (List.map K15 a0))]) (by kernel_rfl) (by kernel_rfl) (fun c hc => ?_)
 refine K8k hc 1 [(0,.rs 1000),(1,I k1)] ?_
 refine sN ?_
 refine K8k hc 1 [(0,.rs 1000),(1,I k1),(5,I 0)] ?_
 refine bk 0 ?_
 obtain ⟨⟨a1,a2⟩,a3,h⟩ := Qct h
 have hL := Kq8 _ _ a3 c hc
 refine lp ?_
 refine WpL.into (e := (.exit 0)) (mkS [(1,I a1)] [(1000,.arr (List.map K15 a2))]) hL ?_
 refine Qc7 ?_
 refine K8k hc 2 [(4,I a1)] ?_
 refine rt ?_
 obtain rfl := os h
 exact Qcq.ret (fl := [true]) (by kernel_rfl)
def Kqc (c : Ctx) : Int × (List K01) → Exit → Q0a → Prop
 | (a0,a1) => Qcf c (.exit 0) (mkS [(1,I a0)] [(1000,.arr (List.map K0j a1))])
mutual
def Kqd (p : (List K01) × Int) : Option (Int × (List K01)) :=
 match p with
 | (a0,k1) =>
  (Kqe (a0,k1,0)) >>= fun (a1,a2) =>
  some (a1,a2)
 partial_fixpoint
def Kqe (p : (List K01) × Int × Int) : Option (Int × (List K01)) :=
 match p with
 | (a0,a1,a2) =>
  if (decide (a2 < (a0.length : Int))) = true then
  (idx a0 a2) >>= fun a3 =>
  (idx (List.set a0 (Int.toNat a2) (K01.mk a1 a3.fN a3.fType a3.fKids)) a2) >>= fun a4 =>
  (idx (List.set (List.set a0 (Int.toNat a2) (K01.mk a1 a3.fN a3.fType a3.fKids)) (Int.toNat a2) (K01.mk a4.fOp (wr (a1 + 1)) a4.fType a4.fKids)) a2) >>= fun a5 =>
  (Kps (a5.fType,(wr ((wr (a1 + 1)) + 1)))) >>= fun (a6,a7) =>
  (idx (List.set (List.set (List.set a0 (Int.toNat a2) (K01.mk a1 a3.fN a3.fType a3.fKids)) (Int.toNat a2) (K01.mk a4.fOp (wr (a1 + 1)) a4.fType a4.fKids)) (Int.toNat a2) (K01.mk a5.fOp a5.fN a7 a5.fKids)) a2) >>= fun a8 =>
  (Kqd (a8.fKids,a6)) >>= fun (a9,b1) =>
  Kqe ((List.set (List.set (List.set (List.set a0 (Int.toNat a2) (K01.mk a1 a3.fN a3.fType a3.fKids)) (Int.toNat a2) (K01.mk a4.fOp (wr (a1 + 1)) a4.fType a4.fKids)) (Int.toNat a2) (K01.mk a5.fOp a5.fN a7 a5.fKids)) (Int.toNat a2) (K01.mk a8.fOp a8.fN a8.fType b1)),a9,(wr (a2 + 1)))
  else
  some ((a1,a0))
 partial_fixpoint
end
def Kqf (p : (List K01) × Int) (r : Int × (List K01)) : Prop :=
 match p with
 | (a0,k1) => Q71 Tryz.prog 81 [.osl (List.map K0j a0),I k1] (I r.1) [.osl (List.map K0j r.2),.undef]
def Kqg (p : (List K01) × Int × Int) (fl : Int × (List K01)) : Prop :=
 match p with
 | (a0,a1,a2) => ∀ c : Ctx,c.nt = 41 → WpL Tryz.prog c (cl (cl (cr (cl (cr B81))))) (Kqc c fl) (mkS [(0,.rs 1000),(1,I a1),(5,I a2)] [(1000,.arr (List.map K0j a0))])
theorem Kqh : (∀ p r,Kqd p = some r → Kqf p r) ∧ (∀ p r,Kqe p = some r → Kqg p r) := by
 refine Kqd.mutual_partial_correctness Kqf Kqg ?_ ?_
 ·rintro laws_markTermS_l0_f laws_markTermS_l0_ih ⟨a0,k1⟩ r h
  refine Q71.bodyO K2w (fn := Tryz.f81) (code := B81) (by kernel_rfl) (by kernel_rfl) (by kernel_rfl) (nt := 41) (by kernel_rfl) (by kernel_rfl) (T := [(0,.rs 1000),(1,I k1)]) (O := [(1000,.arr (List.map K0j a0))]) (by kernel_rfl) (by kernel_rfl) (fun c hc => ?_)
  refine K8k hc 1 [(0,.rs 1000),(1,I k1)] ?_
  refine sN ?_
  refine K8k hc 1 [(0,.rs 1000),(1,I k1),(5,I 0)] ?_
  refine bk 0 ?_
  obtain ⟨⟨a1,a2⟩,a3,h⟩ := Qct h
  have hL := laws_markTermS_l0_ih _ _ a3 c hc
  refine lp ?_
  refine WpL.into (e := (.exit 0)) (mkS [(1,I a1)] [(1000,.arr (List.map K0j a2))]) hL ?_
  refine Qc7 ?_
  refine K8k hc 2 [(4,I a1)] ?_
  refine rt ?_
  obtain rfl := os h
  exact Qcq.ret (fl := [true]) (by kernel_rfl)
 ·rintro laws_markTermS_f laws_markTermS_l0_f laws_markTermS_ih laws_markTermS_l0_ih ⟨a4,a5,a6⟩ r h
  intro c hc
  refine WpL.step ?_
  refine sN ?_
  refine rss hc none [oN,oN,some (.eqv (.no) ⟨[(8,I (a4.length : Int))],[],[]⟩),oN] [(0,.rs 1000),(1,I a5),(5,I a6),(9,.bool (decide (a6 < (a4.length : Int))))] (ai (Qcz (d := 8) K0j a4) tv) ?_
  refine ic h (fun a7 h => ?_) fun a7 h => ?_
  ·refine sk ?_
   refine sN ?_
   refine bk 1 ?_
   obtain ⟨a8,a9,h⟩ := Qct h
   refine rs hc none [oN,oN,oN,oN,oN,some (.eqv (.el (K24 a8)) ⟨[],[(1000,some (.arr (List.map K0j (List.set a4 (Int.toNat a6) (K01.mk a5 a8.fN a8.fType a8.fKids)))))],[]⟩)] [(0,.rs 1000),(1,I a5),(5,I a6)] [(1000,.arr (List.map K0j (List.set a4 (Int.toNat a6) (K01.mk a5 a8.fN a8.fType a8.fKids))))] (ac (Qcy (enc := K0j) a9) (congrArg (fun z => (⟨[],[(1000,some (.arr z))],[]⟩ : Wr)) (Qdw (enc := K0j) (i := Int.toNat a6) (l := a4) (v := (K01.mk a5 a8.fN a8.fType a8.fKids)) (x := AV.agg [I a5,I a8.fN,oI a8.fType,.osl (List.map K0j a8.fKids)]) (K0p (K01.mk a5 a8.fN a8.fType a8.fKids)))) (Qcx a9 (K0p a8)).2 tv) ?_
   refine K8k hc 3 [(0,.rs 1000),(1,I (wr (a5 + 1))),(5,I a6)] ?_
   obtain ⟨b1,b2,h⟩ := Qct h
   refine rs hc none [oN,oN,oN,oN,oN,some (.eqv (.el (K24 b1)) ⟨[],[(1000,some (.arr (List.map K0j (List.set (List.set a4 (Int.toNat a6) (K01.mk a5 a8.fN a8.fType a8.fKids)) (Int.toNat a6) (K01.mk b1.fOp (wr (a5 + 1)) b1.fType b1.fKids)))))],[]⟩)] [(0,.rs 1000),(1,I (wr (a5 + 1))),(5,I a6)] [(1000,.arr (List.map K0j (List.set (List.set a4 (Int.toNat a6) (K01.mk a5 a8.fN a8.fType a8.fKids)) (Int.toNat a6) (K01.mk b1.fOp (wr (a5 + 1)) b1.fType b1.fKids))))] (ac (Qcy (enc := K0j) b2) (congrArg (fun z => (⟨[],[(1000,some (.arr z))],[]⟩ : Wr)) (Qdw (enc := K0j) (i := Int.toNat a6) (l := (List.set a4 (Int.toNat a6) (K01.mk a5 a8.fN a8.fType a8.fKids))) (v := (K01.mk b1.fOp (wr (a5 + 1)) b1.fType b1.fKids)) (x := AV.agg [I b1.fOp,I (wr (a5 + 1)),oI b1.fType,.osl (List.map K0j b1.fKids)]) (K0p (K01.mk b1.fOp (wr (a5 + 1)) b1.fType b1.fKids)))) (Qcx b2 (K0p b1)).2 tv) ?_
   refine K8k hc 3 [(0,.rs 1000),(1,I (wr ((wr (a5 + 1)) + 1))),(5,I a6)] ?_
   refine sN ?_
   obtain ⟨b3,b4,h⟩ := Qct h
   refine Wp.view (fun a w hv => SRx.openL 1000 (Int.toNat a6) 2 3 [3,1000] (xs := List.map K0j (List.set (List.set a4 (Int.toNat a6) (K01.mk a5 a8.fN a8.fType a8.fKids)) (Int.toNat a6) (K01.mk b1.fOp (wr (a5 + 1)) b1.fType b1.fKids))) (ys := List.map I b3.fType) (x0 := K24 b3) hv (by kernel_rfl) (Qcx b4 (K0p b3)).2 (by kernel_rfl) (by kernel_rfl) (by kernel_rfl)) (?_ : Wp Tryz.prog c _ _ (mkS [(0,.rs 1000),(1,I (wr ((wr (a5 + 1)) + 1))),(5,I a6)] [(3,rI b3.fType),(1000,.arx (List.map K0j (List.set (List.set a4 (Int.toNat a6) (K01.mk a5 a8.fN a8.fType a8.fKids)) (Int.toNat a6) (K01.mk b1.fOp (wr (a5 + 1)) b1.fType b1.fKids))) (Int.toNat a6) 2 3)]))
   obtain ⟨⟨b5,b6⟩,b7,h⟩ := Qct h
   refine rg hc none [oN,oN,oN,oN,some (.el (K24 b3)),oN,some (.call (I b5) [oI b6,.undef] 1),oN] [(0,.rs 1000),(1,I b5),(5,I a6)] [(3,rI b6),(1000,.arx (List.map K0j (List.set (List.set a4 (Int.toNat a6) (K01.mk a5 a8.fN a8.fType a8.fKids)) (Int.toNat a6) (K01.mk b1.fOp (wr (a5 + 1)) b1.fType b1.fKids))) (Int.toNat a6) 2 3)] (ad (Qcy (enc := K0j) b4) (And.intro (Qcx b4 (K0p b3)).2 (rfl : Int.toNat a6 = Int.toNat a6)) (Kpu _ _ b7) K89 tv) ?_
   refine Wp.view (fun a w hv => SRx.closeL 1000 (Int.toNat a6) 2 3 [1000] (xs := List.map K0j (List.set (List.set a4 (Int.toNat a6) (K01.mk a5 a8.fN a8.fType a8.fKids)) (Int.toNat a6) (K01.mk b1.fOp (wr (a5 + 1)) b1.fType b1.fKids))) (ys := List.map I b6) (x0 := K24 b3) (x1 := AV.agg [I b3.fOp,I b3.fN,oI b6,.osl (List.map K0j b3.fKids)]) hv (by kernel_rfl) (by kernel_rfl) (by kernel_rfl) (Qcx b4 (K0p b3)).2 (by kernel_rfl) (by kernel_rfl : _ = AV.agg [I b3.fOp,I b3.fN,oI b6,.osl (List.map K0j b3.fKids)]) (Qdw (enc := K0j) (i := Int.toNat a6) (l := (List.set (List.set a4 (Int.toNat a6) (K01.mk a5 a8.fN a8.fType a8.fKids)) (Int.toNat a6) (K01.mk b1.fOp (wr (a5 + 1)) b1.fType b1.fKids))) (v := (K01.mk b3.fOp b3.fN b6 b3.fKids)) (x := AV.agg [I b3.fOp,I b3.fN,oI b6,.osl (List.map K0j b3.fKids)]) (K0p (K01.mk b3.fOp b3.fN b6 b3.fKids))) (by kernel_rfl)) (?_ : Wp Tryz.prog c _ _ (mkS [(0,.rs 1000),(1,I b5),(5,I a6)] [(1000,.arr (List.map K0j (List.set (List.set (List.set a4 (Int.toNat a6) (K01.mk a5 a8.fN a8.fType a8.fKids)) (Int.toNat a6) (K01.mk b1.fOp (wr (a5 + 1)) b1.fType b1.fKids)) (Int.toNat a6) (K01.mk b3.fOp b3.fN b6 b3.fKids))))]))
   obtain ⟨b8,b9,h⟩ := Qct h
   refine Wp.view (fun a w hv => SRx.openL 1000 (Int.toNat a6) 3 4 [4,1000] (xs := List.map K0j (List.set (List.set (List.set a4 (Int.toNat a6) (K01.mk a5 a8.fN a8.fType a8.fKids)) (Int.toNat a6) (K01.mk b1.fOp (wr (a5 + 1)) b1.fType b1.fKids)) (Int.toNat a6) (K01.mk b3.fOp b3.fN b6 b3.fKids))) (ys := List.map K0j b8.fKids) (x0 := K24 b8) hv (by kernel_rfl) (Qcx b9 (K0p b8)).2 (by kernel_rfl) (by kernel_rfl) (by kernel_rfl)) (?_ : Wp Tryz.prog c _ _ (mkS [(0,.rs 1000),(1,I b5),(5,I a6)] [(4,.arr (List.map K0j b8.fKids)),(1000,.arx (List.map K0j (List.set (List.set (List.set a4 (Int.toNat a6) (K01.mk a5 a8.fN a8.fType a8.fKids)) (Int.toNat a6) (K01.mk b1.fOp (wr (a5 + 1)) b1.fType b1.fKids)) (Int.toNat a6) (K01.mk b3.fOp b3.fN b6 b3.fKids))) (Int.toNat a6) 3 4)]))
   obtain ⟨⟨c0,c1⟩,c2,h⟩ := Qct h
   refine rg hc none [oN,oN,oN,oN,some (.el (K24 b8)),oN,some (.call (I c0) [.osl (List.map K0j c1),.undef] 1),oN] [(0,.rs 1000),(1,I c0),(5,I a6)] [(4,.arr (List.map K0j c1)),(1000,.arx (List.map K0j (List.set (List.set (List.set a4 (Int.toNat a6) (K01.mk a5 a8.fN a8.fType a8.fKids)) (Int.toNat a6) (K01.mk b1.fOp (wr (a5 + 1)) b1.fType b1.fKids)) (Int.toNat a6) (K01.mk b3.fOp b3.fN b6 b3.fKids))) (Int.toNat a6) 3 4)] (ad (Qcy (enc := K0j) b9) (And.intro (Qcx b9 (K0p b8)).2 (rfl : Int.toNat a6 = Int.toNat a6)) (laws_markTermS_ih _ _ c2) K8d tv) ?_
   refine Wp.view (fun a w hv => SRx.closeL 1000 (Int.toNat a6) 3 4 [1000] (xs := List.map K0j (List.set (List.set (List.set a4 (Int.toNat a6) (K01.mk a5 a8.fN a8.fType a8.fKids)) (Int.toNat a6) (K01.mk b1.fOp (wr (a5 + 1)) b1.fType b1.fKids)) (Int.toNat a6) (K01.mk b3.fOp b3.fN b6 b3.fKids))) (ys := List.map K0j c1) (x0 := K24 b8) (x1 := AV.agg [I b8.fOp,I b8.fN,oI b8.fType,.osl (List.map K0j c1)]) hv (by kernel_rfl) (by kernel_rfl) (by kernel_rfl) (Qcx b9 (K0p b8)).2 (by kernel_rfl) (by kernel_rfl : _ = AV.agg [I b8.fOp,I b8.fN,oI b8.fType,.osl (List.map K0j c1)]) (Qdw (enc := K0j) (i := Int.toNat a6) (l := (List.set (List.set (List.set a4 (Int.toNat a6) (K01.mk a5 a8.fN a8.fType a8.fKids)) (Int.toNat a6) (K01.mk b1.fOp (wr (a5 + 1)) b1.fType b1.fKids)) (Int.toNat a6) (K01.mk b3.fOp b3.fN b6 b3.fKids))) (v := (K01.mk b8.fOp b8.fN b8.fType c1)) (x := AV.agg [I b8.fOp,I b8.fN,oI b8.fType,.osl (List.map K0j c1)]) (K0p (K01.mk b8.fOp b8.fN b8.fType c1))) (by kernel_rfl)) (?_ : Wp Tryz.prog c _ _ (mkS [(0,.rs 1000),(1,I c0),(5,I a6)] [(1000,.arr (List.map K0j (List.set (List.set (List.set (List.set a4 (Int.toNat a6) (K01.mk a5 a8.fN a8.fType a8.fKids)) (Int.toNat a6) (K01.mk b1.fOp (wr (a5 + 1)) b1.fType b1.fKids)) (Int.toNat a6) (K01.mk b3.fOp b3.fN b6 b3.fKids)) (Int.toNat a6) (K01.mk b8.fOp b8.fN b8.fType c1))))]))
   refine K8j hc 3 [(0,.rs 1000),(1,I c0),(5,I (wr (a6 + 1)))] ?_
   refine Qcb ?_
   exact (laws_markTermS_l0_ih _ _ h c hc)
  refine xt 0 ?_
  refine Qc5 ?_
  refine Qcc ?_
  obtain ⟨rfl,rfl⟩ := Prod.mk.inj (Option.some.inj h)
  exact iv []
theorem Kqi : ∀ p r,Kqd p = some r → Kqf p r := Kqh.1
theorem Kqj : ∀ p r,Kqe p = some r → Kqg p r := Kqh.2
def Kqk (p : K01 × Int) : Option (Int × K01) :=
 match p with
 | (a0,k1) =>
  (Kps (a0.fType,k1)) >>= fun (a1,a2) =>
  (Kqd (a0.fKids,a1)) >>= fun (a3,a4) =>
  some (a3,(K01.mk a0.fOp a0.fN a2 a4))
def Kql (p : K01 × Int) (r : Int × K01) : Prop :=
 match p with
 | (a0,k1) => Q71 Tryz.prog 29 [K24 a0,I k1] (I r.1) [.agg [.undef,.undef,.osl (List.map I r.2.fType),.osl (List.map K0j r.2.fKids)],.undef]
theorem Kqm : ∀ p r,Kqk p = some r → Kql p r := by
 rintro ⟨a0,k1⟩ r h
 unfold Kqk at h
 refine Q71.bodyO K2w (fn := Tryz.f29) (code := B29) (by kernel_rfl) (by kernel_rfl) (by kernel_rfl) (nt := 14) (by kernel_rfl) (by kernel_rfl) (T := [(0,.agg [I a0.fOp,I a0.fN,.rs 1000,.rs 1001]),(1,I k1)]) (O := [(1000,rI a0.fType),(1001,.arr (List.map K0j a0.fKids))]) (by kernel_rfl) (by kernel_rfl) (fun c hc => ?_)
 refine rs hc none [some (.new 1),oN] [(1,I k1),(2,.ra 1 0)] [(1,.box [I a0.fOp,I a0.fN,.rs 1000,.rs 1001]),(1000,rI a0.fType),(1001,.arr (List.map K0j a0.fKids))] tv ?_
 obtain ⟨⟨a1,a2⟩,a3,h⟩ := Qct h
 refine rs hc none [oN,oN,oN,some (.call (I a1) [oI a2,.undef] 1),oN] [(1,I a1),(2,.ra 1 0)] [(1,.box [I a0.fOp,I a0.fN,.rs 1000,.rs 1001]),(1000,rI a2),(1001,.arr (List.map K0j a0.fKids))] (ab (Kpu _ _ a3) K89 tv) ?_
 obtain ⟨⟨a4,a5⟩,a6,h⟩ := Qct h
 refine rs hc none [oN,oN,oN,some (.call (I a4) [.osl (List.map K0j a5),.undef] 1),oN] [(1,I a4)] [(1000,rI a2),(1001,.arr (List.map K0j a5))] (ab (Kqi _ _ a6) K8d tv) ?_
 refine K8k hc 2 [(4,I a4)] ?_
 refine rt ?_
 obtain rfl := os h
 exact Qcq.ret (fl := [true]) (by kernel_rfl)
def Kqn (c : Ctx) : (Int) ⊕ (Int) → Exit → Q0a → Prop
 | .inl a0 => Qcf c (.exit 0) (mkS [(1,I a0)] [])
 | .inr r => Qco TIx Tryz.f31 [] (I r)
def Kqo (p : (List Int) × Int × Int) : Option ((Int) ⊕ (Int)) :=
 match p with
 | (a0,a1,a2) =>
  if (decide (a2 < (a0.length : Int))) = true then
  (idx a0 a2) >>= fun a3 =>
  if (a3 != a1) = true then
  some (.inr (-1))
  else
  Kqo (a0,(wr (a1 + 1)),(wr (a2 + 1)))
  else
  some (.inl a1)
 partial_fixpoint
def Kqp (p : (List Int) × Int × Int) (fl : (Int) ⊕ (Int)) : Prop :=
 match p with
 | (a0,a1,a2) => ∀ c : Ctx,c.nt = 21 → WpL Tryz.prog c (cl (cl (cr (cl (cr B31))))) (Kqn c fl) (mkS [(0,sI a0),(1,I a1),(5,I a2)] [])
theorem Kqq : ∀ p r,Kqo p = some r → Kqp p r := by
 refine Kqo.partial_correctness Kqp ?_
 rintro laws_heldIntS_l0_f laws_heldIntS_l0_ih ⟨a0,a1,a2⟩ r h
 intro c hc
 refine WpL.step ?_
 refine sN ?_
 refine rs hc none [oN,oN,some (.eqv (.no) ⟨[(8,I (a0.length : Int))],[],[]⟩),oN] [(0,sI a0),(1,I a1),(5,I a2),(9,.bool (decide (a2 < (a0.length : Int))))] [] (ai (Qcz (d := 8) I a0) tv) ?_
 refine ic h (fun a3 h => ?_) fun a3 h => ?_
 ·refine sk ?_
  refine sN ?_
  refine bk 1 ?_
  refine sN ?_
  obtain ⟨a4,a5,h⟩ := Qct h
  refine rs hc none [oN,oN,some (.el (I a4)),oN,oN,oN] [(0,sI a0),(1,I a1),(5,I a2),(17,.bool (a4 != a1))] [] (ai (ix a5) tv) ?_
  refine ic h (fun a6 h => ?_) fun a6 h => ?_
  ·refine rs0 hc 1 [(4,I (-1))] [] ?_
   refine rt ?_
   obtain rfl := os h
   exact re [true]
  refine sk ?_
  refine rg0 hc 3 [(0,sI a0),(1,I (wr (a1 + 1))),(5,I a2)] [] ?_
  refine rg0 hc 3 [(0,sI a0),(1,I (wr (a1 + 1))),(5,I (wr (a2 + 1)))] [] ?_
  refine Qcb ?_
  exact (laws_heldIntS_l0_ih _ _ h c hc)
 refine xt 0 ?_
 refine Qc5 ?_
 refine Qcc ?_
 obtain rfl := os h
 exact iv []
def Kqr (p : (List Int) × Int) : Option (Int) :=
 match p with
 | (a0,k1) =>
  (Kqo (a0,k1,0)) >>= fun fl => match fl with
  | .inl a1 =>
   some a1
  | .inr r =>
   some r
def Kqs (p : (List Int) × Int) (r : Int) : Prop :=
 match p with
 | (a0,k1) => Q71 Tryz.prog 31 [sI a0,I k1] (I r) []
theorem Kqt : ∀ p r,Kqr p = some r → Kqs p r := by
 rintro ⟨a0,k1⟩ r h
 unfold Kqr at h
 refine b0 Tryz.f31 B31 21 [(0,sI a0),(1,I k1)] fun c hc => ?_
 refine rs0 hc 1 [(0,sI a0),(1,I k1)] [] ?_
 refine sN ?_
 refine rs0 hc 1 [(0,sI a0),(1,I k1),(5,I 0)] [] ?_
 refine bk 0 ?_
 obtain ⟨fl,a1,h⟩ := Qct h
 have hL := Kqq _ _ a1 c hc
 refine lp ?_
 rcases fl with a2 | r
 ·refine WpL.into (e := (.exit 0)) (mkS [(1,I a2)] []) hL ?_
  refine Qc7 ?_
  refine rs0 hc 2 [(4,I a2)] [] ?_
  refine rt ?_
  obtain rfl := os h
  exact rq [true]
 refine WpL.mono hL ?_
 rintro _ _ ⟨rfl,hfin⟩
 obtain rfl := os h
 exact ⟨.inl rfl,hfin⟩
def Kqu (c : Ctx) : (Int) ⊕ (Int) → Exit → Q0a → Prop
 | .inl a0 => Qcf c (.exit 0) (mkS [(1,I a0)] [])
 | .inr r => Qco TIx Tryz.f98 [] (I r)
mutual
def Kqv (p : (List K01) × Int) : Option (Int) :=
 match p with
 | (a0,k1) =>
  (Kqw (a0,k1,0)) >>= fun fl => match fl with
  | .inl a1 =>
   some a1
  | .inr r =>
   some r
 partial_fixpoint
def Kqw (p : (List K01) × Int × Int) : Option ((Int) ⊕ (Int)) :=
 match p with
 | (a0,a1,a2) =>
  if (decide (a2 < (a0.length : Int))) = true then
  (idx a0 a2) >>= fun a3 =>
  if (a3.fOp != a1) = true then
  some (.inr (-1))
  else
  (idx a0 a2) >>= fun a4 =>
  if (a4.fN != (wr (a1 + 1))) = true then
  some (.inr (-1))
  else
  (idx a0 a2) >>= fun a5 =>
  (Kqr (a5.fType,(wr ((wr (a1 + 1)) + 1)))) >>= fun a6 =>
  if (decide (a6 < 0)) = true then
  some (.inr (-1))
  else
  (idx a0 a2) >>= fun a7 =>
  (Kqv (a7.fKids,a6)) >>= fun a8 =>
  if (decide (a8 < 0)) = true then
  some (.inr (-1))
  else
  Kqw (a0,a8,(wr (a2 + 1)))
  else
  some (.inl a1)
 partial_fixpoint
end
def Kqx (p : (List K01) × Int) (r : Int) : Prop :=
 match p with
 | (a0,k1) => Q71 Tryz.prog 98 [.sl (List.map K0g a0),I k1] (I r) []
def Kqy (p : (List K01) × Int × Int) (fl : (Int) ⊕ (Int)) : Prop :=
 match p with
 | (a0,a1,a2) => ∀ c : Ctx,c.nt = 49 → WpL Tryz.prog c (cl (cl (cr (cl (cr B98))))) (Kqu c fl) (mkS [(0,.sl (List.map K0g a0)),(1,I a1),(5,I a2)] [])
theorem Kqz : (∀ p r,Kqv p = some r → Kqx p r) ∧ (∀ p r,Kqw p = some r → Kqy p r) := by
 refine Kqv.mutual_partial_correctness Kqx Kqy ?_ ?_
 ·rintro laws_heldTermS_l0_f laws_heldTermS_l0_ih ⟨a0,k1⟩ r h
  refine b0 Tryz.f98 B98 49 [(0,.sl (List.map K0g a0)),(1,I k1)] fun c hc => ?_
  refine rs0 hc 1 [(0,.sl (List.map K0g a0)),(1,I k1)] [] ?_
  refine sN ?_
  refine rs0 hc 1 [(0,.sl (List.map K0g a0)),(1,I k1),(5,I 0)] [] ?_
  refine bk 0 ?_
  obtain ⟨fl,a1,h⟩ := Qct h
  have hL := laws_heldTermS_l0_ih _ _ a1 c hc
  refine lp ?_
  rcases fl with a2 | r
  ·refine WpL.into (e := (.exit 0)) (mkS [(1,I a2)] []) hL ?_
   refine Qc7 ?_
   refine rs0 hc 2 [(4,I a2)] [] ?_
   refine rt ?_
   obtain rfl := os h
   exact rq [true]
  refine WpL.mono hL ?_
  rintro _ _ ⟨rfl,hfin⟩
  obtain rfl := os h
  exact ⟨.inl rfl,hfin⟩
 ·rintro laws_heldTermS_f laws_heldTermS_l0_f laws_heldTermS_ih laws_heldTermS_l0_ih ⟨a0,a3,a4⟩ r h
  intro c hc
  refine WpL.step ?_
  refine sN ?_
  refine rs hc none [oN,oN,some (.eqv (.no) ⟨[(8,I (a0.length : Int))],[],[]⟩),oN] [(0,.sl (List.map K0g a0)),(1,I a3),(5,I a4),(9,.bool (decide (a4 < (a0.length : Int))))] [] (ai (Qcz (d := 8) K0g a0) tv) ?_
  refine ic h (fun a5 h => ?_) fun a5 h => ?_
  ·refine sk ?_
   refine sN ?_
   refine bk 1 ?_
   refine sN ?_
   obtain ⟨a6,a7,h⟩ := Qct h
   refine rs hc none [oN,oN,some (.el (K1v a6)),oN,oN,oN,oN] [(0,.sl (List.map K0g a0)),(1,I a3),(5,I a4),(18,.bool (a6.fOp != a3))] [] (ai (Qcx a7 (K0n a6)) tv) ?_
   refine ic h (fun a8 h => ?_) fun a8 h => ?_
   ·refine rs0 hc 1 [(4,I (-1))] [] ?_
    refine rt ?_
    obtain rfl := os h
    exact re [true]
   refine sk ?_
   refine rs0 hc 3 [(0,.sl (List.map K0g a0)),(1,I (wr (a3 + 1))),(5,I a4)] [] ?_
   refine sN ?_
   obtain ⟨a9,b1,h⟩ := Qct h
   refine rs hc none [oN,oN,some (.el (K1v a9)),oN,oN,oN,oN] [(0,.sl (List.map K0g a0)),(1,I (wr (a3 + 1))),(5,I a4),(27,.bool (a9.fN != (wr (a3 + 1))))] [] (ai (Qcx b1 (K0n a9)) tv) ?_
   refine ic h (fun b2 h => ?_) fun b2 h => ?_
   ·refine rs0 hc 1 [(4,I (-1))] [] ?_
    refine rt ?_
    obtain rfl := os h
    exact re [true]
   refine sk ?_
   refine rs0 hc 3 [(0,.sl (List.map K0g a0)),(1,I (wr ((wr (a3 + 1)) + 1))),(5,I a4)] [] ?_
   obtain ⟨b3,b4,b5,b6,h⟩ := bq2 h
   refine rs hc none [oN,oN,some (.el (K1v b3)),oN,oN,oN,oc (I b5),oN] [(0,.sl (List.map K0g a0)),(1,I b5),(5,I a4)] [] (ai (Qcx b4 (K0n b3)) (cq (Kqt _ _ b6) K8f tv)) ?_
   refine sN ?_
   refine rs0 hc 2 [(0,.sl (List.map K0g a0)),(1,I b5),(5,I a4),(38,.bool (decide (b5 < 0)))] [] ?_
   refine ic h (fun b7 h => ?_) fun b7 h => ?_
   ·refine rs0 hc 1 [(4,I (-1))] [] ?_
    refine rt ?_
    obtain rfl := os h
    exact re [true]
   refine sk ?_
   obtain ⟨b8,b9,c0,c1,h⟩ := bq2 h
   refine rs hc none [oN,oN,some (.el (K1v b8)),oN,oN,oN,oc (I c0),oN] [(0,.sl (List.map K0g a0)),(1,I c0),(5,I a4)] [] (ai (Qcx b9 (K0n b8)) (cq (laws_heldTermS_ih _ _ c1) K8g tv)) ?_
   refine rs0 hc 2 [(0,.sl (List.map K0g a0)),(1,I c0),(5,I a4),(47,.bool (decide (c0 < 0)))] [] ?_
   refine ic h (fun c2 h => ?_) fun c2 h => ?_
   ·refine rs0 hc 1 [(4,I (-1))] [] ?_
    refine rt ?_
    obtain rfl := os h
    exact re [true]
   refine sk ?_
   refine rg0 hc 3 [(0,.sl (List.map K0g a0)),(1,I c0),(5,I (wr (a4 + 1)))] [] ?_
   refine Qcb ?_
   exact (laws_heldTermS_l0_ih _ _ h c hc)
  refine xt 0 ?_
  refine Qc5 ?_
  refine Qcc ?_
  obtain rfl := os h
  exact iv []
theorem Kr0 : ∀ p r,Kqv p = some r → Kqx p r := Kqz.1
theorem Kr1 : ∀ p r,Kqw p = some r → Kqy p r := Kqz.2
def Kr2 (p : K01 × Int) : Option (Int) :=
 match p with
 | (a0,k1) =>
  (Kqr (a0.fType,k1)) >>= fun a1 =>
  if (decide (a1 < 0)) = true then
  some (-1)
  else
  (Kqv (a0.fKids,a1)) >>= fun a2 =>
  if (decide (a2 < 0)) = true then
  some (-1)
  else
  some a2
def Kr3 (p : K01 × Int) (r : Int) : Prop :=
 match p with
 | (a0,k1) => Q71 Tryz.prog 44 [K1v a0,I k1] (I r) []
theorem Kr4 : ∀ p r,Kr2 p = some r → Kr3 p r := by
 rintro ⟨a0,k1⟩ r h
 unfold Kr2 at h
 refine b0 Tryz.f44 B44 18 [(0,K1v a0),(1,I k1)] fun c hc => ?_
 refine rs hc none [some (.new 1),oN] [(1,I k1),(2,.ra 1 0)] [(1,K1u a0)] tv ?_
 obtain ⟨a1,a2,h⟩ := Qct h
 refine rss hc none [oN,oN,oN,oc (I a1),oN] [(1,I a1),(2,.ra 1 0)] (cq (Kqt _ _ a2) K8f tv) ?_
 refine sN ?_
 refine K8k hc 2 [(1,I a1),(2,.ra 1 0),(10,.bool (decide (a1 < 0)))] ?_
 refine ic h (fun a3 h => ?_) fun a3 h => ?_
 ·refine rs0 hc 1 [(4,I (-1))] [] ?_
  refine rt ?_
  obtain rfl := os h
  exact rq [true]
 refine sk ?_
 obtain ⟨a4,a5,h⟩ := Qct h
 refine rs hc none [oN,oN,oN,oc (I a4),oN] [(1,I a4)] [] (cq (Kr0 _ _ a5) K8g tv) ?_
 refine sN ?_
 refine rs0 hc 2 [(1,I a4),(16,.bool (decide (a4 < 0)))] [] ?_
 refine ic h (fun a6 h => ?_) fun a6 h => ?_
 ·refine rs0 hc 1 [(4,I (-1))] [] ?_
  refine rt ?_
  obtain rfl := os h
  exact rq [true]
 refine sk ?_
 refine rs0 hc 2 [(4,I a4)] [] ?_
 refine rt ?_
 obtain rfl := os h
 exact rq [true]
def Kr5 : Option (List (List Nat)) := rx [[0],[1],[0],[3],[0],[5],[0],[7],[8],[9],[10],[10],[0],[11,12],[14]]
def Kr6 : Option (List (List Nat)) := rx [[0],[0],[0,1],[3],[4]]
def Kr7 (p : K00 × LL × (List Int) × K01) : Option (Bool) :=
 match p with
 | (aS0,aCtx1,aBudgets2,aT3) =>
  if (decide ((aBudgets2.length : Int) > 1048576)) = true then
  some true
  else
  (K8s (aS0,1048576)) >>= fun a0 =>
  if (decide (a0 < 0)) = true then
  some true
  else
  (K8z (aCtx1,a0)) >>= fun a1 =>
  if (decide (a1 < 0)) = true then
  some true
  else
  (K93 (aT3,a1)) >>= fun a2 =>
  if (decide (a2 < 0)) = true then
  some true
  else
  (K9r aS0) >>= fun a3 =>
  (K9y aCtx1) >>= fun a4 =>
  (K9h aBudgets2) >>= fun a5 =>
  (Ka2 aT3) >>= fun a6 =>
  (Kgq (a3,a4,a5,a6)) >>= fun (a7,a8) =>
  (K9r aS0) >>= fun a9 =>
  (K9y aCtx1) >>= fun b1 =>
  (K9h aBudgets2) >>= fun b2 =>
  (Ka2 aT3) >>= fun b3 =>
  (Kom (a9,b1,b2,b3)) >>= fun (b4,b5) =>
  ((
  (Kox (b4,a7)) >>= fun b6 =>
  if b6 = true then
  some ((!(b5 == a8)))
  else
  some (true)
  ) : Option (Bool)) >>= fun b7 =>
  if b7 = true then
  some false
  else
  (K9r aS0) >>= fun b8 =>
  (Kpe (a9,b8)) >>= fun b9 =>
  if b9 = true then
  (K9y aCtx1) >>= fun c0 =>
  (Kpl (b1,c0)) >>= fun c1 =>
  if c1 = true then
  (K9h aBudgets2) >>= fun c2 =>
  (Kot (b2,c2)) >>= fun c3 =>
  if c3 = true then
  (Ka2 aT3) >>= fun c4 =>
  (Kox (b3,c4)) >>= fun c5 =>
  if c5 = true then
  (Kq2 (a9,1)) >>= fun (c6,c7) =>
  (Kq9 (b1,c6)) >>= fun (c8,c9) =>
  (Kps (b2,c8)) >>= fun (d0,d1) =>
  (Kqk (b3,d0)) >>= fun (d2,d3) =>
  ((
  if (decide (d2 < 0)) = true then
  some (true)
  else
  (Kox (b4,a7)) >>= fun d4 =>
  if d4 = true then
  some ((!(b5 == a8)))
  else
  some (true)
  ) : Option (Bool)) >>= fun d5 =>
  if d5 = true then
  some false
  else
  (Kqk (b4,1)) >>= fun (d6,d7) =>
  (Kr2 ((K01.mk b4.fOp b4.fN d7.fType d7.fKids),1)) >>= fun d8 =>
  if (decide (d8 < 0)) = true then
  some false
  else
  if (d8 != d6) = true then
  some false
  else
  (K9r aS0) >>= fun d9 =>
  (K9y aCtx1) >>= fun e0 =>
  (K9h aBudgets2) >>= fun e1 =>
  (Ka2 aT3) >>= fun e2 =>
  (Kom (d9,e0,e1,e2)) >>= fun (e3,e4) =>
  ((
  (Kox (e3,a7)) >>= fun e5 =>
  if e5 = true then
  some ((!(e4 == a8)))
  else
  some (true)
  ) : Option (Bool)) >>= fun e6 =>
  if e6 = true then
  some false
  else
  (Kr2 ((K01.mk b4.fOp b4.fN d7.fType d7.fKids),1)) >>= fun e7 =>
  if (decide (e7 < 0)) = true then
  some false
  else
  if (e7 != d6) = true then
  some false
  else
  some true
  else
  some false
  else
  some false
  else
  some false
  else
  some false
def Kr8 (p : K00 × LL × (List Int) × K01) (r : Bool) : Prop :=
 match p with
 | (aS0,aCtx1,aBudgets2,aT3) => Q71 Tryz.prog 8 [K1t aS0,sL aCtx1,sI aBudgets2,K1v aT3] (.bool r) []
theorem Kr9 : ∀ p r,Kr7 p = some r → Kr8 p r := by
 rintro ⟨aS0,aCtx1,aBudgets2,aT3⟩ r h
 unfold Kr7 at h
 refine b0 Tryz.f8 B8 163 [(0,K1t aS0),(1,sL aCtx1),(2,sI aBudgets2),(3,K1v aT3)] fun c hc => ?_
 refine rs hc none [some (.new 1),some (.new 2),oN] [(1,sL aCtx1),(2,sI aBudgets2),(4,.ra 1 0),(7,.ra 2 0)] [(1,K1s aS0),(2,K1u aT3)] tv ?_
 refine sN ?_
 refine rss hc none [oN,some (.eqv (.no) ⟨[(24,I (aBudgets2.length : Int))],[],[]⟩),oN] [(1,sL aCtx1),(2,sI aBudgets2),(4,.ra 1 0),(7,.ra 2 0),(25,.bool (decide ((aBudgets2.length : Int) > 1048576)))] (ai (Qcz (d := 24) I aBudgets2) tv) ?_
 refine ic h (fun a0 h => ?_) fun a0 h => ?_
 ·refine rs0 hc 1 [(8,.bool true)] [] ?_
  refine rt ?_
  obtain rfl := os h
  exact rq [true]
 refine sk ?_
 refine K8k hc 1 [(1,sL aCtx1),(2,sI aBudgets2),(4,.ra 1 0),(7,.ra 2 0),(9,I 1048576)] ?_
 obtain ⟨a1,a2,h⟩ := Qct h
 refine rss hc none [oN,oN,oc (I a1),oN] [(1,sL aCtx1),(2,sI aBudgets2),(4,.ra 1 0),(7,.ra 2 0),(9,I a1)] (cq (K8u _ _ a2) K2z tv) ?_
 refine sN ?_
 refine K8k hc 2 [(1,sL aCtx1),(2,sI aBudgets2),(4,.ra 1 0),(7,.ra 2 0),(9,I a1),(30,.bool (decide (a1 < 0)))] ?_
 refine ic h (fun a3 h => ?_) fun a3 h => ?_
 ·refine rs0 hc 1 [(8,.bool true)] [] ?_
  refine rt ?_
  obtain rfl := os h
  exact rq [true]
 refine sk ?_
 obtain ⟨a4,a5,h⟩ := Qct h
 refine rss hc none [oN,oN,oc (I a4),oN] [(1,sL aCtx1),(2,sI aBudgets2),(4,.ra 1 0),(7,.ra 2 0),(9,I a4)] (cq (K91 _ _ a5) K30 tv) ?_
 refine sN ?_
 refine K8k hc 2 [(1,sL aCtx1),(2,sI aBudgets2),(4,.ra 1 0),(7,.ra 2 0),(9,I a4),(35,.bool (decide (a4 < 0)))] ?_
 refine ic h (fun a6 h => ?_) fun a6 h => ?_
 ·refine rs0 hc 1 [(8,.bool true)] [] ?_
  refine rt ?_
  obtain rfl := os h
  exact rq [true]
 refine sk ?_
 obtain ⟨a7,a8,h⟩ := Qct h
 refine rss hc none [oN,oN,oc (I a7),oN] [(1,sL aCtx1),(2,sI aBudgets2),(4,.ra 1 0),(7,.ra 2 0),(9,I a7)] (cq (K9a _ _ a8) K32 tv) ?_
 refine sN ?_
 refine K8k hc 2 [(1,sL aCtx1),(2,sI aBudgets2),(4,.ra 1 0),(7,.ra 2 0),(40,.bool (decide (a7 < 0)))] ?_
 refine ic h (fun a9 h => ?_) fun a9 h => ?_
 ·refine rs0 hc 1 [(8,.bool true)] [] ?_
  refine rt ?_
  obtain rfl := os h
  exact rq [true]
 refine sk ?_
 obtain ⟨b1,b2,b3,b4,b5,b6,b7,b8,h⟩ := bq4 h
 obtain ⟨⟨b9,c0⟩,c1,h⟩ := Qct h
 refine rs hc Kr5 [oN,some (.call (K22 b1) [] 3),oN,some (.call (.osl (List.map K15 b3)) [] 6),oN,some (.call (oI b5) [] 7),oN,some (.call (K24 b7) [] 8),some (.call (.tup [K24 b9,.bool c0]) [] 10),oN,oN,oN,some (.new 12),oN,oN] [(1,sL aCtx1),(2,sI aBudgets2),(4,.ra 1 0),(7,.ra 2 0),(10,.ra 12 0),(11,.bool c0)] [(1,K1s aS0),(2,K1u aT3),(10,rI b9.fType),(11,.arr (List.map K0j b9.fKids)),(12,.box [I b9.fOp,I b9.fN,.rs 10,.rs 11])] (cq (K9t _ _ b2) K35 (cq (Ka0 _ _ b4) K36 (cq (K9j _ _ b6) K33 (cq (Ka9 _ _ b8) K38 (ac (Q71.args (A1 := [K23 b1,.sl (Q02 (List.map K15 b3)),.sl (Q02 (List.map I b5)),K25 b7]) (A2 := [K1t b1,sL b3,sI b5,K1v b7]) (by simp only [K23,K25,List.map_nil,Qdn,K1f,Qdl,K19]) (Kgs _ _ c1)) K5k (Or.inr (Qdv (Qdv rfl (Qdv rfl (Qdv (Qdt Qdp b9.fType) (Qdv (Qdt K1g b9.fKids) rfl)))) (Qdv rfl rfl)) : ([3,4,5,6,7,8,9] : List Nat) = [] ∨ noSh (.tup [K24 b9,.bool c0]) = true) tv))))) ?_
 obtain ⟨c2,c3,h⟩ := Qct h
 refine rs hc none [oN,some (.call (K22 c2) [] 13),some (.new 16),oN] [(1,sL aCtx1),(2,sI aBudgets2),(4,.ra 1 0),(7,.ra 2 0),(10,.ra 12 0),(11,.bool c0),(12,.ra 16 0)] [(1,K1s aS0),(2,K1u aT3),(10,rI b9.fType),(11,.arr (List.map K0j b9.fKids)),(12,.box [I b9.fOp,I b9.fN,.rs 10,.rs 11]),(13,rI c2.fPlus),(14,rI c2.fTimes),(15,.arr (List.map AV.bool c2.fBelow)),(16,.box [I c2.fSize,.rs 13,.rs 14,.rs 15])] (cq (K9t _ _ c3) K35 tv) ?_
 obtain ⟨c4,c5,h⟩ := Qct h
 refine rs hc none [oN,some (.call (.osl (List.map K15 c4)) [] 17),oN] [(1,sL aCtx1),(2,sI aBudgets2),(4,.ra 1 0),(7,.ra 2 0),(10,.ra 12 0),(11,.bool c0),(12,.ra 16 0),(13,.rs 17)] [(1,K1s aS0),(2,K1u aT3),(10,rI b9.fType),(11,.arr (List.map K0j b9.fKids)),(12,.box [I b9.fOp,I b9.fN,.rs 10,.rs 11]),(13,rI c2.fPlus),(14,rI c2.fTimes),(15,.arr (List.map AV.bool c2.fBelow)),(16,.box [I c2.fSize,.rs 13,.rs 14,.rs 15]),(17,.arr (List.map K15 c4))] (cq (Ka0 _ _ c5) K36 tv) ?_
 obtain ⟨c6,c7,h⟩ := Qct h
 refine rs hc none [oN,some (.call (oI c6) [] 18),oN] [(1,sL aCtx1),(2,sI aBudgets2),(4,.ra 1 0),(7,.ra 2 0),(10,.ra 12 0),(11,.bool c0),(12,.ra 16 0),(13,.rs 17),(14,.rs 18)] [(1,K1s aS0),(2,K1u aT3),(10,rI b9.fType),(11,.arr (List.map K0j b9.fKids)),(12,.box [I b9.fOp,I b9.fN,.rs 10,.rs 11]),(13,rI c2.fPlus),(14,rI c2.fTimes),(15,.arr (List.map AV.bool c2.fBelow)),(16,.box [I c2.fSize,.rs 13,.rs 14,.rs 15]),(17,.arr (List.map K15 c4)),(18,rI c6)] (cq (K9j _ _ c7) K33 tv) ?_
 obtain ⟨c8,c9,h⟩ := Qct h
 refine rs hc none [oN,some (.call (K24 c8) [] 19),some (.new 21),oN] [(1,sL aCtx1),(2,sI aBudgets2),(4,.ra 1 0),(7,.ra 2 0),(10,.ra 12 0),(11,.bool c0),(12,.ra 16 0),(13,.rs 17),(14,.rs 18),(15,.ra 21 0)] [(1,K1s aS0),(2,K1u aT3),(10,rI b9.fType),(11,.arr (List.map K0j b9.fKids)),(12,.box [I b9.fOp,I b9.fN,.rs 10,.rs 11]),(13,rI c2.fPlus),(14,rI c2.fTimes),(15,.arr (List.map AV.bool c2.fBelow)),(16,.box [I c2.fSize,.rs 13,.rs 14,.rs 15]),(17,.arr (List.map K15 c4)),(18,rI c6),(19,rI c8.fType),(20,.arr (List.map K0j c8.fKids)),(21,.box [I c8.fOp,I c8.fN,.rs 19,.rs 20])] (cq (Ka9 _ _ c9) K38 tv) ?_
 obtain ⟨⟨d0,d1⟩,d2,h⟩ := Qct h
 refine rs hc none [oN,oN,oN,oN,some (.call (.tup [K24 d0,.bool d1]) [] 22),oN,oN,oN,some (.new 24),oN,oN] [(1,sL aCtx1),(2,sI aBudgets2),(4,.ra 1 0),(7,.ra 2 0),(10,.ra 12 0),(11,.bool c0),(12,.ra 16 0),(13,.rs 17),(14,.rs 18),(15,.ra 21 0),(16,.ra 24 0),(17,.bool d1)] [(1,K1s aS0),(2,K1u aT3),(10,rI b9.fType),(11,.arr (List.map K0j b9.fKids)),(12,.box [I b9.fOp,I b9.fN,.rs 10,.rs 11]),(13,rI c2.fPlus),(14,rI c2.fTimes),(15,.arr (List.map AV.bool c2.fBelow)),(16,.box [I c2.fSize,.rs 13,.rs 14,.rs 15]),(17,.arr (List.map K15 c4)),(18,rI c6),(19,rI c8.fType),(20,.arr (List.map K0j c8.fKids)),(21,.box [I c8.fOp,I c8.fN,.rs 19,.rs 20]),(22,rI d0.fType),(23,.arr (List.map K0j d0.fKids)),(24,.box [I d0.fOp,I d0.fN,.rs 22,.rs 23])] (ac (Q71.args (A1 := [K23 c2,.sl (Q02 (List.map K15 c4)),.sl (Q02 (List.map I c6)),K25 c8]) (A2 := [K1t c2,sL c4,sI c6,K1v c8]) (by simp only [K23,K25,List.map_nil,Qdn,K1f,Qdl,K19]) (Koo _ _ d2)) K82 (Or.inr (Qdv (Qdv rfl (Qdv rfl (Qdv (Qdt Qdp d0.fType) (Qdv (Qdt K1g d0.fKids) rfl)))) (Qdv rfl rfl)) : ([13,14,15,17,18,19,20] : List Nat) = [] ∨ noSh (.tup [K24 d0,.bool d1]) = true) tv) ?_
 refine sN ?_
 refine sN ?_
 obtain ⟨d3,d4,h⟩ := Qct h
 refine Wp.into (x := .normal) (mkS [(1,sL aCtx1),(2,sI aBudgets2),(4,.ra 1 0),(7,.ra 2 0),(10,.ra 12 0),(11,.bool c0),(12,.ra 16 0),(13,.rs 17),(14,.rs 18),(15,.ra 21 0),(16,.ra 24 0),(17,.bool d1),(77,.bool d3)] [(1,K1s aS0),(2,K1u aT3),(10,rI b9.fType),(11,.arr (List.map K0j b9.fKids)),(12,.box [I b9.fOp,I b9.fN,.rs 10,.rs 11]),(13,rI c2.fPlus),(14,rI c2.fTimes),(15,.arr (List.map AV.bool c2.fBelow)),(16,.box [I c2.fSize,.rs 13,.rs 14,.rs 15]),(17,.arr (List.map K15 c4)),(18,rI c6),(19,rI c8.fType),(20,.arr (List.map K0j c8.fKids)),(21,.box [I c8.fOp,I c8.fN,.rs 19,.rs 20]),(22,rI d0.fType),(23,.arr (List.map K0j d0.fKids)),(24,.box [I d0.fOp,I d0.fN,.rs 22,.rs 23])]) ?_ ?_
 ·replace h := d4
  obtain ⟨d5,d6,h⟩ := Qct h
  rcases is h with ⟨d7,h⟩ | ⟨d7,h⟩
  ·refine rgs hc none [oN,oN,oc (.bool d5),oN,oN,oN,oN,oN,oF] [(1,sL aCtx1),(2,sI aBudgets2),(4,.ra 1 0),(7,.ra 2 0),(10,.ra 12 0),(11,.bool c0),(12,.ra 16 0),(13,.rs 17),(14,.rs 18),(15,.ra 21 0),(16,.ra 24 0),(17,.bool d1),(77,.bool (!(d1 == c0)))] (ac (Q71.args (A1 := [K25 d0,K25 b9]) (A2 := [K1v d0,K1v b9]) (by simp only [K25,List.map_nil,K1f,Qdl]) (Kp4 _ _ d6)) K85 (Or.inr rfl : ([22,23,10,11] : List Nat) = [] ∨ noSh (.bool d5) = true) (ar 4 (nF d7) tv)) ?_
   obtain rfl := os h
   exact Qcf.mk
  refine rgs hc none [oN,oN,oc (.bool d5),oN,oN,o_,o_,o_,oT] [(1,sL aCtx1),(2,sI aBudgets2),(4,.ra 1 0),(7,.ra 2 0),(10,.ra 12 0),(11,.bool c0),(12,.ra 16 0),(13,.rs 17),(14,.rs 18),(15,.ra 21 0),(16,.ra 24 0),(17,.bool d1),(77,.bool true)] (ac (Q71.args (A1 := [K25 d0,K25 b9]) (A2 := [K1v d0,K1v b9]) (by simp only [K25,List.map_nil,K1f,Qdl]) (Kp4 _ _ d6)) K85 (Or.inr rfl : ([22,23,10,11] : List Nat) = [] ∨ noSh (.bool d5) = true) (ar 3 (neF (nT d7)) (ai (nT d7) tv))) ?_
  obtain rfl := os h
  exact Qcf.mk
 clear d4
 refine ic h (fun d8 h => ?_) fun d8 h => ?_
 ·refine rs0 hc 1 [(8,.bool false)] [] ?_
  refine rt ?_
  obtain rfl := os h
  exact rq [true]
 refine sk ?_
 refine sN ?_
 obtain ⟨d9,e0,e1,e2,h⟩ := bq2 h
 refine rss hc Kr6 [oN,oN,some (.call (K22 d9) [] 25),oc (.bool e1),oN] [(1,sL aCtx1),(2,sI aBudgets2),(4,.ra 1 0),(7,.ra 2 0),(10,.ra 12 0),(11,.bool c0),(12,.ra 16 0),(13,.rs 17),(14,.rs 18),(15,.ra 21 0),(16,.ra 24 0),(17,.bool d1),(82,.bool (!e1))] (cq (K9t _ _ e0) K35 (ac (Q71.args (A1 := [K23 c2,K23 d9]) (A2 := [K1t c2,K1t d9]) (by simp only [K23,List.map_nil,Qdn,Qdl]) (Kpg _ _ e2)) K87 (Or.inr rfl : ([13,14,15,25,26,27] : List Nat) = [] ∨ noSh (.bool e1) = true) tv)) ?_
 rcases is h with ⟨e3,h⟩ | ⟨e3,h⟩
 ·refine cF (!e1) (nF e3) ?_
  refine sk ?_
  refine sN ?_
  obtain ⟨e4,e5,e6,e7,h⟩ := bq2 h
  refine rss hc none [oN,oN,some (.call (.osl (List.map K15 e4)) [] 28),oc (.bool e6),oN] [(1,sL aCtx1),(2,sI aBudgets2),(4,.ra 1 0),(7,.ra 2 0),(10,.ra 12 0),(11,.bool c0),(12,.ra 16 0),(13,.rs 17),(14,.rs 18),(15,.ra 21 0),(16,.ra 24 0),(17,.bool d1),(87,.bool (!e6))] (cq (Ka0 _ _ e5) K36 (ac (Q71.args (A1 := [.sl (Q02 (List.map K15 c4)),.sl (Q02 (List.map K15 e4))]) (A2 := [sL c4,sL e4]) (by simp only [List.map_nil,K19]) (Kpn _ _ e7)) K88 (Or.inr rfl : ([17,28] : List Nat) = [] ∨ noSh (.bool e6) = true) tv)) ?_
  rcases is h with ⟨e8,h⟩ | ⟨e8,h⟩
  ·refine cF (!e6) (nF e8) ?_
   refine sk ?_
   refine sN ?_
   obtain ⟨e9,f0,f1,f2,h⟩ := bq2 h
   refine rss hc none [oN,oN,some (.call (oI e9) [] 29),oc (.bool f1),oN] [(1,sL aCtx1),(2,sI aBudgets2),(4,.ra 1 0),(7,.ra 2 0),(10,.ra 12 0),(11,.bool c0),(12,.ra 16 0),(13,.rs 17),(14,.rs 18),(15,.ra 21 0),(16,.ra 24 0),(17,.bool d1),(92,.bool (!f1))] (cq (K9j _ _ f0) K33 (ac (Q71.args (A1 := [.sl (Q02 (List.map I c6)),.sl (Q02 (List.map I e9))]) (A2 := [sI c6,sI e9]) (by simp only [List.map_nil,Qdl]) (Kov _ _ f2)) K83 (Or.inr rfl : ([18,29] : List Nat) = [] ∨ noSh (.bool f1) = true) tv)) ?_
   rcases is h with ⟨f3,h⟩ | ⟨f3,h⟩
   ·refine cF (!f1) (nF f3) ?_
    refine sk ?_
    refine sN ?_
    obtain ⟨f4,f5,f6,f7,h⟩ := bq2 h
    refine rss hc Kr6 [oN,oN,some (.call (K24 f4) [] 30),oc (.bool f6),oN] [(1,sL aCtx1),(2,sI aBudgets2),(4,.ra 1 0),(7,.ra 2 0),(10,.ra 12 0),(11,.bool c0),(12,.ra 16 0),(13,.rs 17),(14,.rs 18),(15,.ra 21 0),(16,.ra 24 0),(17,.bool d1),(97,.bool (!f6))] (cq (Ka9 _ _ f5) K38 (ac (Q71.args (A1 := [K25 c8,K25 f4]) (A2 := [K1v c8,K1v f4]) (by simp only [K25,List.map_nil,K1f,Qdl]) (Kp4 _ _ f7)) K85 (Or.inr rfl : ([19,20,30,31] : List Nat) = [] ∨ noSh (.bool f6) = true) tv)) ?_
    rcases is h with ⟨f9,h⟩ | ⟨f9,h⟩
    ·refine cF (!f6) (nF f9) ?_
     refine sk ?_
     refine K8k hc 1 [(1,sL aCtx1),(2,sI aBudgets2),(4,.ra 1 0),(7,.ra 2 0),(10,.ra 12 0),(11,.bool c0),(12,.ra 16 0),(13,.rs 17),(14,.rs 18),(15,.ra 21 0),(16,.ra 24 0),(17,.bool d1),(18,I 1)] ?_
     obtain ⟨⟨g0,g1⟩,g2,h⟩ := Qct h
     refine rs hc none [oN,oN,some (.call (I g0) [.agg [.undef,oI g1.fPlus,oI g1.fTimes,.osl (List.map AV.bool g1.fBelow)],.undef] 1),oN] [(1,sL aCtx1),(2,sI aBudgets2),(4,.ra 1 0),(7,.ra 2 0),(10,.ra 12 0),(11,.bool c0),(13,.rs 17),(14,.rs 18),(15,.ra 21 0),(16,.ra 24 0),(17,.bool d1),(18,I g0)] [(1,K1s aS0),(2,K1u aT3),(10,rI b9.fType),(11,.arr (List.map K0j b9.fKids)),(12,.box [I b9.fOp,I b9.fN,.rs 10,.rs 11]),(17,.arr (List.map K15 c4)),(18,rI c6),(19,rI c8.fType),(20,.arr (List.map K0j c8.fKids)),(21,.box [I c8.fOp,I c8.fN,.rs 19,.rs 20]),(22,rI d0.fType),(23,.arr (List.map K0j d0.fKids)),(24,.box [I d0.fOp,I d0.fN,.rs 22,.rs 23])] (ab (Kq4 _ _ g2) K8b tv) ?_
     obtain ⟨⟨g3,g4⟩,g5,h⟩ := Qct h
     refine rs hc none [oN,oN,some (.call (I g3) [.osl (List.map K15 g4),.undef] 1),oN] [(1,sL aCtx1),(2,sI aBudgets2),(4,.ra 1 0),(7,.ra 2 0),(10,.ra 12 0),(11,.bool c0),(14,.rs 18),(15,.ra 21 0),(16,.ra 24 0),(17,.bool d1),(18,I g3)] [(1,K1s aS0),(2,K1u aT3),(10,rI b9.fType),(11,.arr (List.map K0j b9.fKids)),(12,.box [I b9.fOp,I b9.fN,.rs 10,.rs 11]),(18,rI c6),(19,rI c8.fType),(20,.arr (List.map K0j c8.fKids)),(21,.box [I c8.fOp,I c8.fN,.rs 19,.rs 20]),(22,rI d0.fType),(23,.arr (List.map K0j d0.fKids)),(24,.box [I d0.fOp,I d0.fN,.rs 22,.rs 23])] (ab (Kqb _ _ g5) K8c tv) ?_
     obtain ⟨⟨g6,g7⟩,g8,h⟩ := Qct h
     refine rs hc none [oN,oN,some (.call (I g6) [oI g7,.undef] 1),oN] [(1,sL aCtx1),(2,sI aBudgets2),(4,.ra 1 0),(7,.ra 2 0),(10,.ra 12 0),(11,.bool c0),(15,.ra 21 0),(16,.ra 24 0),(17,.bool d1),(18,I g6)] [(1,K1s aS0),(2,K1u aT3),(10,rI b9.fType),(11,.arr (List.map K0j b9.fKids)),(12,.box [I b9.fOp,I b9.fN,.rs 10,.rs 11]),(19,rI c8.fType),(20,.arr (List.map K0j c8.fKids)),(21,.box [I c8.fOp,I c8.fN,.rs 19,.rs 20]),(22,rI d0.fType),(23,.arr (List.map K0j d0.fKids)),(24,.box [I d0.fOp,I d0.fN,.rs 22,.rs 23])] (ab (Kpu _ _ g8) K89 tv) ?_
     obtain ⟨⟨g9,i0⟩,i1,h⟩ := Qct h
     refine rs hc none [oN,oN,some (.call (I g9) [.agg [.undef,.undef,oI i0.fType,.osl (List.map K0j i0.fKids)],.undef] 1),oN] [(1,sL aCtx1),(2,sI aBudgets2),(4,.ra 1 0),(7,.ra 2 0),(10,.ra 12 0),(11,.bool c0),(16,.ra 24 0),(17,.bool d1),(18,I g9)] [(1,K1s aS0),(2,K1u aT3),(10,rI b9.fType),(11,.arr (List.map K0j b9.fKids)),(12,.box [I b9.fOp,I b9.fN,.rs 10,.rs 11]),(22,rI d0.fType),(23,.arr (List.map K0j d0.fKids)),(24,.box [I d0.fOp,I d0.fN,.rs 22,.rs 23])] (ab (Kqm _ _ i1) K8e tv) ?_
     refine sN ?_
     refine sN ?_
     obtain ⟨i2,i3,h⟩ := Qct h
     refine Wp.into (x := .normal) (mkS [(1,sL aCtx1),(2,sI aBudgets2),(4,.ra 1 0),(7,.ra 2 0),(10,.ra 12 0),(11,.bool c0),(16,.ra 24 0),(122,.bool i2)] [(1,K1s aS0),(2,K1u aT3),(10,rI b9.fType),(11,.arr (List.map K0j b9.fKids)),(12,.box [I b9.fOp,I b9.fN,.rs 10,.rs 11]),(22,rI d0.fType),(23,.arr (List.map K0j d0.fKids)),(24,.box [I d0.fOp,I d0.fN,.rs 22,.rs 23])]) ?_ ?_
     ·replace h := i3
      rcases is h with ⟨i4,h⟩ | ⟨i4,h⟩
      ·refine rgs hc none [oN,oN,oN,o_,o_,o_,o_,oT,oN,o_,o_,o_,oT] [(1,sL aCtx1),(2,sI aBudgets2),(4,.ra 1 0),(7,.ra 2 0),(10,.ra 12 0),(11,.bool c0),(16,.ra 24 0),(122,.bool true)] (ar 4 (neF i4) (ai i4 (ar 3 nf (ai tt tv)))) ?_
       obtain rfl := os h
       exact Qcf.mk
      obtain ⟨i5,i6,h⟩ := Qct h
      rcases is h with ⟨i7,h⟩ | ⟨i7,h⟩
      ·refine rgs hc none [oN,oN,oN,oN,oN,oc (.bool i5),oN,oF,oN,oN,oN,oN,oF] [(1,sL aCtx1),(2,sI aBudgets2),(4,.ra 1 0),(7,.ra 2 0),(10,.ra 12 0),(11,.bool c0),(16,.ra 24 0),(122,.bool (!(d1 == c0)))] (ar 3 i4 (ac (Q71.args (A1 := [K25 d0,K25 b9]) (A2 := [K1v d0,K1v b9]) (by simp only [K25,List.map_nil,K1f,Qdl]) (Kp4 _ _ i6)) K85 (Or.inr rfl : ([22,23,10,11] : List Nat) = [] ∨ noSh (.bool i5) = true) (ar 2 i4 (ar 4 (nF i7) tv)))) ?_
       obtain rfl := os h
       exact Qcf.mk
      refine rgs hc none [oN,oN,oN,oN,oN,oc (.bool i5),oN,oF,oN,o_,o_,o_,oT] [(1,sL aCtx1),(2,sI aBudgets2),(4,.ra 1 0),(7,.ra 2 0),(10,.ra 12 0),(11,.bool c0),(16,.ra 24 0),(122,.bool true)] (ar 3 i4 (ac (Q71.args (A1 := [K25 d0,K25 b9]) (A2 := [K1v d0,K1v b9]) (by simp only [K25,List.map_nil,K1f,Qdl]) (Kp4 _ _ i6)) K85 (Or.inr rfl : ([22,23,10,11] : List Nat) = [] ∨ noSh (.bool i5) = true) (ar 2 i4 (ar 3 (neF (nT i7)) (ai (nT i7) tv))))) ?_
      obtain rfl := os h
      exact Qcf.mk
     clear i3
     refine ic h (fun i8 h => ?_) fun i8 h => ?_
     ·refine rs0 hc 1 [(8,.bool false)] [] ?_
      refine rt ?_
      obtain rfl := os h
      exact rq [true]
     refine sk ?_
     refine K8k hc 1 [(1,sL aCtx1),(2,sI aBudgets2),(4,.ra 1 0),(7,.ra 2 0),(10,.ra 12 0),(11,.bool c0),(16,.ra 24 0),(19,I 1)] ?_
     obtain ⟨⟨i9,j0⟩,j8,h⟩ := Qct h
     refine rs hc none [oN,oN,some (.call (I i9) [.agg [.undef,.undef,oI j0.fType,.osl (List.map K0j j0.fKids)],.undef] 1),oN] [(1,sL aCtx1),(2,sI aBudgets2),(4,.ra 1 0),(7,.ra 2 0),(10,.ra 12 0),(11,.bool c0),(16,.ra 24 0),(19,I i9)] [(1,K1s aS0),(2,K1u aT3),(10,rI b9.fType),(11,.arr (List.map K0j b9.fKids)),(12,.box [I b9.fOp,I b9.fN,.rs 10,.rs 11]),(22,rI j0.fType),(23,.arr (List.map K0j j0.fKids)),(24,.box [I d0.fOp,I d0.fN,.rs 22,.rs 23])] (ab (Kqm _ _ j8) K8e tv) ?_
     refine K8k hc 1 [(1,sL aCtx1),(2,sI aBudgets2),(4,.ra 1 0),(7,.ra 2 0),(10,.ra 12 0),(11,.bool c0),(16,.ra 24 0),(19,I i9),(20,I 1)] ?_
     obtain ⟨j9,k0,h⟩ := Qct h
     refine rss hc none [oN,oN,oc (I j9),oN] [(1,sL aCtx1),(2,sI aBudgets2),(4,.ra 1 0),(7,.ra 2 0),(10,.ra 12 0),(11,.bool c0),(16,.ra 24 0),(19,I i9),(20,I j9)] (ac (Q71.args (A1 := [.agg [I d0.fOp,I d0.fN,.sl (Q02 (List.map I j0.fType)),.sl (Q02 (List.map K0j j0.fKids))],I 1]) (A2 := [.agg [I d0.fOp,I d0.fN,sI j0.fType,.sl (List.map K0g j0.fKids)],I 1]) (by simp only [List.map_nil,K1f,Qdl]) (Kr4 _ _ k0)) K8h (Or.inr rfl : ([22,23] : List Nat) = [] ∨ noSh (I j9) = true) tv) ?_
     refine sN ?_
     refine K8k hc 2 [(1,sL aCtx1),(2,sI aBudgets2),(4,.ra 1 0),(7,.ra 2 0),(10,.ra 12 0),(11,.bool c0),(16,.ra 24 0),(19,I i9),(20,I j9),(130,.bool (decide (j9 < 0)))] ?_
     refine ic h (fun k1 h => ?_) fun k1 h => ?_
     ·refine rs0 hc 1 [(8,.bool false)] [] ?_
      refine rt ?_
      obtain rfl := os h
      exact rq [true]
     refine sk ?_
     refine sN ?_
     refine K8k hc 3 [(1,sL aCtx1),(2,sI aBudgets2),(4,.ra 1 0),(7,.ra 2 0),(10,.ra 12 0),(11,.bool c0),(16,.ra 24 0),(19,I i9),(133,.bool (j9 != i9))] ?_
     refine ic h (fun k2 h => ?_) fun k2 h => ?_
     ·refine rs0 hc 1 [(8,.bool false)] [] ?_
      refine rt ?_
      obtain rfl := os h
      exact rq [true]
     refine sk ?_
     obtain ⟨k3,k4,k5,k6,k7,k8,k9,l0,h⟩ := bq4 h
     obtain ⟨⟨l1,l2⟩,l3,h⟩ := Qct h
     refine rs hc Kr5 [oN,some (.call (K22 k3) [] 32),oN,some (.call (.osl (List.map K15 k5)) [] 35),oN,some (.call (oI k7) [] 36),oN,some (.call (K24 k9) [] 37),some (.call (.tup [K24 l1,.bool l2]) [] 39),oN,oN,oN,some (.new 41),oN,oN] [(10,.ra 12 0),(11,.bool c0),(16,.ra 24 0),(19,I i9),(21,.ra 41 0),(22,.bool l2)] [(10,rI b9.fType),(11,.arr (List.map K0j b9.fKids)),(12,.box [I b9.fOp,I b9.fN,.rs 10,.rs 11]),(22,rI j0.fType),(23,.arr (List.map K0j j0.fKids)),(24,.box [I d0.fOp,I d0.fN,.rs 22,.rs 23]),(39,rI l1.fType),(40,.arr (List.map K0j l1.fKids)),(41,.box [I l1.fOp,I l1.fN,.rs 39,.rs 40])] (cq (K9t _ _ k4) K35 (cq (Ka0 _ _ k6) K36 (cq (K9j _ _ k8) K33 (cq (Ka9 _ _ l0) K38 (ac (Q71.args (A1 := [K23 k3,.sl (Q02 (List.map K15 k5)),.sl (Q02 (List.map I k7)),K25 k9]) (A2 := [K1t k3,sL k5,sI k7,K1v k9]) (by simp only [K23,K25,List.map_nil,Qdn,K1f,Qdl,K19]) (Koo _ _ l3)) K82 (Or.inr (Qdv (Qdv rfl (Qdv rfl (Qdv (Qdt Qdp l1.fType) (Qdv (Qdt K1g l1.fKids) rfl)))) (Qdv rfl rfl)) : ([32,33,34,35,36,37,38] : List Nat) = [] ∨ noSh (.tup [K24 l1,.bool l2]) = true) tv))))) ?_
     refine sN ?_
     refine sN ?_
     obtain ⟨l4,l5,h⟩ := Qct h
     refine Wp.into (x := .normal) (mkS [(16,.ra 24 0),(19,I i9),(154,.bool l4)] [(22,rI j0.fType),(23,.arr (List.map K0j j0.fKids)),(24,.box [I d0.fOp,I d0.fN,.rs 22,.rs 23])]) ?_ ?_
     ·replace h := l5
      obtain ⟨l6,l7,h⟩ := Qct h
      rcases is h with ⟨l8,h⟩ | ⟨l8,h⟩
      ·refine rg hc none [oN,oN,oc (.bool l6),oN,oN,oN,oN,oN,oF] [(16,.ra 24 0),(19,I i9),(154,.bool (!(l2 == c0)))] [(22,rI j0.fType),(23,.arr (List.map K0j j0.fKids)),(24,.box [I d0.fOp,I d0.fN,.rs 22,.rs 23])] (ac (Q71.args (A1 := [K25 l1,K25 b9]) (A2 := [K1v l1,K1v b9]) (by simp only [K25,List.map_nil,K1f,Qdl]) (Kp4 _ _ l7)) K85 (Or.inr rfl : ([39,40,10,11] : List Nat) = [] ∨ noSh (.bool l6) = true) (ar 4 (nF l8) tv)) ?_
       obtain rfl := os h
       exact Qcf.mk
      refine rg hc none [oN,oN,oc (.bool l6),oN,oN,o_,o_,o_,oT] [(16,.ra 24 0),(19,I i9),(154,.bool true)] [(22,rI j0.fType),(23,.arr (List.map K0j j0.fKids)),(24,.box [I d0.fOp,I d0.fN,.rs 22,.rs 23])] (ac (Q71.args (A1 := [K25 l1,K25 b9]) (A2 := [K1v l1,K1v b9]) (by simp only [K25,List.map_nil,K1f,Qdl]) (Kp4 _ _ l7)) K85 (Or.inr rfl : ([39,40,10,11] : List Nat) = [] ∨ noSh (.bool l6) = true) (ar 3 (neF (nT l8)) (ai (nT l8) tv))) ?_
      obtain rfl := os h
      exact Qcf.mk
     clear l5
     refine ic h (fun l9 h => ?_) fun l9 h => ?_
     ·refine rs0 hc 1 [(8,.bool false)] [] ?_
      refine rt ?_
      obtain rfl := os h
      exact rq [true]
     refine sk ?_
     refine K8k hc 1 [(16,.ra 24 0),(19,I i9),(20,I 1)] ?_
     obtain ⟨m0,m1,h⟩ := Qct h
     refine rs hc none [oN,oN,oc (I m0),oN] [(19,I i9),(20,I m0)] [] (ac (Q71.args (A1 := [.agg [I d0.fOp,I d0.fN,.sl (Q02 (List.map I j0.fType)),.sl (Q02 (List.map K0j j0.fKids))],I 1]) (A2 := [.agg [I d0.fOp,I d0.fN,sI j0.fType,.sl (List.map K0g j0.fKids)],I 1]) (by simp only [List.map_nil,K1f,Qdl]) (Kr4 _ _ m1)) K8h (Or.inr rfl : ([22,23] : List Nat) = [] ∨ noSh (I m0) = true) tv) ?_
     refine sN ?_
     refine rs0 hc 2 [(19,I i9),(20,I m0),(159,.bool (decide (m0 < 0)))] [] ?_
     refine ic h (fun m2 h => ?_) fun m2 h => ?_
     ·refine rs0 hc 1 [(8,.bool false)] [] ?_
      refine rt ?_
      obtain rfl := os h
      exact rq [true]
     refine sk ?_
     refine sN ?_
     refine rs0 hc 3 [(162,.bool (m0 != i9))] [] ?_
     refine ic h (fun m3 h => ?_) fun m3 h => ?_
     ·refine rs0 hc 1 [(8,.bool false)] [] ?_
      refine rt ?_
      obtain rfl := os h
      exact rq [true]
     refine sk ?_
     refine rs0 hc 1 [(8,.bool true)] [] ?_
     refine rt ?_
     obtain rfl := os h
     exact rq [true]
    refine cT (!f6) (nT f9) ?_
    refine rs0 hc 1 [(8,.bool false)] [] ?_
    refine rt ?_
    obtain rfl := os h
    exact rq [true]
   refine cT (!f1) (nT f3) ?_
   refine rs0 hc 1 [(8,.bool false)] [] ?_
   refine rt ?_
   obtain rfl := os h
   exact rq [true]
  refine cT (!e6) (nT e8) ?_
  refine rs0 hc 1 [(8,.bool false)] [] ?_
  refine rt ?_
  obtain rfl := os h
  exact rq [true]
 refine cT (!e1) (nT e3) ?_
 refine rs0 hc 1 [(8,.bool false)] [] ?_
 refine rt ?_
 obtain rfl := os h
 exact rq [true]
end Go.Am
