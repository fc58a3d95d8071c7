/- Functions of the program as pure functions,and that it computes them. Printed by a program of mine (gen.py). -/
import Derived.Test.YtkboikcppljkeaaGreatGDERF12
set_option linter.unusedVariables false
set_option linter.unusedSimpArgs false
set_option maxRecDepth 100000
namespace Go.Am
open Go Go.Proofs
def Kp7 (p : (List Bool) × Int × Int) : Option (Int × (List Bool)) :=
 match p with
 | (a0,a1,a2) =>
  if (decide (a2 < (a0.length : Int))) = true then
  (idx a0 a2) >>= fun a3 =>
  Kp7 ((List.set a0 (Int.toNat a2) ((Int.tmod a1 3) == 0)),(wr (a1 + 1)),(wr (a2 + 1)))
  else
  some ((a1,a0))
 partial_fixpoint
def Kp8 (p : (List Bool) × Int × Int) (fl : Int × (List Bool)) : Prop :=
 match p with
 | (a0,a1,a2) => ∀ c : Ctx,c.nt = 21 → WpL Tryz.prog c (cl (cl (cr (cl (cr B50))))) (Kp6 c fl) (mkS [(0,.rs 1000),(1,I a1),(5,I a2)] [(1000,.arr (List.map AV.bool a0))])
theorem Kp9 : ∀ p r,Kp7 p = some r → Kp8 p r := by
 refine Kp7.partial_correctness Kp8 ?_
 rintro laws_markBoolS_l0_f laws_markBoolS_l0_ih ⟨a0,a1,a2⟩ r h
 intro c hc
 refine WpL.step ?_
 refine sN ?_
 refine rss hc none [oN,oN,some (.eqv (.no) ⟨[(8,I (a0.length : Int))],[],[]⟩),oN] [(0,.rs 1000),(1,I a1),(5,I a2),(9,.bool (decide (a2 < (a0.length : Int))))] (ai (Qdj (d := 8) AV.bool a0) tv) ?_
 refine ic h (fun a3 h => ?_) fun a3 h => ?_
 ·refine sk ?_
  refine sN ?_
  refine bk 1 ?_
  obtain ⟨a4,a5,h⟩ := Qdd h
  refine rs hc none [oN,oN,oN,oN,oN,oN,some (.eqv (.mk 0 true) ⟨[],[(1000,some (.arr (List.map AV.bool (List.set a0 (Int.toNat a2) ((Int.tmod a1 3) == 0)))))],[]⟩)] [(0,.rs 1000),(1,I a1),(5,I a2)] [(1000,.arr (List.map AV.bool (List.set a0 (Int.toNat a2) ((Int.tmod a1 3) == 0))))] (ad ((by decide) : (3 : Int) ≠ 0) (Qdi (enc := AV.bool) a5) (congrArg (fun z => (⟨[],[(1000,some (.arr z))],[]⟩ : Wr)) (Qeg (enc := AV.bool) (i := Int.toNat a2) (l := a0) (v := ((Int.tmod a1 3) == 0)) (x := AV.bool ((Int.tmod a1 3) == 0)) (Qdu ((Int.tmod a1 3) == 0)))) (Qeh (enc := AV.bool) (sz := 1) Qdy a5) tv) ?_
  refine K87 hc 3 [(0,.rs 1000),(1,I (wr (a1 + 1))),(5,I a2)] ?_
  refine K87 hc 3 [(0,.rs 1000),(1,I (wr (a1 + 1))),(5,I (wr (a2 + 1)))] ?_
  refine Qcv ?_
  exact (laws_markBoolS_l0_ih _ _ h c hc)
 refine xt 0 ?_
 refine Qcp ?_
 refine Qcw ?_
 obtain ⟨rfl,rfl⟩ := Prod.mk.inj (Option.some.inj h)
 exact iv []
def Kpa (p : (List Bool) × Int) : Option (Int × (List Bool)) :=
 match p with
 | (a0,k1) =>
  (Kp7 (a0,k1,0)) >>= fun (a1,a2) =>
  some (a1,a2)
def Kpb (p : (List Bool) × Int) (r : Int × (List Bool)) : Prop :=
 match p with
 | (a0,k1) => Q71 Tryz.prog 50 [.osl (List.map AV.bool a0),I k1] (I r.1) [.osl (List.map AV.bool r.2),.undef]
theorem Kpc : ∀ p r,Kpa p = some r → Kpb p r := by
 rintro ⟨a0,k1⟩ r h
 unfold Kpa at h
 refine Q71.bodyO K3e (fn := Tryz.f50) (code := B50) (by kernel_rfl) (by kernel_rfl) (by kernel_rfl) (nt := 21) (by kernel_rfl) (by kernel_rfl) (T := [(0,.rs 1000),(1,I k1)]) (O := [(1000,.arr (List.map AV.bool a0))]) (by kernel_rfl) (by kernel_rfl) (fun c hc => ?_)
 refine K88 hc 1 [(0,.rs 1000),(1,I k1)] ?_
 refine sN ?_
 refine K88 hc 1 [(0,.rs 1000),(1,I k1),(5,I 0)] ?_
 refine bk 0 ?_
 obtain ⟨⟨a1,a2⟩,a3,h⟩ := Qdd h
 have hL := Kp9 _ _ a3 c hc
 refine lp ?_
 refine WpL.into (e := (.exit 0)) (mkS [(1,I a1)] [(1000,.arr (List.map AV.bool a2))]) hL ?_
 refine Qcr ?_
 refine K88 hc 2 [(4,I a1)] ?_
 refine rt ?_
 obtain rfl := os h
 exact Qda.ret (fl := [true]) (by kernel_rfl)
def Kpd (p : K00 × Int) : Option (Int × K00) :=
 match p with
 | (a0,k1) =>
  (Kp3 (a0.fPlus,k1)) >>= fun (a1,a2) =>
  (Kp3 (a0.fTimes,a1)) >>= fun (a3,a4) =>
  (Kpa (a0.fBelow,a3)) >>= fun (a5,a6) =>
  some (a5,(K00.mk a0.fSize a2 a4 a6))
def Kpe (p : K00 × Int) (r : Int × K00) : Prop :=
 match p with
 | (a0,k1) => Q71 Tryz.prog 22 [K2g a0,I k1] (I r.1) [.agg [.undef,.osl (List.map I r.2.fPlus),.osl (List.map I r.2.fTimes),.osl (List.map AV.bool r.2.fBelow)],.undef]
theorem Kpf : ∀ p r,Kpd p = some r → Kpe p r := by
 rintro ⟨a0,k1⟩ r h
 unfold Kpd at h
 refine Q71.bodyO K3e (fn := Tryz.f22) (code := B22) (by kernel_rfl) (by kernel_rfl) (by kernel_rfl) (nt := 18) (by kernel_rfl) (by kernel_rfl) (T := [(0,.agg [I a0.fSize,.rs 1000,.rs 1001,.rs 1002]),(1,I k1)]) (O := [(1000,rI a0.fPlus),(1001,rI a0.fTimes),(1002,.arr (List.map AV.bool a0.fBelow))]) (by kernel_rfl) (by kernel_rfl) (fun c hc => ?_)
 refine rs hc none [some (.new 1),oN] [(1,I k1),(2,.ra 1 0)] [(1,.box [I a0.fSize,.rs 1000,.rs 1001,.rs 1002]),(1000,rI a0.fPlus),(1001,rI a0.fTimes),(1002,.arr (List.map AV.bool a0.fBelow))] tv ?_
 obtain ⟨⟨a1,a2⟩,a3,h⟩ := Qdd h
 refine rs hc none [oN,oN,oN,some (.call (I a1) [oI a2,.undef] 1),oN] [(1,I a1),(2,.ra 1 0)] [(1,.box [I a0.fSize,.rs 1000,.rs 1001,.rs 1002]),(1000,rI a2),(1001,rI a0.fTimes),(1002,.arr (List.map AV.bool a0.fBelow))] (ab (Kp5 _ _ a3) K7v tv) ?_
 obtain ⟨⟨a4,a5⟩,a6,h⟩ := Qdd h
 refine rs hc none [oN,oN,oN,some (.call (I a4) [oI a5,.undef] 1),oN] [(1,I a4),(2,.ra 1 0)] [(1,.box [I a0.fSize,.rs 1000,.rs 1001,.rs 1002]),(1000,rI a2),(1001,rI a5),(1002,.arr (List.map AV.bool a0.fBelow))] (ab (Kp5 _ _ a6) K7v tv) ?_
 obtain ⟨⟨a7,a8⟩,a9,h⟩ := Qdd h
 refine rs hc none [oN,oN,oN,some (.call (I a7) [.osl (List.map AV.bool a8),.undef] 1),oN] [(1,I a7)] [(1000,rI a2),(1001,rI a5),(1002,.arr (List.map AV.bool a8))] (ab (Kpc _ _ a9) K7w tv) ?_
 refine K88 hc 2 [(4,I a7)] ?_
 refine rt ?_
 obtain rfl := os h
 exact Qda.ret (fl := [true]) (by kernel_rfl)
def Kpg (c : Ctx) : Int × LL → Exit → Q0a → Prop
 | (a0,a1) => Qcz c (.exit 0) (mkS [(1,I a0)] [(1000,.arr (List.map K0c a1))])
def Kph (p : LL × Int × Int) : Option (Int × LL) :=
 match p with
 | (a0,a1,a2) =>
  if (decide (a2 < (a0.length : Int))) = true then
  (idx a0 a2) >>= fun a3 =>
  (Kp3 (a3,a1)) >>= fun (a4,a5) =>
  Kph ((List.set a0 (Int.toNat a2) a5),a4,(wr (a2 + 1)))
  else
  some ((a1,a0))
 partial_fixpoint
def Kpi (p : LL × Int × Int) (fl : Int × LL) : Prop :=
 match p with
 | (a0,a1,a2) => ∀ c : Ctx,c.nt = 19 → WpL Tryz.prog c (cl (cl (cr (cl (cr B23))))) (Kpg c fl) (mkS [(0,.rs 1000),(1,I a1),(5,I a2)] [(1000,.arr (List.map K0c a0))])
theorem Kpj : ∀ p r,Kph p = some r → Kpi p r := by
 refine Kph.partial_correctness Kpi ?_
 rintro laws_markIntSS_l0_f laws_markIntSS_l0_ih ⟨a0,a1,a2⟩ r h
 intro c hc
 refine WpL.step ?_
 refine sN ?_
 refine rss hc none [oN,oN,some (.eqv (.no) ⟨[(8,I (a0.length : Int))],[],[]⟩),oN] [(0,.rs 1000),(1,I a1),(5,I a2),(9,.bool (decide (a2 < (a0.length : Int))))] (ai (Qdj (d := 8) K0c a0) tv) ?_
 refine ic h (fun a3 h => ?_) fun a3 h => ?_
 ·refine sk ?_
  refine sN ?_
  refine bk 1 ?_
  obtain ⟨a4,a5,h⟩ := Qdd h
  refine Wp.view (fun a w hv => SRx.openL 1000 (Int.toNat a2) 0 2 [2,1000] (xs := List.map K0c a0) (ys := List.map I a4) (x0 := oI a4) hv (by kernel_rfl) (Qdh a5 (K0d a4)).2 (by kernel_rfl) (by kernel_rfl) (by kernel_rfl)) (?_ : Wp Tryz.prog c _ _ (mkS [(0,.rs 1000),(1,I a1),(5,I a2),(9,.bool (decide (a2 < (a0.length : Int))))] [(2,rI a4),(1000,.arx (List.map K0c a0) (Int.toNat a2) 0 2)]))
  obtain ⟨⟨a6,a7⟩,a8,h⟩ := Qdd h
  refine rg hc none [oN,oN,oN,some (.el (oI a4)),oN,some (.call (I a6) [oI a7,.undef] 1),oN] [(0,.rs 1000),(1,I a6),(5,I a2)] [(2,rI a7),(1000,.arx (List.map K0c a0) (Int.toNat a2) 0 2)] (ad (Qdi (enc := K0c) a5) (And.intro (Qdh a5 (K0d a4)).2 (rfl : Int.toNat a2 = Int.toNat a2)) (Kp5 _ _ a8) K7v tv) ?_
  refine Wp.view (fun a w hv => SRx.closeL 1000 (Int.toNat a2) 0 2 [1000] (xs := List.map K0c a0) (ys := List.map I a7) (x0 := oI a4) (x1 := oI a7) hv (by kernel_rfl) (by kernel_rfl) (by kernel_rfl) (Qdh a5 (K0d a4)).2 (by kernel_rfl) (by kernel_rfl : _ = oI a7) (Qeg (enc := K0c) (i := Int.toNat a2) (l := a0) (v := a7) (x := oI a7) (K0d a7)) (by kernel_rfl)) (?_ : Wp Tryz.prog c _ _ (mkS [(0,.rs 1000),(1,I a6),(5,I a2)] [(1000,.arr (List.map K0c (List.set a0 (Int.toNat a2) a7)))]))
  refine K87 hc 3 [(0,.rs 1000),(1,I a6),(5,I (wr (a2 + 1)))] ?_
  refine Qcv ?_
  exact (laws_markIntSS_l0_ih _ _ h c hc)
 refine xt 0 ?_
 refine Qcp ?_
 refine Qcw ?_
 obtain ⟨rfl,rfl⟩ := Prod.mk.inj (Option.some.inj h)
 exact iv []
def Kpk (p : LL × Int) : Option (Int × LL) :=
 match p with
 | (a0,k1) =>
  (Kph (a0,k1,0)) >>= fun (a1,a2) =>
  some (a1,a2)
def Kpl (p : LL × Int) (r : Int × LL) : Prop :=
 match p with
 | (a0,k1) => Q71 Tryz.prog 23 [.osl (List.map K0c a0),I k1] (I r.1) [.osl (List.map K0c r.2),.undef]
theorem Kpm : ∀ p r,Kpk p = some r → Kpl p r := by
 rintro ⟨a0,k1⟩ r h
 unfold Kpk at h
 refine Q71.bodyO K3e (fn := Tryz.f23) (code := B23) (by kernel_rfl) (by kernel_rfl) (by kernel_rfl) (nt := 19) (by kernel_rfl) (by kernel_rfl) (T := [(0,.rs 1000),(1,I k1)]) (O := [(1000,.arr (List.map K0c a0))]) (by kernel_rfl) (by kernel_rfl) (fun c hc => ?_)
 refine K88 hc 1 [(0,.rs 1000),(1,I k1)] ?_
 refine sN ?_
 refine K88 hc 1 [(0,.rs 1000),(1,I k1),(5,I 0)] ?_
 refine bk 0 ?_
 obtain ⟨⟨a1,a2⟩,a3,h⟩ := Qdd h
 have hL := Kpj _ _ a3 c hc
 refine lp ?_
 refine WpL.into (e := (.exit 0)) (mkS [(1,I a1)] [(1000,.arr (List.map K0c a2))]) hL ?_
 refine Qcr ?_
 refine K88 hc 2 [(4,I a1)] ?_
 refine rt ?_
 obtain rfl := os h
 exact Qda.ret (fl := [true]) (by kernel_rfl)
def Kpn (c : Ctx) : Int × (List K01) → Exit → Q0a → Prop
 | (a0,a1) => Qcz c (.exit 0) (mkS [(1,I a0)] [(1000,.arr (List.map K0v a1))])
mutual
def Kpo (p : (List K01) × Int) : Option (Int × (List K01)) :=
 match p with
 | (a0,k1) =>
  (Kpp (a0,k1,0)) >>= fun (a1,a2) =>
  some (a1,a2)
 partial_fixpoint
def Kpp (p : (List K01) × Int × Int) : Option (Int × (List K01)) :=
 match p with
 | (a0,a1,a2) =>
  if (decide (a2 < (a0.length : Int))) = true then
  (idx a0 a2) >>= fun a3 =>
  (idx (List.set a0 (Int.toNat a2) (K01.mk a1 a3.fN a3.fType a3.fKids)) a2) >>= fun a4 =>
  (idx (List.set (List.set a0 (Int.toNat a2) (K01.mk a1 a3.fN a3.fType a3.fKids)) (Int.toNat a2) (K01.mk a4.fOp (wr (a1 + 1)) a4.fType a4.fKids)) a2) >>= fun a5 =>
  (Kp3 (a5.fType,(wr ((wr (a1 + 1)) + 1)))) >>= fun (a6,a7) =>
  (idx (List.set (List.set (List.set a0 (Int.toNat a2) (K01.mk a1 a3.fN a3.fType a3.fKids)) (Int.toNat a2) (K01.mk a4.fOp (wr (a1 + 1)) a4.fType a4.fKids)) (Int.toNat a2) (K01.mk a5.fOp a5.fN a7 a5.fKids)) a2) >>= fun a8 =>
  (Kpo (a8.fKids,a6)) >>= fun (a9,b1) =>
  Kpp ((List.set (List.set (List.set (List.set a0 (Int.toNat a2) (K01.mk a1 a3.fN a3.fType a3.fKids)) (Int.toNat a2) (K01.mk a4.fOp (wr (a1 + 1)) a4.fType a4.fKids)) (Int.toNat a2) (K01.mk a5.fOp a5.fN a7 a5.fKids)) (Int.toNat a2) (K01.mk a8.fOp a8.fN a8.fType b1)),a9,(wr (a2 + 1)))
  else
  some ((a1,a0))
 partial_fixpoint
end
def Kpq (p : (List K01) × Int) (r : Int × (List K01)) : Prop :=
 match p with
 | (a0,k1) => Q71 Tryz.prog 51 [.osl (List.map K0v a0),I k1] (I r.1) [.osl (List.map K0v r.2),.undef]
def Kpr (p : (List K01) × Int × Int) (fl : Int × (List K01)) : Prop :=
 match p with
 | (a0,a1,a2) => ∀ c : Ctx,c.nt = 41 → WpL Tryz.prog c (cl (cl (cr (cl (cr B51))))) (Kpn c fl) (mkS [(0,.rs 1000),(1,I a1),(5,I a2)] [(1000,.arr (List.map K0v a0))])
theorem Kps : (∀ p r,Kpo p = some r → Kpq p r) ∧ (∀ p r,Kpp p = some r → Kpr p r) := by
 refine Kpo.mutual_partial_correctness Kpq Kpr ?_ ?_
 ·rintro laws_markTermS_l0_f laws_markTermS_l0_ih ⟨a0,k1⟩ r h
  refine Q71.bodyO K3e (fn := Tryz.f51) (code := B51) (by kernel_rfl) (by kernel_rfl) (by kernel_rfl) (nt := 41) (by kernel_rfl) (by kernel_rfl) (T := [(0,.rs 1000),(1,I k1)]) (O := [(1000,.arr (List.map K0v a0))]) (by kernel_rfl) (by kernel_rfl) (fun c hc => ?_)
  refine K88 hc 1 [(0,.rs 1000),(1,I k1)] ?_
  refine sN ?_
  refine K88 hc 1 [(0,.rs 1000),(1,I k1),(5,I 0)] ?_
  refine bk 0 ?_
  obtain ⟨⟨a1,a2⟩,a3,h⟩ := Qdd h
  have hL := laws_markTermS_l0_ih _ _ a3 c hc
  refine lp ?_
  refine WpL.into (e := (.exit 0)) (mkS [(1,I a1)] [(1000,.arr (List.map K0v a2))]) hL ?_
  refine Qcr ?_
  refine K88 hc 2 [(4,I a1)] ?_
  refine rt ?_
  obtain rfl := os h
  exact Qda.ret (fl := [true]) (by kernel_rfl)
 ·rintro laws_markTermS_f laws_markTermS_l0_f laws_markTermS_ih laws_markTermS_l0_ih ⟨a4,a5,a6⟩ r h
  intro c hc
  refine WpL.step ?_
  refine sN ?_
  refine rss hc none [oN,oN,some (.eqv (.no) ⟨[(8,I (a4.length : Int))],[],[]⟩),oN] [(0,.rs 1000),(1,I a5),(5,I a6),(9,.bool (decide (a6 < (a4.length : Int))))] (ai (Qdj (d := 8) K0v a4) tv) ?_
  refine ic h (fun a7 h => ?_) fun a7 h => ?_
  ·refine sk ?_
   refine sN ?_
   refine bk 1 ?_
   obtain ⟨a8,a9,h⟩ := Qdd h
   refine rs hc none [oN,oN,oN,oN,oN,some (.eqv (.el (K2i a8)) ⟨[],[(1000,some (.arr (List.map K0v (List.set a4 (Int.toNat a6) (K01.mk a5 a8.fN a8.fType a8.fKids)))))],[]⟩)] [(0,.rs 1000),(1,I a5),(5,I a6)] [(1000,.arr (List.map K0v (List.set a4 (Int.toNat a6) (K01.mk a5 a8.fN a8.fType a8.fKids))))] (ac (Qdi (enc := K0v) a9) (congrArg (fun z => (⟨[],[(1000,some (.arr z))],[]⟩ : Wr)) (Qeg (enc := K0v) (i := Int.toNat a6) (l := a4) (v := (K01.mk a5 a8.fN a8.fType a8.fKids)) (x := AV.agg [I a5,I a8.fN,oI a8.fType,.osl (List.map K0v a8.fKids)]) (K11 (K01.mk a5 a8.fN a8.fType a8.fKids)))) (Qdh a9 (K11 a8)).2 tv) ?_
   refine K88 hc 3 [(0,.rs 1000),(1,I (wr (a5 + 1))),(5,I a6)] ?_
   obtain ⟨b1,b2,h⟩ := Qdd h
   refine rs hc none [oN,oN,oN,oN,oN,some (.eqv (.el (K2i b1)) ⟨[],[(1000,some (.arr (List.map K0v (List.set (List.set a4 (Int.toNat a6) (K01.mk a5 a8.fN a8.fType a8.fKids)) (Int.toNat a6) (K01.mk b1.fOp (wr (a5 + 1)) b1.fType b1.fKids)))))],[]⟩)] [(0,.rs 1000),(1,I (wr (a5 + 1))),(5,I a6)] [(1000,.arr (List.map K0v (List.set (List.set a4 (Int.toNat a6) (K01.mk a5 a8.fN a8.fType a8.fKids)) (Int.toNat a6) (K01.mk b1.fOp (wr (a5 + 1)) b1.fType b1.fKids))))] (ac (Qdi (enc := K0v) b2) (congrArg (fun z => (⟨[],[(1000,some (.arr z))],[]⟩ : Wr)) (Qeg (enc := K0v) (i := Int.toNat a6) (l := (List.set a4 (Int.toNat a6) (K01.mk a5 a8.fN a8.fType a8.fKids))) (v := (K01.mk b1.fOp (wr (a5 + 1)) b1.fType b1.fKids)) (x := AV.agg [I b1.fOp,I (wr (a5 + 1)),oI b1.fType,.osl (List.map K0v b1.fKids)]) (K11 (K01.mk b1.fOp (wr (a5 + 1)) b1.fType b1.fKids)))) (Qdh b2 (K11 b1)).2 tv) ?_
   refine K88 hc 3 [(0,.rs 1000),(1,I (wr ((wr (a5 + 1)) + 1))),(5,I a6)] ?_
   refine sN ?_
   obtain ⟨b3,b4,h⟩ := Qdd h
   refine Wp.view (fun a w hv => SRx.openL 1000 (Int.toNat a6) 2 3 [3,1000] (xs := List.map K0v (List.set (List.set a4 (Int.toNat a6) (K01.mk a5 a8.fN a8.fType a8.fKids)) (Int.toNat a6) (K01.mk b1.fOp (wr (a5 + 1)) b1.fType b1.fKids))) (ys := List.map I b3.fType) (x0 := K2i b3) hv (by kernel_rfl) (Qdh b4 (K11 b3)).2 (by kernel_rfl) (by kernel_rfl) (by kernel_rfl)) (?_ : Wp Tryz.prog c _ _ (mkS [(0,.rs 1000),(1,I (wr ((wr (a5 + 1)) + 1))),(5,I a6)] [(3,rI b3.fType),(1000,.arx (List.map K0v (List.set (List.set a4 (Int.toNat a6) (K01.mk a5 a8.fN a8.fType a8.fKids)) (Int.toNat a6) (K01.mk b1.fOp (wr (a5 + 1)) b1.fType b1.fKids))) (Int.toNat a6) 2 3)]))
   obtain ⟨⟨b5,b6⟩,b7,h⟩ := Qdd h
   refine rg hc none [oN,oN,oN,oN,some (.el (K2i b3)),oN,some (.call (I b5) [oI b6,.undef] 1),oN] [(0,.rs 1000),(1,I b5),(5,I a6)] [(3,rI b6),(1000,.arx (List.map K0v (List.set (List.set a4 (Int.toNat a6) (K01.mk a5 a8.fN a8.fType a8.fKids)) (Int.toNat a6) (K01.mk b1.fOp (wr (a5 + 1)) b1.fType b1.fKids))) (Int.toNat a6) 2 3)] (ad (Qdi (enc := K0v) b4) (And.intro (Qdh b4 (K11 b3)).2 (rfl : Int.toNat a6 = Int.toNat a6)) (Kp5 _ _ b7) K7v tv) ?_
   refine Wp.view (fun a w hv => SRx.closeL 1000 (Int.toNat a6) 2 3 [1000] (xs := List.map K0v (List.set (List.set a4 (Int.toNat a6) (K01.mk a5 a8.fN a8.fType a8.fKids)) (Int.toNat a6) (K01.mk b1.fOp (wr (a5 + 1)) b1.fType b1.fKids))) (ys := List.map I b6) (x0 := K2i b3) (x1 := AV.agg [I b3.fOp,I b3.fN,oI b6,.osl (List.map K0v b3.fKids)]) hv (by kernel_rfl) (by kernel_rfl) (by kernel_rfl) (Qdh b4 (K11 b3)).2 (by kernel_rfl) (by kernel_rfl : _ = AV.agg [I b3.fOp,I b3.fN,oI b6,.osl (List.map K0v b3.fKids)]) (Qeg (enc := K0v) (i := Int.toNat a6) (l := (List.set (List.set a4 (Int.toNat a6) (K01.mk a5 a8.fN a8.fType a8.fKids)) (Int.toNat a6) (K01.mk b1.fOp (wr (a5 + 1)) b1.fType b1.fKids))) (v := (K01.mk b3.fOp b3.fN b6 b3.fKids)) (x := AV.agg [I b3.fOp,I b3.fN,oI b6,.osl (List.map K0v b3.fKids)]) (K11 (K01.mk b3.fOp b3.fN b6 b3.fKids))) (by kernel_rfl)) (?_ : Wp Tryz.prog c _ _ (mkS [(0,.rs 1000),(1,I b5),(5,I a6)] [(1000,.arr (List.map K0v (List.set (List.set (List.set a4 (Int.toNat a6) (K01.mk a5 a8.fN a8.fType a8.fKids)) (Int.toNat a6) (K01.mk b1.fOp (wr (a5 + 1)) b1.fType b1.fKids)) (Int.toNat a6) (K01.mk b3.fOp b3.fN b6 b3.fKids))))]))
   obtain ⟨b8,b9,h⟩ := Qdd h
   refine Wp.view (fun a w hv => SRx.openL 1000 (Int.toNat a6) 3 4 [4,1000] (xs := List.map K0v (List.set (List.set (List.set a4 (Int.toNat a6) (K01.mk a5 a8.fN a8.fType a8.fKids)) (Int.toNat a6) (K01.mk b1.fOp (wr (a5 + 1)) b1.fType b1.fKids)) (Int.toNat a6) (K01.mk b3.fOp b3.fN b6 b3.fKids))) (ys := List.map K0v b8.fKids) (x0 := K2i b8) hv (by kernel_rfl) (Qdh b9 (K11 b8)).2 (by kernel_rfl) (by kernel_rfl) (by kernel_rfl)) (?_ : Wp Tryz.prog c _ _ (mkS [(0,.rs 1000),(1,I b5),(5,I a6)] [(4,.arr (List.map K0v b8.fKids)),(1000,.arx (List.map K0v (List.set (List.set (List.set a4 (Int.toNat a6) (K01.mk a5 a8.fN a8.fType a8.fKids)) (Int.toNat a6) (K01.mk b1.fOp (wr (a5 + 1)) b1.fType b1.fKids)) (Int.toNat a6) (K01.mk b3.fOp b3.fN b6 b3.fKids))) (Int.toNat a6) 3 4)]))
   obtain ⟨⟨c0,c1⟩,c2,h⟩ := Qdd h
   refine rg hc none [oN,oN,oN,oN,some (.el (K2i b8)),oN,some (.call (I c0) [.osl (List.map K0v c1),.undef] 1),oN] [(0,.rs 1000),(1,I c0),(5,I a6)] [(4,.arr (List.map K0v c1)),(1000,.arx (List.map K0v (List.set (List.set (List.set a4 (Int.toNat a6) (K01.mk a5 a8.fN a8.fType a8.fKids)) (Int.toNat a6) (K01.mk b1.fOp (wr (a5 + 1)) b1.fType b1.fKids)) (Int.toNat a6) (K01.mk b3.fOp b3.fN b6 b3.fKids))) (Int.toNat a6) 3 4)] (ad (Qdi (enc := K0v) b9) (And.intro (Qdh b9 (K11 b8)).2 (rfl : Int.toNat a6 = Int.toNat a6)) (laws_markTermS_ih _ _ c2) K7z tv) ?_
   refine Wp.view (fun a w hv => SRx.closeL 1000 (Int.toNat a6) 3 4 [1000] (xs := List.map K0v (List.set (List.set (List.set a4 (Int.toNat a6) (K01.mk a5 a8.fN a8.fType a8.fKids)) (Int.toNat a6) (K01.mk b1.fOp (wr (a5 + 1)) b1.fType b1.fKids)) (Int.toNat a6) (K01.mk b3.fOp b3.fN b6 b3.fKids))) (ys := List.map K0v c1) (x0 := K2i b8) (x1 := AV.agg [I b8.fOp,I b8.fN,oI b8.fType,.osl (List.map K0v c1)]) hv (by kernel_rfl) (by kernel_rfl) (by kernel_rfl) (Qdh b9 (K11 b8)).2 (by kernel_rfl) (by kernel_rfl : _ = AV.agg [I b8.fOp,I b8.fN,oI b8.fType,.osl (List.map K0v c1)]) (Qeg (enc := K0v) (i := Int.toNat a6) (l := (List.set (List.set (List.set a4 (Int.toNat a6) (K01.mk a5 a8.fN a8.fType a8.fKids)) (Int.toNat a6) (K01.mk b1.fOp (wr (a5 + 1)) b1.fType b1.fKids)) (Int.toNat a6) (K01.mk b3.fOp b3.fN b6 b3.fKids))) (v := (K01.mk b8.fOp b8.fN b8.fType c1)) (x := AV.agg [I b8.fOp,I b8.fN,oI b8.fType,.osl (List.map K0v c1)]) (K11 (K01.mk b8.fOp b8.fN b8.fType c1))) (by kernel_rfl)) (?_ : Wp Tryz.prog c _ _ (mkS [(0,.rs 1000),(1,I c0),(5,I a6)] [(1000,.arr (List.map K0v (List.set (List.set (List.set (List.set a4 (Int.toNat a6) (K01.mk a5 a8.fN a8.fType a8.fKids)) (Int.toNat a6) (K01.mk b1.fOp (wr (a5 + 1)) b1.fType b1.fKids)) (Int.toNat a6) (K01.mk b3.fOp b3.fN b6 b3.fKids)) (Int.toNat a6) (K01.mk b8.fOp b8.fN b8.fType c1))))]))
   refine K87 hc 3 [(0,.rs 1000),(1,I c0),(5,I (wr (a6 + 1)))] ?_
   refine Qcv ?_
   exact (laws_markTermS_l0_ih _ _ h c hc)
  refine xt 0 ?_
  refine Qcp ?_
  refine Qcw ?_
  obtain ⟨rfl,rfl⟩ := Prod.mk.inj (Option.some.inj h)
  exact iv []
theorem Kpt : ∀ p r,Kpo p = some r → Kpq p r := Kps.1
theorem Kpu : ∀ p r,Kpp p = some r → Kpr p r := Kps.2
def Kpv (p : K01 × Int) : Option (Int × K01) :=
 match p with
 | (a0,k1) =>
  (Kp3 (a0.fType,k1)) >>= fun (a1,a2) =>
  (Kpo (a0.fKids,a1)) >>= fun (a3,a4) =>
  some (a3,(K01.mk a0.fOp a0.fN a2 a4))
def Kpw (p : K01 × Int) (r : Int × K01) : Prop :=
 match p with
 | (a0,k1) => Q71 Tryz.prog 24 [K2i a0,I k1] (I r.1) [.agg [.undef,.undef,.osl (List.map I r.2.fType),.osl (List.map K0v r.2.fKids)],.undef]
theorem Kpx : ∀ p r,Kpv p = some r → Kpw p r := by
 rintro ⟨a0,k1⟩ r h
 unfold Kpv at h
 refine Q71.bodyO K3e (fn := Tryz.f24) (code := B24) (by kernel_rfl) (by kernel_rfl) (by kernel_rfl) (nt := 14) (by kernel_rfl) (by kernel_rfl) (T := [(0,.agg [I a0.fOp,I a0.fN,.rs 1000,.rs 1001]),(1,I k1)]) (O := [(1000,rI a0.fType),(1001,.arr (List.map K0v a0.fKids))]) (by kernel_rfl) (by kernel_rfl) (fun c hc => ?_)
 refine rs hc none [some (.new 1),oN] [(1,I k1),(2,.ra 1 0)] [(1,.box [I a0.fOp,I a0.fN,.rs 1000,.rs 1001]),(1000,rI a0.fType),(1001,.arr (List.map K0v a0.fKids))] tv ?_
 obtain ⟨⟨a1,a2⟩,a3,h⟩ := Qdd h
 refine rs hc none [oN,oN,oN,some (.call (I a1) [oI a2,.undef] 1),oN] [(1,I a1),(2,.ra 1 0)] [(1,.box [I a0.fOp,I a0.fN,.rs 1000,.rs 1001]),(1000,rI a2),(1001,.arr (List.map K0v a0.fKids))] (ab (Kp5 _ _ a3) K7v tv) ?_
 obtain ⟨⟨a4,a5⟩,a6,h⟩ := Qdd h
 refine rs hc none [oN,oN,oN,some (.call (I a4) [.osl (List.map K0v a5),.undef] 1),oN] [(1,I a4)] [(1000,rI a2),(1001,.arr (List.map K0v a5))] (ab (Kpt _ _ a6) K7z tv) ?_
 refine K88 hc 2 [(4,I a4)] ?_
 refine rt ?_
 obtain rfl := os h
 exact Qda.ret (fl := [true]) (by kernel_rfl)
def Kpy (c : Ctx) : Int × (List K02) → Exit → Q0a → Prop
 | (a0,a1) => Qcz c (.exit 0) (mkS [(1,I a0)] [(1000,.arr (List.map K13 a1))])
def Kpz (p : (List K02) × Int × Int) : Option (Int × (List K02)) :=
 match p with
 | (a0,a1,a2) =>
  if (decide (a2 < (a0.length : Int))) = true then
  (idx a0 a2) >>= fun a3 =>
  (Kpk (a3.fCtx,a1)) >>= fun (a4,a5) =>
  (idx (List.set a0 (Int.toNat a2) (K02.mk a5 a3.fBudgets a3.fTerm a3.fType a3.fFrom)) a2) >>= fun a6 =>
  (Kp3 (a6.fBudgets,a4)) >>= fun (a7,a8) =>
  (idx (List.set (List.set a0 (Int.toNat a2) (K02.mk a5 a3.fBudgets a3.fTerm a3.fType a3.fFrom)) (Int.toNat a2) (K02.mk a6.fCtx a8 a6.fTerm a6.fType a6.fFrom)) a2) >>= fun a9 =>
  (idx (List.set (List.set (List.set a0 (Int.toNat a2) (K02.mk a5 a3.fBudgets a3.fTerm a3.fType a3.fFrom)) (Int.toNat a2) (K02.mk a6.fCtx a8 a6.fTerm a6.fType a6.fFrom)) (Int.toNat a2) (K02.mk a9.fCtx a9.fBudgets (K01.mk a7 a9.fTerm.fN a9.fTerm.fType a9.fTerm.fKids) a9.fType a9.fFrom)) a2) >>= fun b1 =>
  (idx (List.set (List.set (List.set (List.set a0 (Int.toNat a2) (K02.mk a5 a3.fBudgets a3.fTerm a3.fType a3.fFrom)) (Int.toNat a2) (K02.mk a6.fCtx a8 a6.fTerm a6.fType a6.fFrom)) (Int.toNat a2) (K02.mk a9.fCtx a9.fBudgets (K01.mk a7 a9.fTerm.fN a9.fTerm.fType a9.fTerm.fKids) a9.fType a9.fFrom)) (Int.toNat a2) (K02.mk b1.fCtx b1.fBudgets (K01.mk b1.fTerm.fOp (wr (a7 + 1)) b1.fTerm.fType b1.fTerm.fKids) b1.fType b1.fFrom)) a2) >>= fun b2 =>
  (Kp3 (b2.fTerm.fType,(wr ((wr (a7 + 1)) + 1)))) >>= fun (b3,b4) =>
  (idx (List.set (List.set (List.set (List.set (List.set a0 (Int.toNat a2) (K02.mk a5 a3.fBudgets a3.fTerm a3.fType a3.fFrom)) (Int.toNat a2) (K02.mk a6.fCtx a8 a6.fTerm a6.fType a6.fFrom)) (Int.toNat a2) (K02.mk a9.fCtx a9.fBudgets (K01.mk a7 a9.fTerm.fN a9.fTerm.fType a9.fTerm.fKids) a9.fType a9.fFrom)) (Int.toNat a2) (K02.mk b1.fCtx b1.fBudgets (K01.mk b1.fTerm.fOp (wr (a7 + 1)) b1.fTerm.fType b1.fTerm.fKids) b1.fType b1.fFrom)) (Int.toNat a2) (K02.mk b2.fCtx b2.fBudgets (K01.mk b2.fTerm.fOp b2.fTerm.fN b4 b2.fTerm.fKids) b2.fType b2.fFrom)) a2) >>= fun b5 =>
  (Kpo (b5.fTerm.fKids,b3)) >>= fun (b6,b7) =>
  (idx (List.set (List.set (List.set (List.set (List.set (List.set a0 (Int.toNat a2) (K02.mk a5 a3.fBudgets a3.fTerm a3.fType a3.fFrom)) (Int.toNat a2) (K02.mk a6.fCtx a8 a6.fTerm a6.fType a6.fFrom)) (Int.toNat a2) (K02.mk a9.fCtx a9.fBudgets (K01.mk a7 a9.fTerm.fN a9.fTerm.fType a9.fTerm.fKids) a9.fType a9.fFrom)) (Int.toNat a2) (K02.mk b1.fCtx b1.fBudgets (K01.mk b1.fTerm.fOp (wr (a7 + 1)) b1.fTerm.fType b1.fTerm.fKids) b1.fType b1.fFrom)) (Int.toNat a2) (K02.mk b2.fCtx b2.fBudgets (K01.mk b2.fTerm.fOp b2.fTerm.fN b4 b2.fTerm.fKids) b2.fType b2.fFrom)) (Int.toNat a2) (K02.mk b5.fCtx b5.fBudgets (K01.mk b5.fTerm.fOp b5.fTerm.fN b5.fTerm.fType b7) b5.fType b5.fFrom)) a2) >>= fun b8 =>
  (Kp3 (b8.fType,b6)) >>= fun (b9,c0) =>
  (idx (List.set (List.set (List.set (List.set (List.set (List.set (List.set a0 (Int.toNat a2) (K02.mk a5 a3.fBudgets a3.fTerm a3.fType a3.fFrom)) (Int.toNat a2) (K02.mk a6.fCtx a8 a6.fTerm a6.fType a6.fFrom)) (Int.toNat a2) (K02.mk a9.fCtx a9.fBudgets (K01.mk a7 a9.fTerm.fN a9.fTerm.fType a9.fTerm.fKids) a9.fType a9.fFrom)) (Int.toNat a2) (K02.mk b1.fCtx b1.fBudgets (K01.mk b1.fTerm.fOp (wr (a7 + 1)) b1.fTerm.fType b1.fTerm.fKids) b1.fType b1.fFrom)) (Int.toNat a2) (K02.mk b2.fCtx b2.fBudgets (K01.mk b2.fTerm.fOp b2.fTerm.fN b4 b2.fTerm.fKids) b2.fType b2.fFrom)) (Int.toNat a2) (K02.mk b5.fCtx b5.fBudgets (K01.mk b5.fTerm.fOp b5.fTerm.fN b5.fTerm.fType b7) b5.fType b5.fFrom)) (Int.toNat a2) (K02.mk b8.fCtx b8.fBudgets b8.fTerm c0 b8.fFrom)) a2) >>= fun c1 =>
  (Kp3 (c1.fFrom,b9)) >>= fun (c2,c3) =>
  Kpz ((List.set (List.set (List.set (List.set (List.set (List.set (List.set (List.set a0 (Int.toNat a2) (K02.mk a5 a3.fBudgets a3.fTerm a3.fType a3.fFrom)) (Int.toNat a2) (K02.mk a6.fCtx a8 a6.fTerm a6.fType a6.fFrom)) (Int.toNat a2) (K02.mk a9.fCtx a9.fBudgets (K01.mk a7 a9.fTerm.fN a9.fTerm.fType a9.fTerm.fKids) a9.fType a9.fFrom)) (Int.toNat a2) (K02.mk b1.fCtx b1.fBudgets (K01.mk b1.fTerm.fOp (wr (a7 + 1)) b1.fTerm.fType b1.fTerm.fKids) b1.fType b1.fFrom)) (Int.toNat a2) (K02.mk b2.fCtx b2.fBudgets (K01.mk b2.fTerm.fOp b2.fTerm.fN b4 b2.fTerm.fKids) b2.fType b2.fFrom)) (Int.toNat a2) (K02.mk b5.fCtx b5.fBudgets (K01.mk b5.fTerm.fOp b5.fTerm.fN b5.fTerm.fType b7) b5.fType b5.fFrom)) (Int.toNat a2) (K02.mk b8.fCtx b8.fBudgets b8.fTerm c0 b8.fFrom)) (Int.toNat a2) (K02.mk c1.fCtx c1.fBudgets c1.fTerm c1.fType c3)),c2,(wr (a2 + 1)))
  else
  some ((a1,a0))
 partial_fixpoint
def Kq0 (p : (List K02) × Int × Int) (fl : Int × (List K02)) : Prop :=
 match p with
 | (a0,a1,a2) => ∀ c : Ctx,c.nt = 73 → WpL Tryz.prog c (cl (cl (cr (cl (cr B25))))) (Kpy c fl) (mkS [(0,.rs 1000),(1,I a1),(5,I a2)] [(1000,.arr (List.map K13 a0))])
theorem Kq1 : ∀ p r,Kpz p = some r → Kq0 p r := by
 refine Kpz.partial_correctness Kq0 ?_
 rintro laws_markJudgmentS_l0_f laws_markJudgmentS_l0_ih ⟨a0,a1,a2⟩ r h
 intro c hc
 refine WpL.step ?_
 refine sN ?_
 refine rss hc none [oN,oN,some (.eqv (.no) ⟨[(8,I (a0.length : Int))],[],[]⟩),oN] [(0,.rs 1000),(1,I a1),(5,I a2),(9,.bool (decide (a2 < (a0.length : Int))))] (ai (Qdj (d := 8) K13 a0) tv) ?_
 refine ic h (fun a3 h => ?_) fun a3 h => ?_
 ·refine sk ?_
  refine sN ?_
  refine bk 1 ?_
  refine sN ?_
  obtain ⟨a4,a5,h⟩ := Qdd h
  refine Wp.view (fun a w hv => SRx.openL 1000 (Int.toNat a2) 0 7 [7,1000] (xs := List.map K13 a0) (ys := List.map K0c a4.fCtx) (x0 := K2k a4) hv (by kernel_rfl) (Qdh a5 (K1z a4)).2 (by kernel_rfl) (by kernel_rfl) (by kernel_rfl)) (?_ : Wp Tryz.prog c _ _ (mkS [(0,.rs 1000),(1,I a1),(5,I a2),(9,.bool (decide (a2 < (a0.length : Int))))] [(7,.arr (List.map K0c a4.fCtx)),(1000,.arx (List.map K13 a0) (Int.toNat a2) 0 7)]))
  obtain ⟨⟨a6,a7⟩,a8,h⟩ := Qdd h
  refine rg hc none [oN,oN,oN,oN,some (.el (K2k a4)),oN,some (.call (I a6) [.osl (List.map K0c a7),.undef] 1),oN] [(0,.rs 1000),(1,I a6),(5,I a2)] [(7,.arr (List.map K0c a7)),(1000,.arx (List.map K13 a0) (Int.toNat a2) 0 7)] (ad (Qdi (enc := K13) a5) (And.intro (Qdh a5 (K1z a4)).2 (rfl : Int.toNat a2 = Int.toNat a2)) (Kpm _ _ a8) K7y tv) ?_
  refine Wp.view (fun a w hv => SRx.closeL 1000 (Int.toNat a2) 0 7 [1000] (xs := List.map K13 a0) (ys := List.map K0c a7) (x0 := K2k a4) (x1 := AV.agg [.osl (List.map K0c a7),oI a4.fBudgets,I a4.fTerm.fOp,I a4.fTerm.fN,.osl (List.map I a4.fTerm.fType),.osl (List.map K0v a4.fTerm.fKids),oI a4.fType,oI a4.fFrom]) hv (by kernel_rfl) (by kernel_rfl) (by kernel_rfl) (Qdh a5 (K1z a4)).2 (by kernel_rfl) (by kernel_rfl : _ = AV.agg [.osl (List.map K0c a7),oI a4.fBudgets,I a4.fTerm.fOp,I a4.fTerm.fN,.osl (List.map I a4.fTerm.fType),.osl (List.map K0v a4.fTerm.fKids),oI a4.fType,oI a4.fFrom]) (Qeg (enc := K13) (i := Int.toNat a2) (l := a0) (v := (K02.mk a7 a4.fBudgets a4.fTerm a4.fType a4.fFrom)) (x := AV.agg [.osl (List.map K0c a7),oI a4.fBudgets,I a4.fTerm.fOp,I a4.fTerm.fN,.osl (List.map I a4.fTerm.fType),.osl (List.map K0v a4.fTerm.fKids),oI a4.fType,oI a4.fFrom]) (K1z (K02.mk a7 a4.fBudgets a4.fTerm a4.fType a4.fFrom))) (by kernel_rfl)) (?_ : Wp Tryz.prog c _ _ (mkS [(0,.rs 1000),(1,I a6),(5,I a2)] [(1000,.arr (List.map K13 (List.set a0 (Int.toNat a2) (K02.mk a7 a4.fBudgets a4.fTerm a4.fType a4.fFrom))))]))
  refine sN ?_
  obtain ⟨a9,b1,h⟩ := Qdd h
  refine Wp.view (fun a w hv => SRx.openL 1000 (Int.toNat a2) 1 8 [8,1000] (xs := List.map K13 (List.set a0 (Int.toNat a2) (K02.mk a7 a4.fBudgets a4.fTerm a4.fType a4.fFrom))) (ys := List.map I a9.fBudgets) (x0 := K2k a9) hv (by kernel_rfl) (Qdh b1 (K1z a9)).2 (by kernel_rfl) (by kernel_rfl) (by kernel_rfl)) (?_ : Wp Tryz.prog c _ _ (mkS [(0,.rs 1000),(1,I a6),(5,I a2)] [(8,rI a9.fBudgets),(1000,.arx (List.map K13 (List.set a0 (Int.toNat a2) (K02.mk a7 a4.fBudgets a4.fTerm a4.fType a4.fFrom))) (Int.toNat a2) 1 8)]))
  obtain ⟨⟨b2,b3⟩,b4,h⟩ := Qdd h
  refine rg hc none [oN,oN,oN,oN,some (.el (K2k a9)),oN,some (.call (I b2) [oI b3,.undef] 1),oN] [(0,.rs 1000),(1,I b2),(5,I a2)] [(8,rI b3),(1000,.arx (List.map K13 (List.set a0 (Int.toNat a2) (K02.mk a7 a4.fBudgets a4.fTerm a4.fType a4.fFrom))) (Int.toNat a2) 1 8)] (ad (Qdi (enc := K13) b1) (And.intro (Qdh b1 (K1z a9)).2 (rfl : Int.toNat a2 = Int.toNat a2)) (Kp5 _ _ b4) K7v tv) ?_
  refine Wp.view (fun a w hv => SRx.closeL 1000 (Int.toNat a2) 1 8 [1000] (xs := List.map K13 (List.set a0 (Int.toNat a2) (K02.mk a7 a4.fBudgets a4.fTerm a4.fType a4.fFrom))) (ys := List.map I b3) (x0 := K2k a9) (x1 := AV.agg [.osl (List.map K0c a9.fCtx),oI b3,I a9.fTerm.fOp,I a9.fTerm.fN,.osl (List.map I a9.fTerm.fType),.osl (List.map K0v a9.fTerm.fKids),oI a9.fType,oI a9.fFrom]) hv (by kernel_rfl) (by kernel_rfl) (by kernel_rfl) (Qdh b1 (K1z a9)).2 (by kernel_rfl) (by kernel_rfl : _ = AV.agg [.osl (List.map K0c a9.fCtx),oI b3,I a9.fTerm.fOp,I a9.fTerm.fN,.osl (List.map I a9.fTerm.fType),.osl (List.map K0v a9.fTerm.fKids),oI a9.fType,oI a9.fFrom]) (Qeg (enc := K13) (i := Int.toNat a2) (l := (List.set a0 (Int.toNat a2) (K02.mk a7 a4.fBudgets a4.fTerm a4.fType a4.fFrom))) (v := (K02.mk a9.fCtx b3 a9.fTerm a9.fType a9.fFrom)) (x := AV.agg [.osl (List.map K0c a9.fCtx),oI b3,I a9.fTerm.fOp,I a9.fTerm.fN,.osl (List.map I a9.fTerm.fType),.osl (List.map K0v a9.fTerm.fKids),oI a9.fType,oI a9.fFrom]) (K1z (K02.mk a9.fCtx b3 a9.fTerm a9.fType a9.fFrom))) (by kernel_rfl)) (?_ : Wp Tryz.prog c _ _ (mkS [(0,.rs 1000),(1,I b2),(5,I a2)] [(1000,.arr (List.map K13 (List.set (List.set a0 (Int.toNat a2) (K02.mk a7 a4.fBudgets a4.fTerm a4.fType a4.fFrom)) (Int.toNat a2) (K02.mk a9.fCtx b3 a9.fTerm a9.fType a9.fFrom))))]))
  obtain ⟨b5,b6,h⟩ := Qdd h
  refine rs hc none [oN,oN,oN,oN,oN,oN,some (.eqv (.el (K2k b5)) ⟨[],[(1000,some (.arr (List.map K13 (List.set (List.set (List.set a0 (Int.toNat a2) (K02.mk a7 a4.fBudgets a4.fTerm a4.fType a4.fFrom)) (Int.toNat a2) (K02.mk a9.fCtx b3 a9.fTerm a9.fType a9.fFrom)) (Int.toNat a2) (K02.mk b5.fCtx b5.fBudgets (K01.mk b2 b5.fTerm.fN b5.fTerm.fType b5.fTerm.fKids) b5.fType b5.fFrom)))))],[]⟩)] [(0,.rs 1000),(1,I b2),(5,I a2)] [(1000,.arr (List.map K13 (List.set (List.set (List.set a0 (Int.toNat a2) (K02.mk a7 a4.fBudgets a4.fTerm a4.fType a4.fFrom)) (Int.toNat a2) (K02.mk a9.fCtx b3 a9.fTerm a9.fType a9.fFrom)) (Int.toNat a2) (K02.mk b5.fCtx b5.fBudgets (K01.mk b2 b5.fTerm.fN b5.fTerm.fType b5.fTerm.fKids) b5.fType b5.fFrom))))] (ac (Qdi (enc := K13) b6) (congrArg (fun z => (⟨[],[(1000,some (.arr z))],[]⟩ : Wr)) (Qeg (enc := K13) (i := Int.toNat a2) (l := (List.set (List.set a0 (Int.toNat a2) (K02.mk a7 a4.fBudgets a4.fTerm a4.fType a4.fFrom)) (Int.toNat a2) (K02.mk a9.fCtx b3 a9.fTerm a9.fType a9.fFrom))) (v := (K02.mk b5.fCtx b5.fBudgets (K01.mk b2 b5.fTerm.fN b5.fTerm.fType b5.fTerm.fKids) b5.fType b5.fFrom)) (x := AV.agg [.osl (List.map K0c b5.fCtx),oI b5.fBudgets,I b2,I b5.fTerm.fN,.osl (List.map I b5.fTerm.fType),.osl (List.map K0v b5.fTerm.fKids),oI b5.fType,oI b5.fFrom]) (K1z (K02.mk b5.fCtx b5.fBudgets (K01.mk b2 b5.fTerm.fN b5.fTerm.fType b5.fTerm.fKids) b5.fType b5.fFrom)))) (Qdh b6 (K1z b5)).2 tv) ?_
  refine K88 hc 3 [(0,.rs 1000),(1,I (wr (b2 + 1))),(5,I a2)] ?_
  obtain ⟨b7,b8,h⟩ := Qdd h
  refine rs hc none [oN,oN,oN,oN,oN,oN,some (.eqv (.el (K2k b7)) ⟨[],[(1000,some (.arr (List.map K13 (List.set (List.set (List.set (List.set a0 (Int.toNat a2) (K02.mk a7 a4.fBudgets a4.fTerm a4.fType a4.fFrom)) (Int.toNat a2) (K02.mk a9.fCtx b3 a9.fTerm a9.fType a9.fFrom)) (Int.toNat a2) (K02.mk b5.fCtx b5.fBudgets (K01.mk b2 b5.fTerm.fN b5.fTerm.fType b5.fTerm.fKids) b5.fType b5.fFrom)) (Int.toNat a2) (K02.mk b7.fCtx b7.fBudgets (K01.mk b7.fTerm.fOp (wr (b2 + 1)) b7.fTerm.fType b7.fTerm.fKids) b7.fType b7.fFrom)))))],[]⟩)] [(0,.rs 1000),(1,I (wr (b2 + 1))),(5,I a2)] [(1000,.arr (List.map K13 (List.set (List.set (List.set (List.set a0 (Int.toNat a2) (K02.mk a7 a4.fBudgets a4.fTerm a4.fType a4.fFrom)) (Int.toNat a2) (K02.mk a9.fCtx b3 a9.fTerm a9.fType a9.fFrom)) (Int.toNat a2) (K02.mk b5.fCtx b5.fBudgets (K01.mk b2 b5.fTerm.fN b5.fTerm.fType b5.fTerm.fKids) b5.fType b5.fFrom)) (Int.toNat a2) (K02.mk b7.fCtx b7.fBudgets (K01.mk b7.fTerm.fOp (wr (b2 + 1)) b7.fTerm.fType b7.fTerm.fKids) b7.fType b7.fFrom))))] (ac (Qdi (enc := K13) b8) (congrArg (fun z => (⟨[],[(1000,some (.arr z))],[]⟩ : Wr)) (Qeg (enc := K13) (i := Int.toNat a2) (l := (List.set (List.set (List.set a0 (Int.toNat a2) (K02.mk a7 a4.fBudgets a4.fTerm a4.fType a4.fFrom)) (Int.toNat a2) (K02.mk a9.fCtx b3 a9.fTerm a9.fType a9.fFrom)) (Int.toNat a2) (K02.mk b5.fCtx b5.fBudgets (K01.mk b2 b5.fTerm.fN b5.fTerm.fType b5.fTerm.fKids) b5.fType b5.fFrom))) (v := (K02.mk b7.fCtx b7.fBudgets (K01.mk b7.fTerm.fOp (wr (b2 + 1)) b7.fTerm.fType b7.fTerm.fKids) b7.fType b7.fFrom)) (x := AV.agg [.osl (List.map K0c b7.fCtx),oI b7.fBudgets,I b7.fTerm.fOp,I (wr (b2 + 1)),.osl (List.map I b7.fTerm.fType),.osl (List.map K0v b7.fTerm.fKids),oI b7.fType,oI b7.fFrom]) (K1z (K02.mk b7.fCtx b7.fBudgets (K01.mk b7.fTerm.fOp (wr (b2 + 1)) b7.fTerm.fType b7.fTerm.fKids) b7.fType b7.fFrom)))) (Qdh b8 (K1z b7)).2 tv) ?_
  refine K88 hc 3 [(0,.rs 1000),(1,I (wr ((wr (b2 + 1)) + 1))),(5,I a2)] ?_
  refine sN ?_
  obtain ⟨b9,c0,h⟩ := Qdd h
  refine Wp.view (fun a w hv => SRx.openL 1000 (Int.toNat a2) 4 9 [9,1000] (xs := List.map K13 (List.set (List.set (List.set (List.set a0 (Int.toNat a2) (K02.mk a7 a4.fBudgets a4.fTerm a4.fType a4.fFrom)) (Int.toNat a2) (K02.mk a9.fCtx b3 a9.fTerm a9.fType a9.fFrom)) (Int.toNat a2) (K02.mk b5.fCtx b5.fBudgets (K01.mk b2 b5.fTerm.fN b5.fTerm.fType b5.fTerm.fKids) b5.fType b5.fFrom)) (Int.toNat a2) (K02.mk b7.fCtx b7.fBudgets (K01.mk b7.fTerm.fOp (wr (b2 + 1)) b7.fTerm.fType b7.fTerm.fKids) b7.fType b7.fFrom))) (ys := List.map I b9.fTerm.fType) (x0 := K2k b9) hv (by kernel_rfl) (Qdh c0 (K1z b9)).2 (by kernel_rfl) (by kernel_rfl) (by kernel_rfl)) (?_ : Wp Tryz.prog c _ _ (mkS [(0,.rs 1000),(1,I (wr ((wr (b2 + 1)) + 1))),(5,I a2)] [(9,.arr (List.map I b9.fTerm.fType)),(1000,.arx (List.map K13 (List.set (List.set (List.set (List.set a0 (Int.toNat a2) (K02.mk a7 a4.fBudgets a4.fTerm a4.fType a4.fFrom)) (Int.toNat a2) (K02.mk a9.fCtx b3 a9.fTerm a9.fType a9.fFrom)) (Int.toNat a2) (K02.mk b5.fCtx b5.fBudgets (K01.mk b2 b5.fTerm.fN b5.fTerm.fType b5.fTerm.fKids) b5.fType b5.fFrom)) (Int.toNat a2) (K02.mk b7.fCtx b7.fBudgets (K01.mk b7.fTerm.fOp (wr (b2 + 1)) b7.fTerm.fType b7.fTerm.fKids) b7.fType b7.fFrom))) (Int.toNat a2) 4 9)]))
  obtain ⟨⟨c1,c2⟩,c3,h⟩ := Qdd h
  refine rg hc none [oN,oN,oN,oN,oN,some (.el (K2k b9)),oN,some (.call (I c1) [oI c2,.undef] 1),oN] [(0,.rs 1000),(1,I c1),(5,I a2)] [(9,rI c2),(1000,.arx (List.map K13 (List.set (List.set (List.set (List.set a0 (Int.toNat a2) (K02.mk a7 a4.fBudgets a4.fTerm a4.fType a4.fFrom)) (Int.toNat a2) (K02.mk a9.fCtx b3 a9.fTerm a9.fType a9.fFrom)) (Int.toNat a2) (K02.mk b5.fCtx b5.fBudgets (K01.mk b2 b5.fTerm.fN b5.fTerm.fType b5.fTerm.fKids) b5.fType b5.fFrom)) (Int.toNat a2) (K02.mk b7.fCtx b7.fBudgets (K01.mk b7.fTerm.fOp (wr (b2 + 1)) b7.fTerm.fType b7.fTerm.fKids) b7.fType b7.fFrom))) (Int.toNat a2) 4 9)] (ad (Qdi (enc := K13) c0) (And.intro (Qdh c0 (K1z b9)).2 (rfl : Int.toNat a2 = Int.toNat a2)) (Kp5 _ _ c3) K7v tv) ?_
  refine Wp.view (fun a w hv => SRx.closeL 1000 (Int.toNat a2) 4 9 [1000] (xs := List.map K13 (List.set (List.set (List.set (List.set a0 (Int.toNat a2) (K02.mk a7 a4.fBudgets a4.fTerm a4.fType a4.fFrom)) (Int.toNat a2) (K02.mk a9.fCtx b3 a9.fTerm a9.fType a9.fFrom)) (Int.toNat a2) (K02.mk b5.fCtx b5.fBudgets (K01.mk b2 b5.fTerm.fN b5.fTerm.fType b5.fTerm.fKids) b5.fType b5.fFrom)) (Int.toNat a2) (K02.mk b7.fCtx b7.fBudgets (K01.mk b7.fTerm.fOp (wr (b2 + 1)) b7.fTerm.fType b7.fTerm.fKids) b7.fType b7.fFrom))) (ys := List.map I c2) (x0 := K2k b9) (x1 := AV.agg [.osl (List.map K0c b9.fCtx),oI b9.fBudgets,I b9.fTerm.fOp,I b9.fTerm.fN,oI c2,.osl (List.map K0v b9.fTerm.fKids),oI b9.fType,oI b9.fFrom]) hv (by kernel_rfl) (by kernel_rfl) (by kernel_rfl) (Qdh c0 (K1z b9)).2 (by kernel_rfl) (by kernel_rfl : _ = AV.agg [.osl (List.map K0c b9.fCtx),oI b9.fBudgets,I b9.fTerm.fOp,I b9.fTerm.fN,oI c2,.osl (List.map K0v b9.fTerm.fKids),oI b9.fType,oI b9.fFrom]) (Qeg (enc := K13) (i := Int.toNat a2) (l := (List.set (List.set (List.set (List.set a0 (Int.toNat a2) (K02.mk a7 a4.fBudgets a4.fTerm a4.fType a4.fFrom)) (Int.toNat a2) (K02.mk a9.fCtx b3 a9.fTerm a9.fType a9.fFrom)) (Int.toNat a2) (K02.mk b5.fCtx b5.fBudgets (K01.mk b2 b5.fTerm.fN b5.fTerm.fType b5.fTerm.fKids) b5.fType b5.fFrom)) (Int.toNat a2) (K02.mk b7.fCtx b7.fBudgets (K01.mk b7.fTerm.fOp (wr (b2 + 1)) b7.fTerm.fType b7.fTerm.fKids) b7.fType b7.fFrom))) (v := (K02.mk b9.fCtx b9.fBudgets (K01.mk b9.fTerm.fOp b9.fTerm.fN c2 b9.fTerm.fKids) b9.fType b9.fFrom)) (x := AV.agg [.osl (List.map K0c b9.fCtx),oI b9.fBudgets,I b9.fTerm.fOp,I b9.fTerm.fN,oI c2,.osl (List.map K0v b9.fTerm.fKids),oI b9.fType,oI b9.fFrom]) (K1z (K02.mk b9.fCtx b9.fBudgets (K01.mk b9.fTerm.fOp b9.fTerm.fN c2 b9.fTerm.fKids) b9.fType b9.fFrom))) (by kernel_rfl)) (?_ : Wp Tryz.prog c _ _ (mkS [(0,.rs 1000),(1,I c1),(5,I a2)] [(1000,.arr (List.map K13 (List.set (List.set (List.set (List.set (List.set a0 (Int.toNat a2) (K02.mk a7 a4.fBudgets a4.fTerm a4.fType a4.fFrom)) (Int.toNat a2) (K02.mk a9.fCtx b3 a9.fTerm a9.fType a9.fFrom)) (Int.toNat a2) (K02.mk b5.fCtx b5.fBudgets (K01.mk b2 b5.fTerm.fN b5.fTerm.fType b5.fTerm.fKids) b5.fType b5.fFrom)) (Int.toNat a2) (K02.mk b7.fCtx b7.fBudgets (K01.mk b7.fTerm.fOp (wr (b2 + 1)) b7.fTerm.fType b7.fTerm.fKids) b7.fType b7.fFrom)) (Int.toNat a2) (K02.mk b9.fCtx b9.fBudgets (K01.mk b9.fTerm.fOp b9.fTerm.fN c2 b9.fTerm.fKids) b9.fType b9.fFrom))))]))
  refine sN ?_
  obtain ⟨c4,c5,h⟩ := Qdd h
  refine Wp.view (fun a w hv => SRx.openL 1000 (Int.toNat a2) 5 10 [10,1000] (xs := List.map K13 (List.set (List.set (List.set (List.set (List.set a0 (Int.toNat a2) (K02.mk a7 a4.fBudgets a4.fTerm a4.fType a4.fFrom)) (Int.toNat a2) (K02.mk a9.fCtx b3 a9.fTerm a9.fType a9.fFrom)) (Int.toNat a2) (K02.mk b5.fCtx b5.fBudgets (K01.mk b2 b5.fTerm.fN b5.fTerm.fType b5.fTerm.fKids) b5.fType b5.fFrom)) (Int.toNat a2) (K02.mk b7.fCtx b7.fBudgets (K01.mk b7.fTerm.fOp (wr (b2 + 1)) b7.fTerm.fType b7.fTerm.fKids) b7.fType b7.fFrom)) (Int.toNat a2) (K02.mk b9.fCtx b9.fBudgets (K01.mk b9.fTerm.fOp b9.fTerm.fN c2 b9.fTerm.fKids) b9.fType b9.fFrom))) (ys := List.map K0v c4.fTerm.fKids) (x0 := K2k c4) hv (by kernel_rfl) (Qdh c5 (K1z c4)).2 (by kernel_rfl) (by kernel_rfl) (by kernel_rfl)) (?_ : Wp Tryz.prog c _ _ (mkS [(0,.rs 1000),(1,I c1),(5,I a2)] [(10,.arr (List.map K0v c4.fTerm.fKids)),(1000,.arx (List.map K13 (List.set (List.set (List.set (List.set (List.set a0 (Int.toNat a2) (K02.mk a7 a4.fBudgets a4.fTerm a4.fType a4.fFrom)) (Int.toNat a2) (K02.mk a9.fCtx b3 a9.fTerm a9.fType a9.fFrom)) (Int.toNat a2) (K02.mk b5.fCtx b5.fBudgets (K01.mk b2 b5.fTerm.fN b5.fTerm.fType b5.fTerm.fKids) b5.fType b5.fFrom)) (Int.toNat a2) (K02.mk b7.fCtx b7.fBudgets (K01.mk b7.fTerm.fOp (wr (b2 + 1)) b7.fTerm.fType b7.fTerm.fKids) b7.fType b7.fFrom)) (Int.toNat a2) (K02.mk b9.fCtx b9.fBudgets (K01.mk b9.fTerm.fOp b9.fTerm.fN c2 b9.fTerm.fKids) b9.fType b9.fFrom))) (Int.toNat a2) 5 10)]))
  obtain ⟨⟨c6,c7⟩,c8,h⟩ := Qdd h
  refine rg hc none [oN,oN,oN,oN,oN,some (.el (K2k c4)),oN,some (.call (I c6) [.osl (List.map K0v c7),.undef] 1),oN] [(0,.rs 1000),(1,I c6),(5,I a2)] [(10,.arr (List.map K0v c7)),(1000,.arx (List.map K13 (List.set (List.set (List.set (List.set (List.set a0 (Int.toNat a2) (K02.mk a7 a4.fBudgets a4.fTerm a4.fType a4.fFrom)) (Int.toNat a2) (K02.mk a9.fCtx b3 a9.fTerm a9.fType a9.fFrom)) (Int.toNat a2) (K02.mk b5.fCtx b5.fBudgets (K01.mk b2 b5.fTerm.fN b5.fTerm.fType b5.fTerm.fKids) b5.fType b5.fFrom)) (Int.toNat a2) (K02.mk b7.fCtx b7.fBudgets (K01.mk b7.fTerm.fOp (wr (b2 + 1)) b7.fTerm.fType b7.fTerm.fKids) b7.fType b7.fFrom)) (Int.toNat a2) (K02.mk b9.fCtx b9.fBudgets (K01.mk b9.fTerm.fOp b9.fTerm.fN c2 b9.fTerm.fKids) b9.fType b9.fFrom))) (Int.toNat a2) 5 10)] (ad (Qdi (enc := K13) c5) (And.intro (Qdh c5 (K1z c4)).2 (rfl : Int.toNat a2 = Int.toNat a2)) (Kpt _ _ c8) K7z tv) ?_
  refine Wp.view (fun a w hv => SRx.closeL 1000 (Int.toNat a2) 5 10 [1000] (xs := List.map K13 (List.set (List.set (List.set (List.set (List.set a0 (Int.toNat a2) (K02.mk a7 a4.fBudgets a4.fTerm a4.fType a4.fFrom)) (Int.toNat a2) (K02.mk a9.fCtx b3 a9.fTerm a9.fType a9.fFrom)) (Int.toNat a2) (K02.mk b5.fCtx b5.fBudgets (K01.mk b2 b5.fTerm.fN b5.fTerm.fType b5.fTerm.fKids) b5.fType b5.fFrom)) (Int.toNat a2) (K02.mk b7.fCtx b7.fBudgets (K01.mk b7.fTerm.fOp (wr (b2 + 1)) b7.fTerm.fType b7.fTerm.fKids) b7.fType b7.fFrom)) (Int.toNat a2) (K02.mk b9.fCtx b9.fBudgets (K01.mk b9.fTerm.fOp b9.fTerm.fN c2 b9.fTerm.fKids) b9.fType b9.fFrom))) (ys := List.map K0v c7) (x0 := K2k c4) (x1 := AV.agg [.osl (List.map K0c c4.fCtx),oI c4.fBudgets,I c4.fTerm.fOp,I c4.fTerm.fN,.osl (List.map I c4.fTerm.fType),.osl (List.map K0v c7),oI c4.fType,oI c4.fFrom]) hv (by kernel_rfl) (by kernel_rfl) (by kernel_rfl) (Qdh c5 (K1z c4)).2 (by kernel_rfl) (by kernel_rfl : _ = AV.agg [.osl (List.map K0c c4.fCtx),oI c4.fBudgets,I c4.fTerm.fOp,I c4.fTerm.fN,.osl (List.map I c4.fTerm.fType),.osl (List.map K0v c7),oI c4.fType,oI c4.fFrom]) (Qeg (enc := K13) (i := Int.toNat a2) (l := (List.set (List.set (List.set (List.set (List.set a0 (Int.toNat a2) (K02.mk a7 a4.fBudgets a4.fTerm a4.fType a4.fFrom)) (Int.toNat a2) (K02.mk a9.fCtx b3 a9.fTerm a9.fType a9.fFrom)) (Int.toNat a2) (K02.mk b5.fCtx b5.fBudgets (K01.mk b2 b5.fTerm.fN b5.fTerm.fType b5.fTerm.fKids) b5.fType b5.fFrom)) (Int.toNat a2) (K02.mk b7.fCtx b7.fBudgets (K01.mk b7.fTerm.fOp (wr (b2 + 1)) b7.fTerm.fType b7.fTerm.fKids) b7.fType b7.fFrom)) (Int.toNat a2) (K02.mk b9.fCtx b9.fBudgets (K01.mk b9.fTerm.fOp b9.fTerm.fN c2 b9.fTerm.fKids) b9.fType b9.fFrom))) (v := (K02.mk c4.fCtx c4.fBudgets (K01.mk c4.fTerm.fOp c4.fTerm.fN c4.fTerm.fType c7) c4.fType c4.fFrom)) (x := AV.agg [.osl (List.map K0c c4.fCtx),oI c4.fBudgets,I c4.fTerm.fOp,I c4.fTerm.fN,.osl (List.map I c4.fTerm.fType),.osl (List.map K0v c7),oI c4.fType,oI c4.fFrom]) (K1z (K02.mk c4.fCtx c4.fBudgets (K01.mk c4.fTerm.fOp c4.fTerm.fN c4.fTerm.fType c7) c4.fType c4.fFrom))) (by kernel_rfl)) (?_ : Wp Tryz.prog c _ _ (mkS [(0,.rs 1000),(1,I c6),(5,I a2)] [(1000,.arr (List.map K13 (List.set (List.set (List.set (List.set (List.set (List.set a0 (Int.toNat a2) (K02.mk a7 a4.fBudgets a4.fTerm a4.fType a4.fFrom)) (Int.toNat a2) (K02.mk a9.fCtx b3 a9.fTerm a9.fType a9.fFrom)) (Int.toNat a2) (K02.mk b5.fCtx b5.fBudgets (K01.mk b2 b5.fTerm.fN b5.fTerm.fType b5.fTerm.fKids) b5.fType b5.fFrom)) (Int.toNat a2) (K02.mk b7.fCtx b7.fBudgets (K01.mk b7.fTerm.fOp (wr (b2 + 1)) b7.fTerm.fType b7.fTerm.fKids) b7.fType b7.fFrom)) (Int.toNat a2) (K02.mk b9.fCtx b9.fBudgets (K01.mk b9.fTerm.fOp b9.fTerm.fN c2 b9.fTerm.fKids) b9.fType b9.fFrom)) (Int.toNat a2) (K02.mk c4.fCtx c4.fBudgets (K01.mk c4.fTerm.fOp c4.fTerm.fN c4.fTerm.fType c7) c4.fType c4.fFrom))))]))
  refine sN ?_
  obtain ⟨c9,d0,h⟩ := Qdd h
  refine Wp.view (fun a w hv => SRx.openL 1000 (Int.toNat a2) 6 11 [11,1000] (xs := List.map K13 (List.set (List.set (List.set (List.set (List.set (List.set a0 (Int.toNat a2) (K02.mk a7 a4.fBudgets a4.fTerm a4.fType a4.fFrom)) (Int.toNat a2) (K02.mk a9.fCtx b3 a9.fTerm a9.fType a9.fFrom)) (Int.toNat a2) (K02.mk b5.fCtx b5.fBudgets (K01.mk b2 b5.fTerm.fN b5.fTerm.fType b5.fTerm.fKids) b5.fType b5.fFrom)) (Int.toNat a2) (K02.mk b7.fCtx b7.fBudgets (K01.mk b7.fTerm.fOp (wr (b2 + 1)) b7.fTerm.fType b7.fTerm.fKids) b7.fType b7.fFrom)) (Int.toNat a2) (K02.mk b9.fCtx b9.fBudgets (K01.mk b9.fTerm.fOp b9.fTerm.fN c2 b9.fTerm.fKids) b9.fType b9.fFrom)) (Int.toNat a2) (K02.mk c4.fCtx c4.fBudgets (K01.mk c4.fTerm.fOp c4.fTerm.fN c4.fTerm.fType c7) c4.fType c4.fFrom))) (ys := List.map I c9.fType) (x0 := K2k c9) hv (by kernel_rfl) (Qdh d0 (K1z c9)).2 (by kernel_rfl) (by kernel_rfl) (by kernel_rfl)) (?_ : Wp Tryz.prog c _ _ (mkS [(0,.rs 1000),(1,I c6),(5,I a2)] [(11,rI c9.fType),(1000,.arx (List.map K13 (List.set (List.set (List.set (List.set (List.set (List.set a0 (Int.toNat a2) (K02.mk a7 a4.fBudgets a4.fTerm a4.fType a4.fFrom)) (Int.toNat a2) (K02.mk a9.fCtx b3 a9.fTerm a9.fType a9.fFrom)) (Int.toNat a2) (K02.mk b5.fCtx b5.fBudgets (K01.mk b2 b5.fTerm.fN b5.fTerm.fType b5.fTerm.fKids) b5.fType b5.fFrom)) (Int.toNat a2) (K02.mk b7.fCtx b7.fBudgets (K01.mk b7.fTerm.fOp (wr (b2 + 1)) b7.fTerm.fType b7.fTerm.fKids) b7.fType b7.fFrom)) (Int.toNat a2) (K02.mk b9.fCtx b9.fBudgets (K01.mk b9.fTerm.fOp b9.fTerm.fN c2 b9.fTerm.fKids) b9.fType b9.fFrom)) (Int.toNat a2) (K02.mk c4.fCtx c4.fBudgets (K01.mk c4.fTerm.fOp c4.fTerm.fN c4.fTerm.fType c7) c4.fType c4.fFrom))) (Int.toNat a2) 6 11)]))
  obtain ⟨⟨d1,d2⟩,d3,h⟩ := Qdd h
  refine rg hc none [oN,oN,oN,oN,some (.el (K2k c9)),oN,some (.call (I d1) [oI d2,.undef] 1),oN] [(0,.rs 1000),(1,I d1),(5,I a2)] [(11,rI d2),(1000,.arx (List.map K13 (List.set (List.set (List.set (List.set (List.set (List.set a0 (Int.toNat a2) (K02.mk a7 a4.fBudgets a4.fTerm a4.fType a4.fFrom)) (Int.toNat a2) (K02.mk a9.fCtx b3 a9.fTerm a9.fType a9.fFrom)) (Int.toNat a2) (K02.mk b5.fCtx b5.fBudgets (K01.mk b2 b5.fTerm.fN b5.fTerm.fType b5.fTerm.fKids) b5.fType b5.fFrom)) (Int.toNat a2) (K02.mk b7.fCtx b7.fBudgets (K01.mk b7.fTerm.fOp (wr (b2 + 1)) b7.fTerm.fType b7.fTerm.fKids) b7.fType b7.fFrom)) (Int.toNat a2) (K02.mk b9.fCtx b9.fBudgets (K01.mk b9.fTerm.fOp b9.fTerm.fN c2 b9.fTerm.fKids) b9.fType b9.fFrom)) (Int.toNat a2) (K02.mk c4.fCtx c4.fBudgets (K01.mk c4.fTerm.fOp c4.fTerm.fN c4.fTerm.fType c7) c4.fType c4.fFrom))) (Int.toNat a2) 6 11)] (ad (Qdi (enc := K13) d0) (And.intro (Qdh d0 (K1z c9)).2 (rfl : Int.toNat a2 = Int.toNat a2)) (Kp5 _ _ d3) K7v tv) ?_
  refine Wp.view (fun a w hv => SRx.closeL 1000 (Int.toNat a2) 6 11 [1000] (xs := List.map K13 (List.set (List.set (List.set (List.set (List.set (List.set a0 (Int.toNat a2) (K02.mk a7 a4.fBudgets a4.fTerm a4.fType a4.fFrom)) (Int.toNat a2) (K02.mk a9.fCtx b3 a9.fTerm a9.fType a9.fFrom)) (Int.toNat a2) (K02.mk b5.fCtx b5.fBudgets (K01.mk b2 b5.fTerm.fN b5.fTerm.fType b5.fTerm.fKids) b5.fType b5.fFrom)) (Int.toNat a2) (K02.mk b7.fCtx b7.fBudgets (K01.mk b7.fTerm.fOp (wr (b2 + 1)) b7.fTerm.fType b7.fTerm.fKids) b7.fType b7.fFrom)) (Int.toNat a2) (K02.mk b9.fCtx b9.fBudgets (K01.mk b9.fTerm.fOp b9.fTerm.fN c2 b9.fTerm.fKids) b9.fType b9.fFrom)) (Int.toNat a2) (K02.mk c4.fCtx c4.fBudgets (K01.mk c4.fTerm.fOp c4.fTerm.fN c4.fTerm.fType c7) c4.fType c4.fFrom))) (ys := List.map I d2) (x0 := K2k c9) (x1 := AV.agg [.osl (List.map K0c c9.fCtx),oI c9.fBudgets,I c9.fTerm.fOp,I c9.fTerm.fN,.osl (List.map I c9.fTerm.fType),.osl (List.map K0v c9.fTerm.fKids),oI d2,oI c9.fFrom]) hv (by kernel_rfl) (by kernel_rfl) (by kernel_rfl) (Qdh d0 (K1z c9)).2 (by kernel_rfl) (by kernel_rfl : _ = AV.agg [.osl (List.map K0c c9.fCtx),oI c9.fBudgets,I c9.fTerm.fOp,I c9.fTerm.fN,.osl (List.map I c9.fTerm.fType),.osl (List.map K0v c9.fTerm.fKids),oI d2,oI c9.fFrom]) (Qeg (enc := K13) (i := Int.toNat a2) (l := (List.set (List.set (List.set (List.set (List.set (List.set a0 (Int.toNat a2) (K02.mk a7 a4.fBudgets a4.fTerm a4.fType a4.fFrom)) (Int.toNat a2) (K02.mk a9.fCtx b3 a9.fTerm a9.fType a9.fFrom)) (Int.toNat a2) (K02.mk b5.fCtx b5.fBudgets (K01.mk b2 b5.fTerm.fN b5.fTerm.fType b5.fTerm.fKids) b5.fType b5.fFrom)) (Int.toNat a2) (K02.mk b7.fCtx b7.fBudgets (K01.mk b7.fTerm.fOp (wr (b2 + 1)) b7.fTerm.fType b7.fTerm.fKids) b7.fType b7.fFrom)) (Int.toNat a2) (K02.mk b9.fCtx b9.fBudgets (K01.mk b9.fTerm.fOp b9.fTerm.fN c2 b9.fTerm.fKids) b9.fType b9.fFrom)) (Int.toNat a2) (K02.mk c4.fCtx c4.fBudgets (K01.mk c4.fTerm.fOp c4.fTerm.fN c4.fTerm.fType c7) c4.fType c4.fFrom))) (v := (K02.mk c9.fCtx c9.fBudgets c9.fTerm d2 c9.fFrom)) (x := AV.agg [.osl (List.map K0c c9.fCtx),oI c9.fBudgets,I c9.fTerm.fOp,I c9.fTerm.fN,.osl (List.map I c9.fTerm.fType),.osl (List.map K0v c9.fTerm.fKids),oI d2,oI c9.fFrom]) (K1z (K02.mk c9.fCtx c9.fBudgets c9.fTerm d2 c9.fFrom))) (by kernel_rfl)) (?_ : Wp Tryz.prog c _ _ (mkS [(0,.rs 1000),(1,I d1),(5,I a2)] [(1000,.arr (List.map K13 (List.set (List.set (List.set (List.set (List.set (List.set (List.set a0 (Int.toNat a2) (K02.mk a7 a4.fBudgets a4.fTerm a4.fType a4.fFrom)) (Int.toNat a2) (K02.mk a9.fCtx b3 a9.fTerm a9.fType a9.fFrom)) (Int.toNat a2) (K02.mk b5.fCtx b5.fBudgets (K01.mk b2 b5.fTerm.fN b5.fTerm.fType b5.fTerm.fKids) b5.fType b5.fFrom)) (Int.toNat a2) (K02.mk b7.fCtx b7.fBudgets (K01.mk b7.fTerm.fOp (wr (b2 + 1)) b7.fTerm.fType b7.fTerm.fKids) b7.fType b7.fFrom)) (Int.toNat a2) (K02.mk b9.fCtx b9.fBudgets (K01.mk b9.fTerm.fOp b9.fTerm.fN c2 b9.fTerm.fKids) b9.fType b9.fFrom)) (Int.toNat a2) (K02.mk c4.fCtx c4.fBudgets (K01.mk c4.fTerm.fOp c4.fTerm.fN c4.fTerm.fType c7) c4.fType c4.fFrom)) (Int.toNat a2) (K02.mk c9.fCtx c9.fBudgets c9.fTerm d2 c9.fFrom))))]))
  obtain ⟨d4,d5,h⟩ := Qdd h
  refine Wp.view (fun a w hv => SRx.openL 1000 (Int.toNat a2) 7 12 [12,1000] (xs := List.map K13 (List.set (List.set (List.set (List.set (List.set (List.set (List.set a0 (Int.toNat a2) (K02.mk a7 a4.fBudgets a4.fTerm a4.fType a4.fFrom)) (Int.toNat a2) (K02.mk a9.fCtx b3 a9.fTerm a9.fType a9.fFrom)) (Int.toNat a2) (K02.mk b5.fCtx b5.fBudgets (K01.mk b2 b5.fTerm.fN b5.fTerm.fType b5.fTerm.fKids) b5.fType b5.fFrom)) (Int.toNat a2) (K02.mk b7.fCtx b7.fBudgets (K01.mk b7.fTerm.fOp (wr (b2 + 1)) b7.fTerm.fType b7.fTerm.fKids) b7.fType b7.fFrom)) (Int.toNat a2) (K02.mk b9.fCtx b9.fBudgets (K01.mk b9.fTerm.fOp b9.fTerm.fN c2 b9.fTerm.fKids) b9.fType b9.fFrom)) (Int.toNat a2) (K02.mk c4.fCtx c4.fBudgets (K01.mk c4.fTerm.fOp c4.fTerm.fN c4.fTerm.fType c7) c4.fType c4.fFrom)) (Int.toNat a2) (K02.mk c9.fCtx c9.fBudgets c9.fTerm d2 c9.fFrom))) (ys := List.map I d4.fFrom) (x0 := K2k d4) hv (by kernel_rfl) (Qdh d5 (K1z d4)).2 (by kernel_rfl) (by kernel_rfl) (by kernel_rfl)) (?_ : Wp Tryz.prog c _ _ (mkS [(0,.rs 1000),(1,I d1),(5,I a2)] [(12,rI d4.fFrom),(1000,.arx (List.map K13 (List.set (List.set (List.set (List.set (List.set (List.set (List.set a0 (Int.toNat a2) (K02.mk a7 a4.fBudgets a4.fTerm a4.fType a4.fFrom)) (Int.toNat a2) (K02.mk a9.fCtx b3 a9.fTerm a9.fType a9.fFrom)) (Int.toNat a2) (K02.mk b5.fCtx b5.fBudgets (K01.mk b2 b5.fTerm.fN b5.fTerm.fType b5.fTerm.fKids) b5.fType b5.fFrom)) (Int.toNat a2) (K02.mk b7.fCtx b7.fBudgets (K01.mk b7.fTerm.fOp (wr (b2 + 1)) b7.fTerm.fType b7.fTerm.fKids) b7.fType b7.fFrom)) (Int.toNat a2) (K02.mk b9.fCtx b9.fBudgets (K01.mk b9.fTerm.fOp b9.fTerm.fN c2 b9.fTerm.fKids) b9.fType b9.fFrom)) (Int.toNat a2) (K02.mk c4.fCtx c4.fBudgets (K01.mk c4.fTerm.fOp c4.fTerm.fN c4.fTerm.fType c7) c4.fType c4.fFrom)) (Int.toNat a2) (K02.mk c9.fCtx c9.fBudgets c9.fTerm d2 c9.fFrom))) (Int.toNat a2) 7 12)]))
  obtain ⟨⟨d6,d7⟩,d8,h⟩ := Qdd h
  refine rg hc none [oN,oN,oN,oN,some (.el (K2k d4)),oN,some (.call (I d6) [oI d7,.undef] 1),oN] [(0,.rs 1000),(1,I d6),(5,I a2)] [(12,rI d7),(1000,.arx (List.map K13 (List.set (List.set (List.set (List.set (List.set (List.set (List.set a0 (Int.toNat a2) (K02.mk a7 a4.fBudgets a4.fTerm a4.fType a4.fFrom)) (Int.toNat a2) (K02.mk a9.fCtx b3 a9.fTerm a9.fType a9.fFrom)) (Int.toNat a2) (K02.mk b5.fCtx b5.fBudgets (K01.mk b2 b5.fTerm.fN b5.fTerm.fType b5.fTerm.fKids) b5.fType b5.fFrom)) (Int.toNat a2) (K02.mk b7.fCtx b7.fBudgets (K01.mk b7.fTerm.fOp (wr (b2 + 1)) b7.fTerm.fType b7.fTerm.fKids) b7.fType b7.fFrom)) (Int.toNat a2) (K02.mk b9.fCtx b9.fBudgets (K01.mk b9.fTerm.fOp b9.fTerm.fN c2 b9.fTerm.fKids) b9.fType b9.fFrom)) (Int.toNat a2) (K02.mk c4.fCtx c4.fBudgets (K01.mk c4.fTerm.fOp c4.fTerm.fN c4.fTerm.fType c7) c4.fType c4.fFrom)) (Int.toNat a2) (K02.mk c9.fCtx c9.fBudgets c9.fTerm d2 c9.fFrom))) (Int.toNat a2) 7 12)] (ad (Qdi (enc := K13) d5) (And.intro (Qdh d5 (K1z d4)).2 (rfl : Int.toNat a2 = Int.toNat a2)) (Kp5 _ _ d8) K7v tv) ?_
  refine Wp.view (fun a w hv => SRx.closeL 1000 (Int.toNat a2) 7 12 [1000] (xs := List.map K13 (List.set (List.set (List.set (List.set (List.set (List.set (List.set a0 (Int.toNat a2) (K02.mk a7 a4.fBudgets a4.fTerm a4.fType a4.fFrom)) (Int.toNat a2) (K02.mk a9.fCtx b3 a9.fTerm a9.fType a9.fFrom)) (Int.toNat a2) (K02.mk b5.fCtx b5.fBudgets (K01.mk b2 b5.fTerm.fN b5.fTerm.fType b5.fTerm.fKids) b5.fType b5.fFrom)) (Int.toNat a2) (K02.mk b7.fCtx b7.fBudgets (K01.mk b7.fTerm.fOp (wr (b2 + 1)) b7.fTerm.fType b7.fTerm.fKids) b7.fType b7.fFrom)) (Int.toNat a2) (K02.mk b9.fCtx b9.fBudgets (K01.mk b9.fTerm.fOp b9.fTerm.fN c2 b9.fTerm.fKids) b9.fType b9.fFrom)) (Int.toNat a2) (K02.mk c4.fCtx c4.fBudgets (K01.mk c4.fTerm.fOp c4.fTerm.fN c4.fTerm.fType c7) c4.fType c4.fFrom)) (Int.toNat a2) (K02.mk c9.fCtx c9.fBudgets c9.fTerm d2 c9.fFrom))) (ys := List.map I d7) (x0 := K2k d4) (x1 := AV.agg [.osl (List.map K0c d4.fCtx),oI d4.fBudgets,I d4.fTerm.fOp,I d4.fTerm.fN,.osl (List.map I d4.fTerm.fType),.osl (List.map K0v d4.fTerm.fKids),oI d4.fType,oI d7]) hv (by kernel_rfl) (by kernel_rfl) (by kernel_rfl) (Qdh d5 (K1z d4)).2 (by kernel_rfl) (by kernel_rfl : _ = AV.agg [.osl (List.map K0c d4.fCtx),oI d4.fBudgets,I d4.fTerm.fOp,I d4.fTerm.fN,.osl (List.map I d4.fTerm.fType),.osl (List.map K0v d4.fTerm.fKids),oI d4.fType,oI d7]) (Qeg (enc := K13) (i := Int.toNat a2) (l := (List.set (List.set (List.set (List.set (List.set (List.set (List.set a0 (Int.toNat a2) (K02.mk a7 a4.fBudgets a4.fTerm a4.fType a4.fFrom)) (Int.toNat a2) (K02.mk a9.fCtx b3 a9.fTerm a9.fType a9.fFrom)) (Int.toNat a2) (K02.mk b5.fCtx b5.fBudgets (K01.mk b2 b5.fTerm.fN b5.fTerm.fType b5.fTerm.fKids) b5.fType b5.fFrom)) (Int.toNat a2) (K02.mk b7.fCtx b7.fBudgets (K01.mk b7.fTerm.fOp (wr (b2 + 1)) b7.fTerm.fType b7.fTerm.fKids) b7.fType b7.fFrom)) (Int.toNat a2) (K02.mk b9.fCtx b9.fBudgets (K01.mk b9.fTerm.fOp b9.fTerm.fN c2 b9.fTerm.fKids) b9.fType b9.fFrom)) (Int.toNat a2) (K02.mk c4.fCtx c4.fBudgets (K01.mk c4.fTerm.fOp c4.fTerm.fN c4.fTerm.fType c7) c4.fType c4.fFrom)) (Int.toNat a2) (K02.mk c9.fCtx c9.fBudgets c9.fTerm d2 c9.fFrom))) (v := (K02.mk d4.fCtx d4.fBudgets d4.fTerm d4.fType d7)) (x := AV.agg [.osl (List.map K0c d4.fCtx),oI d4.fBudgets,I d4.fTerm.fOp,I d4.fTerm.fN,.osl (List.map I d4.fTerm.fType),.osl (List.map K0v d4.fTerm.fKids),oI d4.fType,oI d7]) (K1z (K02.mk d4.fCtx d4.fBudgets d4.fTerm d4.fType d7))) (by kernel_rfl)) (?_ : Wp Tryz.prog c _ _ (mkS [(0,.rs 1000),(1,I d6),(5,I a2)] [(1000,.arr (List.map K13 (List.set (List.set (List.set (List.set (List.set (List.set (List.set (List.set a0 (Int.toNat a2) (K02.mk a7 a4.fBudgets a4.fTerm a4.fType a4.fFrom)) (Int.toNat a2) (K02.mk a9.fCtx b3 a9.fTerm a9.fType a9.fFrom)) (Int.toNat a2) (K02.mk b5.fCtx b5.fBudgets (K01.mk b2 b5.fTerm.fN b5.fTerm.fType b5.fTerm.fKids) b5.fType b5.fFrom)) (Int.toNat a2) (K02.mk b7.fCtx b7.fBudgets (K01.mk b7.fTerm.fOp (wr (b2 + 1)) b7.fTerm.fType b7.fTerm.fKids) b7.fType b7.fFrom)) (Int.toNat a2) (K02.mk b9.fCtx b9.fBudgets (K01.mk b9.fTerm.fOp b9.fTerm.fN c2 b9.fTerm.fKids) b9.fType b9.fFrom)) (Int.toNat a2) (K02.mk c4.fCtx c4.fBudgets (K01.mk c4.fTerm.fOp c4.fTerm.fN c4.fTerm.fType c7) c4.fType c4.fFrom)) (Int.toNat a2) (K02.mk c9.fCtx c9.fBudgets c9.fTerm d2 c9.fFrom)) (Int.toNat a2) (K02.mk d4.fCtx d4.fBudgets d4.fTerm d4.fType d7))))]))
  refine K87 hc 3 [(0,.rs 1000),(1,I d6),(5,I (wr (a2 + 1)))] ?_
  refine Qcv ?_
  exact (laws_markJudgmentS_l0_ih _ _ h c hc)
 refine xt 0 ?_
 refine Qcp ?_
 refine Qcw ?_
 obtain ⟨rfl,rfl⟩ := Prod.mk.inj (Option.some.inj h)
 exact iv []
def Kq2 (p : (List K02) × Int) : Option (Int × (List K02)) :=
 match p with
 | (a0,k1) =>
  (Kpz (a0,k1,0)) >>= fun (a1,a2) =>
  some (a1,a2)
def Kq3 (p : (List K02) × Int) (r : Int × (List K02)) : Prop :=
 match p with
 | (a0,k1) => Q71 Tryz.prog 25 [.osl (List.map K13 a0),I k1] (I r.1) [.osl (List.map K13 r.2),.undef]
theorem Kq4 : ∀ p r,Kq2 p = some r → Kq3 p r := by
 rintro ⟨a0,k1⟩ r h
 unfold Kq2 at h
 refine Q71.bodyO K3e (fn := Tryz.f25) (code := B25) (by kernel_rfl) (by kernel_rfl) (by kernel_rfl) (nt := 73) (by kernel_rfl) (by kernel_rfl) (T := [(0,.rs 1000),(1,I k1)]) (O := [(1000,.arr (List.map K13 a0))]) (by kernel_rfl) (by kernel_rfl) (fun c hc => ?_)
 refine K88 hc 1 [(0,.rs 1000),(1,I k1)] ?_
 refine sN ?_
 refine K88 hc 1 [(0,.rs 1000),(1,I k1),(5,I 0)] ?_
 refine bk 0 ?_
 obtain ⟨⟨a1,a2⟩,a3,h⟩ := Qdd h
 have hL := Kq1 _ _ a3 c hc
 refine lp ?_
 refine WpL.into (e := (.exit 0)) (mkS [(1,I a1)] [(1000,.arr (List.map K13 a2))]) hL ?_
 refine Qcr ?_
 refine K88 hc 2 [(4,I a1)] ?_
 refine rt ?_
 obtain rfl := os h
 exact Qda.ret (fl := [true]) (by kernel_rfl)
def Kq5 (c : Ctx) : (Int) ⊕ (Int) → Exit → Q0a → Prop
 | .inl a0 => Qcz c (.exit 0) (mkS [(1,I a0)] [])
 | .inr r => Qd8 TIx Tryz.f31 [] (I r)
def Kq6 (p : (List Int) × Int × Int) : Option ((Int) ⊕ (Int)) :=
 match p with
 | (a0,a1,a2) =>
  if (decide (a2 < (a0.length : Int))) = true then
  (idx a0 a2) >>= fun a3 =>
  if (a3 != a1) = true then
  some (.inr (-1))
  else
  Kq6 (a0,(wr (a1 + 1)),(wr (a2 + 1)))
  else
  some (.inl a1)
 partial_fixpoint
def Kq7 (p : (List Int) × Int × Int) (fl : (Int) ⊕ (Int)) : Prop :=
 match p with
 | (a0,a1,a2) => ∀ c : Ctx,c.nt = 21 → WpL Tryz.prog c (cl (cl (cr (cl (cr B31))))) (Kq5 c fl) (mkS [(0,sI a0),(1,I a1),(5,I a2)] [])
theorem Kq8 : ∀ p r,Kq6 p = some r → Kq7 p r := by
 refine Kq6.partial_correctness Kq7 ?_
 rintro laws_heldIntS_l0_f laws_heldIntS_l0_ih ⟨a0,a1,a2⟩ r h
 intro c hc
 refine WpL.step ?_
 refine sN ?_
 refine rs hc none [oN,oN,some (.eqv (.no) ⟨[(8,I (a0.length : Int))],[],[]⟩),oN] [(0,sI a0),(1,I a1),(5,I a2),(9,.bool (decide (a2 < (a0.length : Int))))] [] (ai (Qdj (d := 8) I a0) tv) ?_
 refine ic h (fun a3 h => ?_) fun a3 h => ?_
 ·refine sk ?_
  refine sN ?_
  refine bk 1 ?_
  refine sN ?_
  obtain ⟨a4,a5,h⟩ := Qdd h
  refine rs hc none [oN,oN,some (.el (I a4)),oN,oN,oN] [(0,sI a0),(1,I a1),(5,I a2),(17,.bool (a4 != a1))] [] (ai (ix a5) tv) ?_
  refine ic h (fun a6 h => ?_) fun a6 h => ?_
  ·refine rs0 hc 1 [(4,I (-1))] [] ?_
   refine rt ?_
   obtain rfl := os h
   exact re [true]
  refine sk ?_
  refine rg0 hc 3 [(0,sI a0),(1,I (wr (a1 + 1))),(5,I a2)] [] ?_
  refine rg0 hc 3 [(0,sI a0),(1,I (wr (a1 + 1))),(5,I (wr (a2 + 1)))] [] ?_
  refine Qcv ?_
  exact (laws_heldIntS_l0_ih _ _ h c hc)
 refine xt 0 ?_
 refine Qcp ?_
 refine Qcw ?_
 obtain rfl := os h
 exact iv []
def Kq9 (p : (List Int) × Int) : Option (Int) :=
 match p with
 | (a0,k1) =>
  (Kq6 (a0,k1,0)) >>= fun fl => match fl with
  | .inl a1 =>
   some a1
  | .inr r =>
   some r
def Kqa (p : (List Int) × Int) (r : Int) : Prop :=
 match p with
 | (a0,k1) => Q71 Tryz.prog 31 [sI a0,I k1] (I r) []
theorem Kqb : ∀ p r,Kq9 p = some r → Kqa p r := by
 rintro ⟨a0,k1⟩ r h
 unfold Kq9 at h
 refine b0 Tryz.f31 B31 21 [(0,sI a0),(1,I k1)] fun c hc => ?_
 refine rs0 hc 1 [(0,sI a0),(1,I k1)] [] ?_
 refine sN ?_
 refine rs0 hc 1 [(0,sI a0),(1,I k1),(5,I 0)] [] ?_
 refine bk 0 ?_
 obtain ⟨fl,a1,h⟩ := Qdd h
 have hL := Kq8 _ _ a1 c hc
 refine lp ?_
 rcases fl with a2 | r
 ·refine WpL.into (e := (.exit 0)) (mkS [(1,I a2)] []) hL ?_
  refine Qcr ?_
  refine rs0 hc 2 [(4,I a2)] [] ?_
  refine rt ?_
  obtain rfl := os h
  exact rq [true]
 refine WpL.mono hL ?_
 rintro _ _ ⟨rfl,hfin⟩
 obtain rfl := os h
 exact ⟨.inl rfl,hfin⟩
def Kqc (c : Ctx) : (Int) ⊕ (Int) → Exit → Q0a → Prop
 | .inl a0 => Qcz c (.exit 0) (mkS [(1,I a0)] [])
 | .inr r => Qd8 TIx Tryz.f52 [] (I r)
def Kqd : Option (List (List Nat)) := rh [0,1,0,3,0,5,6,7,8,8,9,11]
def Kqe : Option (List (List Nat)) := rx [[0],[0],[0,1],[3],[4]]
def Kqf (p : LL × Int × Int) : Option ((Int) ⊕ (Int)) :=
 match p with
 | (a0,a1,a2) =>
  if (decide (a2 < (a0.length : Int))) = true then
  (idx a0 a2) >>= fun a3 =>
  (Kq9 (a3,a1)) >>= fun a4 =>
  if (decide (a4 < 0)) = true then
  some (.inr (-1))
  else
  Kqf (a0,a4,(wr (a2 + 1)))
  else
  some (.inl a1)
 partial_fixpoint
def Kqg (p : LL × Int × Int) (fl : (Int) ⊕ (Int)) : Prop :=
 match p with
 | (a0,a1,a2) => ∀ c : Ctx,c.nt = 21 → WpL Tryz.prog c (cl (cl (cr (cl (cr B52))))) (Kqc c fl) (mkS [(0,sL a0),(1,I a1),(5,I a2)] [])
theorem Kqh : ∀ p r,Kqf p = some r → Kqg p r := by
 refine Kqf.partial_correctness Kqg ?_
 rintro laws_heldIntSS_l0_f laws_heldIntSS_l0_ih ⟨a0,a1,a2⟩ r h
 intro c hc
 refine WpL.step ?_
 refine sN ?_
 refine rs hc none [oN,oN,some (.eqv (.no) ⟨[(8,I (a0.length : Int))],[],[]⟩),oN] [(0,sL a0),(1,I a1),(5,I a2),(9,.bool (decide (a2 < (a0.length : Int))))] [] (ai (Qdj (d := 8) K07 a0) tv) ?_
 refine ic h (fun a3 h => ?_) fun a3 h => ?_
 ·refine sk ?_
  refine sN ?_
  refine bk 1 ?_
  obtain ⟨a4,a5,a6,a7,h⟩ := bq2 h
  refine rs hc none [oN,oN,some (.el (sI a4)),oN,oN,oc (I a6),oN] [(0,sL a0),(1,I a6),(5,I a2)] [] (ai (xL a5) (cq (Kqb _ _ a7) K82 tv)) ?_
  refine rs0 hc 2 [(0,sL a0),(1,I a6),(5,I a2),(19,.bool (decide (a6 < 0)))] [] ?_
  refine ic h (fun a8 h => ?_) fun a8 h => ?_
  ·refine rs0 hc 1 [(4,I (-1))] [] ?_
   refine rt ?_
   obtain rfl := os h
   exact re [true]
  refine sk ?_
  refine rg0 hc 3 [(0,sL a0),(1,I a6),(5,I (wr (a2 + 1)))] [] ?_
  refine Qcv ?_
  exact (laws_heldIntSS_l0_ih _ _ h c hc)
 refine xt 0 ?_
 refine Qcp ?_
 refine Qcw ?_
 obtain rfl := os h
 exact iv []
def Kqi (p : LL × Int) : Option (Int) :=
 match p with
 | (a0,k1) =>
  (Kqf (a0,k1,0)) >>= fun fl => match fl with
  | .inl a1 =>
   some a1
  | .inr r =>
   some r
def Kqj (p : LL × Int) (r : Int) : Prop :=
 match p with
 | (a0,k1) => Q71 Tryz.prog 52 [sL a0,I k1] (I r) []
theorem Kqk : ∀ p r,Kqi p = some r → Kqj p r := by
 rintro ⟨a0,k1⟩ r h
 unfold Kqi at h
 refine b0 Tryz.f52 B52 21 [(0,sL a0),(1,I k1)] fun c hc => ?_
 refine rs0 hc 1 [(0,sL a0),(1,I k1)] [] ?_
 refine sN ?_
 refine rs0 hc 1 [(0,sL a0),(1,I k1),(5,I 0)] [] ?_
 refine bk 0 ?_
 obtain ⟨fl,a1,h⟩ := Qdd h
 have hL := Kqh _ _ a1 c hc
 refine lp ?_
 rcases fl with a2 | r
 ·refine WpL.into (e := (.exit 0)) (mkS [(1,I a2)] []) hL ?_
  refine Qcr ?_
  refine rs0 hc 2 [(4,I a2)] [] ?_
  refine rt ?_
  obtain rfl := os h
  exact rq [true]
 refine WpL.mono hL ?_
 rintro _ _ ⟨rfl,hfin⟩
 obtain rfl := os h
 exact ⟨.inl rfl,hfin⟩
def Kql (c : Ctx) : (Int) ⊕ (Int) → Exit → Q0a → Prop
 | .inl a0 => Qcz c (.exit 0) (mkS [(1,I a0)] [])
 | .inr r => Qd8 TIx Tryz.f53 [] (I r)
mutual
def Kqm (p : (List K01) × Int) : Option (Int) :=
 match p with
 | (a0,k1) =>
  (Kqn (a0,k1,0)) >>= fun fl => match fl with
  | .inl a1 =>
   some a1
  | .inr r =>
   some r
 partial_fixpoint
def Kqn (p : (List K01) × Int × Int) : Option ((Int) ⊕ (Int)) :=
 match p with
 | (a0,a1,a2) =>
  if (decide (a2 < (a0.length : Int))) = true then
  (idx a0 a2) >>= fun a3 =>
  if (a3.fOp != a1) = true then
  some (.inr (-1))
  else
  (idx a0 a2) >>= fun a4 =>
  if (a4.fN != (wr (a1 + 1))) = true then
  some (.inr (-1))
  else
  (idx a0 a2) >>= fun a5 =>
  (Kq9 (a5.fType,(wr ((wr (a1 + 1)) + 1)))) >>= fun a6 =>
  if (decide (a6 < 0)) = true then
  some (.inr (-1))
  else
  (idx a0 a2) >>= fun a7 =>
  (Kqm (a7.fKids,a6)) >>= fun a8 =>
  if (decide (a8 < 0)) = true then
  some (.inr (-1))
  else
  Kqn (a0,a8,(wr (a2 + 1)))
  else
  some (.inl a1)
 partial_fixpoint
end
def Kqo (p : (List K01) × Int) (r : Int) : Prop :=
 match p with
 | (a0,k1) => Q71 Tryz.prog 53 [.sl (List.map K0s a0),I k1] (I r) []
def Kqp (p : (List K01) × Int × Int) (fl : (Int) ⊕ (Int)) : Prop :=
 match p with
 | (a0,a1,a2) => ∀ c : Ctx,c.nt = 49 → WpL Tryz.prog c (cl (cl (cr (cl (cr B53))))) (Kql c fl) (mkS [(0,.sl (List.map K0s a0)),(1,I a1),(5,I a2)] [])
theorem Kqq : (∀ p r,Kqm p = some r → Kqo p r) ∧ (∀ p r,Kqn p = some r → Kqp p r) := by
 refine Kqm.mutual_partial_correctness Kqo Kqp ?_ ?_
 ·rintro laws_heldTermS_l0_f laws_heldTermS_l0_ih ⟨a0,k1⟩ r h
  refine b0 Tryz.f53 B53 49 [(0,.sl (List.map K0s a0)),(1,I k1)] fun c hc => ?_
  refine rs0 hc 1 [(0,.sl (List.map K0s a0)),(1,I k1)] [] ?_
  refine sN ?_
  refine rs0 hc 1 [(0,.sl (List.map K0s a0)),(1,I k1),(5,I 0)] [] ?_
  refine bk 0 ?_
  obtain ⟨fl,a1,h⟩ := Qdd h
  have hL := laws_heldTermS_l0_ih _ _ a1 c hc
  refine lp ?_
  rcases fl with a2 | r
  ·refine WpL.into (e := (.exit 0)) (mkS [(1,I a2)] []) hL ?_
   refine Qcr ?_
   refine rs0 hc 2 [(4,I a2)] [] ?_
   refine rt ?_
   obtain rfl := os h
   exact rq [true]
  refine WpL.mono hL ?_
  rintro _ _ ⟨rfl,hfin⟩
  obtain rfl := os h
  exact ⟨.inl rfl,hfin⟩
 ·rintro laws_heldTermS_f laws_heldTermS_l0_f laws_heldTermS_ih laws_heldTermS_l0_ih ⟨a0,a3,a4⟩ r h
  intro c hc
  refine WpL.step ?_
  refine sN ?_
  refine rs hc none [oN,oN,some (.eqv (.no) ⟨[(8,I (a0.length : Int))],[],[]⟩),oN] [(0,.sl (List.map K0s a0)),(1,I a3),(5,I a4),(9,.bool (decide (a4 < (a0.length : Int))))] [] (ai (Qdj (d := 8) K0s a0) tv) ?_
  refine ic h (fun a5 h => ?_) fun a5 h => ?_
  ·refine sk ?_
   refine sN ?_
   refine bk 1 ?_
   refine sN ?_
   obtain ⟨a6,a7,h⟩ := Qdd h
   refine rs hc none [oN,oN,some (.el (K27 a6)),oN,oN,oN,oN] [(0,.sl (List.map K0s a0)),(1,I a3),(5,I a4),(18,.bool (a6.fOp != a3))] [] (ai (Qdh a7 (K0z a6)) tv) ?_
   refine ic h (fun a8 h => ?_) fun a8 h => ?_
   ·refine rs0 hc 1 [(4,I (-1))] [] ?_
    refine rt ?_
    obtain rfl := os h
    exact re [true]
   refine sk ?_
   refine rs0 hc 3 [(0,.sl (List.map K0s a0)),(1,I (wr (a3 + 1))),(5,I a4)] [] ?_
   refine sN ?_
   obtain ⟨a9,b1,h⟩ := Qdd h
   refine rs hc none [oN,oN,some (.el (K27 a9)),oN,oN,oN,oN] [(0,.sl (List.map K0s a0)),(1,I (wr (a3 + 1))),(5,I a4),(27,.bool (a9.fN != (wr (a3 + 1))))] [] (ai (Qdh b1 (K0z a9)) tv) ?_
   refine ic h (fun b2 h => ?_) fun b2 h => ?_
   ·refine rs0 hc 1 [(4,I (-1))] [] ?_
    refine rt ?_
    obtain rfl := os h
    exact re [true]
   refine sk ?_
   refine rs0 hc 3 [(0,.sl (List.map K0s a0)),(1,I (wr ((wr (a3 + 1)) + 1))),(5,I a4)] [] ?_
   obtain ⟨b3,b4,b5,b6,h⟩ := bq2 h
   refine rs hc none [oN,oN,some (.el (K27 b3)),oN,oN,oN,oc (I b5),oN] [(0,.sl (List.map K0s a0)),(1,I b5),(5,I a4)] [] (ai (Qdh b4 (K0z b3)) (cq (Kqb _ _ b6) K82 tv)) ?_
   refine sN ?_
   refine rs0 hc 2 [(0,.sl (List.map K0s a0)),(1,I b5),(5,I a4),(38,.bool (decide (b5 < 0)))] [] ?_
   refine ic h (fun b7 h => ?_) fun b7 h => ?_
   ·refine rs0 hc 1 [(4,I (-1))] [] ?_
    refine rt ?_
    obtain rfl := os h
    exact re [true]
   refine sk ?_
   obtain ⟨b8,b9,c0,c1,h⟩ := bq2 h
   refine rs hc none [oN,oN,some (.el (K27 b8)),oN,oN,oN,oc (I c0),oN] [(0,.sl (List.map K0s a0)),(1,I c0),(5,I a4)] [] (ai (Qdh b9 (K0z b8)) (cq (laws_heldTermS_ih _ _ c1) K84 tv)) ?_
   refine rs0 hc 2 [(0,.sl (List.map K0s a0)),(1,I c0),(5,I a4),(47,.bool (decide (c0 < 0)))] [] ?_
   refine ic h (fun c2 h => ?_) fun c2 h => ?_
   ·refine rs0 hc 1 [(4,I (-1))] [] ?_
    refine rt ?_
    obtain rfl := os h
    exact re [true]
   refine sk ?_
   refine rg0 hc 3 [(0,.sl (List.map K0s a0)),(1,I c0),(5,I (wr (a4 + 1)))] [] ?_
   refine Qcv ?_
   exact (laws_heldTermS_l0_ih _ _ h c hc)
  refine xt 0 ?_
  refine Qcp ?_
  refine Qcw ?_
  obtain rfl := os h
  exact iv []
theorem Kqr : ∀ p r,Kqm p = some r → Kqo p r := Kqq.1
theorem Kqs : ∀ p r,Kqn p = some r → Kqp p r := Kqq.2
def Kqt (c : Ctx) : (Int) ⊕ (Int) → Exit → Q0a → Prop
 | .inl a0 => Qcz c (.exit 0) (mkS [(1,I a0)] [])
 | .inr r => Qd8 TIx Tryz.f26 [] (I r)
def Kqu (p : (List K02) × Int × Int) : Option ((Int) ⊕ (Int)) :=
 match p with
 | (a0,a1,a2) =>
  if (decide (a2 < (a0.length : Int))) = true then
  (idx a0 a2) >>= fun a3 =>
  (Kqi (a3.fCtx,a1)) >>= fun a4 =>
  if (decide (a4 < 0)) = true then
  some (.inr (-1))
  else
  (idx a0 a2) >>= fun a5 =>
  (Kq9 (a5.fBudgets,a4)) >>= fun a6 =>
  if (decide (a6 < 0)) = true then
  some (.inr (-1))
  else
  (idx a0 a2) >>= fun a7 =>
  if (a7.fTerm.fOp != a6) = true then
  some (.inr (-1))
  else
  (idx a0 a2) >>= fun a8 =>
  if (a8.fTerm.fN != (wr (a6 + 1))) = true then
  some (.inr (-1))
  else
  (idx a0 a2) >>= fun a9 =>
  (Kq9 (a9.fTerm.fType,(wr ((wr (a6 + 1)) + 1)))) >>= fun b1 =>
  if (decide (b1 < 0)) = true then
  some (.inr (-1))
  else
  (idx a0 a2) >>= fun b2 =>
  (Kqm (b2.fTerm.fKids,b1)) >>= fun b3 =>
  if (decide (b3 < 0)) = true then
  some (.inr (-1))
  else
  (idx a0 a2) >>= fun b4 =>
  (Kq9 (b4.fType,b3)) >>= fun b5 =>
  if (decide (b5 < 0)) = true then
  some (.inr (-1))
  else
  (idx a0 a2) >>= fun b6 =>
  (Kq9 (b6.fFrom,b5)) >>= fun b7 =>
  if (decide (b7 < 0)) = true then
  some (.inr (-1))
  else
  Kqu (a0,b7,(wr (a2 + 1)))
  else
  some (.inl a1)
 partial_fixpoint
def Kqv (p : (List K02) × Int × Int) (fl : (Int) ⊕ (Int)) : Prop :=
 match p with
 | (a0,a1,a2) => ∀ c : Ctx,c.nt = 89 → WpL Tryz.prog c (cl (cl (cr (cl (cr B26))))) (Kqt c fl) (mkS [(0,.sl (List.map K12 a0)),(1,I a1),(5,I a2)] [])
theorem Kqw : ∀ p r,Kqu p = some r → Kqv p r := by
 refine Kqu.partial_correctness Kqv ?_
 rintro laws_heldJudgmentS_l0_f laws_heldJudgmentS_l0_ih ⟨a0,a1,a2⟩ r h
 intro c hc
 refine WpL.step ?_
 refine sN ?_
 refine rs hc none [oN,oN,some (.eqv (.no) ⟨[(8,I (a0.length : Int))],[],[]⟩),oN] [(0,.sl (List.map K12 a0)),(1,I a1),(5,I a2),(9,.bool (decide (a2 < (a0.length : Int))))] [] (ai (Qdj (d := 8) K12 a0) tv) ?_
 refine ic h (fun a3 h => ?_) fun a3 h => ?_
 ·refine sk ?_
  refine sN ?_
  refine bk 1 ?_
  obtain ⟨a4,a5,a6,a7,h⟩ := bq2 h
  refine rs hc none [oN,oN,some (.el (K29 a4)),oN,oN,oN,oc (I a6),oN] [(0,.sl (List.map K12 a0)),(1,I a6),(5,I a2)] [] (ai (Qdh a5 (K1l a4)) (cq (Kqk _ _ a7) K83 tv)) ?_
  refine sN ?_
  refine rs0 hc 2 [(0,.sl (List.map K12 a0)),(1,I a6),(5,I a2),(20,.bool (decide (a6 < 0)))] [] ?_
  refine ic h (fun a8 h => ?_) fun a8 h => ?_
  ·refine rs0 hc 1 [(4,I (-1))] [] ?_
   refine rt ?_
   obtain rfl := os h
   exact re [true]
  refine sk ?_
  obtain ⟨a9,b1,b2,b3,h⟩ := bq2 h
  refine rs hc none [oN,oN,some (.el (K29 a9)),oN,oN,oN,oc (I b2),oN] [(0,.sl (List.map K12 a0)),(1,I b2),(5,I a2)] [] (ai (Qdh b1 (K1l a9)) (cq (Kqb _ _ b3) K82 tv)) ?_
  refine sN ?_
  refine rs0 hc 2 [(0,.sl (List.map K12 a0)),(1,I b2),(5,I a2),(29,.bool (decide (b2 < 0)))] [] ?_
  refine ic h (fun b4 h => ?_) fun b4 h => ?_
  ·refine rs0 hc 1 [(4,I (-1))] [] ?_
   refine rt ?_
   obtain rfl := os h
   exact re [true]
  refine sk ?_
  refine sN ?_
  obtain ⟨b5,b6,h⟩ := Qdd h
  refine rs hc none [oN,oN,some (.el (K29 b5)),oN,oN,oN,oN,oN] [(0,.sl (List.map K12 a0)),(1,I b2),(5,I a2),(37,.bool (b5.fTerm.fOp != b2))] [] (ai (Qdh b6 (K1l b5)) tv) ?_
  refine ic h (fun b7 h => ?_) fun b7 h => ?_
  ·refine rs0 hc 1 [(4,I (-1))] [] ?_
   refine rt ?_
   obtain rfl := os h
   exact re [true]
  refine sk ?_
  refine rs0 hc 3 [(0,.sl (List.map K12 a0)),(1,I (wr (b2 + 1))),(5,I a2)] [] ?_
  refine sN ?_
  obtain ⟨b8,b9,h⟩ := Qdd h
  refine rs hc none [oN,oN,some (.el (K29 b8)),oN,oN,oN,oN,oN] [(0,.sl (List.map K12 a0)),(1,I (wr (b2 + 1))),(5,I a2),(47,.bool (b8.fTerm.fN != (wr (b2 + 1))))] [] (ai (Qdh b9 (K1l b8)) tv) ?_
  refine ic h (fun c0 h => ?_) fun c0 h => ?_
  ·refine rs0 hc 1 [(4,I (-1))] [] ?_
   refine rt ?_
   obtain rfl := os h
   exact re [true]
  refine sk ?_
  refine rs0 hc 3 [(0,.sl (List.map K12 a0)),(1,I (wr ((wr (b2 + 1)) + 1))),(5,I a2)] [] ?_
  obtain ⟨c1,c2,c3,c4,h⟩ := bq2 h
  refine rs hc none [oN,oN,some (.el (K29 c1)),oN,oN,oN,oN,oc (I c3),oN] [(0,.sl (List.map K12 a0)),(1,I c3),(5,I a2)] [] (ai (Qdh c2 (K1l c1)) (cq (Kqb _ _ c4) K82 tv)) ?_
  refine sN ?_
  refine rs0 hc 2 [(0,.sl (List.map K12 a0)),(1,I c3),(5,I a2),(59,.bool (decide (c3 < 0)))] [] ?_
  refine ic h (fun c5 h => ?_) fun c5 h => ?_
  ·refine rs0 hc 1 [(4,I (-1))] [] ?_
   refine rt ?_
   obtain rfl := os h
   exact re [true]
  refine sk ?_
  obtain ⟨c6,c7,c8,c9,h⟩ := bq2 h
  refine rs hc none [oN,oN,some (.el (K29 c6)),oN,oN,oN,oN,oc (I c8),oN] [(0,.sl (List.map K12 a0)),(1,I c8),(5,I a2)] [] (ai (Qdh c7 (K1l c6)) (cq (Kqr _ _ c9) K84 tv)) ?_
  refine sN ?_
  refine rs0 hc 2 [(0,.sl (List.map K12 a0)),(1,I c8),(5,I a2),(69,.bool (decide (c8 < 0)))] [] ?_
  refine ic h (fun d0 h => ?_) fun d0 h => ?_
  ·refine rs0 hc 1 [(4,I (-1))] [] ?_
   refine rt ?_
   obtain rfl := os h
   exact re [true]
  refine sk ?_
  obtain ⟨d1,d2,d3,d4,h⟩ := bq2 h
  refine rs hc none [oN,oN,some (.el (K29 d1)),oN,oN,oN,oc (I d3),oN] [(0,.sl (List.map K12 a0)),(1,I d3),(5,I a2)] [] (ai (Qdh d2 (K1l d1)) (cq (Kqb _ _ d4) K82 tv)) ?_
  refine sN ?_
  refine rs0 hc 2 [(0,.sl (List.map K12 a0)),(1,I d3),(5,I a2),(78,.bool (decide (d3 < 0)))] [] ?_
  refine ic h (fun d5 h => ?_) fun d5 h => ?_
  ·refine rs0 hc 1 [(4,I (-1))] [] ?_
   refine rt ?_
   obtain rfl := os h
   exact re [true]
  refine sk ?_
  obtain ⟨d6,d7,d8,d9,h⟩ := bq2 h
  refine rs hc none [oN,oN,some (.el (K29 d6)),oN,oN,oN,oc (I d8),oN] [(0,.sl (List.map K12 a0)),(1,I d8),(5,I a2)] [] (ai (Qdh d7 (K1l d6)) (cq (Kqb _ _ d9) K82 tv)) ?_
  refine rs0 hc 2 [(0,.sl (List.map K12 a0)),(1,I d8),(5,I a2),(87,.bool (decide (d8 < 0)))] [] ?_
  refine ic h (fun e0 h => ?_) fun e0 h => ?_
  ·refine rs0 hc 1 [(4,I (-1))] [] ?_
   refine rt ?_
   obtain rfl := os h
   exact re [true]
  refine sk ?_
  refine rg0 hc 3 [(0,.sl (List.map K12 a0)),(1,I d8),(5,I (wr (a2 + 1)))] [] ?_
  refine Qcv ?_
  exact (laws_heldJudgmentS_l0_ih _ _ h c hc)
 refine xt 0 ?_
 refine Qcp ?_
 refine Qcw ?_
 obtain rfl := os h
 exact iv []
def Kqx (p : (List K02) × Int) : Option (Int) :=
 match p with
 | (a0,k1) =>
  (Kqu (a0,k1,0)) >>= fun fl => match fl with
  | .inl a1 =>
   some a1
  | .inr r =>
   some r
def Kqy (p : (List K02) × Int) (r : Int) : Prop :=
 match p with
 | (a0,k1) => Q71 Tryz.prog 26 [.sl (List.map K12 a0),I k1] (I r) []
theorem Kqz : ∀ p r,Kqx p = some r → Kqy p r := by
 rintro ⟨a0,k1⟩ r h
 unfold Kqx at h
 refine b0 Tryz.f26 B26 89 [(0,.sl (List.map K12 a0)),(1,I k1)] fun c hc => ?_
 refine rs0 hc 1 [(0,.sl (List.map K12 a0)),(1,I k1)] [] ?_
 refine sN ?_
 refine rs0 hc 1 [(0,.sl (List.map K12 a0)),(1,I k1),(5,I 0)] [] ?_
 refine bk 0 ?_
 obtain ⟨fl,a1,h⟩ := Qdd h
 have hL := Kqw _ _ a1 c hc
 refine lp ?_
 rcases fl with a2 | r
 ·refine WpL.into (e := (.exit 0)) (mkS [(1,I a2)] []) hL ?_
  refine Qcr ?_
  refine rs0 hc 2 [(4,I a2)] [] ?_
  refine rt ?_
  obtain rfl := os h
  exact rq [true]
 refine WpL.mono hL ?_
 rintro _ _ ⟨rfl,hfin⟩
 obtain rfl := os h
 exact ⟨.inl rfl,hfin⟩
def Kr0 (p : K00 × LL × K01) : Option (Bool) :=
 match p with
 | (aS0,aCtx1,aT2) =>
  (K8g (aS0,1048576)) >>= fun a0 =>
  if (decide (a0 < 0)) = true then
  some true
  else
  (K8n (aCtx1,a0)) >>= fun a1 =>
  if (decide (a1 < 0)) = true then
  some true
  else
  (K8r (aT2,a1)) >>= fun a2 =>
  if (decide (a2 < 0)) = true then
  some true
  else
  (K9f aS0) >>= fun a3 =>
  (K9m aCtx1) >>= fun a4 =>
  (K9q aT2) >>= fun a5 =>
  (Kgb (a3,a4,a5)) >>= fun (a6,a7) =>
  (K9f aS0) >>= fun a8 =>
  (K9m aCtx1) >>= fun a9 =>
  (K9q aT2) >>= fun b1 =>
  (Knn (a8,a9,b1)) >>= fun (b2,b3) =>
  ((
  (Kom (b2,a6)) >>= fun b4 =>
  if b4 = true then
  some ((!(b3 == a7)))
  else
  some (true)
  ) : Option (Bool)) >>= fun b5 =>
  if b5 = true then
  some false
  else
  (K9f aS0) >>= fun b6 =>
  (Kow (a8,b6)) >>= fun b7 =>
  if b7 = true then
  (K9m aCtx1) >>= fun b8 =>
  (Ko1 (a9,b8)) >>= fun b9 =>
  if b9 = true then
  (K9q aT2) >>= fun c0 =>
  (Ko5 (b1,c0)) >>= fun c1 =>
  if c1 = true then
  (Kpd (a8,1)) >>= fun (c2,c3) =>
  (Kpk (a9,c2)) >>= fun (c4,c5) =>
  (Kpv (b1,c4)) >>= fun (c6,c7) =>
  ((
  if (decide (c6 < 0)) = true then
  some (true)
  else
  (Kom (b2,a6)) >>= fun c8 =>
  if c8 = true then
  some ((!(b3 == a7)))
  else
  some (true)
  ) : Option (Bool)) >>= fun c9 =>
  if c9 = true then
  some false
  else
  (Kq2 (b2,1)) >>= fun (d0,d1) =>
  (Kqx (d1,1)) >>= fun d2 =>
  if (decide (d2 < 0)) = true then
  some false
  else
  if (d2 != d0) = true then
  some false
  else
  (K9f aS0) >>= fun d3 =>
  (K9m aCtx1) >>= fun d4 =>
  (K9q aT2) >>= fun d5 =>
  (Knn (d3,d4,d5)) >>= fun (d6,d7) =>
  ((
  (Kom (d6,a6)) >>= fun d8 =>
  if d8 = true then
  some ((!(d7 == a7)))
  else
  some (true)
  ) : Option (Bool)) >>= fun d9 =>
  if d9 = true then
  some false
  else
  (Kqx (d1,1)) >>= fun e0 =>
  if (decide (e0 < 0)) = true then
  some false
  else
  if (e0 != d0) = true then
  some false
  else
  some true
  else
  some false
  else
  some false
  else
  some false
def Kr1 (p : K00 × LL × K01) (r : Bool) : Prop :=
 match p with
 | (aS0,aCtx1,aT2) => Q71 Tryz.prog 4 [K25 aS0,sL aCtx1,K27 aT2] (.bool r) []
theorem Kr2 : ∀ p r,Kr0 p = some r → Kr1 p r := by
 rintro ⟨aS0,aCtx1,aT2⟩ r h
 unfold Kr0 at h
 refine b0 Tryz.f4 B4 142 [(0,K25 aS0),(1,sL aCtx1),(2,K27 aT2)] fun c hc => ?_
 refine rs hc none [some (.new 1),some (.new 2),oN] [(1,sL aCtx1),(3,.ra 1 0),(5,.ra 2 0)] [(1,K24 aS0),(2,K26 aT2)] tv ?_
 refine K88 hc 1 [(1,sL aCtx1),(3,.ra 1 0),(5,.ra 2 0),(7,I 1048576)] ?_
 obtain ⟨a0,a1,h⟩ := Qdd h
 refine rss hc none [oN,oN,oc (I a0),oN] [(1,sL aCtx1),(3,.ra 1 0),(5,.ra 2 0),(7,I a0)] (cq (K8i _ _ a1) K3h tv) ?_
 refine sN ?_
 refine K88 hc 2 [(1,sL aCtx1),(3,.ra 1 0),(5,.ra 2 0),(7,I a0),(24,.bool (decide (a0 < 0)))] ?_
 refine ic h (fun a2 h => ?_) fun a2 h => ?_
 ·refine rs0 hc 1 [(6,.bool true)] [] ?_
  refine rt ?_
  obtain rfl := os h
  exact rq [true]
 refine sk ?_
 obtain ⟨a3,a4,h⟩ := Qdd h
 refine rss hc none [oN,oN,oc (I a3),oN] [(1,sL aCtx1),(3,.ra 1 0),(5,.ra 2 0),(7,I a3)] (cq (K8p _ _ a4) K3i tv) ?_
 refine sN ?_
 refine K88 hc 2 [(1,sL aCtx1),(3,.ra 1 0),(5,.ra 2 0),(7,I a3),(29,.bool (decide (a3 < 0)))] ?_
 refine ic h (fun a5 h => ?_) fun a5 h => ?_
 ·refine rs0 hc 1 [(6,.bool true)] [] ?_
  refine rt ?_
  obtain rfl := os h
  exact rq [true]
 refine sk ?_
 obtain ⟨a6,a7,h⟩ := Qdd h
 refine rss hc none [oN,oN,oc (I a6),oN] [(1,sL aCtx1),(3,.ra 1 0),(5,.ra 2 0),(7,I a6)] (cq (K8y _ _ a7) K3k tv) ?_
 refine sN ?_
 refine K88 hc 2 [(1,sL aCtx1),(3,.ra 1 0),(5,.ra 2 0),(34,.bool (decide (a6 < 0)))] ?_
 refine ic h (fun a8 h => ?_) fun a8 h => ?_
 ·refine rs0 hc 1 [(6,.bool true)] [] ?_
  refine rt ?_
  obtain rfl := os h
  exact rq [true]
 refine sk ?_
 obtain ⟨a9,b1,b2,b3,b4,b5,⟨b6,b7⟩,b8,h⟩ := bq4 h
 refine rs hc Kqd [oN,some (.call (K2g a9) [] 3),oN,some (.call (.osl (List.map K0c b2)) [] 6),oN,some (.call (K2i b4) [] 7),some (.call (.tup [.osl (List.map K12 b6),.bool b7]) [.tup []] 9),oN,oN,oN,oN,oN] [(1,sL aCtx1),(3,.ra 1 0),(5,.ra 2 0),(8,.rs 9),(9,.bool b7)] [(1,K24 aS0),(2,K26 aT2),(9,.arr (List.map K12 b6))] (cq (K9h _ _ b1) K3n (cq (K9o _ _ b3) K3o (cq (K9x _ _ b5) K3q (ab (Q71.args (A1 := [K2h a9,.sl (Q02 (List.map K0c b2)),K2j b4]) (A2 := [K25 a9,sL b2,K27 b4]) (by simp only [K2h,K2j,List.map_nil,Qe7,K1i,Qe5,K0g]) (Kgd _ _ b8)) K5o tv)))) ?_
 obtain ⟨b9,c0,h⟩ := Qdd h
 refine rs hc none [oN,some (.call (K2g b9) [] 10),some (.new 13),oN] [(1,sL aCtx1),(3,.ra 1 0),(5,.ra 2 0),(8,.rs 9),(9,.bool b7),(10,.ra 13 0)] [(1,K24 aS0),(2,K26 aT2),(9,.arr (List.map K12 b6)),(10,rI b9.fPlus),(11,rI b9.fTimes),(12,.arr (List.map AV.bool b9.fBelow)),(13,.box [I b9.fSize,.rs 10,.rs 11,.rs 12])] (cq (K9h _ _ c0) K3n tv) ?_
 obtain ⟨c1,c2,h⟩ := Qdd h
 refine rs hc none [oN,some (.call (.osl (List.map K0c c1)) [] 14),oN] [(1,sL aCtx1),(3,.ra 1 0),(5,.ra 2 0),(8,.rs 9),(9,.bool b7),(10,.ra 13 0),(11,.rs 14)] [(1,K24 aS0),(2,K26 aT2),(9,.arr (List.map K12 b6)),(10,rI b9.fPlus),(11,rI b9.fTimes),(12,.arr (List.map AV.bool b9.fBelow)),(13,.box [I b9.fSize,.rs 10,.rs 11,.rs 12]),(14,.arr (List.map K0c c1))] (cq (K9o _ _ c2) K3o tv) ?_
 obtain ⟨c3,c4,h⟩ := Qdd h
 refine rs hc none [oN,some (.call (K2i c3) [] 15),some (.new 17),oN] [(1,sL aCtx1),(3,.ra 1 0),(5,.ra 2 0),(8,.rs 9),(9,.bool b7),(10,.ra 13 0),(11,.rs 14),(12,.ra 17 0)] [(1,K24 aS0),(2,K26 aT2),(9,.arr (List.map K12 b6)),(10,rI b9.fPlus),(11,rI b9.fTimes),(12,.arr (List.map AV.bool b9.fBelow)),(13,.box [I b9.fSize,.rs 10,.rs 11,.rs 12]),(14,.arr (List.map K0c c1)),(15,rI c3.fType),(16,.arr (List.map K0v c3.fKids)),(17,.box [I c3.fOp,I c3.fN,.rs 15,.rs 16])] (cq (K9x _ _ c4) K3q tv) ?_
 obtain ⟨⟨c5,c6⟩,c7,h⟩ := Qdd h
 refine rs hc none [oN,oN,oN,some (.call (.tup [.osl (List.map K13 c5),.bool c6]) [] 18),oN,oN,oN,oN,oN] [(1,sL aCtx1),(3,.ra 1 0),(5,.ra 2 0),(8,.rs 9),(9,.bool b7),(10,.ra 13 0),(11,.rs 14),(12,.ra 17 0),(13,.rs 18),(14,.bool c6)] [(1,K24 aS0),(2,K26 aT2),(9,.arr (List.map K12 b6)),(10,rI b9.fPlus),(11,rI b9.fTimes),(12,.arr (List.map AV.bool b9.fBelow)),(13,.box [I b9.fSize,.rs 10,.rs 11,.rs 12]),(14,.arr (List.map K0c c1)),(15,rI c3.fType),(16,.arr (List.map K0v c3.fKids)),(17,.box [I c3.fOp,I c3.fN,.rs 15,.rs 16]),(18,.arr (List.map K13 c5))] (ac (Q71.args (A1 := [K2h b9,.sl (Q02 (List.map K0c c1)),K2j c3]) (A2 := [K25 b9,sL c1,K27 c3]) (by simp only [K2h,K2j,List.map_nil,Qe7,K1i,Qe5,K0g]) (Knp _ _ c7)) K7m (Or.inr (Qef (Qed K23 c5) (Qef rfl rfl)) : ([10,11,12,14,15,16] : List Nat) = [] ∨ noSh (.tup [.osl (List.map K13 c5),.bool c6]) = true) tv) ?_
 refine sN ?_
 refine sN ?_
 obtain ⟨c8,c9,h⟩ := Qdd h
 refine Wp.into (x := .normal) (mkS [(1,sL aCtx1),(3,.ra 1 0),(5,.ra 2 0),(8,.rs 9),(9,.bool b7),(10,.ra 13 0),(11,.rs 14),(12,.ra 17 0),(13,.rs 18),(14,.bool c6),(66,.bool c8)] [(1,K24 aS0),(2,K26 aT2),(9,.arr (List.map K12 b6)),(10,rI b9.fPlus),(11,rI b9.fTimes),(12,.arr (List.map AV.bool b9.fBelow)),(13,.box [I b9.fSize,.rs 10,.rs 11,.rs 12]),(14,.arr (List.map K0c c1)),(15,rI c3.fType),(16,.arr (List.map K0v c3.fKids)),(17,.box [I c3.fOp,I c3.fN,.rs 15,.rs 16]),(18,.arr (List.map K13 c5))]) ?_ ?_
 ·replace h := c9
  obtain ⟨d0,d1,h⟩ := Qdd h
  rcases is h with ⟨d2,h⟩ | ⟨d2,h⟩
  ·refine rgs hc none [oN,oN,oc (.bool d0),oN,oN,oN,oN,oN,oF] [(1,sL aCtx1),(3,.ra 1 0),(5,.ra 2 0),(8,.rs 9),(9,.bool b7),(10,.ra 13 0),(11,.rs 14),(12,.ra 17 0),(13,.rs 18),(14,.bool c6),(66,.bool (!(c6 == b7)))] (ac (Q71.args (A1 := [.sl (Q02 (List.map K13 c5)),.sl (Q02 (List.map K12 b6))]) (A2 := [.sl (List.map K12 c5),.sl (List.map K12 b6)]) (by simp only [List.map_nil,K22,K1o]) (Koo _ _ d1)) K7s (Or.inr rfl : ([18,9] : List Nat) = [] ∨ noSh (.bool d0) = true) (ar 4 (nF d2) tv)) ?_
   obtain rfl := os h
   exact Qcz.mk
  refine rgs hc none [oN,oN,oc (.bool d0),oN,oN,o_,o_,o_,oT] [(1,sL aCtx1),(3,.ra 1 0),(5,.ra 2 0),(8,.rs 9),(9,.bool b7),(10,.ra 13 0),(11,.rs 14),(12,.ra 17 0),(13,.rs 18),(14,.bool c6),(66,.bool true)] (ac (Q71.args (A1 := [.sl (Q02 (List.map K13 c5)),.sl (Q02 (List.map K12 b6))]) (A2 := [.sl (List.map K12 c5),.sl (List.map K12 b6)]) (by simp only [List.map_nil,K22,K1o]) (Koo _ _ d1)) K7s (Or.inr rfl : ([18,9] : List Nat) = [] ∨ noSh (.bool d0) = true) (ar 3 (neF (nT d2)) (ai (nT d2) tv))) ?_
  obtain rfl := os h
  exact Qcz.mk
 clear c9
 refine ic h (fun d3 h => ?_) fun d3 h => ?_
 ·refine rs0 hc 1 [(6,.bool false)] [] ?_
  refine rt ?_
  obtain rfl := os h
  exact rq [true]
 refine sk ?_
 refine sN ?_
 obtain ⟨d4,d5,d6,d7,h⟩ := bq2 h
 refine rss hc Kqe [oN,oN,some (.call (K2g d4) [] 19),oc (.bool d6),oN] [(1,sL aCtx1),(3,.ra 1 0),(5,.ra 2 0),(8,.rs 9),(9,.bool b7),(10,.ra 13 0),(11,.rs 14),(12,.ra 17 0),(13,.rs 18),(14,.bool c6),(71,.bool (!d6))] (cq (K9h _ _ d5) K3n (ac (Q71.args (A1 := [K2h b9,K2h d4]) (A2 := [K25 b9,K25 d4]) (by simp only [K2h,List.map_nil,Qe7,Qe5]) (Koy _ _ d7)) K7u (Or.inr rfl : ([10,11,12,19,20,21] : List Nat) = [] ∨ noSh (.bool d6) = true) tv)) ?_
 rcases is h with ⟨d8,h⟩ | ⟨d8,h⟩
 ·refine cF (!d6) (nF d8) ?_
  refine sk ?_
  refine sN ?_
  obtain ⟨d9,e0,e1,e2,h⟩ := bq2 h
  refine rss hc none [oN,oN,some (.call (.osl (List.map K0c d9)) [] 22),oc (.bool e1),oN] [(1,sL aCtx1),(3,.ra 1 0),(5,.ra 2 0),(8,.rs 9),(9,.bool b7),(10,.ra 13 0),(11,.rs 14),(12,.ra 17 0),(13,.rs 18),(14,.bool c6),(76,.bool (!e1))] (cq (K9o _ _ e0) K3o (ac (Q71.args (A1 := [.sl (Q02 (List.map K0c c1)),.sl (Q02 (List.map K0c d9))]) (A2 := [sL c1,sL d9]) (by simp only [List.map_nil,K0g]) (Ko3 _ _ e2)) K7o (Or.inr rfl : ([14,22] : List Nat) = [] ∨ noSh (.bool e1) = true) tv)) ?_
  rcases is h with ⟨e3,h⟩ | ⟨e3,h⟩
  ·refine cF (!e1) (nF e3) ?_
   refine sk ?_
   refine sN ?_
   obtain ⟨e4,e5,e6,e7,h⟩ := bq2 h
   refine rss hc Kqe [oN,oN,some (.call (K2i e4) [] 23),oc (.bool e6),oN] [(1,sL aCtx1),(3,.ra 1 0),(5,.ra 2 0),(8,.rs 9),(9,.bool b7),(10,.ra 13 0),(11,.rs 14),(12,.ra 17 0),(13,.rs 18),(14,.bool c6),(81,.bool (!e6))] (cq (K9x _ _ e5) K3q (ac (Q71.args (A1 := [K2j c3,K2j e4]) (A2 := [K27 c3,K27 e4]) (by simp only [K2j,List.map_nil,K1i,Qe5]) (Koc _ _ e7)) K7q (Or.inr rfl : ([15,16,23,24] : List Nat) = [] ∨ noSh (.bool e6) = true) tv)) ?_
   rcases is h with ⟨e8,h⟩ | ⟨e8,h⟩
   ·refine cF (!e6) (nF e8) ?_
    refine sk ?_
    refine K88 hc 1 [(1,sL aCtx1),(3,.ra 1 0),(5,.ra 2 0),(8,.rs 9),(9,.bool b7),(10,.ra 13 0),(11,.rs 14),(12,.ra 17 0),(13,.rs 18),(14,.bool c6),(15,I 1)] ?_
    obtain ⟨⟨e9,f0⟩,f1,h⟩ := Qdd h
    refine rs hc none [oN,oN,some (.call (I e9) [.agg [.undef,oI f0.fPlus,oI f0.fTimes,.osl (List.map AV.bool f0.fBelow)],.undef] 1),oN] [(1,sL aCtx1),(3,.ra 1 0),(5,.ra 2 0),(8,.rs 9),(9,.bool b7),(11,.rs 14),(12,.ra 17 0),(13,.rs 18),(14,.bool c6),(15,I e9)] [(1,K24 aS0),(2,K26 aT2),(9,.arr (List.map K12 b6)),(14,.arr (List.map K0c c1)),(15,rI c3.fType),(16,.arr (List.map K0v c3.fKids)),(17,.box [I c3.fOp,I c3.fN,.rs 15,.rs 16]),(18,.arr (List.map K13 c5))] (ab (Kpf _ _ f1) K7x tv) ?_
    obtain ⟨⟨f2,f3⟩,f5,h⟩ := Qdd h
    refine rs hc none [oN,oN,some (.call (I f2) [.osl (List.map K0c f3),.undef] 1),oN] [(1,sL aCtx1),(3,.ra 1 0),(5,.ra 2 0),(8,.rs 9),(9,.bool b7),(12,.ra 17 0),(13,.rs 18),(14,.bool c6),(15,I f2)] [(1,K24 aS0),(2,K26 aT2),(9,.arr (List.map K12 b6)),(15,rI c3.fType),(16,.arr (List.map K0v c3.fKids)),(17,.box [I c3.fOp,I c3.fN,.rs 15,.rs 16]),(18,.arr (List.map K13 c5))] (ab (Kpm _ _ f5) K7y tv) ?_
    obtain ⟨⟨f6,f7⟩,f8,h⟩ := Qdd h
    refine rs hc none [oN,oN,some (.call (I f6) [.agg [.undef,.undef,oI f7.fType,.osl (List.map K0v f7.fKids)],.undef] 1),oN] [(1,sL aCtx1),(3,.ra 1 0),(5,.ra 2 0),(8,.rs 9),(9,.bool b7),(13,.rs 18),(14,.bool c6),(15,I f6)] [(1,K24 aS0),(2,K26 aT2),(9,.arr (List.map K12 b6)),(18,.arr (List.map K13 c5))] (ab (Kpx _ _ f8) K80 tv) ?_
    refine sN ?_
    refine sN ?_
    obtain ⟨f9,g0,h⟩ := Qdd h
    refine Wp.into (x := .normal) (mkS [(1,sL aCtx1),(3,.ra 1 0),(5,.ra 2 0),(8,.rs 9),(9,.bool b7),(13,.rs 18),(103,.bool f9)] [(1,K24 aS0),(2,K26 aT2),(9,.arr (List.map K12 b6)),(18,.arr (List.map K13 c5))]) ?_ ?_
    ·replace h := g0
     rcases is h with ⟨g1,h⟩ | ⟨g1,h⟩
     ·refine rgs hc none [oN,oN,oN,o_,o_,o_,o_,oT,oN,o_,o_,o_,oT] [(1,sL aCtx1),(3,.ra 1 0),(5,.ra 2 0),(8,.rs 9),(9,.bool b7),(13,.rs 18),(103,.bool true)] (ar 4 (neF g1) (ai g1 (ar 3 nf (ai tt tv)))) ?_
      obtain rfl := os h
      exact Qcz.mk
     obtain ⟨g2,g3,h⟩ := Qdd h
     rcases is h with ⟨g4,h⟩ | ⟨g4,h⟩
     ·refine rgs hc none [oN,oN,oN,oN,oN,oc (.bool g2),oN,oF,oN,oN,oN,oN,oF] [(1,sL aCtx1),(3,.ra 1 0),(5,.ra 2 0),(8,.rs 9),(9,.bool b7),(13,.rs 18),(103,.bool (!(c6 == b7)))] (ar 3 g1 (ac (Q71.args (A1 := [.sl (Q02 (List.map K13 c5)),.sl (Q02 (List.map K12 b6))]) (A2 := [.sl (List.map K12 c5),.sl (List.map K12 b6)]) (by simp only [List.map_nil,K22,K1o]) (Koo _ _ g3)) K7s (Or.inr rfl : ([18,9] : List Nat) = [] ∨ noSh (.bool g2) = true) (ar 2 g1 (ar 4 (nF g4) tv)))) ?_
      obtain rfl := os h
      exact Qcz.mk
     refine rgs hc none [oN,oN,oN,oN,oN,oc (.bool g2),oN,oF,oN,o_,o_,o_,oT] [(1,sL aCtx1),(3,.ra 1 0),(5,.ra 2 0),(8,.rs 9),(9,.bool b7),(13,.rs 18),(103,.bool true)] (ar 3 g1 (ac (Q71.args (A1 := [.sl (Q02 (List.map K13 c5)),.sl (Q02 (List.map K12 b6))]) (A2 := [.sl (List.map K12 c5),.sl (List.map K12 b6)]) (by simp only [List.map_nil,K22,K1o]) (Koo _ _ g3)) K7s (Or.inr rfl : ([18,9] : List Nat) = [] ∨ noSh (.bool g2) = true) (ar 2 g1 (ar 3 (neF (nT g4)) (ai (nT g4) tv))))) ?_
     obtain rfl := os h
     exact Qcz.mk
    clear g0
    refine ic h (fun g5 h => ?_) fun g5 h => ?_
    ·refine rs0 hc 1 [(6,.bool false)] [] ?_
     refine rt ?_
     obtain rfl := os h
     exact rq [true]
    refine sk ?_
    refine K88 hc 1 [(1,sL aCtx1),(3,.ra 1 0),(5,.ra 2 0),(8,.rs 9),(9,.bool b7),(13,.rs 18),(16,I 1)] ?_
    obtain ⟨⟨g6,g7⟩,g8,h⟩ := Qdd h
    refine rs hc none [oN,oN,some (.call (I g6) [.osl (List.map K13 g7),.undef] 1),oN] [(1,sL aCtx1),(3,.ra 1 0),(5,.ra 2 0),(8,.rs 9),(9,.bool b7),(13,.rs 18),(16,I g6)] [(1,K24 aS0),(2,K26 aT2),(9,.arr (List.map K12 b6)),(18,.arr (List.map K13 g7))] (ab (Kq4 _ _ g8) K81 tv) ?_
    refine K88 hc 1 [(1,sL aCtx1),(3,.ra 1 0),(5,.ra 2 0),(8,.rs 9),(9,.bool b7),(13,.rs 18),(16,I g6),(17,I 1)] ?_
    obtain ⟨g9,i0,h⟩ := Qdd h
    refine rss hc none [oN,oN,oc (I g9),oN] [(1,sL aCtx1),(3,.ra 1 0),(5,.ra 2 0),(8,.rs 9),(9,.bool b7),(13,.rs 18),(16,I g6),(17,I g9)] (ac (Q71.args (A1 := [.sl (Q02 (List.map K13 g7)),I 1]) (A2 := [.sl (List.map K12 g7),I 1]) (by simp only [List.map_nil,K22]) (Kqz _ _ i0)) K85 (Or.inr rfl : ([18] : List Nat) = [] ∨ noSh (I g9) = true) tv) ?_
    refine sN ?_
    refine K88 hc 2 [(1,sL aCtx1),(3,.ra 1 0),(5,.ra 2 0),(8,.rs 9),(9,.bool b7),(13,.rs 18),(16,I g6),(17,I g9),(111,.bool (decide (g9 < 0)))] ?_
    refine ic h (fun i1 h => ?_) fun i1 h => ?_
    ·refine rs0 hc 1 [(6,.bool false)] [] ?_
     refine rt ?_
     obtain rfl := os h
     exact rq [true]
    refine sk ?_
    refine sN ?_
    refine K88 hc 3 [(1,sL aCtx1),(3,.ra 1 0),(5,.ra 2 0),(8,.rs 9),(9,.bool b7),(13,.rs 18),(16,I g6),(114,.bool (g9 != g6))] ?_
    refine ic h (fun i2 h => ?_) fun i2 h => ?_
    ·refine rs0 hc 1 [(6,.bool false)] [] ?_
     refine rt ?_
     obtain rfl := os h
     exact rq [true]
    refine sk ?_
    obtain ⟨i3,i4,i5,i6,i7,i8,⟨i9,j0⟩,j8,h⟩ := bq4 h
    refine rs hc Kqd [oN,some (.call (K2g i3) [] 25),oN,some (.call (.osl (List.map K0c i5)) [] 28),oN,some (.call (K2i i7) [] 29),some (.call (.tup [.osl (List.map K13 i9),.bool j0]) [] 31),oN,oN,oN,oN,oN] [(8,.rs 9),(9,.bool b7),(13,.rs 18),(16,I g6),(18,.rs 31),(19,.bool j0)] [(9,.arr (List.map K12 b6)),(18,.arr (List.map K13 g7)),(31,.arr (List.map K13 i9))] (cq (K9h _ _ i4) K3n (cq (K9o _ _ i6) K3o (cq (K9x _ _ i8) K3q (ac (Q71.args (A1 := [K2h i3,.sl (Q02 (List.map K0c i5)),K2j i7]) (A2 := [K25 i3,sL i5,K27 i7]) (by simp only [K2h,K2j,List.map_nil,Qe7,K1i,Qe5,K0g]) (Knp _ _ j8)) K7m (Or.inr (Qef (Qed K23 i9) (Qef rfl rfl)) : ([25,26,27,28,29,30] : List Nat) = [] ∨ noSh (.tup [.osl (List.map K13 i9),.bool j0]) = true) tv)))) ?_
    refine sN ?_
    refine sN ?_
    obtain ⟨j9,k0,h⟩ := Qdd h
    refine Wp.into (x := .normal) (mkS [(13,.rs 18),(16,I g6),(133,.bool j9)] [(18,.arr (List.map K13 g7))]) ?_ ?_
    ·replace h := k0
     obtain ⟨k1,k2,h⟩ := Qdd h
     rcases is h with ⟨k3,h⟩ | ⟨k3,h⟩
     ·refine rg hc none [oN,oN,oc (.bool k1),oN,oN,oN,oN,oN,oF] [(13,.rs 18),(16,I g6),(133,.bool (!(j0 == b7)))] [(18,.arr (List.map K13 g7))] (ac (Q71.args (A1 := [.sl (Q02 (List.map K13 i9)),.sl (Q02 (List.map K12 b6))]) (A2 := [.sl (List.map K12 i9),.sl (List.map K12 b6)]) (by simp only [List.map_nil,K22,K1o]) (Koo _ _ k2)) K7s (Or.inr rfl : ([31,9] : List Nat) = [] ∨ noSh (.bool k1) = true) (ar 4 (nF k3) tv)) ?_
      obtain rfl := os h
      exact Qcz.mk
     refine rg hc none [oN,oN,oc (.bool k1),oN,oN,o_,o_,o_,oT] [(13,.rs 18),(16,I g6),(133,.bool true)] [(18,.arr (List.map K13 g7))] (ac (Q71.args (A1 := [.sl (Q02 (List.map K13 i9)),.sl (Q02 (List.map K12 b6))]) (A2 := [.sl (List.map K12 i9),.sl (List.map K12 b6)]) (by simp only [List.map_nil,K22,K1o]) (Koo _ _ k2)) K7s (Or.inr rfl : ([31,9] : List Nat) = [] ∨ noSh (.bool k1) = true) (ar 3 (neF (nT k3)) (ai (nT k3) tv))) ?_
     obtain rfl := os h
     exact Qcz.mk
    clear k0
    refine ic h (fun k4 h => ?_) fun k4 h => ?_
    ·refine rs0 hc 1 [(6,.bool false)] [] ?_
     refine rt ?_
     obtain rfl := os h
     exact rq [true]
    refine sk ?_
    refine K88 hc 1 [(13,.rs 18),(16,I g6),(17,I 1)] ?_
    obtain ⟨k5,k6,h⟩ := Qdd h
    refine rs hc none [oN,oN,oc (I k5),oN] [(16,I g6),(17,I k5)] [] (ac (Q71.args (A1 := [.sl (Q02 (List.map K13 g7)),I 1]) (A2 := [.sl (List.map K12 g7),I 1]) (by simp only [List.map_nil,K22]) (Kqz _ _ k6)) K85 (Or.inr rfl : ([18] : List Nat) = [] ∨ noSh (I k5) = true) tv) ?_
    refine sN ?_
    refine rs0 hc 2 [(16,I g6),(17,I k5),(138,.bool (decide (k5 < 0)))] [] ?_
    refine ic h (fun k7 h => ?_) fun k7 h => ?_
    ·refine rs0 hc 1 [(6,.bool false)] [] ?_
     refine rt ?_
     obtain rfl := os h
     exact rq [true]
    refine sk ?_
    refine sN ?_
    refine rs0 hc 3 [(141,.bool (k5 != g6))] [] ?_
    refine ic h (fun k8 h => ?_) fun k8 h => ?_
    ·refine rs0 hc 1 [(6,.bool false)] [] ?_
     refine rt ?_
     obtain rfl := os h
     exact rq [true]
    refine sk ?_
    refine rs0 hc 1 [(6,.bool true)] [] ?_
    refine rt ?_
    obtain rfl := os h
    exact rq [true]
   refine cT (!e6) (nT e8) ?_
   refine rs0 hc 1 [(6,.bool false)] [] ?_
   refine rt ?_
   obtain rfl := os h
   exact rq [true]
  refine cT (!e1) (nT e3) ?_
  refine rs0 hc 1 [(6,.bool false)] [] ?_
  refine rt ?_
  obtain rfl := os h
  exact rq [true]
 refine cT (!d6) (nT d8) ?_
 refine rs0 hc 1 [(6,.bool false)] [] ?_
 refine rt ?_
 obtain rfl := os h
 exact rq [true]
end Go.Am
