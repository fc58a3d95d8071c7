/- Functions of the program as pure functions,and that it computes them. Printed by a program of mine (gen.py). -/
import Derived.Test.YtmcpomoofkjfcaaGreatGTWF10
set_option linter.unusedVariables false
set_option linter.unusedSimpArgs false
set_option maxRecDepth 100000
namespace Go.Am
open Go Go.Proofs
def Knh (p : (List Bool) × (List Bool)) : Option (Bool) :=
 match p with
 | (a0,b1) =>
  if ((a0.length : Int) != (b1.length : Int)) = true then
  some false
  else
  (Kne (a0,b1,0)) >>= fun fl => match fl with
  | .inl () =>
   some true
  | .inr r =>
   some r
def Kni (p : (List Bool) × (List Bool)) (r : Bool) : Prop :=
 match p with
 | (a0,b1) => Q71 Tryz.prog 78 [sB a0,sB b1] (.bool r) []
theorem Knj : ∀ p r,Knh p = some r → Kni p r := by
 rintro ⟨a0,b1⟩ r h
 unfold Knh at h
 refine b0 Tryz.f78 B78 26 [(0,sB a0),(1,sB b1)] fun c hc => ?_
 refine rs0 hc 1 [(0,sB a0),(1,sB b1)] [] ?_
 refine sN ?_
 refine rs hc none [oN,some (.eqv (.no) ⟨[(7,I (a0.length : Int))],[],[]⟩),oN,some (.eqv (.no) ⟨[(9,I (b1.length : Int))],[],[]⟩),oN] [(0,sB a0),(1,sB b1),(10,.bool ((a0.length : Int) != (b1.length : Int)))] [] (ab (Qcz (d := 7) AV.bool a0) (Qcz (d := 9) AV.bool b1) tv) ?_
 refine ic h (fun a1 h => ?_) fun a1 h => ?_
 ·refine rs0 hc 1 [(4,.bool false)] [] ?_
  refine rt ?_
  obtain rfl := os h
  exact rq [true]
 refine sk ?_
 refine sN ?_
 refine rs0 hc 1 [(0,sB a0),(1,sB b1),(5,I 0)] [] ?_
 refine bk 0 ?_
 obtain ⟨fl,a2,h⟩ := Qct h
 have hL := Kng _ _ a2 c hc
 refine lp ?_
 rcases fl with ⟨⟩ | r
 ·refine WpL.into (e := (.exit 0)) (mkS [] []) hL ?_
  refine Qc7 ?_
  refine rs0 hc 1 [(4,.bool true)] [] ?_
  refine rt ?_
  obtain rfl := os h
  exact rq [true]
 refine WpL.mono hL ?_
 rintro _ _ ⟨rfl,hfin⟩
 obtain rfl := os h
 exact ⟨.inl rfl,hfin⟩
def Knk (p : K00 × K00) : Option (Bool) :=
 match p with
 | (a0,b1) =>
  if (a0.fSize != b1.fSize) = true then
  some false
  else
  (Kn3 (a0.fPlus,b1.fPlus)) >>= fun a1 =>
  if a1 = true then
  (Kn3 (a0.fTimes,b1.fTimes)) >>= fun a2 =>
  if a2 = true then
  (Knh (a0.fBelow,b1.fBelow)) >>= fun a3 =>
  if a3 = true then
  some true
  else
  some false
  else
  some false
  else
  some false
def Knl (p : K00 × K00) (r : Bool) : Prop :=
 match p with
 | (a0,b1) => Q71 Tryz.prog 24 [K1t a0,K1t b1] (.bool r) []
theorem Knm : ∀ p r,Knk p = some r → Knl p r := by
 rintro ⟨a0,b1⟩ r h
 unfold Knk at h
 refine b0 Tryz.f24 B24 28 [(0,K1t a0),(1,K1t b1)] fun c hc => ?_
 refine rs hc none [some (.new 1),some (.new 2),oN] [(2,.ra 1 0),(3,.ra 2 0)] [(1,K1s a0),(2,K1s b1)] tv ?_
 refine sN ?_
 refine K89 hc 5 [(2,.ra 1 0),(3,.ra 2 0),(9,.bool (a0.fSize != b1.fSize))] ?_
 refine ic h (fun a1 h => ?_) fun a1 h => ?_
 ·refine rs0 hc 1 [(4,.bool false)] [] ?_
  refine rt ?_
  obtain rfl := os h
  exact rq [true]
 refine sk ?_
 refine sN ?_
 obtain ⟨a2,a3,h⟩ := Qct h
 refine rss hc none [oN,oN,oN,oN,oc (.bool a2),oN] [(2,.ra 1 0),(3,.ra 2 0),(15,.bool (!a2))] (cq (Kn5 _ _ a3) K7t tv) ?_
 rcases is h with ⟨a4,h⟩ | ⟨a4,h⟩
 ·refine cF (!a2) (nF a4) ?_
  refine sk ?_
  refine sN ?_
  obtain ⟨a5,a6,h⟩ := Qct h
  refine rss hc none [oN,oN,oN,oN,oc (.bool a5),oN] [(2,.ra 1 0),(3,.ra 2 0),(21,.bool (!a5))] (cq (Kn5 _ _ a6) K7t tv) ?_
  rcases is h with ⟨a7,h⟩ | ⟨a7,h⟩
  ·refine cF (!a5) (nF a7) ?_
   refine sk ?_
   refine sN ?_
   obtain ⟨a8,a9,h⟩ := Qct h
   refine rs hc none [oN,oN,oN,oN,oc (.bool a8),oN] [(27,.bool (!a8))] [] (cq (Knj _ _ a9) K7v tv) ?_
   rcases is h with ⟨b2,h⟩ | ⟨b2,h⟩
   ·refine cF (!a8) (nF b2) ?_
    refine sk ?_
    refine rs0 hc 1 [(4,.bool true)] [] ?_
    refine rt ?_
    obtain rfl := os h
    exact rq [true]
   refine cT (!a8) (nT b2) ?_
   refine rs0 hc 1 [(4,.bool false)] [] ?_
   refine rt ?_
   obtain rfl := os h
   exact rq [true]
  refine cT (!a5) (nT a7) ?_
  refine rs0 hc 1 [(4,.bool false)] [] ?_
  refine rt ?_
  obtain rfl := os h
  exact rq [true]
 refine cT (!a2) (nT a4) ?_
 refine rs0 hc 1 [(4,.bool false)] [] ?_
 refine rt ?_
 obtain rfl := os h
 exact rq [true]
def Knn (c : Ctx) : (Unit) ⊕ (Bool) → Exit → Q0a → Prop
 | .inl _ => Qcf c (.exit 0) (mkS [] [])
 | .inr r => Qco TIx Tryz.f79 [] (.bool r)
mutual
def Kno (p : K01 × K01) : Option (Bool) :=
 match p with
 | (a0,b1) =>
  if (a0.fOp != b1.fOp) = true then
  some false
  else
  if (a0.fN != b1.fN) = true then
  some false
  else
  (Kn3 (a0.fType,b1.fType)) >>= fun a1 =>
  if a1 = true then
  (Knp (a0.fKids,b1.fKids)) >>= fun a2 =>
  if a2 = true then
  some true
  else
  some false
  else
  some false
 partial_fixpoint
def Knp (p : (List K01) × (List K01)) : Option (Bool) :=
 match p with
 | (a0,b1) =>
  if ((a0.length : Int) != (b1.length : Int)) = true then
  some false
  else
  (Knq (a0,b1,0)) >>= fun fl => match fl with
  | .inl () =>
   some true
  | .inr r =>
   some r
 partial_fixpoint
def Knq (p : (List K01) × (List K01) × Int) : Option ((Unit) ⊕ (Bool)) :=
 match p with
 | (a0,b1,a1) =>
  if (decide (a1 < (a0.length : Int))) = true then
  (idx a0 a1) >>= fun a2 =>
  (idx b1 a1) >>= fun a3 =>
  (Kno (a2,a3)) >>= fun a4 =>
  if a4 = true then
  Knq (a0,b1,(wr (a1 + 1)))
  else
  some (.inr false)
  else
  some (.inl ())
 partial_fixpoint
end
def Knr (p : K01 × K01) (r : Bool) : Prop :=
 match p with
 | (a0,b1) => Q71 Tryz.prog 26 [K1v a0,K1v b1] (.bool r) []
def Kns (p : (List K01) × (List K01)) (r : Bool) : Prop :=
 match p with
 | (a0,b1) => Q71 Tryz.prog 79 [.sl (List.map K0g a0),.sl (List.map K0g b1)] (.bool r) []
def Knt (p : (List K01) × (List K01) × Int) (fl : (Unit) ⊕ (Bool)) : Prop :=
 match p with
 | (a0,b1,a1) => ∀ c : Ctx,c.nt = 27 → WpL Tryz.prog c (cl (cl (cr (cl (cr (cr B79)))))) (Knn c fl) (mkS [(0,.sl (List.map K0g a0)),(1,.sl (List.map K0g b1)),(5,I a1)] [])
theorem Knu : (∀ p r,Kno p = some r → Knr p r) ∧ (∀ p r,Knp p = some r → Kns p r) ∧ (∀ p r,Knq p = some r → Knt p r) := by
 refine Kno.mutual_partial_correctness Knr Kns Knt ?_ ?_ ?_
 ·rintro laws_eqTermS_f laws_eqTermS_ih ⟨a0,b1⟩ r h
  refine b0 Tryz.f26 B26 27 [(0,K1v a0),(1,K1v b1)] fun c hc => ?_
  refine rs hc none [some (.new 1),some (.new 2),oN] [(2,.ra 1 0),(3,.ra 2 0)] [(1,K1u a0),(2,K1u b1)] tv ?_
  refine sN ?_
  refine K89 hc 5 [(2,.ra 1 0),(3,.ra 2 0),(9,.bool (a0.fOp != b1.fOp))] ?_
  refine ic h (fun a1 h => ?_) fun a1 h => ?_
  ·refine rs0 hc 1 [(4,.bool false)] [] ?_
   refine rt ?_
   obtain rfl := os h
   exact rq [true]
  refine sk ?_
  refine sN ?_
  refine K89 hc 5 [(2,.ra 1 0),(3,.ra 2 0),(14,.bool (a0.fN != b1.fN))] ?_
  refine ic h (fun a2 h => ?_) fun a2 h => ?_
  ·refine rs0 hc 1 [(4,.bool false)] [] ?_
   refine rt ?_
   obtain rfl := os h
   exact rq [true]
  refine sk ?_
  refine sN ?_
  obtain ⟨a3,a4,h⟩ := Qct h
  refine rss hc none [oN,oN,oN,oN,oc (.bool a3),oN] [(2,.ra 1 0),(3,.ra 2 0),(20,.bool (!a3))] (cq (Kn5 _ _ a4) K7t tv) ?_
  rcases is h with ⟨a5,h⟩ | ⟨a5,h⟩
  ·refine cF (!a3) (nF a5) ?_
   refine sk ?_
   refine sN ?_
   obtain ⟨a6,a7,h⟩ := Qct h
   refine rs hc none [oN,oN,oN,oN,oc (.bool a6),oN] [(26,.bool (!a6))] [] (cq (laws_eqTermS_ih _ _ a7) K7x tv) ?_
   rcases is h with ⟨a8,h⟩ | ⟨a8,h⟩
   ·refine cF (!a6) (nF a8) ?_
    refine sk ?_
    refine rs0 hc 1 [(4,.bool true)] [] ?_
    refine rt ?_
    obtain rfl := os h
    exact rq [true]
   refine cT (!a6) (nT a8) ?_
   refine rs0 hc 1 [(4,.bool false)] [] ?_
   refine rt ?_
   obtain rfl := os h
   exact rq [true]
  refine cT (!a3) (nT a5) ?_
  refine rs0 hc 1 [(4,.bool false)] [] ?_
  refine rt ?_
  obtain rfl := os h
  exact rq [true]
 ·rintro laws_eqTermS_l0_f laws_eqTermS_l0_ih ⟨a0,b1⟩ r h
  refine b0 Tryz.f79 B79 27 [(0,.sl (List.map K0g a0)),(1,.sl (List.map K0g b1))] fun c hc => ?_
  refine rs0 hc 1 [(0,.sl (List.map K0g a0)),(1,.sl (List.map K0g b1))] [] ?_
  refine sN ?_
  refine rs hc none [oN,some (.eqv (.no) ⟨[(7,I (a0.length : Int))],[],[]⟩),oN,some (.eqv (.no) ⟨[(9,I (b1.length : Int))],[],[]⟩),oN] [(0,.sl (List.map K0g a0)),(1,.sl (List.map K0g b1)),(10,.bool ((a0.length : Int) != (b1.length : Int)))] [] (ab (Qcz (d := 7) K0g a0) (Qcz (d := 9) K0g b1) tv) ?_
  refine ic h (fun a1 h => ?_) fun a1 h => ?_
  ·refine rs0 hc 1 [(4,.bool false)] [] ?_
   refine rt ?_
   obtain rfl := os h
   exact rq [true]
  refine sk ?_
  refine sN ?_
  refine rs0 hc 1 [(0,.sl (List.map K0g a0)),(1,.sl (List.map K0g b1)),(5,I 0)] [] ?_
  refine bk 0 ?_
  obtain ⟨fl,a9,h⟩ := Qct h
  have hL := laws_eqTermS_l0_ih _ _ a9 c hc
  refine lp ?_
  rcases fl with ⟨⟩ | r
  ·refine WpL.into (e := (.exit 0)) (mkS [] []) hL ?_
   refine Qc7 ?_
   refine rs0 hc 1 [(4,.bool true)] [] ?_
   refine rt ?_
   obtain rfl := os h
   exact rq [true]
  refine WpL.mono hL ?_
  rintro _ _ ⟨rfl,hfin⟩
  obtain rfl := os h
  exact ⟨.inl rfl,hfin⟩
 ·rintro laws_eqTerm_f laws_eqTermS_l0_f laws_eqTerm_ih laws_eqTermS_l0_ih ⟨a0,b1,b2⟩ r h
  intro c hc
  refine WpL.step ?_
  refine sN ?_
  refine rs hc none [oN,oN,some (.eqv (.no) ⟨[(13,I (a0.length : Int))],[],[]⟩),oN] [(0,.sl (List.map K0g a0)),(1,.sl (List.map K0g b1)),(5,I b2),(14,.bool (decide (b2 < (a0.length : Int))))] [] (ai (Qcz (d := 13) K0g a0) tv) ?_
  refine ic h (fun b3 h => ?_) fun b3 h => ?_
  ·refine sk ?_
   refine sN ?_
   refine bk 1 ?_
   obtain ⟨b4,b5,b6,b7,b8,b9,h⟩ := bq3 h
   refine rs hc (rx [[0],[0],[2],[3],[0],[0],[0,4,5],[0,4,5,6],[8],[9]]) [oN,oN,some (.el (K1v b4)),oN,oN,oN,some (.el (K1v b6)),oN,oc (.bool b8),oN] [(0,.sl (List.map K0g a0)),(1,.sl (List.map K0g b1)),(5,I b2),(26,.bool (!b8))] [] (ab (Qcx b5 (K0n b4)) (Qcx b7 (K0n b6)) (cq (laws_eqTerm_ih _ _ b9) K7y tv)) ?_
   rcases is h with ⟨c0,h⟩ | ⟨c0,h⟩
   ·refine cF (!b8) (nF c0) ?_
    refine sk ?_
    refine rg0 hc 3 [(0,.sl (List.map K0g a0)),(1,.sl (List.map K0g b1)),(5,I (wr (b2 + 1)))] [] ?_
    refine Qcb ?_
    exact (laws_eqTermS_l0_ih _ _ h c hc)
   refine cT (!b8) (nT c0) ?_
   refine rs0 hc 1 [(4,.bool false)] [] ?_
   refine rt ?_
   obtain rfl := os h
   exact re [true]
  refine xt 0 ?_
  refine Qc5 ?_
  refine Qcc ?_
  obtain rfl := os h
  exact iv []
theorem Knv : ∀ p r,Kno p = some r → Knr p r := Knu.1
theorem Knw : ∀ p r,Knp p = some r → Kns p r := Knu.2.1
theorem Knx : ∀ p r,Knq p = some r → Knt p r := Knu.2.2
def Kny (c : Ctx) : Int × (List Int) → Exit → Q0a → Prop
 | (a0,a1) => Qcf c (.exit 0) (mkS [(1,I a0)] [(1000,rI a1)])
def Knz (p : (List Int) × Int × Int) : Option (Int × (List Int)) :=
 match p with
 | (a0,a1,a2) =>
  if (decide (a2 < (a0.length : Int))) = true then
  (idx a0 a2) >>= fun a3 =>
  Knz ((List.set a0 (Int.toNat a2) a1),(wr (a1 + 1)),(wr (a2 + 1)))
  else
  some ((a1,a0))
 partial_fixpoint
def Ko0 (p : (List Int) × Int × Int) (fl : Int × (List Int)) : Prop :=
 match p with
 | (a0,a1,a2) => ∀ c : Ctx,c.nt = 19 → WpL Tryz.prog c (cl (cl (cr (cl (cr B30))))) (Kny c fl) (mkS [(0,.rs 1000),(1,I a1),(5,I a2)] [(1000,rI a0)])
theorem Ko1 : ∀ p r,Knz p = some r → Ko0 p r := by
 refine Knz.partial_correctness Ko0 ?_
 rintro laws_markIntS_l0_f laws_markIntS_l0_ih ⟨a0,a1,a2⟩ r h
 intro c hc
 refine WpL.step ?_
 refine sN ?_
 refine rss hc none [oN,oN,some (.eqv (.no) ⟨[(8,I (a0.length : Int))],[],[]⟩),oN] [(0,.rs 1000),(1,I a1),(5,I a2),(9,.bool (decide (a2 < (a0.length : Int))))] (ai (Qcz (d := 8) I a0) tv) ?_
 refine ic h (fun a3 h => ?_) fun a3 h => ?_
 ·refine sk ?_
  refine sN ?_
  refine bk 1 ?_
  obtain ⟨a4,a5,h⟩ := Qct h
  refine rs hc none [oN,oN,oN,oN,some (.eqv (.mk 0 true) ⟨[],[(1000,some (.arr (List.map I (List.set a0 (Int.toNat a2) a1))))],[]⟩)] [(0,.rs 1000),(1,I a1),(5,I a2)] [(1000,.arr (List.map I (List.set a0 (Int.toNat a2) a1)))] (ac (Qcy (enc := I) a5) (congrArg (fun z => (⟨[],[(1000,some (.arr z))],[]⟩ : Wr)) (Qdw (enc := I) (i := Int.toNat a2) (l := a0) (v := a1) (x := I a1) (Qd8 a1))) (Qdx (enc := I) (sz := 1) Qdc a5) tv) ?_
  refine K88 hc 3 [(0,.rs 1000),(1,I (wr (a1 + 1))),(5,I a2)] ?_
  refine K88 hc 3 [(0,.rs 1000),(1,I (wr (a1 + 1))),(5,I (wr (a2 + 1)))] ?_
  refine Qcb ?_
  exact (laws_markIntS_l0_ih _ _ h c hc)
 refine xt 0 ?_
 refine Qc5 ?_
 refine Qcc ?_
 obtain ⟨rfl,rfl⟩ := Prod.mk.inj (Option.some.inj h)
 exact iv []
def Ko2 (p : (List Int) × Int) : Option (Int × (List Int)) :=
 match p with
 | (a0,k1) =>
  (Knz (a0,k1,0)) >>= fun (a1,a2) =>
  some (a1,a2)
def Ko3 (p : (List Int) × Int) (r : Int × (List Int)) : Prop :=
 match p with
 | (a0,k1) => Q71 Tryz.prog 30 [oI a0,I k1] (I r.1) [oI r.2,.undef]
theorem Ko4 : ∀ p r,Ko2 p = some r → Ko3 p r := by
 rintro ⟨a0,k1⟩ r h
 unfold Ko2 at h
 refine Q71.bodyO K2w (fn := Tryz.f30) (code := B30) (by kernel_rfl) (by kernel_rfl) (by kernel_rfl) (nt := 19) (by kernel_rfl) (by kernel_rfl) (T := [(0,.rs 1000),(1,I k1)]) (O := [(1000,rI a0)]) (by kernel_rfl) (by kernel_rfl) (fun c hc => ?_)
 refine K89 hc 1 [(0,.rs 1000),(1,I k1)] ?_
 refine sN ?_
 refine K89 hc 1 [(0,.rs 1000),(1,I k1),(5,I 0)] ?_
 refine bk 0 ?_
 obtain ⟨⟨a1,a2⟩,a3,h⟩ := Qct h
 have hL := Ko1 _ _ a3 c hc
 refine lp ?_
 refine WpL.into (e := (.exit 0)) (mkS [(1,I a1)] [(1000,rI a2)]) hL ?_
 refine Qc7 ?_
 refine K89 hc 2 [(4,I a1)] ?_
 refine rt ?_
 obtain rfl := os h
 exact Qcq.ret (fl := [true]) (by kernel_rfl)
def Ko5 (c : Ctx) : Int × (List Bool) → Exit → Q0a → Prop
 | (a0,a1) => Qcf c (.exit 0) (mkS [(1,I a0)] [(1000,.arr (List.map AV.bool a1))])
def Ko6 (p : (List Bool) × Int × Int) : Option (Int × (List Bool)) :=
 match p with
 | (a0,a1,a2) =>
  if (decide (a2 < (a0.length : Int))) = true then
  (idx a0 a2) >>= fun a3 =>
  Ko6 ((List.set a0 (Int.toNat a2) ((Int.tmod a1 3) == 0)),(wr (a1 + 1)),(wr (a2 + 1)))
  else
  some ((a1,a0))
 partial_fixpoint
def Ko7 (p : (List Bool) × Int × Int) (fl : Int × (List Bool)) : Prop :=
 match p with
 | (a0,a1,a2) => ∀ c : Ctx,c.nt = 21 → WpL Tryz.prog c (cl (cl (cr (cl (cr B80))))) (Ko5 c fl) (mkS [(0,.rs 1000),(1,I a1),(5,I a2)] [(1000,.arr (List.map AV.bool a0))])
theorem Ko8 : ∀ p r,Ko6 p = some r → Ko7 p r := by
 refine Ko6.partial_correctness Ko7 ?_
 rintro laws_markBoolS_l0_f laws_markBoolS_l0_ih ⟨a0,a1,a2⟩ r h
 intro c hc
 refine WpL.step ?_
 refine sN ?_
 refine rss hc none [oN,oN,some (.eqv (.no) ⟨[(8,I (a0.length : Int))],[],[]⟩),oN] [(0,.rs 1000),(1,I a1),(5,I a2),(9,.bool (decide (a2 < (a0.length : Int))))] (ai (Qcz (d := 8) AV.bool a0) tv) ?_
 refine ic h (fun a3 h => ?_) fun a3 h => ?_
 ·refine sk ?_
  refine sN ?_
  refine bk 1 ?_
  obtain ⟨a4,a5,h⟩ := Qct h
  refine rs hc none [oN,oN,oN,oN,oN,oN,some (.eqv (.mk 0 true) ⟨[],[(1000,some (.arr (List.map AV.bool (List.set a0 (Int.toNat a2) ((Int.tmod a1 3) == 0)))))],[]⟩)] [(0,.rs 1000),(1,I a1),(5,I a2)] [(1000,.arr (List.map AV.bool (List.set a0 (Int.toNat a2) ((Int.tmod a1 3) == 0))))] (ad ((by decide) : (3 : Int) ≠ 0) (Qcy (enc := AV.bool) a5) (congrArg (fun z => (⟨[],[(1000,some (.arr z))],[]⟩ : Wr)) (Qdw (enc := AV.bool) (i := Int.toNat a2) (l := a0) (v := ((Int.tmod a1 3) == 0)) (x := AV.bool ((Int.tmod a1 3) == 0)) (Qda ((Int.tmod a1 3) == 0)))) (Qdx (enc := AV.bool) (sz := 1) Qde a5) tv) ?_
  refine K88 hc 3 [(0,.rs 1000),(1,I (wr (a1 + 1))),(5,I a2)] ?_
  refine K88 hc 3 [(0,.rs 1000),(1,I (wr (a1 + 1))),(5,I (wr (a2 + 1)))] ?_
  refine Qcb ?_
  exact (laws_markBoolS_l0_ih _ _ h c hc)
 refine xt 0 ?_
 refine Qc5 ?_
 refine Qcc ?_
 obtain ⟨rfl,rfl⟩ := Prod.mk.inj (Option.some.inj h)
 exact iv []
def Ko9 (p : (List Bool) × Int) : Option (Int × (List Bool)) :=
 match p with
 | (a0,k1) =>
  (Ko6 (a0,k1,0)) >>= fun (a1,a2) =>
  some (a1,a2)
def Koa (p : (List Bool) × Int) (r : Int × (List Bool)) : Prop :=
 match p with
 | (a0,k1) => Q71 Tryz.prog 80 [.osl (List.map AV.bool a0),I k1] (I r.1) [.osl (List.map AV.bool r.2),.undef]
theorem Kob : ∀ p r,Ko9 p = some r → Koa p r := by
 rintro ⟨a0,k1⟩ r h
 unfold Ko9 at h
 refine Q71.bodyO K2w (fn := Tryz.f80) (code := B80) (by kernel_rfl) (by kernel_rfl) (by kernel_rfl) (nt := 21) (by kernel_rfl) (by kernel_rfl) (T := [(0,.rs 1000),(1,I k1)]) (O := [(1000,.arr (List.map AV.bool a0))]) (by kernel_rfl) (by kernel_rfl) (fun c hc => ?_)
 refine K89 hc 1 [(0,.rs 1000),(1,I k1)] ?_
 refine sN ?_
 refine K89 hc 1 [(0,.rs 1000),(1,I k1),(5,I 0)] ?_
 refine bk 0 ?_
 obtain ⟨⟨a1,a2⟩,a3,h⟩ := Qct h
 have hL := Ko8 _ _ a3 c hc
 refine lp ?_
 refine WpL.into (e := (.exit 0)) (mkS [(1,I a1)] [(1000,.arr (List.map AV.bool a2))]) hL ?_
 refine Qc7 ?_
 refine K89 hc 2 [(4,I a1)] ?_
 refine rt ?_
 obtain rfl := os h
 exact Qcq.ret (fl := [true]) (by kernel_rfl)
def Koc (p : K00 × Int) : Option (Int × K00) :=
 match p with
 | (a0,k1) =>
  (Ko2 (a0.fPlus,k1)) >>= fun (a1,a2) =>
  (Ko2 (a0.fTimes,a1)) >>= fun (a3,a4) =>
  (Ko9 (a0.fBelow,a3)) >>= fun (a5,a6) =>
  some (a5,(K00.mk a0.fSize a2 a4 a6))
def Kod (p : K00 × Int) (r : Int × K00) : Prop :=
 match p with
 | (a0,k1) => Q71 Tryz.prog 27 [K22 a0,I k1] (I r.1) [.agg [.undef,.osl (List.map I r.2.fPlus),.osl (List.map I r.2.fTimes),.osl (List.map AV.bool r.2.fBelow)],.undef]
theorem Koe : ∀ p r,Koc p = some r → Kod p r := by
 rintro ⟨a0,k1⟩ r h
 unfold Koc at h
 refine Q71.bodyO K2w (fn := Tryz.f27) (code := B27) (by kernel_rfl) (by kernel_rfl) (by kernel_rfl) (nt := 18) (by kernel_rfl) (by kernel_rfl) (T := [(0,.agg [I a0.fSize,.rs 1000,.rs 1001,.rs 1002]),(1,I k1)]) (O := [(1000,rI a0.fPlus),(1001,rI a0.fTimes),(1002,.arr (List.map AV.bool a0.fBelow))]) (by kernel_rfl) (by kernel_rfl) (fun c hc => ?_)
 refine rs hc none [some (.new 1),oN] [(1,I k1),(2,.ra 1 0)] [(1,.box [I a0.fSize,.rs 1000,.rs 1001,.rs 1002]),(1000,rI a0.fPlus),(1001,rI a0.fTimes),(1002,.arr (List.map AV.bool a0.fBelow))] tv ?_
 obtain ⟨⟨a1,a2⟩,a3,h⟩ := Qct h
 refine rs hc none [oN,oN,oN,some (.call (I a1) [oI a2,.undef] 1),oN] [(1,I a1),(2,.ra 1 0)] [(1,.box [I a0.fSize,.rs 1000,.rs 1001,.rs 1002]),(1000,rI a2),(1001,rI a0.fTimes),(1002,.arr (List.map AV.bool a0.fBelow))] (ab (Ko4 _ _ a3) K7z tv) ?_
 obtain ⟨⟨a4,a5⟩,a6,h⟩ := Qct h
 refine rs hc none [oN,oN,oN,some (.call (I a4) [oI a5,.undef] 1),oN] [(1,I a4),(2,.ra 1 0)] [(1,.box [I a0.fSize,.rs 1000,.rs 1001,.rs 1002]),(1000,rI a2),(1001,rI a5),(1002,.arr (List.map AV.bool a0.fBelow))] (ab (Ko4 _ _ a6) K7z tv) ?_
 obtain ⟨⟨a7,a8⟩,a9,h⟩ := Qct h
 refine rs hc none [oN,oN,oN,some (.call (I a7) [.osl (List.map AV.bool a8),.undef] 1),oN] [(1,I a7)] [(1000,rI a2),(1001,rI a5),(1002,.arr (List.map AV.bool a8))] (ab (Kob _ _ a9) K80 tv) ?_
 refine K89 hc 2 [(4,I a7)] ?_
 refine rt ?_
 obtain rfl := os h
 exact Qcq.ret (fl := [true]) (by kernel_rfl)
def Kof (c : Ctx) : Int × LL → Exit → Q0a → Prop
 | (a0,a1) => Qcf c (.exit 0) (mkS [(1,I a0)] [(1000,.arr (List.map K15 a1))])
def Kog (p : LL × Int × Int) : Option (Int × LL) :=
 match p with
 | (a0,a1,a2) =>
  if (decide (a2 < (a0.length : Int))) = true then
  (idx a0 a2) >>= fun a3 =>
  (Ko2 (a3,a1)) >>= fun (a4,a5) =>
  Kog ((List.set a0 (Int.toNat a2) a5),a4,(wr (a2 + 1)))
  else
  some ((a1,a0))
 partial_fixpoint
def Koh (p : LL × Int × Int) (fl : Int × LL) : Prop :=
 match p with
 | (a0,a1,a2) => ∀ c : Ctx,c.nt = 19 → WpL Tryz.prog c (cl (cl (cr (cl (cr B28))))) (Kof c fl) (mkS [(0,.rs 1000),(1,I a1),(5,I a2)] [(1000,.arr (List.map K15 a0))])
theorem Koi : ∀ p r,Kog p = some r → Koh p r := by
 refine Kog.partial_correctness Koh ?_
 rintro laws_markIntSS_l0_f laws_markIntSS_l0_ih ⟨a0,a1,a2⟩ r h
 intro c hc
 refine WpL.step ?_
 refine sN ?_
 refine rss hc none [oN,oN,some (.eqv (.no) ⟨[(8,I (a0.length : Int))],[],[]⟩),oN] [(0,.rs 1000),(1,I a1),(5,I a2),(9,.bool (decide (a2 < (a0.length : Int))))] (ai (Qcz (d := 8) K15 a0) tv) ?_
 refine ic h (fun a3 h => ?_) fun a3 h => ?_
 ·refine sk ?_
  refine sN ?_
  refine bk 1 ?_
  obtain ⟨a4,a5,h⟩ := Qct h
  refine Wp.view (fun a w hv => SRx.openL 1000 (Int.toNat a2) 0 2 [2,1000] (xs := List.map K15 a0) (ys := List.map I a4) (x0 := oI a4) hv (by kernel_rfl) (Qcx a5 (K16 a4)).2 (by kernel_rfl) (by kernel_rfl) (by kernel_rfl)) (?_ : Wp Tryz.prog c _ _ (mkS [(0,.rs 1000),(1,I a1),(5,I a2),(9,.bool (decide (a2 < (a0.length : Int))))] [(2,rI a4),(1000,.arx (List.map K15 a0) (Int.toNat a2) 0 2)]))
  obtain ⟨⟨a6,a7⟩,a8,h⟩ := Qct h
  refine rg hc none [oN,oN,oN,some (.el (oI a4)),oN,some (.call (I a6) [oI a7,.undef] 1),oN] [(0,.rs 1000),(1,I a6),(5,I a2)] [(2,rI a7),(1000,.arx (List.map K15 a0) (Int.toNat a2) 0 2)] (ad (Qcy (enc := K15) a5) (And.intro (Qcx a5 (K16 a4)).2 (rfl : Int.toNat a2 = Int.toNat a2)) (Ko4 _ _ a8) K7z tv) ?_
  refine Wp.view (fun a w hv => SRx.closeL 1000 (Int.toNat a2) 0 2 [1000] (xs := List.map K15 a0) (ys := List.map I a7) (x0 := oI a4) (x1 := oI a7) hv (by kernel_rfl) (by kernel_rfl) (by kernel_rfl) (Qcx a5 (K16 a4)).2 (by kernel_rfl) (by kernel_rfl : _ = oI a7) (Qdw (enc := K15) (i := Int.toNat a2) (l := a0) (v := a7) (x := oI a7) (K16 a7)) (by kernel_rfl)) (?_ : Wp Tryz.prog c _ _ (mkS [(0,.rs 1000),(1,I a6),(5,I a2)] [(1000,.arr (List.map K15 (List.set a0 (Int.toNat a2) a7)))]))
  refine K88 hc 3 [(0,.rs 1000),(1,I a6),(5,I (wr (a2 + 1)))] ?_
  refine Qcb ?_
  exact (laws_markIntSS_l0_ih _ _ h c hc)
 refine xt 0 ?_
 refine Qc5 ?_
 refine Qcc ?_
 obtain ⟨rfl,rfl⟩ := Prod.mk.inj (Option.some.inj h)
 exact iv []
def Koj (p : LL × Int) : Option (Int × LL) :=
 match p with
 | (a0,k1) =>
  (Kog (a0,k1,0)) >>= fun (a1,a2) =>
  some (a1,a2)
def Kok (p : LL × Int) (r : Int × LL) : Prop :=
 match p with
 | (a0,k1) => Q71 Tryz.prog 28 [.osl (List.map K15 a0),I k1] (I r.1) [.osl (List.map K15 r.2),.undef]
theorem Kol : ∀ p r,Koj p = some r → Kok p r := by
 rintro ⟨a0,k1⟩ r h
 unfold Koj at h
 refine Q71.bodyO K2w (fn := Tryz.f28) (code := B28) (by kernel_rfl) (by kernel_rfl) (by kernel_rfl) (nt := 19) (by kernel_rfl) (by kernel_rfl) (T := [(0,.rs 1000),(1,I k1)]) (O := [(1000,.arr (List.map K15 a0))]) (by kernel_rfl) (by kernel_rfl) (fun c hc => ?_)
 refine K89 hc 1 [(0,.rs 1000),(1,I k1)] ?_
 refine sN ?_
 refine K89 hc 1 [(0,.rs 1000),(1,I k1),(5,I 0)] ?_
 refine bk 0 ?_
 obtain ⟨⟨a1,a2⟩,a3,h⟩ := Qct h
 have hL := Koi _ _ a3 c hc
 refine lp ?_
 refine WpL.into (e := (.exit 0)) (mkS [(1,I a1)] [(1000,.arr (List.map K15 a2))]) hL ?_
 refine Qc7 ?_
 refine K89 hc 2 [(4,I a1)] ?_
 refine rt ?_
 obtain rfl := os h
 exact Qcq.ret (fl := [true]) (by kernel_rfl)
def Kom (c : Ctx) : Int × (List K01) → Exit → Q0a → Prop
 | (a0,a1) => Qcf c (.exit 0) (mkS [(1,I a0)] [(1000,.arr (List.map K0j a1))])
mutual
def Kon (p : (List K01) × Int) : Option (Int × (List K01)) :=
 match p with
 | (a0,k1) =>
  (Koo (a0,k1,0)) >>= fun (a1,a2) =>
  some (a1,a2)
 partial_fixpoint
def Koo (p : (List K01) × Int × Int) : Option (Int × (List K01)) :=
 match p with
 | (a0,a1,a2) =>
  if (decide (a2 < (a0.length : Int))) = true then
  (idx a0 a2) >>= fun a3 =>
  (idx (List.set a0 (Int.toNat a2) (K01.mk a1 a3.fN a3.fType a3.fKids)) a2) >>= fun a4 =>
  (idx (List.set (List.set a0 (Int.toNat a2) (K01.mk a1 a3.fN a3.fType a3.fKids)) (Int.toNat a2) (K01.mk a4.fOp (wr (a1 + 1)) a4.fType a4.fKids)) a2) >>= fun a5 =>
  (Ko2 (a5.fType,(wr ((wr (a1 + 1)) + 1)))) >>= fun (a6,a7) =>
  (idx (List.set (List.set (List.set a0 (Int.toNat a2) (K01.mk a1 a3.fN a3.fType a3.fKids)) (Int.toNat a2) (K01.mk a4.fOp (wr (a1 + 1)) a4.fType a4.fKids)) (Int.toNat a2) (K01.mk a5.fOp a5.fN a7 a5.fKids)) a2) >>= fun a8 =>
  (Kon (a8.fKids,a6)) >>= fun (a9,b1) =>
  Koo ((List.set (List.set (List.set (List.set a0 (Int.toNat a2) (K01.mk a1 a3.fN a3.fType a3.fKids)) (Int.toNat a2) (K01.mk a4.fOp (wr (a1 + 1)) a4.fType a4.fKids)) (Int.toNat a2) (K01.mk a5.fOp a5.fN a7 a5.fKids)) (Int.toNat a2) (K01.mk a8.fOp a8.fN a8.fType b1)),a9,(wr (a2 + 1)))
  else
  some ((a1,a0))
 partial_fixpoint
end
def Kop (p : (List K01) × Int) (r : Int × (List K01)) : Prop :=
 match p with
 | (a0,k1) => Q71 Tryz.prog 81 [.osl (List.map K0j a0),I k1] (I r.1) [.osl (List.map K0j r.2),.undef]
def Koq (p : (List K01) × Int × Int) (fl : Int × (List K01)) : Prop :=
 match p with
 | (a0,a1,a2) => ∀ c : Ctx,c.nt = 41 → WpL Tryz.prog c (cl (cl (cr (cl (cr B81))))) (Kom c fl) (mkS [(0,.rs 1000),(1,I a1),(5,I a2)] [(1000,.arr (List.map K0j a0))])
theorem Kor : (∀ p r,Kon p = some r → Kop p r) ∧ (∀ p r,Koo p = some r → Koq p r) := by
 refine Kon.mutual_partial_correctness Kop Koq ?_ ?_
 ·rintro laws_markTermS_l0_f laws_markTermS_l0_ih ⟨a0,k1⟩ r h
  refine Q71.bodyO K2w (fn := Tryz.f81) (code := B81) (by kernel_rfl) (by kernel_rfl) (by kernel_rfl) (nt := 41) (by kernel_rfl) (by kernel_rfl) (T := [(0,.rs 1000),(1,I k1)]) (O := [(1000,.arr (List.map K0j a0))]) (by kernel_rfl) (by kernel_rfl) (fun c hc => ?_)
  refine K89 hc 1 [(0,.rs 1000),(1,I k1)] ?_
  refine sN ?_
  refine K89 hc 1 [(0,.rs 1000),(1,I k1),(5,I 0)] ?_
  refine bk 0 ?_
  obtain ⟨⟨a1,a2⟩,a3,h⟩ := Qct h
  have hL := laws_markTermS_l0_ih _ _ a3 c hc
  refine lp ?_
  refine WpL.into (e := (.exit 0)) (mkS [(1,I a1)] [(1000,.arr (List.map K0j a2))]) hL ?_
  refine Qc7 ?_
  refine K89 hc 2 [(4,I a1)] ?_
  refine rt ?_
  obtain rfl := os h
  exact Qcq.ret (fl := [true]) (by kernel_rfl)
 ·rintro laws_markTermS_f laws_markTermS_l0_f laws_markTermS_ih laws_markTermS_l0_ih ⟨a4,a5,a6⟩ r h
  intro c hc
  refine WpL.step ?_
  refine sN ?_
  refine rss hc none [oN,oN,some (.eqv (.no) ⟨[(8,I (a4.length : Int))],[],[]⟩),oN] [(0,.rs 1000),(1,I a5),(5,I a6),(9,.bool (decide (a6 < (a4.length : Int))))] (ai (Qcz (d := 8) K0j a4) tv) ?_
  refine ic h (fun a7 h => ?_) fun a7 h => ?_
  ·refine sk ?_
   refine sN ?_
   refine bk 1 ?_
   obtain ⟨a8,a9,h⟩ := Qct h
   refine rs hc none [oN,oN,oN,oN,oN,some (.eqv (.el (K24 a8)) ⟨[],[(1000,some (.arr (List.map K0j (List.set a4 (Int.toNat a6) (K01.mk a5 a8.fN a8.fType a8.fKids)))))],[]⟩)] [(0,.rs 1000),(1,I a5),(5,I a6)] [(1000,.arr (List.map K0j (List.set a4 (Int.toNat a6) (K01.mk a5 a8.fN a8.fType a8.fKids))))] (ac (Qcy (enc := K0j) a9) (congrArg (fun z => (⟨[],[(1000,some (.arr z))],[]⟩ : Wr)) (Qdw (enc := K0j) (i := Int.toNat a6) (l := a4) (v := (K01.mk a5 a8.fN a8.fType a8.fKids)) (x := AV.agg [I a5,I a8.fN,oI a8.fType,.osl (List.map K0j a8.fKids)]) (K0p (K01.mk a5 a8.fN a8.fType a8.fKids)))) (Qcx a9 (K0p a8)).2 tv) ?_
   refine K89 hc 3 [(0,.rs 1000),(1,I (wr (a5 + 1))),(5,I a6)] ?_
   obtain ⟨b1,b2,h⟩ := Qct h
   refine rs hc none [oN,oN,oN,oN,oN,some (.eqv (.el (K24 b1)) ⟨[],[(1000,some (.arr (List.map K0j (List.set (List.set a4 (Int.toNat a6) (K01.mk a5 a8.fN a8.fType a8.fKids)) (Int.toNat a6) (K01.mk b1.fOp (wr (a5 + 1)) b1.fType b1.fKids)))))],[]⟩)] [(0,.rs 1000),(1,I (wr (a5 + 1))),(5,I a6)] [(1000,.arr (List.map K0j (List.set (List.set a4 (Int.toNat a6) (K01.mk a5 a8.fN a8.fType a8.fKids)) (Int.toNat a6) (K01.mk b1.fOp (wr (a5 + 1)) b1.fType b1.fKids))))] (ac (Qcy (enc := K0j) b2) (congrArg (fun z => (⟨[],[(1000,some (.arr z))],[]⟩ : Wr)) (Qdw (enc := K0j) (i := Int.toNat a6) (l := (List.set a4 (Int.toNat a6) (K01.mk a5 a8.fN a8.fType a8.fKids))) (v := (K01.mk b1.fOp (wr (a5 + 1)) b1.fType b1.fKids)) (x := AV.agg [I b1.fOp,I (wr (a5 + 1)),oI b1.fType,.osl (List.map K0j b1.fKids)]) (K0p (K01.mk b1.fOp (wr (a5 + 1)) b1.fType b1.fKids)))) (Qcx b2 (K0p b1)).2 tv) ?_
   refine K89 hc 3 [(0,.rs 1000),(1,I (wr ((wr (a5 + 1)) + 1))),(5,I a6)] ?_
   refine sN ?_
   obtain ⟨b3,b4,h⟩ := Qct h
   refine Wp.view (fun a w hv => SRx.openL 1000 (Int.toNat a6) 2 3 [3,1000] (xs := List.map K0j (List.set (List.set a4 (Int.toNat a6) (K01.mk a5 a8.fN a8.fType a8.fKids)) (Int.toNat a6) (K01.mk b1.fOp (wr (a5 + 1)) b1.fType b1.fKids))) (ys := List.map I b3.fType) (x0 := K24 b3) hv (by kernel_rfl) (Qcx b4 (K0p b3)).2 (by kernel_rfl) (by kernel_rfl) (by kernel_rfl)) (?_ : Wp Tryz.prog c _ _ (mkS [(0,.rs 1000),(1,I (wr ((wr (a5 + 1)) + 1))),(5,I a6)] [(3,rI b3.fType),(1000,.arx (List.map K0j (List.set (List.set a4 (Int.toNat a6) (K01.mk a5 a8.fN a8.fType a8.fKids)) (Int.toNat a6) (K01.mk b1.fOp (wr (a5 + 1)) b1.fType b1.fKids))) (Int.toNat a6) 2 3)]))
   obtain ⟨⟨b5,b6⟩,b7,h⟩ := Qct h
   refine rg hc none [oN,oN,oN,oN,some (.el (K24 b3)),oN,some (.call (I b5) [oI b6,.undef] 1),oN] [(0,.rs 1000),(1,I b5),(5,I a6)] [(3,rI b6),(1000,.arx (List.map K0j (List.set (List.set a4 (Int.toNat a6) (K01.mk a5 a8.fN a8.fType a8.fKids)) (Int.toNat a6) (K01.mk b1.fOp (wr (a5 + 1)) b1.fType b1.fKids))) (Int.toNat a6) 2 3)] (ad (Qcy (enc := K0j) b4) (And.intro (Qcx b4 (K0p b3)).2 (rfl : Int.toNat a6 = Int.toNat a6)) (Ko4 _ _ b7) K7z tv) ?_
   refine Wp.view (fun a w hv => SRx.closeL 1000 (Int.toNat a6) 2 3 [1000] (xs := List.map K0j (List.set (List.set a4 (Int.toNat a6) (K01.mk a5 a8.fN a8.fType a8.fKids)) (Int.toNat a6) (K01.mk b1.fOp (wr (a5 + 1)) b1.fType b1.fKids))) (ys := List.map I b6) (x0 := K24 b3) (x1 := AV.agg [I b3.fOp,I b3.fN,oI b6,.osl (List.map K0j b3.fKids)]) hv (by kernel_rfl) (by kernel_rfl) (by kernel_rfl) (Qcx b4 (K0p b3)).2 (by kernel_rfl) (by kernel_rfl : _ = AV.agg [I b3.fOp,I b3.fN,oI b6,.osl (List.map K0j b3.fKids)]) (Qdw (enc := K0j) (i := Int.toNat a6) (l := (List.set (List.set a4 (Int.toNat a6) (K01.mk a5 a8.fN a8.fType a8.fKids)) (Int.toNat a6) (K01.mk b1.fOp (wr (a5 + 1)) b1.fType b1.fKids))) (v := (K01.mk b3.fOp b3.fN b6 b3.fKids)) (x := AV.agg [I b3.fOp,I b3.fN,oI b6,.osl (List.map K0j b3.fKids)]) (K0p (K01.mk b3.fOp b3.fN b6 b3.fKids))) (by kernel_rfl)) (?_ : Wp Tryz.prog c _ _ (mkS [(0,.rs 1000),(1,I b5),(5,I a6)] [(1000,.arr (List.map K0j (List.set (List.set (List.set a4 (Int.toNat a6) (K01.mk a5 a8.fN a8.fType a8.fKids)) (Int.toNat a6) (K01.mk b1.fOp (wr (a5 + 1)) b1.fType b1.fKids)) (Int.toNat a6) (K01.mk b3.fOp b3.fN b6 b3.fKids))))]))
   obtain ⟨b8,b9,h⟩ := Qct h
   refine Wp.view (fun a w hv => SRx.openL 1000 (Int.toNat a6) 3 4 [4,1000] (xs := List.map K0j (List.set (List.set (List.set a4 (Int.toNat a6) (K01.mk a5 a8.fN a8.fType a8.fKids)) (Int.toNat a6) (K01.mk b1.fOp (wr (a5 + 1)) b1.fType b1.fKids)) (Int.toNat a6) (K01.mk b3.fOp b3.fN b6 b3.fKids))) (ys := List.map K0j b8.fKids) (x0 := K24 b8) hv (by kernel_rfl) (Qcx b9 (K0p b8)).2 (by kernel_rfl) (by kernel_rfl) (by kernel_rfl)) (?_ : Wp Tryz.prog c _ _ (mkS [(0,.rs 1000),(1,I b5),(5,I a6)] [(4,.arr (List.map K0j b8.fKids)),(1000,.arx (List.map K0j (List.set (List.set (List.set a4 (Int.toNat a6) (K01.mk a5 a8.fN a8.fType a8.fKids)) (Int.toNat a6) (K01.mk b1.fOp (wr (a5 + 1)) b1.fType b1.fKids)) (Int.toNat a6) (K01.mk b3.fOp b3.fN b6 b3.fKids))) (Int.toNat a6) 3 4)]))
   obtain ⟨⟨c0,c1⟩,c2,h⟩ := Qct h
   refine rg hc none [oN,oN,oN,oN,some (.el (K24 b8)),oN,some (.call (I c0) [.osl (List.map K0j c1),.undef] 1),oN] [(0,.rs 1000),(1,I c0),(5,I a6)] [(4,.arr (List.map K0j c1)),(1000,.arx (List.map K0j (List.set (List.set (List.set a4 (Int.toNat a6) (K01.mk a5 a8.fN a8.fType a8.fKids)) (Int.toNat a6) (K01.mk b1.fOp (wr (a5 + 1)) b1.fType b1.fKids)) (Int.toNat a6) (K01.mk b3.fOp b3.fN b6 b3.fKids))) (Int.toNat a6) 3 4)] (ad (Qcy (enc := K0j) b9) (And.intro (Qcx b9 (K0p b8)).2 (rfl : Int.toNat a6 = Int.toNat a6)) (laws_markTermS_ih _ _ c2) K83 tv) ?_
   refine Wp.view (fun a w hv => SRx.closeL 1000 (Int.toNat a6) 3 4 [1000] (xs := List.map K0j (List.set (List.set (List.set a4 (Int.toNat a6) (K01.mk a5 a8.fN a8.fType a8.fKids)) (Int.toNat a6) (K01.mk b1.fOp (wr (a5 + 1)) b1.fType b1.fKids)) (Int.toNat a6) (K01.mk b3.fOp b3.fN b6 b3.fKids))) (ys := List.map K0j c1) (x0 := K24 b8) (x1 := AV.agg [I b8.fOp,I b8.fN,oI b8.fType,.osl (List.map K0j c1)]) hv (by kernel_rfl) (by kernel_rfl) (by kernel_rfl) (Qcx b9 (K0p b8)).2 (by kernel_rfl) (by kernel_rfl : _ = AV.agg [I b8.fOp,I b8.fN,oI b8.fType,.osl (List.map K0j c1)]) (Qdw (enc := K0j) (i := Int.toNat a6) (l := (List.set (List.set (List.set a4 (Int.toNat a6) (K01.mk a5 a8.fN a8.fType a8.fKids)) (Int.toNat a6) (K01.mk b1.fOp (wr (a5 + 1)) b1.fType b1.fKids)) (Int.toNat a6) (K01.mk b3.fOp b3.fN b6 b3.fKids))) (v := (K01.mk b8.fOp b8.fN b8.fType c1)) (x := AV.agg [I b8.fOp,I b8.fN,oI b8.fType,.osl (List.map K0j c1)]) (K0p (K01.mk b8.fOp b8.fN b8.fType c1))) (by kernel_rfl)) (?_ : Wp Tryz.prog c _ _ (mkS [(0,.rs 1000),(1,I c0),(5,I a6)] [(1000,.arr (List.map K0j (List.set (List.set (List.set (List.set a4 (Int.toNat a6) (K01.mk a5 a8.fN a8.fType a8.fKids)) (Int.toNat a6) (K01.mk b1.fOp (wr (a5 + 1)) b1.fType b1.fKids)) (Int.toNat a6) (K01.mk b3.fOp b3.fN b6 b3.fKids)) (Int.toNat a6) (K01.mk b8.fOp b8.fN b8.fType c1))))]))
   refine K88 hc 3 [(0,.rs 1000),(1,I c0),(5,I (wr (a6 + 1)))] ?_
   refine Qcb ?_
   exact (laws_markTermS_l0_ih _ _ h c hc)
  refine xt 0 ?_
  refine Qc5 ?_
  refine Qcc ?_
  obtain ⟨rfl,rfl⟩ := Prod.mk.inj (Option.some.inj h)
  exact iv []
theorem Kos : ∀ p r,Kon p = some r → Kop p r := Kor.1
theorem Kot : ∀ p r,Koo p = some r → Koq p r := Kor.2
def Kou (p : K01 × Int) : Option (Int × K01) :=
 match p with
 | (a0,k1) =>
  (Ko2 (a0.fType,k1)) >>= fun (a1,a2) =>
  (Kon (a0.fKids,a1)) >>= fun (a3,a4) =>
  some (a3,(K01.mk a0.fOp a0.fN a2 a4))
def Kov (p : K01 × Int) (r : Int × K01) : Prop :=
 match p with
 | (a0,k1) => Q71 Tryz.prog 29 [K24 a0,I k1] (I r.1) [.agg [.undef,.undef,.osl (List.map I r.2.fType),.osl (List.map K0j r.2.fKids)],.undef]
theorem Kow : ∀ p r,Kou p = some r → Kov p r := by
 rintro ⟨a0,k1⟩ r h
 unfold Kou at h
 refine Q71.bodyO K2w (fn := Tryz.f29) (code := B29) (by kernel_rfl) (by kernel_rfl) (by kernel_rfl) (nt := 14) (by kernel_rfl) (by kernel_rfl) (T := [(0,.agg [I a0.fOp,I a0.fN,.rs 1000,.rs 1001]),(1,I k1)]) (O := [(1000,rI a0.fType),(1001,.arr (List.map K0j a0.fKids))]) (by kernel_rfl) (by kernel_rfl) (fun c hc => ?_)
 refine rs hc none [some (.new 1),oN] [(1,I k1),(2,.ra 1 0)] [(1,.box [I a0.fOp,I a0.fN,.rs 1000,.rs 1001]),(1000,rI a0.fType),(1001,.arr (List.map K0j a0.fKids))] tv ?_
 obtain ⟨⟨a1,a2⟩,a3,h⟩ := Qct h
 refine rs hc none [oN,oN,oN,some (.call (I a1) [oI a2,.undef] 1),oN] [(1,I a1),(2,.ra 1 0)] [(1,.box [I a0.fOp,I a0.fN,.rs 1000,.rs 1001]),(1000,rI a2),(1001,.arr (List.map K0j a0.fKids))] (ab (Ko4 _ _ a3) K7z tv) ?_
 obtain ⟨⟨a4,a5⟩,a6,h⟩ := Qct h
 refine rs hc none [oN,oN,oN,some (.call (I a4) [.osl (List.map K0j a5),.undef] 1),oN] [(1,I a4)] [(1000,rI a2),(1001,.arr (List.map K0j a5))] (ab (Kos _ _ a6) K83 tv) ?_
 refine K89 hc 2 [(4,I a4)] ?_
 refine rt ?_
 obtain rfl := os h
 exact Qcq.ret (fl := [true]) (by kernel_rfl)
def Kox (c : Ctx) : (Int) ⊕ (Int) → Exit → Q0a → Prop
 | .inl a0 => Qcf c (.exit 0) (mkS [(1,I a0)] [])
 | .inr r => Qco TIx Tryz.f31 [] (I r)
def Koy (p : (List Int) × Int × Int) : Option ((Int) ⊕ (Int)) :=
 match p with
 | (a0,a1,a2) =>
  if (decide (a2 < (a0.length : Int))) = true then
  (idx a0 a2) >>= fun a3 =>
  if (a3 != a1) = true then
  some (.inr (-1))
  else
  Koy (a0,(wr (a1 + 1)),(wr (a2 + 1)))
  else
  some (.inl a1)
 partial_fixpoint
def Koz (p : (List Int) × Int × Int) (fl : (Int) ⊕ (Int)) : Prop :=
 match p with
 | (a0,a1,a2) => ∀ c : Ctx,c.nt = 21 → WpL Tryz.prog c (cl (cl (cr (cl (cr B31))))) (Kox c fl) (mkS [(0,sI a0),(1,I a1),(5,I a2)] [])
theorem Kp0 : ∀ p r,Koy p = some r → Koz p r := by
 refine Koy.partial_correctness Koz ?_
 rintro laws_heldIntS_l0_f laws_heldIntS_l0_ih ⟨a0,a1,a2⟩ r h
 intro c hc
 refine WpL.step ?_
 refine sN ?_
 refine rs hc none [oN,oN,some (.eqv (.no) ⟨[(8,I (a0.length : Int))],[],[]⟩),oN] [(0,sI a0),(1,I a1),(5,I a2),(9,.bool (decide (a2 < (a0.length : Int))))] [] (ai (Qcz (d := 8) I a0) tv) ?_
 refine ic h (fun a3 h => ?_) fun a3 h => ?_
 ·refine sk ?_
  refine sN ?_
  refine bk 1 ?_
  refine sN ?_
  obtain ⟨a4,a5,h⟩ := Qct h
  refine rs hc none [oN,oN,some (.el (I a4)),oN,oN,oN] [(0,sI a0),(1,I a1),(5,I a2),(17,.bool (a4 != a1))] [] (ai (ix a5) tv) ?_
  refine ic h (fun a6 h => ?_) fun a6 h => ?_
  ·refine rs0 hc 1 [(4,I (-1))] [] ?_
   refine rt ?_
   obtain rfl := os h
   exact re [true]
  refine sk ?_
  refine rg0 hc 3 [(0,sI a0),(1,I (wr (a1 + 1))),(5,I a2)] [] ?_
  refine rg0 hc 3 [(0,sI a0),(1,I (wr (a1 + 1))),(5,I (wr (a2 + 1)))] [] ?_
  refine Qcb ?_
  exact (laws_heldIntS_l0_ih _ _ h c hc)
 refine xt 0 ?_
 refine Qc5 ?_
 refine Qcc ?_
 obtain rfl := os h
 exact iv []
def Kp1 (p : (List Int) × Int) : Option (Int) :=
 match p with
 | (a0,k1) =>
  (Koy (a0,k1,0)) >>= fun fl => match fl with
  | .inl a1 =>
   some a1
  | .inr r =>
   some r
def Kp2 (p : (List Int) × Int) (r : Int) : Prop :=
 match p with
 | (a0,k1) => Q71 Tryz.prog 31 [sI a0,I k1] (I r) []
theorem Kp3 : ∀ p r,Kp1 p = some r → Kp2 p r := by
 rintro ⟨a0,k1⟩ r h
 unfold Kp1 at h
 refine b0 Tryz.f31 B31 21 [(0,sI a0),(1,I k1)] fun c hc => ?_
 refine rs0 hc 1 [(0,sI a0),(1,I k1)] [] ?_
 refine sN ?_
 refine rs0 hc 1 [(0,sI a0),(1,I k1),(5,I 0)] [] ?_
 refine bk 0 ?_
 obtain ⟨fl,a1,h⟩ := Qct h
 have hL := Kp0 _ _ a1 c hc
 refine lp ?_
 rcases fl with a2 | r
 ·refine WpL.into (e := (.exit 0)) (mkS [(1,I a2)] []) hL ?_
  refine Qc7 ?_
  refine rs0 hc 2 [(4,I a2)] [] ?_
  refine rt ?_
  obtain rfl := os h
  exact rq [true]
 refine WpL.mono hL ?_
 rintro _ _ ⟨rfl,hfin⟩
 obtain rfl := os h
 exact ⟨.inl rfl,hfin⟩
def Kp4 (c : Ctx) : (Int) ⊕ (Int) → Exit → Q0a → Prop
 | .inl a0 => Qcf c (.exit 0) (mkS [(1,I a0)] [])
 | .inr r => Qco TIx Tryz.f39 [] (I r)
def Kp5 (p : LL × Int × Int) : Option ((Int) ⊕ (Int)) :=
 match p with
 | (a0,a1,a2) =>
  if (decide (a2 < (a0.length : Int))) = true then
  (idx a0 a2) >>= fun a3 =>
  (Kp1 (a3,a1)) >>= fun a4 =>
  if (decide (a4 < 0)) = true then
  some (.inr (-1))
  else
  Kp5 (a0,a4,(wr (a2 + 1)))
  else
  some (.inl a1)
 partial_fixpoint
def Kp6 (p : LL × Int × Int) (fl : (Int) ⊕ (Int)) : Prop :=
 match p with
 | (a0,a1,a2) => ∀ c : Ctx,c.nt = 21 → WpL Tryz.prog c (cl (cl (cr (cl (cr B39))))) (Kp4 c fl) (mkS [(0,sL a0),(1,I a1),(5,I a2)] [])
theorem Kp7 : ∀ p r,Kp5 p = some r → Kp6 p r := by
 refine Kp5.partial_correctness Kp6 ?_
 rintro laws_heldIntSS_l0_f laws_heldIntSS_l0_ih ⟨a0,a1,a2⟩ r h
 intro c hc
 refine WpL.step ?_
 refine sN ?_
 refine rs hc none [oN,oN,some (.eqv (.no) ⟨[(8,I (a0.length : Int))],[],[]⟩),oN] [(0,sL a0),(1,I a1),(5,I a2),(9,.bool (decide (a2 < (a0.length : Int))))] [] (ai (Qcz (d := 8) K10 a0) tv) ?_
 refine ic h (fun a3 h => ?_) fun a3 h => ?_
 ·refine sk ?_
  refine sN ?_
  refine bk 1 ?_
  obtain ⟨a4,a5,a6,a7,h⟩ := bq2 h
  refine rs hc none [oN,oN,some (.el (sI a4)),oN,oN,oc (I a6),oN] [(0,sL a0),(1,I a6),(5,I a2)] [] (ai (xL a5) (cq (Kp3 _ _ a7) K85 tv)) ?_
  refine rs0 hc 2 [(0,sL a0),(1,I a6),(5,I a2),(19,.bool (decide (a6 < 0)))] [] ?_
  refine ic h (fun a8 h => ?_) fun a8 h => ?_
  ·refine rs0 hc 1 [(4,I (-1))] [] ?_
   refine rt ?_
   obtain rfl := os h
   exact re [true]
  refine sk ?_
  refine rg0 hc 3 [(0,sL a0),(1,I a6),(5,I (wr (a2 + 1)))] [] ?_
  refine Qcb ?_
  exact (laws_heldIntSS_l0_ih _ _ h c hc)
 refine xt 0 ?_
 refine Qc5 ?_
 refine Qcc ?_
 obtain rfl := os h
 exact iv []
def Kp8 (p : LL × Int) : Option (Int) :=
 match p with
 | (a0,k1) =>
  (Kp5 (a0,k1,0)) >>= fun fl => match fl with
  | .inl a1 =>
   some a1
  | .inr r =>
   some r
def Kp9 (p : LL × Int) (r : Int) : Prop :=
 match p with
 | (a0,k1) => Q71 Tryz.prog 39 [sL a0,I k1] (I r) []
theorem Kpa : ∀ p r,Kp8 p = some r → Kp9 p r := by
 rintro ⟨a0,k1⟩ r h
 unfold Kp8 at h
 refine b0 Tryz.f39 B39 21 [(0,sL a0),(1,I k1)] fun c hc => ?_
 refine rs0 hc 1 [(0,sL a0),(1,I k1)] [] ?_
 refine sN ?_
 refine rs0 hc 1 [(0,sL a0),(1,I k1),(5,I 0)] [] ?_
 refine bk 0 ?_
 obtain ⟨fl,a1,h⟩ := Qct h
 have hL := Kp7 _ _ a1 c hc
 refine lp ?_
 rcases fl with a2 | r
 ·refine WpL.into (e := (.exit 0)) (mkS [(1,I a2)] []) hL ?_
  refine Qc7 ?_
  refine rs0 hc 2 [(4,I a2)] [] ?_
  refine rt ?_
  obtain rfl := os h
  exact rq [true]
 refine WpL.mono hL ?_
 rintro _ _ ⟨rfl,hfin⟩
 obtain rfl := os h
 exact ⟨.inl rfl,hfin⟩
def Kpb : Option (List (List Nat)) := rh [0,1,0,3,0,5,6,7]
def Kpc : Option (List (List Nat)) := rx [[0],[0],[0,1],[3],[4]]
def Kpd (p : K00 × LL × K01) : Option (Bool) :=
 match p with
 | (aS0,aCtx1,aT2) =>
  (K8h (aS0,1048576)) >>= fun a0 =>
  if (decide (a0 < 0)) = true then
  some true
  else
  (K8o (aCtx1,a0)) >>= fun a1 =>
  if (decide (a1 < 0)) = true then
  some true
  else
  (K8s (aT2,a1)) >>= fun a2 =>
  if (decide (a2 < 0)) = true then
  some true
  else
  (K9g aS0) >>= fun a3 =>
  (K9n aCtx1) >>= fun a4 =>
  (K9r aT2) >>= fun a5 =>
  (Kfx (a3,a4,a5)) >>= fun a6 =>
  (K9g aS0) >>= fun a7 =>
  (K9n aCtx1) >>= fun a8 =>
  (K9r aT2) >>= fun a9 =>
  (Kmw (a7,a8,a9)) >>= fun b1 =>
  (Kna (b1,a6)) >>= fun b2 =>
  if b2 = true then
  (K9g aS0) >>= fun b3 =>
  (Knk (a7,b3)) >>= fun b4 =>
  if b4 = true then
  (K9n aCtx1) >>= fun b5 =>
  (Kna (a8,b5)) >>= fun b6 =>
  if b6 = true then
  (K9r aT2) >>= fun b7 =>
  (Kno (a9,b7)) >>= fun b8 =>
  if b8 = true then
  (Koc (a7,1)) >>= fun (b9,c0) =>
  (Koj (a8,b9)) >>= fun (c1,c2) =>
  (Kou (a9,c1)) >>= fun (c3,c4) =>
  ((
  if (decide (c3 < 0)) = true then
  some (true)
  else
  (Kna (b1,a6)) >>= fun c5 =>
  some ((!c5))
  ) : Option (Bool)) >>= fun c6 =>
  if c6 = true then
  some false
  else
  (Koj (b1,1)) >>= fun (c7,c8) =>
  (Kp8 (c8,1)) >>= fun c9 =>
  if (decide (c9 < 0)) = true then
  some false
  else
  if (c9 != c7) = true then
  some false
  else
  (K9g aS0) >>= fun d0 =>
  (K9n aCtx1) >>= fun d1 =>
  (K9r aT2) >>= fun d2 =>
  (Kmw (d0,d1,d2)) >>= fun d3 =>
  (Kna (d3,a6)) >>= fun d4 =>
  if d4 = true then
  (Kp8 (c8,1)) >>= fun d5 =>
  if (decide (d5 < 0)) = true then
  some false
  else
  if (d5 != c7) = true then
  some false
  else
  some true
  else
  some false
  else
  some false
  else
  some false
  else
  some false
  else
  some false
def Kpe (p : K00 × LL × K01) (r : Bool) : Prop :=
 match p with
 | (aS0,aCtx1,aT2) => Q71 Tryz.prog 6 [K1t aS0,sL aCtx1,K1v aT2] (.bool r) []
theorem Kpf : ∀ p r,Kpd p = some r → Kpe p r := by
 rintro ⟨aS0,aCtx1,aT2⟩ r h
 unfold Kpd at h
 refine b0 Tryz.f6 B6 115 [(0,K1t aS0),(1,sL aCtx1),(2,K1v aT2)] fun c hc => ?_
 refine rs hc none [some (.new 1),some (.new 2),oN] [(1,sL aCtx1),(3,.ra 1 0),(5,.ra 2 0)] [(1,K1s aS0),(2,K1u aT2)] tv ?_
 refine K89 hc 1 [(1,sL aCtx1),(3,.ra 1 0),(5,.ra 2 0),(7,I 1048576)] ?_
 obtain ⟨a0,a1,h⟩ := Qct h
 refine rss hc none [oN,oN,oc (I a0),oN] [(1,sL aCtx1),(3,.ra 1 0),(5,.ra 2 0),(7,I a0)] (cq (K8j _ _ a1) K2z tv) ?_
 refine sN ?_
 refine K89 hc 2 [(1,sL aCtx1),(3,.ra 1 0),(5,.ra 2 0),(7,I a0),(21,.bool (decide (a0 < 0)))] ?_
 refine ic h (fun a2 h => ?_) fun a2 h => ?_
 ·refine rs0 hc 1 [(6,.bool true)] [] ?_
  refine rt ?_
  obtain rfl := os h
  exact rq [true]
 refine sk ?_
 obtain ⟨a3,a4,h⟩ := Qct h
 refine rss hc none [oN,oN,oc (I a3),oN] [(1,sL aCtx1),(3,.ra 1 0),(5,.ra 2 0),(7,I a3)] (cq (K8q _ _ a4) K30 tv) ?_
 refine sN ?_
 refine K89 hc 2 [(1,sL aCtx1),(3,.ra 1 0),(5,.ra 2 0),(7,I a3),(26,.bool (decide (a3 < 0)))] ?_
 refine ic h (fun a5 h => ?_) fun a5 h => ?_
 ·refine rs0 hc 1 [(6,.bool true)] [] ?_
  refine rt ?_
  obtain rfl := os h
  exact rq [true]
 refine sk ?_
 obtain ⟨a6,a7,h⟩ := Qct h
 refine rss hc none [oN,oN,oc (I a6),oN] [(1,sL aCtx1),(3,.ra 1 0),(5,.ra 2 0),(7,I a6)] (cq (K8z _ _ a7) K32 tv) ?_
 refine sN ?_
 refine K89 hc 2 [(1,sL aCtx1),(3,.ra 1 0),(5,.ra 2 0),(31,.bool (decide (a6 < 0)))] ?_
 refine ic h (fun a8 h => ?_) fun a8 h => ?_
 ·refine rs0 hc 1 [(6,.bool true)] [] ?_
  refine rt ?_
  obtain rfl := os h
  exact rq [true]
 refine sk ?_
 obtain ⟨a9,b1,b2,b3,b4,b5,b6,b7,h⟩ := bq4 h
 refine rs hc Kpb [oN,some (.call (K22 a9) [] 3),oN,some (.call (.osl (List.map K15 b2)) [] 6),oN,some (.call (K24 b4) [] 7),some (.call (.osl (List.map K10 b6)) [.tup []] 9),oN] [(1,sL aCtx1),(3,.ra 1 0),(5,.ra 2 0),(8,.rs 9)] [(1,K1s aS0),(2,K1u aT2),(9,.arr (List.map K10 b6))] (cq (K9i _ _ b1) K35 (cq (K9p _ _ b3) K36 (cq (K9y _ _ b5) K38 (ab (Q71.args (A1 := [K23 a9,.sl (Q02 (List.map K15 b2)),K25 b4]) (A2 := [K1t a9,sL b2,K1v b4]) (by simp only [K23,K25,List.map_nil,Qdn,K1f,Qdl,K19]) (Kfz _ _ b7)) K5h tv)))) ?_
 obtain ⟨b8,b9,h⟩ := Qct h
 refine rs hc none [oN,some (.call (K22 b8) [] 10),some (.new 13),oN] [(1,sL aCtx1),(3,.ra 1 0),(5,.ra 2 0),(8,.rs 9),(9,.ra 13 0)] [(1,K1s aS0),(2,K1u aT2),(9,.arr (List.map K10 b6)),(10,rI b8.fPlus),(11,rI b8.fTimes),(12,.arr (List.map AV.bool b8.fBelow)),(13,.box [I b8.fSize,.rs 10,.rs 11,.rs 12])] (cq (K9i _ _ b9) K35 tv) ?_
 obtain ⟨c0,c1,h⟩ := Qct h
 refine rs hc none [oN,some (.call (.osl (List.map K15 c0)) [] 14),oN] [(1,sL aCtx1),(3,.ra 1 0),(5,.ra 2 0),(8,.rs 9),(9,.ra 13 0),(10,.rs 14)] [(1,K1s aS0),(2,K1u aT2),(9,.arr (List.map K10 b6)),(10,rI b8.fPlus),(11,rI b8.fTimes),(12,.arr (List.map AV.bool b8.fBelow)),(13,.box [I b8.fSize,.rs 10,.rs 11,.rs 12]),(14,.arr (List.map K15 c0))] (cq (K9p _ _ c1) K36 tv) ?_
 obtain ⟨c2,c3,h⟩ := Qct h
 refine rs hc none [oN,some (.call (K24 c2) [] 15),some (.new 17),oN] [(1,sL aCtx1),(3,.ra 1 0),(5,.ra 2 0),(8,.rs 9),(9,.ra 13 0),(10,.rs 14),(11,.ra 17 0)] [(1,K1s aS0),(2,K1u aT2),(9,.arr (List.map K10 b6)),(10,rI b8.fPlus),(11,rI b8.fTimes),(12,.arr (List.map AV.bool b8.fBelow)),(13,.box [I b8.fSize,.rs 10,.rs 11,.rs 12]),(14,.arr (List.map K15 c0)),(15,rI c2.fType),(16,.arr (List.map K0j c2.fKids)),(17,.box [I c2.fOp,I c2.fN,.rs 15,.rs 16])] (cq (K9y _ _ c3) K38 tv) ?_
 obtain ⟨c4,c5,h⟩ := Qct h
 refine rs hc none [oN,oN,oN,some (.call (.osl (List.map K15 c4)) [] 18),oN] [(1,sL aCtx1),(3,.ra 1 0),(5,.ra 2 0),(8,.rs 9),(9,.ra 13 0),(10,.rs 14),(11,.ra 17 0),(12,.rs 18)] [(1,K1s aS0),(2,K1u aT2),(9,.arr (List.map K10 b6)),(10,rI b8.fPlus),(11,rI b8.fTimes),(12,.arr (List.map AV.bool b8.fBelow)),(13,.box [I b8.fSize,.rs 10,.rs 11,.rs 12]),(14,.arr (List.map K15 c0)),(15,rI c2.fType),(16,.arr (List.map K0j c2.fKids)),(17,.box [I c2.fOp,I c2.fN,.rs 15,.rs 16]),(18,.arr (List.map K15 c4))] (ac (Q71.args (A1 := [K23 b8,.sl (Q02 (List.map K15 c0)),K25 c2]) (A2 := [K1t b8,sL c0,K1v c2]) (by simp only [K23,K25,List.map_nil,Qdn,K1f,Qdl,K19]) (Kmy _ _ c5)) K7s (Or.inr (Qdt K1a c4) : ([10,11,12,14,15,16] : List Nat) = [] ∨ noSh (.osl (List.map K15 c4)) = true) tv) ?_
 refine sN ?_
 obtain ⟨c6,c7,h⟩ := Qct h
 refine rss hc none [oN,oN,oc (.bool c6),oN] [(1,sL aCtx1),(3,.ra 1 0),(5,.ra 2 0),(8,.rs 9),(9,.ra 13 0),(10,.rs 14),(11,.ra 17 0),(12,.rs 18),(52,.bool (!c6))] (ac (Q71.args (A1 := [.sl (Q02 (List.map K15 c4)),.sl (Q02 (List.map K10 b6))]) (A2 := [sL c4,sL b6]) (by simp only [List.map_nil,K19,K14]) (Knc _ _ c7)) K7u (Or.inr rfl : ([18,9] : List Nat) = [] ∨ noSh (.bool c6) = true) tv) ?_
 rcases is h with ⟨c8,h⟩ | ⟨c8,h⟩
 ·refine cF (!c6) (nF c8) ?_
  refine sk ?_
  refine sN ?_
  obtain ⟨c9,d0,d1,d2,h⟩ := bq2 h
  refine rss hc Kpc [oN,oN,some (.call (K22 c9) [] 19),oc (.bool d1),oN] [(1,sL aCtx1),(3,.ra 1 0),(5,.ra 2 0),(8,.rs 9),(9,.ra 13 0),(10,.rs 14),(11,.ra 17 0),(12,.rs 18),(57,.bool (!d1))] (cq (K9i _ _ d0) K35 (ac (Q71.args (A1 := [K23 b8,K23 c9]) (A2 := [K1t b8,K1t c9]) (by simp only [K23,List.map_nil,Qdn,Qdl]) (Knm _ _ d2)) K7w (Or.inr rfl : ([10,11,12,19,20,21] : List Nat) = [] ∨ noSh (.bool d1) = true) tv)) ?_
  rcases is h with ⟨d3,h⟩ | ⟨d3,h⟩
  ·refine cF (!d1) (nF d3) ?_
   refine sk ?_
   refine sN ?_
   obtain ⟨d4,d5,d6,d7,h⟩ := bq2 h
   refine rss hc none [oN,oN,some (.call (.osl (List.map K15 d4)) [] 22),oc (.bool d6),oN] [(1,sL aCtx1),(3,.ra 1 0),(5,.ra 2 0),(8,.rs 9),(9,.ra 13 0),(10,.rs 14),(11,.ra 17 0),(12,.rs 18),(62,.bool (!d6))] (cq (K9p _ _ d5) K36 (ac (Q71.args (A1 := [.sl (Q02 (List.map K15 c0)),.sl (Q02 (List.map K15 d4))]) (A2 := [sL c0,sL d4]) (by simp only [List.map_nil,K19]) (Knc _ _ d7)) K7u (Or.inr rfl : ([14,22] : List Nat) = [] ∨ noSh (.bool d6) = true) tv)) ?_
   rcases is h with ⟨d8,h⟩ | ⟨d8,h⟩
   ·refine cF (!d6) (nF d8) ?_
    refine sk ?_
    refine sN ?_
    obtain ⟨d9,e0,e1,e2,h⟩ := bq2 h
    refine rss hc Kpc [oN,oN,some (.call (K24 d9) [] 23),oc (.bool e1),oN] [(1,sL aCtx1),(3,.ra 1 0),(5,.ra 2 0),(8,.rs 9),(9,.ra 13 0),(10,.rs 14),(11,.ra 17 0),(12,.rs 18),(67,.bool (!e1))] (cq (K9y _ _ e0) K38 (ac (Q71.args (A1 := [K25 c2,K25 d9]) (A2 := [K1v c2,K1v d9]) (by simp only [K25,List.map_nil,K1f,Qdl]) (Knv _ _ e2)) K7y (Or.inr rfl : ([15,16,23,24] : List Nat) = [] ∨ noSh (.bool e1) = true) tv)) ?_
    rcases is h with ⟨e3,h⟩ | ⟨e3,h⟩
    ·refine cF (!e1) (nF e3) ?_
     refine sk ?_
     refine K89 hc 1 [(1,sL aCtx1),(3,.ra 1 0),(5,.ra 2 0),(8,.rs 9),(9,.ra 13 0),(10,.rs 14),(11,.ra 17 0),(12,.rs 18),(13,I 1)] ?_
     obtain ⟨⟨e4,e5⟩,e6,h⟩ := Qct h
     refine rs hc none [oN,oN,some (.call (I e4) [.agg [.undef,oI e5.fPlus,oI e5.fTimes,.osl (List.map AV.bool e5.fBelow)],.undef] 1),oN] [(1,sL aCtx1),(3,.ra 1 0),(5,.ra 2 0),(8,.rs 9),(10,.rs 14),(11,.ra 17 0),(12,.rs 18),(13,I e4)] [(1,K1s aS0),(2,K1u aT2),(9,.arr (List.map K10 b6)),(14,.arr (List.map K15 c0)),(15,rI c2.fType),(16,.arr (List.map K0j c2.fKids)),(17,.box [I c2.fOp,I c2.fN,.rs 15,.rs 16]),(18,.arr (List.map K15 c4))] (ab (Koe _ _ e6) K81 tv) ?_
     obtain ⟨⟨e7,e8⟩,e9,h⟩ := Qct h
     refine rs hc none [oN,oN,some (.call (I e7) [.osl (List.map K15 e8),.undef] 1),oN] [(1,sL aCtx1),(3,.ra 1 0),(5,.ra 2 0),(8,.rs 9),(11,.ra 17 0),(12,.rs 18),(13,I e7)] [(1,K1s aS0),(2,K1u aT2),(9,.arr (List.map K10 b6)),(15,rI c2.fType),(16,.arr (List.map K0j c2.fKids)),(17,.box [I c2.fOp,I c2.fN,.rs 15,.rs 16]),(18,.arr (List.map K15 c4))] (ab (Kol _ _ e9) K82 tv) ?_
     obtain ⟨⟨f0,f1⟩,f2,h⟩ := Qct h
     refine rs hc none [oN,oN,some (.call (I f0) [.agg [.undef,.undef,oI f1.fType,.osl (List.map K0j f1.fKids)],.undef] 1),oN] [(1,sL aCtx1),(3,.ra 1 0),(5,.ra 2 0),(8,.rs 9),(12,.rs 18),(13,I f0)] [(1,K1s aS0),(2,K1u aT2),(9,.arr (List.map K10 b6)),(18,.arr (List.map K15 c4))] (ab (Kow _ _ f2) K84 tv) ?_
     refine sN ?_
     refine sN ?_
     obtain ⟨f3,f4,h⟩ := Qct h
     refine Wp.into (x := .normal) (mkS [(1,sL aCtx1),(3,.ra 1 0),(5,.ra 2 0),(8,.rs 9),(12,.rs 18),(84,.bool f3)] [(1,K1s aS0),(2,K1u aT2),(9,.arr (List.map K10 b6)),(18,.arr (List.map K15 c4))]) ?_ ?_
     ·replace h := f4
      rcases is h with ⟨f5,h⟩ | ⟨f5,h⟩
      ·refine rgs hc none [oN,oN,oN,o_,o_,o_,o_,oT] [(1,sL aCtx1),(3,.ra 1 0),(5,.ra 2 0),(8,.rs 9),(12,.rs 18),(84,.bool true)] (ar 4 (neF f5) (ai f5 tv)) ?_
       obtain rfl := os h
       exact Qcf.mk
      obtain ⟨f7,f8,h⟩ := Qct h
      refine rgs hc none [oN,oN,oN,oN,oN,oc (.bool f7),oN,oF] [(1,sL aCtx1),(3,.ra 1 0),(5,.ra 2 0),(8,.rs 9),(12,.rs 18),(84,.bool (!f7))] (ar 3 f5 (ac (Q71.args (A1 := [.sl (Q02 (List.map K15 c4)),.sl (Q02 (List.map K10 b6))]) (A2 := [sL c4,sL b6]) (by simp only [List.map_nil,K19,K14]) (Knc _ _ f8)) K7u (Or.inr rfl : ([18,9] : List Nat) = [] ∨ noSh (.bool f7) = true) (ar 2 f5 tv))) ?_
      obtain rfl := os h
      exact Qcf.mk
     clear f4
     refine ic h (fun f9 h => ?_) fun f9 h => ?_
     ·refine rs0 hc 1 [(6,.bool false)] [] ?_
      refine rt ?_
      obtain rfl := os h
      exact rq [true]
     refine sk ?_
     refine K89 hc 1 [(1,sL aCtx1),(3,.ra 1 0),(5,.ra 2 0),(8,.rs 9),(12,.rs 18),(14,I 1)] ?_
     obtain ⟨⟨g0,g1⟩,g2,h⟩ := Qct h
     refine rs hc none [oN,oN,some (.call (I g0) [.osl (List.map K15 g1),.undef] 1),oN] [(1,sL aCtx1),(3,.ra 1 0),(5,.ra 2 0),(8,.rs 9),(12,.rs 18),(14,I g0)] [(1,K1s aS0),(2,K1u aT2),(9,.arr (List.map K10 b6)),(18,.arr (List.map K15 g1))] (ab (Kol _ _ g2) K82 tv) ?_
     refine K89 hc 1 [(1,sL aCtx1),(3,.ra 1 0),(5,.ra 2 0),(8,.rs 9),(12,.rs 18),(14,I g0),(15,I 1)] ?_
     obtain ⟨g3,g4,h⟩ := Qct h
     refine rss hc none [oN,oN,oc (I g3),oN] [(1,sL aCtx1),(3,.ra 1 0),(5,.ra 2 0),(8,.rs 9),(12,.rs 18),(14,I g0),(15,I g3)] (ac (Q71.args (A1 := [.sl (Q02 (List.map K15 g1)),I 1]) (A2 := [sL g1,I 1]) (by simp only [List.map_nil,K19]) (Kpa _ _ g4)) K86 (Or.inr rfl : ([18] : List Nat) = [] ∨ noSh (I g3) = true) tv) ?_
     refine sN ?_
     refine K89 hc 2 [(1,sL aCtx1),(3,.ra 1 0),(5,.ra 2 0),(8,.rs 9),(12,.rs 18),(14,I g0),(15,I g3),(92,.bool (decide (g3 < 0)))] ?_
     refine ic h (fun g5 h => ?_) fun g5 h => ?_
     ·refine rs0 hc 1 [(6,.bool false)] [] ?_
      refine rt ?_
      obtain rfl := os h
      exact rq [true]
     refine sk ?_
     refine sN ?_
     refine K89 hc 3 [(1,sL aCtx1),(3,.ra 1 0),(5,.ra 2 0),(8,.rs 9),(12,.rs 18),(14,I g0),(95,.bool (g3 != g0))] ?_
     refine ic h (fun g6 h => ?_) fun g6 h => ?_
     ·refine rs0 hc 1 [(6,.bool false)] [] ?_
      refine rt ?_
      obtain rfl := os h
      exact rq [true]
     refine sk ?_
     obtain ⟨g7,g8,g9,i0,i1,i2,i3,i4,h⟩ := bq4 h
     refine rs hc Kpb [oN,some (.call (K22 g7) [] 25),oN,some (.call (.osl (List.map K15 g9)) [] 28),oN,some (.call (K24 i1) [] 29),some (.call (.osl (List.map K15 i3)) [] 31),oN] [(8,.rs 9),(12,.rs 18),(14,I g0),(16,.rs 31)] [(9,.arr (List.map K10 b6)),(18,.arr (List.map K15 g1)),(31,.arr (List.map K15 i3))] (cq (K9i _ _ g8) K35 (cq (K9p _ _ i0) K36 (cq (K9y _ _ i2) K38 (ac (Q71.args (A1 := [K23 g7,.sl (Q02 (List.map K15 g9)),K25 i1]) (A2 := [K1t g7,sL g9,K1v i1]) (by simp only [K23,K25,List.map_nil,Qdn,K1f,Qdl,K19]) (Kmy _ _ i4)) K7s (Or.inr (Qdt K1a i3) : ([25,26,27,28,29,30] : List Nat) = [] ∨ noSh (.osl (List.map K15 i3)) = true) tv)))) ?_
     refine sN ?_
     obtain ⟨i5,i6,h⟩ := Qct h
     refine rs hc none [oN,oN,oc (.bool i5),oN] [(12,.rs 18),(14,I g0),(106,.bool (!i5))] [(18,.arr (List.map K15 g1))] (ac (Q71.args (A1 := [.sl (Q02 (List.map K15 i3)),.sl (Q02 (List.map K10 b6))]) (A2 := [sL i3,sL b6]) (by simp only [List.map_nil,K19,K14]) (Knc _ _ i6)) K7u (Or.inr rfl : ([31,9] : List Nat) = [] ∨ noSh (.bool i5) = true) tv) ?_
     rcases is h with ⟨i7,h⟩ | ⟨i7,h⟩
     ·refine cF (!i5) (nF i7) ?_
      refine sk ?_
      refine K89 hc 1 [(12,.rs 18),(14,I g0),(15,I 1)] ?_
      obtain ⟨i8,i9,h⟩ := Qct h
      refine rs hc none [oN,oN,oc (I i8),oN] [(14,I g0),(15,I i8)] [] (ac (Q71.args (A1 := [.sl (Q02 (List.map K15 g1)),I 1]) (A2 := [sL g1,I 1]) (by simp only [List.map_nil,K19]) (Kpa _ _ i9)) K86 (Or.inr rfl : ([18] : List Nat) = [] ∨ noSh (I i8) = true) tv) ?_
      refine sN ?_
      refine rs0 hc 2 [(14,I g0),(15,I i8),(111,.bool (decide (i8 < 0)))] [] ?_
      refine ic h (fun j0 h => ?_) fun j0 h => ?_
      ·refine rs0 hc 1 [(6,.bool false)] [] ?_
       refine rt ?_
       obtain rfl := os h
       exact rq [true]
      refine sk ?_
      refine sN ?_
      refine rs0 hc 3 [(114,.bool (i8 != g0))] [] ?_
      refine ic h (fun j8 h => ?_) fun j8 h => ?_
      ·refine rs0 hc 1 [(6,.bool false)] [] ?_
       refine rt ?_
       obtain rfl := os h
       exact rq [true]
      refine sk ?_
      refine rs0 hc 1 [(6,.bool true)] [] ?_
      refine rt ?_
      obtain rfl := os h
      exact rq [true]
     refine cT (!i5) (nT i7) ?_
     refine rs0 hc 1 [(6,.bool false)] [] ?_
     refine rt ?_
     obtain rfl := os h
     exact rq [true]
    refine cT (!e1) (nT e3) ?_
    refine rs0 hc 1 [(6,.bool false)] [] ?_
    refine rt ?_
    obtain rfl := os h
    exact rq [true]
   refine cT (!d6) (nT d8) ?_
   refine rs0 hc 1 [(6,.bool false)] [] ?_
   refine rt ?_
   obtain rfl := os h
   exact rq [true]
  refine cT (!d1) (nT d3) ?_
  refine rs0 hc 1 [(6,.bool false)] [] ?_
  refine rt ?_
  obtain rfl := os h
  exact rq [true]
 refine cT (!c6) (nT c8) ?_
 refine rs0 hc 1 [(6,.bool false)] [] ?_
 refine rt ?_
 obtain rfl := os h
 exact rq [true]
end Go.Am
