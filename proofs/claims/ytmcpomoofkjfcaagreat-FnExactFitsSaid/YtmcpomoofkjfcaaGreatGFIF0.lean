/- Functions of the program as pure functions,and that it computes them. Printed by a program of mine (gen.py). -/
import Derived.Test.YtmcpomoofkjfcaaGreatGFITi
set_option linter.unusedVariables false
set_option linter.unusedSimpArgs false
set_option maxRecDepth 100000
namespace Go.Am
open Go Go.Proofs
def ah0_0 : Option (List (List Nat)) := rx [[0],[1],[0],[3],[4],[0],[0,5],[0,5,6],[8],[9],[10],[11],[12],[11],[14],[15],[11],[11,16],[11,16,17],[19],[20],[21]]
def laws_szIntS (p : (List Int) × Int) : Option (Int) :=
 match p with
 | (a0,left1) =>
  if (decide ((wr (left1 - (a0.length : Int))) < 0)) = true then
   some (-1)
  else
   some (wr (left1 - (a0.length : Int)))
def M_laws_szIntS (p : (List Int) × Int) (r : Int) : Prop :=
 match p with
 | (a0,left1) => FnSound Tryz.prog 69 [sI a0,I left1] (I r) []
theorem laws_szIntS_s : ∀ p r,laws_szIntS p = some r → M_laws_szIntS p r := by
 rintro ⟨a0,left1⟩ r h
 unfold laws_szIntS at h
 refine b0 Tryz.f69 B69 12 [(0,sI a0),(1,I left1)] fun c hc => ?_
 refine rs0 hc 1 [(0,sI a0),(1,I left1)] [] ?_
 refine rs hc none [oN,oN,some (.eqv (.no) ⟨[(7,I (a0.length : Int))],[],[]⟩),oN,oN] [(1,I (wr (left1 - (a0.length : Int))))] [] (ai (lenT (d := 7) I a0) trivial) ?_
 refine sN ?_
 refine rs0 hc 2 [(1,I (wr (left1 - (a0.length : Int)))),(10,.bool (decide ((wr (left1 - (a0.length : Int))) < 0)))] [] ?_
 rcases is h with ⟨hb_1,h⟩ | ⟨hb_1,h⟩
 ·refine cT ((decide ((wr (left1 - (a0.length : Int))) < 0))) hb_1 ?_
  refine rs0 hc 1 [(4,I (-1))] [] ?_
  refine rt ?_
  obtain rfl := os h
  exact rq [true]
 refine cF ((decide ((wr (left1 - (a0.length : Int))) < 0))) hb_1 ?_
 refine sk ?_
 refine rs0 hc 2 [(4,I (wr (left1 - (a0.length : Int))))] [] ?_
 refine rt ?_
 obtain rfl := os h
 exact rq [true]
def laws_szBoolS (p : (List Bool) × Int) : Option (Int) :=
 match p with
 | (a0,left1) =>
  if (decide ((wr (left1 - (a0.length : Int))) < 0)) = true then
   some (-1)
  else
   some (wr (left1 - (a0.length : Int)))
def M_laws_szBoolS (p : (List Bool) × Int) (r : Int) : Prop :=
 match p with
 | (a0,left1) => FnSound Tryz.prog 70 [sB a0,I left1] (I r) []
theorem laws_szBoolS_s : ∀ p r,laws_szBoolS p = some r → M_laws_szBoolS p r := by
 rintro ⟨a0,left1⟩ r h
 unfold laws_szBoolS at h
 refine b0 Tryz.f70 B70 12 [(0,sB a0),(1,I left1)] fun c hc => ?_
 refine rs0 hc 1 [(0,sB a0),(1,I left1)] [] ?_
 refine rs hc none [oN,oN,some (.eqv (.no) ⟨[(7,I (a0.length : Int))],[],[]⟩),oN,oN] [(1,I (wr (left1 - (a0.length : Int))))] [] (ai (lenT (d := 7) AV.bool a0) trivial) ?_
 refine sN ?_
 refine rs0 hc 2 [(1,I (wr (left1 - (a0.length : Int)))),(10,.bool (decide ((wr (left1 - (a0.length : Int))) < 0)))] [] ?_
 rcases is h with ⟨hb_1,h⟩ | ⟨hb_1,h⟩
 ·refine cT ((decide ((wr (left1 - (a0.length : Int))) < 0))) hb_1 ?_
  refine rs0 hc 1 [(4,I (-1))] [] ?_
  refine rt ?_
  obtain rfl := os h
  exact rq [true]
 refine cF ((decide ((wr (left1 - (a0.length : Int))) < 0))) hb_1 ?_
 refine sk ?_
 refine rs0 hc 2 [(4,I (wr (left1 - (a0.length : Int))))] [] ?_
 refine rt ?_
 obtain rfl := os h
 exact rq [true]
def laws_szSystem (p : GSystem × Int) : Option (Int) :=
 match p with
 | (a0,left1) =>
  (laws_szIntS (a0.fPlus,left1)) >>= fun r_1_3 =>
  if (decide (r_1_3 < 0)) = true then
   some (-1)
  else
   (laws_szIntS (a0.fTimes,r_1_3)) >>= fun r_4_3 =>
   if (decide (r_4_3 < 0)) = true then
    some (-1)
   else
    (laws_szBoolS (a0.fBelow,r_4_3)) >>= fun r_7_3 =>
    if (decide (r_7_3 < 0)) = true then
     some (-1)
    else
     some r_7_3
def M_laws_szSystem (p : GSystem × Int) (r : Int) : Prop :=
 match p with
 | (a0,left1) => FnSound Tryz.prog 15 [aSystem a0,I left1] (I r) []
theorem laws_szSystem_s : ∀ p r,laws_szSystem p = some r → M_laws_szSystem p r := by
 rintro ⟨a0,left1⟩ r h
 unfold laws_szSystem at h
 refine b0 Tryz.f15 B15 24 [(0,aSystem a0),(1,I left1)] fun c hc => ?_
 refine rs hc none [some (.new 1),oN] [(1,I left1),(2,.ra 1 0)] [(1,bSystem a0)] trivial ?_
 obtain ⟨r_1_3,hr_1_3,h⟩ := bsome h
 refine rs hc none [oN,oN,oN,oc (I r_1_3),oN] [(1,I r_1_3),(2,.ra 1 0)] [(1,bSystem a0)] (ai (laws_szIntS_s _ _ hr_1_3) (ai bod_69 (ai (oi (I r_1_3)) trivial))) ?_
 refine sN ?_
 refine rs0 hc 2 [(1,I r_1_3),(2,.ra 1 0),(10,.bool (decide (r_1_3 < 0)))] [(1,bSystem a0)] ?_
 rcases is h with ⟨hb_1,h⟩ | ⟨hb_1,h⟩
 ·refine cT ((decide (r_1_3 < 0))) hb_1 ?_
  refine rs0 hc 1 [(4,I (-1))] [] ?_
  refine rt ?_
  obtain rfl := os h
  exact rq [true]
 refine cF ((decide (r_1_3 < 0))) hb_1 ?_
 refine sk ?_
 obtain ⟨r_4_3,hr_4_3,h⟩ := bsome h
 refine rs hc none [oN,oN,oN,oc (I r_4_3),oN] [(1,I r_4_3),(2,.ra 1 0)] [(1,bSystem a0)] (ai (laws_szIntS_s _ _ hr_4_3) (ai bod_69 (ai (oi (I r_4_3)) trivial))) ?_
 refine sN ?_
 refine rs0 hc 2 [(1,I r_4_3),(2,.ra 1 0),(16,.bool (decide (r_4_3 < 0)))] [(1,bSystem a0)] ?_
 rcases is h with ⟨hb_2,h⟩ | ⟨hb_2,h⟩
 ·refine cT ((decide (r_4_3 < 0))) hb_2 ?_
  refine rs0 hc 1 [(4,I (-1))] [] ?_
  refine rt ?_
  obtain rfl := os h
  exact rq [true]
 refine cF ((decide (r_4_3 < 0))) hb_2 ?_
 refine sk ?_
 obtain ⟨r_7_3,hr_7_3,h⟩ := bsome h
 refine rs hc none [oN,oN,oN,oc (I r_7_3),oN] [(1,I r_7_3)] [] (ai (laws_szBoolS_s _ _ hr_7_3) (ai bod_70 (ai (oi (I r_7_3)) trivial))) ?_
 refine sN ?_
 refine rs0 hc 2 [(1,I r_7_3),(22,.bool (decide (r_7_3 < 0)))] [] ?_
 rcases is h with ⟨hb_3,h⟩ | ⟨hb_3,h⟩
 ·refine cT ((decide (r_7_3 < 0))) hb_3 ?_
  refine rs0 hc 1 [(4,I (-1))] [] ?_
  refine rt ?_
  obtain rfl := os h
  exact rq [true]
 refine cF ((decide (r_7_3 < 0))) hb_3 ?_
 refine sk ?_
 refine rs0 hc 2 [(4,I r_7_3)] [] ?_
 refine rt ?_
 obtain rfl := os h
 exact rq [true]
def laws_szIntSS_F1 (c : Ctx) : (Int) ⊕ (Int) → Exit → AState → Prop
 | .inl left_8 => Into c (.exit 0) (mkS [(1,I left_8)] [])
 | .inr r => RetE TIx Tryz.f16 [] (I r)
def laws_szIntSS_l0 (p : (List (List Int)) × Int × Int) : Option ((Int) ⊕ (Int)) :=
 match p with
 | (a0,left_4,i_5) =>
  if (decide (i_5 < (a0.length : Int))) = true then
   (idx a0 i_5) >>= fun e_7_2 =>
   (laws_szIntS (e_7_2,left_4)) >>= fun r_7_5 =>
   if (decide (r_7_5 < 0)) = true then
    some (.inr (-1))
   else
    laws_szIntSS_l0 (a0,r_7_5,(wr (i_5 + 1)))
  else
   some (.inl left_4)
 partial_fixpoint
def M_laws_szIntSS_l0 (p : (List (List Int)) × Int × Int) (fl : (Int) ⊕ (Int)) : Prop :=
 match p with
 | (a0,left_4,i_5) => ∀ c : Ctx,c.nt = 27 → WpL Tryz.prog c (cl (cl (cr (cl (cr (cr (cr B16))))))) (laws_szIntSS_F1 c fl) (mkS [(0,sL a0),(1,I left_4),(5,I i_5)] [])
theorem laws_szIntSS_l0_s : ∀ p r,laws_szIntSS_l0 p = some r → M_laws_szIntSS_l0 p r := by
 refine laws_szIntSS_l0.partial_correctness M_laws_szIntSS_l0 ?_
 rintro laws_szIntSS_l0_f laws_szIntSS_l0_ih ⟨a0,left_4,i_5⟩ r h
 intro c hc
 refine WpL.step ?_
 refine sN ?_
 refine rs hc none [oN,oN,some (.eqv (.no) ⟨[(14,I (a0.length : Int))],[],[]⟩),oN] [(0,sL a0),(1,I left_4),(5,I i_5),(15,.bool (decide (i_5 < (a0.length : Int))))] [] (ai (lenT (d := 14) LI_s a0) trivial) ?_
 rcases is h with ⟨hb_6,h⟩ | ⟨hb_6,h⟩
 ·refine cT ((decide (i_5 < (a0.length : Int)))) hb_6 ?_
  refine sk ?_
  refine sN ?_
  refine bk 1 ?_
  obtain ⟨e_7_2,hi_7_2,h⟩ := bsome h
  obtain ⟨r_7_5,hr_7_5,h⟩ := bsome h
  refine rs hc none [oN,oN,some (.el (sI e_7_2)),oN,oN,oc (I r_7_5),oN] [(0,sL a0),(1,I r_7_5),(5,I i_5)] [] (ai (idx_sl (enc := LI_s) (x := sI e_7_2) hi_7_2 (eq_LI_s e_7_2)) (ai (laws_szIntS_s _ _ hr_7_5) (ai bod_69 (ai (oi (I r_7_5)) trivial)))) ?_
  refine rs0 hc 2 [(0,sL a0),(1,I r_7_5),(5,I i_5),(25,.bool (decide (r_7_5 < 0)))] [] ?_
  rcases is h with ⟨hb_7,h⟩ | ⟨hb_7,h⟩
  ·refine cT ((decide (r_7_5 < 0))) hb_7 ?_
   refine rs0 hc 1 [(4,I (-1))] [] ?_
   refine rt ?_
   obtain rfl := os h
   exact re [true]
  refine cF ((decide (r_7_5 < 0))) hb_7 ?_
  refine sk ?_
  refine rg0 hc 3 [(0,sL a0),(1,I r_7_5),(5,I (wr (i_5 + 1)))] [] ?_
  refine loopQ_norm ?_
  exact (laws_szIntSS_l0_ih _ _ h c hc)
 refine cF ((decide (i_5 < (a0.length : Int)))) hb_6 ?_
 refine xt 0 ?_
 refine seqQ_exit ?_
 refine loopQ_exit ?_
 obtain rfl := os h
 exact iv []
def laws_szIntSS (p : (List (List Int)) × Int) : Option (Int) :=
 match p with
 | (a0,left1) =>
  if (decide ((wr (left1 - (a0.length : Int))) < 0)) = true then
   some (-1)
  else
   (laws_szIntSS_l0 (a0,(wr (left1 - (a0.length : Int))),0)) >>= fun fl => match fl with
   | .inl left_8 =>
    some left_8
   | .inr r =>
    some r
def M_laws_szIntSS (p : (List (List Int)) × Int) (r : Int) : Prop :=
 match p with
 | (a0,left1) => FnSound Tryz.prog 16 [sL a0,I left1] (I r) []
theorem laws_szIntSS_s : ∀ p r,laws_szIntSS p = some r → M_laws_szIntSS p r := by
 rintro ⟨a0,left1⟩ r h
 unfold laws_szIntSS at h
 refine b0 Tryz.f16 B16 27 [(0,sL a0),(1,I left1)] fun c hc => ?_
 refine rs0 hc 1 [(0,sL a0),(1,I left1)] [] ?_
 refine rs hc none [oN,oN,some (.eqv (.no) ⟨[(8,I (a0.length : Int))],[],[]⟩),oN,oN] [(0,sL a0),(1,I (wr (left1 - (a0.length : Int))))] [] (ai (lenT (d := 8) LI_s a0) trivial) ?_
 refine sN ?_
 refine rs0 hc 2 [(0,sL a0),(1,I (wr (left1 - (a0.length : Int)))),(11,.bool (decide ((wr (left1 - (a0.length : Int))) < 0)))] [] ?_
 rcases is h with ⟨hb_1,h⟩ | ⟨hb_1,h⟩
 ·refine cT ((decide ((wr (left1 - (a0.length : Int))) < 0))) hb_1 ?_
  refine rs0 hc 1 [(4,I (-1))] [] ?_
  refine rt ?_
  obtain rfl := os h
  exact rq [true]
 refine cF ((decide ((wr (left1 - (a0.length : Int))) < 0))) hb_1 ?_
 refine sk ?_
 refine sN ?_
 refine rs0 hc 1 [(0,sL a0),(1,I (wr (left1 - (a0.length : Int)))),(5,I 0)] [] ?_
 refine bk 0 ?_
 obtain ⟨fl,hl_9,h⟩ := bsome h
 have hL := laws_szIntSS_l0_s _ _ hl_9 c hc
 refine lp ?_
 rcases fl with left_8 | r
 ·refine WpL.into (e := (.exit 0)) (mkS [(1,I left_8)] []) hL ?_
  refine blockQ_hit ?_
  refine rs0 hc 2 [(4,I left_8)] [] ?_
  refine rt ?_
  obtain rfl := os h
  exact rq [true]
 refine WpL.mono hL ?_
 rintro _ _ ⟨rfl,hfin⟩
 obtain rfl := os h
 exact ⟨.inl rfl,hfin⟩
def laws_szTermS_F1 (c : Ctx) : (Int) ⊕ (Int) → Exit → AState → Prop
 | .inl left_8 => Into c (.exit 0) (mkS [(1,I left_8)] [])
 | .inr r => RetE TIx Tryz.f71 [] (I r)
mutual
def laws_szTerm (p : GTerm × Int) : Option (Int) :=
 match p with
 | (a0,left1) =>
  (laws_szIntS (a0.fType,left1)) >>= fun r_1_3 =>
  if (decide (r_1_3 < 0)) = true then
   some (-1)
  else
   (laws_szTermS (a0.fKids,r_1_3)) >>= fun r_4_3 =>
   if (decide (r_4_3 < 0)) = true then
    some (-1)
   else
    some r_4_3
 partial_fixpoint
def laws_szTermS (p : (List GTerm) × Int) : Option (Int) :=
 match p with
 | (a0,left1) =>
  if (decide ((wr (left1 - (a0.length : Int))) < 0)) = true then
   some (-1)
  else
   (laws_szTermS_l0 (a0,(wr (left1 - (a0.length : Int))),0)) >>= fun fl => match fl with
   | .inl left_8 =>
    some left_8
   | .inr r =>
    some r
 partial_fixpoint
def laws_szTermS_l0 (p : (List GTerm) × Int × Int) : Option ((Int) ⊕ (Int)) :=
 match p with
 | (a0,left_4,i_5) =>
  if (decide (i_5 < (a0.length : Int))) = true then
   (idx a0 i_5) >>= fun e_7_2 =>
   (laws_szTerm (e_7_2,left_4)) >>= fun r_7_5 =>
   if (decide (r_7_5 < 0)) = true then
    some (.inr (-1))
   else
    laws_szTermS_l0 (a0,r_7_5,(wr (i_5 + 1)))
  else
   some (.inl left_4)
 partial_fixpoint
end
def M_laws_szTerm (p : GTerm × Int) (r : Int) : Prop :=
 match p with
 | (a0,left1) => FnSound Tryz.prog 17 [aTerm a0,I left1] (I r) []
def M_laws_szTermS (p : (List GTerm) × Int) (r : Int) : Prop :=
 match p with
 | (a0,left1) => FnSound Tryz.prog 71 [.sl (List.map GTerm_S a0),I left1] (I r) []
def M_laws_szTermS_l0 (p : (List GTerm) × Int × Int) (fl : (Int) ⊕ (Int)) : Prop :=
 match p with
 | (a0,left_4,i_5) => ∀ c : Ctx,c.nt = 27 → WpL Tryz.prog c (cl (cl (cr (cl (cr (cr (cr B71))))))) (laws_szTermS_F1 c fl) (mkS [(0,.sl (List.map GTerm_S a0)),(1,I left_4),(5,I i_5)] [])
theorem laws_szTerm_all : (∀ p r,laws_szTerm p = some r → M_laws_szTerm p r) ∧ (∀ p r,laws_szTermS p = some r → M_laws_szTermS p r) ∧ (∀ p r,laws_szTermS_l0 p = some r → M_laws_szTermS_l0 p r) := by
 refine laws_szTerm.mutual_partial_correctness M_laws_szTerm M_laws_szTermS M_laws_szTermS_l0 ?_ ?_ ?_
 ·rintro laws_szTermS_f laws_szTermS_ih ⟨a0,left1⟩ r h
  refine b0 Tryz.f17 B17 18 [(0,aTerm a0),(1,I left1)] fun c hc => ?_
  refine rs hc none [some (.new 1),oN] [(1,I left1),(2,.ra 1 0)] [(1,bTerm a0)] trivial ?_
  obtain ⟨r_1_3,hr_1_3,h⟩ := bsome h
  refine rs hc none [oN,oN,oN,oc (I r_1_3),oN] [(1,I r_1_3),(2,.ra 1 0)] [(1,bTerm a0)] (ai (laws_szIntS_s _ _ hr_1_3) (ai bod_69 (ai (oi (I r_1_3)) trivial))) ?_
  refine sN ?_
  refine rs0 hc 2 [(1,I r_1_3),(2,.ra 1 0),(10,.bool (decide (r_1_3 < 0)))] [(1,bTerm a0)] ?_
  rcases is h with ⟨hb_1,h⟩ | ⟨hb_1,h⟩
  ·refine cT ((decide (r_1_3 < 0))) hb_1 ?_
   refine rs0 hc 1 [(4,I (-1))] [] ?_
   refine rt ?_
   obtain rfl := os h
   exact rq [true]
  refine cF ((decide (r_1_3 < 0))) hb_1 ?_
  refine sk ?_
  obtain ⟨r_4_3,hr_4_3,h⟩ := bsome h
  refine rs hc none [oN,oN,oN,oc (I r_4_3),oN] [(1,I r_4_3)] [] (ai (laws_szTermS_ih _ _ hr_4_3) (ai bod_71 (ai (oi (I r_4_3)) trivial))) ?_
  refine sN ?_
  refine rs0 hc 2 [(1,I r_4_3),(16,.bool (decide (r_4_3 < 0)))] [] ?_
  rcases is h with ⟨hb_2,h⟩ | ⟨hb_2,h⟩
  ·refine cT ((decide (r_4_3 < 0))) hb_2 ?_
   refine rs0 hc 1 [(4,I (-1))] [] ?_
   refine rt ?_
   obtain rfl := os h
   exact rq [true]
  refine cF ((decide (r_4_3 < 0))) hb_2 ?_
  refine sk ?_
  refine rs0 hc 2 [(4,I r_4_3)] [] ?_
  refine rt ?_
  obtain rfl := os h
  exact rq [true]
 ·rintro laws_szTermS_l0_f laws_szTermS_l0_ih ⟨a0,left1⟩ r h
  refine b0 Tryz.f71 B71 27 [(0,.sl (List.map GTerm_S a0)),(1,I left1)] fun c hc => ?_
  refine rs0 hc 1 [(0,.sl (List.map GTerm_S a0)),(1,I left1)] [] ?_
  refine rs hc none [oN,oN,some (.eqv (.no) ⟨[(8,I (a0.length : Int))],[],[]⟩),oN,oN] [(0,.sl (List.map GTerm_S a0)),(1,I (wr (left1 - (a0.length : Int))))] [] (ai (lenT (d := 8) GTerm_S a0) trivial) ?_
  refine sN ?_
  refine rs0 hc 2 [(0,.sl (List.map GTerm_S a0)),(1,I (wr (left1 - (a0.length : Int)))),(11,.bool (decide ((wr (left1 - (a0.length : Int))) < 0)))] [] ?_
  rcases is h with ⟨hb_1,h⟩ | ⟨hb_1,h⟩
  ·refine cT ((decide ((wr (left1 - (a0.length : Int))) < 0))) hb_1 ?_
   refine rs0 hc 1 [(4,I (-1))] [] ?_
   refine rt ?_
   obtain rfl := os h
   exact rq [true]
  refine cF ((decide ((wr (left1 - (a0.length : Int))) < 0))) hb_1 ?_
  refine sk ?_
  refine sN ?_
  refine rs0 hc 1 [(0,.sl (List.map GTerm_S a0)),(1,I (wr (left1 - (a0.length : Int)))),(5,I 0)] [] ?_
  refine bk 0 ?_
  obtain ⟨fl,hl_9,h⟩ := bsome h
  have hL := laws_szTermS_l0_ih _ _ hl_9 c hc
  refine lp ?_
  rcases fl with left_8 | r
  ·refine WpL.into (e := (.exit 0)) (mkS [(1,I left_8)] []) hL ?_
   refine blockQ_hit ?_
   refine rs0 hc 2 [(4,I left_8)] [] ?_
   refine rt ?_
   obtain rfl := os h
   exact rq [true]
  refine WpL.mono hL ?_
  rintro _ _ ⟨rfl,hfin⟩
  obtain rfl := os h
  exact ⟨.inl rfl,hfin⟩
 ·rintro laws_szTerm_f laws_szTermS_l0_f laws_szTerm_ih laws_szTermS_l0_ih ⟨a0,left_4,i_5⟩ r h
  intro c hc
  refine WpL.step ?_
  refine sN ?_
  refine rs hc none [oN,oN,some (.eqv (.no) ⟨[(14,I (a0.length : Int))],[],[]⟩),oN] [(0,.sl (List.map GTerm_S a0)),(1,I left_4),(5,I i_5),(15,.bool (decide (i_5 < (a0.length : Int))))] [] (ai (lenT (d := 14) GTerm_S a0) trivial) ?_
  rcases is h with ⟨hb_6,h⟩ | ⟨hb_6,h⟩
  ·refine cT ((decide (i_5 < (a0.length : Int)))) hb_6 ?_
   refine sk ?_
   refine sN ?_
   refine bk 1 ?_
   obtain ⟨e_7_2,hi_7_2,h⟩ := bsome h
   obtain ⟨r_7_5,hr_7_5,h⟩ := bsome h
   refine rs hc none [oN,oN,some (.el (aTerm e_7_2)),oN,oN,oc (I r_7_5),oN] [(0,.sl (List.map GTerm_S a0)),(1,I r_7_5),(5,I i_5)] [] (ai (idx_sl (enc := GTerm_S) (x := aTerm e_7_2) hi_7_2 (eq_GTerm_S e_7_2)) (ai (laws_szTerm_ih _ _ hr_7_5) (ai bod_17 (ai (oi (I r_7_5)) trivial)))) ?_
   refine rs0 hc 2 [(0,.sl (List.map GTerm_S a0)),(1,I r_7_5),(5,I i_5),(25,.bool (decide (r_7_5 < 0)))] [] ?_
   rcases is h with ⟨hb_7,h⟩ | ⟨hb_7,h⟩
   ·refine cT ((decide (r_7_5 < 0))) hb_7 ?_
    refine rs0 hc 1 [(4,I (-1))] [] ?_
    refine rt ?_
    obtain rfl := os h
    exact re [true]
   refine cF ((decide (r_7_5 < 0))) hb_7 ?_
   refine sk ?_
   refine rg0 hc 3 [(0,.sl (List.map GTerm_S a0)),(1,I r_7_5),(5,I (wr (i_5 + 1)))] [] ?_
   refine loopQ_norm ?_
   exact (laws_szTermS_l0_ih _ _ h c hc)
  refine cF ((decide (i_5 < (a0.length : Int)))) hb_6 ?_
  refine xt 0 ?_
  refine seqQ_exit ?_
  refine loopQ_exit ?_
  obtain rfl := os h
  exact iv []
theorem laws_szTerm_s : ∀ p r,laws_szTerm p = some r → M_laws_szTerm p r := laws_szTerm_all.1
theorem laws_szTermS_s : ∀ p r,laws_szTermS p = some r → M_laws_szTermS p r := laws_szTerm_all.2.1
theorem laws_szTermS_l0_s : ∀ p r,laws_szTermS_l0 p = some r → M_laws_szTermS_l0 p r := laws_szTerm_all.2.2
def laws_toIntS_F1 (c : Ctx) : (List Int) → Exit → AState → Prop
 | out_5 => Into c (.exit 0) (mkS [(3,.rs 1)] [(1,rI out_5)])
def laws_toIntS_l0 (p : (List Int) × (List Int) × Int) : Option ((List Int)) :=
 match p with
 | (a0,out_2,i_3) =>
  if (decide (i_3 < (a0.length : Int))) = true then
   (idx a0 i_3) >>= fun e_5_4 =>
   (idx out_2 i_3) >>= fun e_5_6 =>
   laws_toIntS_l0 (a0,(List.set out_2 (Int.toNat i_3) e_5_4),(wr (i_3 + 1)))
  else
   some (out_2)
 partial_fixpoint
def M_laws_toIntS_l0 (p : (List Int) × (List Int) × Int) (fl : (List Int)) : Prop :=
 match p with
 | (a0,out_2,i_3) => ∀ c : Ctx,c.nt = 22 → WpL Tryz.prog c (cl (cl (cr (cl (cr (cr B35)))))) (laws_toIntS_F1 c fl) (mkS [(0,sI a0),(3,.rs 1),(4,I i_3)] [(1,rI out_2)])
theorem laws_toIntS_l0_s : ∀ p r,laws_toIntS_l0 p = some r → M_laws_toIntS_l0 p r := by
 refine laws_toIntS_l0.partial_correctness M_laws_toIntS_l0 ?_
 rintro laws_toIntS_l0_f laws_toIntS_l0_ih ⟨a0,out_2,i_3⟩ r h
 intro c hc
 refine WpL.step ?_
 refine sN ?_
 refine rs hc none [oN,oN,some (.eqv (.no) ⟨[(10,I (a0.length : Int))],[],[]⟩),oN] [(0,sI a0),(3,.rs 1),(4,I i_3),(11,.bool (decide (i_3 < (a0.length : Int))))] [(1,rI out_2)] (ai (lenT (d := 10) I a0) trivial) ?_
 rcases is h with ⟨hb_4,h⟩ | ⟨hb_4,h⟩
 ·refine cT ((decide (i_3 < (a0.length : Int)))) hb_4 ?_
  refine sk ?_
  refine sN ?_
  refine bk 1 ?_
  obtain ⟨e_5_4,hi_5_4,h⟩ := bsome h
  obtain ⟨e_5_6,hi_5_6,h⟩ := bsome h
  refine rg hc none [oN,oN,oN,oN,some (.el (I e_5_4)),oN,oN,some (.eqv (.mk 0 true) ⟨[],[(1,some (.arr (List.map I (List.set out_2 (Int.toNat i_3) e_5_4))))],[]⟩)] [(0,sI a0),(3,.rs 1),(4,I i_3)] [(1,.arr (List.map I (List.set out_2 (Int.toNat i_3) e_5_4)))] (ai (ix hi_5_4) (ai (idx_own (enc := I) hi_5_6) (ai (congrArg (fun z => (⟨[],[(1,some (.arr z))],[]⟩ : Wr)) (set_row (enc := I) (i := Int.toNat i_3) (l := out_2) (v := e_5_4) (x := I e_5_4) (eq_I e_5_4))) (ai (own_set (enc := I) (sz := 1) sz_I hi_5_6) trivial)))) ?_
  refine rg0 hc 3 [(0,sI a0),(3,.rs 1),(4,I (wr (i_3 + 1)))] [(1,.arr (List.map I (List.set out_2 (Int.toNat i_3) e_5_4)))] ?_
  refine loopQ_norm ?_
  exact (laws_toIntS_l0_ih _ _ h c hc)
 refine cF ((decide (i_3 < (a0.length : Int)))) hb_4 ?_
 refine xt 0 ?_
 refine seqQ_exit ?_
 refine loopQ_exit ?_
 obtain rfl := os h
 exact iv []
def laws_toIntS (a0 : (List Int)) : Option ((List Int)) :=
  (chk (0 ≤ (a0.length : Int) ∧ (Int.toNat (a0.length : Int)) * 8 ≤ 140737488355328)) >>= fun _ =>
  (laws_toIntS_l0 (a0,(List.replicate (Int.toNat (a0.length : Int)) 0),0)) >>= fun out_5 =>
  some out_5
def M_laws_toIntS (a0 : (List Int)) (r : (List Int)) : Prop :=
 FnSound Tryz.prog 35 [sI a0] (oI r) []
theorem laws_toIntS_s : ∀ p r,laws_toIntS p = some r → M_laws_toIntS p r := by
 rintro a0 r h
 unfold laws_toIntS at h
 refine b0 Tryz.f35 B35 22 [(0,sI a0)] fun c hc => ?_
 refine rs0 hc 1 [(0,sI a0)] [] ?_
 obtain ⟨_,hk_1_2,h⟩ := bsome h
 refine rs hc none [oN,some (.eqv (.no) ⟨[(6,I (a0.length : Int))],[],[]⟩),some (.eqv (.mk 1 true) ⟨[(7,.rs 1)],[(1,some (.arr (List.map I (List.replicate (Int.toNat (a0.length : Int)) 0))))],[1]⟩),oN] [(0,sI a0),(3,.rs 1)] [(1,.arr (List.map I (List.replicate (Int.toNat (a0.length : Int)) 0)))] (ai (lenT (d := 6) I a0) (ai (congrArg (fun z => (⟨[(7,.rs 1)],[(1,some (.arr z))],[1]⟩ : Wr)) (rep_row (enc := I) (n := Int.toNat (a0.length : Int)) (x := I 0) (eq_I 0))) (ai (And.intro (Eq.refl (a0.length : Int)) (chk_of hk_1_2)) trivial))) ?_
 refine sN ?_
 refine rs0 hc 1 [(0,sI a0),(3,.rs 1),(4,I 0)] [(1,.arr (List.map I (List.replicate (Int.toNat (a0.length : Int)) 0)))] ?_
 refine bk 0 ?_
 obtain ⟨out_5,hl_6,h⟩ := bsome h
 have hL := laws_toIntS_l0_s _ _ hl_6 c hc
 refine lp ?_
 refine WpL.into (e := (.exit 0)) (mkS [(3,.rs 1)] [(1,rI out_5)]) hL ?_
 refine blockQ_hit ?_
 refine rs0 hc 2 [(2,.rs 1)] [(1,rI out_5)] ?_
 refine rt ?_
 obtain rfl := os h
 exact rq [true]
def laws_toBoolS_F1 (c : Ctx) : (List Bool) → Exit → AState → Prop
 | out_5 => Into c (.exit 0) (mkS [(3,.rs 1)] [(1,.arr (List.map AV.bool out_5))])
def laws_toBoolS_l0 (p : (List Bool) × (List Bool) × Int) : Option ((List Bool)) :=
 match p with
 | (a0,out_2,i_3) =>
  if (decide (i_3 < (a0.length : Int))) = true then
   (idx a0 i_3) >>= fun e_5_4 =>
   (idx out_2 i_3) >>= fun e_5_6 =>
   laws_toBoolS_l0 (a0,(List.set out_2 (Int.toNat i_3) e_5_4),(wr (i_3 + 1)))
  else
   some (out_2)
 partial_fixpoint
def M_laws_toBoolS_l0 (p : (List Bool) × (List Bool) × Int) (fl : (List Bool)) : Prop :=
 match p with
 | (a0,out_2,i_3) => ∀ c : Ctx,c.nt = 22 → WpL Tryz.prog c (cl (cl (cr (cl (cr (cr B74)))))) (laws_toBoolS_F1 c fl) (mkS [(0,sB a0),(3,.rs 1),(4,I i_3)] [(1,.arr (List.map AV.bool out_2))])
theorem laws_toBoolS_l0_s : ∀ p r,laws_toBoolS_l0 p = some r → M_laws_toBoolS_l0 p r := by
 refine laws_toBoolS_l0.partial_correctness M_laws_toBoolS_l0 ?_
 rintro laws_toBoolS_l0_f laws_toBoolS_l0_ih ⟨a0,out_2,i_3⟩ r h
 intro c hc
 refine WpL.step ?_
 refine sN ?_
 refine rs hc none [oN,oN,some (.eqv (.no) ⟨[(10,I (a0.length : Int))],[],[]⟩),oN] [(0,sB a0),(3,.rs 1),(4,I i_3),(11,.bool (decide (i_3 < (a0.length : Int))))] [(1,.arr (List.map AV.bool out_2))] (ai (lenT (d := 10) AV.bool a0) trivial) ?_
 rcases is h with ⟨hb_4,h⟩ | ⟨hb_4,h⟩
 ·refine cT ((decide (i_3 < (a0.length : Int)))) hb_4 ?_
  refine sk ?_
  refine sN ?_
  refine bk 1 ?_
  obtain ⟨e_5_4,hi_5_4,h⟩ := bsome h
  obtain ⟨e_5_6,hi_5_6,h⟩ := bsome h
  refine rg hc none [oN,oN,oN,oN,some (.el (.bool e_5_4)),oN,oN,some (.eqv (.mk 0 true) ⟨[],[(1,some (.arr (List.map AV.bool (List.set out_2 (Int.toNat i_3) e_5_4))))],[]⟩)] [(0,sB a0),(3,.rs 1),(4,I i_3)] [(1,.arr (List.map AV.bool (List.set out_2 (Int.toNat i_3) e_5_4)))] (ai (idx_sl (enc := AV.bool) (x := .bool e_5_4) hi_5_4 (eq_B e_5_4)) (ai (idx_own (enc := AV.bool) hi_5_6) (ai (congrArg (fun z => (⟨[],[(1,some (.arr z))],[]⟩ : Wr)) (set_row (enc := AV.bool) (i := Int.toNat i_3) (l := out_2) (v := e_5_4) (x := AV.bool e_5_4) (eq_B e_5_4))) (ai (own_set (enc := AV.bool) (sz := 1) sz_B hi_5_6) trivial)))) ?_
  refine rg0 hc 3 [(0,sB a0),(3,.rs 1),(4,I (wr (i_3 + 1)))] [(1,.arr (List.map AV.bool (List.set out_2 (Int.toNat i_3) e_5_4)))] ?_
  refine loopQ_norm ?_
  exact (laws_toBoolS_l0_ih _ _ h c hc)
 refine cF ((decide (i_3 < (a0.length : Int)))) hb_4 ?_
 refine xt 0 ?_
 refine seqQ_exit ?_
 refine loopQ_exit ?_
 obtain rfl := os h
 exact iv []
def laws_toBoolS (a0 : (List Bool)) : Option ((List Bool)) :=
  (chk (0 ≤ (a0.length : Int) ∧ (Int.toNat (a0.length : Int)) * 1 ≤ 140737488355328)) >>= fun _ =>
  (laws_toBoolS_l0 (a0,(List.replicate (Int.toNat (a0.length : Int)) false),0)) >>= fun out_5 =>
  some out_5
def M_laws_toBoolS (a0 : (List Bool)) (r : (List Bool)) : Prop :=
 FnSound Tryz.prog 74 [sB a0] (.osl (List.map AV.bool r)) []
theorem laws_toBoolS_s : ∀ p r,laws_toBoolS p = some r → M_laws_toBoolS p r := by
 rintro a0 r h
 unfold laws_toBoolS at h
 refine b0 Tryz.f74 B74 22 [(0,sB a0)] fun c hc => ?_
 refine rs0 hc 1 [(0,sB a0)] [] ?_
 obtain ⟨_,hk_1_2,h⟩ := bsome h
 refine rs hc none [oN,some (.eqv (.no) ⟨[(6,I (a0.length : Int))],[],[]⟩),some (.eqv (.mk 1 true) ⟨[(7,.rs 1)],[(1,some (.arr (List.map AV.bool (List.replicate (Int.toNat (a0.length : Int)) false))))],[1]⟩),oN] [(0,sB a0),(3,.rs 1)] [(1,.arr (List.map AV.bool (List.replicate (Int.toNat (a0.length : Int)) false)))] (ai (lenT (d := 6) AV.bool a0) (ai (congrArg (fun z => (⟨[(7,.rs 1)],[(1,some (.arr z))],[1]⟩ : Wr)) (rep_row (enc := AV.bool) (n := Int.toNat (a0.length : Int)) (x := AV.bool false) (eq_B false))) (ai (And.intro (Eq.refl (a0.length : Int)) (chk_of hk_1_2)) trivial))) ?_
 refine sN ?_
 refine rs0 hc 1 [(0,sB a0),(3,.rs 1),(4,I 0)] [(1,.arr (List.map AV.bool (List.replicate (Int.toNat (a0.length : Int)) false)))] ?_
 refine bk 0 ?_
 obtain ⟨out_5,hl_6,h⟩ := bsome h
 have hL := laws_toBoolS_l0_s _ _ hl_6 c hc
 refine lp ?_
 refine WpL.into (e := (.exit 0)) (mkS [(3,.rs 1)] [(1,.arr (List.map AV.bool out_5))]) hL ?_
 refine blockQ_hit ?_
 refine rs0 hc 2 [(2,.rs 1)] [(1,.arr (List.map AV.bool out_5))] ?_
 refine rt ?_
 obtain rfl := os h
 exact rq [true]
def laws_toSystem (a0 : GSystem) : Option (GSystem) :=
  (laws_toIntS a0.fPlus) >>= fun r_3_2 =>
  (laws_toIntS a0.fTimes) >>= fun r_4_2 =>
  (laws_toBoolS a0.fBelow) >>= fun r_5_2 =>
  some (GSystem.mk a0.fSize r_3_2 r_4_2 r_5_2)
def M_laws_toSystem (a0 : GSystem) (r : GSystem) : Prop :=
 FnSound Tryz.prog 19 [aSystem a0] (qSystem r) []
theorem laws_toSystem_s : ∀ p r,laws_toSystem p = some r → M_laws_toSystem p r := by
 rintro a0 r h
 unfold laws_toSystem at h
 refine b0 Tryz.f19 B19 20 [(0,aSystem a0)] fun c hc => ?_
 refine rs hc none [some (.new 1),some (.new 2)] [(1,.ra 1 0),(2,.ra 2 0)] [(1,bSystem a0),(2,.box [I 0,.nils,.nils,.nils])] trivial ?_
 refine rs hc none [some (.new 3)] [(1,.ra 1 0),(2,.ra 2 0),(3,.ra 3 0)] [(1,bSystem a0),(2,.box [I 0,.nils,.nils,.nils]),(3,.box [I 0,.nils,.nils,.nils])] trivial ?_
 refine rs0 hc 4 [(1,.ra 1 0),(2,.ra 2 0),(3,.ra 3 0)] [(1,bSystem a0),(2,.box [I 0,.nils,.nils,.nils]),(3,.box [I a0.fSize,.nils,.nils,.nils])] ?_
 obtain ⟨r_3_2,hr_3_2,h⟩ := bsome h
 refine rs hc none [oN,oN,some (.call (oI r_3_2) [] 4),oN,oN] [(1,.ra 1 0),(2,.ra 2 0),(3,.ra 3 0)] [(1,bSystem a0),(2,.box [I 0,.nils,.nils,.nils]),(3,.box [I a0.fSize,.rs 4,.nils,.nils]),(4,rI r_3_2)] (ai (laws_toIntS_s _ _ hr_3_2) (ai bod_35 (ai (oi (oI r_3_2)) trivial))) ?_
 obtain ⟨r_4_2,hr_4_2,h⟩ := bsome h
 refine rs hc none [oN,oN,some (.call (oI r_4_2) [] 5),oN,oN] [(1,.ra 1 0),(2,.ra 2 0),(3,.ra 3 0)] [(1,bSystem a0),(2,.box [I 0,.nils,.nils,.nils]),(3,.box [I a0.fSize,.rs 4,.rs 5,.nils]),(4,rI r_3_2),(5,rI r_4_2)] (ai (laws_toIntS_s _ _ hr_4_2) (ai bod_35 (ai (oi (oI r_4_2)) trivial))) ?_
 obtain ⟨r_5_2,hr_5_2,h⟩ := bsome h
 refine rs hc none [oN,oN,some (.call (.osl (List.map AV.bool r_5_2)) [] 6),oN,oN] [(2,.ra 2 0),(3,.ra 3 0)] [(2,.box [I 0,.nils,.nils,.nils]),(3,.box [I a0.fSize,.rs 4,.rs 5,.rs 6]),(4,rI r_3_2),(5,rI r_4_2),(6,.arr (List.map AV.bool r_5_2))] (ai (laws_toBoolS_s _ _ hr_5_2) (ai bod_74 (ai (oi (.osl (List.map AV.bool r_5_2))) trivial))) ?_
 refine rs0 hc 2 [(2,.ra 2 0)] [(2,.box [I a0.fSize,.rs 4,.rs 5,.rs 6]),(4,rI r_3_2),(5,rI r_4_2),(6,.arr (List.map AV.bool r_5_2))] ?_
 refine rt ?_
 obtain rfl := os h
 exact rq [true]
def laws_toIntSS_F1 (c : Ctx) : (List (List Int)) → Exit → AState → Prop
 | out_5 => Into c (.exit 0) (mkS [(3,.rs 1)] [(1,.arr (List.map LI_o out_5))])
def laws_toIntSS_l0 (p : (List (List Int)) × (List (List Int)) × Int) : Option ((List (List Int))) :=
 match p with
 | (a0,out_2,i_3) =>
  if (decide (i_3 < (a0.length : Int))) = true then
   (idx a0 i_3) >>= fun e_5_4 =>
   (laws_toIntS e_5_4) >>= fun r_5_6 =>
   (idx out_2 i_3) >>= fun e_5_7 =>
   laws_toIntSS_l0 (a0,(List.set out_2 (Int.toNat i_3) r_5_6),(wr (i_3 + 1)))
  else
   some (out_2)
 partial_fixpoint
def M_laws_toIntSS_l0 (p : (List (List Int)) × (List (List Int)) × Int) (fl : (List (List Int))) : Prop :=
 match p with
 | (a0,out_2,i_3) => ∀ c : Ctx,c.nt = 23 → WpL Tryz.prog c (cl (cl (cr (cl (cr (cr B20)))))) (laws_toIntSS_F1 c fl) (mkS [(0,sL a0),(3,.rs 1),(4,I i_3)] [(1,.arr (List.map LI_o out_2))])
theorem laws_toIntSS_l0_s : ∀ p r,laws_toIntSS_l0 p = some r → M_laws_toIntSS_l0 p r := by
 refine laws_toIntSS_l0.partial_correctness M_laws_toIntSS_l0 ?_
 rintro laws_toIntSS_l0_f laws_toIntSS_l0_ih ⟨a0,out_2,i_3⟩ r h
 intro c hc
 refine WpL.step ?_
 refine sN ?_
 refine rs hc none [oN,oN,some (.eqv (.no) ⟨[(10,I (a0.length : Int))],[],[]⟩),oN] [(0,sL a0),(3,.rs 1),(4,I i_3),(11,.bool (decide (i_3 < (a0.length : Int))))] [(1,.arr (List.map LI_o out_2))] (ai (lenT (d := 10) LI_s a0) trivial) ?_
 rcases is h with ⟨hb_4,h⟩ | ⟨hb_4,h⟩
 ·refine cT ((decide (i_3 < (a0.length : Int)))) hb_4 ?_
  refine sk ?_
  refine sN ?_
  refine bk 1 ?_
  obtain ⟨e_5_4,hi_5_4,h⟩ := bsome h
  obtain ⟨r_5_6,hr_5_6,h⟩ := bsome h
  obtain ⟨e_5_7,hi_5_7,h⟩ := bsome h
  refine rg hc none [oN,oN,oN,oN,some (.el (sI e_5_4)),oN,some (.call (oI r_5_6) [] 3),oN,some (.eqv (.mk 0 true) ⟨[],[(1,some (.arr (List.map LI_o (List.set out_2 (Int.toNat i_3) r_5_6)))),(3,none)],[]⟩)] [(0,sL a0),(3,.rs 1),(4,I i_3)] [(1,.arr (List.map LI_o (List.set out_2 (Int.toNat i_3) r_5_6)))] (ai (idx_sl (enc := LI_s) (x := sI e_5_4) hi_5_4 (eq_LI_s e_5_4)) (ai (laws_toIntS_s _ _ hr_5_6) (ai bod_35 (ai (oi (oI r_5_6)) (ai (idx_own (enc := LI_o) hi_5_7) (ai (congrArg (fun z => (⟨[],[(1,some (.arr z)),(3,none)],[]⟩ : Wr)) (set_row (enc := LI_o) (i := Int.toNat i_3) (l := out_2) (v := r_5_6) (x := oI r_5_6) (eq_LI_o r_5_6))) (ai (own_set (enc := LI_o) (sz := 1) sz_LI_o hi_5_7) trivial))))))) ?_
  refine rg0 hc 3 [(0,sL a0),(3,.rs 1),(4,I (wr (i_3 + 1)))] [(1,.arr (List.map LI_o (List.set out_2 (Int.toNat i_3) r_5_6)))] ?_
  refine loopQ_norm ?_
  exact (laws_toIntSS_l0_ih _ _ h c hc)
 refine cF ((decide (i_3 < (a0.length : Int)))) hb_4 ?_
 refine xt 0 ?_
 refine seqQ_exit ?_
 refine loopQ_exit ?_
 obtain rfl := os h
 exact iv []
def laws_toIntSS (a0 : (List (List Int))) : Option ((List (List Int))) :=
  (chk (0 ≤ (a0.length : Int) ∧ (Int.toNat (a0.length : Int)) * 24 ≤ 140737488355328)) >>= fun _ =>
  (laws_toIntSS_l0 (a0,(List.replicate (Int.toNat (a0.length : Int)) []),0)) >>= fun out_5 =>
  some out_5
def M_laws_toIntSS (a0 : (List (List Int))) (r : (List (List Int))) : Prop :=
 FnSound Tryz.prog 20 [sL a0] (.osl (List.map LI_o r)) []
theorem laws_toIntSS_s : ∀ p r,laws_toIntSS p = some r → M_laws_toIntSS p r := by
 rintro a0 r h
 unfold laws_toIntSS at h
 refine b0 Tryz.f20 B20 23 [(0,sL a0)] fun c hc => ?_
 refine rs0 hc 1 [(0,sL a0)] [] ?_
 obtain ⟨_,hk_1_2,h⟩ := bsome h
 refine rs hc none [oN,some (.eqv (.no) ⟨[(6,I (a0.length : Int))],[],[]⟩),some (.eqv (.mk 1 true) ⟨[(7,.rs 1)],[(1,some (.arr (List.map LI_o (List.replicate (Int.toNat (a0.length : Int)) []))))],[1]⟩),oN] [(0,sL a0),(3,.rs 1)] [(1,.arr (List.map LI_o (List.replicate (Int.toNat (a0.length : Int)) [])))] (ai (lenT (d := 6) LI_s a0) (ai (congrArg (fun z => (⟨[(7,.rs 1)],[(1,some (.arr z))],[1]⟩ : Wr)) (rep_row (enc := LI_o) (n := Int.toNat (a0.length : Int)) (x := AV.osl (List.map I [])) (eq_LI_o []))) (ai (And.intro (Eq.refl (a0.length : Int)) (chk_of hk_1_2)) trivial))) ?_
 refine sN ?_
 refine rs0 hc 1 [(0,sL a0),(3,.rs 1),(4,I 0)] [(1,.arr (List.map LI_o (List.replicate (Int.toNat (a0.length : Int)) [])))] ?_
 refine bk 0 ?_
 obtain ⟨out_5,hl_6,h⟩ := bsome h
 have hL := laws_toIntSS_l0_s _ _ hl_6 c hc
 refine lp ?_
 refine WpL.into (e := (.exit 0)) (mkS [(3,.rs 1)] [(1,.arr (List.map LI_o out_5))]) hL ?_
 refine blockQ_hit ?_
 refine rs0 hc 2 [(2,.rs 1)] [(1,.arr (List.map LI_o out_5))] ?_
 refine rt ?_
 obtain rfl := os h
 exact rq [true]
def laws_toTermS_F1 (c : Ctx) : (List GTerm) → Exit → AState → Prop
 | out_5 => Into c (.exit 0) (mkS [(3,.rs 1)] [(1,.arr (List.map GTerm_O out_5))])
mutual
def laws_toTerm (a0 : GTerm) : Option (GTerm) :=
  (laws_toIntS a0.fType) >>= fun r_4_2 =>
  (laws_toTermS a0.fKids) >>= fun r_5_2 =>
  some (GTerm.mk a0.fOp a0.fN r_4_2 r_5_2)
 partial_fixpoint
def laws_toTermS (a0 : (List GTerm)) : Option ((List GTerm)) :=
  (chk (0 ≤ (a0.length : Int) ∧ (Int.toNat (a0.length : Int)) * 64 ≤ 140737488355328)) >>= fun _ =>
  (laws_toTermS_l0 (a0,(List.replicate (Int.toNat (a0.length : Int)) (GTerm.mk 0 0 [] [])),0)) >>= fun out_5 =>
  some out_5
 partial_fixpoint
def laws_toTermS_l0 (p : (List GTerm) × (List GTerm) × Int) : Option ((List GTerm)) :=
 match p with
 | (a0,out_2,i_3) =>
  if (decide (i_3 < (a0.length : Int))) = true then
   (idx a0 i_3) >>= fun e_5_4 =>
   (laws_toTerm e_5_4) >>= fun r_5_6 =>
   (idx out_2 i_3) >>= fun e_5_7 =>
   laws_toTermS_l0 (a0,(List.set out_2 (Int.toNat i_3) r_5_6),(wr (i_3 + 1)))
  else
   some (out_2)
 partial_fixpoint
end
def M_laws_toTerm (a0 : GTerm) (r : GTerm) : Prop :=
 FnSound Tryz.prog 21 [aTerm a0] (qTerm r) []
def M_laws_toTermS (a0 : (List GTerm)) (r : (List GTerm)) : Prop :=
 FnSound Tryz.prog 75 [.sl (List.map GTerm_S a0)] (.osl (List.map GTerm_O r)) []
def M_laws_toTermS_l0 (p : (List GTerm) × (List GTerm) × Int) (fl : (List GTerm)) : Prop :=
 match p with
 | (a0,out_2,i_3) => ∀ c : Ctx,c.nt = 23 → WpL Tryz.prog c (cl (cl (cr (cl (cr (cr B75)))))) (laws_toTermS_F1 c fl) (mkS [(0,.sl (List.map GTerm_S a0)),(3,.rs 1),(4,I i_3)] [(1,.arr (List.map GTerm_O out_2))])
theorem laws_toTerm_all : (∀ p r,laws_toTerm p = some r → M_laws_toTerm p r) ∧ (∀ p r,laws_toTermS p = some r → M_laws_toTermS p r) ∧ (∀ p r,laws_toTermS_l0 p = some r → M_laws_toTermS_l0 p r) := by
 refine laws_toTerm.mutual_partial_correctness M_laws_toTerm M_laws_toTermS M_laws_toTermS_l0 ?_ ?_ ?_
 ·rintro laws_toTermS_f laws_toTermS_ih a0 r h
  refine b0 Tryz.f21 B21 19 [(0,aTerm a0)] fun c hc => ?_
  refine rs hc none [some (.new 1),some (.new 2)] [(1,.ra 1 0),(2,.ra 2 0)] [(1,bTerm a0),(2,.box [I 0,I 0,.nils,.nils])] trivial ?_
  refine rs hc none [some (.new 3)] [(1,.ra 1 0),(2,.ra 2 0),(3,.ra 3 0)] [(1,bTerm a0),(2,.box [I 0,I 0,.nils,.nils]),(3,.box [I 0,I 0,.nils,.nils])] trivial ?_
  refine rs0 hc 4 [(1,.ra 1 0),(2,.ra 2 0),(3,.ra 3 0)] [(1,bTerm a0),(2,.box [I 0,I 0,.nils,.nils]),(3,.box [I a0.fOp,I 0,.nils,.nils])] ?_
  refine rs0 hc 4 [(1,.ra 1 0),(2,.ra 2 0),(3,.ra 3 0)] [(1,bTerm a0),(2,.box [I 0,I 0,.nils,.nils]),(3,.box [I a0.fOp,I a0.fN,.nils,.nils])] ?_
  obtain ⟨r_4_2,hr_4_2,h⟩ := bsome h
  refine rs hc none [oN,oN,some (.call (oI r_4_2) [] 4),oN,oN] [(1,.ra 1 0),(2,.ra 2 0),(3,.ra 3 0)] [(1,bTerm a0),(2,.box [I 0,I 0,.nils,.nils]),(3,.box [I a0.fOp,I a0.fN,.rs 4,.nils]),(4,rI r_4_2)] (ai (laws_toIntS_s _ _ hr_4_2) (ai bod_35 (ai (oi (oI r_4_2)) trivial))) ?_
  obtain ⟨r_5_2,hr_5_2,h⟩ := bsome h
  refine rs hc none [oN,oN,some (.call (.osl (List.map GTerm_O r_5_2)) [] 5),oN,oN] [(2,.ra 2 0),(3,.ra 3 0)] [(2,.box [I 0,I 0,.nils,.nils]),(3,.box [I a0.fOp,I a0.fN,.rs 4,.rs 5]),(4,rI r_4_2),(5,.arr (List.map GTerm_O r_5_2))] (ai (laws_toTermS_ih _ _ hr_5_2) (ai bod_75 (ai (oi (.osl (List.map GTerm_O r_5_2))) trivial))) ?_
  refine rs0 hc 2 [(2,.ra 2 0)] [(2,.box [I a0.fOp,I a0.fN,.rs 4,.rs 5]),(4,rI r_4_2),(5,.arr (List.map GTerm_O r_5_2))] ?_
  refine rt ?_
  obtain rfl := os h
  exact rq [true]
 ·rintro laws_toTermS_l0_f laws_toTermS_l0_ih a0 r h
  refine b0 Tryz.f75 B75 23 [(0,.sl (List.map GTerm_S a0))] fun c hc => ?_
  refine rs0 hc 1 [(0,.sl (List.map GTerm_S a0))] [] ?_
  obtain ⟨_,hk_1_2,h⟩ := bsome h
  refine rs hc none [oN,some (.eqv (.no) ⟨[(6,I (a0.length : Int))],[],[]⟩),some (.eqv (.mk 1 true) ⟨[(7,.rs 1)],[(1,some (.arr (List.map GTerm_O (List.replicate (Int.toNat (a0.length : Int)) (GTerm.mk 0 0 [] [])))))],[1]⟩),oN] [(0,.sl (List.map GTerm_S a0)),(3,.rs 1)] [(1,.arr (List.map GTerm_O (List.replicate (Int.toNat (a0.length : Int)) (GTerm.mk 0 0 [] []))))] (ai (lenT (d := 6) GTerm_S a0) (ai (congrArg (fun z => (⟨[(7,.rs 1)],[(1,some (.arr z))],[1]⟩ : Wr)) (rep_row (enc := GTerm_O) (n := Int.toNat (a0.length : Int)) (x := AV.agg [I ((GTerm.mk 0 0 [] []).fOp),I ((GTerm.mk 0 0 [] []).fN),.osl (List.map I ((GTerm.mk 0 0 [] []).fType)),.osl (List.map GTerm_O ((GTerm.mk 0 0 [] []).fKids))]) (eq_GTerm_O (GTerm.mk 0 0 [] [])))) (ai (And.intro (Eq.refl (a0.length : Int)) (chk_of hk_1_2)) trivial))) ?_
  refine sN ?_
  refine rs0 hc 1 [(0,.sl (List.map GTerm_S a0)),(3,.rs 1),(4,I 0)] [(1,.arr (List.map GTerm_O (List.replicate (Int.toNat (a0.length : Int)) (GTerm.mk 0 0 [] []))))] ?_
  refine bk 0 ?_
  obtain ⟨out_5,hl_6,h⟩ := bsome h
  have hL := laws_toTermS_l0_ih _ _ hl_6 c hc
  refine lp ?_
  refine WpL.into (e := (.exit 0)) (mkS [(3,.rs 1)] [(1,.arr (List.map GTerm_O out_5))]) hL ?_
  refine blockQ_hit ?_
  refine rs0 hc 2 [(2,.rs 1)] [(1,.arr (List.map GTerm_O out_5))] ?_
  refine rt ?_
  obtain rfl := os h
  exact rq [true]
 ·rintro laws_toTerm_f laws_toTermS_l0_f laws_toTerm_ih laws_toTermS_l0_ih ⟨a0,out_2,i_3⟩ r h
  intro c hc
  refine WpL.step ?_
  refine sN ?_
  refine rs hc none [oN,oN,some (.eqv (.no) ⟨[(10,I (a0.length : Int))],[],[]⟩),oN] [(0,.sl (List.map GTerm_S a0)),(3,.rs 1),(4,I i_3),(11,.bool (decide (i_3 < (a0.length : Int))))] [(1,.arr (List.map GTerm_O out_2))] (ai (lenT (d := 10) GTerm_S a0) trivial) ?_
  rcases is h with ⟨hb_4,h⟩ | ⟨hb_4,h⟩
  ·refine cT ((decide (i_3 < (a0.length : Int)))) hb_4 ?_
   refine sk ?_
   refine sN ?_
   refine bk 1 ?_
   obtain ⟨e_5_4,hi_5_4,h⟩ := bsome h
   obtain ⟨r_5_6,hr_5_6,h⟩ := bsome h
   obtain ⟨e_5_7,hi_5_7,h⟩ := bsome h
   refine rg hc none [oN,oN,oN,oN,some (.el (aTerm e_5_4)),oN,some (.call (qTerm r_5_6) [] 4),oN,some (.eqv (.mk 0 true) ⟨[],[(1,some (.arr (List.map GTerm_O (List.set out_2 (Int.toNat i_3) r_5_6)))),(4,none),(5,none)],[]⟩)] [(0,.sl (List.map GTerm_S a0)),(3,.rs 1),(4,I i_3)] [(1,.arr (List.map GTerm_O (List.set out_2 (Int.toNat i_3) r_5_6)))] (ai (idx_sl (enc := GTerm_S) (x := aTerm e_5_4) hi_5_4 (eq_GTerm_S e_5_4)) (ai (laws_toTerm_ih _ _ hr_5_6) (ai bod_21 (ai (oi (qTerm r_5_6)) (ai (idx_own (enc := GTerm_O) hi_5_7) (ai (congrArg (fun z => (⟨[],[(1,some (.arr z)),(4,none),(5,none)],[]⟩ : Wr)) (set_row (enc := GTerm_O) (i := Int.toNat i_3) (l := out_2) (v := r_5_6) (x := AV.agg [I r_5_6.fOp,I r_5_6.fN,oI r_5_6.fType,AV.osl (List.map GTerm_O r_5_6.fKids)]) (eq_GTerm_O r_5_6))) (ai (own_set (enc := GTerm_O) (sz := 4) sz_GTerm_O hi_5_7) trivial))))))) ?_
   refine rg0 hc 3 [(0,.sl (List.map GTerm_S a0)),(3,.rs 1),(4,I (wr (i_3 + 1)))] [(1,.arr (List.map GTerm_O (List.set out_2 (Int.toNat i_3) r_5_6)))] ?_
   refine loopQ_norm ?_
   exact (laws_toTermS_l0_ih _ _ h c hc)
  refine cF ((decide (i_3 < (a0.length : Int)))) hb_4 ?_
  refine xt 0 ?_
  refine seqQ_exit ?_
  refine loopQ_exit ?_
  obtain rfl := os h
  exact iv []
theorem laws_toTerm_s : ∀ p r,laws_toTerm p = some r → M_laws_toTerm p r := laws_toTerm_all.1
theorem laws_toTermS_s : ∀ p r,laws_toTermS p = some r → M_laws_toTermS p r := laws_toTerm_all.2.1
theorem laws_toTermS_l0_s : ∀ p r,laws_toTermS_l0 p = some r → M_laws_toTermS_l0 p r := laws_toTerm_all.2.2
def spec_l1In (p : Int × Int × Int) : Option (Bool) :=
 match p with
 | (n0,low1,high2) =>
  ((
   if (decide (n0 ≥ low1)) = true then
    some ((decide (n0 ≤ high2)))
   else
    some (false)
  ) : Option (Bool)) >>= fun v_1 =>
  some v_1
def M_spec_l1In (p : Int × Int × Int) (r : Bool) : Prop :=
 match p with
 | (n0,low1,high2) => FnSound Tryz.prog 100 [I n0,I low1,I high2] (.bool r) []
theorem spec_l1In_s : ∀ p r,spec_l1In p = some r → M_spec_l1In p r := by
 rintro ⟨n0,low1,high2⟩ r h
 unfold spec_l1In at h
 refine b0 Tryz.f100 B100 15 [(0,I n0),(1,I low1),(2,I high2)] fun c hc => ?_
 refine rs0 hc 1 [(0,I n0),(1,I low1),(2,I high2)] [] ?_
 refine sN ?_
 obtain ⟨v_1,hj_2,h⟩ := bsome h
 refine Wp.into (x := .normal) (mkS [(6,.bool v_1)] []) ?_ ?_
 ·replace h := hj_2
  rcases is h with ⟨hb_1_0,h⟩ | ⟨hb_1_0,h⟩
  ·refine rg hc none [oN,oN,oN,oN,oN,oN,oN,oT,oN] [(6,.bool (decide (n0 ≤ high2)))] [] (ar 4 hb_1_0 trivial) ?_
   obtain rfl := os h
   exact Into.mk
  refine rg hc none [oN,oN,oN,oN,o_,o_,o_,oF,oN] [(6,.bool false)] [] (ar 3 (neT hb_1_0) (ai hb_1_0 trivial)) ?_
  obtain rfl := os h
  exact Into.mk
 clear hj_2
 refine rt ?_
 obtain rfl := os h
 exact rq [true]
def spec_l1Tables_F1 (c : Ctx) : (Unit) ⊕ (Bool) → Exit → AState → Prop
 | .inl _ => Into c (.exit 0) (mkS [] [])
 | .inr r => RetE TIx Tryz.f202 [] (.bool r)
def spec_l1Tables_l0 (p : GSystem × Int) : Option ((Unit) ⊕ (Bool)) :=
 match p with
 | (s0,i_8) =>
  if (decide (i_8 < (s0.fPlus.length : Int))) = true then
   ((
    (idx s0.fPlus i_8) >>= fun e_6_3 =>
    (spec_l1In (e_6_3,0,(wr (s0.fSize - 1)))) >>= fun r_6_8 =>
    if r_6_8 = true then
     (idx s0.fTimes i_8) >>= fun e_6_14 =>
     (spec_l1In (e_6_14,0,(wr (s0.fSize - 1)))) >>= fun r_6_19 =>
     some ((!r_6_19))
    else
     some (true)
   ) : Option (Bool)) >>= fun v_10 =>
   if v_10 = true then
    some (.inr false)
   else
    spec_l1Tables_l0 (s0,(wr (i_8 + 1)))
  else
   some (.inl ())
 partial_fixpoint
def M_spec_l1Tables_l0 (p : GSystem × Int) (fl : (Unit) ⊕ (Bool)) : Prop :=
 match p with
 | (s0,i_8) => ∀ c : Ctx,c.nt = 70 → WpL Tryz.prog c (cl (cl (cr (cl (cr (cr B202)))))) (spec_l1Tables_F1 c fl) (mkS [(1,.ra 1 0),(3,I i_8)] [(1,bSystem s0)])
theorem spec_l1Tables_l0_s : ∀ p r,spec_l1Tables_l0 p = some r → M_spec_l1Tables_l0 p r := by
 refine spec_l1Tables_l0.partial_correctness M_spec_l1Tables_l0 ?_
 rintro spec_l1Tables_l0_f spec_l1Tables_l0_ih ⟨s0,i_8⟩ r h
 intro c hc
 refine WpL.step ?_
 refine sN ?_
 refine rs hc none [oN,oN,oN,some (.eqv (.no) ⟨[(44,I (s0.fPlus.length : Int))],[],[]⟩),oN] [(1,.ra 1 0),(3,I i_8),(45,.bool (decide (i_8 < (s0.fPlus.length : Int))))] [(1,bSystem s0)] (ai (lenT (d := 44) I s0.fPlus) trivial) ?_
 rcases is h with ⟨hb_9,h⟩ | ⟨hb_9,h⟩
 ·refine cT ((decide (i_8 < (s0.fPlus.length : Int)))) hb_9 ?_
  refine sk ?_
  refine sN ?_
  refine bk 1 ?_
  refine sN ?_
  obtain ⟨v_10,hj_11,h⟩ := bsome h
  refine Wp.into (x := .normal) (mkS [(1,.ra 1 0),(3,I i_8),(69,.bool v_10)] [(1,bSystem s0)]) ?_ ?_
  ·replace h := hj_11
   obtain ⟨e_6_3,hi_6_3,h⟩ := bsome h
   obtain ⟨r_6_8,hr_6_8,h⟩ := bsome h
   rcases is h with ⟨hb_6_0,h⟩ | ⟨hb_6_0,h⟩
   ·obtain ⟨e_6_14,hi_6_14,h⟩ := bsome h
    obtain ⟨r_6_19,hr_6_19,h⟩ := bsome h
    refine rg hc ah0_0 [oN,oN,oN,some (.el (I e_6_3)),oN,oN,oN,oN,oc (.bool r_6_8),oN,oN,oN,oN,oN,some (.el (I e_6_14)),oN,oN,oN,oN,oc (.bool r_6_19),oN,oF] [(1,.ra 1 0),(3,I i_8),(69,.bool (!r_6_19))] [(1,bSystem s0)] (ai (ix hi_6_3) (ai (spec_l1In_s _ _ hr_6_8) (ai bod_100 (ai (oi (.bool r_6_8)) (ar 4 (nF hb_6_0) (ai (ix hi_6_14) (ar 5 (nF hb_6_0) (ai (spec_l1In_s _ _ hr_6_19) (ai bod_100 (ai (oi (.bool r_6_19)) (ar 2 (nF hb_6_0) trivial))))))))))) ?_
    obtain rfl := os h
    exact Into.mk
   refine rg hc ah0_0 [oN,oN,oN,some (.el (I e_6_3)),oN,oN,oN,oN,oc (.bool r_6_8),oN,oN,o_,o_,o_,o_,o_,o_,o_,o_,o_,o_,oT] [(1,.ra 1 0),(3,I i_8),(69,.bool true)] [(1,bSystem s0)] (ai (ix hi_6_3) (ai (spec_l1In_s _ _ hr_6_8) (ai bod_100 (ai (oi (.bool r_6_8)) (ar 10 (neF (nT hb_6_0)) (ai (nT hb_6_0) trivial)))))) ?_
   obtain rfl := os h
   exact Into.mk
  clear hj_11
  rcases is h with ⟨hb_12,h⟩ | ⟨hb_12,h⟩
  ·refine cT v_10 hb_12 ?_
   refine rs0 hc 1 [(2,.bool false)] [] ?_
   refine rt ?_
   obtain rfl := os h
   exact re [true]
  refine cF v_10 hb_12 ?_
  refine sk ?_
  refine rg0 hc 3 [(1,.ra 1 0),(3,I (wr (i_8 + 1)))] [(1,bSystem s0)] ?_
  refine loopQ_norm ?_
  exact (spec_l1Tables_l0_ih _ _ h c hc)
 refine cF ((decide (i_8 < (s0.fPlus.length : Int)))) hb_9 ?_
 refine xt 0 ?_
 refine seqQ_exit ?_
 refine loopQ_exit ?_
 obtain rfl := os h
 exact iv []
def spec_l1Tables (s0 : GSystem) : Option (Bool) :=
  ((
   (spec_l1In (s0.fSize,2,16)) >>= fun r_1_2 =>
   if r_1_2 = true then
    if ((s0.fPlus.length : Int) != (wr (s0.fSize * s0.fSize))) = true then
     some (true)
    else
     if ((s0.fTimes.length : Int) != (wr (s0.fSize * s0.fSize))) = true then
      some (true)
     else
      some (((s0.fBelow.length : Int) != (wr (s0.fSize * s0.fSize))))
   else
    some (true)
  ) : Option (Bool)) >>= fun v_1 =>
  if v_1 = true then
   some false
  else
   (spec_l1Tables_l0 (s0,0)) >>= fun fl => match fl with
   | .inl () =>
    some true
   | .inr r =>
    some r
def M_spec_l1Tables (s0 : GSystem) (r : Bool) : Prop :=
 FnSound Tryz.prog 202 [aSystem s0] (.bool r) []
theorem spec_l1Tables_s : ∀ p r,spec_l1Tables p = some r → M_spec_l1Tables p r := by
 rintro s0 r h
 unfold spec_l1Tables at h
 refine b0 Tryz.f202 B202 70 [(0,aSystem s0)] fun c hc => ?_
 refine rs hc none [some (.new 1),oN] [(1,.ra 1 0)] [(1,bSystem s0)] trivial ?_
 refine sN ?_
 refine sN ?_
 obtain ⟨v_1,hj_2,h⟩ := bsome h
 refine Wp.into (x := .normal) (mkS [(1,.ra 1 0),(40,.bool v_1)] [(1,bSystem s0)]) ?_ ?_
 ·replace h := hj_2
  obtain ⟨r_1_2,hr_1_2,h⟩ := bsome h
  rcases is h with ⟨hb_1_0,h⟩ | ⟨hb_1_0,h⟩
  ·rcases is h with ⟨hb_1_1,h⟩ | ⟨hb_1_1,h⟩
   ·refine rg hc none [oN,oN,oc (.bool r_1_2),oN,oN,oN,oN,some (.eqv (.no) ⟨[(11,I (s0.fPlus.length : Int))],[],[]⟩),oN,oN,oN,oN,oN,oN,oF,oN,o_,o_,o_,o_,o_,o_,o_,o_,o_,oT,oN,o_,o_,o_,o_,o_,o_,o_,o_,o_,oT] [(1,.ra 1 0),(40,.bool true)] [(1,bSystem s0)] (ai (spec_l1In_s _ _ hr_1_2) (ai bod_100 (ai (oi (.bool r_1_2)) (ar 3 (nF hb_1_0) (ai (lenT (d := 11) I s0.fPlus) (ar 7 (nF hb_1_0) (ar 9 (neF hb_1_1) (ai hb_1_1 (ar 9 nf (ai tt trivial)))))))))) ?_
    obtain rfl := os h
    exact Into.mk
   rcases is h with ⟨hb_1_2,h⟩ | ⟨hb_1_2,h⟩
   ·refine rg hc none [oN,oN,oc (.bool r_1_2),oN,oN,oN,oN,some (.eqv (.no) ⟨[(11,I (s0.fPlus.length : Int))],[],[]⟩),oN,oN,oN,oN,oN,oN,oF,oN,oN,oN,some (.eqv (.no) ⟨[(22,I (s0.fTimes.length : Int))],[],[]⟩),oN,oN,oN,oN,oN,oN,oF,oN,o_,o_,o_,o_,o_,o_,o_,o_,o_,oT] [(1,.ra 1 0),(40,.bool true)] [(1,bSystem s0)] (ai (spec_l1In_s _ _ hr_1_2) (ai bod_100 (ai (oi (.bool r_1_2)) (ar 3 (nF hb_1_0) (ai (lenT (d := 11) I s0.fPlus) (ar 7 (nF hb_1_0) (ar 3 hb_1_1 (ai (lenT (d := 22) I s0.fTimes) (ar 7 hb_1_1 (ar 9 (neF hb_1_2) (ai hb_1_2 trivial))))))))))) ?_
    obtain rfl := os h
    exact Into.mk
   refine rg hc none [oN,oN,oc (.bool r_1_2),oN,oN,oN,oN,some (.eqv (.no) ⟨[(11,I (s0.fPlus.length : Int))],[],[]⟩),oN,oN,oN,oN,oN,oN,oF,oN,oN,oN,some (.eqv (.no) ⟨[(22,I (s0.fTimes.length : Int))],[],[]⟩),oN,oN,oN,oN,oN,oN,oF,oN,oN,oN,some (.eqv (.no) ⟨[(33,I (s0.fBelow.length : Int))],[],[]⟩),oN,oN,oN,oN,oN,oN,oF] [(1,.ra 1 0),(40,.bool ((s0.fBelow.length : Int) != (wr (s0.fSize * s0.fSize))))] [(1,bSystem s0)] (ai (spec_l1In_s _ _ hr_1_2) (ai bod_100 (ai (oi (.bool r_1_2)) (ar 3 (nF hb_1_0) (ai (lenT (d := 11) I s0.fPlus) (ar 7 (nF hb_1_0) (ar 3 hb_1_1 (ai (lenT (d := 22) I s0.fTimes) (ar 7 hb_1_1 (ar 3 hb_1_2 (ai (lenT (d := 33) AV.bool s0.fBelow) (ar 7 hb_1_2 trivial)))))))))))) ?_
   obtain rfl := os h
   exact Into.mk
  refine rg hc none [oN,oN,oc (.bool r_1_2),oN,oN,o_,o_,o_,o_,o_,o_,o_,o_,o_,oT,oN,o_,o_,o_,o_,o_,o_,o_,o_,o_,oT,oN,o_,o_,o_,o_,o_,o_,o_,o_,o_,oT] [(1,.ra 1 0),(40,.bool true)] [(1,bSystem s0)] (ai (spec_l1In_s _ _ hr_1_2) (ai bod_100 (ai (oi (.bool r_1_2)) (ar 9 (neF (nT hb_1_0)) (ai (nT hb_1_0) (ar 9 nf (ai tt (ar 9 nf (ai tt trivial))))))))) ?_
  obtain rfl := os h
  exact Into.mk
 clear hj_2
 rcases is h with ⟨hb_3,h⟩ | ⟨hb_3,h⟩
 ·refine cT v_1 hb_3 ?_
  refine rs0 hc 1 [(2,.bool false)] [] ?_
  refine rt ?_
  obtain rfl := os h
  exact rq [true]
 refine cF v_1 hb_3 ?_
 refine sk ?_
 refine sN ?_
 refine rs0 hc 1 [(1,.ra 1 0),(3,I 0)] [(1,bSystem s0)] ?_
 refine bk 0 ?_
 obtain ⟨fl,hl_13,h⟩ := bsome h
 have hL := spec_l1Tables_l0_s _ _ hl_13 c hc
 refine lp ?_
 rcases fl with ⟨⟩ | r
 ·refine WpL.into (e := (.exit 0)) (mkS [] []) hL ?_
  refine blockQ_hit ?_
  refine rs0 hc 1 [(2,.bool true)] [] ?_
  refine rt ?_
  obtain rfl := os h
  exact rq [true]
 refine WpL.mono hL ?_
 rintro _ _ ⟨rfl,hfin⟩
 obtain rfl := os h
 exact ⟨.inl rfl,hfin⟩
def spec_l1Add (p : GSystem × Int × Int) : Option (Int) :=
 match p with
 | (s0,a1,b2) =>
  (idx s0.fPlus (wr ((wr (a1 * s0.fSize)) + b2))) >>= fun e_1_8 =>
  some e_1_8
def M_spec_l1Add (p : GSystem × Int × Int) (r : Int) : Prop :=
 match p with
 | (s0,a1,b2) => FnSound Tryz.prog 206 [aSystem s0,I a1,I b2] (I r) []
theorem spec_l1Add_s : ∀ p r,spec_l1Add p = some r → M_spec_l1Add p r := by
 rintro ⟨s0,a1,b2⟩ r h
 unfold spec_l1Add at h
 refine b0 Tryz.f206 B206 17 [(0,aSystem s0),(1,I a1),(2,I b2)] fun c hc => ?_
 refine rs hc none [some (.new 1),oN] [(1,I a1),(2,I b2),(3,.ra 1 0)] [(1,bSystem s0)] trivial ?_
 obtain ⟨e_1_8,hi_1_8,h⟩ := bsome h
 refine rs hc none [oN,oN,oN,oN,oN,oN,oN,oN,some (.el (I e_1_8)),oN,oN] [(6,I e_1_8)] [] (ai (ix hi_1_8) trivial) ?_
 refine rt ?_
 obtain rfl := os h
 exact rq [true]
def spec_l1Mul (p : GSystem × Int × Int) : Option (Int) :=
 match p with
 | (s0,a1,b2) =>
  (idx s0.fTimes (wr ((wr (a1 * s0.fSize)) + b2))) >>= fun e_1_8 =>
  some e_1_8
def M_spec_l1Mul (p : GSystem × Int × Int) (r : Int) : Prop :=
 match p with
 | (s0,a1,b2) => FnSound Tryz.prog 168 [aSystem s0,I a1,I b2] (I r) []
theorem spec_l1Mul_s : ∀ p r,spec_l1Mul p = some r → M_spec_l1Mul p r := by
 rintro ⟨s0,a1,b2⟩ r h
 unfold spec_l1Mul at h
 refine b0 Tryz.f168 B168 17 [(0,aSystem s0),(1,I a1),(2,I b2)] fun c hc => ?_
 refine rs hc none [some (.new 1),oN] [(1,I a1),(2,I b2),(3,.ra 1 0)] [(1,bSystem s0)] trivial ?_
 obtain ⟨e_1_8,hi_1_8,h⟩ := bsome h
 refine rs hc none [oN,oN,oN,oN,oN,oN,oN,oN,some (.el (I e_1_8)),oN,oN] [(6,I e_1_8)] [] (ai (ix hi_1_8) trivial) ?_
 refine rt ?_
 obtain rfl := os h
 exact rq [true]
def spec_l1Le (p : GSystem × Int × Int) : Option (Bool) :=
 match p with
 | (s0,a1,b2) =>
  (idx s0.fBelow (wr ((wr (a1 * s0.fSize)) + b2))) >>= fun e_1_8 =>
  some e_1_8
def M_spec_l1Le (p : GSystem × Int × Int) (r : Bool) : Prop :=
 match p with
 | (s0,a1,b2) => FnSound Tryz.prog 149 [aSystem s0,I a1,I b2] (.bool r) []
theorem spec_l1Le_s : ∀ p r,spec_l1Le p = some r → M_spec_l1Le p r := by
 rintro ⟨s0,a1,b2⟩ r h
 unfold spec_l1Le at h
 refine b0 Tryz.f149 B149 17 [(0,aSystem s0),(1,I a1),(2,I b2)] fun c hc => ?_
 refine rs hc none [some (.new 1),oN] [(1,I a1),(2,I b2),(3,.ra 1 0)] [(1,bSystem s0)] trivial ?_
 obtain ⟨e_1_8,hi_1_8,h⟩ := bsome h
 refine rs hc none [oN,oN,oN,oN,oN,oN,oN,oN,some (.el (.bool e_1_8)),oN,oN] [(6,.bool e_1_8)] [] (ai (idx_sl (enc := AV.bool) (x := .bool e_1_8) hi_1_8 (eq_B e_1_8)) trivial) ?_
 refine rt ?_
 obtain rfl := os h
 exact rq [true]
end Go.Am
