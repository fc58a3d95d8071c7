/- Functions of the program as pure functions,and that it computes them. Printed by a program of mine (gen.py). -/
import Derived.Test.YtmcpomoofkjfcaaGreatGFIF11
set_option linter.unusedVariables false
set_option linter.unusedSimpArgs false
set_option maxRecDepth 100000
namespace Go.Am
open Go Go.Proofs
def ah12_0 : Option (List (List Nat)) := rx [[0],[0],[2],[3],[0],[0],[0,4,5],[0,4,5,6],[8],[9]]
def ah12_1 : Option (List (List Nat)) := rx [[0],[0],[0,1],[3],[4]]
def laws_eqBoolS (p : (List Bool) × (List Bool)) : Option (Bool) :=
 match p with
 | (a0,b1) =>
  if ((a0.length : Int) != (b1.length : Int)) = true then
   some false
  else
   (laws_eqBoolS_l0 (a0,b1,0)) >>= fun fl => match fl with
   | .inl () =>
    some true
   | .inr r =>
    some r
def M_laws_eqBoolS (p : (List Bool) × (List Bool)) (r : Bool) : Prop :=
 match p with
 | (a0,b1) => FnSound Tryz.prog 78 [sB a0,sB b1] (.bool r) []
theorem laws_eqBoolS_s : ∀ p r,laws_eqBoolS p = some r → M_laws_eqBoolS p r := by
 rintro ⟨a0,b1⟩ r h
 unfold laws_eqBoolS at h
 refine b0 Tryz.f78 B78 26 [(0,sB a0),(1,sB b1)] fun c hc => ?_
 refine rs0 hc 1 [(0,sB a0),(1,sB b1)] [] ?_
 refine sN ?_
 refine rs hc none [oN,some (.eqv (.no) ⟨[(7,I (a0.length : Int))],[],[]⟩),oN,some (.eqv (.no) ⟨[(9,I (b1.length : Int))],[],[]⟩),oN] [(0,sB a0),(1,sB b1),(10,.bool ((a0.length : Int) != (b1.length : Int)))] [] (ai (lenT (d := 7) AV.bool a0) (ai (lenT (d := 9) AV.bool b1) trivial)) ?_
 rcases is h with ⟨hb_1,h⟩ | ⟨hb_1,h⟩
 ·refine cT (((a0.length : Int) != (b1.length : Int))) hb_1 ?_
  refine rs0 hc 1 [(4,.bool false)] [] ?_
  refine rt ?_
  obtain rfl := os h
  exact rq [true]
 refine cF (((a0.length : Int) != (b1.length : Int))) hb_1 ?_
 refine sk ?_
 refine sN ?_
 refine rs0 hc 1 [(0,sB a0),(1,sB b1),(5,I 0)] [] ?_
 refine bk 0 ?_
 obtain ⟨fl,hl_7,h⟩ := bsome h
 have hL := laws_eqBoolS_l0_s _ _ hl_7 c hc
 refine lp ?_
 rcases fl with ⟨⟩ | r
 ·refine WpL.into (e := (.exit 0)) (mkS [] []) hL ?_
  refine blockQ_hit ?_
  refine rs0 hc 1 [(4,.bool true)] [] ?_
  refine rt ?_
  obtain rfl := os h
  exact rq [true]
 refine WpL.mono hL ?_
 rintro _ _ ⟨rfl,hfin⟩
 obtain rfl := os h
 exact ⟨.inl rfl,hfin⟩
def laws_eqSystem (p : GSystem × GSystem) : Option (Bool) :=
 match p with
 | (a0,b1) =>
  if (a0.fSize != b1.fSize) = true then
   some false
  else
   (laws_eqIntS (a0.fPlus,b1.fPlus)) >>= fun r_3_4 =>
   if r_3_4 = true then
    (laws_eqIntS (a0.fTimes,b1.fTimes)) >>= fun r_5_4 =>
    if r_5_4 = true then
     (laws_eqBoolS (a0.fBelow,b1.fBelow)) >>= fun r_7_4 =>
     if r_7_4 = true then
      some true
     else
      some false
    else
     some false
   else
    some false
def M_laws_eqSystem (p : GSystem × GSystem) (r : Bool) : Prop :=
 match p with
 | (a0,b1) => FnSound Tryz.prog 24 [aSystem a0,aSystem b1] (.bool r) []
theorem laws_eqSystem_s : ∀ p r,laws_eqSystem p = some r → M_laws_eqSystem p r := by
 rintro ⟨a0,b1⟩ r h
 unfold laws_eqSystem at h
 refine b0 Tryz.f24 B24 28 [(0,aSystem a0),(1,aSystem b1)] fun c hc => ?_
 refine rs hc none [some (.new 1),some (.new 2),oN] [(2,.ra 1 0),(3,.ra 2 0)] [(1,bSystem a0),(2,bSystem b1)] trivial ?_
 refine sN ?_
 refine rs0 hc 5 [(2,.ra 1 0),(3,.ra 2 0),(9,.bool (a0.fSize != b1.fSize))] [(1,bSystem a0),(2,bSystem b1)] ?_
 rcases is h with ⟨hb_1,h⟩ | ⟨hb_1,h⟩
 ·refine cT ((a0.fSize != b1.fSize)) hb_1 ?_
  refine rs0 hc 1 [(4,.bool false)] [] ?_
  refine rt ?_
  obtain rfl := os h
  exact rq [true]
 refine cF ((a0.fSize != b1.fSize)) hb_1 ?_
 refine sk ?_
 refine sN ?_
 obtain ⟨r_3_4,hr_3_4,h⟩ := bsome h
 refine rs hc none [oN,oN,oN,oN,oc (.bool r_3_4),oN] [(2,.ra 1 0),(3,.ra 2 0),(15,.bool (!r_3_4))] [(1,bSystem a0),(2,bSystem b1)] (ai (laws_eqIntS_s _ _ hr_3_4) (ai bod_23 (ai (oi (.bool r_3_4)) trivial))) ?_
 rcases is h with ⟨hb_2,h⟩ | ⟨hb_2,h⟩
 ·refine cF (!r_3_4) (nF hb_2) ?_
  refine sk ?_
  refine sN ?_
  obtain ⟨r_5_4,hr_5_4,h⟩ := bsome h
  refine rs hc none [oN,oN,oN,oN,oc (.bool r_5_4),oN] [(2,.ra 1 0),(3,.ra 2 0),(21,.bool (!r_5_4))] [(1,bSystem a0),(2,bSystem b1)] (ai (laws_eqIntS_s _ _ hr_5_4) (ai bod_23 (ai (oi (.bool r_5_4)) trivial))) ?_
  rcases is h with ⟨hb_3,h⟩ | ⟨hb_3,h⟩
  ·refine cF (!r_5_4) (nF hb_3) ?_
   refine sk ?_
   refine sN ?_
   obtain ⟨r_7_4,hr_7_4,h⟩ := bsome h
   refine rs hc none [oN,oN,oN,oN,oc (.bool r_7_4),oN] [(27,.bool (!r_7_4))] [] (ai (laws_eqBoolS_s _ _ hr_7_4) (ai bod_78 (ai (oi (.bool r_7_4)) trivial))) ?_
   rcases is h with ⟨hb_4,h⟩ | ⟨hb_4,h⟩
   ·refine cF (!r_7_4) (nF hb_4) ?_
    refine sk ?_
    refine rs0 hc 1 [(4,.bool true)] [] ?_
    refine rt ?_
    obtain rfl := os h
    exact rq [true]
   refine cT (!r_7_4) (nT hb_4) ?_
   refine rs0 hc 1 [(4,.bool false)] [] ?_
   refine rt ?_
   obtain rfl := os h
   exact rq [true]
  refine cT (!r_5_4) (nT hb_3) ?_
  refine rs0 hc 1 [(4,.bool false)] [] ?_
  refine rt ?_
  obtain rfl := os h
  exact rq [true]
 refine cT (!r_3_4) (nT hb_2) ?_
 refine rs0 hc 1 [(4,.bool false)] [] ?_
 refine rt ?_
 obtain rfl := os h
 exact rq [true]
def laws_eqIntSS_F1 (c : Ctx) : (Unit) ⊕ (Bool) → Exit → AState → Prop
 | .inl _ => Into c (.exit 0) (mkS [] [])
 | .inr r => RetE TIx Tryz.f25 [] (.bool r)
def laws_eqIntSS_l0 (p : (List (List Int)) × (List (List Int)) × Int) : Option ((Unit) ⊕ (Bool)) :=
 match p with
 | (a0,b1,i_4) =>
  if (decide (i_4 < (a0.length : Int))) = true then
   (idx a0 i_4) >>= fun e_6_2 =>
   (idx b1 i_4) >>= fun e_6_6 =>
   (laws_eqIntS (e_6_2,e_6_6)) >>= fun r_6_8 =>
   if r_6_8 = true then
    laws_eqIntSS_l0 (a0,b1,(wr (i_4 + 1)))
   else
    some (.inr false)
  else
   some (.inl ())
 partial_fixpoint
def M_laws_eqIntSS_l0 (p : (List (List Int)) × (List (List Int)) × Int) (fl : (Unit) ⊕ (Bool)) : Prop :=
 match p with
 | (a0,b1,i_4) => ∀ c : Ctx,c.nt = 27 → WpL Tryz.prog c (cl (cl (cr (cl (cr (cr B25)))))) (laws_eqIntSS_F1 c fl) (mkS [(0,sL a0),(1,sL b1),(5,I i_4)] [])
theorem laws_eqIntSS_l0_s : ∀ p r,laws_eqIntSS_l0 p = some r → M_laws_eqIntSS_l0 p r := by
 refine laws_eqIntSS_l0.partial_correctness M_laws_eqIntSS_l0 ?_
 rintro laws_eqIntSS_l0_f laws_eqIntSS_l0_ih ⟨a0,b1,i_4⟩ r h
 intro c hc
 refine WpL.step ?_
 refine sN ?_
 refine rs hc none [oN,oN,some (.eqv (.no) ⟨[(13,I (a0.length : Int))],[],[]⟩),oN] [(0,sL a0),(1,sL b1),(5,I i_4),(14,.bool (decide (i_4 < (a0.length : Int))))] [] (ai (lenT (d := 13) LI_s a0) trivial) ?_
 rcases is h with ⟨hb_5,h⟩ | ⟨hb_5,h⟩
 ·refine cT ((decide (i_4 < (a0.length : Int)))) hb_5 ?_
  refine sk ?_
  refine sN ?_
  refine bk 1 ?_
  obtain ⟨e_6_2,hi_6_2,h⟩ := bsome h
  obtain ⟨e_6_6,hi_6_6,h⟩ := bsome h
  obtain ⟨r_6_8,hr_6_8,h⟩ := bsome h
  refine rs hc ah12_0 [oN,oN,some (.el (sI e_6_2)),oN,oN,oN,some (.el (sI e_6_6)),oN,oc (.bool r_6_8),oN] [(0,sL a0),(1,sL b1),(5,I i_4),(26,.bool (!r_6_8))] [] (ai (idx_sl (enc := LI_s) (x := sI e_6_2) hi_6_2 (eq_LI_s e_6_2)) (ai (idx_sl (enc := LI_s) (x := sI e_6_6) hi_6_6 (eq_LI_s e_6_6)) (ai (laws_eqIntS_s _ _ hr_6_8) (ai bod_23 (ai (oi (.bool r_6_8)) trivial))))) ?_
  rcases is h with ⟨hb_6,h⟩ | ⟨hb_6,h⟩
  ·refine cF (!r_6_8) (nF hb_6) ?_
   refine sk ?_
   refine rg0 hc 3 [(0,sL a0),(1,sL b1),(5,I (wr (i_4 + 1)))] [] ?_
   refine loopQ_norm ?_
   exact (laws_eqIntSS_l0_ih _ _ h c hc)
  refine cT (!r_6_8) (nT hb_6) ?_
  refine rs0 hc 1 [(4,.bool false)] [] ?_
  refine rt ?_
  obtain rfl := os h
  exact re [true]
 refine cF ((decide (i_4 < (a0.length : Int)))) hb_5 ?_
 refine xt 0 ?_
 refine seqQ_exit ?_
 refine loopQ_exit ?_
 obtain rfl := os h
 exact iv []
def laws_eqIntSS (p : (List (List Int)) × (List (List Int))) : Option (Bool) :=
 match p with
 | (a0,b1) =>
  if ((a0.length : Int) != (b1.length : Int)) = true then
   some false
  else
   (laws_eqIntSS_l0 (a0,b1,0)) >>= fun fl => match fl with
   | .inl () =>
    some true
   | .inr r =>
    some r
def M_laws_eqIntSS (p : (List (List Int)) × (List (List Int))) (r : Bool) : Prop :=
 match p with
 | (a0,b1) => FnSound Tryz.prog 25 [sL a0,sL b1] (.bool r) []
theorem laws_eqIntSS_s : ∀ p r,laws_eqIntSS p = some r → M_laws_eqIntSS p r := by
 rintro ⟨a0,b1⟩ r h
 unfold laws_eqIntSS at h
 refine b0 Tryz.f25 B25 27 [(0,sL a0),(1,sL b1)] fun c hc => ?_
 refine rs0 hc 1 [(0,sL a0),(1,sL b1)] [] ?_
 refine sN ?_
 refine rs hc none [oN,some (.eqv (.no) ⟨[(7,I (a0.length : Int))],[],[]⟩),oN,some (.eqv (.no) ⟨[(9,I (b1.length : Int))],[],[]⟩),oN] [(0,sL a0),(1,sL b1),(10,.bool ((a0.length : Int) != (b1.length : Int)))] [] (ai (lenT (d := 7) LI_s a0) (ai (lenT (d := 9) LI_s b1) trivial)) ?_
 rcases is h with ⟨hb_1,h⟩ | ⟨hb_1,h⟩
 ·refine cT (((a0.length : Int) != (b1.length : Int))) hb_1 ?_
  refine rs0 hc 1 [(4,.bool false)] [] ?_
  refine rt ?_
  obtain rfl := os h
  exact rq [true]
 refine cF (((a0.length : Int) != (b1.length : Int))) hb_1 ?_
 refine sk ?_
 refine sN ?_
 refine rs0 hc 1 [(0,sL a0),(1,sL b1),(5,I 0)] [] ?_
 refine bk 0 ?_
 obtain ⟨fl,hl_7,h⟩ := bsome h
 have hL := laws_eqIntSS_l0_s _ _ hl_7 c hc
 refine lp ?_
 rcases fl with ⟨⟩ | r
 ·refine WpL.into (e := (.exit 0)) (mkS [] []) hL ?_
  refine blockQ_hit ?_
  refine rs0 hc 1 [(4,.bool true)] [] ?_
  refine rt ?_
  obtain rfl := os h
  exact rq [true]
 refine WpL.mono hL ?_
 rintro _ _ ⟨rfl,hfin⟩
 obtain rfl := os h
 exact ⟨.inl rfl,hfin⟩
def laws_eqTermS_F1 (c : Ctx) : (Unit) ⊕ (Bool) → Exit → AState → Prop
 | .inl _ => Into c (.exit 0) (mkS [] [])
 | .inr r => RetE TIx Tryz.f79 [] (.bool r)
mutual
def laws_eqTerm (p : GTerm × GTerm) : Option (Bool) :=
 match p with
 | (a0,b1) =>
  if (a0.fOp != b1.fOp) = true then
   some false
  else
   if (a0.fN != b1.fN) = true then
    some false
   else
    (laws_eqIntS (a0.fType,b1.fType)) >>= fun r_5_4 =>
    if r_5_4 = true then
     (laws_eqTermS (a0.fKids,b1.fKids)) >>= fun r_7_4 =>
     if r_7_4 = true then
      some true
     else
      some false
    else
     some false
 partial_fixpoint
def laws_eqTermS (p : (List GTerm) × (List GTerm)) : Option (Bool) :=
 match p with
 | (a0,b1) =>
  if ((a0.length : Int) != (b1.length : Int)) = true then
   some false
  else
   (laws_eqTermS_l0 (a0,b1,0)) >>= fun fl => match fl with
   | .inl () =>
    some true
   | .inr r =>
    some r
 partial_fixpoint
def laws_eqTermS_l0 (p : (List GTerm) × (List GTerm) × Int) : Option ((Unit) ⊕ (Bool)) :=
 match p with
 | (a0,b1,i_4) =>
  if (decide (i_4 < (a0.length : Int))) = true then
   (idx a0 i_4) >>= fun e_6_2 =>
   (idx b1 i_4) >>= fun e_6_6 =>
   (laws_eqTerm (e_6_2,e_6_6)) >>= fun r_6_8 =>
   if r_6_8 = true then
    laws_eqTermS_l0 (a0,b1,(wr (i_4 + 1)))
   else
    some (.inr false)
  else
   some (.inl ())
 partial_fixpoint
end
def M_laws_eqTerm (p : GTerm × GTerm) (r : Bool) : Prop :=
 match p with
 | (a0,b1) => FnSound Tryz.prog 26 [aTerm a0,aTerm b1] (.bool r) []
def M_laws_eqTermS (p : (List GTerm) × (List GTerm)) (r : Bool) : Prop :=
 match p with
 | (a0,b1) => FnSound Tryz.prog 79 [.sl (List.map GTerm_S a0),.sl (List.map GTerm_S b1)] (.bool r) []
def M_laws_eqTermS_l0 (p : (List GTerm) × (List GTerm) × Int) (fl : (Unit) ⊕ (Bool)) : Prop :=
 match p with
 | (a0,b1,i_4) => ∀ c : Ctx,c.nt = 27 → WpL Tryz.prog c (cl (cl (cr (cl (cr (cr B79)))))) (laws_eqTermS_F1 c fl) (mkS [(0,.sl (List.map GTerm_S a0)),(1,.sl (List.map GTerm_S b1)),(5,I i_4)] [])
theorem laws_eqTerm_all : (∀ p r,laws_eqTerm p = some r → M_laws_eqTerm p r) ∧ (∀ p r,laws_eqTermS p = some r → M_laws_eqTermS p r) ∧ (∀ p r,laws_eqTermS_l0 p = some r → M_laws_eqTermS_l0 p r) := by
 refine laws_eqTerm.mutual_partial_correctness M_laws_eqTerm M_laws_eqTermS M_laws_eqTermS_l0 ?_ ?_ ?_
 ·rintro laws_eqTermS_f laws_eqTermS_ih ⟨a0,b1⟩ r h
  refine b0 Tryz.f26 B26 27 [(0,aTerm a0),(1,aTerm b1)] fun c hc => ?_
  refine rs hc none [some (.new 1),some (.new 2),oN] [(2,.ra 1 0),(3,.ra 2 0)] [(1,bTerm a0),(2,bTerm b1)] trivial ?_
  refine sN ?_
  refine rs0 hc 5 [(2,.ra 1 0),(3,.ra 2 0),(9,.bool (a0.fOp != b1.fOp))] [(1,bTerm a0),(2,bTerm b1)] ?_
  rcases is h with ⟨hb_1,h⟩ | ⟨hb_1,h⟩
  ·refine cT ((a0.fOp != b1.fOp)) hb_1 ?_
   refine rs0 hc 1 [(4,.bool false)] [] ?_
   refine rt ?_
   obtain rfl := os h
   exact rq [true]
  refine cF ((a0.fOp != b1.fOp)) hb_1 ?_
  refine sk ?_
  refine sN ?_
  refine rs0 hc 5 [(2,.ra 1 0),(3,.ra 2 0),(14,.bool (a0.fN != b1.fN))] [(1,bTerm a0),(2,bTerm b1)] ?_
  rcases is h with ⟨hb_2,h⟩ | ⟨hb_2,h⟩
  ·refine cT ((a0.fN != b1.fN)) hb_2 ?_
   refine rs0 hc 1 [(4,.bool false)] [] ?_
   refine rt ?_
   obtain rfl := os h
   exact rq [true]
  refine cF ((a0.fN != b1.fN)) hb_2 ?_
  refine sk ?_
  refine sN ?_
  obtain ⟨r_5_4,hr_5_4,h⟩ := bsome h
  refine rs hc none [oN,oN,oN,oN,oc (.bool r_5_4),oN] [(2,.ra 1 0),(3,.ra 2 0),(20,.bool (!r_5_4))] [(1,bTerm a0),(2,bTerm b1)] (ai (laws_eqIntS_s _ _ hr_5_4) (ai bod_23 (ai (oi (.bool r_5_4)) trivial))) ?_
  rcases is h with ⟨hb_3,h⟩ | ⟨hb_3,h⟩
  ·refine cF (!r_5_4) (nF hb_3) ?_
   refine sk ?_
   refine sN ?_
   obtain ⟨r_7_4,hr_7_4,h⟩ := bsome h
   refine rs hc none [oN,oN,oN,oN,oc (.bool r_7_4),oN] [(26,.bool (!r_7_4))] [] (ai (laws_eqTermS_ih _ _ hr_7_4) (ai bod_79 (ai (oi (.bool r_7_4)) trivial))) ?_
   rcases is h with ⟨hb_4,h⟩ | ⟨hb_4,h⟩
   ·refine cF (!r_7_4) (nF hb_4) ?_
    refine sk ?_
    refine rs0 hc 1 [(4,.bool true)] [] ?_
    refine rt ?_
    obtain rfl := os h
    exact rq [true]
   refine cT (!r_7_4) (nT hb_4) ?_
   refine rs0 hc 1 [(4,.bool false)] [] ?_
   refine rt ?_
   obtain rfl := os h
   exact rq [true]
  refine cT (!r_5_4) (nT hb_3) ?_
  refine rs0 hc 1 [(4,.bool false)] [] ?_
  refine rt ?_
  obtain rfl := os h
  exact rq [true]
 ·rintro laws_eqTermS_l0_f laws_eqTermS_l0_ih ⟨a0,b1⟩ r h
  refine b0 Tryz.f79 B79 27 [(0,.sl (List.map GTerm_S a0)),(1,.sl (List.map GTerm_S b1))] fun c hc => ?_
  refine rs0 hc 1 [(0,.sl (List.map GTerm_S a0)),(1,.sl (List.map GTerm_S b1))] [] ?_
  refine sN ?_
  refine rs hc none [oN,some (.eqv (.no) ⟨[(7,I (a0.length : Int))],[],[]⟩),oN,some (.eqv (.no) ⟨[(9,I (b1.length : Int))],[],[]⟩),oN] [(0,.sl (List.map GTerm_S a0)),(1,.sl (List.map GTerm_S b1)),(10,.bool ((a0.length : Int) != (b1.length : Int)))] [] (ai (lenT (d := 7) GTerm_S a0) (ai (lenT (d := 9) GTerm_S b1) trivial)) ?_
  rcases is h with ⟨hb_1,h⟩ | ⟨hb_1,h⟩
  ·refine cT (((a0.length : Int) != (b1.length : Int))) hb_1 ?_
   refine rs0 hc 1 [(4,.bool false)] [] ?_
   refine rt ?_
   obtain rfl := os h
   exact rq [true]
  refine cF (((a0.length : Int) != (b1.length : Int))) hb_1 ?_
  refine sk ?_
  refine sN ?_
  refine rs0 hc 1 [(0,.sl (List.map GTerm_S a0)),(1,.sl (List.map GTerm_S b1)),(5,I 0)] [] ?_
  refine bk 0 ?_
  obtain ⟨fl,hl_7,h⟩ := bsome h
  have hL := laws_eqTermS_l0_ih _ _ hl_7 c hc
  refine lp ?_
  rcases fl with ⟨⟩ | r
  ·refine WpL.into (e := (.exit 0)) (mkS [] []) hL ?_
   refine blockQ_hit ?_
   refine rs0 hc 1 [(4,.bool true)] [] ?_
   refine rt ?_
   obtain rfl := os h
   exact rq [true]
  refine WpL.mono hL ?_
  rintro _ _ ⟨rfl,hfin⟩
  obtain rfl := os h
  exact ⟨.inl rfl,hfin⟩
 ·rintro laws_eqTerm_f laws_eqTermS_l0_f laws_eqTerm_ih laws_eqTermS_l0_ih ⟨a0,b1,i_4⟩ r h
  intro c hc
  refine WpL.step ?_
  refine sN ?_
  refine rs hc none [oN,oN,some (.eqv (.no) ⟨[(13,I (a0.length : Int))],[],[]⟩),oN] [(0,.sl (List.map GTerm_S a0)),(1,.sl (List.map GTerm_S b1)),(5,I i_4),(14,.bool (decide (i_4 < (a0.length : Int))))] [] (ai (lenT (d := 13) GTerm_S a0) trivial) ?_
  rcases is h with ⟨hb_5,h⟩ | ⟨hb_5,h⟩
  ·refine cT ((decide (i_4 < (a0.length : Int)))) hb_5 ?_
   refine sk ?_
   refine sN ?_
   refine bk 1 ?_
   obtain ⟨e_6_2,hi_6_2,h⟩ := bsome h
   obtain ⟨e_6_6,hi_6_6,h⟩ := bsome h
   obtain ⟨r_6_8,hr_6_8,h⟩ := bsome h
   refine rs hc ah12_0 [oN,oN,some (.el (aTerm e_6_2)),oN,oN,oN,some (.el (aTerm e_6_6)),oN,oc (.bool r_6_8),oN] [(0,.sl (List.map GTerm_S a0)),(1,.sl (List.map GTerm_S b1)),(5,I i_4),(26,.bool (!r_6_8))] [] (ai (idx_sl (enc := GTerm_S) (x := aTerm e_6_2) hi_6_2 (eq_GTerm_S e_6_2)) (ai (idx_sl (enc := GTerm_S) (x := aTerm e_6_6) hi_6_6 (eq_GTerm_S e_6_6)) (ai (laws_eqTerm_ih _ _ hr_6_8) (ai bod_26 (ai (oi (.bool r_6_8)) trivial))))) ?_
   rcases is h with ⟨hb_6,h⟩ | ⟨hb_6,h⟩
   ·refine cF (!r_6_8) (nF hb_6) ?_
    refine sk ?_
    refine rg0 hc 3 [(0,.sl (List.map GTerm_S a0)),(1,.sl (List.map GTerm_S b1)),(5,I (wr (i_4 + 1)))] [] ?_
    refine loopQ_norm ?_
    exact (laws_eqTermS_l0_ih _ _ h c hc)
   refine cT (!r_6_8) (nT hb_6) ?_
   refine rs0 hc 1 [(4,.bool false)] [] ?_
   refine rt ?_
   obtain rfl := os h
   exact re [true]
  refine cF ((decide (i_4 < (a0.length : Int)))) hb_5 ?_
  refine xt 0 ?_
  refine seqQ_exit ?_
  refine loopQ_exit ?_
  obtain rfl := os h
  exact iv []
theorem laws_eqTerm_s : ∀ p r,laws_eqTerm p = some r → M_laws_eqTerm p r := laws_eqTerm_all.1
theorem laws_eqTermS_s : ∀ p r,laws_eqTermS p = some r → M_laws_eqTermS p r := laws_eqTerm_all.2.1
theorem laws_eqTermS_l0_s : ∀ p r,laws_eqTermS_l0 p = some r → M_laws_eqTermS_l0 p r := laws_eqTerm_all.2.2
def laws_FnExactFits (p : GSystem × (List (List Int)) × (List Int) × GTerm × (List Int)) : Option (Bool) :=
 match p with
 | (aS0,aCtx1,aBudgets2,aT3,aTy4) =>
  if (decide ((aBudgets2.length : Int) > 1048576)) = true then
   some true
  else
   if (decide ((aTy4.length : Int) > 1048576)) = true then
    some true
   else
    (laws_szSystem (aS0,1048576)) >>= fun r_6_2 =>
    if (decide (r_6_2 < 0)) = true then
     some true
    else
     (laws_szIntSS (aCtx1,r_6_2)) >>= fun r_9_2 =>
     if (decide (r_9_2 < 0)) = true then
      some true
     else
      (laws_szTerm (aT3,r_9_2)) >>= fun r_12_2 =>
      if (decide (r_12_2 < 0)) = true then
       some true
      else
       (laws_toSystem aS0) >>= fun r_15_1 =>
       (laws_toIntSS aCtx1) >>= fun r_15_3 =>
       (laws_toIntS aBudgets2) >>= fun r_15_5 =>
       (laws_toTerm aT3) >>= fun r_15_7 =>
       (laws_toIntS aTy4) >>= fun r_15_9 =>
       (spec_Fits (r_15_1,r_15_3,r_15_5,r_15_7,r_15_9)) >>= fun r_15_10 =>
       (laws_toSystem aS0) >>= fun r_16_1 =>
       (laws_toIntSS aCtx1) >>= fun r_17_1 =>
       (laws_toIntS aBudgets2) >>= fun r_18_1 =>
       (laws_toTerm aT3) >>= fun r_19_1 =>
       (laws_toIntS aTy4) >>= fun r_20_1 =>
       (impl_Fits (r_16_1,r_17_1,r_18_1,r_19_1,r_20_1)) >>= fun r_21_5 =>
       if (r_21_5 == r_15_10) = true then
        (laws_toSystem aS0) >>= fun r_24_2 =>
        (laws_eqSystem (r_16_1,r_24_2)) >>= fun r_24_3 =>
        if r_24_3 = true then
         (laws_toIntSS aCtx1) >>= fun r_26_2 =>
         (laws_eqIntSS (r_17_1,r_26_2)) >>= fun r_26_3 =>
         if r_26_3 = true then
          (laws_toIntS aBudgets2) >>= fun r_28_2 =>
          (laws_eqIntS (r_18_1,r_28_2)) >>= fun r_28_3 =>
          if r_28_3 = true then
           (laws_toTerm aT3) >>= fun r_30_2 =>
           (laws_eqTerm (r_19_1,r_30_2)) >>= fun r_30_3 =>
           if r_30_3 = true then
            (laws_toIntS aTy4) >>= fun r_32_2 =>
            (laws_eqIntS (r_20_1,r_32_2)) >>= fun r_32_3 =>
            if r_32_3 = true then
             some true
            else
             some false
           else
            some false
          else
           some false
         else
          some false
        else
         some false
       else
        some false
def M_laws_FnExactFits (p : GSystem × (List (List Int)) × (List Int) × GTerm × (List Int)) (r : Bool) : Prop :=
 match p with
 | (aS0,aCtx1,aBudgets2,aT3,aTy4) => FnSound Tryz.prog 5 [aSystem aS0,sL aCtx1,sI aBudgets2,aTerm aT3,sI aTy4] (.bool r) []
theorem laws_FnExactFits_s : ∀ p r,laws_FnExactFits p = some r → M_laws_FnExactFits p r := by
 rintro ⟨aS0,aCtx1,aBudgets2,aT3,aTy4⟩ r h
 unfold laws_FnExactFits at h
 refine b0 Tryz.f5 B5 95 [(0,aSystem aS0),(1,sL aCtx1),(2,sI aBudgets2),(3,aTerm aT3),(4,sI aTy4)] fun c hc => ?_
 refine rs hc none [some (.new 1),some (.new 2),oN] [(1,sL aCtx1),(2,sI aBudgets2),(4,sI aTy4),(5,.ra 1 0),(8,.ra 2 0)] [(1,bSystem aS0),(2,bTerm aT3)] trivial ?_
 refine sN ?_
 refine rs hc none [oN,some (.eqv (.no) ⟨[(20,I (aBudgets2.length : Int))],[],[]⟩),oN] [(1,sL aCtx1),(2,sI aBudgets2),(4,sI aTy4),(5,.ra 1 0),(8,.ra 2 0),(21,.bool (decide ((aBudgets2.length : Int) > 1048576)))] [(1,bSystem aS0),(2,bTerm aT3)] (ai (lenT (d := 20) I aBudgets2) trivial) ?_
 rcases is h with ⟨hb_1,h⟩ | ⟨hb_1,h⟩
 ·refine cT ((decide ((aBudgets2.length : Int) > 1048576))) hb_1 ?_
  refine rs0 hc 1 [(10,.bool true)] [] ?_
  refine rt ?_
  obtain rfl := os h
  exact rq [true]
 refine cF ((decide ((aBudgets2.length : Int) > 1048576))) hb_1 ?_
 refine sk ?_
 refine sN ?_
 refine rs hc none [oN,some (.eqv (.no) ⟨[(23,I (aTy4.length : Int))],[],[]⟩),oN] [(1,sL aCtx1),(2,sI aBudgets2),(4,sI aTy4),(5,.ra 1 0),(8,.ra 2 0),(24,.bool (decide ((aTy4.length : Int) > 1048576)))] [(1,bSystem aS0),(2,bTerm aT3)] (ai (lenT (d := 23) I aTy4) trivial) ?_
 rcases is h with ⟨hb_2,h⟩ | ⟨hb_2,h⟩
 ·refine cT ((decide ((aTy4.length : Int) > 1048576))) hb_2 ?_
  refine rs0 hc 1 [(10,.bool true)] [] ?_
  refine rt ?_
  obtain rfl := os h
  exact rq [true]
 refine cF ((decide ((aTy4.length : Int) > 1048576))) hb_2 ?_
 refine sk ?_
 refine rs0 hc 1 [(1,sL aCtx1),(2,sI aBudgets2),(4,sI aTy4),(5,.ra 1 0),(8,.ra 2 0),(11,I 1048576)] [(1,bSystem aS0),(2,bTerm aT3)] ?_
 obtain ⟨r_6_2,hr_6_2,h⟩ := bsome h
 refine rs hc none [oN,oN,oc (I r_6_2),oN] [(1,sL aCtx1),(2,sI aBudgets2),(4,sI aTy4),(5,.ra 1 0),(8,.ra 2 0),(11,I r_6_2)] [(1,bSystem aS0),(2,bTerm aT3)] (ai (laws_szSystem_s _ _ hr_6_2) (ai bod_15 (ai (oi (I r_6_2)) trivial))) ?_
 refine sN ?_
 refine rs0 hc 2 [(1,sL aCtx1),(2,sI aBudgets2),(4,sI aTy4),(5,.ra 1 0),(8,.ra 2 0),(11,I r_6_2),(29,.bool (decide (r_6_2 < 0)))] [(1,bSystem aS0),(2,bTerm aT3)] ?_
 rcases is h with ⟨hb_3,h⟩ | ⟨hb_3,h⟩
 ·refine cT ((decide (r_6_2 < 0))) hb_3 ?_
  refine rs0 hc 1 [(10,.bool true)] [] ?_
  refine rt ?_
  obtain rfl := os h
  exact rq [true]
 refine cF ((decide (r_6_2 < 0))) hb_3 ?_
 refine sk ?_
 obtain ⟨r_9_2,hr_9_2,h⟩ := bsome h
 refine rs hc none [oN,oN,oc (I r_9_2),oN] [(1,sL aCtx1),(2,sI aBudgets2),(4,sI aTy4),(5,.ra 1 0),(8,.ra 2 0),(11,I r_9_2)] [(1,bSystem aS0),(2,bTerm aT3)] (ai (laws_szIntSS_s _ _ hr_9_2) (ai bod_16 (ai (oi (I r_9_2)) trivial))) ?_
 refine sN ?_
 refine rs0 hc 2 [(1,sL aCtx1),(2,sI aBudgets2),(4,sI aTy4),(5,.ra 1 0),(8,.ra 2 0),(11,I r_9_2),(34,.bool (decide (r_9_2 < 0)))] [(1,bSystem aS0),(2,bTerm aT3)] ?_
 rcases is h with ⟨hb_4,h⟩ | ⟨hb_4,h⟩
 ·refine cT ((decide (r_9_2 < 0))) hb_4 ?_
  refine rs0 hc 1 [(10,.bool true)] [] ?_
  refine rt ?_
  obtain rfl := os h
  exact rq [true]
 refine cF ((decide (r_9_2 < 0))) hb_4 ?_
 refine sk ?_
 obtain ⟨r_12_2,hr_12_2,h⟩ := bsome h
 refine rs hc none [oN,oN,oc (I r_12_2),oN] [(1,sL aCtx1),(2,sI aBudgets2),(4,sI aTy4),(5,.ra 1 0),(8,.ra 2 0),(11,I r_12_2)] [(1,bSystem aS0),(2,bTerm aT3)] (ai (laws_szTerm_s _ _ hr_12_2) (ai bod_17 (ai (oi (I r_12_2)) trivial))) ?_
 refine sN ?_
 refine rs0 hc 2 [(1,sL aCtx1),(2,sI aBudgets2),(4,sI aTy4),(5,.ra 1 0),(8,.ra 2 0),(39,.bool (decide (r_12_2 < 0)))] [(1,bSystem aS0),(2,bTerm aT3)] ?_
 rcases is h with ⟨hb_5,h⟩ | ⟨hb_5,h⟩
 ·refine cT ((decide (r_12_2 < 0))) hb_5 ?_
  refine rs0 hc 1 [(10,.bool true)] [] ?_
  refine rt ?_
  obtain rfl := os h
  exact rq [true]
 refine cF ((decide (r_12_2 < 0))) hb_5 ?_
 refine sk ?_
 obtain ⟨r_15_1,hr_15_1,h⟩ := bsome h
 obtain ⟨r_15_3,hr_15_3,h⟩ := bsome h
 obtain ⟨r_15_5,hr_15_5,h⟩ := bsome h
 obtain ⟨r_15_7,hr_15_7,h⟩ := bsome h
 obtain ⟨r_15_9,hr_15_9,h⟩ := bsome h
 obtain ⟨r_15_10,hr_15_10,h⟩ := bsome h
 refine rs hc (rh [0,1,0,3,0,5,0,7,0,9,10,11]) [oN,some (.call (qSystem r_15_1) [] 3),oN,some (.call (.osl (List.map LI_o r_15_3)) [] 6),oN,some (.call (oI r_15_5) [] 7),oN,some (.call (qTerm r_15_7) [] 8),oN,some (.call (oI r_15_9) [] 10),oc (.bool r_15_10),oN] [(1,sL aCtx1),(2,sI aBudgets2),(4,sI aTy4),(5,.ra 1 0),(8,.ra 2 0),(12,.bool r_15_10)] [(1,bSystem aS0),(2,bTerm aT3)] (ai (laws_toSystem_s _ _ hr_15_1) (ai bod_19 (ai (oi (qSystem r_15_1)) (ai (laws_toIntSS_s _ _ hr_15_3) (ai bod_20 (ai (oi (.osl (List.map LI_o r_15_3))) (ai (laws_toIntS_s _ _ hr_15_5) (ai bod_35 (ai (oi (oI r_15_5)) (ai (laws_toTerm_s _ _ hr_15_7) (ai bod_21 (ai (oi (qTerm r_15_7)) (ai (laws_toIntS_s _ _ hr_15_9) (ai bod_35 (ai (oi (oI r_15_9)) (ai (FnSound.args (A1 := [hSystem r_15_1,.sl (shares (List.map LI_o r_15_3)),.sl (shares (List.map I r_15_5)),hTerm r_15_7,.sl (shares (List.map I r_15_9))]) (A2 := [aSystem r_15_1,sL r_15_3,sI r_15_5,aTerm r_15_7,sI r_15_9]) (by simp only [sI,sB,sL,aSystem,aTerm,aL3Told,aTyped,aTyper,hSystem,hTerm,hL3Told,hTyped,hTyper,List.map_nil,sh_B,sh_GTerm_O,sh_I,sh_LI_o]) (spec_Fits_s _ _ hr_15_10)) (ai bod_34 (ai (Or.inr rfl : ([3,4,5,6,7,8,9,10] : List Nat) = [] ∨ noSh (.bool r_15_10) = true) trivial)))))))))))))))))) ?_
 obtain ⟨r_16_1,hr_16_1,h⟩ := bsome h
 refine rs hc none [oN,some (.call (qSystem r_16_1) [] 11),some (.new 14),oN] [(1,sL aCtx1),(2,sI aBudgets2),(4,sI aTy4),(5,.ra 1 0),(8,.ra 2 0),(12,.bool r_15_10),(13,.ra 14 0)] [(1,bSystem aS0),(2,bTerm aT3),(11,rI r_16_1.fPlus),(12,rI r_16_1.fTimes),(13,.arr (List.map AV.bool r_16_1.fBelow)),(14,.box [I r_16_1.fSize,.rs 11,.rs 12,.rs 13])] (ai (laws_toSystem_s _ _ hr_16_1) (ai bod_19 (ai (oi (qSystem r_16_1)) trivial))) ?_
 obtain ⟨r_17_1,hr_17_1,h⟩ := bsome h
 refine rs hc none [oN,some (.call (.osl (List.map LI_o r_17_1)) [] 15),oN] [(1,sL aCtx1),(2,sI aBudgets2),(4,sI aTy4),(5,.ra 1 0),(8,.ra 2 0),(12,.bool r_15_10),(13,.ra 14 0),(14,.rs 15)] [(1,bSystem aS0),(2,bTerm aT3),(11,rI r_16_1.fPlus),(12,rI r_16_1.fTimes),(13,.arr (List.map AV.bool r_16_1.fBelow)),(14,.box [I r_16_1.fSize,.rs 11,.rs 12,.rs 13]),(15,.arr (List.map LI_o r_17_1))] (ai (laws_toIntSS_s _ _ hr_17_1) (ai bod_20 (ai (oi (.osl (List.map LI_o r_17_1))) trivial))) ?_
 obtain ⟨r_18_1,hr_18_1,h⟩ := bsome h
 refine rs hc none [oN,some (.call (oI r_18_1) [] 16),oN] [(1,sL aCtx1),(2,sI aBudgets2),(4,sI aTy4),(5,.ra 1 0),(8,.ra 2 0),(12,.bool r_15_10),(13,.ra 14 0),(14,.rs 15),(15,.rs 16)] [(1,bSystem aS0),(2,bTerm aT3),(11,rI r_16_1.fPlus),(12,rI r_16_1.fTimes),(13,.arr (List.map AV.bool r_16_1.fBelow)),(14,.box [I r_16_1.fSize,.rs 11,.rs 12,.rs 13]),(15,.arr (List.map LI_o r_17_1)),(16,rI r_18_1)] (ai (laws_toIntS_s _ _ hr_18_1) (ai bod_35 (ai (oi (oI r_18_1)) trivial))) ?_
 obtain ⟨r_19_1,hr_19_1,h⟩ := bsome h
 refine rs hc none [oN,some (.call (qTerm r_19_1) [] 17),some (.new 19),oN] [(1,sL aCtx1),(2,sI aBudgets2),(4,sI aTy4),(5,.ra 1 0),(8,.ra 2 0),(12,.bool r_15_10),(13,.ra 14 0),(14,.rs 15),(15,.rs 16),(16,.ra 19 0)] [(1,bSystem aS0),(2,bTerm aT3),(11,rI r_16_1.fPlus),(12,rI r_16_1.fTimes),(13,.arr (List.map AV.bool r_16_1.fBelow)),(14,.box [I r_16_1.fSize,.rs 11,.rs 12,.rs 13]),(15,.arr (List.map LI_o r_17_1)),(16,rI r_18_1),(17,rI r_19_1.fType),(18,.arr (List.map GTerm_O r_19_1.fKids)),(19,.box [I r_19_1.fOp,I r_19_1.fN,.rs 17,.rs 18])] (ai (laws_toTerm_s _ _ hr_19_1) (ai bod_21 (ai (oi (qTerm r_19_1)) trivial))) ?_
 obtain ⟨r_20_1,hr_20_1,h⟩ := bsome h
 refine rs hc none [oN,some (.call (oI r_20_1) [] 20),oN] [(1,sL aCtx1),(2,sI aBudgets2),(4,sI aTy4),(5,.ra 1 0),(8,.ra 2 0),(12,.bool r_15_10),(13,.ra 14 0),(14,.rs 15),(15,.rs 16),(16,.ra 19 0),(17,.rs 20)] [(1,bSystem aS0),(2,bTerm aT3),(11,rI r_16_1.fPlus),(12,rI r_16_1.fTimes),(13,.arr (List.map AV.bool r_16_1.fBelow)),(14,.box [I r_16_1.fSize,.rs 11,.rs 12,.rs 13]),(15,.arr (List.map LI_o r_17_1)),(16,rI r_18_1),(17,rI r_19_1.fType),(18,.arr (List.map GTerm_O r_19_1.fKids)),(19,.box [I r_19_1.fOp,I r_19_1.fN,.rs 17,.rs 18]),(20,rI r_20_1)] (ai (laws_toIntS_s _ _ hr_20_1) (ai bod_35 (ai (oi (oI r_20_1)) trivial))) ?_
 obtain ⟨r_21_5,hr_21_5,h⟩ := bsome h
 refine rs hc none [oN,oN,oN,oN,oN,oc (.bool r_21_5),oN] [(1,sL aCtx1),(2,sI aBudgets2),(4,sI aTy4),(5,.ra 1 0),(8,.ra 2 0),(12,.bool r_15_10),(13,.ra 14 0),(14,.rs 15),(15,.rs 16),(16,.ra 19 0),(17,.rs 20),(18,.bool r_21_5)] [(1,bSystem aS0),(2,bTerm aT3),(11,rI r_16_1.fPlus),(12,rI r_16_1.fTimes),(13,.arr (List.map AV.bool r_16_1.fBelow)),(14,.box [I r_16_1.fSize,.rs 11,.rs 12,.rs 13]),(15,.arr (List.map LI_o r_17_1)),(16,rI r_18_1),(17,rI r_19_1.fType),(18,.arr (List.map GTerm_O r_19_1.fKids)),(19,.box [I r_19_1.fOp,I r_19_1.fN,.rs 17,.rs 18]),(20,rI r_20_1)] (ai (FnSound.args (A1 := [hSystem r_16_1,.sl (shares (List.map LI_o r_17_1)),.sl (shares (List.map I r_18_1)),hTerm r_19_1,.sl (shares (List.map I r_20_1))]) (A2 := [aSystem r_16_1,sL r_17_1,sI r_18_1,aTerm r_19_1,sI r_20_1]) (by simp only [sI,sB,sL,aSystem,aTerm,aL3Told,aTyped,aTyper,hSystem,hTerm,hL3Told,hTyped,hTyper,List.map_nil,sh_B,sh_GTerm_O,sh_I,sh_LI_o]) (impl_Fits_s _ _ hr_21_5)) (ai bod_36 (ai (Or.inr rfl : ([11,12,13,15,16,17,18,20] : List Nat) = [] ∨ noSh (.bool r_21_5) = true) trivial))) ?_
 refine sN ?_
 refine rs0 hc 3 [(1,sL aCtx1),(2,sI aBudgets2),(4,sI aTy4),(5,.ra 1 0),(8,.ra 2 0),(13,.ra 14 0),(14,.rs 15),(15,.rs 16),(16,.ra 19 0),(17,.rs 20),(69,.bool (!(r_21_5 == r_15_10)))] [(1,bSystem aS0),(2,bTerm aT3),(11,rI r_16_1.fPlus),(12,rI r_16_1.fTimes),(13,.arr (List.map AV.bool r_16_1.fBelow)),(14,.box [I r_16_1.fSize,.rs 11,.rs 12,.rs 13]),(15,.arr (List.map LI_o r_17_1)),(16,rI r_18_1),(17,rI r_19_1.fType),(18,.arr (List.map GTerm_O r_19_1.fKids)),(19,.box [I r_19_1.fOp,I r_19_1.fN,.rs 17,.rs 18]),(20,rI r_20_1)] ?_
 rcases is h with ⟨hb_6,h⟩ | ⟨hb_6,h⟩
 ·refine cF ((!(r_21_5 == r_15_10))) (nF hb_6) ?_
  refine sk ?_
  refine sN ?_
  obtain ⟨r_24_2,hr_24_2,h⟩ := bsome h
  obtain ⟨r_24_3,hr_24_3,h⟩ := bsome h
  refine rs hc ah12_1 [oN,oN,some (.call (qSystem r_24_2) [] 21),oc (.bool r_24_3),oN] [(1,sL aCtx1),(2,sI aBudgets2),(4,sI aTy4),(8,.ra 2 0),(14,.rs 15),(15,.rs 16),(16,.ra 19 0),(17,.rs 20),(74,.bool (!r_24_3))] [(2,bTerm aT3),(15,.arr (List.map LI_o r_17_1)),(16,rI r_18_1),(17,rI r_19_1.fType),(18,.arr (List.map GTerm_O r_19_1.fKids)),(19,.box [I r_19_1.fOp,I r_19_1.fN,.rs 17,.rs 18]),(20,rI r_20_1)] (ai (laws_toSystem_s _ _ hr_24_2) (ai bod_19 (ai (oi (qSystem r_24_2)) (ai (FnSound.args (A1 := [hSystem r_16_1,hSystem r_24_2]) (A2 := [aSystem r_16_1,aSystem r_24_2]) (by simp only [sI,sB,sL,aSystem,aTerm,aL3Told,aTyped,aTyper,hSystem,hTerm,hL3Told,hTyped,hTyper,List.map_nil,sh_B,sh_I]) (laws_eqSystem_s _ _ hr_24_3)) (ai bod_24 (ai (Or.inr rfl : ([11,12,13,21,22,23] : List Nat) = [] ∨ noSh (.bool r_24_3) = true) trivial)))))) ?_
  rcases is h with ⟨hb_7,h⟩ | ⟨hb_7,h⟩
  ·refine cF (!r_24_3) (nF hb_7) ?_
   refine sk ?_
   refine sN ?_
   obtain ⟨r_26_2,hr_26_2,h⟩ := bsome h
   obtain ⟨r_26_3,hr_26_3,h⟩ := bsome h
   refine rs hc none [oN,oN,some (.call (.osl (List.map LI_o r_26_2)) [] 24),oc (.bool r_26_3),oN] [(2,sI aBudgets2),(4,sI aTy4),(8,.ra 2 0),(15,.rs 16),(16,.ra 19 0),(17,.rs 20),(79,.bool (!r_26_3))] [(2,bTerm aT3),(16,rI r_18_1),(17,rI r_19_1.fType),(18,.arr (List.map GTerm_O r_19_1.fKids)),(19,.box [I r_19_1.fOp,I r_19_1.fN,.rs 17,.rs 18]),(20,rI r_20_1)] (ai (laws_toIntSS_s _ _ hr_26_2) (ai bod_20 (ai (oi (.osl (List.map LI_o r_26_2))) (ai (FnSound.args (A1 := [.sl (shares (List.map LI_o r_17_1)),.sl (shares (List.map LI_o r_26_2))]) (A2 := [sL r_17_1,sL r_26_2]) (by simp only [sI,sB,sL,aSystem,aTerm,aL3Told,aTyped,aTyper,hSystem,hTerm,hL3Told,hTyped,hTyper,List.map_nil,sh_LI_o]) (laws_eqIntSS_s _ _ hr_26_3)) (ai bod_25 (ai (Or.inr rfl : ([15,24] : List Nat) = [] ∨ noSh (.bool r_26_3) = true) trivial)))))) ?_
   rcases is h with ⟨hb_8,h⟩ | ⟨hb_8,h⟩
   ·refine cF (!r_26_3) (nF hb_8) ?_
    refine sk ?_
    refine sN ?_
    obtain ⟨r_28_2,hr_28_2,h⟩ := bsome h
    obtain ⟨r_28_3,hr_28_3,h⟩ := bsome h
    refine rs hc none [oN,oN,some (.call (oI r_28_2) [] 25),oc (.bool r_28_3),oN] [(4,sI aTy4),(8,.ra 2 0),(16,.ra 19 0),(17,.rs 20),(84,.bool (!r_28_3))] [(2,bTerm aT3),(17,rI r_19_1.fType),(18,.arr (List.map GTerm_O r_19_1.fKids)),(19,.box [I r_19_1.fOp,I r_19_1.fN,.rs 17,.rs 18]),(20,rI r_20_1)] (ai (laws_toIntS_s _ _ hr_28_2) (ai bod_35 (ai (oi (oI r_28_2)) (ai (FnSound.args (A1 := [.sl (shares (List.map I r_18_1)),.sl (shares (List.map I r_28_2))]) (A2 := [sI r_18_1,sI r_28_2]) (by simp only [sI,sB,sL,aSystem,aTerm,aL3Told,aTyped,aTyper,hSystem,hTerm,hL3Told,hTyped,hTyper,List.map_nil,sh_I]) (laws_eqIntS_s _ _ hr_28_3)) (ai bod_23 (ai (Or.inr rfl : ([16,25] : List Nat) = [] ∨ noSh (.bool r_28_3) = true) trivial)))))) ?_
    rcases is h with ⟨hb_9,h⟩ | ⟨hb_9,h⟩
    ·refine cF (!r_28_3) (nF hb_9) ?_
     refine sk ?_
     refine sN ?_
     obtain ⟨r_30_2,hr_30_2,h⟩ := bsome h
     obtain ⟨r_30_3,hr_30_3,h⟩ := bsome h
     refine rs hc ah12_1 [oN,oN,some (.call (qTerm r_30_2) [] 26),oc (.bool r_30_3),oN] [(4,sI aTy4),(17,.rs 20),(89,.bool (!r_30_3))] [(20,rI r_20_1)] (ai (laws_toTerm_s _ _ hr_30_2) (ai bod_21 (ai (oi (qTerm r_30_2)) (ai (FnSound.args (A1 := [hTerm r_19_1,hTerm r_30_2]) (A2 := [aTerm r_19_1,aTerm r_30_2]) (by simp only [sI,sB,sL,aSystem,aTerm,aL3Told,aTyped,aTyper,hSystem,hTerm,hL3Told,hTyped,hTyper,List.map_nil,sh_GTerm_O,sh_I]) (laws_eqTerm_s _ _ hr_30_3)) (ai bod_26 (ai (Or.inr rfl : ([17,18,26,27] : List Nat) = [] ∨ noSh (.bool r_30_3) = true) trivial)))))) ?_
     rcases is h with ⟨hb_10,h⟩ | ⟨hb_10,h⟩
     ·refine cF (!r_30_3) (nF hb_10) ?_
      refine sk ?_
      refine sN ?_
      obtain ⟨r_32_2,hr_32_2,h⟩ := bsome h
      obtain ⟨r_32_3,hr_32_3,h⟩ := bsome h
      refine rs hc none [oN,oN,some (.call (oI r_32_2) [] 28),oc (.bool r_32_3),oN] [(94,.bool (!r_32_3))] [] (ai (laws_toIntS_s _ _ hr_32_2) (ai bod_35 (ai (oi (oI r_32_2)) (ai (FnSound.args (A1 := [.sl (shares (List.map I r_20_1)),.sl (shares (List.map I r_32_2))]) (A2 := [sI r_20_1,sI r_32_2]) (by simp only [sI,sB,sL,aSystem,aTerm,aL3Told,aTyped,aTyper,hSystem,hTerm,hL3Told,hTyped,hTyper,List.map_nil,sh_I]) (laws_eqIntS_s _ _ hr_32_3)) (ai bod_23 (ai (Or.inr rfl : ([20,28] : List Nat) = [] ∨ noSh (.bool r_32_3) = true) trivial)))))) ?_
      rcases is h with ⟨hb_11,h⟩ | ⟨hb_11,h⟩
      ·refine cF (!r_32_3) (nF hb_11) ?_
       refine sk ?_
       refine rs0 hc 1 [(10,.bool true)] [] ?_
       refine rt ?_
       obtain rfl := os h
       exact rq [true]
      refine cT (!r_32_3) (nT hb_11) ?_
      refine rs0 hc 1 [(10,.bool false)] [] ?_
      refine rt ?_
      obtain rfl := os h
      exact rq [true]
     refine cT (!r_30_3) (nT hb_10) ?_
     refine rs0 hc 1 [(10,.bool false)] [] ?_
     refine rt ?_
     obtain rfl := os h
     exact rq [true]
    refine cT (!r_28_3) (nT hb_9) ?_
    refine rs0 hc 1 [(10,.bool false)] [] ?_
    refine rt ?_
    obtain rfl := os h
    exact rq [true]
   refine cT (!r_26_3) (nT hb_8) ?_
   refine rs0 hc 1 [(10,.bool false)] [] ?_
   refine rt ?_
   obtain rfl := os h
   exact rq [true]
  refine cT (!r_24_3) (nT hb_7) ?_
  refine rs0 hc 1 [(10,.bool false)] [] ?_
  refine rt ?_
  obtain rfl := os h
  exact rq [true]
 refine cT ((!(r_21_5 == r_15_10))) (nT hb_6) ?_
 refine rs0 hc 1 [(10,.bool false)] [] ?_
 refine rt ?_
 obtain rfl := os h
 exact rq [true]
end Go.Am
