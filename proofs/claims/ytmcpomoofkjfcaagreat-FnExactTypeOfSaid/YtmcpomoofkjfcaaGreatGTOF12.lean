/- Functions of the program as pure functions,and that it computes them. Printed by a program of mine (gen.py). -/
import Derived.Test.YtmcpomoofkjfcaaGreatGTOF11
set_option linter.unusedVariables false
set_option linter.unusedSimpArgs false
set_option maxRecDepth 100000
namespace Go.Am
open Go Go.Proofs
def laws_eqIntSS (p : (List (List Int)) × (List (List Int))) : Option (Bool) :=
 match p with
 | (a0,b1) =>
  if ((a0.length : Int) != (b1.length : Int)) = true then
   some false
  else
   (laws_eqIntSS_l0 (a0,b1,0)) >>= fun fl => match fl with
   | .inl () =>
    some true
   | .inr r =>
    some r
def M_laws_eqIntSS (p : (List (List Int)) × (List (List Int))) (r : Bool) : Prop :=
 match p with
 | (a0,b1) => FnSound Tryz.prog 25 [sL a0,sL b1] (.bool r) []
theorem laws_eqIntSS_s : ∀ p r,laws_eqIntSS p = some r → M_laws_eqIntSS p r := by
 rintro ⟨a0,b1⟩ r h
 unfold laws_eqIntSS at h
 refine b0 Tryz.f25 B25 27 [(0,sL a0),(1,sL b1)] fun c hc => ?_
 refine rs0 hc 1 [(0,sL a0),(1,sL b1)] [] ?_
 refine sN ?_
 refine rs hc none [oN,some (.eqv (.no) ⟨[(7,I (a0.length : Int))],[],[]⟩),oN,some (.eqv (.no) ⟨[(9,I (b1.length : Int))],[],[]⟩),oN] [(0,sL a0),(1,sL b1),(10,.bool ((a0.length : Int) != (b1.length : Int)))] [] (ai (lenT (d := 7) LI_s a0) (ai (lenT (d := 9) LI_s b1) trivial)) ?_
 rcases is h with ⟨hb_1,h⟩ | ⟨hb_1,h⟩
 ·refine cT (((a0.length : Int) != (b1.length : Int))) hb_1 ?_
  refine rs0 hc 1 [(4,.bool false)] [] ?_
  refine rt ?_
  obtain rfl := os h
  exact rq [true]
 refine cF (((a0.length : Int) != (b1.length : Int))) hb_1 ?_
 refine sk ?_
 refine sN ?_
 refine rs0 hc 1 [(0,sL a0),(1,sL b1),(5,I 0)] [] ?_
 refine bk 0 ?_
 obtain ⟨fl,hl_7,h⟩ := bsome h
 have hL := laws_eqIntSS_l0_s _ _ hl_7 c hc
 refine lp ?_
 rcases fl with ⟨⟩ | r
 ·refine WpL.into (e := (.exit 0)) (mkS [] []) hL ?_
  refine blockQ_hit ?_
  refine rs0 hc 1 [(4,.bool true)] [] ?_
  refine rt ?_
  obtain rfl := os h
  exact rq [true]
 refine WpL.mono hL ?_
 rintro _ _ ⟨rfl,hfin⟩
 obtain rfl := os h
 exact ⟨.inl rfl,hfin⟩
def laws_eqTermS_F1 (c : Ctx) : (Unit) ⊕ (Bool) → Exit → AState → Prop
 | .inl _ => Into c (.exit 0) (mkS [] [])
 | .inr r => RetE TIx Tryz.f79 [] (.bool r)
mutual
def laws_eqTerm (p : GTerm × GTerm) : Option (Bool) :=
 match p with
 | (a0,b1) =>
  if (a0.fOp != b1.fOp) = true then
   some false
  else
   if (a0.fN != b1.fN) = true then
    some false
   else
    (laws_eqIntS (a0.fType,b1.fType)) >>= fun r_5_4 =>
    if r_5_4 = true then
     (laws_eqTermS (a0.fKids,b1.fKids)) >>= fun r_7_4 =>
     if r_7_4 = true then
      some true
     else
      some false
    else
     some false
 partial_fixpoint
def laws_eqTermS (p : (List GTerm) × (List GTerm)) : Option (Bool) :=
 match p with
 | (a0,b1) =>
  if ((a0.length : Int) != (b1.length : Int)) = true then
   some false
  else
   (laws_eqTermS_l0 (a0,b1,0)) >>= fun fl => match fl with
   | .inl () =>
    some true
   | .inr r =>
    some r
 partial_fixpoint
def laws_eqTermS_l0 (p : (List GTerm) × (List GTerm) × Int) : Option ((Unit) ⊕ (Bool)) :=
 match p with
 | (a0,b1,i_4) =>
  if (decide (i_4 < (a0.length : Int))) = true then
   (idx a0 i_4) >>= fun e_6_2 =>
   (idx b1 i_4) >>= fun e_6_6 =>
   (laws_eqTerm (e_6_2,e_6_6)) >>= fun r_6_8 =>
   if r_6_8 = true then
    laws_eqTermS_l0 (a0,b1,(wr (i_4 + 1)))
   else
    some (.inr false)
  else
   some (.inl ())
 partial_fixpoint
end
def M_laws_eqTerm (p : GTerm × GTerm) (r : Bool) : Prop :=
 match p with
 | (a0,b1) => FnSound Tryz.prog 26 [aTerm a0,aTerm b1] (.bool r) []
def M_laws_eqTermS (p : (List GTerm) × (List GTerm)) (r : Bool) : Prop :=
 match p with
 | (a0,b1) => FnSound Tryz.prog 79 [.sl (List.map GTerm_S a0),.sl (List.map GTerm_S b1)] (.bool r) []
def M_laws_eqTermS_l0 (p : (List GTerm) × (List GTerm) × Int) (fl : (Unit) ⊕ (Bool)) : Prop :=
 match p with
 | (a0,b1,i_4) => ∀ c : Ctx,c.nt = 27 → WpL Tryz.prog c (cl (cl (cr (cl (cr (cr B79)))))) (laws_eqTermS_F1 c fl) (mkS [(0,.sl (List.map GTerm_S a0)),(1,.sl (List.map GTerm_S b1)),(5,I i_4)] [])
theorem laws_eqTerm_all : (∀ p r,laws_eqTerm p = some r → M_laws_eqTerm p r) ∧ (∀ p r,laws_eqTermS p = some r → M_laws_eqTermS p r) ∧ (∀ p r,laws_eqTermS_l0 p = some r → M_laws_eqTermS_l0 p r) := by
 refine laws_eqTerm.mutual_partial_correctness M_laws_eqTerm M_laws_eqTermS M_laws_eqTermS_l0 ?_ ?_ ?_
 ·rintro laws_eqTermS_f laws_eqTermS_ih ⟨a0,b1⟩ r h
  refine b0 Tryz.f26 B26 27 [(0,aTerm a0),(1,aTerm b1)] fun c hc => ?_
  refine rs hc none [some (.new 1),some (.new 2),oN] [(2,.ra 1 0),(3,.ra 2 0)] [(1,bTerm a0),(2,bTerm b1)] trivial ?_
  refine sN ?_
  refine rs0 hc 5 [(2,.ra 1 0),(3,.ra 2 0),(9,.bool (a0.fOp != b1.fOp))] [(1,bTerm a0),(2,bTerm b1)] ?_
  rcases is h with ⟨hb_1,h⟩ | ⟨hb_1,h⟩
  ·refine cT ((a0.fOp != b1.fOp)) hb_1 ?_
   refine rs0 hc 1 [(4,.bool false)] [] ?_
   refine rt ?_
   obtain rfl := os h
   exact rq [true]
  refine cF ((a0.fOp != b1.fOp)) hb_1 ?_
  refine sk ?_
  refine sN ?_
  refine rs0 hc 5 [(2,.ra 1 0),(3,.ra 2 0),(14,.bool (a0.fN != b1.fN))] [(1,bTerm a0),(2,bTerm b1)] ?_
  rcases is h with ⟨hb_2,h⟩ | ⟨hb_2,h⟩
  ·refine cT ((a0.fN != b1.fN)) hb_2 ?_
   refine rs0 hc 1 [(4,.bool false)] [] ?_
   refine rt ?_
   obtain rfl := os h
   exact rq [true]
  refine cF ((a0.fN != b1.fN)) hb_2 ?_
  refine sk ?_
  refine sN ?_
  obtain ⟨r_5_4,hr_5_4,h⟩ := bsome h
  refine rs hc none [oN,oN,oN,oN,oc (.bool r_5_4),oN] [(2,.ra 1 0),(3,.ra 2 0),(20,.bool (!r_5_4))] [(1,bTerm a0),(2,bTerm b1)] (ai (laws_eqIntS_s _ _ hr_5_4) (ai bod_23 (ai (oi (.bool r_5_4)) trivial))) ?_
  rcases is h with ⟨hb_3,h⟩ | ⟨hb_3,h⟩
  ·refine cF (!r_5_4) (nF hb_3) ?_
   refine sk ?_
   refine sN ?_
   obtain ⟨r_7_4,hr_7_4,h⟩ := bsome h
   refine rs hc none [oN,oN,oN,oN,oc (.bool r_7_4),oN] [(26,.bool (!r_7_4))] [] (ai (laws_eqTermS_ih _ _ hr_7_4) (ai bod_79 (ai (oi (.bool r_7_4)) trivial))) ?_
   rcases is h with ⟨hb_4,h⟩ | ⟨hb_4,h⟩
   ·refine cF (!r_7_4) (nF hb_4) ?_
    refine sk ?_
    refine rs0 hc 1 [(4,.bool true)] [] ?_
    refine rt ?_
    obtain rfl := os h
    exact rq [true]
   refine cT (!r_7_4) (nT hb_4) ?_
   refine rs0 hc 1 [(4,.bool false)] [] ?_
   refine rt ?_
   obtain rfl := os h
   exact rq [true]
  refine cT (!r_5_4) (nT hb_3) ?_
  refine rs0 hc 1 [(4,.bool false)] [] ?_
  refine rt ?_
  obtain rfl := os h
  exact rq [true]
 ·rintro laws_eqTermS_l0_f laws_eqTermS_l0_ih ⟨a0,b1⟩ r h
  refine b0 Tryz.f79 B79 27 [(0,.sl (List.map GTerm_S a0)),(1,.sl (List.map GTerm_S b1))] fun c hc => ?_
  refine rs0 hc 1 [(0,.sl (List.map GTerm_S a0)),(1,.sl (List.map GTerm_S b1))] [] ?_
  refine sN ?_
  refine rs hc none [oN,some (.eqv (.no) ⟨[(7,I (a0.length : Int))],[],[]⟩),oN,some (.eqv (.no) ⟨[(9,I (b1.length : Int))],[],[]⟩),oN] [(0,.sl (List.map GTerm_S a0)),(1,.sl (List.map GTerm_S b1)),(10,.bool ((a0.length : Int) != (b1.length : Int)))] [] (ai (lenT (d := 7) GTerm_S a0) (ai (lenT (d := 9) GTerm_S b1) trivial)) ?_
  rcases is h with ⟨hb_1,h⟩ | ⟨hb_1,h⟩
  ·refine cT (((a0.length : Int) != (b1.length : Int))) hb_1 ?_
   refine rs0 hc 1 [(4,.bool false)] [] ?_
   refine rt ?_
   obtain rfl := os h
   exact rq [true]
  refine cF (((a0.length : Int) != (b1.length : Int))) hb_1 ?_
  refine sk ?_
  refine sN ?_
  refine rs0 hc 1 [(0,.sl (List.map GTerm_S a0)),(1,.sl (List.map GTerm_S b1)),(5,I 0)] [] ?_
  refine bk 0 ?_
  obtain ⟨fl,hl_7,h⟩ := bsome h
  have hL := laws_eqTermS_l0_ih _ _ hl_7 c hc
  refine lp ?_
  rcases fl with ⟨⟩ | r
  ·refine WpL.into (e := (.exit 0)) (mkS [] []) hL ?_
   refine blockQ_hit ?_
   refine rs0 hc 1 [(4,.bool true)] [] ?_
   refine rt ?_
   obtain rfl := os h
   exact rq [true]
  refine WpL.mono hL ?_
  rintro _ _ ⟨rfl,hfin⟩
  obtain rfl := os h
  exact ⟨.inl rfl,hfin⟩
 ·rintro laws_eqTerm_f laws_eqTermS_l0_f laws_eqTerm_ih laws_eqTermS_l0_ih ⟨a0,b1,i_4⟩ r h
  intro c hc
  refine WpL.step ?_
  refine sN ?_
  refine rs hc none [oN,oN,some (.eqv (.no) ⟨[(13,I (a0.length : Int))],[],[]⟩),oN] [(0,.sl (List.map GTerm_S a0)),(1,.sl (List.map GTerm_S b1)),(5,I i_4),(14,.bool (decide (i_4 < (a0.length : Int))))] [] (ai (lenT (d := 13) GTerm_S a0) trivial) ?_
  rcases is h with ⟨hb_5,h⟩ | ⟨hb_5,h⟩
  ·refine cT ((decide (i_4 < (a0.length : Int)))) hb_5 ?_
   refine sk ?_
   refine sN ?_
   refine bk 1 ?_
   obtain ⟨e_6_2,hi_6_2,h⟩ := bsome h
   obtain ⟨e_6_6,hi_6_6,h⟩ := bsome h
   obtain ⟨r_6_8,hr_6_8,h⟩ := bsome h
   refine rs hc (rx [[0],[0],[2],[3],[0],[0],[0,4,5],[0,4,5,6],[8],[9]]) [oN,oN,some (.el (aTerm e_6_2)),oN,oN,oN,some (.el (aTerm e_6_6)),oN,oc (.bool r_6_8),oN] [(0,.sl (List.map GTerm_S a0)),(1,.sl (List.map GTerm_S b1)),(5,I i_4),(26,.bool (!r_6_8))] [] (ai (idx_sl (enc := GTerm_S) (x := aTerm e_6_2) hi_6_2 (eq_GTerm_S e_6_2)) (ai (idx_sl (enc := GTerm_S) (x := aTerm e_6_6) hi_6_6 (eq_GTerm_S e_6_6)) (ai (laws_eqTerm_ih _ _ hr_6_8) (ai bod_26 (ai (oi (.bool r_6_8)) trivial))))) ?_
   rcases is h with ⟨hb_6,h⟩ | ⟨hb_6,h⟩
   ·refine cF (!r_6_8) (nF hb_6) ?_
    refine sk ?_
    refine rg0 hc 3 [(0,.sl (List.map GTerm_S a0)),(1,.sl (List.map GTerm_S b1)),(5,I (wr (i_4 + 1)))] [] ?_
    refine loopQ_norm ?_
    exact (laws_eqTermS_l0_ih _ _ h c hc)
   refine cT (!r_6_8) (nT hb_6) ?_
   refine rs0 hc 1 [(4,.bool false)] [] ?_
   refine rt ?_
   obtain rfl := os h
   exact re [true]
  refine cF ((decide (i_4 < (a0.length : Int)))) hb_5 ?_
  refine xt 0 ?_
  refine seqQ_exit ?_
  refine loopQ_exit ?_
  obtain rfl := os h
  exact iv []
theorem laws_eqTerm_s : ∀ p r,laws_eqTerm p = some r → M_laws_eqTerm p r := laws_eqTerm_all.1
theorem laws_eqTermS_s : ∀ p r,laws_eqTermS p = some r → M_laws_eqTermS p r := laws_eqTerm_all.2.1
theorem laws_eqTermS_l0_s : ∀ p r,laws_eqTermS_l0 p = some r → M_laws_eqTermS_l0 p r := laws_eqTerm_all.2.2
def laws_markIntS_F1 (c : Ctx) : Int × (List Int) → Exit → AState → Prop
 | (k_6,x_7) => Into c (.exit 0) (mkS [(1,I k_6)] [(1000,rI x_7)])
def laws_markIntS_l0 (p : (List Int) × Int × Int) : Option (Int × (List Int)) :=
 match p with
 | (a_2,k_3,i_4) =>
  if (decide (i_4 < (a_2.length : Int))) = true then
   (idx a_2 i_4) >>= fun e_4_3 =>
   laws_markIntS_l0 ((List.set a_2 (Int.toNat i_4) k_3),(wr (k_3 + 1)),(wr (i_4 + 1)))
  else
   some ((k_3,a_2))
 partial_fixpoint
def M_laws_markIntS_l0 (p : (List Int) × Int × Int) (fl : Int × (List Int)) : Prop :=
 match p with
 | (a_2,k_3,i_4) => ∀ c : Ctx,c.nt = 19 → WpL Tryz.prog c (cl (cl (cr (cl (cr B30))))) (laws_markIntS_F1 c fl) (mkS [(0,.rs 1000),(1,I k_3),(5,I i_4)] [(1000,rI a_2)])
theorem laws_markIntS_l0_s : ∀ p r,laws_markIntS_l0 p = some r → M_laws_markIntS_l0 p r := by
 refine laws_markIntS_l0.partial_correctness M_laws_markIntS_l0 ?_
 rintro laws_markIntS_l0_f laws_markIntS_l0_ih ⟨a_2,k_3,i_4⟩ r h
 intro c hc
 refine WpL.step ?_
 refine sN ?_
 refine rs hc none [oN,oN,some (.eqv (.no) ⟨[(8,I (a_2.length : Int))],[],[]⟩),oN] [(0,.rs 1000),(1,I k_3),(5,I i_4),(9,.bool (decide (i_4 < (a_2.length : Int))))] [(1000,rI a_2)] (ai (lenT (d := 8) I a_2) trivial) ?_
 rcases is h with ⟨hb_5,h⟩ | ⟨hb_5,h⟩
 ·refine cT ((decide (i_4 < (a_2.length : Int)))) hb_5 ?_
  refine sk ?_
  refine sN ?_
  refine bk 1 ?_
  obtain ⟨e_4_3,hi_4_3,h⟩ := bsome h
  refine rs hc none [oN,oN,oN,oN,some (.eqv (.mk 0 true) ⟨[],[(1000,some (.arr (List.map I (List.set a_2 (Int.toNat i_4) k_3))))],[]⟩)] [(0,.rs 1000),(1,I k_3),(5,I i_4)] [(1000,.arr (List.map I (List.set a_2 (Int.toNat i_4) k_3)))] (ai (idx_own (enc := I) hi_4_3) (ai (congrArg (fun z => (⟨[],[(1000,some (.arr z))],[]⟩ : Wr)) (set_row (enc := I) (i := Int.toNat i_4) (l := a_2) (v := k_3) (x := I k_3) (eq_I k_3))) (ai (own_set (enc := I) (sz := 1) sz_I hi_4_3) trivial))) ?_
  refine rg0 hc 3 [(0,.rs 1000),(1,I (wr (k_3 + 1))),(5,I i_4)] [(1000,.arr (List.map I (List.set a_2 (Int.toNat i_4) k_3)))] ?_
  refine rg0 hc 3 [(0,.rs 1000),(1,I (wr (k_3 + 1))),(5,I (wr (i_4 + 1)))] [(1000,.arr (List.map I (List.set a_2 (Int.toNat i_4) k_3)))] ?_
  refine loopQ_norm ?_
  exact (laws_markIntS_l0_ih _ _ h c hc)
 refine cF ((decide (i_4 < (a_2.length : Int)))) hb_5 ?_
 refine xt 0 ?_
 refine seqQ_exit ?_
 refine loopQ_exit ?_
 obtain ⟨rfl,rfl⟩ := Prod.mk.inj (Option.some.inj h)
 exact iv []
def laws_markIntS (p : (List Int) × Int) : Option (Int × (List Int)) :=
 match p with
 | (a0,k1) =>
  (laws_markIntS_l0 (a0,k1,0)) >>= fun (k_6,x_7) =>
  some (k_6,x_7)
def M_laws_markIntS (p : (List Int) × Int) (r : Int × (List Int)) : Prop :=
 match p with
 | (a0,k1) => FnSound Tryz.prog 30 [oI a0,I k1] (I r.1) [oI r.2,.undef]
theorem laws_markIntS_s : ∀ p r,laws_markIntS p = some r → M_laws_markIntS p r := by
 rintro ⟨a0,k1⟩ r h
 unfold laws_markIntS at h
 refine FnSound.bodyO tiok (fn := Tryz.f30) (code := B30) (by kernel_rfl) (by kernel_rfl) (by kernel_rfl) (nt := 19) (by kernel_rfl) (by kernel_rfl) (T := [(0,.rs 1000),(1,I k1)]) (O := [(1000,rI a0)]) (by kernel_rfl) (by kernel_rfl) (fun c hc => ?_)
 refine rs0 hc 1 [(0,.rs 1000),(1,I k1)] [(1000,rI a0)] ?_
 refine sN ?_
 refine rs0 hc 1 [(0,.rs 1000),(1,I k1),(5,I 0)] [(1000,rI a0)] ?_
 refine bk 0 ?_
 obtain ⟨⟨k_6,x_7⟩,hl_8,h⟩ := bsome h
 have hL := laws_markIntS_l0_s _ _ hl_8 c hc
 refine lp ?_
 refine WpL.into (e := (.exit 0)) (mkS [(1,I k_6)] [(1000,rI x_7)]) hL ?_
 refine blockQ_hit ?_
 refine rs0 hc 2 [(4,I k_6)] [(1000,rI x_7)] ?_
 refine rt ?_
 obtain rfl := os h
 exact RetOQ.ret (fl := [true]) (by kernel_rfl)
def laws_markBoolS_F1 (c : Ctx) : Int × (List Bool) → Exit → AState → Prop
 | (k_6,x_7) => Into c (.exit 0) (mkS [(1,I k_6)] [(1000,.arr (List.map AV.bool x_7))])
def laws_markBoolS_l0 (p : (List Bool) × Int × Int) : Option (Int × (List Bool)) :=
 match p with
 | (a_2,k_3,i_4) =>
  if (decide (i_4 < (a_2.length : Int))) = true then
   (idx a_2 i_4) >>= fun e_4_5 =>
   laws_markBoolS_l0 ((List.set a_2 (Int.toNat i_4) ((Int.tmod k_3 3) == 0)),(wr (k_3 + 1)),(wr (i_4 + 1)))
  else
   some ((k_3,a_2))
 partial_fixpoint
def M_laws_markBoolS_l0 (p : (List Bool) × Int × Int) (fl : Int × (List Bool)) : Prop :=
 match p with
 | (a_2,k_3,i_4) => ∀ c : Ctx,c.nt = 21 → WpL Tryz.prog c (cl (cl (cr (cl (cr B80))))) (laws_markBoolS_F1 c fl) (mkS [(0,.rs 1000),(1,I k_3),(5,I i_4)] [(1000,.arr (List.map AV.bool a_2))])
theorem laws_markBoolS_l0_s : ∀ p r,laws_markBoolS_l0 p = some r → M_laws_markBoolS_l0 p r := by
 refine laws_markBoolS_l0.partial_correctness M_laws_markBoolS_l0 ?_
 rintro laws_markBoolS_l0_f laws_markBoolS_l0_ih ⟨a_2,k_3,i_4⟩ r h
 intro c hc
 refine WpL.step ?_
 refine sN ?_
 refine rs hc none [oN,oN,some (.eqv (.no) ⟨[(8,I (a_2.length : Int))],[],[]⟩),oN] [(0,.rs 1000),(1,I k_3),(5,I i_4),(9,.bool (decide (i_4 < (a_2.length : Int))))] [(1000,.arr (List.map AV.bool a_2))] (ai (lenT (d := 8) AV.bool a_2) trivial) ?_
 rcases is h with ⟨hb_5,h⟩ | ⟨hb_5,h⟩
 ·refine cT ((decide (i_4 < (a_2.length : Int)))) hb_5 ?_
  refine sk ?_
  refine sN ?_
  refine bk 1 ?_
  obtain ⟨e_4_5,hi_4_5,h⟩ := bsome h
  refine rs hc none [oN,oN,oN,oN,oN,oN,some (.eqv (.mk 0 true) ⟨[],[(1000,some (.arr (List.map AV.bool (List.set a_2 (Int.toNat i_4) ((Int.tmod k_3 3) == 0)))))],[]⟩)] [(0,.rs 1000),(1,I k_3),(5,I i_4)] [(1000,.arr (List.map AV.bool (List.set a_2 (Int.toNat i_4) ((Int.tmod k_3 3) == 0))))] (ai ((by decide) : (3 : Int) ≠ 0) (ai (idx_own (enc := AV.bool) hi_4_5) (ai (congrArg (fun z => (⟨[],[(1000,some (.arr z))],[]⟩ : Wr)) (set_row (enc := AV.bool) (i := Int.toNat i_4) (l := a_2) (v := ((Int.tmod k_3 3) == 0)) (x := AV.bool ((Int.tmod k_3 3) == 0)) (eq_B ((Int.tmod k_3 3) == 0)))) (ai (own_set (enc := AV.bool) (sz := 1) sz_B hi_4_5) trivial)))) ?_
  refine rg0 hc 3 [(0,.rs 1000),(1,I (wr (k_3 + 1))),(5,I i_4)] [(1000,.arr (List.map AV.bool (List.set a_2 (Int.toNat i_4) ((Int.tmod k_3 3) == 0))))] ?_
  refine rg0 hc 3 [(0,.rs 1000),(1,I (wr (k_3 + 1))),(5,I (wr (i_4 + 1)))] [(1000,.arr (List.map AV.bool (List.set a_2 (Int.toNat i_4) ((Int.tmod k_3 3) == 0))))] ?_
  refine loopQ_norm ?_
  exact (laws_markBoolS_l0_ih _ _ h c hc)
 refine cF ((decide (i_4 < (a_2.length : Int)))) hb_5 ?_
 refine xt 0 ?_
 refine seqQ_exit ?_
 refine loopQ_exit ?_
 obtain ⟨rfl,rfl⟩ := Prod.mk.inj (Option.some.inj h)
 exact iv []
def laws_markBoolS (p : (List Bool) × Int) : Option (Int × (List Bool)) :=
 match p with
 | (a0,k1) =>
  (laws_markBoolS_l0 (a0,k1,0)) >>= fun (k_6,x_7) =>
  some (k_6,x_7)
def M_laws_markBoolS (p : (List Bool) × Int) (r : Int × (List Bool)) : Prop :=
 match p with
 | (a0,k1) => FnSound Tryz.prog 80 [.osl (List.map AV.bool a0),I k1] (I r.1) [.osl (List.map AV.bool r.2),.undef]
theorem laws_markBoolS_s : ∀ p r,laws_markBoolS p = some r → M_laws_markBoolS p r := by
 rintro ⟨a0,k1⟩ r h
 unfold laws_markBoolS at h
 refine FnSound.bodyO tiok (fn := Tryz.f80) (code := B80) (by kernel_rfl) (by kernel_rfl) (by kernel_rfl) (nt := 21) (by kernel_rfl) (by kernel_rfl) (T := [(0,.rs 1000),(1,I k1)]) (O := [(1000,.arr (List.map AV.bool a0))]) (by kernel_rfl) (by kernel_rfl) (fun c hc => ?_)
 refine rs0 hc 1 [(0,.rs 1000),(1,I k1)] [(1000,.arr (List.map AV.bool a0))] ?_
 refine sN ?_
 refine rs0 hc 1 [(0,.rs 1000),(1,I k1),(5,I 0)] [(1000,.arr (List.map AV.bool a0))] ?_
 refine bk 0 ?_
 obtain ⟨⟨k_6,x_7⟩,hl_8,h⟩ := bsome h
 have hL := laws_markBoolS_l0_s _ _ hl_8 c hc
 refine lp ?_
 refine WpL.into (e := (.exit 0)) (mkS [(1,I k_6)] [(1000,.arr (List.map AV.bool x_7))]) hL ?_
 refine blockQ_hit ?_
 refine rs0 hc 2 [(4,I k_6)] [(1000,.arr (List.map AV.bool x_7))] ?_
 refine rt ?_
 obtain rfl := os h
 exact RetOQ.ret (fl := [true]) (by kernel_rfl)
def laws_markSystem (p : GSystem × Int) : Option (Int × GSystem) :=
 match p with
 | (a0,k1) =>
  (laws_markIntS (a0.fPlus,k1)) >>= fun (r_1_3,o_1_3_0) =>
  (laws_markIntS (a0.fTimes,r_1_3)) >>= fun (r_2_3,o_2_3_0) =>
  (laws_markBoolS (a0.fBelow,r_2_3)) >>= fun (r_3_3,o_3_3_0) =>
  some (r_3_3,(GSystem.mk a0.fSize o_1_3_0 o_2_3_0 o_3_3_0))
def M_laws_markSystem (p : GSystem × Int) (r : Int × GSystem) : Prop :=
 match p with
 | (a0,k1) => FnSound Tryz.prog 27 [qSystem a0,I k1] (I r.1) [.agg [.undef,.osl (List.map I r.2.fPlus),.osl (List.map I r.2.fTimes),.osl (List.map AV.bool r.2.fBelow)],.undef]
theorem laws_markSystem_s : ∀ p r,laws_markSystem p = some r → M_laws_markSystem p r := by
 rintro ⟨a0,k1⟩ r h
 unfold laws_markSystem at h
 refine FnSound.bodyO tiok (fn := Tryz.f27) (code := B27) (by kernel_rfl) (by kernel_rfl) (by kernel_rfl) (nt := 18) (by kernel_rfl) (by kernel_rfl) (T := [(0,.agg [I a0.fSize,.rs 1000,.rs 1001,.rs 1002]),(1,I k1)]) (O := [(1000,rI a0.fPlus),(1001,rI a0.fTimes),(1002,.arr (List.map AV.bool a0.fBelow))]) (by kernel_rfl) (by kernel_rfl) (fun c hc => ?_)
 refine rs hc none [some (.new 1),oN] [(1,I k1),(2,.ra 1 0)] [(1,.box [I a0.fSize,.rs 1000,.rs 1001,.rs 1002]),(1000,rI a0.fPlus),(1001,rI a0.fTimes),(1002,.arr (List.map AV.bool a0.fBelow))] trivial ?_
 obtain ⟨⟨r_1_3,o_1_3_0⟩,hr_1_3,h⟩ := bsome h
 refine rs hc none [oN,oN,oN,some (.call (I r_1_3) [oI o_1_3_0,.undef] 1),oN] [(1,I r_1_3),(2,.ra 1 0)] [(1,.box [I a0.fSize,.rs 1000,.rs 1001,.rs 1002]),(1000,rI o_1_3_0),(1001,rI a0.fTimes),(1002,.arr (List.map AV.bool a0.fBelow))] (ai (laws_markIntS_s _ _ hr_1_3) (ai bod_30 trivial)) ?_
 obtain ⟨⟨r_2_3,o_2_3_0⟩,hr_2_3,h⟩ := bsome h
 refine rs hc none [oN,oN,oN,some (.call (I r_2_3) [oI o_2_3_0,.undef] 1),oN] [(1,I r_2_3),(2,.ra 1 0)] [(1,.box [I a0.fSize,.rs 1000,.rs 1001,.rs 1002]),(1000,rI o_1_3_0),(1001,rI o_2_3_0),(1002,.arr (List.map AV.bool a0.fBelow))] (ai (laws_markIntS_s _ _ hr_2_3) (ai bod_30 trivial)) ?_
 obtain ⟨⟨r_3_3,o_3_3_0⟩,hr_3_3,h⟩ := bsome h
 refine rs hc none [oN,oN,oN,some (.call (I r_3_3) [.osl (List.map AV.bool o_3_3_0),.undef] 1),oN] [(1,I r_3_3)] [(1000,rI o_1_3_0),(1001,rI o_2_3_0),(1002,.arr (List.map AV.bool o_3_3_0))] (ai (laws_markBoolS_s _ _ hr_3_3) (ai bod_80 trivial)) ?_
 refine rs0 hc 2 [(4,I r_3_3)] [(1000,rI o_1_3_0),(1001,rI o_2_3_0),(1002,.arr (List.map AV.bool o_3_3_0))] ?_
 refine rt ?_
 obtain rfl := os h
 exact RetOQ.ret (fl := [true]) (by kernel_rfl)
def laws_markIntSS_F1 (c : Ctx) : Int × (List (List Int)) → Exit → AState → Prop
 | (k_6,x_7) => Into c (.exit 0) (mkS [(1,I k_6)] [(1000,.arr (List.map LI_o x_7))])
def laws_markIntSS_l0 (p : (List (List Int)) × Int × Int) : Option (Int × (List (List Int))) :=
 match p with
 | (a_2,k_3,i_4) =>
  if (decide (i_4 < (a_2.length : Int))) = true then
   (idx a_2 i_4) >>= fun e_4_x =>
   (laws_markIntS (e_4_x,k_3)) >>= fun (r_4_5,o_4_5_0) =>
   laws_markIntSS_l0 ((List.set a_2 (Int.toNat i_4) o_4_5_0),r_4_5,(wr (i_4 + 1)))
  else
   some ((k_3,a_2))
 partial_fixpoint
def M_laws_markIntSS_l0 (p : (List (List Int)) × Int × Int) (fl : Int × (List (List Int))) : Prop :=
 match p with
 | (a_2,k_3,i_4) => ∀ c : Ctx,c.nt = 19 → WpL Tryz.prog c (cl (cl (cr (cl (cr B28))))) (laws_markIntSS_F1 c fl) (mkS [(0,.rs 1000),(1,I k_3),(5,I i_4)] [(1000,.arr (List.map LI_o a_2))])
theorem laws_markIntSS_l0_s : ∀ p r,laws_markIntSS_l0 p = some r → M_laws_markIntSS_l0 p r := by
 refine laws_markIntSS_l0.partial_correctness M_laws_markIntSS_l0 ?_
 rintro laws_markIntSS_l0_f laws_markIntSS_l0_ih ⟨a_2,k_3,i_4⟩ r h
 intro c hc
 refine WpL.step ?_
 refine sN ?_
 refine rs hc none [oN,oN,some (.eqv (.no) ⟨[(8,I (a_2.length : Int))],[],[]⟩),oN] [(0,.rs 1000),(1,I k_3),(5,I i_4),(9,.bool (decide (i_4 < (a_2.length : Int))))] [(1000,.arr (List.map LI_o a_2))] (ai (lenT (d := 8) LI_o a_2) trivial) ?_
 rcases is h with ⟨hb_5,h⟩ | ⟨hb_5,h⟩
 ·refine cT ((decide (i_4 < (a_2.length : Int)))) hb_5 ?_
  refine sk ?_
  refine sN ?_
  refine bk 1 ?_
  obtain ⟨e_4_x,hx_4_x,h⟩ := bsome h
  refine Wp.view (fun a w hv => SRx.openL 1000 (Int.toNat i_4) 0 2 [2,1000] (xs := List.map LI_o a_2) (ys := List.map I e_4_x) (x0 := oI e_4_x) hv (by kernel_rfl) (idx_sl (enc := LI_o) (x := oI e_4_x) hx_4_x (eq_LI_o e_4_x)).2 (by kernel_rfl) (by kernel_rfl) (by kernel_rfl)) (?_ : Wp Tryz.prog c _ _ (mkS [(0,.rs 1000),(1,I k_3),(5,I i_4),(9,.bool (decide (i_4 < (a_2.length : Int))))] [(2,rI e_4_x),(1000,.arx (List.map LI_o a_2) (Int.toNat i_4) 0 2)]))
  obtain ⟨⟨r_4_5,o_4_5_0⟩,hr_4_5,h⟩ := bsome h
  refine rg hc none [oN,oN,oN,some (.el (oI e_4_x)),oN,some (.call (I r_4_5) [oI o_4_5_0,.undef] 1),oN] [(0,.rs 1000),(1,I r_4_5),(5,I i_4)] [(2,rI o_4_5_0),(1000,.arx (List.map LI_o a_2) (Int.toNat i_4) 0 2)] (ai (idx_own (enc := LI_o) hx_4_x) (ai (And.intro (idx_sl (enc := LI_o) (x := oI e_4_x) hx_4_x (eq_LI_o e_4_x)).2 (rfl : Int.toNat i_4 = Int.toNat i_4)) (ai (laws_markIntS_s _ _ hr_4_5) (ai bod_30 trivial)))) ?_
  refine Wp.view (fun a w hv => SRx.closeL 1000 (Int.toNat i_4) 0 2 [1000] (xs := List.map LI_o a_2) (ys := List.map I o_4_5_0) (x0 := oI e_4_x) (x1 := oI o_4_5_0) hv (by kernel_rfl) (by kernel_rfl) (by kernel_rfl) (idx_sl (enc := LI_o) (x := oI e_4_x) hx_4_x (eq_LI_o e_4_x)).2 (by kernel_rfl) (by kernel_rfl : _ = oI o_4_5_0) (set_row (enc := LI_o) (i := Int.toNat i_4) (l := a_2) (v := o_4_5_0) (x := oI o_4_5_0) (eq_LI_o o_4_5_0)) (by kernel_rfl)) (?_ : Wp Tryz.prog c _ _ (mkS [(0,.rs 1000),(1,I r_4_5),(5,I i_4)] [(1000,.arr (List.map LI_o (List.set a_2 (Int.toNat i_4) o_4_5_0)))]))
  refine rg0 hc 3 [(0,.rs 1000),(1,I r_4_5),(5,I (wr (i_4 + 1)))] [(1000,.arr (List.map LI_o (List.set a_2 (Int.toNat i_4) o_4_5_0)))] ?_
  refine loopQ_norm ?_
  exact (laws_markIntSS_l0_ih _ _ h c hc)
 refine cF ((decide (i_4 < (a_2.length : Int)))) hb_5 ?_
 refine xt 0 ?_
 refine seqQ_exit ?_
 refine loopQ_exit ?_
 obtain ⟨rfl,rfl⟩ := Prod.mk.inj (Option.some.inj h)
 exact iv []
def laws_markIntSS (p : (List (List Int)) × Int) : Option (Int × (List (List Int))) :=
 match p with
 | (a0,k1) =>
  (laws_markIntSS_l0 (a0,k1,0)) >>= fun (k_6,x_7) =>
  some (k_6,x_7)
def M_laws_markIntSS (p : (List (List Int)) × Int) (r : Int × (List (List Int))) : Prop :=
 match p with
 | (a0,k1) => FnSound Tryz.prog 28 [.osl (List.map LI_o a0),I k1] (I r.1) [.osl (List.map LI_o r.2),.undef]
theorem laws_markIntSS_s : ∀ p r,laws_markIntSS p = some r → M_laws_markIntSS p r := by
 rintro ⟨a0,k1⟩ r h
 unfold laws_markIntSS at h
 refine FnSound.bodyO tiok (fn := Tryz.f28) (code := B28) (by kernel_rfl) (by kernel_rfl) (by kernel_rfl) (nt := 19) (by kernel_rfl) (by kernel_rfl) (T := [(0,.rs 1000),(1,I k1)]) (O := [(1000,.arr (List.map LI_o a0))]) (by kernel_rfl) (by kernel_rfl) (fun c hc => ?_)
 refine rs0 hc 1 [(0,.rs 1000),(1,I k1)] [(1000,.arr (List.map LI_o a0))] ?_
 refine sN ?_
 refine rs0 hc 1 [(0,.rs 1000),(1,I k1),(5,I 0)] [(1000,.arr (List.map LI_o a0))] ?_
 refine bk 0 ?_
 obtain ⟨⟨k_6,x_7⟩,hl_8,h⟩ := bsome h
 have hL := laws_markIntSS_l0_s _ _ hl_8 c hc
 refine lp ?_
 refine WpL.into (e := (.exit 0)) (mkS [(1,I k_6)] [(1000,.arr (List.map LI_o x_7))]) hL ?_
 refine blockQ_hit ?_
 refine rs0 hc 2 [(4,I k_6)] [(1000,.arr (List.map LI_o x_7))] ?_
 refine rt ?_
 obtain rfl := os h
 exact RetOQ.ret (fl := [true]) (by kernel_rfl)
def laws_markTermS_F1 (c : Ctx) : Int × (List GTerm) → Exit → AState → Prop
 | (k_6,x_7) => Into c (.exit 0) (mkS [(1,I k_6)] [(1000,.arr (List.map GTerm_O x_7))])
mutual
def laws_markTermS (p : (List GTerm) × Int) : Option (Int × (List GTerm)) :=
 match p with
 | (a0,k1) =>
  (laws_markTermS_l0 (a0,k1,0)) >>= fun (k_6,x_7) =>
  some (k_6,x_7)
 partial_fixpoint
def laws_markTermS_l0 (p : (List GTerm) × Int × Int) : Option (Int × (List GTerm)) :=
 match p with
 | (a_2,k_3,i_4) =>
  if (decide (i_4 < (a_2.length : Int))) = true then
   (idx a_2 i_4) >>= fun e_4_3 =>
   (idx (List.set a_2 (Int.toNat i_4) (GTerm.mk k_3 e_4_3.fN e_4_3.fType e_4_3.fKids)) i_4) >>= fun e_6_3 =>
   (idx (List.set (List.set a_2 (Int.toNat i_4) (GTerm.mk k_3 e_4_3.fN e_4_3.fType e_4_3.fKids)) (Int.toNat i_4) (GTerm.mk e_6_3.fOp (wr (k_3 + 1)) e_6_3.fType e_6_3.fKids)) i_4) >>= fun e_8_x =>
   (laws_markIntS (e_8_x.fType,(wr ((wr (k_3 + 1)) + 1)))) >>= fun (r_8_6,o_8_6_0) =>
   (idx (List.set (List.set (List.set a_2 (Int.toNat i_4) (GTerm.mk k_3 e_4_3.fN e_4_3.fType e_4_3.fKids)) (Int.toNat i_4) (GTerm.mk e_6_3.fOp (wr (k_3 + 1)) e_6_3.fType e_6_3.fKids)) (Int.toNat i_4) (GTerm.mk e_8_x.fOp e_8_x.fN o_8_6_0 e_8_x.fKids)) i_4) >>= fun e_9_x =>
   (laws_markTermS (e_9_x.fKids,r_8_6)) >>= fun (r_9_6,o_9_6_0) =>
   laws_markTermS_l0 ((List.set (List.set (List.set (List.set a_2 (Int.toNat i_4) (GTerm.mk k_3 e_4_3.fN e_4_3.fType e_4_3.fKids)) (Int.toNat i_4) (GTerm.mk e_6_3.fOp (wr (k_3 + 1)) e_6_3.fType e_6_3.fKids)) (Int.toNat i_4) (GTerm.mk e_8_x.fOp e_8_x.fN o_8_6_0 e_8_x.fKids)) (Int.toNat i_4) (GTerm.mk e_9_x.fOp e_9_x.fN e_9_x.fType o_9_6_0)),r_9_6,(wr (i_4 + 1)))
  else
   some ((k_3,a_2))
 partial_fixpoint
end
def M_laws_markTermS (p : (List GTerm) × Int) (r : Int × (List GTerm)) : Prop :=
 match p with
 | (a0,k1) => FnSound Tryz.prog 81 [.osl (List.map GTerm_O a0),I k1] (I r.1) [.osl (List.map GTerm_O r.2),.undef]
def M_laws_markTermS_l0 (p : (List GTerm) × Int × Int) (fl : Int × (List GTerm)) : Prop :=
 match p with
 | (a_2,k_3,i_4) => ∀ c : Ctx,c.nt = 41 → WpL Tryz.prog c (cl (cl (cr (cl (cr B81))))) (laws_markTermS_F1 c fl) (mkS [(0,.rs 1000),(1,I k_3),(5,I i_4)] [(1000,.arr (List.map GTerm_O a_2))])
theorem laws_markTermS_all : (∀ p r,laws_markTermS p = some r → M_laws_markTermS p r) ∧ (∀ p r,laws_markTermS_l0 p = some r → M_laws_markTermS_l0 p r) := by
 refine laws_markTermS.mutual_partial_correctness M_laws_markTermS M_laws_markTermS_l0 ?_ ?_
 ·rintro laws_markTermS_l0_f laws_markTermS_l0_ih ⟨a0,k1⟩ r h
  refine FnSound.bodyO tiok (fn := Tryz.f81) (code := B81) (by kernel_rfl) (by kernel_rfl) (by kernel_rfl) (nt := 41) (by kernel_rfl) (by kernel_rfl) (T := [(0,.rs 1000),(1,I k1)]) (O := [(1000,.arr (List.map GTerm_O a0))]) (by kernel_rfl) (by kernel_rfl) (fun c hc => ?_)
  refine rs0 hc 1 [(0,.rs 1000),(1,I k1)] [(1000,.arr (List.map GTerm_O a0))] ?_
  refine sN ?_
  refine rs0 hc 1 [(0,.rs 1000),(1,I k1),(5,I 0)] [(1000,.arr (List.map GTerm_O a0))] ?_
  refine bk 0 ?_
  obtain ⟨⟨k_6,x_7⟩,hl_8,h⟩ := bsome h
  have hL := laws_markTermS_l0_ih _ _ hl_8 c hc
  refine lp ?_
  refine WpL.into (e := (.exit 0)) (mkS [(1,I k_6)] [(1000,.arr (List.map GTerm_O x_7))]) hL ?_
  refine blockQ_hit ?_
  refine rs0 hc 2 [(4,I k_6)] [(1000,.arr (List.map GTerm_O x_7))] ?_
  refine rt ?_
  obtain rfl := os h
  exact RetOQ.ret (fl := [true]) (by kernel_rfl)
 ·rintro laws_markTermS_f laws_markTermS_l0_f laws_markTermS_ih laws_markTermS_l0_ih ⟨a_2,k_3,i_4⟩ r h
  intro c hc
  refine WpL.step ?_
  refine sN ?_
  refine rs hc none [oN,oN,some (.eqv (.no) ⟨[(8,I (a_2.length : Int))],[],[]⟩),oN] [(0,.rs 1000),(1,I k_3),(5,I i_4),(9,.bool (decide (i_4 < (a_2.length : Int))))] [(1000,.arr (List.map GTerm_O a_2))] (ai (lenT (d := 8) GTerm_O a_2) trivial) ?_
  rcases is h with ⟨hb_5,h⟩ | ⟨hb_5,h⟩
  ·refine cT ((decide (i_4 < (a_2.length : Int)))) hb_5 ?_
   refine sk ?_
   refine sN ?_
   refine bk 1 ?_
   obtain ⟨e_4_3,hi_4_3,h⟩ := bsome h
   refine rs hc none [oN,oN,oN,oN,oN,some (.eqv (.el (qTerm e_4_3)) ⟨[],[(1000,some (.arr (List.map GTerm_O (List.set a_2 (Int.toNat i_4) (GTerm.mk k_3 e_4_3.fN e_4_3.fType e_4_3.fKids)))))],[]⟩)] [(0,.rs 1000),(1,I k_3),(5,I i_4)] [(1000,.arr (List.map GTerm_O (List.set a_2 (Int.toNat i_4) (GTerm.mk k_3 e_4_3.fN e_4_3.fType e_4_3.fKids))))] (ai (idx_own (enc := GTerm_O) hi_4_3) (ai (congrArg (fun z => (⟨[],[(1000,some (.arr z))],[]⟩ : Wr)) (set_row (enc := GTerm_O) (i := Int.toNat i_4) (l := a_2) (v := (GTerm.mk k_3 e_4_3.fN e_4_3.fType e_4_3.fKids)) (x := AV.agg [I k_3,I e_4_3.fN,oI e_4_3.fType,.osl (List.map GTerm_O e_4_3.fKids)]) (eq_GTerm_O (GTerm.mk k_3 e_4_3.fN e_4_3.fType e_4_3.fKids)))) (ai (idx_sl (enc := GTerm_O) (x := qTerm e_4_3) hi_4_3 (eq_GTerm_O e_4_3)).2 trivial))) ?_
   refine rs0 hc 3 [(0,.rs 1000),(1,I (wr (k_3 + 1))),(5,I i_4)] [(1000,.arr (List.map GTerm_O (List.set a_2 (Int.toNat i_4) (GTerm.mk k_3 e_4_3.fN e_4_3.fType e_4_3.fKids))))] ?_
   obtain ⟨e_6_3,hi_6_3,h⟩ := bsome h
   refine rs hc none [oN,oN,oN,oN,oN,some (.eqv (.el (qTerm e_6_3)) ⟨[],[(1000,some (.arr (List.map GTerm_O (List.set (List.set a_2 (Int.toNat i_4) (GTerm.mk k_3 e_4_3.fN e_4_3.fType e_4_3.fKids)) (Int.toNat i_4) (GTerm.mk e_6_3.fOp (wr (k_3 + 1)) e_6_3.fType e_6_3.fKids)))))],[]⟩)] [(0,.rs 1000),(1,I (wr (k_3 + 1))),(5,I i_4)] [(1000,.arr (List.map GTerm_O (List.set (List.set a_2 (Int.toNat i_4) (GTerm.mk k_3 e_4_3.fN e_4_3.fType e_4_3.fKids)) (Int.toNat i_4) (GTerm.mk e_6_3.fOp (wr (k_3 + 1)) e_6_3.fType e_6_3.fKids))))] (ai (idx_own (enc := GTerm_O) hi_6_3) (ai (congrArg (fun z => (⟨[],[(1000,some (.arr z))],[]⟩ : Wr)) (set_row (enc := GTerm_O) (i := Int.toNat i_4) (l := (List.set a_2 (Int.toNat i_4) (GTerm.mk k_3 e_4_3.fN e_4_3.fType e_4_3.fKids))) (v := (GTerm.mk e_6_3.fOp (wr (k_3 + 1)) e_6_3.fType e_6_3.fKids)) (x := AV.agg [I e_6_3.fOp,I (wr (k_3 + 1)),oI e_6_3.fType,.osl (List.map GTerm_O e_6_3.fKids)]) (eq_GTerm_O (GTerm.mk e_6_3.fOp (wr (k_3 + 1)) e_6_3.fType e_6_3.fKids)))) (ai (idx_sl (enc := GTerm_O) (x := qTerm e_6_3) hi_6_3 (eq_GTerm_O e_6_3)).2 trivial))) ?_
   refine rs0 hc 3 [(0,.rs 1000),(1,I (wr ((wr (k_3 + 1)) + 1))),(5,I i_4)] [(1000,.arr (List.map GTerm_O (List.set (List.set a_2 (Int.toNat i_4) (GTerm.mk k_3 e_4_3.fN e_4_3.fType e_4_3.fKids)) (Int.toNat i_4) (GTerm.mk e_6_3.fOp (wr (k_3 + 1)) e_6_3.fType e_6_3.fKids))))] ?_
   refine sN ?_
   obtain ⟨e_8_x,hx_8_x,h⟩ := bsome h
   refine Wp.view (fun a w hv => SRx.openL 1000 (Int.toNat i_4) 2 3 [3,1000] (xs := List.map GTerm_O (List.set (List.set a_2 (Int.toNat i_4) (GTerm.mk k_3 e_4_3.fN e_4_3.fType e_4_3.fKids)) (Int.toNat i_4) (GTerm.mk e_6_3.fOp (wr (k_3 + 1)) e_6_3.fType e_6_3.fKids))) (ys := List.map I e_8_x.fType) (x0 := qTerm e_8_x) hv (by kernel_rfl) (idx_sl (enc := GTerm_O) (x := qTerm e_8_x) hx_8_x (eq_GTerm_O e_8_x)).2 (by kernel_rfl) (by kernel_rfl) (by kernel_rfl)) (?_ : Wp Tryz.prog c _ _ (mkS [(0,.rs 1000),(1,I (wr ((wr (k_3 + 1)) + 1))),(5,I i_4)] [(3,rI e_8_x.fType),(1000,.arx (List.map GTerm_O (List.set (List.set a_2 (Int.toNat i_4) (GTerm.mk k_3 e_4_3.fN e_4_3.fType e_4_3.fKids)) (Int.toNat i_4) (GTerm.mk e_6_3.fOp (wr (k_3 + 1)) e_6_3.fType e_6_3.fKids))) (Int.toNat i_4) 2 3)]))
   obtain ⟨⟨r_8_6,o_8_6_0⟩,hr_8_6,h⟩ := bsome h
   refine rg hc none [oN,oN,oN,oN,some (.el (qTerm e_8_x)),oN,some (.call (I r_8_6) [oI o_8_6_0,.undef] 1),oN] [(0,.rs 1000),(1,I r_8_6),(5,I i_4)] [(3,rI o_8_6_0),(1000,.arx (List.map GTerm_O (List.set (List.set a_2 (Int.toNat i_4) (GTerm.mk k_3 e_4_3.fN e_4_3.fType e_4_3.fKids)) (Int.toNat i_4) (GTerm.mk e_6_3.fOp (wr (k_3 + 1)) e_6_3.fType e_6_3.fKids))) (Int.toNat i_4) 2 3)] (ai (idx_own (enc := GTerm_O) hx_8_x) (ai (And.intro (idx_sl (enc := GTerm_O) (x := qTerm e_8_x) hx_8_x (eq_GTerm_O e_8_x)).2 (rfl : Int.toNat i_4 = Int.toNat i_4)) (ai (laws_markIntS_s _ _ hr_8_6) (ai bod_30 trivial)))) ?_
   refine Wp.view (fun a w hv => SRx.closeL 1000 (Int.toNat i_4) 2 3 [1000] (xs := List.map GTerm_O (List.set (List.set a_2 (Int.toNat i_4) (GTerm.mk k_3 e_4_3.fN e_4_3.fType e_4_3.fKids)) (Int.toNat i_4) (GTerm.mk e_6_3.fOp (wr (k_3 + 1)) e_6_3.fType e_6_3.fKids))) (ys := List.map I o_8_6_0) (x0 := qTerm e_8_x) (x1 := AV.agg [I e_8_x.fOp,I e_8_x.fN,oI o_8_6_0,.osl (List.map GTerm_O e_8_x.fKids)]) hv (by kernel_rfl) (by kernel_rfl) (by kernel_rfl) (idx_sl (enc := GTerm_O) (x := qTerm e_8_x) hx_8_x (eq_GTerm_O e_8_x)).2 (by kernel_rfl) (by kernel_rfl : _ = AV.agg [I e_8_x.fOp,I e_8_x.fN,oI o_8_6_0,.osl (List.map GTerm_O e_8_x.fKids)]) (set_row (enc := GTerm_O) (i := Int.toNat i_4) (l := (List.set (List.set a_2 (Int.toNat i_4) (GTerm.mk k_3 e_4_3.fN e_4_3.fType e_4_3.fKids)) (Int.toNat i_4) (GTerm.mk e_6_3.fOp (wr (k_3 + 1)) e_6_3.fType e_6_3.fKids))) (v := (GTerm.mk e_8_x.fOp e_8_x.fN o_8_6_0 e_8_x.fKids)) (x := AV.agg [I e_8_x.fOp,I e_8_x.fN,oI o_8_6_0,.osl (List.map GTerm_O e_8_x.fKids)]) (eq_GTerm_O (GTerm.mk e_8_x.fOp e_8_x.fN o_8_6_0 e_8_x.fKids))) (by kernel_rfl)) (?_ : Wp Tryz.prog c _ _ (mkS [(0,.rs 1000),(1,I r_8_6),(5,I i_4)] [(1000,.arr (List.map GTerm_O (List.set (List.set (List.set a_2 (Int.toNat i_4) (GTerm.mk k_3 e_4_3.fN e_4_3.fType e_4_3.fKids)) (Int.toNat i_4) (GTerm.mk e_6_3.fOp (wr (k_3 + 1)) e_6_3.fType e_6_3.fKids)) (Int.toNat i_4) (GTerm.mk e_8_x.fOp e_8_x.fN o_8_6_0 e_8_x.fKids))))]))
   obtain ⟨e_9_x,hx_9_x,h⟩ := bsome h
   refine Wp.view (fun a w hv => SRx.openL 1000 (Int.toNat i_4) 3 4 [4,1000] (xs := List.map GTerm_O (List.set (List.set (List.set a_2 (Int.toNat i_4) (GTerm.mk k_3 e_4_3.fN e_4_3.fType e_4_3.fKids)) (Int.toNat i_4) (GTerm.mk e_6_3.fOp (wr (k_3 + 1)) e_6_3.fType e_6_3.fKids)) (Int.toNat i_4) (GTerm.mk e_8_x.fOp e_8_x.fN o_8_6_0 e_8_x.fKids))) (ys := List.map GTerm_O e_9_x.fKids) (x0 := qTerm e_9_x) hv (by kernel_rfl) (idx_sl (enc := GTerm_O) (x := qTerm e_9_x) hx_9_x (eq_GTerm_O e_9_x)).2 (by kernel_rfl) (by kernel_rfl) (by kernel_rfl)) (?_ : Wp Tryz.prog c _ _ (mkS [(0,.rs 1000),(1,I r_8_6),(5,I i_4)] [(4,.arr (List.map GTerm_O e_9_x.fKids)),(1000,.arx (List.map GTerm_O (List.set (List.set (List.set a_2 (Int.toNat i_4) (GTerm.mk k_3 e_4_3.fN e_4_3.fType e_4_3.fKids)) (Int.toNat i_4) (GTerm.mk e_6_3.fOp (wr (k_3 + 1)) e_6_3.fType e_6_3.fKids)) (Int.toNat i_4) (GTerm.mk e_8_x.fOp e_8_x.fN o_8_6_0 e_8_x.fKids))) (Int.toNat i_4) 3 4)]))
   obtain ⟨⟨r_9_6,o_9_6_0⟩,hr_9_6,h⟩ := bsome h
   refine rg hc none [oN,oN,oN,oN,some (.el (qTerm e_9_x)),oN,some (.call (I r_9_6) [.osl (List.map GTerm_O o_9_6_0),.undef] 1),oN] [(0,.rs 1000),(1,I r_9_6),(5,I i_4)] [(4,.arr (List.map GTerm_O o_9_6_0)),(1000,.arx (List.map GTerm_O (List.set (List.set (List.set a_2 (Int.toNat i_4) (GTerm.mk k_3 e_4_3.fN e_4_3.fType e_4_3.fKids)) (Int.toNat i_4) (GTerm.mk e_6_3.fOp (wr (k_3 + 1)) e_6_3.fType e_6_3.fKids)) (Int.toNat i_4) (GTerm.mk e_8_x.fOp e_8_x.fN o_8_6_0 e_8_x.fKids))) (Int.toNat i_4) 3 4)] (ai (idx_own (enc := GTerm_O) hx_9_x) (ai (And.intro (idx_sl (enc := GTerm_O) (x := qTerm e_9_x) hx_9_x (eq_GTerm_O e_9_x)).2 (rfl : Int.toNat i_4 = Int.toNat i_4)) (ai (laws_markTermS_ih _ _ hr_9_6) (ai bod_81 trivial)))) ?_
   refine Wp.view (fun a w hv => SRx.closeL 1000 (Int.toNat i_4) 3 4 [1000] (xs := List.map GTerm_O (List.set (List.set (List.set a_2 (Int.toNat i_4) (GTerm.mk k_3 e_4_3.fN e_4_3.fType e_4_3.fKids)) (Int.toNat i_4) (GTerm.mk e_6_3.fOp (wr (k_3 + 1)) e_6_3.fType e_6_3.fKids)) (Int.toNat i_4) (GTerm.mk e_8_x.fOp e_8_x.fN o_8_6_0 e_8_x.fKids))) (ys := List.map GTerm_O o_9_6_0) (x0 := qTerm e_9_x) (x1 := AV.agg [I e_9_x.fOp,I e_9_x.fN,oI e_9_x.fType,.osl (List.map GTerm_O o_9_6_0)]) hv (by kernel_rfl) (by kernel_rfl) (by kernel_rfl) (idx_sl (enc := GTerm_O) (x := qTerm e_9_x) hx_9_x (eq_GTerm_O e_9_x)).2 (by kernel_rfl) (by kernel_rfl : _ = AV.agg [I e_9_x.fOp,I e_9_x.fN,oI e_9_x.fType,.osl (List.map GTerm_O o_9_6_0)]) (set_row (enc := GTerm_O) (i := Int.toNat i_4) (l := (List.set (List.set (List.set a_2 (Int.toNat i_4) (GTerm.mk k_3 e_4_3.fN e_4_3.fType e_4_3.fKids)) (Int.toNat i_4) (GTerm.mk e_6_3.fOp (wr (k_3 + 1)) e_6_3.fType e_6_3.fKids)) (Int.toNat i_4) (GTerm.mk e_8_x.fOp e_8_x.fN o_8_6_0 e_8_x.fKids))) (v := (GTerm.mk e_9_x.fOp e_9_x.fN e_9_x.fType o_9_6_0)) (x := AV.agg [I e_9_x.fOp,I e_9_x.fN,oI e_9_x.fType,.osl (List.map GTerm_O o_9_6_0)]) (eq_GTerm_O (GTerm.mk e_9_x.fOp e_9_x.fN e_9_x.fType o_9_6_0))) (by kernel_rfl)) (?_ : Wp Tryz.prog c _ _ (mkS [(0,.rs 1000),(1,I r_9_6),(5,I i_4)] [(1000,.arr (List.map GTerm_O (List.set (List.set (List.set (List.set a_2 (Int.toNat i_4) (GTerm.mk k_3 e_4_3.fN e_4_3.fType e_4_3.fKids)) (Int.toNat i_4) (GTerm.mk e_6_3.fOp (wr (k_3 + 1)) e_6_3.fType e_6_3.fKids)) (Int.toNat i_4) (GTerm.mk e_8_x.fOp e_8_x.fN o_8_6_0 e_8_x.fKids)) (Int.toNat i_4) (GTerm.mk e_9_x.fOp e_9_x.fN e_9_x.fType o_9_6_0))))]))
   refine rg0 hc 3 [(0,.rs 1000),(1,I r_9_6),(5,I (wr (i_4 + 1)))] [(1000,.arr (List.map GTerm_O (List.set (List.set (List.set (List.set a_2 (Int.toNat i_4) (GTerm.mk k_3 e_4_3.fN e_4_3.fType e_4_3.fKids)) (Int.toNat i_4) (GTerm.mk e_6_3.fOp (wr (k_3 + 1)) e_6_3.fType e_6_3.fKids)) (Int.toNat i_4) (GTerm.mk e_8_x.fOp e_8_x.fN o_8_6_0 e_8_x.fKids)) (Int.toNat i_4) (GTerm.mk e_9_x.fOp e_9_x.fN e_9_x.fType o_9_6_0))))] ?_
   refine loopQ_norm ?_
   exact (laws_markTermS_l0_ih _ _ h c hc)
  refine cF ((decide (i_4 < (a_2.length : Int)))) hb_5 ?_
  refine xt 0 ?_
  refine seqQ_exit ?_
  refine loopQ_exit ?_
  obtain ⟨rfl,rfl⟩ := Prod.mk.inj (Option.some.inj h)
  exact iv []
theorem laws_markTermS_s : ∀ p r,laws_markTermS p = some r → M_laws_markTermS p r := laws_markTermS_all.1
theorem laws_markTermS_l0_s : ∀ p r,laws_markTermS_l0 p = some r → M_laws_markTermS_l0 p r := laws_markTermS_all.2
def laws_markTerm (p : GTerm × Int) : Option (Int × GTerm) :=
 match p with
 | (a0,k1) =>
  (laws_markIntS (a0.fType,k1)) >>= fun (r_1_3,o_1_3_0) =>
  (laws_markTermS (a0.fKids,r_1_3)) >>= fun (r_2_3,o_2_3_0) =>
  some (r_2_3,(GTerm.mk a0.fOp a0.fN o_1_3_0 o_2_3_0))
def M_laws_markTerm (p : GTerm × Int) (r : Int × GTerm) : Prop :=
 match p with
 | (a0,k1) => FnSound Tryz.prog 29 [qTerm a0,I k1] (I r.1) [.agg [.undef,.undef,.osl (List.map I r.2.fType),.osl (List.map GTerm_O r.2.fKids)],.undef]
theorem laws_markTerm_s : ∀ p r,laws_markTerm p = some r → M_laws_markTerm p r := by
 rintro ⟨a0,k1⟩ r h
 unfold laws_markTerm at h
 refine FnSound.bodyO tiok (fn := Tryz.f29) (code := B29) (by kernel_rfl) (by kernel_rfl) (by kernel_rfl) (nt := 14) (by kernel_rfl) (by kernel_rfl) (T := [(0,.agg [I a0.fOp,I a0.fN,.rs 1000,.rs 1001]),(1,I k1)]) (O := [(1000,rI a0.fType),(1001,.arr (List.map GTerm_O a0.fKids))]) (by kernel_rfl) (by kernel_rfl) (fun c hc => ?_)
 refine rs hc none [some (.new 1),oN] [(1,I k1),(2,.ra 1 0)] [(1,.box [I a0.fOp,I a0.fN,.rs 1000,.rs 1001]),(1000,rI a0.fType),(1001,.arr (List.map GTerm_O a0.fKids))] trivial ?_
 obtain ⟨⟨r_1_3,o_1_3_0⟩,hr_1_3,h⟩ := bsome h
 refine rs hc none [oN,oN,oN,some (.call (I r_1_3) [oI o_1_3_0,.undef] 1),oN] [(1,I r_1_3),(2,.ra 1 0)] [(1,.box [I a0.fOp,I a0.fN,.rs 1000,.rs 1001]),(1000,rI o_1_3_0),(1001,.arr (List.map GTerm_O a0.fKids))] (ai (laws_markIntS_s _ _ hr_1_3) (ai bod_30 trivial)) ?_
 obtain ⟨⟨r_2_3,o_2_3_0⟩,hr_2_3,h⟩ := bsome h
 refine rs hc none [oN,oN,oN,some (.call (I r_2_3) [.osl (List.map GTerm_O o_2_3_0),.undef] 1),oN] [(1,I r_2_3)] [(1000,rI o_1_3_0),(1001,.arr (List.map GTerm_O o_2_3_0))] (ai (laws_markTermS_s _ _ hr_2_3) (ai bod_81 trivial)) ?_
 refine rs0 hc 2 [(4,I r_2_3)] [(1000,rI o_1_3_0),(1001,.arr (List.map GTerm_O o_2_3_0))] ?_
 refine rt ?_
 obtain rfl := os h
 exact RetOQ.ret (fl := [true]) (by kernel_rfl)
def laws_heldIntS_F1 (c : Ctx) : (Int) ⊕ (Int) → Exit → AState → Prop
 | .inl k_7 => Into c (.exit 0) (mkS [(1,I k_7)] [])
 | .inr r => RetE TIx Tryz.f31 [] (I r)
def laws_heldIntS_l0 (p : (List Int) × Int × Int) : Option ((Int) ⊕ (Int)) :=
 match p with
 | (a0,k_3,i_4) =>
  if (decide (i_4 < (a0.length : Int))) = true then
   (idx a0 i_4) >>= fun e_4_2 =>
   if (e_4_2 != k_3) = true then
    some (.inr (-1))
   else
    laws_heldIntS_l0 (a0,(wr (k_3 + 1)),(wr (i_4 + 1)))
  else
   some (.inl k_3)
 partial_fixpoint
def M_laws_heldIntS_l0 (p : (List Int) × Int × Int) (fl : (Int) ⊕ (Int)) : Prop :=
 match p with
 | (a0,k_3,i_4) => ∀ c : Ctx,c.nt = 21 → WpL Tryz.prog c (cl (cl (cr (cl (cr B31))))) (laws_heldIntS_F1 c fl) (mkS [(0,sI a0),(1,I k_3),(5,I i_4)] [])
theorem laws_heldIntS_l0_s : ∀ p r,laws_heldIntS_l0 p = some r → M_laws_heldIntS_l0 p r := by
 refine laws_heldIntS_l0.partial_correctness M_laws_heldIntS_l0 ?_
 rintro laws_heldIntS_l0_f laws_heldIntS_l0_ih ⟨a0,k_3,i_4⟩ r h
 intro c hc
 refine WpL.step ?_
 refine sN ?_
 refine rs hc none [oN,oN,some (.eqv (.no) ⟨[(8,I (a0.length : Int))],[],[]⟩),oN] [(0,sI a0),(1,I k_3),(5,I i_4),(9,.bool (decide (i_4 < (a0.length : Int))))] [] (ai (lenT (d := 8) I a0) trivial) ?_
 rcases is h with ⟨hb_5,h⟩ | ⟨hb_5,h⟩
 ·refine cT ((decide (i_4 < (a0.length : Int)))) hb_5 ?_
  refine sk ?_
  refine sN ?_
  refine bk 1 ?_
  refine sN ?_
  obtain ⟨e_4_2,hi_4_2,h⟩ := bsome h
  refine rs hc none [oN,oN,some (.el (I e_4_2)),oN,oN,oN] [(0,sI a0),(1,I k_3),(5,I i_4),(17,.bool (e_4_2 != k_3))] [] (ai (ix hi_4_2) trivial) ?_
  rcases is h with ⟨hb_6,h⟩ | ⟨hb_6,h⟩
  ·refine cT ((e_4_2 != k_3)) hb_6 ?_
   refine rs0 hc 1 [(4,I (-1))] [] ?_
   refine rt ?_
   obtain rfl := os h
   exact re [true]
  refine cF ((e_4_2 != k_3)) hb_6 ?_
  refine sk ?_
  refine rg0 hc 3 [(0,sI a0),(1,I (wr (k_3 + 1))),(5,I i_4)] [] ?_
  refine rg0 hc 3 [(0,sI a0),(1,I (wr (k_3 + 1))),(5,I (wr (i_4 + 1)))] [] ?_
  refine loopQ_norm ?_
  exact (laws_heldIntS_l0_ih _ _ h c hc)
 refine cF ((decide (i_4 < (a0.length : Int)))) hb_5 ?_
 refine xt 0 ?_
 refine seqQ_exit ?_
 refine loopQ_exit ?_
 obtain rfl := os h
 exact iv []
def laws_heldIntS (p : (List Int) × Int) : Option (Int) :=
 match p with
 | (a0,k1) =>
  (laws_heldIntS_l0 (a0,k1,0)) >>= fun fl => match fl with
  | .inl k_7 =>
   some k_7
  | .inr r =>
   some r
def M_laws_heldIntS (p : (List Int) × Int) (r : Int) : Prop :=
 match p with
 | (a0,k1) => FnSound Tryz.prog 31 [sI a0,I k1] (I r) []
theorem laws_heldIntS_s : ∀ p r,laws_heldIntS p = some r → M_laws_heldIntS p r := by
 rintro ⟨a0,k1⟩ r h
 unfold laws_heldIntS at h
 refine b0 Tryz.f31 B31 21 [(0,sI a0),(1,I k1)] fun c hc => ?_
 refine rs0 hc 1 [(0,sI a0),(1,I k1)] [] ?_
 refine sN ?_
 refine rs0 hc 1 [(0,sI a0),(1,I k1),(5,I 0)] [] ?_
 refine bk 0 ?_
 obtain ⟨fl,hl_8,h⟩ := bsome h
 have hL := laws_heldIntS_l0_s _ _ hl_8 c hc
 refine lp ?_
 rcases fl with k_7 | r
 ·refine WpL.into (e := (.exit 0)) (mkS [(1,I k_7)] []) hL ?_
  refine blockQ_hit ?_
  refine rs0 hc 2 [(4,I k_7)] [] ?_
  refine rt ?_
  obtain rfl := os h
  exact rq [true]
 refine WpL.mono hL ?_
 rintro _ _ ⟨rfl,hfin⟩
 obtain rfl := os h
 exact ⟨.inl rfl,hfin⟩
end Go.Am
