/- Functions of the program as pure functions,and that it computes them. Printed by a program of mine (gen.py). -/
import Derived.Test.YtckgdfakjjdodaaGreatGDEFF10
set_option linter.unusedVariables false
set_option linter.unusedSimpArgs false
set_option maxRecDepth 100000
namespace Go.Am
open Go Go.Proofs
def Kl3 (c0 : Int) : Option (Int) :=
 if (c0 == 0) = true then
 some 0
 else
 ((
 if (c0 == 1) = true then
 some (true)
 else
 if (c0 == 2) = true then
 some (true)
 else
 (Kkx c0) >>= fun a0 =>
 some (a0)
 ) : Option (Bool)) >>= fun a1 =>
 if a1 = true then
 some 2
 else
 (Kl0 c0) >>= fun a2 =>
 if a2 = true then
 some 1
 else
 some (-1)
def Kl4 (c0 : Int) (r : Int) : Prop :=
 Q71 Tryz.prog 168 [I c0] (I r) []
theorem Kl5 : ∀ p r,Kl3 p = some r → Kl4 p r := by
 rintro c0 r h
 unfold Kl3 at h
 refine b0 Tryz.f168 K79 20 [(0,I c0)] fun c hc => ?_
 refine rs0 hc 1 [(0,I c0)] [] ?_
 refine sN ?_
 refine bk 0 ?_
 refine rs0 hc 3 [(0,I c0),(3,.bool (c0 == 0))] [] ?_
 refine ic h (fun a0 h => ?_) fun a0 h => ?_
 ·refine rs0 hc 1 [(2,I 0)] [] ?_
  refine rt ?_
  obtain rfl := os h
  exact rq [true]
 refine sN ?_
 obtain ⟨a1,a2,h⟩ := Qdd h
 refine Wp.into (x := .normal) (mkS [(0,I c0),(6,.bool a1)] []) ?_ ?_
 ·replace h := a2
  rcases is h with ⟨a3,h⟩ | ⟨a3,h⟩
  ·refine rg hc none [oN,oN,oN,o_,o_,oT,oN,o_,o_,oT,oN] [(0,I c0),(6,.bool true)] [] (ar 2 (neF a3) (ai a3 (ar 2 nf (ai tt tv)))) ?_
   obtain rfl := os h
   exact Qcz.mk
  rcases is h with ⟨a4,h⟩ | ⟨a4,h⟩
  ·refine rg hc none [oN,oN,oN,oN,oN,oF,oN,o_,o_,oT,oN] [(0,I c0),(6,.bool true)] [] (ar 3 a3 (ar 2 (neF a4) (ai a4 tv))) ?_
   obtain rfl := os h
   exact Qcz.mk
  obtain ⟨a5,a6,h⟩ := Qdd h
  refine rg hc none [oN,oN,oN,oN,oN,oF,oN,oN,oc (.bool a5),oF,oN] [(0,I c0),(6,.bool a5)] [] (ar 3 a3 (ar 2 a4 (cq (Kkz _ _ a6) K76 (ai a4 tv)))) ?_
  obtain rfl := os h
  exact Qcz.mk
 clear a2
 refine ic h (fun a7 h => ?_) fun a7 h => ?_
 ·refine rs0 hc 1 [(2,I 2)] [] ?_
  refine rt ?_
  obtain rfl := os h
  exact rq [true]
 obtain ⟨a8,a9,h⟩ := Qdd h
 refine rs hc none [oN,oc (.bool a8),oN] [(17,.bool a8)] [] (cq (Kl2 _ _ a9) K78 tv) ?_
 refine ic h (fun b1 h => ?_) fun b1 h => ?_
 ·refine rs0 hc 1 [(2,I 1)] [] ?_
  refine rt ?_
  obtain rfl := os h
  exact rq [true]
 refine sk ?_
 refine rs0 hc 1 [(2,I (-1))] [] ?_
 refine rt ?_
 obtain rfl := os h
 exact rq [true]
def Kl6 (c : Ctx) : (Unit) ⊕ (Int) → Exit → Q0a → Prop
 | .inl _ => Qcz c (.exit 0) (mkS [] [])
 | .inr r => Qd8 TIx Tryz.f167 [] (I r)
def Kl7 (p : (List Int) × Int × Int) : Option ((Unit) ⊕ (Int)) :=
 match p with
 | (ty0,a0,a1) =>
  if (decide (a1 < (ty0.length : Int))) = true then
  (idx ty0 a1) >>= fun a2 =>
  (Kl3 a2) >>= fun a3 =>
  if (decide (a3 < 0)) = true then
  some (.inr (-1))
  else
  if ((wr ((wr (a0 - 1)) + a3)) == 0) = true then
  some (.inr (wr (a1 + 1)))
  else
  Kl7 (ty0,(wr ((wr (a0 - 1)) + a3)),(wr (a1 + 1)))
  else
  some (.inl ())
 partial_fixpoint
def Kl8 (p : (List Int) × Int × Int) (fl : (Unit) ⊕ (Int)) : Prop :=
 match p with
 | (ty0,a0,a1) => ∀ c : Ctx,c.nt = 30 → WpL Tryz.prog c (cl (cl (cr (cl (cr (cr K7b)))))) (Kl6 c fl) (mkS [(0,sI ty0),(5,I a0),(6,I a1)] [])
theorem Kl9 : ∀ p r,Kl7 p = some r → Kl8 p r := by
 refine Kl7.partial_correctness Kl8 ?_
 rintro spec_l2End_l0_f spec_l2End_l0_ih ⟨ty0,a0,a1⟩ r h
 intro c hc
 refine WpL.step ?_
 refine sN ?_
 refine rs hc none [oN,oN,some (.eqv (.no) ⟨[(11,I (ty0.length : Int))],[],[]⟩),oN] [(0,sI ty0),(5,I a0),(6,I a1),(12,.bool (decide (a1 < (ty0.length : Int))))] [] (ai (Qdj (d := 11) I ty0) tv) ?_
 refine ic h (fun a2 h => ?_) fun a2 h => ?_
 ·refine sk ?_
  refine sN ?_
  refine bk 1 ?_
  obtain ⟨a3,a4,a5,a6,h⟩ := bq2 h
  refine rs hc none [oN,oN,some (.el (I a3)),oN,oc (I a5),oN] [(0,sI ty0),(5,I a0),(6,I a1),(7,I a5)] [] (ai (ix a4) (cq (Kl5 _ _ a6) K7a tv)) ?_
  refine sN ?_
  refine rs0 hc 2 [(0,sI ty0),(5,I a0),(6,I a1),(7,I a5),(21,.bool (decide (a5 < 0)))] [] ?_
  refine ic h (fun a7 h => ?_) fun a7 h => ?_
  ·refine rs0 hc 1 [(4,I (-1))] [] ?_
   refine rt ?_
   obtain rfl := os h
   exact re [true]
  refine sk ?_
  refine rs0 hc 5 [(0,sI ty0),(5,I (wr ((wr (a0 - 1)) + a5))),(6,I a1)] [] ?_
  refine rs0 hc 2 [(0,sI ty0),(5,I (wr ((wr (a0 - 1)) + a5))),(6,I a1),(27,.bool ((wr ((wr (a0 - 1)) + a5)) == 0))] [] ?_
  refine ic h (fun a8 h => ?_) fun a8 h => ?_
  ·refine rs0 hc 3 [(4,I (wr (a1 + 1)))] [] ?_
   refine rt ?_
   obtain rfl := os h
   exact re [true]
  refine sk ?_
  refine rg0 hc 3 [(0,sI ty0),(5,I (wr ((wr (a0 - 1)) + a5))),(6,I (wr (a1 + 1)))] [] ?_
  refine Qcv ?_
  exact (spec_l2End_l0_ih _ _ h c hc)
 refine xt 0 ?_
 refine Qcp ?_
 refine Qcw ?_
 obtain rfl := os h
 exact iv []
def Kla (p : (List Int) × Int) : Option (Int) :=
 match p with
 | (ty0,at1) =>
  (Kl7 (ty0,1,at1)) >>= fun fl => match fl with
  | .inl () =>
   some (-1)
  | .inr r =>
   some r
def Klb (p : (List Int) × Int) (r : Int) : Prop :=
 match p with
 | (ty0,at1) => Q71 Tryz.prog 167 [sI ty0,I at1] (I r) []
theorem Klc : ∀ p r,Kla p = some r → Klb p r := by
 rintro ⟨ty0,at1⟩ r h
 unfold Kla at h
 refine b0 Tryz.f167 K7b 30 [(0,sI ty0),(1,I at1)] fun c hc => ?_
 refine rs0 hc 1 [(0,sI ty0),(1,I at1)] [] ?_
 refine rs0 hc 1 [(0,sI ty0),(1,I at1),(5,I 1)] [] ?_
 refine sN ?_
 refine rs0 hc 2 [(0,sI ty0),(5,I 1),(6,I at1)] [] ?_
 refine bk 0 ?_
 obtain ⟨fl,a0,h⟩ := Qdd h
 have hL := Kl9 _ _ a0 c hc
 refine lp ?_
 rcases fl with ⟨⟩ | r
 ·refine WpL.into (e := (.exit 0)) (mkS [] []) hL ?_
  refine Qcr ?_
  refine rs0 hc 1 [(4,I (-1))] [] ?_
  refine rt ?_
  obtain rfl := os h
  exact rq [true]
 refine WpL.mono hL ?_
 rintro _ _ ⟨rfl,hfin⟩
 obtain rfl := os h
 exact ⟨.inl rfl,hfin⟩
def Kld (ty0 : (List Int)) : Option (Bool) :=
 ((
 if (decide ((ty0.length : Int) ≤ 40)) = true then
 (Kla (ty0,0)) >>= fun a0 =>
 if (a0 == (ty0.length : Int)) = true then
 some ((decide ((ty0.length : Int) > 0)))
 else
 some (false)
 else
 some (false)
 ) : Option (Bool)) >>= fun a1 =>
 some a1
def Kle (ty0 : (List Int)) (r : Bool) : Prop :=
 Q71 Tryz.prog 81 [sI ty0] (.bool r) []
theorem Klf : ∀ p r,Kld p = some r → Kle p r := by
 rintro ty0 r h
 unfold Kld at h
 refine b0 Tryz.f81 B81 18 [(0,sI ty0)] fun c hc => ?_
 refine rs0 hc 1 [(0,sI ty0)] [] ?_
 refine sN ?_
 obtain ⟨a0,a1,h⟩ := Qdd h
 refine Wp.into (x := .normal) (mkS [(2,.bool a0)] []) ?_ ?_
 ·replace h := a1
  rcases is h with ⟨a2,h⟩ | ⟨a2,h⟩
  ·obtain ⟨a3,a4,h⟩ := Qdd h
   rcases is h with ⟨a5,h⟩ | ⟨a5,h⟩
   ·refine rg hc none [oN,some (.eqv (.no) ⟨[(4,I (ty0.length : Int))],[],[]⟩),oN,oN,oN,oc (I a3),oN,some (.eqv (.no) ⟨[(10,I (ty0.length : Int))],[],[]⟩),oN,oT,oN,oN,some (.eqv (.no) ⟨[(15,I (ty0.length : Int))],[],[]⟩),oN,oT,oN] [(2,.bool (decide ((ty0.length : Int) > 0)))] [] (ai (Qdj (d := 4) I ty0) (ar 2 a2 (cq (Klc _ _ a4) K7c (ar 2 a2 (ai (Qdj (d := 10) I ty0) (ar 2 a2 (ar 2 a5 (ai (Qdj (d := 15) I ty0) (ar 2 a5 tv))))))))) ?_
    obtain rfl := os h
    exact Qcz.mk
   refine rg hc none [oN,some (.eqv (.no) ⟨[(4,I (ty0.length : Int))],[],[]⟩),oN,oN,oN,oc (I a3),oN,some (.eqv (.no) ⟨[(10,I (ty0.length : Int))],[],[]⟩),oN,oT,oN,o_,o_,o_,oF,oN] [(2,.bool false)] [] (ai (Qdj (d := 4) I ty0) (ar 2 a2 (cq (Klc _ _ a4) K7c (ar 2 a2 (ai (Qdj (d := 10) I ty0) (ar 2 a2 (ar 3 (neT a5) (ai a5 tv)))))))) ?_
   obtain rfl := os h
   exact Qcz.mk
  refine rg hc none [oN,some (.eqv (.no) ⟨[(4,I (ty0.length : Int))],[],[]⟩),oN,oN,o_,o_,o_,o_,o_,oF,oN,o_,o_,o_,oF,oN] [(2,.bool false)] [] (ai (Qdj (d := 4) I ty0) (ar 5 (neT a2) (ai a2 (ar 3 (neT (rfl : false = false)) (ai (rfl : false = false) tv))))) ?_
  obtain rfl := os h
  exact Qcz.mk
 clear a1
 refine rt ?_
 obtain rfl := os h
 exact rq [true]
def Klg (c0 : Int) : Option (Int) :=
 if (decide (c0 ≥ 35)) = true then
 some (-1)
 else
 if (decide (c0 ≥ 19)) = true then
 some (wr (c0 - 19))
 else
 some (wr (c0 - 3))
def Klh (c0 : Int) (r : Int) : Prop :=
 Q71 Tryz.prog 169 [I c0] (I r) []
theorem Kli : ∀ p r,Klg p = some r → Klh p r := by
 rintro c0 r h
 unfold Klg at h
 refine b0 Tryz.f169 K7e 13 [(0,I c0)] fun c hc => ?_
 refine rs0 hc 1 [(0,I c0)] [] ?_
 refine sN ?_
 refine bk 0 ?_
 refine rs0 hc 3 [(0,I c0),(3,.bool (decide (c0 ≥ 35)))] [] ?_
 refine ic h (fun a0 h => ?_) fun a0 h => ?_
 ·refine rs0 hc 1 [(2,I (-1))] [] ?_
  refine rt ?_
  obtain rfl := os h
  exact rq [true]
 refine rs0 hc 3 [(0,I c0),(6,.bool (decide (c0 ≥ 19)))] [] ?_
 refine ic h (fun a1 h => ?_) fun a1 h => ?_
 ·refine rs0 hc 3 [(2,I (wr (c0 - 19)))] [] ?_
  refine rt ?_
  obtain rfl := os h
  exact rq [true]
 refine sk ?_
 refine rs0 hc 3 [(2,I (wr (c0 - 3)))] [] ?_
 refine rt ?_
 obtain rfl := os h
 exact rq [true]
def Klj (c : Ctx) (ty0 : List Int) (size1 : Int) (closed2 : Bool) (a0 : Int) : (Unit) ⊕ (Bool) → Exit → Q0a → Prop
 | .inl _ => Qcz c .normal (mkS [(0,sI ty0),(1,I size1),(2,.bool closed2),(7,I a0)] [])
 | .inr r => Qd8 TIx Tryz.f82 [] (.bool r)
def Klk (c : Ctx) : (Unit) ⊕ (Bool) → Exit → Q0a → Prop
 | .inl _ => Qcz c (.exit 0) (mkS [] [])
 | .inr r => Qd8 TIx Tryz.f82 [] (.bool r)
def Kll (p : (List Int) × Int × Bool × Int) : Option ((Unit) ⊕ (Bool)) :=
 match p with
 | (ty0,size1,closed2,a0) =>
  if (decide (a0 < (ty0.length : Int))) = true then
  ((
   (idx ty0 a0) >>= fun a1 =>
   (Kl3 a1) >>= fun a2 =>
   if (decide (a2 > 0)) = true then
   (idx ty0 a0) >>= fun a3 =>
   some ((decide (a3 > 2)))
   else
   some (false)
  ) : Option (Bool)) >>= fun a4 =>
  ((
   if a4 = true then
   (idx ty0 a0) >>= fun a5 =>
   (Klg a5) >>= fun a6 =>
   ((
   if (decide (a6 ≥ size1)) = true then
   some (true)
   else
   if closed2 = true then
   some ((decide (a6 < 0)))
   else
   some (false)
   ) : Option (Bool)) >>= fun a7 =>
   if a7 = true then
   some (.inr false)
   else
   some (.inl ())
   else
   some (.inl ())) : Option ((Unit) ⊕ (Bool))) >>= fun fl => match fl with
  | .inl () =>
   Kll (ty0,size1,closed2,(wr (a0 + 1)))
  | .inr r =>
   some (.inr r)
  else
  some (.inl ())
 partial_fixpoint
def Klm (p : (List Int) × Int × Bool × Int) (fl : (Unit) ⊕ (Bool)) : Prop :=
 match p with
 | (ty0,size1,closed2,a0) => ∀ c : Ctx,c.nt = 43 → WpL Tryz.prog c (cl (cl (cr (cl (cr B82))))) (Klk c fl) (mkS [(0,sI ty0),(1,I size1),(2,.bool closed2),(7,I a0)] [])
theorem Kln : ∀ p r,Kll p = some r → Klm p r := by
 refine Kll.partial_correctness Klm ?_
 rintro spec_l2Graded_l0_f spec_l2Graded_l0_ih ⟨ty0,size1,closed2,a0⟩ r h
 intro c hc
 refine WpL.step ?_
 refine sN ?_
 refine rs hc none [oN,oN,some (.eqv (.no) ⟨[(11,I (ty0.length : Int))],[],[]⟩),oN] [(0,sI ty0),(1,I size1),(2,.bool closed2),(7,I a0),(12,.bool (decide (a0 < (ty0.length : Int))))] [] (ai (Qdj (d := 11) I ty0) tv) ?_
 refine ic h (fun a1 h => ?_) fun a1 h => ?_
 ·refine sk ?_
  refine sN ?_
  refine bk 1 ?_
  refine sN ?_
  obtain ⟨a2,a3,h⟩ := Qdd h
  refine Wp.into (x := .normal) (mkS [(0,sI ty0),(1,I size1),(2,.bool closed2),(7,I a0),(27,.bool a2)] []) ?_ ?_
  ·replace h := a3
   obtain ⟨a4,a5,a6,a7,h⟩ := bq2 h
   rcases is h with ⟨a8,h⟩ | ⟨a8,h⟩
   ·obtain ⟨a9,b1,h⟩ := Qdd h
    refine rg hc none [oN,oN,some (.el (I a4)),oN,oc (I a6),oN,oN,oN,oN,some (.el (I a9)),oN,oN,oT] [(0,sI ty0),(1,I size1),(2,.bool closed2),(7,I a0),(27,.bool (decide (a9 > 2)))] [] (ai (ix a5) (cq (Kl5 _ _ a7) K7a (ar 3 a8 (ai (ix b1) (ar 3 a8 tv))))) ?_
    obtain rfl := os h
    exact Qcz.mk
   refine rg hc none [oN,oN,some (.el (I a4)),oN,oc (I a6),oN,oN,o_,o_,o_,o_,o_,oF] [(0,sI ty0),(1,I size1),(2,.bool closed2),(7,I a0),(27,.bool false)] [] (ai (ix a5) (cq (Kl5 _ _ a7) K7a (ar 5 (neT a8) (ai a8 tv)))) ?_
   obtain rfl := os h
   exact Qcz.mk
  clear a3
  obtain ⟨fl,b2,h⟩ := Qdd h
  refine flw (Klj c ty0 size1 closed2 a0 fl) ?_ (fun hF => ?_)
  ·replace h := b2
   refine ic h (fun b3 h => ?_) fun b3 h => ?_
   ·obtain ⟨b4,b5,b6,b7,h⟩ := bq2 h
    refine rs hc none [oN,oN,some (.el (I b4)),oN,oc (I b6),oN] [(0,sI ty0),(1,I size1),(2,.bool closed2),(7,I a0),(8,I b6)] [] (ai (ix b5) (cq (Kli _ _ b7) K7f tv)) ?_
    refine sN ?_
    obtain ⟨b8,b9,h⟩ := Qdd h
    refine Wp.into (x := .normal) (mkS [(0,sI ty0),(1,I size1),(2,.bool closed2),(7,I a0),(42,.bool b8)] []) ?_ ?_
    ·replace h := b9
     rcases is h with ⟨c0,h⟩ | ⟨c0,h⟩
     ·refine rg hc none [oN,oN,oN,oN,o_,o_,o_,o_,o_,oT] [(0,sI ty0),(1,I size1),(2,.bool closed2),(7,I a0),(42,.bool true)] [] (ar 3 (neF c0) (ai c0 tv)) ?_
      obtain rfl := os h
      exact Qcz.mk
     rcases is h with ⟨c1,h⟩ | ⟨c1,h⟩
     ·refine rg hc none [oN,oN,oN,oN,oN,oN,oN,oN,oT,oF] [(0,sI ty0),(1,I size1),(2,.bool closed2),(7,I a0),(42,.bool (decide (b6 < 0)))] [] (ar 2 c0 (ar 2 c1 (ac c0 c1 c0 tv))) ?_
      obtain rfl := os h
      exact Qcz.mk
     refine rg hc none [oN,oN,oN,oN,oN,oN,o_,o_,oF,oF] [(0,sI ty0),(1,I size1),(2,.bool closed2),(7,I a0),(42,.bool false)] [] (ar 2 c0 (ar 2 (neT c1) (ac c0 c1 c0 tv))) ?_
     obtain rfl := os h
     exact Qcz.mk
    clear b9
    refine ic h (fun c2 h => ?_) fun c2 h => ?_
    ·refine rs0 hc 1 [(6,.bool false)] [] ?_
     refine rt ?_
     obtain rfl := os h
     exact re [true]
    refine sk ?_
    obtain rfl := os h
    exact iv []
   refine sk ?_
   obtain rfl := os h
   exact iv []
  rcases fl with ⟨⟩ | r
  ·refine Wp.into (x := .normal) (mkS [(0,sI ty0),(1,I size1),(2,.bool closed2),(7,I a0)] []) hF ?_
   refine rg0 hc 3 [(0,sI ty0),(1,I size1),(2,.bool closed2),(7,I (wr (a0 + 1)))] [] ?_
   refine Qcv ?_
   exact (spec_l2Graded_l0_ih _ _ h c hc)
  refine Wp.mono hF ?_
  rintro _ _ ⟨rfl,hfin⟩
  obtain rfl := os h
  exact ⟨rfl,hfin⟩
 refine xt 0 ?_
 refine Qcp ?_
 refine Qcw ?_
 obtain rfl := os h
 exact iv []
def Klo (p : (List Int) × Int × Bool) : Option (Bool) :=
 match p with
 | (ty0,size1,closed2) =>
  (Kll (ty0,size1,closed2,0)) >>= fun fl => match fl with
  | .inl () =>
   some true
  | .inr r =>
   some r
def Klp (p : (List Int) × Int × Bool) (r : Bool) : Prop :=
 match p with
 | (ty0,size1,closed2) => Q71 Tryz.prog 82 [sI ty0,I size1,.bool closed2] (.bool r) []
theorem Klq : ∀ p r,Klo p = some r → Klp p r := by
 rintro ⟨ty0,size1,closed2⟩ r h
 unfold Klo at h
 refine b0 Tryz.f82 B82 43 [(0,sI ty0),(1,I size1),(2,.bool closed2)] fun c hc => ?_
 refine rs0 hc 1 [(0,sI ty0),(1,I size1),(2,.bool closed2)] [] ?_
 refine sN ?_
 refine rs0 hc 1 [(0,sI ty0),(1,I size1),(2,.bool closed2),(7,I 0)] [] ?_
 refine bk 0 ?_
 obtain ⟨fl,a0,h⟩ := Qdd h
 have hL := Kln _ _ a0 c hc
 refine lp ?_
 rcases fl with ⟨⟩ | r
 ·refine WpL.into (e := (.exit 0)) (mkS [] []) hL ?_
  refine Qcr ?_
  refine rs0 hc 1 [(6,.bool true)] [] ?_
  refine rt ?_
  obtain rfl := os h
  exact rq [true]
 refine WpL.mono hL ?_
 rintro _ _ ⟨rfl,hfin⟩
 obtain rfl := os h
 exact ⟨.inl rfl,hfin⟩
def Klr (p : K00 × (List Int)) : Option (Bool) :=
 match p with
 | (s0,ty1) =>
  ((
  (Kal s0) >>= fun a0 =>
  if a0 = true then
  (Kld ty1) >>= fun a1 =>
  if a1 = true then
  (Klo (ty1,s0.fSize,true)) >>= fun a2 =>
  some (a2)
  else
  some (false)
  else
  some (false)
  ) : Option (Bool)) >>= fun a3 =>
  some a3
def Kls (p : K00 × (List Int)) (r : Bool) : Prop :=
 match p with
 | (s0,ty1) => Q71 Tryz.prog 18 [K1t s0,sI ty1] (.bool r) []
theorem Klt : ∀ p r,Klr p = some r → Kls p r := by
 rintro ⟨s0,ty1⟩ r h
 unfold Klr at h
 refine b0 Tryz.f18 B18 17 [(0,K1t s0),(1,sI ty1)] fun c hc => ?_
 refine rs hc none [some (.new 1),oN] [(1,sI ty1),(2,.ra 1 0)] [(1,K1s s0)] tv ?_
 refine sN ?_
 obtain ⟨a0,a1,h⟩ := Qdd h
 refine Wp.into (x := .normal) (mkS [(4,.bool a0)] []) ?_ ?_
 ·replace h := a1
  obtain ⟨a2,a3,h⟩ := Qdd h
  rcases is h with ⟨a4,h⟩ | ⟨a4,h⟩
  ·obtain ⟨a5,a6,h⟩ := Qdd h
   rcases is h with ⟨a7,h⟩ | ⟨a7,h⟩
   ·obtain ⟨a8,a9,h⟩ := Qdd h
    refine rg hc none [oN,oc (.bool a2),oN,oN,oc (.bool a5),oT,oN,oN,oN,oN,oc (.bool a8),oT,oN] [(4,.bool a8)] [] (cq (Kan _ _ a3) K3v (ar 2 a4 (cq (Klf _ _ a6) K7d (ai a4 (ar 4 a7 (cq (Klq _ _ a9) K7g (ai a7 tv))))))) ?_
    obtain rfl := os h
    exact Qcz.mk
   refine rg hc none [oN,oc (.bool a2),oN,oN,oc (.bool a5),oT,oN,o_,o_,o_,o_,oF,oN] [(4,.bool false)] [] (cq (Kan _ _ a3) K3v (ar 2 a4 (cq (Klf _ _ a6) K7d (ai a4 (ar 4 (neT a7) (ai a7 tv)))))) ?_
   obtain rfl := os h
   exact Qcz.mk
  refine rg hc none [oN,oc (.bool a2),oN,o_,o_,oF,oN,o_,o_,o_,o_,oF,oN] [(4,.bool false)] [] (cq (Kan _ _ a3) K3v (ar 2 (neT a4) (ai a4 (ar 4 (neT (rfl : false = false)) (ai (rfl : false = false) tv))))) ?_
  obtain rfl := os h
  exact Qcz.mk
 clear a1
 refine rt ?_
 obtain rfl := os h
 exact rq [true]
def Klu (code0 : (List Int)) : Option (Bool) :=
 (K7m code0) >>= fun a0 =>
 if a0 = true then
 some true
 else
 (Kc7 code0) >>= fun (a1,a2) =>
 (Kep (a1,a2)) >>= fun (a3,a4) =>
 (Ke9 (a1,a2)) >>= fun a5 =>
 if (a4 == a5) = true then
 if a4 = true then
 ((
 (Kf8 (a1,a2)) >>= fun a6 =>
 if a6 = true then
 (Kfp (a1,a2,a3)) >>= fun a7 =>
 if a7 = true then
 (Kfv (a1,a2)) >>= fun a8 =>
 if (decide (a8 > 0)) = true then
 (Kg1 (a1,a2,a3)) >>= fun a9 =>
 some ((a9 != 0))
 else
 some (false)
 else
 some (true)
 else
 (Kfv (a1,a2)) >>= fun a8 =>
 if (decide (a8 > 0)) = true then
 (Kg1 (a1,a2,a3)) >>= fun a9 =>
 some ((a9 != 0))
 else
 some (false)
 ) : Option (Bool)) >>= fun b1 =>
 if b1 = true then
 some false
 else
 (Kkc (a1,[],a3)) >>= fun (b2,b3,b4) =>
 ((
 (Kkn a1) >>= fun b5 =>
 if (b5 == 0) = true then
 some ((!b4))
 else
 some (false)
 ) : Option (Bool)) >>= fun b6 =>
 if b6 = true then
 some false
 else
 ((
 if b4 = true then
 (Kku (b2,a2)) >>= fun b7 =>
 some (b7)
 else
 some (true)
 ) : Option (Bool)) >>= fun b8 =>
 some b8
 else
 (Klr (a1,a2)) >>= fun b9 =>
 some (!b9)
 else
 some false
def Klv (code0 : (List Int)) (r : Bool) : Prop :=
 Q71 Tryz.prog 3 [.sl (List.map U8 code0)] (.bool r) []
theorem Klw : ∀ p r,Klu p = some r → Klv p r := by
 rintro code0 r h
 unfold Klu at h
 refine b0 Tryz.f3 B3 78 [(0,.sl (List.map U8 code0))] fun c hc => ?_
 refine rs0 hc 1 [(0,.sl (List.map U8 code0))] [] ?_
 refine sN ?_
 obtain ⟨a0,a1,h⟩ := Qdd h
 refine rs hc none [oN,oc (.bool a0)] [(0,.sl (List.map U8 code0)),(11,.bool a0)] [] (cq (K7o _ _ a1) K2x tv) ?_
 refine ic h (fun a2 h => ?_) fun a2 h => ?_
 ·refine rs0 hc 1 [(2,.bool true)] [] ?_
  refine rt ?_
  obtain rfl := os h
  exact rq [true]
 refine sk ?_
 obtain ⟨⟨a3,a4⟩,a5,h⟩ := Qdd h
 refine rs hc none [oN,oc (.tup [K1t a3,sI a4]),oN,oN,oN,some (.new 1),oN,oN] [(3,.ra 1 0),(4,sI a4)] [(1,K1s a3)] (cq (Kc9 _ _ a5) K4g tv) ?_
 obtain ⟨⟨a6,a7⟩,a8,h⟩ := Qdd h
 refine rs hc none [oN,oN,some (.call (.tup [K26 a6,.bool a7]) [] 2),oN,oN,oN,some (.new 4),oN,oN] [(3,.ra 1 0),(4,sI a4),(5,.ra 4 0),(6,.bool a7)] [(1,K1s a3),(2,rI a6.fType),(3,.arr (List.map K0l a6.fKids)),(4,.box [I a6.fOp,I a6.fN,.rs 2,.rs 3])] (cq (Ker _ _ a8) K56 tv) ?_
 refine sN ?_
 obtain ⟨a9,b1,h⟩ := Qdd h
 refine rss hc none [oN,oN,oN,oc (.bool a9),oN] [(3,.ra 1 0),(4,sI a4),(5,.ra 4 0),(6,.bool a7),(27,.bool (!(a7 == a9)))] (cq (Keb _ _ b1) K51 tv) ?_
 rcases is h with ⟨b2,h⟩ | ⟨b2,h⟩
 ·refine cF ((!(a7 == a9))) (nF b2) ?_
  refine sk ?_
  refine sN ?_
  refine K7k hc 2 [(3,.ra 1 0),(4,sI a4),(5,.ra 4 0),(29,.bool (!a7))] ?_
  rcases is h with ⟨b3,h⟩ | ⟨b3,h⟩
  ·refine cF (!a7) (nF b3) ?_
   refine sk ?_
   refine sN ?_
   refine sN ?_
   obtain ⟨b4,b5,h⟩ := Qdd h
   refine Wp.into (x := .normal) (mkS [(3,.ra 1 0),(4,sI a4),(5,.ra 4 0),(56,.bool b4)] [(1,K1s a3),(2,rI a6.fType),(3,.arr (List.map K0l a6.fKids)),(4,.box [I a6.fOp,I a6.fN,.rs 2,.rs 3])]) ?_ ?_
   ·replace h := b5
    obtain ⟨b6,b7,h⟩ := Qdd h
    rcases is h with ⟨b8,h⟩ | ⟨b8,h⟩
    ·obtain ⟨b9,c0,h⟩ := Qdd h
     rcases is h with ⟨c1,h⟩ | ⟨c1,h⟩
     ·obtain ⟨c2,c3,h⟩ := Qdd h
      rcases is h with ⟨c4,h⟩ | ⟨c4,h⟩
      ·obtain ⟨c5,c6,h⟩ := Qdd h
       refine rgs hc none [oN,oN,oc (.bool b6),oN,oN,oN,oN,oc (.bool b9),oN,oT,oN,oN,oN,oc (I c2),oN,oN,oN,oN,oN,oc (I c5),oN,oT,oF] [(3,.ra 1 0),(4,sI a4),(5,.ra 4 0),(56,.bool (c5 != 0))] (cq (Kfa _ _ b7) K5e (ar 4 b8 (ac (Q71.args (A1 := [K1t a3,sI a4,K27 a6]) (A2 := [K1t a3,sI a4,K1x a6]) (by simp only [K27,List.map_nil,K1f,Qe5]) (Kfr _ _ c0)) K5i (Or.inr rfl : ([2,3] : List Nat) = [] ∨ noSh (.bool b9) = true) (ar 2 b8 (ar 3 (nF c1) (cq (Kfx _ _ c3) K5k (ar 2 (nF c1) (ar 4 c4 (ad (Q71.args (A1 := [K1t a3,sI a4,K27 a6]) (A2 := [K1t a3,sI a4,K1x a6]) (by simp only [K27,List.map_nil,K1f,Qe5]) (Kg3 _ _ c6)) K5m (Or.inr rfl : ([2,3] : List Nat) = [] ∨ noSh (I c5) = true) c4 (ac (nF c1) c4 (nF c1) tv)))))))))) ?_
       obtain rfl := os h
       exact Qcz.mk
      refine rgs hc none [oN,oN,oc (.bool b6),oN,oN,oN,oN,oc (.bool b9),oN,oT,oN,oN,oN,oc (I c2),oN,oN,o_,o_,o_,o_,o_,oF,oF] [(3,.ra 1 0),(4,sI a4),(5,.ra 4 0),(56,.bool false)] (cq (Kfa _ _ b7) K5e (ar 4 b8 (ac (Q71.args (A1 := [K1t a3,sI a4,K27 a6]) (A2 := [K1t a3,sI a4,K1x a6]) (by simp only [K27,List.map_nil,K1f,Qe5]) (Kfr _ _ c0)) K5i (Or.inr rfl : ([2,3] : List Nat) = [] ∨ noSh (.bool b9) = true) (ar 2 b8 (ar 3 (nF c1) (cq (Kfx _ _ c3) K5k (ar 2 (nF c1) (ar 5 (neT c4) (ac (nF c1) c4 (nF c1) tv))))))))) ?_
      obtain rfl := os h
      exact Qcz.mk
     refine rgs hc none [oN,oN,oc (.bool b6),oN,oN,oN,oN,oc (.bool b9),oN,oT,oN,o_,o_,o_,o_,o_,o_,o_,o_,o_,o_,o_,oT] [(3,.ra 1 0),(4,sI a4),(5,.ra 4 0),(56,.bool true)] (cq (Kfa _ _ b7) K5e (ar 4 b8 (ac (Q71.args (A1 := [K1t a3,sI a4,K27 a6]) (A2 := [K1t a3,sI a4,K1x a6]) (by simp only [K27,List.map_nil,K1f,Qe5]) (Kfr _ _ c0)) K5i (Or.inr rfl : ([2,3] : List Nat) = [] ∨ noSh (.bool b9) = true) (ar 2 b8 (ar 6 (neF (nT c1)) (ai (nT c1) tv)))))) ?_
     obtain rfl := os h
     exact Qcz.mk
    obtain ⟨c2,c3,h⟩ := Qdd h
    rcases is h with ⟨c1,h⟩ | ⟨c1,h⟩
    ·obtain ⟨c5,c6,h⟩ := Qdd h
     refine rgs hc none [oN,oN,oc (.bool b6),oN,o_,o_,o_,o_,o_,oF,oN,oN,oN,oc (I c2),oN,oN,oN,oN,oN,oc (I c5),oN,oT,oF] [(3,.ra 1 0),(4,sI a4),(5,.ra 4 0),(56,.bool (c5 != 0))] (cq (Kfa _ _ b7) K5e (ar 5 (neT b8) (ai b8 (ar 3 (rfl : false = false) (cq (Kfx _ _ c3) K5k (ar 2 (rfl : false = false) (ar 4 c1 (ad (Q71.args (A1 := [K1t a3,sI a4,K27 a6]) (A2 := [K1t a3,sI a4,K1x a6]) (by simp only [K27,List.map_nil,K1f,Qe5]) (Kg3 _ _ c6)) K5m (Or.inr rfl : ([2,3] : List Nat) = [] ∨ noSh (I c5) = true) c1 (ac (rfl : false = false) c1 (rfl : false = false) tv))))))))) ?_
     obtain rfl := os h
     exact Qcz.mk
    refine rgs hc none [oN,oN,oc (.bool b6),oN,o_,o_,o_,o_,o_,oF,oN,oN,oN,oc (I c2),oN,oN,o_,o_,o_,o_,o_,oF,oF] [(3,.ra 1 0),(4,sI a4),(5,.ra 4 0),(56,.bool false)] (cq (Kfa _ _ b7) K5e (ar 5 (neT b8) (ai b8 (ar 3 (rfl : false = false) (cq (Kfx _ _ c3) K5k (ar 2 (rfl : false = false) (ar 5 (neT c1) (ac (rfl : false = false) c1 (rfl : false = false) tv)))))))) ?_
    obtain rfl := os h
    exact Qcz.mk
   clear b5
   refine ic h (fun c7 h => ?_) fun c7 h => ?_
   ·refine rs0 hc 1 [(2,.bool false)] [] ?_
    refine rt ?_
    obtain rfl := os h
    exact rq [true]
   refine sk ?_
   obtain ⟨⟨c8,c9,d0⟩,d1,h⟩ := Qdd h
   refine rs hc none [oN,oN,some (.call (.tup [oI c8,oI c9,.bool d0]) [] 5),oN,oN,oN,oN,oN,oN,oN] [(3,.ra 1 0),(4,sI a4),(7,.rs 5),(9,.bool d0)] [(1,K1s a3),(5,rI c8)] (ac (Q71.args (A1 := [K1t a3,.sl [],K27 a6]) (A2 := [K1t a3,.sl (List.map K11 []),K1x a6]) (by simp only [K27,List.map_nil,K1f,Qe5]) (Kke _ _ d1)) K72 (Or.inr (Qef (Qed Qe9 c8) (Qef (Qed Qe9 c9) (Qef rfl rfl))) : ([2,3] : List Nat) = [] ∨ noSh (.tup [oI c8,oI c9,.bool d0]) = true) tv) ?_
   refine sN ?_
   refine sN ?_
   obtain ⟨d2,d3,h⟩ := Qdd h
   refine Wp.into (x := .normal) (mkS [(4,sI a4),(7,.rs 5),(9,.bool d0),(70,.bool d2)] [(5,rI c8)]) ?_ ?_
   ·replace h := d3
    obtain ⟨d4,d5,h⟩ := Qdd h
    rcases is h with ⟨d6,h⟩ | ⟨d6,h⟩
    ·refine rg hc none [oN,oc (I d4),oN,oN,oN,oN,oT] [(4,sI a4),(7,.rs 5),(9,.bool d0),(70,.bool (!d0))] [(5,rI c8)] (cq (Kkp _ _ d5) K73 (ar 3 d6 tv)) ?_
     obtain rfl := os h
     exact Qcz.mk
    refine rg hc none [oN,oc (I d4),oN,oN,o_,o_,oF] [(4,sI a4),(7,.rs 5),(9,.bool d0),(70,.bool false)] [(5,rI c8)] (cq (Kkp _ _ d5) K73 (ar 2 (neT d6) (ai d6 tv))) ?_
    obtain rfl := os h
    exact Qcz.mk
   clear d3
   refine ic h (fun d7 h => ?_) fun d7 h => ?_
   ·refine rs0 hc 1 [(2,.bool false)] [] ?_
    refine rt ?_
    obtain rfl := os h
    exact rq [true]
   refine sk ?_
   refine sN ?_
   obtain ⟨d8,d9,h⟩ := Qdd h
   refine Wp.into (x := .normal) (mkS [(2,.bool d8)] []) ?_ ?_
   ·replace h := d9
    rcases is h with ⟨e0,h⟩ | ⟨e0,h⟩
    ·obtain ⟨e1,e2,h⟩ := Qdd h
     refine rg hc none [oN,oN,oN,oN,oN,oc (.bool e1),oF,oN] [(2,.bool e1)] [] (ar 3 (nF e0) (ad (Q71.args (A1 := [.sl (Q02 (List.map I c8)),sI a4]) (A2 := [sI c8,sI a4]) (by simp only [List.map_nil,Qe5]) (Kkw _ _ e2)) K74 (Or.inr rfl : ([5] : List Nat) = [] ∨ noSh (.bool e1) = true) (nF e0) tv)) ?_
     obtain rfl := os h
     exact Qcz.mk
    refine rg hc none [oN,oN,oN,o_,o_,o_,oT,oN] [(2,.bool true)] [] (ar 3 (neF (nT e0)) (ai (nT e0) tv)) ?_
    obtain rfl := os h
    exact Qcz.mk
   clear d9
   refine rt ?_
   obtain rfl := os h
   exact rq [true]
  refine cT (!a7) (nT b3) ?_
  obtain ⟨e3,e4,h⟩ := Qdd h
  refine rs hc none [oN,oN,oc (.bool e3),oN,oN] [(2,.bool (!e3))] [] (cq (Klt _ _ e4) K7h tv) ?_
  refine rt ?_
  obtain rfl := os h
  exact rq [true]
 refine cT ((!(a7 == a9))) (nT b2) ?_
 refine rs0 hc 1 [(2,.bool false)] [] ?_
 refine rt ?_
 obtain rfl := os h
 exact rq [true]
end Go.Am
