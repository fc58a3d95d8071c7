/- Functions of the program as pure functions,and that it computes them. Printed by a program of mine (gen.py). -/
import Derived.Test.YtkboikcppljkeaaGreatGCHKF0
set_option linter.unusedVariables false
set_option linter.unusedSimpArgs false
set_option maxRecDepth 100000
namespace Go.Am
open Go Go.Proofs
def Kd9 : Option (List (List Nat)) := rx [[0],[1],[0],[3],[4],[0],[0,5],[0,5,6],[8],[9],[10],[11],[12],[11],[14],[15],[16],[17],[18],[19],[20],[21],[20],[23],[24],[20],[20,25],[27],[28],[29]]
mutual
def Kda (p : K01 × Int) : Option (Int) :=
 match p with
 | (t0,left1) =>
  (Kdb (t0,(wr (left1 - 1)),0)) >>= fun a0 =>
  some a0
 partial_fixpoint
def Kdb (p : K01 × Int × Int) : Option (Int) :=
 match p with
 | (t0,a0,a1) =>
  ((
  if (decide (a1 < (t0.fKids.length : Int))) = true then
  some ((decide (a0 ≥ 0)))
  else
  some (false)
  ) : Option (Bool)) >>= fun a2 =>
  if a2 = true then
  (idx t0.fKids a1) >>= fun a3 =>
  (Kda (a3,a0)) >>= fun a4 =>
  Kdb (t0,a4,(wr (a1 + 1)))
  else
  some (a0)
 partial_fixpoint
end
def Kdc (p : K01 × Int) (r : Int) : Prop :=
 match p with
 | (t0,left1) => Q71 Tryz.prog 105 [K2g t0,I left1] (I r) []
def Kdd (p : K01 × Int × Int) (fl : Int) : Prop :=
 match p with
 | (t0,a0,a1) => ∀ c : Ctx,c.nt = 27 → WpL Tryz.prog c (cl (cl (cr (cl (cr (cr K54)))))) (Kd8 c fl) (mkS [(1,I a0),(2,.ra 1 0),(5,I a1)] [(1,K2f t0)])
theorem Kde : (∀ p r,Kda p = some r → Kdc p r) ∧ (∀ p r,Kdb p = some r → Kdd p r) := by
 refine Kda.mutual_partial_correctness Kdc Kdd ?_ ?_
 ·rintro spec_l2Left_l0_f spec_l2Left_l0_ih ⟨t0,left1⟩ r h
  refine b0 Tryz.f105 K54 27 [(0,K2g t0),(1,I left1)] fun c hc => ?_
  refine rs hc none [some (.new 1),oN] [(1,I left1),(2,.ra 1 0)] [(1,K2f t0)] tv ?_
  refine K8d hc 3 [(1,I (wr (left1 - 1))),(2,.ra 1 0)] ?_
  refine sN ?_
  refine K8d hc 1 [(1,I (wr (left1 - 1))),(2,.ra 1 0),(5,I 0)] ?_
  refine bk 0 ?_
  obtain ⟨a0,a1,h⟩ := Qdd h
  have hL := spec_l2Left_l0_ih _ _ a1 c hc
  refine lp ?_
  refine WpL.into (e := (.exit 0)) (mkS [(1,I a0)] []) hL ?_
  refine Qcr ?_
  refine rs0 hc 2 [(4,I a0)] [] ?_
  refine rt ?_
  obtain rfl := os h
  exact rq [true]
 ·rintro spec_l2Left_f spec_l2Left_l0_f spec_l2Left_ih spec_l2Left_l0_ih ⟨t0,a2,a3⟩ r h
  intro c hc
  refine WpL.step ?_
  refine sN ?_
  refine sN ?_
  obtain ⟨a4,a5,h⟩ := Qdd h
  refine Wp.into (x := .normal) (mkS [(1,I a2),(2,.ra 1 0),(5,I a3),(16,.bool a4)] [(1,K2f t0)]) ?_ ?_
  ·replace h := a5
   rcases is h with ⟨a6,h⟩ | ⟨a6,h⟩
   ·refine rgs hc none [oN,oN,oN,some (.eqv (.no) ⟨[(11,I (t0.fKids.length : Int))],[],[]⟩),oN,oN,oN,oN,oT] [(1,I a2),(2,.ra 1 0),(5,I a3),(16,.bool (decide (a2 ≥ 0)))] (ai (Qdj (d := 11) K0s t0.fKids) (ar 3 a6 tv)) ?_
    obtain rfl := os h
    exact Qcz.mk
   refine rgs hc none [oN,oN,oN,some (.eqv (.no) ⟨[(11,I (t0.fKids.length : Int))],[],[]⟩),oN,oN,o_,o_,oF] [(1,I a2),(2,.ra 1 0),(5,I a3),(16,.bool false)] (ai (Qdj (d := 11) K0s t0.fKids) (ar 2 (neT a6) (ai a6 tv))) ?_
   obtain rfl := os h
   exact Qcz.mk
  clear a5
  refine ic h (fun a7 h => ?_) fun a7 h => ?_
  ·refine sk ?_
   refine sN ?_
   refine bk 1 ?_
   obtain ⟨a8,a9,b1,b2,h⟩ := bq2 h
   refine rgs hc none [oN,oN,oN,some (.el (K2g a8)),oN,oN,oc (I b1),oN] [(1,I b1),(2,.ra 1 0),(5,I a3)] (ai (Qdh a9 (K0z a8)) (cq (spec_l2Left_ih _ _ b2) K55 tv)) ?_
   refine K8c hc 3 [(1,I b1),(2,.ra 1 0),(5,I (wr (a3 + 1)))] ?_
   refine Qcv ?_
   exact (spec_l2Left_l0_ih _ _ h c hc)
  refine xt 0 ?_
  refine Qcp ?_
  refine Qcw ?_
  obtain rfl := os h
  exact iv []
theorem Kdf : ∀ p r,Kda p = some r → Kdc p r := Kde.1
theorem Kdg : ∀ p r,Kdb p = some r → Kdd p r := Kde.2
def Kdh (op0 : Int) : Option (Int) :=
 (Kaq (op0,0,12)) >>= fun a0 =>
 if a0 = true then
 (idx [0,0,2,3,2,2,1,1,3,1,2,1,2] op0) >>= fun a1 =>
 some a1
 else
 some (-1)
def Kdi (op0 : Int) (r : Int) : Prop :=
 Q71 Tryz.prog 149 [I op0] (I r) []
theorem Kdj : ∀ p r,Kdh p = some r → Kdi p r := by
 rintro op0 r h
 unfold Kdh at h
 refine b0 Tryz.f149 K56 10 [(0,I op0)] fun c hc => ?_
 refine rs0 hc 1 [(0,I op0)] [] ?_
 refine sN ?_
 obtain ⟨a0,a1,h⟩ := Qdd h
 refine rs hc none [oN,oc (.bool a0),oN] [(0,I op0),(5,.bool (!a0))] [] (cq (Kas _ _ a1) K47 tv) ?_
 rcases is h with ⟨a2,h⟩ | ⟨a2,h⟩
 ·refine cF (!a0) (nF a2) ?_
  refine sk ?_
  obtain ⟨a3,a4,h⟩ := Qdd h
  refine rs hc none [some (.mk 1 true),oN,oN,some (.el (I a3)),oN] [(2,I a3)] [] (ab (Qdi (enc := I) a4) (ix a4).2 tv) ?_
  refine rt ?_
  obtain rfl := os h
  exact rq [true]
 refine cT (!a0) (nT a2) ?_
 refine rs0 hc 1 [(2,I (-1))] [] ?_
 refine rt ?_
 obtain rfl := os h
 exact rq [true]
def Kdk (op0 : Int) : Option (Bool) :=
 ((
 if (op0 == 5) = true then
 some (true)
 else
 if (op0 == 8) = true then
 some (true)
 else
 if (op0 == 9) = true then
 some (true)
 else
 if (op0 == 11) = true then
 some (true)
 else
 some ((op0 == 12))
 ) : Option (Bool)) >>= fun a0 =>
 some a0
def Kdl (op0 : Int) (r : Bool) : Prop :=
 Q71 Tryz.prog 150 [I op0] (.bool r) []
theorem Kdm : ∀ p r,Kdk p = some r → Kdl p r := by
 rintro op0 r h
 unfold Kdk at h
 refine b0 Tryz.f150 K58 21 [(0,I op0)] fun c hc => ?_
 refine rs0 hc 1 [(0,I op0)] [] ?_
 refine sN ?_
 obtain ⟨a0,a1,h⟩ := Qdd h
 refine Wp.into (x := .normal) (mkS [(2,.bool a0)] []) ?_ ?_
 ·replace h := a1
  rcases is h with ⟨a2,h⟩ | ⟨a2,h⟩
  ·refine rg hc none [oN,oN,oN,o_,o_,oT,oN,o_,o_,oT,oN,o_,o_,oT,oN,o_,o_,oT,oN] [(2,.bool true)] [] (ar 2 (neF a2) (ai a2 (ar 2 nf (ai tt (ar 2 nf (ai tt (ar 2 nf (ai tt tv)))))))) ?_
   obtain rfl := os h
   exact Qcz.mk
  rcases is h with ⟨a3,h⟩ | ⟨a3,h⟩
  ·refine rg hc none [oN,oN,oN,oN,oN,oF,oN,o_,o_,oT,oN,o_,o_,oT,oN,o_,o_,oT,oN] [(2,.bool true)] [] (ar 3 a2 (ar 2 (neF a3) (ai a3 (ar 2 nf (ai tt (ar 2 nf (ai tt tv))))))) ?_
   obtain rfl := os h
   exact Qcz.mk
  rcases is h with ⟨a4,h⟩ | ⟨a4,h⟩
  ·refine rg hc none [oN,oN,oN,oN,oN,oF,oN,oN,oN,oF,oN,o_,o_,oT,oN,o_,o_,oT,oN] [(2,.bool true)] [] (ar 3 a2 (ar 3 a3 (ar 2 (neF a4) (ai a4 (ar 2 nf (ai tt tv)))))) ?_
   obtain rfl := os h
   exact Qcz.mk
  rcases is h with ⟨a5,h⟩ | ⟨a5,h⟩
  ·refine rg hc none [oN,oN,oN,oN,oN,oF,oN,oN,oN,oF,oN,oN,oN,oF,oN,o_,o_,oT,oN] [(2,.bool true)] [] (ar 3 a2 (ar 3 a3 (ar 3 a4 (ar 2 (neF a5) (ai a5 tv))))) ?_
   obtain rfl := os h
   exact Qcz.mk
  refine rg hc none [oN,oN,oN,oN,oN,oF,oN,oN,oN,oF,oN,oN,oN,oF,oN,oN,oN,oF,oN] [(2,.bool (op0 == 12))] [] (ar 3 a2 (ar 3 a3 (ar 3 a4 (ar 3 a5 tv)))) ?_
  obtain rfl := os h
  exact Qcz.mk
 clear a1
 refine rt ?_
 obtain rfl := os h
 exact rq [true]
def Kdn (op0 : Int) : Option (Bool) :=
 ((
 if (op0 == 6) = true then
 some (true)
 else
 if (op0 == 7) = true then
 some (true)
 else
 some ((op0 == 9))
 ) : Option (Bool)) >>= fun a0 =>
 some a0
def Kdo (op0 : Int) (r : Bool) : Prop :=
 Q71 Tryz.prog 151 [I op0] (.bool r) []
theorem Kdp : ∀ p r,Kdn p = some r → Kdo p r := by
 rintro op0 r h
 unfold Kdn at h
 refine b0 Tryz.f151 K5a 13 [(0,I op0)] fun c hc => ?_
 refine rs0 hc 1 [(0,I op0)] [] ?_
 refine sN ?_
 obtain ⟨a0,a1,h⟩ := Qdd h
 refine Wp.into (x := .normal) (mkS [(2,.bool a0)] []) ?_ ?_
 ·replace h := a1
  rcases is h with ⟨a2,h⟩ | ⟨a2,h⟩
  ·refine rg hc none [oN,oN,oN,o_,o_,oT,oN,o_,o_,oT,oN] [(2,.bool true)] [] (ar 2 (neF a2) (ai a2 (ar 2 nf (ai tt tv)))) ?_
   obtain rfl := os h
   exact Qcz.mk
  rcases is h with ⟨a3,h⟩ | ⟨a3,h⟩
  ·refine rg hc none [oN,oN,oN,oN,oN,oF,oN,o_,o_,oT,oN] [(2,.bool true)] [] (ar 3 a2 (ar 2 (neF a3) (ai a3 tv))) ?_
   obtain rfl := os h
   exact Qcz.mk
  refine rg hc none [oN,oN,oN,oN,oN,oF,oN,oN,oN,oF,oN] [(2,.bool (op0 == 9))] [] (ar 3 a2 (ar 3 a3 tv)) ?_
  obtain rfl := os h
  exact Qcz.mk
 clear a1
 refine rt ?_
 obtain rfl := os h
 exact rq [true]
def Kdq (c : Ctx) (t0 : K01) (size2 : Int) (closed3 : Bool) : (Unit) ⊕ (Bool) → Exit → Q0a → Prop
 | .inl _ => Qcz c .normal (mkS [(2,I size2),(3,.bool closed3),(4,.ra 1 0)] [(1,K2f t0)])
 | .inr r => Qd8 TIx Tryz.f139 [] (.bool r)
def Kdr (c : Ctx) (t0 : K01) (size2 : Int) (closed3 : Bool) : (Unit) ⊕ (Bool) → Exit → Q0a → Prop
 | .inl _ => Qcz c .normal (mkS [(2,I size2),(3,.bool closed3),(4,.ra 1 0)] [(1,K2f t0)])
 | .inr r => Qd8 TIx Tryz.f139 [] (.bool r)
def Kds (c : Ctx) (t0 : K01) (size2 : Int) (closed3 : Bool) : (Unit) ⊕ (Bool) → Exit → Q0a → Prop
 | .inl _ => Qcz c .normal (mkS [(2,I size2),(3,.bool closed3),(4,.ra 1 0)] [(1,K2f t0)])
 | .inr r => Qd8 TIx Tryz.f139 [] (.bool r)
def Kdt (p : K01 × Int × Int × Bool) : Option (Bool) :=
 match p with
 | (t0,n1,size2,closed3) =>
  (Kdh t0.fOp) >>= fun a0 =>
  if ((t0.fKids.length : Int) != a0) = true then
  some false
  else
  ((
   if (t0.fOp == 0) = true then
   (Kaq (t0.fN,0,(wr (n1 - 1)))) >>= fun a1 =>
   if a1 = true then
    some (.inl ())
   else
    some (.inr false)
   else
   ((
    if (t0.fOp == 1) = true then
    (Kaq (t0.fN,0,2)) >>= fun a2 =>
    if a2 = true then
     some (.inl ())
    else
     some (.inr false)
    else
    (Kdk t0.fOp) >>= fun a3 =>
    ((
     if a3 = true then
     ((
     if (decide (t0.fN ≥ size2)) = true then
     some (true)
     else
     if (decide (t0.fN < (-1))) = true then
     some (true)
     else
     if closed3 = true then
     some ((decide (t0.fN < 0)))
     else
     some (false)
     ) : Option (Bool)) >>= fun a4 =>
     if a4 = true then
     some (.inr false)
     else
     some (.inl ())
     else
     if (t0.fN != 0) = true then
     some (.inr false)
     else
     some (.inl ())) : Option ((Unit) ⊕ (Bool))) >>= fun fl => match fl with
    | .inl () =>
     some (.inl ())
    | .inr r =>
     some (.inr r)) : Option ((Unit) ⊕ (Bool))) >>= fun fl => match fl with
   | .inl () =>
    some (.inl ())
   | .inr r =>
    some (.inr r)) : Option ((Unit) ⊕ (Bool))) >>= fun fl => match fl with
  | .inl () =>
   (Kdn t0.fOp) >>= fun a5 =>
   if a5 = true then
   ((
    (Kcr t0.fType) >>= fun a6 =>
    if a6 = true then
    (Kd2 (t0.fType,size2,closed3)) >>= fun a7 =>
    some (a7)
    else
    some (false)
   ) : Option (Bool)) >>= fun a8 =>
   some a8
   else
   some ((t0.fType.length : Int) == 0)
  | .inr r =>
   some r
def Kdu (p : K01 × Int × Int × Bool) (r : Bool) : Prop :=
 match p with
 | (t0,n1,size2,closed3) => Q71 Tryz.prog 139 [K2g t0,I n1,I size2,.bool closed3] (.bool r) []
theorem Kdv : ∀ p r,Kdt p = some r → Kdu p r := by
 rintro ⟨t0,n1,size2,closed3⟩ r h
 unfold Kdt at h
 refine b0 Tryz.f139 K5c 76 [(0,K2g t0),(1,I n1),(2,I size2),(3,.bool closed3)] fun c hc => ?_
 refine rs hc none [some (.new 1),oN] [(1,I n1),(2,I size2),(3,.bool closed3),(4,.ra 1 0)] [(1,K2f t0)] tv ?_
 refine sN ?_
 obtain ⟨a0,a1,h⟩ := Qdd h
 refine rss hc (rx [[0],[1],[2],[0],[0,3],[0,3,4],[6]]) [oN,oN,some (.eqv (.no) ⟨[(11,I (t0.fKids.length : Int))],[],[]⟩),oN,oN,oc (I a0),oN] [(1,I n1),(2,I size2),(3,.bool closed3),(4,.ra 1 0),(15,.bool ((t0.fKids.length : Int) != a0))] (ai (Qdj (d := 11) K0s t0.fKids) (cq (Kdj _ _ a1) K57 tv)) ?_
 refine ic h (fun a2 h => ?_) fun a2 h => ?_
 ·refine rs0 hc 1 [(8,.bool false)] [] ?_
  refine rt ?_
  obtain rfl := os h
  exact rq [true]
 refine sk ?_
 refine sN ?_
 refine bk 0 ?_
 refine K8d hc 4 [(1,I n1),(2,I size2),(3,.bool closed3),(4,.ra 1 0),(19,.bool (t0.fOp == 0))] ?_
 obtain ⟨fl,a3,h⟩ := Qdd h
 refine flw (Kds c t0 size2 closed3 fl) ?_ (fun hF => ?_)
 ·replace h := a3
  refine ic h (fun a4 h => ?_) fun a4 h => ?_
  ·obtain ⟨a5,a6,h⟩ := Qdd h
   refine rss hc none [oN,oN,oN,oN,oc (.bool a5),oN] [(2,I size2),(3,.bool closed3),(4,.ra 1 0),(28,.bool (!a5))] (cq (Kas _ _ a6) K47 tv) ?_
   rcases is h with ⟨a7,h⟩ | ⟨a7,h⟩
   ·refine cF (!a5) (nF a7) ?_
    refine sk ?_
    obtain rfl := os h
    exact iv []
   refine cT (!a5) (nT a7) ?_
   refine rs0 hc 1 [(8,.bool false)] [] ?_
   refine rt ?_
   obtain rfl := os h
   exact re [true]
  refine K8d hc 4 [(2,I size2),(3,.bool closed3),(4,.ra 1 0),(29,.bool (t0.fOp == 1))] ?_
  obtain ⟨fl,a8,h⟩ := Qdd h
  refine flw (Kdr c t0 size2 closed3 fl) ?_ (fun hF => ?_)
  ·replace h := a8
   refine ic h (fun a9 h => ?_) fun a9 h => ?_
   ·obtain ⟨b1,b2,h⟩ := Qdd h
    refine rss hc none [oN,oN,oc (.bool b1),oN] [(2,I size2),(3,.bool closed3),(4,.ra 1 0),(36,.bool (!b1))] (cq (Kas _ _ b2) K47 tv) ?_
    rcases is h with ⟨b3,h⟩ | ⟨b3,h⟩
    ·refine cF (!b1) (nF b3) ?_
     refine sk ?_
     obtain rfl := os h
     exact iv []
    refine cT (!b1) (nT b3) ?_
    refine rs0 hc 1 [(8,.bool false)] [] ?_
    refine rt ?_
    obtain rfl := os h
    exact re [true]
   obtain ⟨b4,b5,h⟩ := Qdd h
   refine rss hc none [oN,oN,oc (.bool b4),oN] [(2,I size2),(3,.bool closed3),(4,.ra 1 0),(37,.bool b4)] (cq (Kdm _ _ b5) K59 tv) ?_
   obtain ⟨fl,b6,h⟩ := Qdd h
   refine flw (Kdq c t0 size2 closed3 fl) ?_ (fun hF => ?_)
   ·replace h := b6
    refine ic h (fun b7 h => ?_) fun b7 h => ?_
    ·refine sN ?_
     obtain ⟨b8,b9,h⟩ := Qdd h
     refine Wp.into (x := .normal) (mkS [(2,I size2),(3,.bool closed3),(4,.ra 1 0),(57,.bool b8)] [(1,K2f t0)]) ?_ ?_
     ·replace h := b9
      rcases is h with ⟨c0,h⟩ | ⟨c0,h⟩
      ·refine rgs hc none [oN,oN,oN,oN,oN,o_,o_,o_,oT,oN,o_,o_,o_,o_,o_,o_,oT] [(2,I size2),(3,.bool closed3),(4,.ra 1 0),(57,.bool true)] (ar 3 (neF c0) (ai c0 (ar 3 nf (ai tt tv)))) ?_
       obtain rfl := os h
       exact Qcz.mk
      rcases is h with ⟨c1,h⟩ | ⟨c1,h⟩
      ·refine rgs hc none [oN,oN,oN,oN,oN,oN,oN,oN,oF,oN,o_,o_,o_,o_,o_,o_,oT] [(2,I size2),(3,.bool closed3),(4,.ra 1 0),(57,.bool true)] (ar 4 c0 (ar 3 (neF c1) (ai c1 tv))) ?_
       obtain rfl := os h
       exact Qcz.mk
      rcases is h with ⟨c2,h⟩ | ⟨c2,h⟩
      ·refine rgs hc none [oN,oN,oN,oN,oN,oN,oN,oN,oF,oN,oN,oN,oN,oN,oN,oT,oF] [(2,I size2),(3,.bool closed3),(4,.ra 1 0),(57,.bool (decide (t0.fN < 0)))] (ar 4 c0 (ar 2 c1 (ar 3 c2 (ac c1 c2 c1 tv)))) ?_
       obtain rfl := os h
       exact Qcz.mk
      refine rgs hc none [oN,oN,oN,oN,oN,oN,oN,oN,oF,oN,oN,oN,o_,o_,o_,oF,oF] [(2,I size2),(3,.bool closed3),(4,.ra 1 0),(57,.bool false)] (ar 4 c0 (ar 2 c1 (ar 3 (neT c2) (ac c1 c2 c1 tv)))) ?_
      obtain rfl := os h
      exact Qcz.mk
     clear b9
     refine ic h (fun c3 h => ?_) fun c3 h => ?_
     ·refine rs0 hc 1 [(8,.bool false)] [] ?_
      refine rt ?_
      obtain rfl := os h
      exact re [true]
     refine sk ?_
     obtain rfl := os h
     exact iv []
    refine K8d hc 3 [(2,I size2),(3,.bool closed3),(4,.ra 1 0),(18,.bool (t0.fN != 0))] ?_
    refine ic h (fun c4 h => ?_) fun c4 h => ?_
    ·refine rs0 hc 1 [(8,.bool false)] [] ?_
     refine rt ?_
     obtain rfl := os h
     exact re [true]
    refine sk ?_
    obtain rfl := os h
    exact iv []
   rcases fl with ⟨⟩ | r
   ·refine Wp.into (x := .normal) (mkS [(2,I size2),(3,.bool closed3),(4,.ra 1 0)] [(1,K2f t0)]) hF ?_
    obtain rfl := os h
    exact Qcz.mk
   refine Wp.mono hF ?_
   rintro _ _ ⟨rfl,hfin⟩
   obtain rfl := os h
   exact ⟨rfl,hfin⟩
  rcases fl with ⟨⟩ | r
  ·refine Wp.into (x := .normal) (mkS [(2,I size2),(3,.bool closed3),(4,.ra 1 0)] [(1,K2f t0)]) hF ?_
   obtain rfl := os h
   exact Qcz.mk
  refine Wp.mono hF ?_
  rintro _ _ ⟨rfl,hfin⟩
  obtain rfl := os h
  exact ⟨rfl,hfin⟩
 rcases fl with ⟨⟩ | r
 ·refine Wp.into (x := .normal) (mkS [(2,I size2),(3,.bool closed3),(4,.ra 1 0)] [(1,K2f t0)]) hF ?_
  refine sN ?_
  obtain ⟨c5,c6,h⟩ := Qdd h
  refine rss hc none [oN,oN,oc (.bool c5),oN] [(2,I size2),(3,.bool closed3),(4,.ra 1 0),(61,.bool (!c5))] (cq (Kdp _ _ c6) K5b tv) ?_
  rcases is h with ⟨c7,h⟩ | ⟨c7,h⟩
  ·refine cF (!c5) (nF c7) ?_
   refine sk ?_
   refine sN ?_
   obtain ⟨c8,c9,h⟩ := Qdd h
   refine Wp.into (x := .normal) (mkS [(8,.bool c8)] []) ?_ ?_
   ·replace h := c9
    obtain ⟨d0,d1,h⟩ := Qdd h
    rcases is h with ⟨d2,h⟩ | ⟨d2,h⟩
    ·obtain ⟨d3,d4,h⟩ := Qdd h
     refine rg hc none [oN,oN,oc (.bool d0),oN,oN,oN,oN,oN,oc (.bool d3),oT,oN] [(8,.bool d3)] [] (cq (Kct _ _ d1) K4x (ar 5 d2 (cq (Kd4 _ _ d4) K51 (ai d2 tv)))) ?_
     obtain rfl := os h
     exact Qcz.mk
    refine rg hc none [oN,oN,oc (.bool d0),oN,o_,o_,o_,o_,o_,oF,oN] [(8,.bool false)] [] (cq (Kct _ _ d1) K4x (ar 5 (neT d2) (ai d2 tv))) ?_
    obtain rfl := os h
    exact Qcz.mk
   clear c9
   refine rt ?_
   obtain rfl := os h
   exact rq [true]
  refine cT (!c5) (nT c7) ?_
  refine rs hc none [oN,oN,some (.eqv (.no) ⟨[(64,I (t0.fType.length : Int))],[],[]⟩),oN,oN] [(8,.bool ((t0.fType.length : Int) == 0))] [] (ai (Qdj (d := 64) I t0.fType) tv) ?_
  refine rt ?_
  obtain rfl := os h
  exact rq [true]
 refine Wp.mono hF ?_
 rintro _ _ ⟨rfl,hfin⟩
 obtain rfl := os h
 exact ⟨.inl rfl,hfin⟩
def Kdw (p : Int × Int) : Option (Int) :=
 match p with
 | (op0,kid1) =>
  ((
  if (op0 == 5) = true then
  some ((kid1 == 1))
  else
  some (false)
  ) : Option (Bool)) >>= fun a0 =>
  if a0 = true then
  some 2
  else
  ((
  if (op0 == 8) = true then
  if (decide (kid1 > 0)) = true then
  some (true)
  else
  if (op0 == 9) = true then
  some (true)
  else
  if (op0 == 12) = true then
  some ((kid1 == 1))
  else
  some (false)
  else
  if (op0 == 9) = true then
  some (true)
  else
  if (op0 == 12) = true then
  some ((kid1 == 1))
  else
  some (false)
  ) : Option (Bool)) >>= fun a1 =>
  if a1 = true then
  some 1
  else
  some 0
def Kdx (p : Int × Int) (r : Int) : Prop :=
 match p with
 | (op0,kid1) => Q71 Tryz.prog 109 [I op0,I kid1] (I r) []
theorem Kdy : ∀ p r,Kdw p = some r → Kdx p r := by
 rintro ⟨op0,kid1⟩ r h
 unfold Kdw at h
 refine b0 Tryz.f109 K5e 31 [(0,I op0),(1,I kid1)] fun c hc => ?_
 refine rs0 hc 1 [(0,I op0),(1,I kid1)] [] ?_
 refine sN ?_
 refine bk 0 ?_
 refine sN ?_
 obtain ⟨a0,a1,h⟩ := Qdd h
 refine Wp.into (x := .normal) (mkS [(0,I op0),(1,I kid1),(5,.bool a0)] []) ?_ ?_
 ·replace h := a1
  rcases is h with ⟨a2,h⟩ | ⟨a2,h⟩
  ·refine rg hc none [oN,oN,oN,oN,oN,oT,oN] [(0,I op0),(1,I kid1),(5,.bool (kid1 == 1))] [] (ar 3 a2 tv) ?_
   obtain rfl := os h
   exact Qcz.mk
  refine rg hc none [oN,oN,oN,o_,o_,oF,oN] [(0,I op0),(1,I kid1),(5,.bool false)] [] (ar 2 (neT a2) (ai a2 tv)) ?_
  obtain rfl := os h
  exact Qcz.mk
 clear a1
 refine ic h (fun a3 h => ?_) fun a3 h => ?_
 ·refine rs0 hc 1 [(4,I 2)] [] ?_
  refine rt ?_
  obtain rfl := os h
  exact rq [true]
 refine sN ?_
 obtain ⟨a4,a5,h⟩ := Qdd h
 refine Wp.into (x := .normal) (mkS [(12,.bool a4)] []) ?_ ?_
 ·replace h := a5
  rcases is h with ⟨a6,h⟩ | ⟨a6,h⟩
  ·rcases is h with ⟨a7,h⟩ | ⟨a7,h⟩
   ·refine rg hc none [oN,oN,oN,oN,oN,oT,oN,o_,o_,oT,oN,o_,o_,o_,o_,o_,o_,oT,oN] [(12,.bool true)] [] (ar 3 a6 (ar 2 (neF a7) (ai a7 (ar 4 nf (ai tt tv))))) ?_
    obtain rfl := os h
    exact Qcz.mk
   rcases is h with ⟨a8,h⟩ | ⟨a8,h⟩
   ·refine rg hc none [oN,oN,oN,oN,oN,oT,oN,oN,oN,oF,oN,o_,o_,o_,o_,o_,o_,oT,oN] [(12,.bool true)] [] (ar 3 a6 (ar 3 a7 (ar 4 (neF a8) (ai a8 tv)))) ?_
    obtain rfl := os h
    exact Qcz.mk
   rcases is h with ⟨a9,h⟩ | ⟨a9,h⟩
   ·refine rg hc none [oN,oN,oN,oN,oN,oT,oN,oN,oN,oF,oN,oN,oN,oN,oN,oN,oT,oF,oN] [(12,.bool (kid1 == 1))] [] (ar 3 a6 (ar 3 a7 (ar 3 a8 (ar 2 a9 (ac a8 a9 a8 tv))))) ?_
    obtain rfl := os h
    exact Qcz.mk
   refine rg hc none [oN,oN,oN,oN,oN,oT,oN,oN,oN,oF,oN,oN,oN,oN,o_,o_,oF,oF,oN] [(12,.bool false)] [] (ar 3 a6 (ar 3 a7 (ar 3 a8 (ar 2 (neT a9) (ac a8 a9 a8 tv))))) ?_
   obtain rfl := os h
   exact Qcz.mk
  rcases is h with ⟨a7,h⟩ | ⟨a7,h⟩
  ·refine rg hc none [oN,oN,oN,o_,o_,oF,oN,oN,oN,oF,oN,o_,o_,o_,o_,o_,o_,oT,oN] [(12,.bool true)] [] (ar 2 (neT a6) (ai a6 (ar 3 (rfl : false = false) (ar 4 (neF a7) (ai a7 tv))))) ?_
   obtain rfl := os h
   exact Qcz.mk
  rcases is h with ⟨a8,h⟩ | ⟨a8,h⟩
  ·refine rg hc none [oN,oN,oN,o_,o_,oF,oN,oN,oN,oF,oN,oN,oN,oN,oN,oN,oT,oF,oN] [(12,.bool (kid1 == 1))] [] (ar 2 (neT a6) (ai a6 (ar 3 (rfl : false = false) (ar 3 a7 (ar 2 a8 (ac a7 a8 a7 tv)))))) ?_
   obtain rfl := os h
   exact Qcz.mk
  refine rg hc none [oN,oN,oN,o_,o_,oF,oN,oN,oN,oF,oN,oN,oN,oN,o_,o_,oF,oF,oN] [(12,.bool false)] [] (ar 2 (neT a6) (ai a6 (ar 3 (rfl : false = false) (ar 3 a7 (ar 2 (neT a8) (ac a7 a8 a7 tv)))))) ?_
  obtain rfl := os h
  exact Qcz.mk
 clear a5
 refine ic h (fun b1 h => ?_) fun b1 h => ?_
 ·refine rs0 hc 1 [(4,I 1)] [] ?_
  refine rt ?_
  obtain rfl := os h
  exact rq [true]
 refine sk ?_
 refine rs0 hc 1 [(4,I 0)] [] ?_
 refine rt ?_
 obtain rfl := os h
 exact rq [true]
def Kdz (c : Ctx) : (Unit) ⊕ (Bool) → Exit → Q0a → Prop
 | .inl _ => Qcz c (.exit 0) (mkS [] [])
 | .inr r => Qd8 TIx Tryz.f106 [] (.bool r)
mutual
def Ke0 (p : K01 × Int × Int × Bool) : Option (Bool) :=
 match p with
 | (t0,n1,size2,closed3) =>
  (Kdt (t0,n1,size2,closed3)) >>= fun a0 =>
  if a0 = true then
  (Ke1 (t0,n1,size2,closed3,0)) >>= fun fl => match fl with
  | .inl () =>
   some true
  | .inr r =>
   some r
  else
  some false
 partial_fixpoint
def Ke1 (p : K01 × Int × Int × Bool × Int) : Option ((Unit) ⊕ (Bool)) :=
 match p with
 | (t0,n1,size2,closed3,a0) =>
  if (decide (a0 < (t0.fKids.length : Int))) = true then
  (idx t0.fKids a0) >>= fun a1 =>
  (Kdw (t0.fOp,a0)) >>= fun a2 =>
  (Ke0 (a1,(wr (n1 + a2)),size2,closed3)) >>= fun a3 =>
  if a3 = true then
  Ke1 (t0,n1,size2,closed3,(wr (a0 + 1)))
  else
  some (.inr false)
  else
  some (.inl ())
 partial_fixpoint
end
def Ke2 (p : K01 × Int × Int × Bool) (r : Bool) : Prop :=
 match p with
 | (t0,n1,size2,closed3) => Q71 Tryz.prog 106 [K2g t0,I n1,I size2,.bool closed3] (.bool r) []
def Ke3 (p : K01 × Int × Int × Bool × Int) (fl : (Unit) ⊕ (Bool)) : Prop :=
 match p with
 | (t0,n1,size2,closed3,a0) => ∀ c : Ctx,c.nt = 38 → WpL Tryz.prog c (cl (cl (cr (cl (cr (cr K5g)))))) (Kdz c fl) (mkS [(1,I n1),(2,I size2),(3,.bool closed3),(4,.ra 1 0),(9,I a0)] [(1,K2f t0)])
theorem Ke4 : (∀ p r,Ke0 p = some r → Ke2 p r) ∧ (∀ p r,Ke1 p = some r → Ke3 p r) := by
 refine Ke0.mutual_partial_correctness Ke2 Ke3 ?_ ?_
 ·rintro spec_l2Term_l0_f spec_l2Term_l0_ih ⟨t0,n1,size2,closed3⟩ r h
  refine b0 Tryz.f106 K5g 38 [(0,K2g t0),(1,I n1),(2,I size2),(3,.bool closed3)] fun c hc => ?_
  refine rs hc none [some (.new 1),oN] [(1,I n1),(2,I size2),(3,.bool closed3),(4,.ra 1 0)] [(1,K2f t0)] tv ?_
  refine sN ?_
  obtain ⟨a0,a1,h⟩ := Qdd h
  refine rss hc none [oN,oN,oN,oN,oc (.bool a0),oN] [(1,I n1),(2,I size2),(3,.bool closed3),(4,.ra 1 0),(15,.bool (!a0))] (cq (Kdv _ _ a1) K5d tv) ?_
  rcases is h with ⟨a2,h⟩ | ⟨a2,h⟩
  ·refine cF (!a0) (nF a2) ?_
   refine sk ?_
   refine sN ?_
   refine K8d hc 1 [(1,I n1),(2,I size2),(3,.bool closed3),(4,.ra 1 0),(9,I 0)] ?_
   refine bk 0 ?_
   obtain ⟨fl,a3,h⟩ := Qdd h
   have hL := spec_l2Term_l0_ih _ _ a3 c hc
   refine lp ?_
   rcases fl with ⟨⟩ | r
   ·refine WpL.into (e := (.exit 0)) (mkS [] []) hL ?_
    refine Qcr ?_
    refine rs0 hc 1 [(8,.bool true)] [] ?_
    refine rt ?_
    obtain rfl := os h
    exact rq [true]
   refine WpL.mono hL ?_
   rintro _ _ ⟨rfl,hfin⟩
   obtain rfl := os h
   exact ⟨.inl rfl,hfin⟩
  refine cT (!a0) (nT a2) ?_
  refine rs0 hc 1 [(8,.bool false)] [] ?_
  refine rt ?_
  obtain rfl := os h
  exact rq [true]
 ·rintro spec_l2Term_f spec_l2Term_l0_f spec_l2Term_ih spec_l2Term_l0_ih ⟨t0,n1,size2,closed3,a4⟩ r h
  intro c hc
  refine WpL.step ?_
  refine sN ?_
  refine rss hc none [oN,oN,oN,some (.eqv (.no) ⟨[(19,I (t0.fKids.length : Int))],[],[]⟩),oN] [(1,I n1),(2,I size2),(3,.bool closed3),(4,.ra 1 0),(9,I a4),(20,.bool (decide (a4 < (t0.fKids.length : Int))))] (ai (Qdj (d := 19) K0s t0.fKids) tv) ?_
  refine ic h (fun a5 h => ?_) fun a5 h => ?_
  ·refine sk ?_
   refine sN ?_
   refine bk 1 ?_
   obtain ⟨a6,a7,a8,a9,b1,b2,h⟩ := bq3 h
   refine rss hc (rx [[0],[1],[0],[3],[4],[0],[0],[0,6],[0],[0,6,7,8],[0,5,6,7,8,9],[0],[0],[13],[14]]) [oN,oN,oN,some (.el (K2g a6)),oN,oN,oN,oN,oN,oc (I a8),oN,oN,oN,oc (.bool b1),oN] [(1,I n1),(2,I size2),(3,.bool closed3),(4,.ra 1 0),(9,I a4),(37,.bool (!b1))] (ai (Qdh a7 (K0z a6)) (cq (Kdy _ _ a9) K5f (cq (spec_l2Term_ih _ _ b2) K5h tv))) ?_
   rcases is h with ⟨b3,h⟩ | ⟨b3,h⟩
   ·refine cF (!b1) (nF b3) ?_
    refine sk ?_
    refine K8c hc 3 [(1,I n1),(2,I size2),(3,.bool closed3),(4,.ra 1 0),(9,I (wr (a4 + 1)))] ?_
    refine Qcv ?_
    exact (spec_l2Term_l0_ih _ _ h c hc)
   refine cT (!b1) (nT b3) ?_
   refine rs0 hc 1 [(8,.bool false)] [] ?_
   refine rt ?_
   obtain rfl := os h
   exact re [true]
  refine xt 0 ?_
  refine Qcp ?_
  refine Qcw ?_
  obtain rfl := os h
  exact iv []
theorem Ke5 : ∀ p r,Ke0 p = some r → Ke2 p r := Ke4.1
theorem Ke6 : ∀ p r,Ke1 p = some r → Ke3 p r := Ke4.2
def Ke7 (c : Ctx) : (Unit) ⊕ (Bool) → Exit → Q0a → Prop
 | .inl _ => Qcz c (.exit 0) (mkS [] [])
 | .inr r => Qd8 TIx Tryz.f57 [] (.bool r)
def Ke8 (p : K00 × K02 × Int) : Option ((Unit) ⊕ (Bool)) :=
 match p with
 | (s0,j1,a0) =>
  if (decide (a0 < (j1.fBudgets.length : Int))) = true then
  ((
  (idx j1.fBudgets a0) >>= fun a1 =>
  (Kaq (a1,0,(wr (s0.fSize - 1)))) >>= fun a2 =>
  if a2 = true then
  (idx j1.fCtx a0) >>= fun a3 =>
  (Kcr a3) >>= fun a4 =>
  if a4 = true then
  (idx j1.fCtx a0) >>= fun a5 =>
  (Kd2 (a5,s0.fSize,true)) >>= fun a6 =>
  some ((!a6))
  else
  some (true)
  else
  some (true)
  ) : Option (Bool)) >>= fun a7 =>
  if a7 = true then
  some (.inr false)
  else
  Ke8 (s0,j1,(wr (a0 + 1)))
  else
  some (.inl ())
 partial_fixpoint
def Ke9 (p : K00 × K02 × Int) (fl : (Unit) ⊕ (Bool)) : Prop :=
 match p with
 | (s0,j1,a0) => ∀ c : Ctx,c.nt = 80 → WpL Tryz.prog c (cl (cl (cr (cl (cr (cr B57)))))) (Ke7 c fl) (mkS [(2,.ra 1 0),(3,.ra 2 0),(5,I a0)] [(1,K2d s0),(2,K2h j1)])
theorem Kea : ∀ p r,Ke8 p = some r → Ke9 p r := by
 refine Ke8.partial_correctness Ke9 ?_
 rintro spec_IsJudgment_l0_f spec_IsJudgment_l0_ih ⟨s0,j1,a0⟩ r h
 intro c hc
 refine WpL.step ?_
 refine sN ?_
 refine rss hc none [oN,oN,oN,some (.eqv (.no) ⟨[(46,I (j1.fBudgets.length : Int))],[],[]⟩),oN] [(2,.ra 1 0),(3,.ra 2 0),(5,I a0),(47,.bool (decide (a0 < (j1.fBudgets.length : Int))))] (ai (Qdj (d := 46) I j1.fBudgets) tv) ?_
 refine ic h (fun a1 h => ?_) fun a1 h => ?_
 ·refine sk ?_
  refine sN ?_
  refine bk 1 ?_
  refine sN ?_
  obtain ⟨a2,a3,h⟩ := Qdd h
  refine Wp.into (x := .normal) (mkS [(2,.ra 1 0),(3,.ra 2 0),(5,I a0),(79,.bool a2)] [(1,K2d s0),(2,K2h j1)]) ?_ ?_
  ·replace h := a3
   obtain ⟨a4,a5,a6,a7,h⟩ := bq2 h
   rcases is h with ⟨a8,h⟩ | ⟨a8,h⟩
   ·obtain ⟨a9,b1,b2,b3,h⟩ := bq2 h
    rcases is h with ⟨b4,h⟩ | ⟨b4,h⟩
    ·obtain ⟨b5,b6,b7,b8,h⟩ := bq2 h
     refine rgs hc Kd9 [oN,oN,oN,some (.el (I a4)),oN,oN,oN,oN,oc (.bool a6),oN,oN,oN,oN,oN,some (.el (sI a9)),oN,oc (.bool b2),oN,oF,oN,oN,oN,oN,some (.el (sI b5)),oN,oN,oN,oc (.bool b7),oN,oF] [(2,.ra 1 0),(3,.ra 2 0),(5,I a0),(79,.bool (!b7))] (ai (ix a5) (cq (Kas _ _ a7) K47 (ar 4 (nF a8) (ai (xL b1) (ar 2 (nF a8) (cq (Kct _ _ b3) K4x (ar 2 (nF a8) (ar 4 (nF b4) (ai (xL b6) (ar 4 (nF b4) (cq (Kd4 _ _ b8) K51 (ar 2 (nF b4) tv)))))))))))) ?_
     obtain rfl := os h
     exact Qcz.mk
    refine rgs hc Kd9 [oN,oN,oN,some (.el (I a4)),oN,oN,oN,oN,oc (.bool a6),oN,oN,oN,oN,oN,some (.el (sI a9)),oN,oc (.bool b2),oN,oF,oN,o_,o_,o_,o_,o_,o_,o_,o_,o_,oT] [(2,.ra 1 0),(3,.ra 2 0),(5,I a0),(79,.bool true)] (ai (ix a5) (cq (Kas _ _ a7) K47 (ar 4 (nF a8) (ai (xL b1) (ar 2 (nF a8) (cq (Kct _ _ b3) K4x (ar 2 (nF a8) (ar 9 (neF (nT b4)) (ai (nT b4) tv))))))))) ?_
    obtain rfl := os h
    exact Qcz.mk
   refine rgs hc Kd9 [oN,oN,oN,some (.el (I a4)),oN,oN,oN,oN,oc (.bool a6),oN,oN,o_,o_,o_,o_,o_,o_,o_,oT,oN,o_,o_,o_,o_,o_,o_,o_,o_,o_,oT] [(2,.ra 1 0),(3,.ra 2 0),(5,I a0),(79,.bool true)] (ai (ix a5) (cq (Kas _ _ a7) K47 (ar 7 (neF (nT a8)) (ai (nT a8) (ar 9 nf (ai tt tv)))))) ?_
   obtain rfl := os h
   exact Qcz.mk
  clear a3
  refine ic h (fun b9 h => ?_) fun b9 h => ?_
  ·refine rs0 hc 1 [(4,.bool false)] [] ?_
   refine rt ?_
   obtain rfl := os h
   exact re [true]
  refine sk ?_
  refine K8c hc 3 [(2,.ra 1 0),(3,.ra 2 0),(5,I (wr (a0 + 1)))] ?_
  refine Qcv ?_
  exact (spec_IsJudgment_l0_ih _ _ h c hc)
 refine xt 0 ?_
 refine Qcp ?_
 refine Qcw ?_
 obtain rfl := os h
 exact iv []
def Keb (p : K00 × K02) : Option (Bool) :=
 match p with
 | (s0,j1) =>
  ((
  (Kd5 (s0,j1.fType)) >>= fun a0 =>
  if a0 = true then
   if (decide ((j1.fCtx.length : Int) > 400)) = true then
   some (true)
   else
   if ((j1.fBudgets.length : Int) != (j1.fCtx.length : Int)) = true then
   some (true)
   else
   (Kda (j1.fTerm,400)) >>= fun a1 =>
   if (decide (a1 < 0)) = true then
   some (true)
   else
   (Ke0 (j1.fTerm,(j1.fCtx.length : Int),s0.fSize,true)) >>= fun a2 =>
   some ((!a2))
  else
   some (true)
  ) : Option (Bool)) >>= fun a3 =>
  if a3 = true then
  some false
  else
  (Ke8 (s0,j1,0)) >>= fun fl => match fl with
  | .inl () =>
   some true
  | .inr r =>
   some r
def Kec (p : K00 × K02) (r : Bool) : Prop :=
 match p with
 | (s0,j1) => Q71 Tryz.prog 57 [K2e s0,K2i j1] (.bool r) []
theorem Ked : ∀ p r,Keb p = some r → Kec p r := by
 rintro ⟨s0,j1⟩ r h
 unfold Keb at h
 refine b0 Tryz.f57 B57 80 [(0,K2e s0),(1,K2i j1)] fun c hc => ?_
 refine rs hc none [some (.new 1),some (.new 2),oN] [(2,.ra 1 0),(3,.ra 2 0)] [(1,K2d s0),(2,K2h j1)] tv ?_
 refine sN ?_
 refine sN ?_
 obtain ⟨a0,a1,h⟩ := Qdd h
 refine Wp.into (x := .normal) (mkS [(2,.ra 1 0),(3,.ra 2 0),(42,.bool a0)] [(1,K2d s0),(2,K2h j1)]) ?_ ?_
 ·replace h := a1
  obtain ⟨a2,a3,h⟩ := Qdd h
  rcases is h with ⟨a4,h⟩ | ⟨a4,h⟩
  ·rcases is h with ⟨a5,h⟩ | ⟨a5,h⟩
   ·refine rgs hc none [oN,oN,oN,oc (.bool a2),oN,oN,oN,oN,some (.eqv (.no) ⟨[(14,I (j1.fCtx.length : Int))],[],[]⟩),oN,oF,oN,o_,o_,o_,o_,o_,o_,o_,oT,oN,o_,o_,o_,o_,oT,oN,o_,o_,o_,o_,o_,o_,o_,o_,o_,oT] [(2,.ra 1 0),(3,.ra 2 0),(42,.bool true)] (cq (Kd7 _ _ a3) K53 (ar 3 (nF a4) (ai (Qdj (d := 14) K07 j1.fCtx) (ar 2 (nF a4) (ar 7 (neF a5) (ai a5 (ar 4 nf (ai tt (ar 9 nf (ai tt tv)))))))))) ?_
    obtain rfl := os h
    exact Qcz.mk
   rcases is h with ⟨a6,h⟩ | ⟨a6,h⟩
   ·refine rgs hc none [oN,oN,oN,oc (.bool a2),oN,oN,oN,oN,some (.eqv (.no) ⟨[(14,I (j1.fCtx.length : Int))],[],[]⟩),oN,oF,oN,oN,oN,some (.eqv (.no) ⟨[(20,I (j1.fBudgets.length : Int))],[],[]⟩),oN,oN,some (.eqv (.no) ⟨[(23,I (j1.fCtx.length : Int))],[],[]⟩),oN,oF,oN,o_,o_,o_,o_,oT,oN,o_,o_,o_,o_,o_,o_,o_,o_,o_,oT] [(2,.ra 1 0),(3,.ra 2 0),(42,.bool true)] (cq (Kd7 _ _ a3) K53 (ar 3 (nF a4) (ai (Qdj (d := 14) K07 j1.fCtx) (ar 2 (nF a4) (ar 3 a5 (ai (Qdj (d := 20) I j1.fBudgets) (ar 3 a5 (ai (Qdj (d := 23) K07 j1.fCtx) (ar 2 a5 (ar 4 (neF a6) (ai a6 (ar 9 nf (ai tt tv))))))))))))) ?_
    obtain rfl := os h
    exact Qcz.mk
   obtain ⟨a7,a8,h⟩ := Qdd h
   rcases is h with ⟨a9,h⟩ | ⟨a9,h⟩
   ·refine rgs hc none [oN,oN,oN,oc (.bool a2),oN,oN,oN,oN,some (.eqv (.no) ⟨[(14,I (j1.fCtx.length : Int))],[],[]⟩),oN,oF,oN,oN,oN,some (.eqv (.no) ⟨[(20,I (j1.fBudgets.length : Int))],[],[]⟩),oN,oN,some (.eqv (.no) ⟨[(23,I (j1.fCtx.length : Int))],[],[]⟩),oN,oF,oN,oN,oN,oc (I a7),oN,oF,oN,o_,o_,o_,o_,o_,o_,o_,o_,o_,oT] [(2,.ra 1 0),(3,.ra 2 0),(42,.bool true)] (cq (Kd7 _ _ a3) K53 (ar 3 (nF a4) (ai (Qdj (d := 14) K07 j1.fCtx) (ar 2 (nF a4) (ar 3 a5 (ai (Qdj (d := 20) I j1.fBudgets) (ar 3 a5 (ai (Qdj (d := 23) K07 j1.fCtx) (ar 2 a5 (ar 3 a6 (cq (Kdf _ _ a8) K55 (ar 2 a6 (ar 9 (neF a9) (ai a9 tv)))))))))))))) ?_
    obtain rfl := os h
    exact Qcz.mk
   obtain ⟨b1,b2,h⟩ := Qdd h
   refine rgs hc none [oN,oN,oN,oc (.bool a2),oN,oN,oN,oN,some (.eqv (.no) ⟨[(14,I (j1.fCtx.length : Int))],[],[]⟩),oN,oF,oN,oN,oN,some (.eqv (.no) ⟨[(20,I (j1.fBudgets.length : Int))],[],[]⟩),oN,oN,some (.eqv (.no) ⟨[(23,I (j1.fCtx.length : Int))],[],[]⟩),oN,oF,oN,oN,oN,oc (I a7),oN,oF,oN,oN,oN,oN,oN,some (.eqv (.no) ⟨[(37,I (j1.fCtx.length : Int))],[],[]⟩),oN,oN,oc (.bool b1),oN,oF] [(2,.ra 1 0),(3,.ra 2 0),(42,.bool (!b1))] (cq (Kd7 _ _ a3) K53 (ar 3 (nF a4) (ai (Qdj (d := 14) K07 j1.fCtx) (ar 2 (nF a4) (ar 3 a5 (ai (Qdj (d := 20) I j1.fBudgets) (ar 3 a5 (ai (Qdj (d := 23) K07 j1.fCtx) (ar 2 a5 (ar 3 a6 (cq (Kdf _ _ a8) K55 (ar 2 a6 (ar 5 a9 (ai (Qdj (d := 37) K07 j1.fCtx) (ar 3 a9 (cq (Ke5 _ _ b2) K5h (ar 2 a9 tv))))))))))))))))) ?_
   obtain rfl := os h
   exact Qcz.mk
  refine rgs hc none [oN,oN,oN,oc (.bool a2),oN,oN,o_,o_,o_,o_,oT,oN,o_,o_,o_,o_,o_,o_,o_,oT,oN,o_,o_,o_,o_,oT,oN,o_,o_,o_,o_,o_,o_,o_,o_,o_,oT] [(2,.ra 1 0),(3,.ra 2 0),(42,.bool true)] (cq (Kd7 _ _ a3) K53 (ar 4 (neF (nT a4)) (ai (nT a4) (ar 7 nf (ai tt (ar 4 nf (ai tt (ar 9 nf (ai tt tv))))))))) ?_
  obtain rfl := os h
  exact Qcz.mk
 clear a1
 refine ic h (fun b3 h => ?_) fun b3 h => ?_
 ·refine rs0 hc 1 [(4,.bool false)] [] ?_
  refine rt ?_
  obtain rfl := os h
  exact rq [true]
 refine sk ?_
 refine sN ?_
 refine K8d hc 1 [(2,.ra 1 0),(3,.ra 2 0),(5,I 0)] ?_
 refine bk 0 ?_
 obtain ⟨fl,b4,h⟩ := Qdd h
 have hL := Kea _ _ b4 c hc
 refine lp ?_
 rcases fl with ⟨⟩ | r
 ·refine WpL.into (e := (.exit 0)) (mkS [] []) hL ?_
  refine Qcr ?_
  refine rs0 hc 1 [(4,.bool true)] [] ?_
  refine rt ?_
  obtain rfl := os h
  exact rq [true]
 refine WpL.mono hL ?_
 rintro _ _ ⟨rfl,hfin⟩
 obtain rfl := os h
 exact ⟨.inl rfl,hfin⟩
def Kee (c : Ctx) : (Unit) ⊕ (Bool) → Exit → Q0a → Prop
 | .inl _ => Qcz c (.exit 0) (mkS [] [])
 | .inr r => Qd8 TIx Tryz.f63 [] (.bool r)
def Kef (p : (List Int) × (List Int) × Int) : Option ((Unit) ⊕ (Bool)) :=
 match p with
 | (a0,b1,a1) =>
  if (decide (a1 < (a0.length : Int))) = true then
  (idx a0 a1) >>= fun a2 =>
  (idx b1 a1) >>= fun a3 =>
  if (a2 != a3) = true then
  some (.inr false)
  else
  Kef (a0,b1,(wr (a1 + 1)))
  else
  some (.inl ())
 partial_fixpoint
def Keg (p : (List Int) × (List Int) × Int) (fl : (Unit) ⊕ (Bool)) : Prop :=
 match p with
 | (a0,b1,a1) => ∀ c : Ctx,c.nt = 26 → WpL Tryz.prog c (cl (cl (cr (cl (cr (cr B63)))))) (Kee c fl) (mkS [(0,sI a0),(1,sI b1),(5,I a1)] [])
theorem Keh : ∀ p r,Kef p = some r → Keg p r := by
 refine Kef.partial_correctness Keg ?_
 rintro spec_l1Same_l0_f spec_l1Same_l0_ih ⟨a0,b1,a1⟩ r h
 intro c hc
 refine WpL.step ?_
 refine sN ?_
 refine rs hc none [oN,oN,some (.eqv (.no) ⟨[(13,I (a0.length : Int))],[],[]⟩),oN] [(0,sI a0),(1,sI b1),(5,I a1),(14,.bool (decide (a1 < (a0.length : Int))))] [] (ai (Qdj (d := 13) I a0) tv) ?_
 refine ic h (fun a2 h => ?_) fun a2 h => ?_
 ·refine sk ?_
  refine sN ?_
  refine bk 1 ?_
  obtain ⟨a3,a4,a5,a6,h⟩ := bq2 h
  refine rs hc (rx [[0],[0],[2],[3],[0],[0],[0,4,5],[0,4,5,6],[8]]) [oN,oN,some (.el (I a3)),oN,oN,oN,some (.el (I a5)),oN,oN] [(0,sI a0),(1,sI b1),(5,I a1),(25,.bool (a3 != a5))] [] (ab (ix a4) (ix a6) tv) ?_
  refine ic h (fun a7 h => ?_) fun a7 h => ?_
  ·refine rs0 hc 1 [(4,.bool false)] [] ?_
   refine rt ?_
   obtain rfl := os h
   exact re [true]
  refine sk ?_
  refine rg0 hc 3 [(0,sI a0),(1,sI b1),(5,I (wr (a1 + 1)))] [] ?_
  refine Qcv ?_
  exact (spec_l1Same_l0_ih _ _ h c hc)
 refine xt 0 ?_
 refine Qcp ?_
 refine Qcw ?_
 obtain rfl := os h
 exact iv []
def Kei (p : (List Int) × (List Int)) : Option (Bool) :=
 match p with
 | (a0,b1) =>
  if ((a0.length : Int) != (b1.length : Int)) = true then
  some false
  else
  (Kef (a0,b1,0)) >>= fun fl => match fl with
  | .inl () =>
   some true
  | .inr r =>
   some r
def Kej (p : (List Int) × (List Int)) (r : Bool) : Prop :=
 match p with
 | (a0,b1) => Q71 Tryz.prog 63 [sI a0,sI b1] (.bool r) []
theorem Kek : ∀ p r,Kei p = some r → Kej p r := by
 rintro ⟨a0,b1⟩ r h
 unfold Kei at h
 refine b0 Tryz.f63 B63 26 [(0,sI a0),(1,sI b1)] fun c hc => ?_
 refine rs0 hc 1 [(0,sI a0),(1,sI b1)] [] ?_
 refine sN ?_
 refine rs hc none [oN,some (.eqv (.no) ⟨[(7,I (a0.length : Int))],[],[]⟩),oN,some (.eqv (.no) ⟨[(9,I (b1.length : Int))],[],[]⟩),oN] [(0,sI a0),(1,sI b1),(10,.bool ((a0.length : Int) != (b1.length : Int)))] [] (ab (Qdj (d := 7) I a0) (Qdj (d := 9) I b1) tv) ?_
 refine ic h (fun a1 h => ?_) fun a1 h => ?_
 ·refine rs0 hc 1 [(4,.bool false)] [] ?_
  refine rt ?_
  obtain rfl := os h
  exact rq [true]
 refine sk ?_
 refine sN ?_
 refine rs0 hc 1 [(0,sI a0),(1,sI b1),(5,I 0)] [] ?_
 refine bk 0 ?_
 obtain ⟨fl,a2,h⟩ := Qdd h
 have hL := Keh _ _ a2 c hc
 refine lp ?_
 rcases fl with ⟨⟩ | r
 ·refine WpL.into (e := (.exit 0)) (mkS [] []) hL ?_
  refine Qcr ?_
  refine rs0 hc 1 [(4,.bool true)] [] ?_
  refine rt ?_
  obtain rfl := os h
  exact rq [true]
 refine WpL.mono hL ?_
 rintro _ _ ⟨rfl,hfin⟩
 obtain rfl := os h
 exact ⟨.inl rfl,hfin⟩
def Kel (c : Ctx) : (Unit) ⊕ (Bool) → Exit → Q0a → Prop
 | .inl _ => Qcz c (.exit 0) (mkS [] [])
 | .inr r => Qd8 TIx Tryz.f58 [] (.bool r)
mutual
def Kem (p : K01 × K01) : Option (Bool) :=
 match p with
 | (a0,b1) =>
  ((
  if (a0.fOp != b1.fOp) = true then
   some (true)
  else
   if (a0.fN != b1.fN) = true then
   some (true)
   else
   (Kei (a0.fType,b1.fType)) >>= fun a1 =>
   if a1 = true then
   some (((a0.fKids.length : Int) != (b1.fKids.length : Int)))
   else
   some (true)
  ) : Option (Bool)) >>= fun a2 =>
  if a2 = true then
  some false
  else
  (Ken (a0,b1,0)) >>= fun fl => match fl with
  | .inl () =>
   some true
  | .inr r =>
   some r
 partial_fixpoint
def Ken (p : K01 × K01 × Int) : Option ((Unit) ⊕ (Bool)) :=
 match p with
 | (a0,b1,a1) =>
  if (decide (a1 < (a0.fKids.length : Int))) = true then
  (idx a0.fKids a1) >>= fun a2 =>
  (idx b1.fKids a1) >>= fun a3 =>
  (Kem (a2,a3)) >>= fun a4 =>
  if a4 = true then
  Ken (a0,b1,(wr (a1 + 1)))
  else
  some (.inr false)
  else
  some (.inl ())
 partial_fixpoint
end
def Keo (p : K01 × K01) (r : Bool) : Prop :=
 match p with
 | (a0,b1) => Q71 Tryz.prog 58 [K2g a0,K2g b1] (.bool r) []
def Kep (p : K01 × K01 × Int) (fl : (Unit) ⊕ (Bool)) : Prop :=
 match p with
 | (a0,b1,a1) => ∀ c : Ctx,c.nt = 54 → WpL Tryz.prog c (cl (cl (cr (cl (cr (cr B58)))))) (Kel c fl) (mkS [(2,.ra 1 0),(3,.ra 2 0),(5,I a1)] [(1,K2f a0),(2,K2f b1)])
theorem Keq : (∀ p r,Kem p = some r → Keo p r) ∧ (∀ p r,Ken p = some r → Kep p r) := by
 refine Kem.mutual_partial_correctness Keo Kep ?_ ?_
 ·rintro spec_l2Equal_l0_f spec_l2Equal_l0_ih ⟨a0,b1⟩ r h
  refine b0 Tryz.f58 B58 54 [(0,K2g a0),(1,K2g b1)] fun c hc => ?_
  refine rs hc none [some (.new 1),some (.new 2),oN] [(2,.ra 1 0),(3,.ra 2 0)] [(1,K2f a0),(2,K2f b1)] tv ?_
  refine sN ?_
  refine sN ?_
  obtain ⟨a1,a2,h⟩ := Qdd h
  refine Wp.into (x := .normal) (mkS [(2,.ra 1 0),(3,.ra 2 0),(34,.bool a1)] [(1,K2f a0),(2,K2f b1)]) ?_ ?_
  ·replace h := a2
   rcases is h with ⟨a3,h⟩ | ⟨a3,h⟩
   ·refine rgs hc none [oN,oN,oN,oN,oN,oN,o_,o_,o_,o_,o_,oT,oN,o_,o_,o_,o_,o_,o_,oT,oN,o_,o_,o_,o_,o_,o_,o_,oT] [(2,.ra 1 0),(3,.ra 2 0),(34,.bool true)] (ar 5 (neF a3) (ai a3 (ar 6 nf (ai tt (ar 7 nf (ai tt tv)))))) ?_
    obtain rfl := os h
    exact Qcz.mk
   rcases is h with ⟨a4,h⟩ | ⟨a4,h⟩
   ·refine rgs hc none [oN,oN,oN,oN,oN,oN,oN,oN,oN,oN,oN,oF,oN,o_,o_,o_,o_,o_,o_,oT,oN,o_,o_,o_,o_,o_,o_,o_,oT] [(2,.ra 1 0),(3,.ra 2 0),(34,.bool true)] (ar 6 a3 (ar 6 (neF a4) (ai a4 (ar 7 nf (ai tt tv))))) ?_
    obtain rfl := os h
    exact Qcz.mk
   obtain ⟨a5,a6,h⟩ := Qdd h
   rcases is h with ⟨a7,h⟩ | ⟨a7,h⟩
   ·refine rgs hc none [oN,oN,oN,oN,oN,oN,oN,oN,oN,oN,oN,oF,oN,oN,oN,oN,oN,oc (.bool a5),oN,oF,oN,oN,oN,some (.eqv (.no) ⟨[(29,I (a0.fKids.length : Int))],[],[]⟩),oN,oN,some (.eqv (.no) ⟨[(32,I (b1.fKids.length : Int))],[],[]⟩),oN,oF] [(2,.ra 1 0),(3,.ra 2 0),(34,.bool ((a0.fKids.length : Int) != (b1.fKids.length : Int)))] (ar 6 a3 (ar 5 a4 (cq (Kek _ _ a6) K5j (ar 2 a4 (ar 3 (nF a7) (ai (Qdj (d := 29) K0s a0.fKids) (ar 3 (nF a7) (ai (Qdj (d := 32) K0s b1.fKids) (ar 2 (nF a7) tv))))))))) ?_
    obtain rfl := os h
    exact Qcz.mk
   refine rgs hc none [oN,oN,oN,oN,oN,oN,oN,oN,oN,oN,oN,oF,oN,oN,oN,oN,oN,oc (.bool a5),oN,oF,oN,o_,o_,o_,o_,o_,o_,o_,oT] [(2,.ra 1 0),(3,.ra 2 0),(34,.bool true)] (ar 6 a3 (ar 5 a4 (cq (Kek _ _ a6) K5j (ar 2 a4 (ar 7 (neF (nT a7)) (ai (nT a7) tv)))))) ?_
   obtain rfl := os h
   exact Qcz.mk
  clear a2
  refine ic h (fun a8 h => ?_) fun a8 h => ?_
  ·refine rs0 hc 1 [(4,.bool false)] [] ?_
   refine rt ?_
   obtain rfl := os h
   exact rq [true]
  refine sk ?_
  refine sN ?_
  refine K8d hc 1 [(2,.ra 1 0),(3,.ra 2 0),(5,I 0)] ?_
  refine bk 0 ?_
  obtain ⟨fl,a9,h⟩ := Qdd h
  have hL := spec_l2Equal_l0_ih _ _ a9 c hc
  refine lp ?_
  rcases fl with ⟨⟩ | r
  ·refine WpL.into (e := (.exit 0)) (mkS [] []) hL ?_
   refine Qcr ?_
   refine rs0 hc 1 [(4,.bool true)] [] ?_
   refine rt ?_
   obtain rfl := os h
   exact rq [true]
  refine WpL.mono hL ?_
  rintro _ _ ⟨rfl,hfin⟩
  obtain rfl := os h
  exact ⟨.inl rfl,hfin⟩
 ·rintro spec_l2Equal_f spec_l2Equal_l0_f spec_l2Equal_ih spec_l2Equal_l0_ih ⟨a0,b1,b2⟩ r h
  intro c hc
  refine WpL.step ?_
  refine sN ?_
  refine rss hc none [oN,oN,oN,some (.eqv (.no) ⟨[(38,I (a0.fKids.length : Int))],[],[]⟩),oN] [(2,.ra 1 0),(3,.ra 2 0),(5,I b2),(39,.bool (decide (b2 < (a0.fKids.length : Int))))] (ai (Qdj (d := 38) K0s a0.fKids) tv) ?_
  refine ic h (fun b3 h => ?_) fun b3 h => ?_
  ·refine sk ?_
   refine sN ?_
   refine bk 1 ?_
   obtain ⟨b4,b5,b6,b7,b8,b9,h⟩ := bq3 h
   refine rss hc (rx [[0],[1],[0],[3],[4],[0],[0,5],[0],[0,5,6,7],[0,5,6,7,8],[10],[11]]) [oN,oN,oN,some (.el (K2g b4)),oN,oN,oN,oN,some (.el (K2g b6)),oN,oc (.bool b8),oN] [(2,.ra 1 0),(3,.ra 2 0),(5,I b2),(53,.bool (!b8))] (ab (Qdh b5 (K0z b4)) (Qdh b7 (K0z b6)) (cq (spec_l2Equal_ih _ _ b9) K5k tv)) ?_
   rcases is h with ⟨c0,h⟩ | ⟨c0,h⟩
   ·refine cF (!b8) (nF c0) ?_
    refine sk ?_
    refine K8c hc 3 [(2,.ra 1 0),(3,.ra 2 0),(5,I (wr (b2 + 1)))] ?_
    refine Qcv ?_
    exact (spec_l2Equal_l0_ih _ _ h c hc)
   refine cT (!b8) (nT c0) ?_
   refine rs0 hc 1 [(4,.bool false)] [] ?_
   refine rt ?_
   obtain rfl := os h
   exact re [true]
  refine xt 0 ?_
  refine Qcp ?_
  refine Qcw ?_
  obtain rfl := os h
  exact iv []
theorem Ker : ∀ p r,Kem p = some r → Keo p r := Keq.1
theorem Kes : ∀ p r,Ken p = some r → Kep p r := Keq.2
def Ket (l0 : (List Int)) : Option ((List Int)) :=
 (Qdq (([] : List Int).length + l0.length) 8) >>= fun _ =>
 some l0
def Keu (l0 : (List Int)) (r : (List Int)) : Prop :=
 Q71 Tryz.prog 82 [sI l0] (oI r) []
theorem Kev : ∀ p r,Ket p = some r → Keu p r := by
 rintro l0 r h
 unfold Ket at h
 refine b0 Tryz.f82 B82 6 [(0,sI l0)] fun c hc => ?_
 refine rs0 hc 1 [(0,sI l0)] [] ?_
 obtain ⟨_,a0,h⟩ := Qdd h
 refine rs hc none [some (.mk 1 true),oN,some (.eqv (.mk 2 true) ⟨[(5,.rs 2)],[(2,some (rI l0)),(1,none)],[2]⟩),oN] [(2,.rs 2)] [(2,rI l0)] (ab (congrArg (fun z => (⟨[(5,.rs 2)],[(2,some (.arr z)),(1,none)],[2]⟩ : Wr)) (List.nil_append _ : [] ++ (List.map I l0) = List.map I l0)) (Qdr (enc1 := I) (enc2 := I) (e1 := []) (e2 := l0) (sz := 1) Qe0 Qe0 a0) tv) ?_
 refine rt ?_
 obtain rfl := os h
 exact rq [true]
def Kew (p : (List Int) × Int) : Option ((List Int)) :=
 match p with
 | (ty0,k1) =>
  (Kco (ty0,1)) >>= fun a0 =>
  if (k1 == 0) = true then
  (cut ty0 (some 1) (some a0) none) >>= fun a1 =>
  (Ket a1) >>= fun a2 =>
  some a2
  else
  (cut ty0 (some a0) none none) >>= fun a3 =>
  (Ket a3) >>= fun a4 =>
  some a4
def Kex (p : (List Int) × Int) (r : (List Int)) : Prop :=
 match p with
 | (ty0,k1) => Q71 Tryz.prog 101 [sI ty0,I k1] (oI r) []
theorem Key : ∀ p r,Kew p = some r → Kex p r := by
 rintro ⟨ty0,k1⟩ r h
 unfold Kew at h
 refine b0 Tryz.f101 K5m 18 [(0,sI ty0),(1,I k1)] fun c hc => ?_
 refine rs0 hc 1 [(0,sI ty0),(1,I k1)] [] ?_
 obtain ⟨a0,a1,h⟩ := Qdd h
 refine rs hc none [oN,oc (I a0),oN] [(0,sI ty0),(1,I k1),(5,I a0)] [] (cq (Kcq _ _ a1) K4v tv) ?_
 refine sN ?_
 refine rs0 hc 2 [(0,sI ty0),(5,I a0),(9,.bool (k1 == 0))] [] ?_
 refine ic h (fun a2 h => ?_) fun a2 h => ?_
 ·obtain ⟨a3,a4,a5,a6,h⟩ := bq2 h
  refine rs hc none [oN,oN,some (.eqv (.no) ⟨[(12,sI a3)],[],[]⟩),oc (oI a5),oN] [(4,.rs 1)] [(1,rI a5)] (ab (Qdm (d := 12) I a4) (Qdl (enc := I) (sz := 1) Qdw a4) (cq (Kev _ _ a6) K5l tv)) ?_
  refine rt ?_
  obtain rfl := os h
  exact rq [true]
 refine sk ?_
 obtain ⟨a7,a8,a9,b1,h⟩ := bq2 h
 refine rs hc none [oN,oN,some (.eqv (.no) ⟨[(16,sI a7)],[],[]⟩),some (.call (oI a9) [] 2),oN] [(4,.rs 2)] [(2,rI a9)] (ab (Qdm (d := 16) I a8) (Qdl (enc := I) (sz := 1) Qdw a8) (cq (Kev _ _ b1) K5l tv)) ?_
 refine rt ?_
 obtain rfl := os h
 exact rq [true]
def Kez (p : K01 × (List Int) × Int) : Option (LL × Bool) :=
 match p with
 | (t0,first1,k2) =>
  (Kdw (t0.fOp,k2)) >>= fun a0 =>
  if (a0 == 0) = true then
  some ([],true)
  else
  if (t0.fOp == 9) = true then
  some ([t0.fType],true)
  else
  ((
  if (t0.fOp == 5) = true then
  (idx first1 0) >>= fun a1 =>
  some ((a1 == 1))
  else
  some (false)
  ) : Option (Bool)) >>= fun a2 =>
  if a2 = true then
  (Kew (first1,1)) >>= fun a3 =>
  (Kew (first1,0)) >>= fun a4 =>
  some ([a3,a4],true)
  else
  ((
  if (t0.fOp == 8) = true then
  (idx first1 0) >>= fun a5 =>
  some ((a5 == 2))
  else
  some (false)
  ) : Option (Bool)) >>= fun a6 =>
  if a6 = true then
  (Kew (first1,(wr (k2 - 1)))) >>= fun a7 =>
  some ([a7],true)
  else
  ((
  if (t0.fOp == 12) = true then
  (idx first1 0) >>= fun a8 =>
  (Kce a8) >>= fun a9 =>
  some (a9)
  else
  some (false)
  ) : Option (Bool)) >>= fun b1 =>
  if b1 = true then
  (Kew (first1,0)) >>= fun b2 =>
  some ([b2],true)
  else
  some ([],false)
def Kf0 (p : K01 × (List Int) × Int) (r : LL × Bool) : Prop :=
 match p with
 | (t0,first1,k2) => Q71 Tryz.prog 59 [K2g t0,sI first1,I k2] (.tup [sL r.1,.bool r.2]) []
theorem Kf1 : ∀ p r,Kez p = some r → Kf0 p r := by
 rintro ⟨t0,first1,k2⟩ r h
 unfold Kez at h
 refine b0 Tryz.f59 B59 64 [(0,K2g t0),(1,sI first1),(2,I k2)] fun c hc => ?_
 refine rs hc none [some (.new 1),oN,oN] [(1,sI first1),(2,I k2),(3,.ra 1 0)] [(1,K2f t0)] tv ?_
 refine sN ?_
 refine bk 0 ?_
 obtain ⟨a0,a1,h⟩ := Qdd h
 refine rss hc none [oN,oN,oN,oc (I a0),oN,oN] [(1,sI first1),(2,I k2),(3,.ra 1 0),(8,.bool (a0 == 0))] (cq (Kdy _ _ a1) K5f tv) ?_
 refine ic h (fun a2 h => ?_) fun a2 h => ?_
 ·refine rs0 hc 2 [(6,.nils),(7,.bool true)] [] ?_
  refine rt ?_
  obtain rfl := os h
  exact rq [false,true]
 refine K8d hc 4 [(1,sI first1),(2,I k2),(3,.ra 1 0),(14,.bool (t0.fOp == 9))] ?_
 refine ic h (fun a3 h => ?_) fun a3 h => ?_
 ·refine rs hc none [oN,oN,some (.mk 2 false),oN,oN] [(6,.rs 2),(7,.bool true)] [(2,.arr (List.map K07 [t0.fType]))] tv ?_
  refine vz 2 (K0b [t0.fType]) [(6,.sl (List.map K07 [t0.fType])),(7,.bool true)] [] ?_
  refine rt ?_
  obtain rfl := os h
  exact rq [false,true]
 refine sN ?_
 obtain ⟨a4,a5,h⟩ := Qdd h
 refine Wp.into (x := .normal) (mkS [(1,sI first1),(2,I k2),(3,.ra 1 0),(21,.bool a4)] [(1,K2f t0)]) ?_ ?_
 ·replace h := a5
  rcases is h with ⟨a6,h⟩ | ⟨a6,h⟩
  ·obtain ⟨a7,a8,h⟩ := Qdd h
   refine rgs hc none [oN,oN,oN,oN,oN,some (.el (I a7)),oN,oN,oT,oN] [(1,sI first1),(2,I k2),(3,.ra 1 0),(21,.bool (a7 == 1))] (ar 2 a6 (ai (ix a8) (ar 3 a6 tv))) ?_
   obtain rfl := os h
   exact Qcz.mk
  refine rgs hc none [oN,oN,oN,oN,o_,o_,o_,o_,oF,oN] [(1,sI first1),(2,I k2),(3,.ra 1 0),(21,.bool false)] (ar 4 (neT a6) (ai a6 tv)) ?_
  obtain rfl := os h
  exact Qcz.mk
 clear a5
 refine ic h (fun a9 h => ?_) fun a9 h => ?_
 ·obtain ⟨b1,b2,b3,b4,h⟩ := bq2 h
  refine rs hc none [oN,some (.call (oI b1) [] 3),oN,some (.call (oI b3) [] 4),some (.mk 5 true),oN,oN] [(6,.rs 5),(7,.bool true)] [(5,.arr (List.map K0c [b1,b3]))] (cq (Key _ _ b2) K5n (cq (Key _ _ b4) K5n tv)) ?_
  refine vz 5 (K0g [b1,b3]) [(6,.sl (List.map K07 [b1,b3])),(7,.bool true)] [] ?_
  refine rt ?_
  obtain rfl := os h
  exact rq [false,true]
 refine sN ?_
 obtain ⟨b5,b6,h⟩ := Qdd h
 refine Wp.into (x := .normal) (mkS [(1,sI first1),(2,I k2),(3,.ra 1 0),(36,.bool b5)] [(1,K2f t0)]) ?_ ?_
 ·replace h := b6
  rcases is h with ⟨b7,h⟩ | ⟨b7,h⟩
  ·obtain ⟨b8,b9,h⟩ := Qdd h
   refine rgs hc none [oN,oN,oN,oN,oN,some (.el (I b8)),oN,oN,oT,oN] [(1,sI first1),(2,I k2),(3,.ra 1 0),(36,.bool (b8 == 2))] (ar 2 b7 (ai (ix b9) (ar 3 b7 tv))) ?_
   obtain rfl := os h
   exact Qcz.mk
  refine rgs hc none [oN,oN,oN,oN,o_,o_,o_,o_,oF,oN] [(1,sI first1),(2,I k2),(3,.ra 1 0),(36,.bool false)] (ar 4 (neT b7) (ai b7 tv)) ?_
  obtain rfl := os h
  exact Qcz.mk
 clear b6
 refine ic h (fun c0 h => ?_) fun c0 h => ?_
 ·obtain ⟨c1,c2,h⟩ := Qdd h
  refine rs hc none [oN,oN,oN,some (.call (oI c1) [] 6),some (.mk 7 true),oN,oN] [(6,.rs 7),(7,.bool true)] [(7,.arr (List.map K0c [c1]))] (cq (Key _ _ c2) K5n tv) ?_
  refine vz 7 (K0g [c1]) [(6,.sl (List.map K07 [c1])),(7,.bool true)] [] ?_
  refine rt ?_
  obtain rfl := os h
  exact rq [false,true]
 refine sN ?_
 obtain ⟨c3,c4,h⟩ := Qdd h
 refine Wp.into (x := .normal) (mkS [(1,sI first1),(51,.bool c3)] []) ?_ ?_
 ·replace h := c4
  rcases is h with ⟨c5,h⟩ | ⟨c5,h⟩
  ·obtain ⟨c6,c7,c8,c9,h⟩ := bq2 h
   refine rg hc none [oN,oN,oN,oN,oN,some (.el (I c6)),oN,oc (.bool c8),oT,oN] [(1,sI first1),(51,.bool c8)] [] (ar 2 c5 (ai (ix c7) (ar 2 c5 (cq (Kcg _ _ c9) K4r (ai c5 tv))))) ?_
   obtain rfl := os h
   exact Qcz.mk
  refine rg hc none [oN,oN,oN,oN,o_,o_,o_,o_,oF,oN] [(1,sI first1),(51,.bool false)] [] (ar 4 (neT c5) (ai c5 tv)) ?_
  obtain rfl := os h
  exact Qcz.mk
 clear c4
 refine ic h (fun d0 h => ?_) fun d0 h => ?_
 ·obtain ⟨d1,d2,h⟩ := Qdd h
  refine rs hc none [oN,some (.call (oI d1) [] 8),some (.mk 9 true),oN,oN] [(6,.rs 9),(7,.bool true)] [(9,.arr (List.map K0c [d1]))] (cq (Key _ _ d2) K5n tv) ?_
  refine vz 9 (K0g [d1]) [(6,.sl (List.map K07 [d1])),(7,.bool true)] [] ?_
  refine rt ?_
  obtain rfl := os h
  exact rq [false,true]
 refine sk ?_
 refine rs0 hc 2 [(6,.nils),(7,.bool false)] [] ?_
 refine rt ?_
 obtain rfl := os h
 exact rq [false,true]
def Kf2 (p : LL × LL) : Option (LL) :=
 match p with
 | (ctx0,front1) =>
  (Qdq (([] : LL).length + front1.length) 24) >>= fun _ =>
  (Qdq (front1.length + ctx0.length) 24) >>= fun _ =>
  some (front1 ++ ctx0)
def Kf3 (p : LL × LL) (r : LL) : Prop :=
 match p with
 | (ctx0,front1) => Q71 Tryz.prog 61 [sL ctx0,sL front1] (.osl (List.map K07 r)) []
theorem Kf4 : ∀ p r,Kf2 p = some r → Kf3 p r := by
 rintro ⟨ctx0,front1⟩ r h
 unfold Kf2 at h
 refine b0 Tryz.f61 B61 10 [(0,sL ctx0),(1,sL front1)] fun c hc => ?_
 refine rs0 hc 1 [(0,sL ctx0),(1,sL front1)] [] ?_
 obtain ⟨_,a0,_,a1,h⟩ := bq2 h
 refine rs hc none [some (.mk 1 true),oN,some (.eqv (.mk 2 true) ⟨[(7,.rs 2)],[(2,some (.arr (List.map K07 front1))),(1,none)],[2]⟩),oN,some (.eqv (.mk 3 true) ⟨[(9,.rs 3)],[(3,some (.arr (List.map K07 (front1 ++ ctx0)))),(2,none)],[3]⟩),oN] [(4,.rs 3)] [(3,.arr (List.map K07 (front1 ++ ctx0)))] (ad (congrArg (fun z => (⟨[(7,.rs 2)],[(2,some (.arr z)),(1,none)],[2]⟩ : Wr)) (List.nil_append _ : [] ++ (List.map K07 front1) = List.map K07 front1)) (Qdr (enc1 := K0c) (enc2 := K07) (e1 := []) (e2 := front1) (sz := 1) K0f K0a a0) (congrArg (fun z => (⟨[(9,.rs 3)],[(3,some (.arr z)),(2,none)],[3]⟩ : Wr)) ((List.map_append).symm : (List.map K07 front1) ++ (List.map K07 ctx0) = List.map K07 (front1 ++ ctx0))) (Qdr (enc1 := K07) (enc2 := K07) (e1 := front1) (e2 := ctx0) (sz := 1) K0a K0a a1) tv) ?_
 refine rt ?_
 obtain rfl := os h
 exact rq [true]
def Kf5 (c : Ctx) : (Unit) ⊕ (Bool) → Exit → Q0a → Prop
 | .inl _ => Qcz c (.exit 0) (mkS [] [])
 | .inr r => Qd8 TIx Tryz.f60 [] (.bool r)
def Kf6 (p : LL × LL × Int) : Option ((Unit) ⊕ (Bool)) :=
 match p with
 | (a0,b1,a1) =>
  if (decide (a1 < (a0.length : Int))) = true then
  (idx a0 a1) >>= fun a2 =>
  (idx b1 a1) >>= fun a3 =>
  (Kei (a2,a3)) >>= fun a4 =>
  if a4 = true then
  Kf6 (a0,b1,(wr (a1 + 1)))
  else
  some (.inr false)
  else
  some (.inl ())
 partial_fixpoint
def Kf7 (p : LL × LL × Int) (fl : (Unit) ⊕ (Bool)) : Prop :=
 match p with
 | (a0,b1,a1) => ∀ c : Ctx,c.nt = 27 → WpL Tryz.prog c (cl (cl (cr (cl (cr (cr B60)))))) (Kf5 c fl) (mkS [(0,sL a0),(1,sL b1),(5,I a1)] [])
theorem Kf8 : ∀ p r,Kf6 p = some r → Kf7 p r := by
 refine Kf6.partial_correctness Kf7 ?_
 rintro spec_l8Contexts_l0_f spec_l8Contexts_l0_ih ⟨a0,b1,a1⟩ r h
 intro c hc
 refine WpL.step ?_
 refine sN ?_
 refine rs hc none [oN,oN,some (.eqv (.no) ⟨[(13,I (a0.length : Int))],[],[]⟩),oN] [(0,sL a0),(1,sL b1),(5,I a1),(14,.bool (decide (a1 < (a0.length : Int))))] [] (ai (Qdj (d := 13) K07 a0) tv) ?_
 refine ic h (fun a2 h => ?_) fun a2 h => ?_
 ·refine sk ?_
  refine sN ?_
  refine bk 1 ?_
  obtain ⟨a3,a4,a5,a6,a7,a8,h⟩ := bq3 h
  refine rs hc (rx [[0],[0],[2],[3],[0],[0],[0,4,5],[0,4,5,6],[8],[9]]) [oN,oN,some (.el (sI a3)),oN,oN,oN,some (.el (sI a5)),oN,oc (.bool a7),oN] [(0,sL a0),(1,sL b1),(5,I a1),(26,.bool (!a7))] [] (ab (xL a4) (xL a6) (cq (Kek _ _ a8) K5j tv)) ?_
  rcases is h with ⟨a9,h⟩ | ⟨a9,h⟩
  ·refine cF (!a7) (nF a9) ?_
   refine sk ?_
   refine rg0 hc 3 [(0,sL a0),(1,sL b1),(5,I (wr (a1 + 1)))] [] ?_
   refine Qcv ?_
   exact (spec_l8Contexts_l0_ih _ _ h c hc)
  refine cT (!a7) (nT a9) ?_
  refine rs0 hc 1 [(4,.bool false)] [] ?_
  refine rt ?_
  obtain rfl := os h
  exact re [true]
 refine xt 0 ?_
 refine Qcp ?_
 refine Qcw ?_
 obtain rfl := os h
 exact iv []
def Kf9 (p : LL × LL) : Option (Bool) :=
 match p with
 | (a0,b1) =>
  if ((a0.length : Int) != (b1.length : Int)) = true then
  some false
  else
  (Kf6 (a0,b1,0)) >>= fun fl => match fl with
  | .inl () =>
   some true
  | .inr r =>
   some r
def Kfa (p : LL × LL) (r : Bool) : Prop :=
 match p with
 | (a0,b1) => Q71 Tryz.prog 60 [sL a0,sL b1] (.bool r) []
theorem Kfb : ∀ p r,Kf9 p = some r → Kfa p r := by
 rintro ⟨a0,b1⟩ r h
 unfold Kf9 at h
 refine b0 Tryz.f60 B60 27 [(0,sL a0),(1,sL b1)] fun c hc => ?_
 refine rs0 hc 1 [(0,sL a0),(1,sL b1)] [] ?_
 refine sN ?_
 refine rs hc none [oN,some (.eqv (.no) ⟨[(7,I (a0.length : Int))],[],[]⟩),oN,some (.eqv (.no) ⟨[(9,I (b1.length : Int))],[],[]⟩),oN] [(0,sL a0),(1,sL b1),(10,.bool ((a0.length : Int) != (b1.length : Int)))] [] (ab (Qdj (d := 7) K07 a0) (Qdj (d := 9) K07 b1) tv) ?_
 refine ic h (fun a1 h => ?_) fun a1 h => ?_
 ·refine rs0 hc 1 [(4,.bool false)] [] ?_
  refine rt ?_
  obtain rfl := os h
  exact rq [true]
 refine sk ?_
 refine sN ?_
 refine rs0 hc 1 [(0,sL a0),(1,sL b1),(5,I 0)] [] ?_
 refine bk 0 ?_
 obtain ⟨fl,a2,h⟩ := Qdd h
 have hL := Kf8 _ _ a2 c hc
 refine lp ?_
 rcases fl with ⟨⟩ | r
 ·refine WpL.into (e := (.exit 0)) (mkS [] []) hL ?_
  refine Qcr ?_
  refine rs0 hc 1 [(4,.bool true)] [] ?_
  refine rt ?_
  obtain rfl := os h
  exact rq [true]
 refine WpL.mono hL ?_
 rintro _ _ ⟨rfl,hfin⟩
 obtain rfl := os h
 exact ⟨.inl rfl,hfin⟩
def Kfc (n0 : Int) : Option ((List Int)) :=
 (chk (0 ≤ n0 ∧ (Int.toNat n0) * 8 ≤ 140737488355328)) >>= fun _ =>
 some (List.replicate (Int.toNat n0) 0)
def Kfd (n0 : Int) (r : (List Int)) : Prop :=
 Q71 Tryz.prog 92 [I n0] (oI r) []
theorem Kfe : ∀ p r,Kfc p = some r → Kfd p r := by
 rintro n0 r h
 unfold Kfc at h
 refine b0 Tryz.f92 B92 5 [(0,I n0)] fun c hc => ?_
 refine rs0 hc 1 [(0,I n0)] [] ?_
 obtain ⟨_,a0,h⟩ := Qdd h
 refine rs hc none [oN,some (.eqv (.mk 1 true) ⟨[(4,.rs 1)],[(1,some (.arr (List.map I (List.replicate (Int.toNat n0) 0))))],[1]⟩),oN] [(2,.rs 1)] [(1,.arr (List.map I (List.replicate (Int.toNat n0) 0)))] (ab (congrArg (fun z => (⟨[(4,.rs 1)],[(1,some (.arr z))],[1]⟩ : Wr)) (Qei (enc := I) (n := Int.toNat n0) (x := I 0) (Qds 0))) (And.intro (Eq.refl n0) (Qdf a0)) tv) ?_
 refine rt ?_
 obtain rfl := os h
 exact rq [true]
def Kff (fault0 : Int) : Option (K03) :=
 some (K03.mk [] [] fault0 [])
def Kfg (fault0 : Int) (r : K03) : Prop :=
 Q71 Tryz.prog 94 [I fault0] (K2v r) []
theorem Kfh : ∀ p r,Kff p = some r → Kfg p r := by
 rintro fault0 r h
 unfold Kff at h
 refine b0 Tryz.f94 B94 5 [(0,I fault0)] fun c hc => ?_
 refine rs hc none [some (.new 1)] [(0,I fault0),(2,.ra 1 0)] [(1,.box [.nils,.nils,I 0,.nils])] tv ?_
 refine rs0 hc 3 [(2,.ra 1 0)] [(1,.box [.nils,.nils,I fault0,.nils])] ?_
 refine rt ?_
 obtain rfl := os h
 exact rq [true]
def Kfi (c : Ctx) : (List Int) → Exit → Q0a → Prop
 | a0 => Qcz c (.exit 0) (mkS [(5,.rs 1)] [(1,rI a0)])
def Kfj (p : LL × (List Int) × Int) : Option ((List Int)) :=
 match p with
 | (parts1,a0,a1) =>
  if (decide (a1 < (parts1.length : Int))) = true then
  (idx parts1 a1) >>= fun a2 =>
  (Qdq (a0.length + a2.length) 8) >>= fun _ =>
  Kfj (parts1,(a0 ++ a2),(wr (a1 + 1)))
  else
  some (a0)
 partial_fixpoint
def Kfk (p : LL × (List Int) × Int) (fl : (List Int)) : Prop :=
 match p with
 | (parts1,a0,a1) => ∀ c : Ctx,c.nt = 22 → WpL Tryz.prog c (cl (cl (cr (cl (cr (cr B97)))))) (Kfi c fl) (mkS [(1,sL parts1),(5,.rs 1),(6,I a1)] [(1,rI a0)])
theorem Kfl : ∀ p r,Kfj p = some r → Kfk p r := by
 refine Kfj.partial_correctness Kfk ?_
 rintro spec_l3Glue_l0_f spec_l3Glue_l0_ih ⟨parts1,a0,a1⟩ r h
 intro c hc
 refine WpL.step ?_
 refine sN ?_
 refine rss hc none [oN,oN,some (.eqv (.no) ⟨[(11,I (parts1.length : Int))],[],[]⟩),oN] [(1,sL parts1),(5,.rs 1),(6,I a1),(12,.bool (decide (a1 < (parts1.length : Int))))] (ai (Qdj (d := 11) K07 parts1) tv) ?_
 refine ic h (fun a2 h => ?_) fun a2 h => ?_
 ·refine sk ?_
  refine sN ?_
  refine bk 1 ?_
  obtain ⟨a3,a4,_,a5,h⟩ := bq2 h
  refine rg hc none [oN,oN,oN,some (.el (sI a3)),oN,some (.eqv (.mk 3 true) ⟨[(20,.rs 3)],[(3,some (rI (a0 ++ a3))),(1,none)],[3]⟩),oN] [(1,sL parts1),(5,.rs 3),(6,I a1)] [(3,rI (a0 ++ a3))] (ac (xL a4) (congrArg (fun z => (⟨[(20,.rs 3)],[(3,some (.arr z)),(1,none)],[3]⟩ : Wr)) ((List.map_append).symm : (List.map I a0) ++ (List.map I a3) = List.map I (a0 ++ a3))) (Qdr (enc1 := I) (enc2 := I) (e1 := a0) (e2 := a3) (sz := 1) Qe0 Qe0 a5) tv) ?_
  refine K8c hc 3 [(1,sL parts1),(5,.rs 3),(6,I (wr (a1 + 1)))] ?_
  refine Qcv ?_
  exact WpL.view (fun a w hv => SRx.renL [(1,3)] hv (by kernel_rfl) (by kernel_rfl) (by kernel_rfl)) (spec_l3Glue_l0_ih _ _ h c hc)
 refine xt 0 ?_
 refine Qcp ?_
 refine Qcw ?_
 obtain rfl := os h
 exact iv []
def Kfm (p : Int × LL) : Option ((List Int)) :=
 match p with
 | (c0,parts1) =>
  (Kfj (parts1,[c0],0)) >>= fun a0 =>
  some a0
def Kfn (p : Int × LL) (r : (List Int)) : Prop :=
 match p with
 | (c0,parts1) => Q71 Tryz.prog 97 [I c0,sL parts1] (oI r) []
theorem Kfo : ∀ p r,Kfm p = some r → Kfn p r := by
 rintro ⟨c0,parts1⟩ r h
 unfold Kfm at h
 refine b0 Tryz.f97 B97 22 [(0,I c0),(1,sL parts1)] fun c hc => ?_
 refine rs0 hc 1 [(0,I c0),(1,sL parts1)] [] ?_
 refine rs hc none [oN,some (.mk 1 true),oN] [(1,sL parts1),(5,.rs 1)] [(1,.arr (List.map I [c0]))] tv ?_
 refine sN ?_
 refine K8d hc 1 [(1,sL parts1),(5,.rs 1),(6,I 0)] ?_
 refine bk 0 ?_
 obtain ⟨a0,a1,h⟩ := Qdd h
 have hL := Kfl _ _ a1 c hc
 refine lp ?_
 refine WpL.into (e := (.exit 0)) (mkS [(5,.rs 1)] [(1,rI a0)]) hL ?_
 refine Qcr ?_
 refine K8d hc 2 [(4,.rs 1)] ?_
 refine rt ?_
 obtain rfl := os h
 exact rq [true]
def Kfp (c : Ctx) : (List Int) → Exit → Q0a → Prop
 | a0 => Qcz c (.exit 0) (mkS [(9,.rs 2)] [(2,rI a0)])
def Kfq (p : K00 × (List Int) × Int × (List Int) × (List Int) × Int) : Option ((List Int)) :=
 match p with
 | (s0,a1,g2,b3,a0,a2) =>
  if (decide (a2 < (a1.length : Int))) = true then
  (idx a1 a2) >>= fun a3 =>
  (idx b3 a2) >>= fun a4 =>
  (Kb3 (s0,g2,a4)) >>= fun a5 =>
  (Kb0 (s0,a3,a5)) >>= fun a6 =>
  (Qdq (a0.length + [a6].length) 8) >>= fun _ =>
  Kfq (s0,a1,g2,b3,(a0 ++ [a6]),(wr (a2 + 1)))
  else
  some (a0)
 partial_fixpoint
def Kfr (p : K00 × (List Int) × Int × (List Int) × (List Int) × Int) (fl : (List Int)) : Prop :=
 match p with
 | (s0,a1,g2,b3,a0,a2) => ∀ c : Ctx,c.nt = 35 → WpL Tryz.prog c (cl (cl (cr (cl (cr (cr B98)))))) (Kfp c fl) (mkS [(1,sI a1),(2,I g2),(3,sI b3),(4,.ra 1 0),(9,.rs 2),(10,I a2)] [(1,K2d s0),(2,rI a0)])
theorem Kfs : ∀ p r,Kfq p = some r → Kfr p r := by
 refine Kfq.partial_correctness Kfr ?_
 rintro spec_l3Sum_l0_f spec_l3Sum_l0_ih ⟨s0,a1,g2,b3,a0,a2⟩ r h
 intro c hc
 refine WpL.step ?_
 refine sN ?_
 refine rss hc none [oN,oN,some (.eqv (.no) ⟨[(14,I (a1.length : Int))],[],[]⟩),oN] [(1,sI a1),(2,I g2),(3,sI b3),(4,.ra 1 0),(9,.rs 2),(10,I a2),(15,.bool (decide (a2 < (a1.length : Int))))] (ai (Qdj (d := 14) I a1) tv) ?_
 refine ic h (fun a3 h => ?_) fun a3 h => ?_
 ·refine sk ?_
  refine sN ?_
  refine bk 1 ?_
  obtain ⟨a4,a5,a6,a7,a8,a9,b1,b2,h⟩ := bq4 h
  obtain ⟨_,b4,h⟩ := Qdd h
  refine rg hc (rx [[0],[0],[0],[0],[0,2,3],[0,2,3,4],[0],[0],[0],[0],[0,8,9],[0,8,9,10],[0,6,7,8,9,10,11],[0,1,2,3,4,5,6,7,8,9,10,11,12],[0,1,2,3,4,5,6,7,8,9,10,11,12,13],[15],[16]]) [oN,oN,oN,oN,some (.el (I a4)),oN,oN,oN,oN,oN,some (.el (I a6)),oN,oc (I a8),oc (I b1),some (.mk 5 true),some (.eqv (.mk 6 true) ⟨[(33,.rs 6)],[(6,some (rI (a0 ++ [b1]))),(2,none),(5,none)],[6]⟩),oN] [(1,sI a1),(2,I g2),(3,sI b3),(4,.ra 1 0),(9,.rs 6),(10,I a2)] [(1,K2d s0),(6,rI (a0 ++ [b1]))] (ab (ix a5) (ix a7) (cq (Kb5 _ _ a9) K4d (cq (Kb2 _ _ b2) K4b (ab (congrArg (fun z => (⟨[(33,.rs 6)],[(6,some (.arr z)),(2,none),(5,none)],[6]⟩ : Wr)) ((List.map_append).symm : (List.map I a0) ++ (List.map I [b1]) = List.map I (a0 ++ [b1]))) (Qdr (enc1 := I) (enc2 := I) (e1 := a0) (e2 := [b1]) (sz := 1) Qe0 Qe0 b4) tv)))) ?_
  refine K8c hc 3 [(1,sI a1),(2,I g2),(3,sI b3),(4,.ra 1 0),(9,.rs 6),(10,I (wr (a2 + 1)))] ?_
  refine Qcv ?_
  exact WpL.view (fun a w hv => SRx.renL [(2,6)] hv (by kernel_rfl) (by kernel_rfl) (by kernel_rfl)) (spec_l3Sum_l0_ih _ _ h c hc)
 refine xt 0 ?_
 refine Qcp ?_
 refine Qcw ?_
 obtain rfl := os h
 exact iv []
def Kft (p : K00 × (List Int) × Int × (List Int)) : Option ((List Int)) :=
 match p with
 | (s0,a1,g2,b3) =>
  (Kfq (s0,a1,g2,b3,[],0)) >>= fun a0 =>
  some a0
def Kfu (p : K00 × (List Int) × Int × (List Int)) (r : (List Int)) : Prop :=
 match p with
 | (s0,a1,g2,b3) => Q71 Tryz.prog 98 [K2e s0,sI a1,I g2,sI b3] (oI r) []
theorem Kfv : ∀ p r,Kft p = some r → Kfu p r := by
 rintro ⟨s0,a1,g2,b3⟩ r h
 unfold Kft at h
 refine b0 Tryz.f98 B98 35 [(0,K2e s0),(1,sI a1),(2,I g2),(3,sI b3)] fun c hc => ?_
 refine rs hc none [some (.new 1),oN] [(1,sI a1),(2,I g2),(3,sI b3),(4,.ra 1 0)] [(1,K2d s0)] tv ?_
 refine rs hc none [some (.mk 2 true),oN] [(1,sI a1),(2,I g2),(3,sI b3),(4,.ra 1 0),(9,.rs 2)] [(1,K2d s0),(2,.arr (List.map I []))] tv ?_
 refine sN ?_
 refine K8d hc 1 [(1,sI a1),(2,I g2),(3,sI b3),(4,.ra 1 0),(9,.rs 2),(10,I 0)] ?_
 refine bk 0 ?_
 obtain ⟨a0,a2,h⟩ := Qdd h
 have hL := Kfs _ _ a2 c hc
 refine lp ?_
 refine WpL.into (e := (.exit 0)) (mkS [(9,.rs 2)] [(2,rI a0)]) hL ?_
 refine Qcr ?_
 refine K8d hc 2 [(8,.rs 2)] ?_
 refine rt ?_
 obtain rfl := os h
 exact rq [true]
def Kfw (p : (List Int) × (List Int)) : Option (K03) :=
 match p with
 | (ty0,needs1) =>
  if (decide ((ty0.length : Int) > 40)) = true then
  (Kff 3) >>= fun a0 =>
  some a0
  else
  some (K03.mk ty0 needs1 0 [])
def Kfx (p : (List Int) × (List Int)) (r : K03) : Prop :=
 match p with
 | (ty0,needs1) => Q71 Tryz.prog 96 [sI ty0,sI needs1] (K2k r) []
theorem Kfy : ∀ p r,Kfw p = some r → Kfx p r := by
 rintro ⟨ty0,needs1⟩ r h
 unfold Kfw at h
 refine b0 Tryz.f96 B96 12 [(0,sI ty0),(1,sI needs1)] fun c hc => ?_
 refine rs hc none [some (.new 1)] [(0,sI ty0),(1,sI needs1),(4,.ra 1 0)] [(1,.box [.nils,.nils,I 0,.nils])] tv ?_
 refine sN ?_
 refine rss hc none [oN,some (.eqv (.no) ⟨[(6,I (ty0.length : Int))],[],[]⟩),oN] [(0,sI ty0),(1,sI needs1),(4,.ra 1 0),(7,.bool (decide ((ty0.length : Int) > 40)))] (ai (Qdj (d := 6) I ty0) tv) ?_
 refine ic h (fun a0 h => ?_) fun a0 h => ?_
 ·obtain ⟨a1,a2,h⟩ := Qdd h
  refine rs hc none [some (.call (K2v a1) [] 2),oN] [(4,.ra 1 0)] [(1,.box [.rs 2,.rs 3,I a1.ffault,.rs 4]),(2,rI a1.fty),(3,rI a1.fneeds),(4,rI a1.fpath)] (cq (Kfh _ _ a2) K5t tv) ?_
  refine vz 2 (Qe5 a1.fty) [(4,.ra 1 0)] [(1,.box [sI a1.fty,.rs 3,I a1.ffault,.rs 4]),(3,rI a1.fneeds),(4,rI a1.fpath)] ?_
  refine vz 3 (Qe5 a1.fneeds) [(4,.ra 1 0)] [(1,.box [sI a1.fty,sI a1.fneeds,I a1.ffault,.rs 4]),(4,rI a1.fpath)] ?_
  refine vz 4 (Qe5 a1.fpath) [(4,.ra 1 0)] [(1,K2j a1)] ?_
  refine rt ?_
  obtain rfl := os h
  exact rq [false]
 refine sk ?_
 refine rs0 hc 4 [(4,.ra 1 0)] [(1,.box [sI ty0,sI needs1,I 0,.nils])] ?_
 refine rt ?_
 obtain rfl := os h
 exact rq [false]
def Kfz (c : Ctx) : (List Int) → Exit → Q0a → Prop
 | a0 => Qcz c (.exit 0) (mkS [(7,.rs 2)] [(2,rI a0)])
def Kg0 (p : K00 × (List Int) × (List Int) × (List Int) × Int) : Option ((List Int)) :=
 match p with
 | (s0,a1,b2,a0,a2) =>
  if (decide (a2 < (a1.length : Int))) = true then
  (idx a1 a2) >>= fun a3 =>
  (idx b2 a2) >>= fun a4 =>
  (Kbk (s0,a3,a4)) >>= fun a5 =>
  (Qdq (a0.length + [a5].length) 8) >>= fun _ =>
  Kg0 (s0,a1,b2,(a0 ++ [a5]),(wr (a2 + 1)))
  else
  some (a0)
 partial_fixpoint
def Kg1 (p : K00 × (List Int) × (List Int) × (List Int) × Int) (fl : (List Int)) : Prop :=
 match p with
 | (s0,a1,b2,a0,a2) => ∀ c : Ctx,c.nt = 30 → WpL Tryz.prog c (cl (cl (cr (cl (cr (cr K61)))))) (Kfz c fl) (mkS [(1,sI a1),(2,sI b2),(3,.ra 1 0),(7,.rs 2),(8,I a2)] [(1,K2d s0),(2,rI a0)])
theorem Kg2 : ∀ p r,Kg0 p = some r → Kg1 p r := by
 refine Kg0.partial_correctness Kg1 ?_
 rintro spec_l3Join_l0_f spec_l3Join_l0_ih ⟨s0,a1,b2,a0,a2⟩ r h
 intro c hc
 refine WpL.step ?_
 refine sN ?_
 refine rss hc none [oN,oN,some (.eqv (.no) ⟨[(12,I (a1.length : Int))],[],[]⟩),oN] [(1,sI a1),(2,sI b2),(3,.ra 1 0),(7,.rs 2),(8,I a2),(13,.bool (decide (a2 < (a1.length : Int))))] (ai (Qdj (d := 12) I a1) tv) ?_
 refine ic h (fun a3 h => ?_) fun a3 h => ?_
 ·refine sk ?_
  refine sN ?_
  refine bk 1 ?_
  obtain ⟨a4,a5,a6,a7,a8,a9,_,b1,h⟩ := bq4 h
  refine rg hc (rx [[0],[0],[0],[0],[0,2,3],[0,2,3,4],[0],[0],[0,6,7],[0,6,7,8],[0,1,2,3,4,5,6,7,8,9],[0,1,2,3,4,5,6,7,8,9,10],[12],[13]]) [oN,oN,oN,oN,some (.el (I a4)),oN,oN,oN,some (.el (I a6)),oN,oc (I a8),some (.mk 5 true),some (.eqv (.mk 6 true) ⟨[(28,.rs 6)],[(6,some (rI (a0 ++ [a8]))),(2,none),(5,none)],[6]⟩),oN] [(1,sI a1),(2,sI b2),(3,.ra 1 0),(7,.rs 6),(8,I a2)] [(1,K2d s0),(6,rI (a0 ++ [a8]))] (ab (ix a5) (ix a7) (cq (Kbm _ _ a9) K4i (ab (congrArg (fun z => (⟨[(28,.rs 6)],[(6,some (.arr z)),(2,none),(5,none)],[6]⟩ : Wr)) ((List.map_append).symm : (List.map I a0) ++ (List.map I [a8]) = List.map I (a0 ++ [a8]))) (Qdr (enc1 := I) (enc2 := I) (e1 := a0) (e2 := [a8]) (sz := 1) Qe0 Qe0 b1) tv))) ?_
  refine K8c hc 3 [(1,sI a1),(2,sI b2),(3,.ra 1 0),(7,.rs 6),(8,I (wr (a2 + 1)))] ?_
  refine Qcv ?_
  exact WpL.view (fun a w hv => SRx.renL [(2,6)] hv (by kernel_rfl) (by kernel_rfl) (by kernel_rfl)) (spec_l3Join_l0_ih _ _ h c hc)
 refine xt 0 ?_
 refine Qcp ?_
 refine Qcw ?_
 obtain rfl := os h
 exact iv []
def Kg3 (p : K00 × (List Int) × (List Int)) : Option ((List Int)) :=
 match p with
 | (s0,a1,b2) =>
  (Kg0 (s0,a1,b2,[],0)) >>= fun a0 =>
  some a0
def Kg4 (p : K00 × (List Int) × (List Int)) (r : (List Int)) : Prop :=
 match p with
 | (s0,a1,b2) => Q71 Tryz.prog 111 [K2e s0,sI a1,sI b2] (oI r) []
theorem Kg5 : ∀ p r,Kg3 p = some r → Kg4 p r := by
 rintro ⟨s0,a1,b2⟩ r h
 unfold Kg3 at h
 refine b0 Tryz.f111 K61 30 [(0,K2e s0),(1,sI a1),(2,sI b2)] fun c hc => ?_
 refine rs hc none [some (.new 1),oN] [(1,sI a1),(2,sI b2),(3,.ra 1 0)] [(1,K2d s0)] tv ?_
 refine rs hc none [some (.mk 2 true),oN] [(1,sI a1),(2,sI b2),(3,.ra 1 0),(7,.rs 2)] [(1,K2d s0),(2,.arr (List.map I []))] tv ?_
 refine sN ?_
 refine K8d hc 1 [(1,sI a1),(2,sI b2),(3,.ra 1 0),(7,.rs 2),(8,I 0)] ?_
 refine bk 0 ?_
 obtain ⟨a0,a2,h⟩ := Qdd h
 have hL := Kg2 _ _ a2 c hc
 refine lp ?_
 refine WpL.into (e := (.exit 0)) (mkS [(7,.rs 2)] [(2,rI a0)]) hL ?_
 refine Qcr ?_
 refine K8d hc 2 [(6,.rs 2)] ?_
 refine rt ?_
 obtain rfl := os h
 exact rq [true]
def Kg6 (c : Ctx) (s0 : K00) (ctx1 : LL) (t2 : K01) (a3 : K03) (a0 : K03) : ((List Int) × Bool) ⊕ (K03) → Exit → Q0a → Prop
 | .inl (a1,a2) => Qcz c .normal (mkS [(1,sL ctx1),(4,.ra 1 0),(6,.ra 2 0),(7,.ra 3 0),(8,.ra 4 0),(11,.ra 21 0),(13,I t2.fN),(14,.rs 27),(15,.bool a2)] [(1,K2d s0),(2,K2f t2),(3,K2j a3),(4,.box [.nils,.nils,I 0,.nils]),(21,K2j a0),(27,rI a1)])
 | .inr r => Qd8 TIx Tryz.f103 [] (K2k r)
def Kg7 (c : Ctx) (s0 : K00) (ctx1 : LL) (t2 : K01) (a3 : K03) (a0 : K03) : ((List Int) × Bool) ⊕ (K03) → Exit → Q0a → Prop
 | .inl (a1,a2) => Qcz c .normal (mkS [(1,sL ctx1),(4,.ra 1 0),(6,.ra 2 0),(7,.ra 3 0),(8,.ra 4 0),(11,.ra 21 0),(13,I t2.fN),(14,.rs 22),(15,.bool a2)] [(1,K2d s0),(2,K2f t2),(3,K2j a3),(4,.box [.nils,.nils,I 0,.nils]),(21,K2j a0),(22,rI a1)])
 | .inr r => Qd8 TIx Tryz.f103 [] (K2k r)
def Kg8 (c : Ctx) (s0 : K00) (ctx1 : LL) (t2 : K01) (a3 : K03) (a0 : K03) : (Int × (List Int) × Bool) ⊕ (K03) → Exit → Q0a → Prop
 | .inl (a1,a2,a4) => Qcz c .normal (mkS [(1,sL ctx1),(4,.ra 1 0),(6,.ra 2 0),(7,.ra 3 0),(8,.ra 4 0),(11,.ra 21 0),(13,I a1),(14,.rs 22),(15,.bool a4)] [(1,K2d s0),(2,K2f t2),(3,K2j a3),(4,.box [.nils,.nils,I 0,.nils]),(21,K2j a0),(22,rI a2)])
 | .inr r => Qd8 TIx Tryz.f103 [] (K2k r)
end Go.Am
