/- Functions of the program as pure functions,and that it computes them. Printed by a program of mine (gen.py). -/
import Derived.Test.YtckgdfakjjdodaaGreatGDEFF2
set_option linter.unusedVariables false
set_option linter.unusedSimpArgs false
set_option maxRecDepth 100000
namespace Go.Am
open Go Go.Proofs
def Kcz : Option (List (List Nat)) := rx [[0],[0],[0],[0],[0,1,2,3],[0],[6],[0],[0],[0],[0],[0],[7,9,10,11],[13],[14],[15],[16],[16],[16],[16],[16,17,18,19],[16],[22],[16],[16],[16],[16],[16],[23,25,26,27],[29],[30],[31]]
def Kd0 : Option (List (List Nat)) := rx [[0],[0],[0],[0],[0],[0,2,3,4],[6],[0],[0],[0],[0],[7,8,9,10],[0],[0],[0],[7,8,9,10,11,12,13,14],[16],[17],[18],[19],[19],[19],[19],[19,20,21,22],[19],[25],[19],[19],[19],[19],[26,27,28,29],[19],[19],[19],[26,27,28,29,30,31,32,33],[35],[36],[37]]
def Kd1 : Option (List (List Nat)) := rx [[0],[0],[0],[3],[4],[5],[6],[6],[6],[6],[6,7,8,9],[6],[6],[6],[6,7,8,9,10,11,12,13],[15],[16],[17],[17],[17],[17],[17,18,19,20],[17],[17],[17],[17,18,19,20,21,22,23,24],[26],[27],[28],[29],[29],[29],[29],[29,30,31,32],[29],[29],[29],[29,30,31,32,33,34,35,36],[38],[39],[40],[41]]
def Kd2 : Option (List (List Nat)) := rx [[0],[0],[0,1],[0],[0,1,2,3],[0,1,2,3,4],[6],[7],[8],[9],[9],[9,10],[9],[9,10,11,12],[9,10,11,12,13],[15],[16],[17]]
def Kd3 (p : K00 × Int × Int) : Option (Int) :=
 match p with
 | (s0,a1,b2) =>
  (idx s0.fTimes (wr ((wr (a1 * s0.fSize)) + b2))) >>= fun a0 =>
  some a0
def Kd4 (p : K00 × Int × Int) (r : Int) : Prop :=
 match p with
 | (s0,a1,b2) => Q71 Tryz.prog 161 [K1t s0,I a1,I b2] (I r) []
theorem Kd5 : ∀ p r,Kd3 p = some r → Kd4 p r := by
 rintro ⟨s0,a1,b2⟩ r h
 unfold Kd3 at h
 refine b0 Tryz.f161 K4t 17 [(0,K1t s0),(1,I a1),(2,I b2)] fun c hc => ?_
 refine rs hc none [some (.new 1),oN] [(1,I a1),(2,I b2),(3,.ra 1 0)] [(1,K1s s0)] tv ?_
 obtain ⟨a0,a2,h⟩ := Qdd h
 refine rs hc none [oN,oN,oN,oN,oN,oN,oN,oN,some (.el (I a0)),oN,oN] [(6,I a0)] [] (ai (ix a2) tv) ?_
 refine rt ?_
 obtain rfl := os h
 exact rq [true]
def Kd6 (p : K00 × Int × Int) : Option (Bool) :=
 match p with
 | (s0,a1,b2) =>
  (idx s0.fBelow (wr ((wr (a1 * s0.fSize)) + b2))) >>= fun a0 =>
  some a0
def Kd7 (p : K00 × Int × Int) (r : Bool) : Prop :=
 match p with
 | (s0,a1,b2) => Q71 Tryz.prog 89 [K1t s0,I a1,I b2] (.bool r) []
theorem Kd8 : ∀ p r,Kd6 p = some r → Kd7 p r := by
 rintro ⟨s0,a1,b2⟩ r h
 unfold Kd6 at h
 refine b0 Tryz.f89 B89 17 [(0,K1t s0),(1,I a1),(2,I b2)] fun c hc => ?_
 refine rs hc none [some (.new 1),oN] [(1,I a1),(2,I b2),(3,.ra 1 0)] [(1,K1s s0)] tv ?_
 obtain ⟨a0,a2,h⟩ := Qdd h
 refine rs hc none [oN,oN,oN,oN,oN,oN,oN,oN,some (.el (.bool a0)),oN,oN] [(6,.bool a0)] [] (ai (Qdh (enc := AV.bool) (x := .bool a0) a2 (Qdu a0)) tv) ?_
 refine rt ?_
 obtain rfl := os h
 exact rq [true]
def Kd9 (c : Ctx) (s0 : K00) (a1 : Int) (b2 : Int) (a0 : Int) : Bool → Exit → Q0a → Prop
 | a2 => Qcz c (.exit 2) (mkS [(1,I a1),(2,I b2),(3,.ra 1 0),(7,I a0),(8,.bool a2)] [(1,K1s s0)])
def Kda (p : K00 × Int × Int × Int × Bool × Int) : Option (Bool) :=
 match p with
 | (s0,a1,b2,a0,a2,a3) =>
  if (decide (a3 < s0.fSize)) = true then
  ((
  if a2 = true then
  (Kd6 (s0,a1,a3)) >>= fun a4 =>
  if a4 = true then
  (Kd6 (s0,b2,a3)) >>= fun a5 =>
  if a5 = true then
  (Kd6 (s0,a0,a3)) >>= fun a6 =>
  some (a6)
  else
  some (true)
  else
  some (true)
  else
  some (false)
  ) : Option (Bool)) >>= fun a7 =>
  Kda (s0,a1,b2,a0,a7,(wr (a3 + 1)))
  else
  some (a2)
 partial_fixpoint
def Kdb (p : K00 × Int × Int × Int × Bool × Int) (fl : Bool) : Prop :=
 match p with
 | (s0,a1,b2,a0,a2,a3) => ∀ c : Ctx,c.nt = 57 → WpL Tryz.prog c (cl (cl (cr (cl (cr (cr (cl (cl (cr (cl (cl (cr (cl (cr K4w)))))))))))))) (Kd9 c s0 a1 b2 a0 fl) (mkS [(1,I a1),(2,I b2),(3,.ra 1 0),(7,I a0),(8,.bool a2),(9,I a3)] [(1,K1s s0)])
theorem Kdc : ∀ p r,Kda p = some r → Kdb p r := by
 refine Kda.partial_correctness Kdb ?_
 rintro impl_Systemjoin_l0_f impl_Systemjoin_l0_ih ⟨s0,a1,b2,a0,a2,a3⟩ r h
 intro c hc
 refine WpL.step ?_
 refine sN ?_
 refine K7k hc 4 [(1,I a1),(2,I b2),(3,.ra 1 0),(7,I a0),(8,.bool a2),(9,I a3),(31,.bool (decide (a3 < s0.fSize)))] ?_
 refine ic h (fun a4 h => ?_) fun a4 h => ?_
 ·refine sk ?_
  refine sN ?_
  refine bk 3 ?_
  obtain ⟨a5,a6,h⟩ := Qdd h
  refine Wp.into (x := .normal) (mkS [(1,I a1),(2,I b2),(3,.ra 1 0),(7,I a0),(8,.bool a5),(9,I a3)] [(1,K1s s0)]) ?_ ?_
  ·replace h := a6
   rcases is h with ⟨a7,h⟩ | ⟨a7,h⟩
   ·obtain ⟨a8,a9,h⟩ := Qdd h
    rcases is h with ⟨b1,h⟩ | ⟨b1,h⟩
    ·obtain ⟨b3,b4,h⟩ := Qdd h
     rcases is h with ⟨b5,h⟩ | ⟨b5,h⟩
     ·obtain ⟨b6,b7,h⟩ := Qdd h
      refine rgs hc none [oN,oN,oN,oN,oN,oc (.bool a8),oN,oN,oN,oN,oN,oc (.bool b3),oN,oF,oN,oN,oN,oN,oc (.bool b6),oF,oT,oN] [(1,I a1),(2,I b2),(3,.ra 1 0),(7,I a0),(8,.bool b6),(9,I a3)] (ar 4 a7 (cq (Kd8 _ _ a9) K4v (ar 2 a7 (ar 4 (nF b1) (cq (Kd8 _ _ b4) K4v (ad (nF b1) a7 (nF b1) a7 (ar 4 (nF b5) (cq (Kd8 _ _ b7) K4v (ac a7 (nF b5) a7 tv))))))))) ?_
      obtain rfl := os h
      exact Qcz.mk
     refine rgs hc none [oN,oN,oN,oN,oN,oc (.bool a8),oN,oN,oN,oN,oN,oc (.bool b3),oN,oF,oN,o_,o_,o_,o_,oT,oT,oN] [(1,I a1),(2,I b2),(3,.ra 1 0),(7,I a0),(8,.bool true),(9,I a3)] (ar 4 a7 (cq (Kd8 _ _ a9) K4v (ar 2 a7 (ar 4 (nF b1) (cq (Kd8 _ _ b4) K4v (ad (nF b1) a7 (nF b1) a7 (ar 4 (neF (nT b5)) (ac a7 (nT b5) a7 tv)))))))) ?_
     obtain rfl := os h
     exact Qcz.mk
    refine rgs hc none [oN,oN,oN,oN,oN,oc (.bool a8),oN,oN,o_,o_,o_,o_,o_,oT,oN,o_,o_,o_,o_,oT,oT,oN] [(1,I a1),(2,I b2),(3,.ra 1 0),(7,I a0),(8,.bool true),(9,I a3)] (ar 4 a7 (cq (Kd8 _ _ a9) K4v (ar 2 a7 (ar 5 (neF (nT b1)) (ac a7 (nT b1) a7 (ar 4 nf (ac a7 tt a7 tv))))))) ?_
    obtain rfl := os h
    exact Qcz.mk
   refine rgs hc none [oN,oN,o_,o_,o_,o_,o_,o_,o_,o_,o_,o_,o_,o_,o_,o_,o_,o_,o_,o_,oF,oN] [(1,I a1),(2,I b2),(3,.ra 1 0),(7,I a0),(8,.bool false),(9,I a3)] (ar 9 (neT a7) (ai a7 tv)) ?_
   obtain rfl := os h
   exact Qcz.mk
  clear a6
  refine K7j hc 3 [(1,I a1),(2,I b2),(3,.ra 1 0),(7,I a0),(8,.bool a5),(9,I (wr (a3 + 1)))] ?_
  refine Qcv ?_
  exact (impl_Systemjoin_l0_ih _ _ h c hc)
 refine xt 2 ?_
 refine Qcp ?_
 refine Qcw ?_
 obtain rfl := os h
 exact iv []
def Kdd (c : Ctx) (s0 : K00) (a1 : Int) (b2 : Int) (a0 : Int) : (Unit) ⊕ (Int) → Exit → Q0a → Prop
 | .inl _ => Qcz c .normal (mkS [(1,I a1),(2,I b2),(3,.ra 1 0),(7,I a0)] [(1,K1s s0)])
 | .inr r => Qd8 TIx Tryz.f149 [] (I r)
def Kde (c : Ctx) : (Unit) ⊕ (Int) → Exit → Q0a → Prop
 | .inl _ => Qcz c (.exit 0) (mkS [] [])
 | .inr r => Qd8 TIx Tryz.f149 [] (I r)
def Kdf (p : K00 × Int × Int × Int) : Option ((Unit) ⊕ (Int)) :=
 match p with
 | (s0,a1,b2,a0) =>
  if (decide (a0 < s0.fSize)) = true then
  ((
   ((
   (Kd6 (s0,a1,a0)) >>= fun a2 =>
   if a2 = true then
   (Kd6 (s0,b2,a0)) >>= fun a3 =>
   some ((!a3))
   else
   some (true)
   ) : Option (Bool)) >>= fun a4 =>
   if a4 = true then
   some (.inl ())
   else
   (Kda (s0,a1,b2,a0,true,0)) >>= fun a5 =>
   if a5 = true then
   some (.inr a0)
   else
   some (.inl ())) : Option ((Unit) ⊕ (Int))) >>= fun fl => match fl with
  | .inl () =>
   Kdf (s0,a1,b2,(wr (a0 + 1)))
  | .inr r =>
   some (.inr r)
  else
  some (.inl ())
 partial_fixpoint
def Kdg (p : K00 × Int × Int × Int) (fl : (Unit) ⊕ (Int)) : Prop :=
 match p with
 | (s0,a1,b2,a0) => ∀ c : Ctx,c.nt = 57 → WpL Tryz.prog c (cl (cl (cr (cl (cr K4w))))) (Kde c fl) (mkS [(1,I a1),(2,I b2),(3,.ra 1 0),(7,I a0)] [(1,K1s s0)])
theorem Kdh : ∀ p r,Kdf p = some r → Kdg p r := by
 refine Kdf.partial_correctness Kdg ?_
 rintro impl_Systemjoin_l1_f impl_Systemjoin_l1_ih ⟨s0,a1,b2,a0⟩ r h
 intro c hc
 refine WpL.step ?_
 refine sN ?_
 refine K7k hc 4 [(1,I a1),(2,I b2),(3,.ra 1 0),(7,I a0),(13,.bool (decide (a0 < s0.fSize)))] ?_
 refine ic h (fun a2 h => ?_) fun a2 h => ?_
 ·refine sk ?_
  refine sN ?_
  obtain ⟨fl,a3,h⟩ := Qdd h
  refine flw (Kdd c s0 a1 b2 a0 fl) ?_ (fun hF => ?_)
  ·replace h := a3
   refine bk 1 ?_
   refine sN ?_
   refine sN ?_
   obtain ⟨a4,a5,h⟩ := Qdd h
   refine Wp.into (x := .normal) (mkS [(1,I a1),(2,I b2),(3,.ra 1 0),(7,I a0),(27,.bool a4)] [(1,K1s s0)]) ?_ ?_
   ·replace h := a5
    obtain ⟨a6,a7,h⟩ := Qdd h
    rcases is h with ⟨a8,h⟩ | ⟨a8,h⟩
    ·obtain ⟨a9,b1,h⟩ := Qdd h
     refine rgs hc none [oN,oN,oN,oc (.bool a6),oN,oN,oN,oN,oN,oc (.bool a9),oN,oF] [(1,I a1),(2,I b2),(3,.ra 1 0),(7,I a0),(27,.bool (!a9))] (cq (Kd8 _ _ a7) K4v (ar 4 (nF a8) (cq (Kd8 _ _ b1) K4v (ar 2 (nF a8) tv)))) ?_
     obtain rfl := os h
     exact Qcz.mk
    refine rgs hc none [oN,oN,oN,oc (.bool a6),oN,oN,o_,o_,o_,o_,o_,oT] [(1,I a1),(2,I b2),(3,.ra 1 0),(7,I a0),(27,.bool true)] (cq (Kd8 _ _ a7) K4v (ar 5 (neF (nT a8)) (ai (nT a8) tv))) ?_
    obtain rfl := os h
    exact Qcz.mk
   clear a5
   refine ic h (fun b3 h => ?_) fun b3 h => ?_
   ·refine xt 1 ?_
    refine Qcp ?_
    refine Qcr ?_
    obtain rfl := os h
    exact iv []
   refine sk ?_
   refine K7k hc 1 [(1,I a1),(2,I b2),(3,.ra 1 0),(7,I a0),(8,.bool true)] ?_
   refine sN ?_
   refine K7k hc 1 [(1,I a1),(2,I b2),(3,.ra 1 0),(7,I a0),(8,.bool true),(9,I 0)] ?_
   refine bk 2 ?_
   obtain ⟨b4,b5,h⟩ := Qdd h
   have hL := Kdc _ _ b5 c hc
   refine lp ?_
   refine WpL.into (e := (.exit 2)) (mkS [(1,I a1),(2,I b2),(3,.ra 1 0),(7,I a0),(8,.bool b4)] [(1,K1s s0)]) hL ?_
   refine Qcr ?_
   refine K7k hc 1 [(1,I a1),(2,I b2),(3,.ra 1 0),(7,I a0),(55,.bool b4)] ?_
   refine ic h (fun b6 h => ?_) fun b6 h => ?_
   ·refine rs0 hc 2 [(6,I a0)] [] ?_
    refine rt ?_
    obtain rfl := os h
    exact re [true]
   refine sk ?_
   obtain rfl := os h
   exact iv []
  rcases fl with ⟨⟩ | r
  ·refine Wp.into (x := .normal) (mkS [(1,I a1),(2,I b2),(3,.ra 1 0),(7,I a0)] [(1,K1s s0)]) hF ?_
   refine K7j hc 3 [(1,I a1),(2,I b2),(3,.ra 1 0),(7,I (wr (a0 + 1)))] ?_
   refine Qcv ?_
   exact (impl_Systemjoin_l1_ih _ _ h c hc)
  refine Wp.mono hF ?_
  rintro _ _ ⟨rfl,hfin⟩
  obtain rfl := os h
  exact ⟨rfl,hfin⟩
 refine xt 0 ?_
 refine Qcp ?_
 refine Qcw ?_
 obtain rfl := os h
 exact iv []
def Kdi (p : K00 × Int × Int) : Option (Int) :=
 match p with
 | (s0,a1,b2) =>
  (Kdf (s0,a1,b2,0)) >>= fun fl => match fl with
  | .inl () =>
   some (-1)
  | .inr r =>
   some r
def Kdj (p : K00 × Int × Int) (r : Int) : Prop :=
 match p with
 | (s0,a1,b2) => Q71 Tryz.prog 149 [K1t s0,I a1,I b2] (I r) []
theorem Kdk : ∀ p r,Kdi p = some r → Kdj p r := by
 rintro ⟨s0,a1,b2⟩ r h
 unfold Kdi at h
 refine b0 Tryz.f149 K4w 57 [(0,K1t s0),(1,I a1),(2,I b2)] fun c hc => ?_
 refine rs hc none [some (.new 1),oN] [(1,I a1),(2,I b2),(3,.ra 1 0)] [(1,K1s s0)] tv ?_
 refine sN ?_
 refine K7k hc 1 [(1,I a1),(2,I b2),(3,.ra 1 0),(7,I 0)] ?_
 refine bk 0 ?_
 obtain ⟨fl,a0,h⟩ := Qdd h
 have hL := Kdh _ _ a0 c hc
 refine lp ?_
 rcases fl with ⟨⟩ | r
 ·refine WpL.into (e := (.exit 0)) (mkS [] []) hL ?_
  refine Qcr ?_
  refine rs0 hc 1 [(6,I (-1))] [] ?_
  refine rt ?_
  obtain rfl := os h
  exact rq [true]
 refine WpL.mono hL ?_
 rintro _ _ ⟨rfl,hfin⟩
 obtain rfl := os h
 exact ⟨.inl rfl,hfin⟩
def Kdl (p : K00 × Int × Int × Int) : Option (Bool) :=
 match p with
 | (s0,a1,b2,c3) =>
  ((
  (Kcw (s0,a1,b2)) >>= fun a0 =>
  (Kcw (s0,a0,c3)) >>= fun a2 =>
  (Kcw (s0,b2,c3)) >>= fun a3 =>
  (Kcw (s0,a1,a3)) >>= fun a4 =>
  if (a2 != a4) = true then
  some (true)
  else
  (Kd3 (s0,a1,b2)) >>= fun a5 =>
  (Kd3 (s0,a5,c3)) >>= fun a6 =>
  (Kd3 (s0,b2,c3)) >>= fun a7 =>
  (Kd3 (s0,a1,a7)) >>= fun a8 =>
  some ((a6 != a8))
  ) : Option (Bool)) >>= fun a9 =>
  if a9 = true then
  some false
  else
  ((
  (Kcw (s0,b2,c3)) >>= fun b1 =>
  (Kd3 (s0,a1,b1)) >>= fun b3 =>
  (Kd3 (s0,a1,b2)) >>= fun b4 =>
  (Kd3 (s0,a1,c3)) >>= fun b5 =>
  (Kcw (s0,b4,b5)) >>= fun b6 =>
  if (b3 != b6) = true then
  some (true)
  else
  (Kcw (s0,a1,b2)) >>= fun b7 =>
  (Kd3 (s0,b7,c3)) >>= fun b8 =>
  (Kd3 (s0,a1,c3)) >>= fun b9 =>
  (Kd3 (s0,b2,c3)) >>= fun c0 =>
  (Kcw (s0,b9,c0)) >>= fun c1 =>
  some ((b8 != c1))
  ) : Option (Bool)) >>= fun c2 =>
  if c2 = true then
  some false
  else
  ((
  (Kd6 (s0,a1,b2)) >>= fun c4 =>
  if c4 = true then
  (Kd6 (s0,b2,c3)) >>= fun c5 =>
  if c5 = true then
  (Kd6 (s0,a1,c3)) >>= fun c6 =>
  some ((!c6))
  else
  some (false)
  else
  some (false)
  ) : Option (Bool)) >>= fun c7 =>
  if c7 = true then
  some false
  else
  ((
  (Kd6 (s0,a1,b2)) >>= fun c8 =>
  if c8 = true then
  (Kcw (s0,a1,c3)) >>= fun c9 =>
  (Kcw (s0,b2,c3)) >>= fun d0 =>
  (Kd6 (s0,c9,d0)) >>= fun d1 =>
  if d1 = true then
  (Kd3 (s0,a1,c3)) >>= fun d2 =>
  (Kd3 (s0,b2,c3)) >>= fun d3 =>
  (Kd6 (s0,d2,d3)) >>= fun d4 =>
  if d4 = true then
  (Kd3 (s0,c3,a1)) >>= fun d5 =>
  (Kd3 (s0,c3,b2)) >>= fun d6 =>
  (Kd6 (s0,d5,d6)) >>= fun d7 =>
  some (d7)
  else
  some (false)
  else
  some (false)
  else
  some (true)
  ) : Option (Bool)) >>= fun d8 =>
  some d8
def Kdm (p : K00 × Int × Int × Int) (r : Bool) : Prop :=
 match p with
 | (s0,a1,b2,c3) => Q71 Tryz.prog 162 [K1t s0,I a1,I b2,I c3] (.bool r) []
theorem Kdn : ∀ p r,Kdl p = some r → Kdm p r := by
 rintro ⟨s0,a1,b2,c3⟩ r h
 unfold Kdl at h
 refine b0 Tryz.f162 K4y 137 [(0,K1t s0),(1,I a1),(2,I b2),(3,I c3)] fun c hc => ?_
 refine rs hc none [some (.new 1),oN] [(1,I a1),(2,I b2),(3,I c3),(4,.ra 1 0)] [(1,K1s s0)] tv ?_
 refine sN ?_
 refine sN ?_
 obtain ⟨a0,a2,h⟩ := Qdd h
 refine Wp.into (x := .normal) (mkS [(1,I a1),(2,I b2),(3,I c3),(4,.ra 1 0),(40,.bool a0)] [(1,K1s s0)]) ?_ ?_
 ·replace h := a2
  obtain ⟨a3,a4,a5,a6,a7,a8,a9,b1,h⟩ := bq4 h
  rcases is h with ⟨b3,h⟩ | ⟨b3,h⟩
  ·refine rgs hc Kcz [oN,oN,oN,oN,oc (I a3),oN,oc (I a5),oN,oN,oN,oN,oN,oc (I a7),oc (I a9),oN,oN,o_,o_,o_,o_,o_,o_,o_,o_,o_,o_,o_,o_,o_,o_,o_,oT] [(1,I a1),(2,I b2),(3,I c3),(4,.ra 1 0),(40,.bool true)] (cq (Kcy _ _ a4) K4s (cq (Kcy _ _ a6) K4s (cq (Kcy _ _ a8) K4s (cq (Kcy _ _ b1) K4s (ar 15 (neF b3) (ai b3 tv)))))) ?_
   obtain rfl := os h
   exact Qcz.mk
  obtain ⟨b4,b5,b6,b7,b8,b9,c0,c1,h⟩ := bq4 h
  refine rgs hc Kcz [oN,oN,oN,oN,oc (I a3),oN,oc (I a5),oN,oN,oN,oN,oN,oc (I a7),oc (I a9),oN,oN,oN,oN,oN,oN,oc (I b4),oN,oc (I b6),oN,oN,oN,oN,oN,oc (I b8),oc (I c0),oN,oF] [(1,I a1),(2,I b2),(3,I c3),(4,.ra 1 0),(40,.bool (b6 != c0))] (cq (Kcy _ _ a4) K4s (cq (Kcy _ _ a6) K4s (cq (Kcy _ _ a8) K4s (cq (Kcy _ _ b1) K4s (ar 5 b3 (cq (Kd5 _ _ b5) K4u (ar 2 b3 (cq (Kd5 _ _ b7) K4u (ar 6 b3 (cq (Kd5 _ _ b9) K4u (ai b3 (cq (Kd5 _ _ c1) K4u (ar 2 b3 tv))))))))))))) ?_
  obtain rfl := os h
  exact Qcz.mk
 clear a2
 refine ic h (fun c2 h => ?_) fun c2 h => ?_
 ·refine rs0 hc 1 [(8,.bool false)] [] ?_
  refine rt ?_
  obtain rfl := os h
  exact rq [true]
 refine sk ?_
 refine sN ?_
 refine sN ?_
 obtain ⟨c4,c5,h⟩ := Qdd h
 refine Wp.into (x := .normal) (mkS [(1,I a1),(2,I b2),(3,I c3),(4,.ra 1 0),(78,.bool c4)] [(1,K1s s0)]) ?_ ?_
 ·replace h := c5
  obtain ⟨c6,c7,c8,c9,d0,d1,d2,d3,h⟩ := bq4 h
  obtain ⟨d4,d5,h⟩ := Qdd h
  rcases is h with ⟨d6,h⟩ | ⟨d6,h⟩
  ·refine rgs hc Kd0 [oN,oN,oN,oN,oN,oc (I c6),oc (I c8),oN,oN,oN,oN,oc (I d0),oN,oN,oN,oc (I d2),oc (I d4),oN,oN,o_,o_,o_,o_,o_,o_,o_,o_,o_,o_,o_,o_,o_,o_,o_,o_,o_,o_,oT] [(1,I a1),(2,I b2),(3,I c3),(4,.ra 1 0),(78,.bool true)] (cq (Kcy _ _ c7) K4s (cq (Kd5 _ _ c9) K4u (cq (Kd5 _ _ d1) K4u (cq (Kd5 _ _ d3) K4u (cq (Kcy _ _ d5) K4s (ar 18 (neF d6) (ai d6 tv))))))) ?_
   obtain rfl := os h
   exact Qcz.mk
  obtain ⟨d7,d8,d9,e0,e1,e2,e3,e4,h⟩ := bq4 h
  obtain ⟨e5,e6,h⟩ := Qdd h
  refine rgs hc Kd0 [oN,oN,oN,oN,oN,oc (I c6),oc (I c8),oN,oN,oN,oN,oc (I d0),oN,oN,oN,oc (I d2),oc (I d4),oN,oN,oN,oN,oN,oN,oc (I d7),oN,oc (I d9),oN,oN,oN,oN,oc (I e1),oN,oN,oN,oc (I e3),oc (I e5),oN,oF] [(1,I a1),(2,I b2),(3,I c3),(4,.ra 1 0),(78,.bool (d9 != e5))] (cq (Kcy _ _ c7) K4s (cq (Kd5 _ _ c9) K4u (cq (Kd5 _ _ d1) K4u (cq (Kd5 _ _ d3) K4u (cq (Kcy _ _ d5) K4s (ar 5 d6 (cq (Kcy _ _ d8) K4s (ar 2 d6 (cq (Kd5 _ _ e0) K4u (ar 5 d6 (cq (Kd5 _ _ e2) K4u (ar 4 d6 (cq (Kd5 _ _ e4) K4u (ai d6 (cq (Kcy _ _ e6) K4s (ar 2 d6 tv)))))))))))))))) ?_
  obtain rfl := os h
  exact Qcz.mk
 clear c5
 refine ic h (fun e7 h => ?_) fun e7 h => ?_
 ·refine rs0 hc 1 [(8,.bool false)] [] ?_
  refine rt ?_
  obtain rfl := os h
  exact rq [true]
 refine sk ?_
 refine sN ?_
 refine sN ?_
 obtain ⟨e8,e9,h⟩ := Qdd h
 refine Wp.into (x := .normal) (mkS [(1,I a1),(2,I b2),(3,I c3),(4,.ra 1 0),(95,.bool e8)] [(1,K1s s0)]) ?_ ?_
 ·replace h := e9
  obtain ⟨f0,f1,h⟩ := Qdd h
  rcases is h with ⟨f2,h⟩ | ⟨f2,h⟩
  ·obtain ⟨f3,f4,h⟩ := Qdd h
   rcases is h with ⟨f5,h⟩ | ⟨f5,h⟩
   ·obtain ⟨f6,f7,h⟩ := Qdd h
    refine rgs hc none [oN,oN,oN,oc (.bool f0),oN,oN,oN,oN,oc (.bool f3),oT,oN,oN,oN,oN,oc (.bool f6),oN,oT] [(1,I a1),(2,I b2),(3,I c3),(4,.ra 1 0),(95,.bool (!f6))] (cq (Kd8 _ _ f1) K4v (ar 4 f2 (cq (Kd8 _ _ f4) K4v (ai f2 (ar 4 f5 (cq (Kd8 _ _ f7) K4v (ar 2 f5 tv))))))) ?_
    obtain rfl := os h
    exact Qcz.mk
   refine rgs hc none [oN,oN,oN,oc (.bool f0),oN,oN,oN,oN,oc (.bool f3),oT,oN,o_,o_,o_,o_,o_,oF] [(1,I a1),(2,I b2),(3,I c3),(4,.ra 1 0),(95,.bool false)] (cq (Kd8 _ _ f1) K4v (ar 4 f2 (cq (Kd8 _ _ f4) K4v (ai f2 (ar 5 (neT f5) (ai f5 tv)))))) ?_
   obtain rfl := os h
   exact Qcz.mk
  refine rgs hc none [oN,oN,oN,oc (.bool f0),oN,o_,o_,o_,o_,oF,oN,o_,o_,o_,o_,o_,oF] [(1,I a1),(2,I b2),(3,I c3),(4,.ra 1 0),(95,.bool false)] (cq (Kd8 _ _ f1) K4v (ar 4 (neT f2) (ai f2 (ar 5 (neT (rfl : false = false)) (ai (rfl : false = false) tv))))) ?_
  obtain rfl := os h
  exact Qcz.mk
 clear e9
 refine ic h (fun f8 h => ?_) fun f8 h => ?_
 ·refine rs0 hc 1 [(8,.bool false)] [] ?_
  refine rt ?_
  obtain rfl := os h
  exact rq [true]
 refine sk ?_
 refine sN ?_
 obtain ⟨f9,g0,h⟩ := Qdd h
 refine Wp.into (x := .normal) (mkS [(8,.bool f9)] []) ?_ ?_
 ·replace h := g0
  obtain ⟨g1,g2,h⟩ := Qdd h
  rcases is h with ⟨g3,h⟩ | ⟨g3,h⟩
  ·obtain ⟨g4,g5,g6,g7,g8,g9,h⟩ := bq3 h
   rcases is h with ⟨i0,h⟩ | ⟨i0,h⟩
   ·obtain ⟨i1,i2,i3,i4,i5,i6,h⟩ := bq3 h
    rcases is h with ⟨i7,h⟩ | ⟨i7,h⟩
    ·obtain ⟨i8,i9,j0,j8,j9,k0,h⟩ := bq3 h
     refine rg hc Kd1 [oN,oN,oN,oc (.bool g1),oN,oN,oN,oN,oN,oN,oc (I g4),oN,oN,oN,oc (I g6),oc (.bool g8),oN,oN,oN,oN,oN,oc (I i1),oN,oN,oN,oc (I i3),oc (.bool i5),oT,oN,oN,oN,oN,oN,oc (I i8),oN,oN,oN,oc (I j0),oc (.bool j9),oT,oF,oN] [(8,.bool j9)] [] (cq (Kd8 _ _ g2) K4v (ar 5 (nF g3) (cq (Kcy _ _ g5) K4s (ar 4 (nF g3) (cq (Kcy _ _ g7) K4s (ai (nF g3) (cq (Kd8 _ _ g9) K4v (ai (nF g3) (ar 5 i0 (cq (Kd5 _ _ i2) K4u (ar 4 i0 (cq (Kd5 _ _ i4) K4u (ai i0 (cq (Kd8 _ _ i6) K4v (ac (nF g3) i0 (nF g3) (ar 5 i7 (cq (Kd5 _ _ i9) K4u (ar 4 i7 (cq (Kd5 _ _ j8) K4u (ai i7 (cq (Kd8 _ _ k0) K4v (ac (nF g3) i7 (nF g3) tv)))))))))))))))))))))) ?_
     obtain rfl := os h
     exact Qcz.mk
    refine rg hc Kd1 [oN,oN,oN,oc (.bool g1),oN,oN,oN,oN,oN,oN,oc (I g4),oN,oN,oN,oc (I g6),oc (.bool g8),oN,oN,oN,oN,oN,oc (I i1),oN,oN,oN,oc (I i3),oc (.bool i5),oT,oN,o_,o_,o_,o_,o_,o_,o_,o_,o_,o_,oF,oF,oN] [(8,.bool false)] [] (cq (Kd8 _ _ g2) K4v (ar 5 (nF g3) (cq (Kcy _ _ g5) K4s (ar 4 (nF g3) (cq (Kcy _ _ g7) K4s (ai (nF g3) (cq (Kd8 _ _ g9) K4v (ai (nF g3) (ar 5 i0 (cq (Kd5 _ _ i2) K4u (ar 4 i0 (cq (Kd5 _ _ i4) K4u (ai i0 (cq (Kd8 _ _ i6) K4v (ac (nF g3) i0 (nF g3) (ar 10 (neT i7) (ac (nF g3) i7 (nF g3) tv))))))))))))))))) ?_
    obtain rfl := os h
    exact Qcz.mk
   refine rg hc Kd1 [oN,oN,oN,oc (.bool g1),oN,oN,oN,oN,oN,oN,oc (I g4),oN,oN,oN,oc (I g6),oc (.bool g8),oN,o_,o_,o_,o_,o_,o_,o_,o_,o_,o_,oF,oN,o_,o_,o_,o_,o_,o_,o_,o_,o_,o_,oF,oF,oN] [(8,.bool false)] [] (cq (Kd8 _ _ g2) K4v (ar 5 (nF g3) (cq (Kcy _ _ g5) K4s (ar 4 (nF g3) (cq (Kcy _ _ g7) K4s (ai (nF g3) (cq (Kd8 _ _ g9) K4v (ai (nF g3) (ar 10 (neT i0) (ac (nF g3) i0 (nF g3) (ar 10 (neT (rfl : false = false)) (ac (nF g3) (rfl : false = false) (nF g3) tv)))))))))))) ?_
   obtain rfl := os h
   exact Qcz.mk
  refine rg hc Kd1 [oN,oN,oN,oc (.bool g1),oN,oN,o_,o_,o_,o_,o_,o_,o_,o_,o_,o_,o_,o_,o_,o_,o_,o_,o_,o_,o_,o_,o_,o_,o_,o_,o_,o_,o_,o_,o_,o_,o_,o_,o_,o_,oT,oN] [(8,.bool true)] [] (cq (Kd8 _ _ g2) K4v (ar 14 (neF (nT g3)) (ai (nT g3) tv))) ?_
  obtain rfl := os h
  exact Qcz.mk
 clear g0
 refine rt ?_
 obtain rfl := os h
 exact rq [true]
def Kdo (c : Ctx) (s0 : K00) : (Unit) ⊕ (Bool) → Exit → Q0a → Prop
 | .inl _ => Qcz c (.exit 0) (mkS [(1,.ra 1 0),(3,I s0.fSize)] [(1,K1s s0)])
 | .inr r => Qd8 TIx Tryz.f79 [] (.bool r)
def Kdp (p : K00 × Int) : Option ((Unit) ⊕ (Bool)) :=
 match p with
 | (s0,a0) =>
  if (decide (a0 < (s0.fPlus.length : Int))) = true then
  ((
  (idx s0.fPlus a0) >>= fun a1 =>
  (Kcm (s0,a1)) >>= fun a2 =>
  if a2 = true then
  (idx s0.fTimes a0) >>= fun a3 =>
  (Kcm (s0,a3)) >>= fun a4 =>
  some ((!a4))
  else
  some (true)
  ) : Option (Bool)) >>= fun a5 =>
  if a5 = true then
  some (.inr false)
  else
  Kdp (s0,(wr (a0 + 1)))
  else
  some (.inl ())
 partial_fixpoint
def Kdq (p : K00 × Int) (fl : (Unit) ⊕ (Bool)) : Prop :=
 match p with
 | (s0,a0) => ∀ c : Ctx,c.nt = 157 → WpL Tryz.prog c (cl (cl (cr (cl (cr (cr (cr B79))))))) (Kdo c s0 fl) (mkS [(1,.ra 1 0),(3,I s0.fSize),(42,I (s0.fPlus.length : Int)),(43,I a0)] [(1,K1s s0)])
theorem Kdr : ∀ p r,Kdp p = some r → Kdq p r := by
 refine Kdp.partial_correctness Kdq ?_
 rintro impl_IsSystem_l0_f impl_IsSystem_l0_ih ⟨s0,a0⟩ r h
 intro c hc
 refine WpL.step ?_
 refine K7k hc 1 [(1,.ra 1 0),(3,I s0.fSize),(42,I (s0.fPlus.length : Int)),(43,I a0),(44,.bool (decide (a0 < (s0.fPlus.length : Int))))] ?_
 refine sN ?_
 refine ic h (fun a1 h => ?_) fun a1 h => ?_
 ·refine sk ?_
  refine sN ?_
  refine bk 1 ?_
  refine K7k hc 2 [(1,.ra 1 0),(3,I s0.fSize),(4,I a0),(42,I (s0.fPlus.length : Int)),(43,I a0)] ?_
  refine sN ?_
  obtain ⟨a2,a3,h⟩ := Qdd h
  refine Wp.into (x := .normal) (mkS [(1,.ra 1 0),(3,I s0.fSize),(42,I (s0.fPlus.length : Int)),(43,I a0),(63,.bool a2)] [(1,K1s s0)]) ?_ ?_
  ·replace h := a3
   obtain ⟨a4,a5,a6,a7,h⟩ := bq2 h
   rcases is h with ⟨a8,h⟩ | ⟨a8,h⟩
   ·obtain ⟨a9,b1,b2,b3,h⟩ := bq2 h
    refine rgs hc Kd2 [oN,oN,oN,oN,some (.el (I a4)),oN,oc (.bool a6),oN,oN,oN,oN,oN,oN,some (.el (I a9)),oN,oc (.bool b2),oN,oF] [(1,.ra 1 0),(3,I s0.fSize),(42,I (s0.fPlus.length : Int)),(43,I a0),(63,.bool (!b2))] (ai (ix a5) (cq (Kco _ _ a7) K4p (ar 5 (nF a8) (ai (ix b1) (ar 2 (nF a8) (cq (Kco _ _ b3) K4p (ar 2 (nF a8) tv))))))) ?_
    obtain rfl := os h
    exact Qcz.mk
   refine rgs hc Kd2 [oN,oN,oN,oN,some (.el (I a4)),oN,oc (.bool a6),oN,oN,o_,o_,o_,o_,o_,o_,o_,o_,oT] [(1,.ra 1 0),(3,I s0.fSize),(42,I (s0.fPlus.length : Int)),(43,I a0),(63,.bool true)] (ai (ix a5) (cq (Kco _ _ a7) K4p (ar 8 (neF (nT a8)) (ai (nT a8) tv)))) ?_
   obtain rfl := os h
   exact Qcz.mk
  clear a3
  refine ic h (fun b4 h => ?_) fun b4 h => ?_
  ·refine rs0 hc 1 [(2,.bool false)] [] ?_
   refine rt ?_
   obtain rfl := os h
   exact re [true]
  refine sk ?_
  refine K7j hc 2 [(1,.ra 1 0),(3,I s0.fSize),(42,I (s0.fPlus.length : Int)),(43,I (wr (a0 + 1)))] ?_
  refine Qcv ?_
  exact (impl_IsSystem_l0_ih _ _ h c hc)
 refine xt 0 ?_
 refine Qcp ?_
 refine Qcw ?_
 obtain rfl := os h
 exact iv []
def Kds (c : Ctx) (s0 : K00) (a0 : Int) (a1 : Int) : (Unit) ⊕ (Bool) → Exit → Q0a → Prop
 | .inl _ => Qcz c (.exit 6) (mkS [(1,.ra 1 0),(3,I s0.fSize),(5,I a0),(6,I a1)] [(1,K1s s0)])
 | .inr r => Qd8 TIx Tryz.f79 [] (.bool r)
def Kdt (p : K00 × Int × Int × Int) : Option ((Unit) ⊕ (Bool)) :=
 match p with
 | (s0,a0,a1,a2) =>
  if (decide (a2 < s0.fSize)) = true then
  (Kdl (s0,a0,a1,a2)) >>= fun a3 =>
  if a3 = true then
  Kdt (s0,a0,a1,(wr (a2 + 1)))
  else
  some (.inr false)
  else
  some (.inl ())
 partial_fixpoint
def Kdu (p : K00 × Int × Int × Int) (fl : (Unit) ⊕ (Bool)) : Prop :=
 match p with
 | (s0,a0,a1,a2) => ∀ c : Ctx,c.nt = 157 → WpL Tryz.prog c (cl (cl (cr (cr (cl (cl (cr (cl (cl (cr (cr (cl (cl (cr (cl (cl (cr (cl (cr (cr (cr (cr B79)))))))))))))))))))))) (Kds c s0 a0 a1 fl) (mkS [(1,.ra 1 0),(3,I s0.fSize),(5,I a0),(6,I a1),(7,I a2)] [(1,K1s s0)])
theorem Kdv : ∀ p r,Kdt p = some r → Kdu p r := by
 refine Kdt.partial_correctness Kdu ?_
 rintro impl_IsSystem_l1_f impl_IsSystem_l1_ih ⟨s0,a0,a1,a2⟩ r h
 intro c hc
 refine WpL.step ?_
 refine sN ?_
 refine K7k hc 3 [(1,.ra 1 0),(3,I s0.fSize),(5,I a0),(6,I a1),(7,I a2),(148,.bool (decide (a2 < s0.fSize)))] ?_
 refine ic h (fun a3 h => ?_) fun a3 h => ?_
 ·refine sk ?_
  refine sN ?_
  refine bk 7 ?_
  obtain ⟨a4,a5,h⟩ := Qdd h
  refine rss hc none [oN,oN,oN,oN,oc (.bool a4),oN] [(1,.ra 1 0),(3,I s0.fSize),(5,I a0),(6,I a1),(7,I a2),(156,.bool (!a4))] (cq (Kdn _ _ a5) K4z tv) ?_
  rcases is h with ⟨a6,h⟩ | ⟨a6,h⟩
  ·refine cF (!a4) (nF a6) ?_
   refine sk ?_
   refine K7j hc 3 [(1,.ra 1 0),(3,I s0.fSize),(5,I a0),(6,I a1),(7,I (wr (a2 + 1)))] ?_
   refine Qcv ?_
   exact (impl_IsSystem_l1_ih _ _ h c hc)
  refine cT (!a4) (nT a6) ?_
  refine rs0 hc 1 [(2,.bool false)] [] ?_
  refine rt ?_
  obtain rfl := os h
  exact re [true]
 refine xt 6 ?_
 refine Qcp ?_
 refine Qcw ?_
 obtain rfl := os h
 exact iv []
def Kdw (c : Ctx) (s0 : K00) (a0 : Int) : (Unit) ⊕ (Bool) → Exit → Q0a → Prop
 | .inl _ => Qcz c (.exit 4) (mkS [(1,.ra 1 0),(3,I s0.fSize),(5,I a0)] [(1,K1s s0)])
 | .inr r => Qd8 TIx Tryz.f79 [] (.bool r)
def Kdx : Option (List (List Nat)) := rh [0,0,0,3,0,0,0,7,8,9,10,10,12,13,14,14,14,17,18,19,20,20,20,23,24,25,26,27,27,27,30,31,32]
def Kdy : Option (List (List Nat)) := rx [[0],[1],[2],[3],[0],[0,4],[0,4,5],[7],[8],[9],[10]]
def Kdz (p : K00 × Int × Int) : Option ((Unit) ⊕ (Bool)) :=
 match p with
 | (s0,a0,a1) =>
  if (decide (a1 < s0.fSize)) = true then
  ((
  (Kcw (s0,a0,a1)) >>= fun a2 =>
  (Kcw (s0,a1,a0)) >>= fun a3 =>
  if (a2 != a3) = true then
   some (true)
  else
   if (a0 != a1) = true then
   (Kd6 (s0,a0,a1)) >>= fun a4 =>
   if a4 = true then
   (Kd6 (s0,a1,a0)) >>= fun a5 =>
   if a5 = true then
   some (true)
   else
   (Kdi (s0,a0,a1)) >>= fun a6 =>
   some ((decide (a6 < 0)))
   else
   (Kdi (s0,a0,a1)) >>= fun a6 =>
   some ((decide (a6 < 0)))
   else
   (Kdi (s0,a0,a1)) >>= fun a6 =>
   some ((decide (a6 < 0)))
  ) : Option (Bool)) >>= fun a7 =>
  if a7 = true then
  some (.inr false)
  else
  (Kdt (s0,a0,a1,0)) >>= fun fl => match fl with
  | .inl () =>
   Kdz (s0,a0,(wr (a1 + 1)))
  | .inr r =>
   some (.inr r)
  else
  some (.inl ())
 partial_fixpoint
def Ke0 (p : K00 × Int × Int) (fl : (Unit) ⊕ (Bool)) : Prop :=
 match p with
 | (s0,a0,a1) => ∀ c : Ctx,c.nt = 157 → WpL Tryz.prog c (cl (cl (cr (cr (cl (cl (cr (cl (cl (cr (cl (cr (cr (cr (cr B79))))))))))))))) (Kdw c s0 a0 fl) (mkS [(1,.ra 1 0),(3,I s0.fSize),(5,I a0),(6,I a1)] [(1,K1s s0)])
theorem Ke1 : ∀ p r,Kdz p = some r → Ke0 p r := by
 refine Kdz.partial_correctness Ke0 ?_
 rintro impl_IsSystem_l2_f impl_IsSystem_l2_ih ⟨s0,a0,a1⟩ r h
 intro c hc
 refine WpL.step ?_
 refine sN ?_
 refine K7k hc 3 [(1,.ra 1 0),(3,I s0.fSize),(5,I a0),(6,I a1),(110,.bool (decide (a1 < s0.fSize)))] ?_
 refine ic h (fun a2 h => ?_) fun a2 h => ?_
 ·refine sk ?_
  refine sN ?_
  refine bk 5 ?_
  refine sN ?_
  refine sN ?_
  obtain ⟨a3,a4,h⟩ := Qdd h
  refine Wp.into (x := .normal) (mkS [(1,.ra 1 0),(3,I s0.fSize),(5,I a0),(6,I a1),(145,.bool a3)] [(1,K1s s0)]) ?_ ?_
  ·replace h := a4
   obtain ⟨a5,a6,a7,a8,h⟩ := bq2 h
   rcases is h with ⟨a9,h⟩ | ⟨a9,h⟩
   ·refine rgs hc Kdx [oN,oN,oN,oc (I a5),oN,oN,oN,oc (I a7),oN,oN,o_,o_,o_,o_,o_,o_,o_,o_,o_,o_,o_,o_,o_,o_,o_,oT,oN,o_,o_,o_,o_,o_,oT] [(1,.ra 1 0),(3,I s0.fSize),(5,I a0),(6,I a1),(145,.bool true)] (cq (Kcy _ _ a6) K4s (cq (Kcy _ _ a8) K4s (ar 7 (neF a9) (ai a9 (ar 5 nf (ai tt tv)))))) ?_
    obtain rfl := os h
    exact Qcz.mk
   rcases is h with ⟨b1,h⟩ | ⟨b1,h⟩
   ·obtain ⟨b2,b3,h⟩ := Qdd h
    rcases is h with ⟨b4,h⟩ | ⟨b4,h⟩
    ·obtain ⟨b5,b6,h⟩ := Qdd h
     rcases is h with ⟨b7,h⟩ | ⟨b7,h⟩
     ·refine rgs hc Kdx [oN,oN,oN,oc (I a5),oN,oN,oN,oc (I a7),oN,oN,oN,oN,oN,oN,oN,oN,oN,oc (.bool b2),oT,oN,oN,oN,oN,oc (.bool b5),oT,oF,oN,o_,o_,o_,o_,o_,oT] [(1,.ra 1 0),(3,I s0.fSize),(5,I a0),(6,I a1),(145,.bool true)] (cq (Kcy _ _ a6) K4s (cq (Kcy _ _ a8) K4s (ar 4 a9 (ar 4 b1 (cq (Kd8 _ _ b3) K4v (ac a9 b1 a9 (ar 4 b4 (cq (Kd8 _ _ b6) K4v (ac a9 b4 a9 (ar 5 (neF b7) (ai b7 tv))))))))))) ?_
      obtain rfl := os h
      exact Qcz.mk
     obtain ⟨b8,b9,h⟩ := Qdd h
     refine rgs hc Kdx [oN,oN,oN,oc (I a5),oN,oN,oN,oc (I a7),oN,oN,oN,oN,oN,oN,oN,oN,oN,oc (.bool b2),oT,oN,oN,oN,oN,oc (.bool b5),oT,oF,oN,oN,oN,oN,oc (I b8),oN,oF] [(1,.ra 1 0),(3,I s0.fSize),(5,I a0),(6,I a1),(145,.bool (decide (b8 < 0)))] (cq (Kcy _ _ a6) K4s (cq (Kcy _ _ a8) K4s (ar 4 a9 (ar 4 b1 (cq (Kd8 _ _ b3) K4v (ac a9 b1 a9 (ar 4 b4 (cq (Kd8 _ _ b6) K4v (ac a9 b4 a9 (ar 4 b7 (cq (Kdk _ _ b9) K4x (ar 2 b7 tv)))))))))))) ?_
     obtain rfl := os h
     exact Qcz.mk
    obtain ⟨b8,b9,h⟩ := Qdd h
    refine rgs hc Kdx [oN,oN,oN,oc (I a5),oN,oN,oN,oc (I a7),oN,oN,oN,oN,oN,oN,oN,oN,oN,oc (.bool b2),oT,oN,o_,o_,o_,o_,oF,oF,oN,oN,oN,oN,oc (I b8),oN,oF] [(1,.ra 1 0),(3,I s0.fSize),(5,I a0),(6,I a1),(145,.bool (decide (b8 < 0)))] (cq (Kcy _ _ a6) K4s (cq (Kcy _ _ a8) K4s (ar 4 a9 (ar 4 b1 (cq (Kd8 _ _ b3) K4v (ac a9 b1 a9 (ar 4 (neT b4) (ac a9 b4 a9 (ar 4 (rfl : false = false) (cq (Kdk _ _ b9) K4x (ar 2 (rfl : false = false) tv))))))))))) ?_
    obtain rfl := os h
    exact Qcz.mk
   obtain ⟨b8,b9,h⟩ := Qdd h
   refine rgs hc Kdx [oN,oN,oN,oc (I a5),oN,oN,oN,oc (I a7),oN,oN,oN,oN,oN,oN,o_,o_,o_,o_,oF,oN,o_,o_,o_,o_,oF,oF,oN,oN,oN,oN,oc (I b8),oN,oF] [(1,.ra 1 0),(3,I s0.fSize),(5,I a0),(6,I a1),(145,.bool (decide (b8 < 0)))] (cq (Kcy _ _ a6) K4s (cq (Kcy _ _ a8) K4s (ar 4 a9 (ar 4 (neT b1) (ac a9 b1 a9 (ar 4 (neT (rfl : false = false)) (ac a9 (rfl : false = false) a9 (ar 4 (rfl : false = false) (cq (Kdk _ _ b9) K4x (ar 2 (rfl : false = false) tv)))))))))) ?_
   obtain rfl := os h
   exact Qcz.mk
  clear a4
  refine ic h (fun c0 h => ?_) fun c0 h => ?_
  ·refine rs0 hc 1 [(2,.bool false)] [] ?_
   refine rt ?_
   obtain rfl := os h
   exact re [true]
  refine sk ?_
  refine K7k hc 1 [(1,.ra 1 0),(3,I s0.fSize),(5,I a0),(6,I a1),(7,I 0)] ?_
  refine bk 6 ?_
  obtain ⟨fl,c1,h⟩ := Qdd h
  have hL := Kdv _ _ c1 c hc
  refine lp ?_
  rcases fl with ⟨⟩ | r
  ·refine WpL.into (e := (.exit 6)) (mkS [(1,.ra 1 0),(3,I s0.fSize),(5,I a0),(6,I a1)] [(1,K1s s0)]) hL ?_
   refine Qcr ?_
   refine K7j hc 3 [(1,.ra 1 0),(3,I s0.fSize),(5,I a0),(6,I (wr (a1 + 1)))] ?_
   refine Qcv ?_
   exact (impl_IsSystem_l2_ih _ _ h c hc)
  refine WpL.mono hL ?_
  rintro _ _ ⟨rfl,hfin⟩
  obtain rfl := os h
  exact ⟨rfl,hfin⟩
 refine xt 4 ?_
 refine Qcp ?_
 refine Qcw ?_
 obtain rfl := os h
 exact iv []
def Ke2 (c : Ctx) : (Unit) ⊕ (Bool) → Exit → Q0a → Prop
 | .inl _ => Qcz c (.exit 2) (mkS [] [])
 | .inr r => Qd8 TIx Tryz.f79 [] (.bool r)
def Ke3 (p : K00 × Int) : Option ((Unit) ⊕ (Bool)) :=
 match p with
 | (s0,a0) =>
  if (decide (a0 < s0.fSize)) = true then
  ((
  (Kcw (s0,0,a0)) >>= fun a1 =>
  if (a1 != a0) = true then
   some (true)
  else
   (Kd3 (s0,1,a0)) >>= fun a2 =>
   if (a2 != a0) = true then
   some (true)
   else
   (Kd3 (s0,a0,1)) >>= fun a3 =>
   if (a3 != a0) = true then
   some (true)
   else
   (Kd3 (s0,0,a0)) >>= fun a4 =>
   if (a4 != 0) = true then
   some (true)
   else
   (Kd3 (s0,a0,0)) >>= fun a5 =>
   if (a5 != 0) = true then
   some (true)
   else
   (Kd6 (s0,a0,a0)) >>= fun a6 =>
   some ((!a6))
  ) : Option (Bool)) >>= fun a7 =>
  if a7 = true then
  some (.inr false)
  else
  (Kdz (s0,a0,0)) >>= fun fl => match fl with
  | .inl () =>
   Ke3 (s0,(wr (a0 + 1)))
  | .inr r =>
   some (.inr r)
  else
  some (.inl ())
 partial_fixpoint
def Ke4 (p : K00 × Int) (fl : (Unit) ⊕ (Bool)) : Prop :=
 match p with
 | (s0,a0) => ∀ c : Ctx,c.nt = 157 → WpL Tryz.prog c (cl (cl (cr (cl (cr (cr (cr (cr B79)))))))) (Ke2 c fl) (mkS [(1,.ra 1 0),(3,I s0.fSize),(5,I a0)] [(1,K1s s0)])
theorem Ke5 : ∀ p r,Ke3 p = some r → Ke4 p r := by
 refine Ke3.partial_correctness Ke4 ?_
 rintro impl_IsSystem_l3_f impl_IsSystem_l3_ih ⟨s0,a0⟩ r h
 intro c hc
 refine WpL.step ?_
 refine sN ?_
 refine K7k hc 3 [(1,.ra 1 0),(3,I s0.fSize),(5,I a0),(67,.bool (decide (a0 < s0.fSize)))] ?_
 refine ic h (fun a1 h => ?_) fun a1 h => ?_
 ·refine sk ?_
  refine sN ?_
  refine bk 3 ?_
  refine sN ?_
  refine sN ?_
  obtain ⟨a2,a3,h⟩ := Qdd h
  refine Wp.into (x := .normal) (mkS [(1,.ra 1 0),(3,I s0.fSize),(5,I a0),(107,.bool a2)] [(1,K1s s0)]) ?_ ?_
  ·replace h := a3
   obtain ⟨a4,a5,h⟩ := Qdd h
   rcases is h with ⟨a6,h⟩ | ⟨a6,h⟩
   ·refine rgs hc none [oN,oN,oc (I a4),oN,oN,oN,o_,o_,o_,o_,o_,oT,oN,o_,o_,o_,o_,o_,oT,oN,o_,o_,o_,o_,oT,oN,o_,o_,o_,o_,oT,oN,o_,o_,o_,o_,o_,oT] [(1,.ra 1 0),(3,I s0.fSize),(5,I a0),(107,.bool true)] (cq (Kcy _ _ a5) K4s (ar 5 (neF a6) (ai a6 (ar 5 nf (ai tt (ar 4 nf (ai tt (ar 4 nf (ai tt (ar 5 nf (ai tt tv))))))))))) ?_
    obtain rfl := os h
    exact Qcz.mk
   obtain ⟨a7,a8,h⟩ := Qdd h
   rcases is h with ⟨a9,h⟩ | ⟨a9,h⟩
   ·refine rgs hc none [oN,oN,oc (I a4),oN,oN,oN,oN,oN,oc (I a7),oN,oN,oF,oN,o_,o_,o_,o_,o_,oT,oN,o_,o_,o_,o_,oT,oN,o_,o_,o_,o_,oT,oN,o_,o_,o_,o_,o_,oT] [(1,.ra 1 0),(3,I s0.fSize),(5,I a0),(107,.bool true)] (cq (Kcy _ _ a5) K4s (ar 3 a6 (cq (Kd5 _ _ a8) K4u (ar 3 a6 (ar 5 (neF a9) (ai a9 (ar 4 nf (ai tt (ar 4 nf (ai tt (ar 5 nf (ai tt tv)))))))))))) ?_
    obtain rfl := os h
    exact Qcz.mk
   obtain ⟨b1,b2,h⟩ := Qdd h
   rcases is h with ⟨b3,h⟩ | ⟨b3,h⟩
   ·refine rgs hc none [oN,oN,oc (I a4),oN,oN,oN,oN,oN,oc (I a7),oN,oN,oF,oN,oN,oN,oc (I b1),oN,oN,oF,oN,o_,o_,o_,o_,oT,oN,o_,o_,o_,o_,oT,oN,o_,o_,o_,o_,o_,oT] [(1,.ra 1 0),(3,I s0.fSize),(5,I a0),(107,.bool true)] (cq (Kcy _ _ a5) K4s (ar 3 a6 (cq (Kd5 _ _ a8) K4u (ar 3 a6 (ar 3 a9 (cq (Kd5 _ _ b2) K4u (ar 3 a9 (ar 4 (neF b3) (ai b3 (ar 4 nf (ai tt (ar 5 nf (ai tt tv))))))))))))) ?_
    obtain rfl := os h
    exact Qcz.mk
   obtain ⟨b4,b5,h⟩ := Qdd h
   rcases is h with ⟨b6,h⟩ | ⟨b6,h⟩
   ·refine rgs hc none [oN,oN,oc (I a4),oN,oN,oN,oN,oN,oc (I a7),oN,oN,oF,oN,oN,oN,oc (I b1),oN,oN,oF,oN,oN,oN,oc (I b4),oN,oF,oN,o_,o_,o_,o_,oT,oN,o_,o_,o_,o_,o_,oT] [(1,.ra 1 0),(3,I s0.fSize),(5,I a0),(107,.bool true)] (cq (Kcy _ _ a5) K4s (ar 3 a6 (cq (Kd5 _ _ a8) K4u (ar 3 a6 (ar 3 a9 (cq (Kd5 _ _ b2) K4u (ar 3 a9 (ar 3 b3 (cq (Kd5 _ _ b5) K4u (ar 2 b3 (ar 4 (neF b6) (ai b6 (ar 5 nf (ai tt tv)))))))))))))) ?_
    obtain rfl := os h
    exact Qcz.mk
   obtain ⟨b7,b8,h⟩ := Qdd h
   rcases is h with ⟨b9,h⟩ | ⟨b9,h⟩
   ·refine rgs hc none [oN,oN,oc (I a4),oN,oN,oN,oN,oN,oc (I a7),oN,oN,oF,oN,oN,oN,oc (I b1),oN,oN,oF,oN,oN,oN,oc (I b4),oN,oF,oN,oN,oN,oc (I b7),oN,oF,oN,o_,o_,o_,o_,o_,oT] [(1,.ra 1 0),(3,I s0.fSize),(5,I a0),(107,.bool true)] (cq (Kcy _ _ a5) K4s (ar 3 a6 (cq (Kd5 _ _ a8) K4u (ar 3 a6 (ar 3 a9 (cq (Kd5 _ _ b2) K4u (ar 3 a9 (ar 3 b3 (cq (Kd5 _ _ b5) K4u (ar 2 b3 (ar 3 b6 (cq (Kd5 _ _ b8) K4u (ar 2 b6 (ar 5 (neF b9) (ai b9 tv))))))))))))))) ?_
    obtain rfl := os h
    exact Qcz.mk
   obtain ⟨c0,c1,h⟩ := Qdd h
   refine rgs hc none [oN,oN,oc (I a4),oN,oN,oN,oN,oN,oc (I a7),oN,oN,oF,oN,oN,oN,oc (I b1),oN,oN,oF,oN,oN,oN,oc (I b4),oN,oF,oN,oN,oN,oc (I b7),oN,oF,oN,oN,oN,oN,oc (.bool c0),oN,oF] [(1,.ra 1 0),(3,I s0.fSize),(5,I a0),(107,.bool (!c0))] (cq (Kcy _ _ a5) K4s (ar 3 a6 (cq (Kd5 _ _ a8) K4u (ar 3 a6 (ar 3 a9 (cq (Kd5 _ _ b2) K4u (ar 3 a9 (ar 3 b3 (cq (Kd5 _ _ b5) K4u (ar 2 b3 (ar 3 b6 (cq (Kd5 _ _ b8) K4u (ar 2 b6 (ar 4 b9 (cq (Kd8 _ _ c1) K4v (ar 2 b9 tv)))))))))))))))) ?_
   obtain rfl := os h
   exact Qcz.mk
  clear a3
  refine ic h (fun c2 h => ?_) fun c2 h => ?_
  ·refine rs0 hc 1 [(2,.bool false)] [] ?_
   refine rt ?_
   obtain rfl := os h
   exact re [true]
  refine sk ?_
  refine K7k hc 1 [(1,.ra 1 0),(3,I s0.fSize),(5,I a0),(6,I 0)] ?_
  refine bk 4 ?_
  obtain ⟨fl,c3,h⟩ := Qdd h
  have hL := Ke1 _ _ c3 c hc
  refine lp ?_
  rcases fl with ⟨⟩ | r
  ·refine WpL.into (e := (.exit 4)) (mkS [(1,.ra 1 0),(3,I s0.fSize),(5,I a0)] [(1,K1s s0)]) hL ?_
   refine Qcr ?_
   refine K7j hc 3 [(1,.ra 1 0),(3,I s0.fSize),(5,I (wr (a0 + 1)))] ?_
   refine Qcv ?_
   exact (impl_IsSystem_l3_ih _ _ h c hc)
  refine WpL.mono hL ?_
  rintro _ _ ⟨rfl,hfin⟩
  obtain rfl := os h
  exact ⟨rfl,hfin⟩
 refine xt 2 ?_
 refine Qcp ?_
 refine Qcw ?_
 obtain rfl := os h
 exact iv []
def Ke6 (s0 : K00) : Option (Bool) :=
 ((
 (Kca (s0.fSize,2,16)) >>= fun a0 =>
 if a0 = true then
  if ((s0.fPlus.length : Int) != (wr (s0.fSize * s0.fSize))) = true then
   some (true)
  else
   if ((s0.fTimes.length : Int) != (wr (s0.fSize * s0.fSize))) = true then
   some (true)
   else
   some (((s0.fBelow.length : Int) != (wr (s0.fSize * s0.fSize))))
 else
  some (true)
 ) : Option (Bool)) >>= fun a1 =>
 if a1 = true then
 some false
 else
 (Kdp (s0,0)) >>= fun fl => match fl with
 | .inl () =>
  (Ke3 (s0,0)) >>= fun fl => match fl with
  | .inl () =>
   some true
  | .inr r =>
   some r
 | .inr r =>
  some r
def Ke7 (s0 : K00) (r : Bool) : Prop :=
 Q71 Tryz.prog 79 [K1t s0] (.bool r) []
theorem Ke8 : ∀ p r,Ke6 p = some r → Ke7 p r := by
 rintro s0 r h
 unfold Ke6 at h
 refine b0 Tryz.f79 B79 157 [(0,K1t s0)] fun c hc => ?_
 refine rs hc none [some (.new 1),oN] [(1,.ra 1 0)] [(1,K1s s0)] tv ?_
 refine K7k hc 3 [(1,.ra 1 0),(3,I s0.fSize)] ?_
 refine sN ?_
 refine sN ?_
 obtain ⟨a0,a1,h⟩ := Qdd h
 refine Wp.into (x := .normal) (mkS [(1,.ra 1 0),(3,I s0.fSize),(39,.bool a0)] [(1,K1s s0)]) ?_ ?_
 ·replace h := a1
  obtain ⟨a2,a3,h⟩ := Qdd h
  rcases is h with ⟨a4,h⟩ | ⟨a4,h⟩
  ·rcases is h with ⟨a5,h⟩ | ⟨a5,h⟩
   ·refine rgs hc none [oN,oc (.bool a2),oN,oN,oN,oN,some (.eqv (.no) ⟨[(16,I (s0.fPlus.length : Int))],[],[]⟩),oN,oN,oN,oN,oF,oN,o_,o_,o_,o_,o_,o_,o_,oT,oN,o_,o_,o_,o_,o_,o_,o_,oT] [(1,.ra 1 0),(3,I s0.fSize),(39,.bool true)] (cq (Kcc _ _ a3) K4h (ar 3 (nF a4) (ai (Qdj (d := 16) I s0.fPlus) (ar 5 (nF a4) (ar 7 (neF a5) (ai a5 (ar 7 nf (ai tt tv)))))))) ?_
    obtain rfl := os h
    exact Qcz.mk
   rcases is h with ⟨a6,h⟩ | ⟨a6,h⟩
   ·refine rgs hc none [oN,oc (.bool a2),oN,oN,oN,oN,some (.eqv (.no) ⟨[(16,I (s0.fPlus.length : Int))],[],[]⟩),oN,oN,oN,oN,oF,oN,oN,oN,some (.eqv (.no) ⟨[(25,I (s0.fTimes.length : Int))],[],[]⟩),oN,oN,oN,oN,oF,oN,o_,o_,o_,o_,o_,o_,o_,oT] [(1,.ra 1 0),(3,I s0.fSize),(39,.bool true)] (cq (Kcc _ _ a3) K4h (ar 3 (nF a4) (ai (Qdj (d := 16) I s0.fPlus) (ar 5 (nF a4) (ar 3 a5 (ai (Qdj (d := 25) I s0.fTimes) (ar 5 a5 (ar 7 (neF a6) (ai a6 tv))))))))) ?_
    obtain rfl := os h
    exact Qcz.mk
   refine rgs hc none [oN,oc (.bool a2),oN,oN,oN,oN,some (.eqv (.no) ⟨[(16,I (s0.fPlus.length : Int))],[],[]⟩),oN,oN,oN,oN,oF,oN,oN,oN,some (.eqv (.no) ⟨[(25,I (s0.fTimes.length : Int))],[],[]⟩),oN,oN,oN,oN,oF,oN,oN,oN,some (.eqv (.no) ⟨[(34,I (s0.fBelow.length : Int))],[],[]⟩),oN,oN,oN,oN,oF] [(1,.ra 1 0),(3,I s0.fSize),(39,.bool ((s0.fBelow.length : Int) != (wr (s0.fSize * s0.fSize))))] (cq (Kcc _ _ a3) K4h (ar 3 (nF a4) (ai (Qdj (d := 16) I s0.fPlus) (ar 5 (nF a4) (ar 3 a5 (ai (Qdj (d := 25) I s0.fTimes) (ar 5 a5 (ar 3 a6 (ai (Qdj (d := 34) AV.bool s0.fBelow) (ar 5 a6 tv)))))))))) ?_
   obtain rfl := os h
   exact Qcz.mk
  refine rgs hc none [oN,oc (.bool a2),oN,oN,o_,o_,o_,o_,o_,o_,o_,oT,oN,o_,o_,o_,o_,o_,o_,o_,oT,oN,o_,o_,o_,o_,o_,o_,o_,oT] [(1,.ra 1 0),(3,I s0.fSize),(39,.bool true)] (cq (Kcc _ _ a3) K4h (ar 7 (neF (nT a4)) (ai (nT a4) (ar 7 nf (ai tt (ar 7 nf (ai tt tv))))))) ?_
  obtain rfl := os h
  exact Qcz.mk
 clear a1
 refine ic h (fun a7 h => ?_) fun a7 h => ?_
 ·refine rs0 hc 1 [(2,.bool false)] [] ?_
  refine rt ?_
  obtain rfl := os h
  exact rq [true]
 refine sk ?_
 refine sN ?_
 refine rss hc none [oN,oN,some (.eqv (.no) ⟨[(42,I (s0.fPlus.length : Int))],[],[]⟩),oN] [(1,.ra 1 0),(3,I s0.fSize),(42,I (s0.fPlus.length : Int)),(43,I 0)] (ai (Qdj (d := 42) I s0.fPlus) tv) ?_
 refine bk 0 ?_
 obtain ⟨fl,a8,h⟩ := Qdd h
 have hL := Kdr _ _ a8 c hc
 refine lp ?_
 rcases fl with ⟨⟩ | r
 ·refine WpL.into (e := (.exit 0)) (mkS [(1,.ra 1 0),(3,I s0.fSize)] [(1,K1s s0)]) hL ?_
  refine Qcr ?_
  refine sN ?_
  refine K7k hc 1 [(1,.ra 1 0),(3,I s0.fSize),(5,I 0)] ?_
  refine bk 2 ?_
  obtain ⟨fl,a9,h⟩ := Qdd h
  have hL := Ke5 _ _ a9 c hc
  refine lp ?_
  rcases fl with ⟨⟩ | r
  ·refine WpL.into (e := (.exit 2)) (mkS [] []) hL ?_
   refine Qcr ?_
   refine rs0 hc 1 [(2,.bool true)] [] ?_
   refine rt ?_
   obtain rfl := os h
   exact rq [true]
  refine WpL.mono hL ?_
  rintro _ _ ⟨rfl,hfin⟩
  obtain rfl := os h
  exact ⟨.inl rfl,hfin⟩
 refine WpL.mono hL ?_
 rintro _ _ ⟨rfl,hfin⟩
 obtain rfl := os h
 exact ⟨.inl rfl,hfin⟩
def Ke9 (p : K00 × (List Int)) : Option (Bool) :=
 match p with
 | (s0,ty1) =>
  ((
  (Kct (s0,ty1)) >>= fun a0 =>
  if a0 = true then
  (Ke6 s0) >>= fun a1 =>
  some (a1)
  else
  some (false)
  ) : Option (Bool)) >>= fun a2 =>
  some a2
def Kea (p : K00 × (List Int)) (r : Bool) : Prop :=
 match p with
 | (s0,ty1) => Q71 Tryz.prog 17 [K1t s0,sI ty1] (.bool r) []
theorem Keb : ∀ p r,Ke9 p = some r → Kea p r := by
 rintro ⟨s0,ty1⟩ r h
 unfold Ke9 at h
 refine b0 Tryz.f17 B17 12 [(0,K1t s0),(1,sI ty1)] fun c hc => ?_
 refine rs hc none [some (.new 1),oN] [(1,sI ty1),(2,.ra 1 0)] [(1,K1s s0)] tv ?_
 refine sN ?_
 obtain ⟨a0,a1,h⟩ := Qdd h
 refine Wp.into (x := .normal) (mkS [(4,.bool a0)] []) ?_ ?_
 ·replace h := a1
  obtain ⟨a2,a3,h⟩ := Qdd h
  rcases is h with ⟨a4,h⟩ | ⟨a4,h⟩
  ·obtain ⟨a5,a6,h⟩ := Qdd h
   refine rg hc none [oN,oN,oc (.bool a2),oN,oN,oc (.bool a5),oT,oN] [(4,.bool a5)] [] (cq (Kcv _ _ a3) K4q (ar 2 a4 (cq (Ke8 _ _ a6) K50 (ai a4 tv)))) ?_
   obtain rfl := os h
   exact Qcz.mk
  refine rg hc none [oN,oN,oc (.bool a2),oN,o_,o_,oF,oN] [(4,.bool false)] [] (cq (Kcv _ _ a3) K4q (ar 2 (neT a4) (ai a4 tv))) ?_
  obtain rfl := os h
  exact Qcz.mk
 clear a1
 refine rt ?_
 obtain rfl := os h
 exact rq [true]
def Kec (c : Ctx) : LL → Exit → Q0a → Prop
 | a0 => Qcz c (.exit 0) (mkS [(3,.rs 3)] [(3,.arr (List.map K11 a0))])
def Ked (p : (List Int) × LL × Int) : Option (LL) :=
 match p with
 | (ty0,a0,a1) =>
  if (decide (a1 < (ty0.length : Int))) = true then
  (Kcg (ty0,a1)) >>= fun a2 =>
  (cut ty0 (some a1) (some a2) (some a2)) >>= fun a3 =>
  (Qdq (a0.length + [a3].length) 24) >>= fun _ =>
  Ked (ty0,(a0 ++ [a3]),a2)
  else
  some (a0)
 partial_fixpoint
def Kee (p : (List Int) × LL × Int) (fl : LL) : Prop :=
 match p with
 | (ty0,a0,a1) => ∀ c : Ctx,c.nt = 23 → WpL Tryz.prog c (cl (cl (cr (cl (cr (cr K52)))))) (Kec c fl) (mkS [(0,sI ty0),(3,.rs 3),(4,I a1)] [(3,.arr (List.map K11 a0))])
theorem Kef : ∀ p r,Ked p = some r → Kee p r := by
 refine Ked.partial_correctness Kee ?_
 rintro impl_parts_l0_f impl_parts_l0_ih ⟨ty0,a0,a1⟩ r h
 intro c hc
 refine WpL.step ?_
 refine sN ?_
 refine rss hc none [oN,oN,some (.eqv (.no) ⟨[(8,I (ty0.length : Int))],[],[]⟩),oN] [(0,sI ty0),(3,.rs 3),(4,I a1),(9,.bool (decide (a1 < (ty0.length : Int))))] (ai (Qdj (d := 8) I ty0) tv) ?_
 refine ic h (fun a2 h => ?_) fun a2 h => ?_
 ·refine sk ?_
  refine bk 1 ?_
  obtain ⟨a3,a4,h⟩ := Qdd h
  refine rss hc none [oN,oN,oc (I a3),oN] [(0,sI ty0),(3,.rs 3),(4,I a1),(5,I a3)] (cq (Kci _ _ a4) K4l tv) ?_
  obtain ⟨a5,a6,_,a7,h⟩ := bq2 h
  refine rs hc none [oN,oN,oN,oN,oN,some (.eqv (.no) ⟨[(18,sI a5)],[],[]⟩),some (.mk 6 false),some (.eqv (.mk 7 true) ⟨[(20,.rs 7)],[(7,some (.arr (List.map K11 (a0 ++ [a5])))),(3,none),(6,none)],[7]⟩),oN] [(0,sI ty0),(3,.rs 7),(5,I a3)] [(7,.arr (List.map K11 (a0 ++ [a5])))] (ad (Qdm (d := 18) I a6) (Qdl (enc := I) (sz := 1) Qdw a6) (congrArg (fun z => (⟨[(20,.rs 7)],[(7,some (.arr z)),(3,none),(6,none)],[7]⟩ : Wr)) ((List.map_append).symm : (List.map K11 a0) ++ (List.map K11 [a5]) = List.map K11 (a0 ++ [a5]))) (Qdr (enc1 := K11) (enc2 := K11) (e1 := a0) (e2 := [a5]) (sz := 1) K14 K14 a7) tv) ?_
  refine K7j hc 2 [(0,sI ty0),(3,.rs 7),(4,I a3)] ?_
  refine Qcv ?_
  exact WpL.view (fun a w hv => SRx.renL [(3,7)] hv (by kernel_rfl) (by kernel_rfl) (by kernel_rfl)) (impl_parts_l0_ih _ _ h c hc)
 refine xt 0 ?_
 refine Qcp ?_
 refine Qcw ?_
 obtain rfl := os h
 exact iv []
def Keg (ty0 : (List Int)) : Option (LL) :=
 (Ked (ty0,[],1)) >>= fun a0 =>
 some a0
def Keh (ty0 : (List Int)) (r : LL) : Prop :=
 Q71 Tryz.prog 158 [sI ty0] (.osl (List.map K11 r)) []
theorem Kei : ∀ p r,Keg p = some r → Keh p r := by
 rintro ty0 r h
 unfold Keg at h
 refine b0 Tryz.f158 K52 23 [(0,sI ty0)] fun c hc => ?_
 refine rs0 hc 1 [(0,sI ty0)] [] ?_
 refine rs0 hc 1 [(0,sI ty0),(3,.nils)] [] ?_
 refine sN ?_
 refine rs0 hc 1 [(0,sI ty0),(3,.nils),(4,I 1)] [] ?_
 refine bk 0 ?_
 obtain ⟨a0,a1,h⟩ := Qdd h
 have hL := Kef _ _ a1 c hc
 refine Wp.loopN (by kernel_rfl) (WpL.view (fun a w hv => SRx.renL [(3,8)] (SRx.nilTL 3 8 hv (by kernel_rfl) (by kernel_rfl)) (by kernel_rfl) (by kernel_rfl) (by kernel_rfl)) (?_ : WpL _ c _ _ (mkS [(0,sI ty0),(3,.rs 3),(4,I 1)] [(3,.arr (List.map K11 []))])))
 refine WpL.into (e := (.exit 0)) (mkS [(3,.rs 3)] [(3,.arr (List.map K11 a0))]) hL ?_
 refine Qcr ?_
 refine K7k hc 2 [(2,.rs 3)] ?_
 refine rt ?_
 obtain rfl := os h
 exact rq [true]
def Kej (s0 : (List Int)) : Option ((List Int)) :=
 (Qdq (([] : List Int).length + s0.length) 8) >>= fun _ =>
 some s0
def Kek (s0 : (List Int)) (r : (List Int)) : Prop :=
 Q71 Tryz.prog 88 [sI s0] (oI r) []
theorem Kel : ∀ p r,Kej p = some r → Kek p r := by
 rintro s0 r h
 unfold Kej at h
 refine b0 Tryz.f88 B88 8 [(0,sI s0)] fun c hc => ?_
 refine rs0 hc 1 [(0,sI s0)] [] ?_
 refine sN ?_
 refine rs0 hc 2 [(0,sI s0),(4,.nilq (List.map I s0))] [] ?_
 refine Wp.condNil (xs := List.map I s0) (by kernel_rfl) (by kernel_rfl) (fun hn => ?_) ?_
 ·replace hn := List.map_eq_nil_iff.1 hn
  replace h : (some []) = some r := by rw [hn] at h; simpa [Qdq,chk] using h
  refine rs0 hc 1 [(2,.nils)] [] ?_
  refine rt ?_
  obtain rfl := os h
  exact rq [true]
 refine sk ?_
 obtain ⟨_,a0,h⟩ := Qdd h
 refine rs hc none [some (.mk 1 true),oN,some (.eqv (.mk 2 true) ⟨[(7,.rs 2)],[(2,some (rI s0)),(1,none)],[2]⟩),oN] [(2,.rs 2)] [(2,rI s0)] (ab (congrArg (fun z => (⟨[(7,.rs 2)],[(2,some (.arr z)),(1,none)],[2]⟩ : Wr)) (List.nil_append _ : [] ++ (List.map I s0) = List.map I s0)) (Qdr (enc1 := I) (enc2 := I) (e1 := []) (e2 := s0) (sz := 1) Qe0 Qe0 a0) tv) ?_
 refine rt ?_
 obtain rfl := os h
 exact rq [true]
def Kem (ty0 : (List Int)) : Option (K02) :=
 (idx ty0 0) >>= fun a0 =>
 (Kcd a0) >>= fun (a1,a2) =>
 (Keg ty0) >>= fun a3 =>
 if (a1 == 1) = true then
 (idx a3 0) >>= fun a4 =>
 (Kem a4) >>= fun a5 =>
 (idx a3 1) >>= fun a6 =>
 (Kem a6) >>= fun a7 =>
 some (K02.mk 4 0 [] [a5,a7])
 else
 if (a1 == 2) = true then
 (idx a3 1) >>= fun a8 =>
 (Kej a8) >>= fun a9 =>
 (idx a3 0) >>= fun b1 =>
 (Kem b1) >>= fun b2 =>
 some (K02.mk 6 0 a9 [b2])
 else
 if (a1 == 3) = true then
 (idx a3 0) >>= fun b3 =>
 (Kej b3) >>= fun b4 =>
 (idx a3 1) >>= fun b5 =>
 (Kem b5) >>= fun b6 =>
 some (K02.mk 9 a2 b4 [b6])
 else
 if (a1 == 4) = true then
 (idx a3 0) >>= fun b7 =>
 (Kem b7) >>= fun b8 =>
 some (K02.mk 11 a2 [] [b8])
 else
 some (K02.mk 1 0 [] [])
 partial_fixpoint
def Ken (ty0 : (List Int)) (r : K02) : Prop :=
 Q71 Tryz.prog 77 [sI ty0] (K26 r) []
theorem Keo : ∀ p r,Kem p = some r → Ken p r := by
 refine Kem.partial_correctness Ken ?_
 rintro impl_defaultOf_f impl_defaultOf_ih ty0 r h
 refine b0 Tryz.f77 B77 63 [(0,sI ty0)] fun c hc => ?_
 refine rs hc none [some (.new 1)] [(0,sI ty0),(2,.ra 1 0)] [(1,.box [I 0,I 0,.nils,.nils])] tv ?_
 obtain ⟨a0,a1,⟨a2,a3⟩,a4,h⟩ := bq2 h
 refine rss hc none [oN,some (.el (I a0)),oN,oc (.tup [I a2,I a3]),oN,oN,oN,oN,oN] [(0,sI ty0),(2,.ra 1 0),(3,I a2),(4,I a3)] (ai (ix a1) (cq (Kcf _ _ a4) K4j tv)) ?_
 obtain ⟨a5,a6,h⟩ := Qdd h
 refine rs hc none [oN,some (.call (.osl (List.map K11 a5)) [] 2),oN] [(2,.ra 1 0),(3,I a2),(4,I a3),(5,.rs 2)] [(1,.box [I 0,I 0,.nils,.nils]),(2,.arr (List.map K11 a5))] (cq (Kei _ _ a6) K53 tv) ?_
 refine sN ?_
 refine K7k hc 1 [(2,.ra 1 0),(4,I a3),(5,.rs 2),(15,I a2)] ?_
 refine bk 0 ?_
 refine K7k hc 2 [(2,.ra 1 0),(4,I a3),(5,.rs 2),(15,I a2),(16,.bool (a2 == 1))] ?_
 refine ic h (fun a7 h => ?_) fun a7 h => ?_
 ·obtain ⟨a8,a9,b1,b2,b3,b4,b5,b6,h⟩ := bq4 h
  refine rs hc Kdy [oN,oN,some (.el (sI a8)),some (.call (K26 b1) [] 3),oN,oN,some (.el (sI b3)),some (.call (K26 b5) [] 5),some (.eqv (.mk 7 true) ⟨[(26,.rs 7)],[(7,some (.arr (List.map K0l [b1,b5]))),(3,none),(4,none),(5,none),(6,none)],[7]⟩),oN,oN] [(2,.ra 1 0)] [(1,.box [I 4,I 0,.nils,.rs 7]),(7,.arr (List.map K0l [b1,b5]))] (ab (Qdi (enc := K11) a9) (xL a9).2 (cq (impl_defaultOf_ih _ _ b2) K54 (ab (Qdi (enc := K11) b4) (xL b4).2 (cq (impl_defaultOf_ih _ _ b6) K54 (ai (congrArg (fun z => (⟨[(26,.rs 7)],[(7,some (.arr z)),(3,none),(4,none),(5,none),(6,none)],[7]⟩ : Wr)) ((Qek (K0r b1) (Qek (K0r b5) Qej)) : [AV.agg [I b1.fOp,I b1.fN,oI b1.fType,AV.osl (List.map K0l b1.fKids)],AV.agg [I b5.fOp,I b5.fN,oI b5.fType,AV.osl (List.map K0l b5.fKids)]] = List.map K0l [b1,b5])) tv))))) ?_
  refine rt ?_
  obtain rfl := os h
  exact rq [true]
 refine K7k hc 2 [(2,.ra 1 0),(4,I a3),(5,.rs 2),(15,I a2),(28,.bool (a2 == 2))] ?_
 refine ic h (fun b7 h => ?_) fun b7 h => ?_
 ·obtain ⟨b8,b9,c0,c1,c2,c3,c4,c5,h⟩ := bq4 h
  refine rs hc Kdy [oN,oN,some (.el (sI b8)),some (.call (oI c0) [] 8),oN,oN,some (.el (sI c2)),some (.call (K26 c4) [] 9),some (.eqv (.mk 11 true) ⟨[(38,.rs 11)],[(11,some (.arr (List.map K0l [c4]))),(9,none),(10,none)],[11]⟩),oN,oN] [(2,.ra 1 0)] [(1,.box [I 6,I 0,.rs 8,.rs 11]),(8,rI c0),(11,.arr (List.map K0l [c4]))] (ab (Qdi (enc := K11) b9) (xL b9).2 (cq (Kel _ _ c1) K55 (ab (Qdi (enc := K11) c3) (xL c3).2 (cq (impl_defaultOf_ih _ _ c5) K54 (ai (congrArg (fun z => (⟨[(38,.rs 11)],[(11,some (.arr z)),(9,none),(10,none)],[11]⟩ : Wr)) ((Qek (K0r c4) Qej) : [AV.agg [I c4.fOp,I c4.fN,oI c4.fType,AV.osl (List.map K0l c4.fKids)]] = List.map K0l [c4])) tv))))) ?_
  refine rt ?_
  obtain rfl := os h
  exact rq [true]
 refine K7k hc 2 [(2,.ra 1 0),(4,I a3),(5,.rs 2),(15,I a2),(40,.bool (a2 == 3))] ?_
 refine ic h (fun c6 h => ?_) fun c6 h => ?_
 ·obtain ⟨c7,c8,c9,d0,d1,d2,d3,d4,h⟩ := bq4 h
  refine rs hc (rx [[0],[0],[0,1],[0,1,2],[0,1,2,3],[0],[0,5],[0,5,6],[0,1,2,3,4,5,6,7],[0,1,2,3,4,5,6,7,8],[10],[11]]) [oN,oN,oN,some (.el (sI c7)),some (.call (oI c9) [] 12),oN,oN,some (.el (sI d1)),some (.call (K26 d3) [] 13),some (.eqv (.mk 15 true) ⟨[(51,.rs 15)],[(15,some (.arr (List.map K0l [d3]))),(13,none),(14,none)],[15]⟩),oN,oN] [(2,.ra 1 0)] [(1,.box [I 9,I a3,.rs 12,.rs 15]),(12,rI c9),(15,.arr (List.map K0l [d3]))] (ab (Qdi (enc := K11) c8) (xL c8).2 (cq (Kel _ _ d0) K55 (ab (Qdi (enc := K11) d2) (xL d2).2 (cq (impl_defaultOf_ih _ _ d4) K54 (ai (congrArg (fun z => (⟨[(51,.rs 15)],[(15,some (.arr z)),(13,none),(14,none)],[15]⟩ : Wr)) ((Qek (K0r d3) Qej) : [AV.agg [I d3.fOp,I d3.fN,oI d3.fType,AV.osl (List.map K0l d3.fKids)]] = List.map K0l [d3])) tv))))) ?_
  refine rt ?_
  obtain rfl := os h
  exact rq [true]
 refine K7k hc 2 [(2,.ra 1 0),(4,I a3),(5,.rs 2),(53,.bool (a2 == 4))] ?_
 refine ic h (fun d5 h => ?_) fun d5 h => ?_
 ·obtain ⟨d6,d7,d8,d9,h⟩ := bq2 h
  refine rs hc none [oN,oN,oN,some (.el (sI d6)),some (.call (K26 d8) [] 16),some (.eqv (.mk 18 true) ⟨[(60,.rs 18)],[(18,some (.arr (List.map K0l [d8]))),(16,none),(17,none)],[18]⟩),oN,oN] [(2,.ra 1 0)] [(1,.box [I 11,I a3,.nils,.rs 18]),(18,.arr (List.map K0l [d8]))] (ab (Qdi (enc := K11) d7) (xL d7).2 (cq (impl_defaultOf_ih _ _ d9) K54 (ai (congrArg (fun z => (⟨[(60,.rs 18)],[(18,some (.arr z)),(16,none),(17,none)],[18]⟩ : Wr)) ((Qek (K0r d8) Qej) : [AV.agg [I d8.fOp,I d8.fN,oI d8.fType,AV.osl (List.map K0l d8.fKids)]] = List.map K0l [d8])) tv))) ?_
  refine rt ?_
  obtain rfl := os h
  exact rq [true]
 refine sk ?_
 refine rs0 hc 2 [(2,.ra 1 0)] [(1,.box [I 1,I 0,.nils,.nils])] ?_
 refine rt ?_
 obtain rfl := os h
 exact rq [true]
def Kep (p : K00 × (List Int)) : Option (K02 × Bool) :=
 match p with
 | (s0,ty1) =>
  (Ke9 (s0,ty1)) >>= fun a0 =>
  if a0 = true then
  (Kem ty1) >>= fun a1 =>
  some (a1,true)
  else
  some ((K02.mk 0 0 [] []),false)
def Keq (p : K00 × (List Int)) (r : K02 × Bool) : Prop :=
 match p with
 | (s0,ty1) => Q71 Tryz.prog 16 [K1t s0,sI ty1] (.tup [.agg [I r.1.fOp,I r.1.fN,.osl (List.map I r.1.fType),.osl (List.map K0l r.1.fKids)],.bool r.2]) []
theorem Ker : ∀ p r,Kep p = some r → Keq p r := by
 rintro ⟨s0,ty1⟩ r h
 unfold Kep at h
 refine b0 Tryz.f16 B16 13 [(0,K1t s0),(1,sI ty1)] fun c hc => ?_
 refine rs hc none [some (.new 1),some (.new 2),oN] [(1,sI ty1),(2,.ra 1 0),(4,.ra 2 0)] [(1,K1s s0),(2,.box [I 0,I 0,.nils,.nils])] tv ?_
 refine sN ?_
 obtain ⟨a0,a1,h⟩ := Qdd h
 refine rs hc none [oN,oN,oc (.bool a0),oN] [(1,sI ty1),(4,.ra 2 0),(9,.bool (!a0))] [(2,.box [I 0,I 0,.nils,.nils])] (cq (Keb _ _ a1) K51 tv) ?_
 rcases is h with ⟨a2,h⟩ | ⟨a2,h⟩
 ·refine cF (!a0) (nF a2) ?_
  refine sk ?_
  obtain ⟨a3,a4,h⟩ := Qdd h
  refine rs hc none [oN,some (.call (K26 a3) [] 3),oN,oN] [(4,.ra 2 0),(5,.bool true)] [(2,.box [I a3.fOp,I a3.fN,.rs 3,.rs 4]),(3,rI a3.fType),(4,.arr (List.map K0l a3.fKids))] (cq (Keo _ _ a4) K54 tv) ?_
  refine rt ?_
  obtain rfl := os h
  exact rq [true,true]
 refine cT (!a0) (nT a2) ?_
 refine K7k hc 3 [(4,.ra 2 0),(5,.bool false)] ?_
 refine rt ?_
 obtain rfl := os h
 exact rq [true,true]
def Kes (c0 : Int) : Option (Bool) :=
 (Kcd c0) >>= fun (a0,a1) =>
 some (a0 == 3)
def Ket (c0 : Int) (r : Bool) : Prop :=
 Q71 Tryz.prog 170 [I c0] (.bool r) []
theorem Keu : ∀ p r,Kes p = some r → Ket p r := by
 rintro c0 r h
 unfold Kes at h
 refine b0 Tryz.f170 K57 12 [(0,I c0)] fun c hc => ?_
 refine rs0 hc 1 [(0,I c0)] [] ?_
 obtain ⟨⟨a0,a1⟩,a2,h⟩ := Qdd h
 refine rs hc none [oN,oc (.tup [I a0,I a1]),oN,oN,oN,oN,oN] [(3,I a0)] [] (cq (Kcf _ _ a2) K4j tv) ?_
 refine rs0 hc 3 [(2,.bool (a0 == 3))] [] ?_
 refine rt ?_
 obtain rfl := os h
 exact rq [true]
def Kev (c : Ctx) : (Unit) ⊕ (Int) → Exit → Q0a → Prop
 | .inl _ => Qcz c (.exit 0) (mkS [] [])
 | .inr r => Qd8 TIx Tryz.f193 [] (I r)
def Kew (p : (List Int) × Int) : Option ((Unit) ⊕ (Int)) :=
 match p with
 | (s0,a0) =>
  if (decide (a0 < (s0.length : Int))) = true then
  (idx s0 a0) >>= fun a1 =>
  (Kes a1) >>= fun a2 =>
  if a2 = true then
  some (.inr a0)
  else
  Kew (s0,(wr (a0 + 1)))
  else
  some (.inl ())
 partial_fixpoint
def Kex (p : (List Int) × Int) (fl : (Unit) ⊕ (Int)) : Prop :=
 match p with
 | (s0,a0) => ∀ c : Ctx,c.nt = 19 → WpL Tryz.prog c (cl (cl (cr (cl (cr K59))))) (Kev c fl) (mkS [(0,sI s0),(1,.fn 170 []),(7,I (s0.length : Int)),(8,I a0)] [])
theorem Key : ∀ p r,Kew p = some r → Kex p r := by
 refine Kew.partial_correctness Kex ?_
 rintro slices_IndexFunc_int_Kimpl_isDataOf_c1_l0_f slices_IndexFunc_int_Kimpl_isDataOf_c1_l0_ih ⟨s0,a0⟩ r h
 intro c hc
 refine WpL.step ?_
 refine rs0 hc 1 [(0,sI s0),(1,.fn 170 []),(7,I (s0.length : Int)),(8,I a0),(9,.bool (decide (a0 < (s0.length : Int))))] [] ?_
 refine sN ?_
 refine ic h (fun a1 h => ?_) fun a1 h => ?_
 ·refine sk ?_
  refine sN ?_
  refine bk 1 ?_
  refine rs0 hc 2 [(0,sI s0),(1,.fn 170 []),(5,I a0),(7,I (s0.length : Int)),(8,I a0)] [] ?_
  obtain ⟨a2,a3,a4,a5,h⟩ := bq2 h
  refine rs hc none [oN,oN,oN,some (.el (I a2)),oN,oc (.bool a4)] [(0,sI s0),(1,.fn 170 []),(5,I a0),(7,I (s0.length : Int)),(8,I a0),(16,.bool a4)] [] (ai (ix a3) (cq (Keu _ _ a5) K58 tv)) ?_
  refine ic h (fun a6 h => ?_) fun a6 h => ?_
  ·refine rs0 hc 2 [(4,I a0)] [] ?_
   refine rt ?_
   obtain rfl := os h
   exact re [true]
  refine sk ?_
  refine rg0 hc 2 [(0,sI s0),(1,.fn 170 []),(7,I (s0.length : Int)),(8,I (wr (a0 + 1)))] [] ?_
  refine Qcv ?_
  exact (slices_IndexFunc_int_Kimpl_isDataOf_c1_l0_ih _ _ h c hc)
 refine xt 0 ?_
 refine Qcp ?_
 refine Qcw ?_
 obtain rfl := os h
 exact iv []
def Kez (s0 : (List Int)) : Option (Int) :=
 (Kew (s0,0)) >>= fun fl => match fl with
 | .inl () =>
  some (-1)
 | .inr r =>
  some r
def Kf0 (s0 : (List Int)) (r : Int) : Prop :=
 Q71 Tryz.prog 193 [sI s0,.fn 170 []] (I r) []
theorem Kf1 : ∀ p r,Kez p = some r → Kf0 p r := by
 rintro s0 r h
 unfold Kez at h
 refine b0 Tryz.f193 K59 19 [(0,sI s0),(1,.fn 170 [])] fun c hc => ?_
 refine rs0 hc 1 [(0,sI s0),(1,.fn 170 [])] [] ?_
 refine sN ?_
 refine rs hc none [oN,some (.eqv (.no) ⟨[(7,I (s0.length : Int))],[],[]⟩),oN] [(0,sI s0),(1,.fn 170 []),(7,I (s0.length : Int)),(8,I 0)] [] (ai (Qdj (d := 7) I s0) tv) ?_
 refine bk 0 ?_
 obtain ⟨fl,a0,h⟩ := Qdd h
 have hL := Key _ _ a0 c hc
 refine lp ?_
 rcases fl with ⟨⟩ | r
 ·refine WpL.into (e := (.exit 0)) (mkS [] []) hL ?_
  refine Qcr ?_
  refine rs0 hc 1 [(4,I (-1))] [] ?_
  refine rt ?_
  obtain rfl := os h
  exact rq [true]
 refine WpL.mono hL ?_
 rintro _ _ ⟨rfl,hfin⟩
 obtain rfl := os h
 exact ⟨.inl rfl,hfin⟩
def Kf2 (s0 : (List Int)) : Option (Bool) :=
 (Kez s0) >>= fun a0 =>
 some (decide (a0 ≥ 0))
def Kf3 (s0 : (List Int)) (r : Bool) : Prop :=
 Q71 Tryz.prog 116 [sI s0,.fn 170 []] (.bool r) []
theorem Kf4 : ∀ p r,Kf2 p = some r → Kf3 p r := by
 rintro s0 r h
 unfold Kf2 at h
 refine b0 Tryz.f116 K5b 9 [(0,sI s0),(1,.fn 170 [])] fun c hc => ?_
 refine rs0 hc 1 [(0,sI s0),(1,.fn 170 [])] [] ?_
 obtain ⟨a0,a1,h⟩ := Qdd h
 refine rs hc none [oN,oN,oc (I a0),oN,oN] [(4,.bool (decide (a0 ≥ 0)))] [] (cq (Kf1 _ _ a1) K5a tv) ?_
 refine rt ?_
 obtain rfl := os h
 exact rq [true]
def Kf5 (p : K00 × (List Int)) : Option (Bool) :=
 match p with
 | (s0,ty1) =>
  ((
  (Kct (s0,ty1)) >>= fun a0 =>
  if a0 = true then
  (Kf2 ty1) >>= fun a1 =>
  some ((!a1))
  else
  some (false)
  ) : Option (Bool)) >>= fun a2 =>
  some a2
def Kf6 (p : K00 × (List Int)) (r : Bool) : Prop :=
 match p with
 | (s0,ty1) => Q71 Tryz.prog 83 [K1t s0,sI ty1] (.bool r) []
theorem Kf7 : ∀ p r,Kf5 p = some r → Kf6 p r := by
 rintro ⟨s0,ty1⟩ r h
 unfold Kf5 at h
 refine b0 Tryz.f83 B83 13 [(0,K1t s0),(1,sI ty1)] fun c hc => ?_
 refine rs hc none [some (.new 1),oN] [(1,sI ty1),(2,.ra 1 0)] [(1,K1s s0)] tv ?_
 refine sN ?_
 obtain ⟨a0,a1,h⟩ := Qdd h
 refine Wp.into (x := .normal) (mkS [(4,.bool a0)] []) ?_ ?_
 ·replace h := a1
  obtain ⟨a2,a3,h⟩ := Qdd h
  rcases is h with ⟨a4,h⟩ | ⟨a4,h⟩
  ·obtain ⟨a5,a6,h⟩ := Qdd h
   refine rg hc none [oN,oN,oc (.bool a2),oN,oN,oc (.bool a5),oN,oT,oN] [(4,.bool (!a5))] [] (cq (Kcv _ _ a3) K4q (ar 2 a4 (cq (Kf4 _ _ a6) K5c (ar 2 a4 tv)))) ?_
   obtain rfl := os h
   exact Qcz.mk
  refine rg hc none [oN,oN,oc (.bool a2),oN,o_,o_,o_,oF,oN] [(4,.bool false)] [] (cq (Kcv _ _ a3) K4q (ar 3 (neT a4) (ai a4 tv))) ?_
  obtain rfl := os h
  exact Qcz.mk
 clear a1
 refine rt ?_
 obtain rfl := os h
 exact rq [true]
def Kf8 (p : K00 × (List Int)) : Option (Bool) :=
 match p with
 | (s0,ty1) =>
  ((
  (Kf5 (s0,ty1)) >>= fun a0 =>
  if a0 = true then
  (Ke6 s0) >>= fun a1 =>
  some (a1)
  else
  some (false)
  ) : Option (Bool)) >>= fun a2 =>
  some a2
def Kf9 (p : K00 × (List Int)) (r : Bool) : Prop :=
 match p with
 | (s0,ty1) => Q71 Tryz.prog 19 [K1t s0,sI ty1] (.bool r) []
theorem Kfa : ∀ p r,Kf8 p = some r → Kf9 p r := by
 rintro ⟨s0,ty1⟩ r h
 unfold Kf8 at h
 refine b0 Tryz.f19 B19 12 [(0,K1t s0),(1,sI ty1)] fun c hc => ?_
 refine rs hc none [some (.new 1),oN] [(1,sI ty1),(2,.ra 1 0)] [(1,K1s s0)] tv ?_
 refine sN ?_
 obtain ⟨a0,a1,h⟩ := Qdd h
 refine Wp.into (x := .normal) (mkS [(4,.bool a0)] []) ?_ ?_
 ·replace h := a1
  obtain ⟨a2,a3,h⟩ := Qdd h
  rcases is h with ⟨a4,h⟩ | ⟨a4,h⟩
  ·obtain ⟨a5,a6,h⟩ := Qdd h
   refine rg hc none [oN,oN,oc (.bool a2),oN,oN,oc (.bool a5),oT,oN] [(4,.bool a5)] [] (cq (Kf7 _ _ a3) K5d (ar 2 a4 (cq (Ke8 _ _ a6) K50 (ai a4 tv)))) ?_
   obtain rfl := os h
   exact Qcz.mk
  refine rg hc none [oN,oN,oc (.bool a2),oN,o_,o_,oF,oN] [(4,.bool false)] [] (cq (Kf7 _ _ a3) K5d (ar 2 (neT a4) (ai a4 tv))) ?_
  obtain rfl := os h
  exact Qcz.mk
 clear a1
 refine rt ?_
 obtain rfl := os h
 exact rq [true]
def Kfb (c : Ctx) : (Unit) ⊕ (Bool) → Exit → Q0a → Prop
 | .inl _ => Qcz c (.exit 0) (mkS [] [])
 | .inr r => Qd8 TIx Tryz.f144 [] (.bool r)
def Kfc : Option (List (List Nat)) := rx [[0],[1],[2],[3],[4],[5],[6],[7],[8],[9],[10],[11],[12],[13],[14],[15],[16],[17],[18],[19],[20],[21],[22],[23],[21],[21,24],[21,24,25],[21,24,25,26],[28],[29],[30],[31],[32],[33],[31],[31,34],[31,34,35],[31,34,35,36],[38],[39],[40]]
def Kfd : Option (List (List Nat)) := rx [[0],[1],[0],[0],[0,3],[0,2,3,4],[0,2,3,4,5],[7],[8],[9],[9],[11],[12],[9],[9,13],[9,13,14],[9,13,14,15],[17],[18],[19]]
def Kfe : Option (List (List Nat)) := rx [[0],[1],[2],[3],[4],[5],[4],[7],[8],[9],[10],[11],[12],[13],[14],[15],[16],[17],[18],[19],[20],[21],[22],[23],[24],[22],[22,25],[22,25,26],[22,25,26,27],[29],[30],[31]]
def Kff : Option (List (List Nat)) := rx [[0],[1],[2],[3],[0],[0,4],[0,4,5],[7],[8],[9]]
def Kfg (p : (List Int) × (List Int) × Int) : Option ((Unit) ⊕ (Bool)) :=
 match p with
 | (s10,s21,a0) =>
  if (decide (a0 < (s10.length : Int))) = true then
  (idx s10 a0) >>= fun a1 =>
  (idx s21 a0) >>= fun a2 =>
  if (a1 != a2) = true then
  some (.inr false)
  else
  Kfg (s10,s21,(wr (a0 + 1)))
  else
  some (.inl ())
 partial_fixpoint
def Kfh (p : (List Int) × (List Int) × Int) (fl : (Unit) ⊕ (Bool)) : Prop :=
 match p with
 | (s10,s21,a0) => ∀ c : Ctx,c.nt = 26 → WpL Tryz.prog c (cl (cl (cr (cl (cr (cr K5g)))))) (Kfb c fl) (mkS [(0,sI s10),(1,sI s21),(12,I (s10.length : Int)),(13,I a0)] [])
theorem Kfi : ∀ p r,Kfg p = some r → Kfh p r := by
 refine Kfg.partial_correctness Kfh ?_
 rintro slices_Equal_int_l0_f slices_Equal_int_l0_ih ⟨s10,s21,a0⟩ r h
 intro c hc
 refine WpL.step ?_
 refine rs0 hc 1 [(0,sI s10),(1,sI s21),(12,I (s10.length : Int)),(13,I a0),(14,.bool (decide (a0 < (s10.length : Int))))] [] ?_
 refine sN ?_
 refine ic h (fun a1 h => ?_) fun a1 h => ?_
 ·refine sk ?_
  refine sN ?_
  refine bk 1 ?_
  refine rs0 hc 2 [(0,sI s10),(1,sI s21),(5,I a0),(12,I (s10.length : Int)),(13,I a0)] [] ?_
  obtain ⟨a2,a3,a4,a5,h⟩ := bq2 h
  refine rs hc (rx [[0],[0],[2],[3],[0],[0],[0,4,5],[0,4,5,6],[8]]) [oN,oN,some (.el (I a2)),oN,oN,oN,some (.el (I a4)),oN,oN] [(0,sI s10),(1,sI s21),(12,I (s10.length : Int)),(13,I a0),(24,.bool (a2 != a4))] [] (ab (ix a3) (ix a5) tv) ?_
  refine ic h (fun a6 h => ?_) fun a6 h => ?_
  ·refine rs0 hc 1 [(4,.bool false)] [] ?_
   refine rt ?_
   obtain rfl := os h
   exact re [true]
  refine sk ?_
  refine rg0 hc 2 [(0,sI s10),(1,sI s21),(12,I (s10.length : Int)),(13,I (wr (a0 + 1)))] [] ?_
  refine Qcv ?_
  exact (slices_Equal_int_l0_ih _ _ h c hc)
 refine xt 0 ?_
 refine Qcp ?_
 refine Qcw ?_
 obtain rfl := os h
 exact iv []
def Kfj (p : (List Int) × (List Int)) : Option (Bool) :=
 match p with
 | (s10,s21) =>
  if ((s10.length : Int) != (s21.length : Int)) = true then
  some false
  else
  (Kfg (s10,s21,0)) >>= fun fl => match fl with
  | .inl () =>
   some true
  | .inr r =>
   some r
def Kfk (p : (List Int) × (List Int)) (r : Bool) : Prop :=
 match p with
 | (s10,s21) => Q71 Tryz.prog 144 [sI s10,sI s21] (.bool r) []
theorem Kfl : ∀ p r,Kfj p = some r → Kfk p r := by
 rintro ⟨s10,s21⟩ r h
 unfold Kfj at h
 refine b0 Tryz.f144 K5g 26 [(0,sI s10),(1,sI s21)] fun c hc => ?_
 refine rs0 hc 1 [(0,sI s10),(1,sI s21)] [] ?_
 refine sN ?_
 refine rs hc none [oN,some (.eqv (.no) ⟨[(7,I (s10.length : Int))],[],[]⟩),oN,some (.eqv (.no) ⟨[(9,I (s21.length : Int))],[],[]⟩),oN] [(0,sI s10),(1,sI s21),(10,.bool ((s10.length : Int) != (s21.length : Int)))] [] (ab (Qdj (d := 7) I s10) (Qdj (d := 9) I s21) tv) ?_
 refine ic h (fun a0 h => ?_) fun a0 h => ?_
 ·refine rs0 hc 1 [(4,.bool false)] [] ?_
  refine rt ?_
  obtain rfl := os h
  exact rq [true]
 refine sk ?_
 refine sN ?_
 refine rs hc none [oN,some (.eqv (.no) ⟨[(12,I (s10.length : Int))],[],[]⟩),oN] [(0,sI s10),(1,sI s21),(12,I (s10.length : Int)),(13,I 0)] [] (ai (Qdj (d := 12) I s10) tv) ?_
 refine bk 0 ?_
 obtain ⟨fl,a1,h⟩ := Qdd h
 have hL := Kfi _ _ a1 c hc
 refine lp ?_
 rcases fl with ⟨⟩ | r
 ·refine WpL.into (e := (.exit 0)) (mkS [] []) hL ?_
  refine Qcr ?_
  refine rs0 hc 1 [(4,.bool true)] [] ?_
  refine rt ?_
  obtain rfl := os h
  exact rq [true]
 refine WpL.mono hL ?_
 rintro _ _ ⟨rfl,hfin⟩
 obtain rfl := os h
 exact ⟨.inl rfl,hfin⟩
def Kfm (p : (List Int) × K02) : Option (Bool) :=
 match p with
 | (ty0,v1) =>
  (idx ty0 0) >>= fun a0 =>
  (Kcd a0) >>= fun (a1,a2) =>
  (Keg ty0) >>= fun a3 =>
  if (a1 == 0) = true then
  ((
  if (v1.fOp == 1) = true then
  (Kca (v1.fN,0,2)) >>= fun a4 =>
  if a4 = true then
  if ((v1.fType.length : Int) == 0) = true then
  some (((v1.fKids.length : Int) == 0))
  else
  some (false)
  else
  some (false)
  else
  some (false)
  ) : Option (Bool)) >>= fun a5 =>
  some a5
  else
  if (a1 == 1) = true then
  ((
  if (v1.fOp == 4) = true then
  if (v1.fN == 0) = true then
  if ((v1.fType.length : Int) == 0) = true then
  if ((v1.fKids.length : Int) == 2) = true then
  (idx a3 0) >>= fun a6 =>
  (idx v1.fKids 0) >>= fun a7 =>
  (Kfm (a6,a7)) >>= fun a8 =>
  if a8 = true then
  (idx a3 1) >>= fun a9 =>
  (idx v1.fKids 1) >>= fun b1 =>
  (Kfm (a9,b1)) >>= fun b2 =>
  some (b2)
  else
  some (false)
  else
  some (false)
  else
  some (false)
  else
  some (false)
  else
  some (false)
  ) : Option (Bool)) >>= fun b3 =>
  some b3
  else
  if (a1 == 2) = true then
  ((
  if (v1.fN != 0) = true then
  some (true)
  else
  if ((v1.fKids.length : Int) != 1) = true then
  some (true)
  else
  if (v1.fOp != 6) = true then
  some ((v1.fOp != 7))
  else
  some (false)
  ) : Option (Bool)) >>= fun b4 =>
  if b4 = true then
  some false
  else
  ((
  (idx a3 (wr (1 - (wr (v1.fOp - 6))))) >>= fun b5 =>
  (Kfj (v1.fType,b5)) >>= fun b6 =>
  if b6 = true then
  (idx a3 (wr (v1.fOp - 6))) >>= fun b7 =>
  (idx v1.fKids 0) >>= fun b8 =>
  (Kfm (b7,b8)) >>= fun b9 =>
  some (b9)
  else
  some (false)
  ) : Option (Bool)) >>= fun c0 =>
  some c0
  else
  ((
  if (v1.fOp == 11) = true then
  if (v1.fN == a2) = true then
  if ((v1.fType.length : Int) == 0) = true then
  if ((v1.fKids.length : Int) == 1) = true then
  (idx a3 0) >>= fun c1 =>
  (idx v1.fKids 0) >>= fun c2 =>
  (Kfm (c1,c2)) >>= fun c3 =>
  some (c3)
  else
  some (false)
  else
  some (false)
  else
  some (false)
  else
  some (false)
  ) : Option (Bool)) >>= fun c4 =>
  some c4
 partial_fixpoint
def Kfn (p : (List Int) × K02) (r : Bool) : Prop :=
 match p with
 | (ty0,v1) => Q71 Tryz.prog 84 [sI ty0,K1x v1] (.bool r) []
theorem Kfo : ∀ p r,Kfm p = some r → Kfn p r := by
 refine Kfm.partial_correctness Kfn ?_
 rintro impl_isValue_f impl_isValue_ih ⟨ty0,v1⟩ r h
 refine b0 Tryz.f84 B84 157 [(0,sI ty0),(1,K1x v1)] fun c hc => ?_
 refine rs hc none [some (.new 1),oN] [(0,sI ty0),(3,.ra 1 0)] [(1,K1w v1)] tv ?_
 obtain ⟨a0,a1,⟨a2,a3⟩,a4,h⟩ := bq2 h
 refine rss hc none [oN,some (.el (I a0)),oN,oc (.tup [I a2,I a3]),oN,oN,oN,oN,oN] [(0,sI ty0),(3,.ra 1 0),(5,I a2),(6,I a3)] (ai (ix a1) (cq (Kcf _ _ a4) K4j tv)) ?_
 obtain ⟨a5,a6,h⟩ := Qdd h
 refine rs hc none [oN,some (.call (.osl (List.map K11 a5)) [] 2),oN] [(3,.ra 1 0),(5,I a2),(6,I a3),(7,.rs 2)] [(1,K1w v1),(2,.arr (List.map K11 a5))] (cq (Kei _ _ a6) K53 tv) ?_
 refine sN ?_
 refine K7k hc 1 [(3,.ra 1 0),(6,I a3),(7,.rs 2),(18,I a2)] ?_
 refine bk 0 ?_
 refine K7k hc 2 [(3,.ra 1 0),(6,I a3),(7,.rs 2),(18,I a2),(19,.bool (a2 == 0))] ?_
 refine ic h (fun a7 h => ?_) fun a7 h => ?_
 ·refine sN ?_
  obtain ⟨a8,a9,h⟩ := Qdd h
  refine Wp.into (x := .normal) (mkS [(4,.bool a8)] []) ?_ ?_
  ·replace h := a9
   rcases is h with ⟨b1,h⟩ | ⟨b1,h⟩
   ·obtain ⟨b2,b3,h⟩ := Qdd h
    rcases is h with ⟨b4,h⟩ | ⟨b4,h⟩
    ·rcases is h with ⟨b5,h⟩ | ⟨b5,h⟩
     ·refine rg hc none [oN,oN,oN,oN,oN,oN,oc (.bool b2),oT,oN,oN,oN,some (.eqv (.no) ⟨[(32,I (v1.fType.length : Int))],[],[]⟩),oN,oT,oN,oN,oN,some (.eqv (.no) ⟨[(38,I (v1.fKids.length : Int))],[],[]⟩),oN,oT,oN] [(4,.bool ((v1.fKids.length : Int) == 0))] [] (ar 3 b1 (cq (Kcc _ _ b3) K4h (ai b1 (ar 3 b4 (ai (Qdj (d := 32) I v1.fType) (ar 2 b4 (ar 3 b5 (ai (Qdj (d := 38) K0i v1.fKids) (ar 2 b5 tv))))))))) ?_
      obtain rfl := os h
      exact Qcz.mk
     refine rg hc none [oN,oN,oN,oN,oN,oN,oc (.bool b2),oT,oN,oN,oN,some (.eqv (.no) ⟨[(32,I (v1.fType.length : Int))],[],[]⟩),oN,oT,oN,o_,o_,o_,o_,oF,oN] [(4,.bool false)] [] (ar 3 b1 (cq (Kcc _ _ b3) K4h (ai b1 (ar 3 b4 (ai (Qdj (d := 32) I v1.fType) (ar 2 b4 (ar 4 (neT b5) (ai b5 tv)))))))) ?_
     obtain rfl := os h
     exact Qcz.mk
    refine rg hc none [oN,oN,oN,oN,oN,oN,oc (.bool b2),oT,oN,o_,o_,o_,o_,oF,oN,o_,o_,o_,o_,oF,oN] [(4,.bool false)] [] (ar 3 b1 (cq (Kcc _ _ b3) K4h (ai b1 (ar 4 (neT b4) (ai b4 (ar 4 (neT (rfl : false = false)) (ai (rfl : false = false) tv))))))) ?_
    obtain rfl := os h
    exact Qcz.mk
   refine rg hc none [oN,oN,oN,oN,o_,o_,o_,oF,oN,o_,o_,o_,o_,oF,oN,o_,o_,o_,o_,oF,oN] [(4,.bool false)] [] (ar 3 (neT b1) (ai b1 (ar 4 (neT (rfl : false = false)) (ai (rfl : false = false) (ar 4 (neT (rfl : false = false)) (ai (rfl : false = false) tv)))))) ?_
   obtain rfl := os h
   exact Qcz.mk
  clear a9
  refine rt ?_
  obtain rfl := os h
  exact rq [true]
 refine K7k hc 2 [(3,.ra 1 0),(6,I a3),(7,.rs 2),(18,I a2),(41,.bool (a2 == 1))] ?_
 refine ic h (fun b6 h => ?_) fun b6 h => ?_
 ·refine sN ?_
  obtain ⟨b7,b8,h⟩ := Qdd h
  refine Wp.into (x := .normal) (mkS [(4,.bool b7)] []) ?_ ?_
  ·replace h := b8
   rcases is h with ⟨b9,h⟩ | ⟨b9,h⟩
   ·rcases is h with ⟨c0,h⟩ | ⟨c0,h⟩
    ·rcases is h with ⟨c1,h⟩ | ⟨c1,h⟩
     ·rcases is h with ⟨c2,h⟩ | ⟨c2,h⟩
      ·obtain ⟨c3,c4,c5,c6,c7,c8,h⟩ := bq3 h
       rcases is h with ⟨c9,h⟩ | ⟨c9,h⟩
       ·obtain ⟨d0,d1,d2,d3,d4,d5,h⟩ := bq3 h
        refine rg hc Kfc [oN,oN,oN,oN,oN,oN,oN,oT,oN,oN,oN,some (.eqv (.no) ⟨[(54,I (v1.fType.length : Int))],[],[]⟩),oN,oT,oN,oN,oN,some (.eqv (.no) ⟨[(60,I (v1.fKids.length : Int))],[],[]⟩),oN,oT,oN,oN,oN,some (.el (sI c3)),oN,oN,some (.el (K1x c5)),oN,oc (.bool c7),oT,oN,oN,oN,some (.el (sI d0)),oN,oN,some (.el (K1x d2)),oN,oc (.bool d4),oT,oN] [(4,.bool d4)] [] (ar 4 b9 (ar 3 c0 (ai (Qdj (d := 54) I v1.fType) (ar 2 c0 (ar 3 c1 (ai (Qdj (d := 60) K0i v1.fKids) (ar 2 c1 (ar 2 c2 (ac (Qdi (enc := K11) c4) c2 (xL c4).2 (ar 3 c2 (ai (Qdh c6 (K0p c5)) (ar 2 c2 (cq (impl_isValue_ih _ _ c8) K5f (ai c2 (ar 2 c9 (ac (Qdi (enc := K11) d1) c9 (xL d1).2 (ar 3 c9 (ai (Qdh d3 (K0p d2)) (ar 2 c9 (cq (impl_isValue_ih _ _ d5) K5f (ai c9 tv))))))))))))))))))))) ?_
        obtain rfl := os h
        exact Qcz.mk
       refine rg hc Kfc [oN,oN,oN,oN,oN,oN,oN,oT,oN,oN,oN,some (.eqv (.no) ⟨[(54,I (v1.fType.length : Int))],[],[]⟩),oN,oT,oN,oN,oN,some (.eqv (.no) ⟨[(60,I (v1.fKids.length : Int))],[],[]⟩),oN,oT,oN,oN,oN,some (.el (sI c3)),oN,oN,some (.el (K1x c5)),oN,oc (.bool c7),oT,oN,o_,o_,o_,o_,o_,o_,o_,o_,oF,oN] [(4,.bool false)] [] (ar 4 b9 (ar 3 c0 (ai (Qdj (d := 54) I v1.fType) (ar 2 c0 (ar 3 c1 (ai (Qdj (d := 60) K0i v1.fKids) (ar 2 c1 (ar 2 c2 (ac (Qdi (enc := K11) c4) c2 (xL c4).2 (ar 3 c2 (ai (Qdh c6 (K0p c5)) (ar 2 c2 (cq (impl_isValue_ih _ _ c8) K5f (ai c2 (ar 8 (neT c9) (ai c9 tv)))))))))))))))) ?_
       obtain rfl := os h
       exact Qcz.mk
      refine rg hc Kfc [oN,oN,oN,oN,oN,oN,oN,oT,oN,oN,oN,some (.eqv (.no) ⟨[(54,I (v1.fType.length : Int))],[],[]⟩),oN,oT,oN,oN,oN,some (.eqv (.no) ⟨[(60,I (v1.fKids.length : Int))],[],[]⟩),oN,oT,oN,o_,o_,o_,o_,o_,o_,o_,o_,oF,oN,o_,o_,o_,o_,o_,o_,o_,o_,oF,oN] [(4,.bool false)] [] (ar 4 b9 (ar 3 c0 (ai (Qdj (d := 54) I v1.fType) (ar 2 c0 (ar 3 c1 (ai (Qdj (d := 60) K0i v1.fKids) (ar 2 c1 (ar 8 (neT c2) (ai c2 (ar 8 (neT (rfl : false = false)) (ai (rfl : false = false) tv))))))))))) ?_
      obtain rfl := os h
      exact Qcz.mk
     refine rg hc Kfc [oN,oN,oN,oN,oN,oN,oN,oT,oN,oN,oN,some (.eqv (.no) ⟨[(54,I (v1.fType.length : Int))],[],[]⟩),oN,oT,oN,o_,o_,o_,o_,oF,oN,o_,o_,o_,o_,o_,o_,o_,o_,oF,oN,o_,o_,o_,o_,o_,o_,o_,o_,oF,oN] [(4,.bool false)] [] (ar 4 b9 (ar 3 c0 (ai (Qdj (d := 54) I v1.fType) (ar 2 c0 (ar 4 (neT c1) (ai c1 (ar 8 (neT (rfl : false = false)) (ai (rfl : false = false) (ar 8 (neT (rfl : false = false)) (ai (rfl : false = false) tv)))))))))) ?_
     obtain rfl := os h
     exact Qcz.mk
    refine rg hc Kfc [oN,oN,oN,oN,oN,oN,oN,oT,oN,o_,o_,o_,o_,oF,oN,o_,o_,o_,o_,oF,oN,o_,o_,o_,o_,o_,o_,o_,o_,oF,oN,o_,o_,o_,o_,o_,o_,o_,o_,oF,oN] [(4,.bool false)] [] (ar 4 b9 (ar 4 (neT c0) (ai c0 (ar 4 (neT (rfl : false = false)) (ai (rfl : false = false) (ar 8 (neT (rfl : false = false)) (ai (rfl : false = false) (ar 8 (neT (rfl : false = false)) (ai (rfl : false = false) tv))))))))) ?_
    obtain rfl := os h
    exact Qcz.mk
   refine rg hc Kfc [oN,oN,oN,oN,o_,o_,o_,oF,oN,o_,o_,o_,o_,oF,oN,o_,o_,o_,o_,oF,oN,o_,o_,o_,o_,o_,o_,o_,o_,oF,oN,o_,o_,o_,o_,o_,o_,o_,o_,oF,oN] [(4,.bool false)] [] (ar 3 (neT b9) (ai b9 (ar 4 (neT (rfl : false = false)) (ai (rfl : false = false) (ar 4 (neT (rfl : false = false)) (ai (rfl : false = false) (ar 8 (neT (rfl : false = false)) (ai (rfl : false = false) (ar 8 (neT (rfl : false = false)) (ai (rfl : false = false) tv)))))))))) ?_
   obtain rfl := os h
   exact Qcz.mk
  clear b8
  refine rt ?_
  obtain rfl := os h
  exact rq [true]
 refine K7k hc 2 [(3,.ra 1 0),(6,I a3),(7,.rs 2),(83,.bool (a2 == 2))] ?_
 refine ic h (fun d6 h => ?_) fun d6 h => ?_
 ·refine sN ?_
  refine sN ?_
  obtain ⟨d7,d8,h⟩ := Qdd h
  refine Wp.into (x := .normal) (mkS [(3,.ra 1 0),(7,.rs 2),(103,.bool d7)] [(1,K1w v1),(2,.arr (List.map K11 a5))]) ?_ ?_
  ·replace h := d8
   rcases is h with ⟨d9,h⟩ | ⟨d9,h⟩
   ·refine rgs hc none [oN,oN,oN,oN,o_,o_,o_,o_,oT,oN,o_,o_,o_,o_,o_,o_,o_,o_,oT] [(3,.ra 1 0),(7,.rs 2),(103,.bool true)] (ar 4 (neF d9) (ai d9 (ar 5 nf (ai tt tv)))) ?_
    obtain rfl := os h
    exact Qcz.mk
   rcases is h with ⟨e0,h⟩ | ⟨e0,h⟩
   ·refine rgs hc none [oN,oN,oN,oN,oN,oN,some (.eqv (.no) ⟨[(91,I (v1.fKids.length : Int))],[],[]⟩),oN,oF,oN,o_,o_,o_,o_,o_,o_,o_,o_,oT] [(3,.ra 1 0),(7,.rs 2),(103,.bool true)] (ar 3 d9 (ai (Qdj (d := 91) K0i v1.fKids) (ar 2 d9 (ar 5 (neF e0) (ai e0 tv))))) ?_
    obtain rfl := os h
    exact Qcz.mk
   rcases is h with ⟨e1,h⟩ | ⟨e1,h⟩
   ·refine rgs hc none [oN,oN,oN,oN,oN,oN,some (.eqv (.no) ⟨[(91,I (v1.fKids.length : Int))],[],[]⟩),oN,oF,oN,oN,oN,oN,oN,oN,oN,oN,oT,oF] [(3,.ra 1 0),(7,.rs 2),(103,.bool (v1.fOp != 7))] (ar 3 d9 (ai (Qdj (d := 91) K0i v1.fKids) (ar 2 d9 (ar 4 e0 (ar 3 e1 (ac e0 e1 e0 tv)))))) ?_
    obtain rfl := os h
    exact Qcz.mk
   refine rgs hc none [oN,oN,oN,oN,oN,oN,some (.eqv (.no) ⟨[(91,I (v1.fKids.length : Int))],[],[]⟩),oN,oF,oN,oN,oN,oN,oN,o_,o_,o_,oF,oF] [(3,.ra 1 0),(7,.rs 2),(103,.bool false)] (ar 3 d9 (ai (Qdj (d := 91) K0i v1.fKids) (ar 2 d9 (ar 4 e0 (ar 3 (neT e1) (ac e0 e1 e0 tv)))))) ?_
   obtain rfl := os h
   exact Qcz.mk
  clear d8
  refine ic h (fun e2 h => ?_) fun e2 h => ?_
  ·refine rs0 hc 1 [(4,.bool false)] [] ?_
   refine rt ?_
   obtain rfl := os h
   exact rq [true]
  refine sk ?_
  refine K7k hc 4 [(3,.ra 1 0),(7,.rs 2),(8,I (wr (v1.fOp - 6)))] ?_
  refine sN ?_
  obtain ⟨e3,e4,h⟩ := Qdd h
  refine Wp.into (x := .normal) (mkS [(4,.bool e3)] []) ?_ ?_
  ·replace h := e4
   obtain ⟨e5,e6,e7,e8,h⟩ := bq2 h
   rcases is h with ⟨e9,h⟩ | ⟨e9,h⟩
   ·obtain ⟨f0,f1,f2,f3,f4,f5,h⟩ := bq3 h
    refine rg hc Kfd [oN,oN,oN,oN,oN,oN,some (.el (sI e5)),oc (.bool e7),oN,oN,oN,oN,some (.el (sI f0)),oN,oN,some (.el (K1x f2)),oN,oc (.bool f4),oT,oN] [(4,.bool f4)] [] (ab (Qdi (enc := K11) e6) (xL e6).2 (cq (Kfl _ _ e8) K5h (ar 3 e9 (ac (Qdi (enc := K11) f1) e9 (xL f1).2 (ar 3 e9 (ai (Qdh f3 (K0p f2)) (ar 2 e9 (cq (impl_isValue_ih _ _ f5) K5f (ai e9 tv))))))))) ?_
    obtain rfl := os h
    exact Qcz.mk
   refine rg hc Kfd [oN,oN,oN,oN,oN,oN,some (.el (sI e5)),oc (.bool e7),oN,o_,o_,o_,o_,o_,o_,o_,o_,o_,oF,oN] [(4,.bool false)] [] (ab (Qdi (enc := K11) e6) (xL e6).2 (cq (Kfl _ _ e8) K5h (ar 9 (neT e9) (ai e9 tv)))) ?_
   obtain rfl := os h
   exact Qcz.mk
  clear e4
  refine rt ?_
  obtain rfl := os h
  exact rq [true]
 refine sk ?_
 refine sN ?_
 obtain ⟨f6,f7,h⟩ := Qdd h
 refine Wp.into (x := .normal) (mkS [(4,.bool f6)] []) ?_ ?_
 ·replace h := f7
  rcases is h with ⟨f8,h⟩ | ⟨f8,h⟩
  ·rcases is h with ⟨f9,h⟩ | ⟨f9,h⟩
   ·rcases is h with ⟨g0,h⟩ | ⟨g0,h⟩
    ·rcases is h with ⟨g1,h⟩ | ⟨g1,h⟩
     ·obtain ⟨g2,g3,g4,g5,g6,g7,h⟩ := bq3 h
      refine rg hc Kfe [oN,oN,oN,oN,oN,oN,oN,oN,oT,oN,oN,oN,some (.eqv (.no) ⟨[(138,I (v1.fType.length : Int))],[],[]⟩),oN,oT,oN,oN,oN,some (.eqv (.no) ⟨[(144,I (v1.fKids.length : Int))],[],[]⟩),oN,oT,oN,oN,oN,some (.el (sI g2)),oN,oN,some (.el (K1x g4)),oN,oc (.bool g6),oT,oN] [(4,.bool g6)] [] (ar 5 f8 (ar 3 f9 (ai (Qdj (d := 138) I v1.fType) (ar 2 f9 (ar 3 g0 (ai (Qdj (d := 144) K0i v1.fKids) (ar 2 g0 (ar 2 g1 (ac (Qdi (enc := K11) g3) g1 (xL g3).2 (ar 3 g1 (ai (Qdh g5 (K0p g4)) (ar 2 g1 (cq (impl_isValue_ih _ _ g7) K5f (ai g1 tv)))))))))))))) ?_
      obtain rfl := os h
      exact Qcz.mk
     refine rg hc Kfe [oN,oN,oN,oN,oN,oN,oN,oN,oT,oN,oN,oN,some (.eqv (.no) ⟨[(138,I (v1.fType.length : Int))],[],[]⟩),oN,oT,oN,oN,oN,some (.eqv (.no) ⟨[(144,I (v1.fKids.length : Int))],[],[]⟩),oN,oT,oN,o_,o_,o_,o_,o_,o_,o_,o_,oF,oN] [(4,.bool false)] [] (ar 5 f8 (ar 3 f9 (ai (Qdj (d := 138) I v1.fType) (ar 2 f9 (ar 3 g0 (ai (Qdj (d := 144) K0i v1.fKids) (ar 2 g0 (ar 8 (neT g1) (ai g1 tv))))))))) ?_
     obtain rfl := os h
     exact Qcz.mk
    refine rg hc Kfe [oN,oN,oN,oN,oN,oN,oN,oN,oT,oN,oN,oN,some (.eqv (.no) ⟨[(138,I (v1.fType.length : Int))],[],[]⟩),oN,oT,oN,o_,o_,o_,o_,oF,oN,o_,o_,o_,o_,o_,o_,o_,o_,oF,oN] [(4,.bool false)] [] (ar 5 f8 (ar 3 f9 (ai (Qdj (d := 138) I v1.fType) (ar 2 f9 (ar 4 (neT g0) (ai g0 (ar 8 (neT (rfl : false = false)) (ai (rfl : false = false) tv)))))))) ?_
    obtain rfl := os h
    exact Qcz.mk
   refine rg hc Kfe [oN,oN,oN,oN,oN,oN,oN,oN,oT,oN,o_,o_,o_,o_,oF,oN,o_,o_,o_,o_,oF,oN,o_,o_,o_,o_,o_,o_,o_,o_,oF,oN] [(4,.bool false)] [] (ar 5 f8 (ar 4 (neT f9) (ai f9 (ar 4 (neT (rfl : false = false)) (ai (rfl : false = false) (ar 8 (neT (rfl : false = false)) (ai (rfl : false = false) tv))))))) ?_
   obtain rfl := os h
   exact Qcz.mk
  refine rg hc Kfe [oN,oN,oN,oN,o_,o_,o_,o_,oF,oN,o_,o_,o_,o_,oF,oN,o_,o_,o_,o_,oF,oN,o_,o_,o_,o_,o_,o_,o_,o_,oF,oN] [(4,.bool false)] [] (ar 4 (neT f8) (ai f8 (ar 4 (neT (rfl : false = false)) (ai (rfl : false = false) (ar 4 (neT (rfl : false = false)) (ai (rfl : false = false) (ar 8 (neT (rfl : false = false)) (ai (rfl : false = false) tv)))))))) ?_
  obtain rfl := os h
  exact Qcz.mk
 clear f7
 refine rt ?_
 obtain rfl := os h
 exact rq [true]
def Kfp (p : K00 × (List Int) × K02) : Option (Bool) :=
 match p with
 | (s0,ty1,v2) =>
  ((
  (Kf8 (s0,ty1)) >>= fun a0 =>
  if a0 = true then
  (Kfm (ty1,v2)) >>= fun a1 =>
  some (a1)
  else
  some (false)
  ) : Option (Bool)) >>= fun a2 =>
  some a2
def Kfq (p : K00 × (List Int) × K02) (r : Bool) : Prop :=
 match p with
 | (s0,ty1,v2) => Q71 Tryz.prog 20 [K1t s0,sI ty1,K1x v2] (.bool r) []
theorem Kfr : ∀ p r,Kfp p = some r → Kfq p r := by
 rintro ⟨s0,ty1,v2⟩ r h
 unfold Kfp at h
 refine b0 Tryz.f20 B20 15 [(0,K1t s0),(1,sI ty1),(2,K1x v2)] fun c hc => ?_
 refine rs hc none [some (.new 1),some (.new 2),oN] [(1,sI ty1),(3,.ra 1 0),(5,.ra 2 0)] [(1,K1s s0),(2,K1w v2)] tv ?_
 refine sN ?_
 obtain ⟨a0,a1,h⟩ := Qdd h
 refine Wp.into (x := .normal) (mkS [(6,.bool a0)] []) ?_ ?_
 ·replace h := a1
  obtain ⟨a2,a3,h⟩ := Qdd h
  rcases is h with ⟨a4,h⟩ | ⟨a4,h⟩
  ·obtain ⟨a5,a6,h⟩ := Qdd h
   refine rg hc none [oN,oN,oc (.bool a2),oN,oN,oN,oc (.bool a5),oT,oN] [(6,.bool a5)] [] (cq (Kfa _ _ a3) K5e (ar 3 a4 (cq (Kfo _ _ a6) K5f (ai a4 tv)))) ?_
   obtain rfl := os h
   exact Qcz.mk
  refine rg hc none [oN,oN,oc (.bool a2),oN,o_,o_,o_,oF,oN] [(6,.bool false)] [] (cq (Kfa _ _ a3) K5e (ar 3 (neT a4) (ai a4 tv))) ?_
  obtain rfl := os h
  exact Qcz.mk
 clear a1
 refine rt ?_
 obtain rfl := os h
 exact rq [true]
def Kfs (ty0 : (List Int)) : Option (Int) :=
 (idx ty0 0) >>= fun a0 =>
 (Kcd a0) >>= fun (a1,a2) =>
 (Keg ty0) >>= fun a3 =>
 ((
 if (a1 == 1) = true then
 (idx a3 0) >>= fun a4 =>
 (Kfs a4) >>= fun a5 =>
 (idx a3 1) >>= fun a6 =>
 (Kfs a6) >>= fun a7 =>
 some ((wr (a5 * a7)))
 else
 ((
 if (a1 == 2) = true then
 (idx a3 0) >>= fun a8 =>
 (Kfs a8) >>= fun a9 =>
 (idx a3 1) >>= fun b1 =>
 (Kfs b1) >>= fun b2 =>
 some ((wr (a9 + b2)))
 else
 ((
 if (a1 == 4) = true then
 (idx a3 0) >>= fun b3 =>
 (Kfs b3) >>= fun b4 =>
 some (b4)
 else
 some (3)
 ) : Option (Int)) >>= fun b5 =>
 some (b5)
 ) : Option (Int)) >>= fun b6 =>
 some (b6)
 ) : Option (Int)) >>= fun b7 =>
 some (mnx false b7 301)
 partial_fixpoint
def Kft (ty0 : (List Int)) (r : Int) : Prop :=
 Q71 Tryz.prog 85 [sI ty0] (I r) []
theorem Kfu : ∀ p r,Kfs p = some r → Kft p r := by
 refine Kfs.partial_correctness Kft ?_
 rintro impl_count_f impl_count_ih ty0 r h
 refine b0 Tryz.f85 B85 47 [(0,sI ty0)] fun c hc => ?_
 refine rs0 hc 1 [(0,sI ty0)] [] ?_
 obtain ⟨a0,a1,⟨a2,a3⟩,a4,h⟩ := bq2 h
 refine rs hc none [oN,some (.el (I a0)),oN,oc (.tup [I a2,I a3]),oN,oN,oN,oN,oN] [(0,sI ty0),(3,I a2)] [] (ai (ix a1) (cq (Kcf _ _ a4) K4j tv)) ?_
 obtain ⟨a5,a6,h⟩ := Qdd h
 refine rs hc none [oN,oc (.osl (List.map K11 a5)),oN] [(3,I a2),(5,.rs 1)] [(1,.arr (List.map K11 a5))] (cq (Kei _ _ a6) K53 tv) ?_
 refine K7k hc 1 [(3,I a2),(5,.rs 1),(6,I 3)] ?_
 refine sN ?_
 refine K7k hc 1 [(5,.rs 1),(6,I 3),(16,I a2)] ?_
 refine bk 0 ?_
 refine K7k hc 2 [(5,.rs 1),(6,I 3),(16,I a2),(17,.bool (a2 == 1))] ?_
 obtain ⟨a7,a8,h⟩ := Qdd h
 refine Wp.into (x := .normal) (mkS [(6,I a7)] []) ?_ ?_
 ·replace h := a8
  refine ic h (fun a9 h => ?_) fun a9 h => ?_
  ·obtain ⟨b1,b2,b3,b4,b5,b6,b7,b8,h⟩ := bq4 h
   refine rg hc Kff [oN,oN,some (.el (sI b1)),oc (I b3),oN,oN,some (.el (sI b5)),oc (I b7),oN,oN] [(6,I (wr (b3 * b7)))] [] (ab (Qdi (enc := K11) b2) (xL b2).2 (cq (impl_count_ih _ _ b4) K5j (ab (Qdi (enc := K11) b6) (xL b6).2 (cq (impl_count_ih _ _ b8) K5j tv)))) ?_
   obtain rfl := os h
   exact Qcz.mk
  refine K7k hc 2 [(5,.rs 1),(6,I 3),(16,I a2),(28,.bool (a2 == 2))] ?_
  obtain ⟨b9,c0,h⟩ := Qdd h
  refine Wp.into (x := .normal) (mkS [(6,I b9)] []) ?_ ?_
  ·replace h := c0
   refine ic h (fun c1 h => ?_) fun c1 h => ?_
   ·obtain ⟨c2,c3,c4,c5,c6,c7,c8,c9,h⟩ := bq4 h
    refine rg hc Kff [oN,oN,some (.el (sI c2)),oc (I c4),oN,oN,some (.el (sI c6)),oc (I c8),oN,oN] [(6,I (wr (c4 + c8)))] [] (ab (Qdi (enc := K11) c3) (xL c3).2 (cq (impl_count_ih _ _ c5) K5j (ab (Qdi (enc := K11) c7) (xL c7).2 (cq (impl_count_ih _ _ c9) K5j tv)))) ?_
    obtain rfl := os h
    exact Qcz.mk
   refine K7k hc 2 [(5,.rs 1),(6,I 3),(39,.bool (a2 == 4))] ?_
   obtain ⟨d0,d1,h⟩ := Qdd h
   refine Wp.into (x := .normal) (mkS [(6,I d0)] []) ?_ ?_
   ·replace h := d1
    refine ic h (fun d2 h => ?_) fun d2 h => ?_
    ·obtain ⟨d3,d4,d5,d6,h⟩ := bq2 h
     refine rg hc none [oN,oN,some (.el (sI d3)),oc (I d5),oN] [(6,I d5)] [] (ab (Qdi (enc := K11) d4) (xL d4).2 (cq (impl_count_ih _ _ d6) K5j tv)) ?_
     obtain rfl := os h
     exact Qcz.mk
    refine sk ?_
    obtain rfl := os h
    exact iv []
   clear d1
   obtain rfl := os h
   exact Qcz.mk
  clear c0
  obtain rfl := os h
  exact Qcz.mk
 clear a8
 refine rs0 hc 3 [(2,I (mnx false a7 301))] [] ?_
 refine rt ?_
 obtain rfl := os h
 exact rq [true]
def Kfv (p : K00 × (List Int)) : Option (Int) :=
 match p with
 | (s0,ty1) =>
  ((
  (Kf8 (s0,ty1)) >>= fun a0 =>
  if a0 = true then
  (Kfs ty1) >>= fun a1 =>
  some ((decide (a1 > 300)))
  else
  some (true)
  ) : Option (Bool)) >>= fun a2 =>
  if a2 = true then
  some (-1)
  else
  (Kfs ty1) >>= fun a3 =>
  some a3
def Kfw (p : K00 × (List Int)) (r : Int) : Prop :=
 match p with
 | (s0,ty1) => Q71 Tryz.prog 21 [K1t s0,sI ty1] (I r) []
theorem Kfx : ∀ p r,Kfv p = some r → Kfw p r := by
 rintro ⟨s0,ty1⟩ r h
 unfold Kfv at h
 refine b0 Tryz.f21 B21 16 [(0,K1t s0),(1,sI ty1)] fun c hc => ?_
 refine rs hc none [some (.new 1),oN] [(1,sI ty1),(2,.ra 1 0)] [(1,K1s s0)] tv ?_
 refine sN ?_
 refine sN ?_
 obtain ⟨a0,a1,h⟩ := Qdd h
 refine Wp.into (x := .normal) (mkS [(1,sI ty1),(13,.bool a0)] []) ?_ ?_
 ·replace h := a1
  obtain ⟨a2,a3,h⟩ := Qdd h
  rcases is h with ⟨a4,h⟩ | ⟨a4,h⟩
  ·obtain ⟨a5,a6,h⟩ := Qdd h
   refine rg hc none [oN,oN,oc (.bool a2),oN,oN,oN,oc (I a5),oN,oF] [(1,sI ty1),(13,.bool (decide (a5 > 300)))] [] (cq (Kfa _ _ a3) K5e (ar 2 (nF a4) (cq (Kfu _ _ a6) K5j (ar 2 (nF a4) tv)))) ?_
   obtain rfl := os h
   exact Qcz.mk
  refine rg hc none [oN,oN,oc (.bool a2),oN,oN,o_,o_,o_,oT] [(1,sI ty1),(13,.bool true)] [] (cq (Kfa _ _ a3) K5e (ar 3 (neF (nT a4)) (ai (nT a4) tv))) ?_
  obtain rfl := os h
  exact Qcz.mk
 clear a1
 refine ic h (fun a7 h => ?_) fun a7 h => ?_
 ·refine rs0 hc 1 [(4,I (-1))] [] ?_
  refine rt ?_
  obtain rfl := os h
  exact rq [true]
 refine sk ?_
 obtain ⟨a8,a9,h⟩ := Qdd h
 refine rs hc none [oN,oc (I a8),oN] [(4,I a8)] [] (cq (Kfu _ _ a9) K5j tv) ?_
 refine rt ?_
 obtain rfl := os h
 exact rq [true]
def Kfy (p : (List Int) × K02) : Option (Int) :=
 match p with
 | (ty0,v1) =>
  (Keg ty0) >>= fun a0 =>
  if (v1.fOp == 4) = true then
  (idx a0 0) >>= fun a1 =>
  (idx v1.fKids 0) >>= fun a2 =>
  (Kfy (a1,a2)) >>= fun a3 =>
  (idx a0 1) >>= fun a4 =>
  (Kfs a4) >>= fun a5 =>
  (idx a0 1) >>= fun a6 =>
  (idx v1.fKids 1) >>= fun a7 =>
  (Kfy (a6,a7)) >>= fun a8 =>
  some (wr ((wr (a3 * a5)) + a8))
  else
  ((
  if (v1.fOp == 6) = true then
  some ((v1.fOp == 6))
  else
  some ((v1.fOp == 11))
  ) : Option (Bool)) >>= fun a9 =>
  if a9 = true then
  (idx a0 0) >>= fun b1 =>
  (idx v1.fKids 0) >>= fun b2 =>
  (Kfy (b1,b2)) >>= fun b3 =>
  some b3
  else
  if (v1.fOp == 7) = true then
  (idx a0 0) >>= fun b4 =>
  (Kfs b4) >>= fun b5 =>
  (idx a0 1) >>= fun b6 =>
  (idx v1.fKids 0) >>= fun b7 =>
  (Kfy (b6,b7)) >>= fun b8 =>
  some (wr (b5 + b8))
  else
  some v1.fN
 partial_fixpoint
def Kfz (p : (List Int) × K02) (r : Int) : Prop :=
 match p with
 | (ty0,v1) => Q71 Tryz.prog 86 [sI ty0,K1x v1] (I r) []
theorem Kg0 : ∀ p r,Kfy p = some r → Kfz p r := by
 refine Kfy.partial_correctness Kfz ?_
 rintro impl_placeOf_f impl_placeOf_ih ⟨ty0,v1⟩ r h
 refine b0 Tryz.f86 B86 62 [(0,sI ty0),(1,K1x v1)] fun c hc => ?_
 refine rs hc none [some (.new 1),oN] [(0,sI ty0),(3,.ra 1 0)] [(1,K1w v1)] tv ?_
 obtain ⟨a0,a1,h⟩ := Qdd h
 refine rs hc none [oN,some (.call (.osl (List.map K11 a0)) [] 2),oN] [(3,.ra 1 0),(5,.rs 2)] [(1,K1w v1),(2,.arr (List.map K11 a0))] (cq (Kei _ _ a1) K53 tv) ?_
 refine sN ?_
 refine K7k hc 2 [(3,.ra 1 0),(5,.rs 2),(9,I v1.fOp)] ?_
 refine bk 0 ?_
 refine K7k hc 2 [(3,.ra 1 0),(5,.rs 2),(9,I v1.fOp),(10,.bool (v1.fOp == 4))] ?_
 refine ic h (fun a2 h => ?_) fun a2 h => ?_
 ·obtain ⟨a3,a4,a5,a6,a7,a8,a9,b1,h⟩ := bq4 h
  obtain ⟨b2,b3,b4,b5,b6,b7,b8,b9,h⟩ := bq4 h
  refine rs hc (rx [[0],[1],[2],[0],[0,3],[0,3,4],[0,3,4,5],[7],[0],[0,8],[0,8,9],[11],[12],[0],[0,13],[0,13,14],[0],[0,16],[0,16,17],[0,16,17,18],[12,13,14,15,16,17,18,19],[21],[22]]) [oN,oN,some (.el (sI a3)),oN,oN,some (.el (K1x a5)),oN,oc (I a7),oN,oN,some (.el (sI a9)),oc (I b2),oN,oN,oN,some (.el (sI b4)),oN,oN,some (.el (K1x b6)),oN,oc (I b8),oN,oN] [(4,I (wr ((wr (a7 * b2)) + b8)))] [] (ac (Qdi (enc := K11) a4) (xL a4).2 (Qdh a6 (K0p a5)) (cq (impl_placeOf_ih _ _ a8) K5l (ab (Qdi (enc := K11) b1) (xL b1).2 (cq (Kfu _ _ b3) K5j (ac (Qdi (enc := K11) b5) (xL b5).2 (Qdh b7 (K0p b6)) (cq (impl_placeOf_ih _ _ b9) K5l tv)))))) ?_
  refine rt ?_
  obtain rfl := os h
  exact rq [true]
 refine sN ?_
 refine K7k hc 2 [(3,.ra 1 0),(5,.rs 2),(9,I v1.fOp),(34,.bool (v1.fOp == 6))] ?_
 obtain ⟨c0,c1,h⟩ := Qdd h
 refine Wp.into (x := .normal) (mkS [(3,.ra 1 0),(5,.rs 2),(9,I v1.fOp),(34,.bool c0)] [(1,K1w v1),(2,.arr (List.map K11 a0))]) ?_ ?_
 ·replace h := c1
  refine ic h (fun c2 h => ?_) fun c2 h => ?_
  ·refine sk ?_
   obtain rfl := os h
   exact Qcz.mk
  refine K7j hc 2 [(3,.ra 1 0),(5,.rs 2),(9,I v1.fOp),(34,.bool (v1.fOp == 11))] ?_
  obtain rfl := os h
  exact Qcz.mk
 clear c1
 refine ic h (fun c3 h => ?_) fun c3 h => ?_
 ·obtain ⟨c4,c5,c6,c7,c8,c9,h⟩ := bq3 h
  refine rs hc (rx [[0],[1],[2],[0],[0,3],[0,3,4],[0,3,4,5],[7],[8]]) [oN,oN,some (.el (sI c4)),oN,oN,some (.el (K1x c6)),oN,oc (I c8),oN] [(4,I c8)] [] (ac (Qdi (enc := K11) c5) (xL c5).2 (Qdh c7 (K0p c6)) (cq (impl_placeOf_ih _ _ c9) K5l tv)) ?_
  refine rt ?_
  obtain rfl := os h
  exact rq [true]
 refine K7k hc 2 [(3,.ra 1 0),(5,.rs 2),(45,.bool (v1.fOp == 7))] ?_
 refine ic h (fun d0 h => ?_) fun d0 h => ?_
 ·obtain ⟨d1,d2,d3,d4,d5,d6,d7,d8,h⟩ := bq4 h
  obtain ⟨d9,e0,h⟩ := Qdd h
  refine rs hc (rx [[0],[1],[2],[3],[0],[0,4],[0,4,5],[0],[0,7],[0,7,8],[0,7,8,9],[11],[12],[13]]) [oN,oN,some (.el (sI d1)),oc (I d3),oN,oN,some (.el (sI d5)),oN,oN,some (.el (K1x d7)),oN,oc (I d9),oN,oN] [(4,I (wr (d3 + d9)))] [] (ab (Qdi (enc := K11) d2) (xL d2).2 (cq (Kfu _ _ d4) K5j (ac (Qdi (enc := K11) d6) (xL d6).2 (Qdh d8 (K0p d7)) (cq (impl_placeOf_ih _ _ e0) K5l tv)))) ?_
  refine rt ?_
  obtain rfl := os h
  exact rq [true]
 refine sk ?_
 refine rs0 hc 3 [(4,I v1.fN)] [] ?_
 refine rt ?_
 obtain rfl := os h
 exact rq [true]
end Go.Am
