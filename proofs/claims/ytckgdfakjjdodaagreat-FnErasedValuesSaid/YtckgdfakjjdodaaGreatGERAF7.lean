/- Walks, printed. -/
import Derived.Test.YtckgdfakjjdodaaGreatGERAF4
set_option linter.unusedVariables false
set_option linter.unusedSimpArgs false
set_option maxRecDepth 100000
namespace Go.Am
open Go Go.Proofs
def Kf8 : Option (List (List Nat)) := rx [[0],[0],[0],[0],[0,1,2,3],[0],[6],[0],[0],[0],[0],[0],[7,9,10,11],[13],[14],[15],[16],[16],[16],[16],[16,17,18,19],[16],[22],[16],[16],[16],[16],[16],[23,25,26,27],[29],[30],[31]]
def Kf9 : Option (List (List Nat)) := rx [[0],[0],[0],[0],[0],[0,2,3,4],[6],[0],[0],[0],[0],[7,8,9,10],[0],[0],[0],[7,8,9,10,11,12,13,14],[16],[17],[18],[19],[19],[19],[19],[19,20,21,22],[19],[25],[19],[19],[19],[19],[26,27,28,29],[19],[19],[19],[26,27,28,29,30,31,32,33],[35],[36],[37]]
def Kfa : Option (List (List Nat)) := rx [[0],[0],[0],[3],[4],[5],[6],[6],[6],[6],[6,7,8,9],[6],[6],[6],[6,7,8,9,10,11,12,13],[15],[16],[17],[17],[17],[17],[17,18,19,20],[17],[17],[17],[17,18,19,20,21,22,23,24],[26],[27],[28],[29],[29],[29],[29],[29,30,31,32],[29],[29],[29],[29,30,31,32,33,34,35,36],[38],[39],[40],[41]]
def Kfb : Option (List (List Nat)) := rx [[0],[0],[0,1],[0],[0,1,2,3],[0,1,2,3,4],[6],[7],[8],[9],[9],[9,10],[9],[9,10,11,12],[9,10,11,12,13],[15],[16],[17]]
def Kfc (p : K00 × Int × Int × Int × Bool × Int) : Option (Bool) :=
 match p with
 | (s0,a1,b2,a0,a2,a3) =>
  if (decide (a3 < s0.fSize)) = true then
  ((
  if a2 = true then
  (Kf4 (s0,a1,a3)) >>= fun a4 =>
  if a4 = true then
  (Kf4 (s0,b2,a3)) >>= fun a5 =>
  if a5 = true then
  (Kf4 (s0,a0,a3)) >>= fun a6 =>
  some (a6)
  else
  some (true)
  else
  some (true)
  else
  some (false)
  ) : Option (Bool)) >>= fun a7 =>
  Kfc (s0,a1,b2,a0,a7,(wr (a3 + 1)))
  else
  some (a2)
 partial_fixpoint
def Kfd (p : K00 × Int × Int × Int × Bool × Int) (fl : Bool) : Prop :=
 match p with
 | (s0,a1,b2,a0,a2,a3) => ∀ c : Ctx,c.nt = 57 → WpL Tryz.prog c (cl (cl (cr (cl (cr (cr (cl (cl (cr (cl (cl (cr (cl (cr K4s)))))))))))))) (Kf7 c s0 a1 b2 a0 fl) (mkS [(1,I a1),(2,I b2),(3,.ra 1 0),(7,I a0),(8,.bool a2),(9,I a3)] [(1,K19 s0)])
theorem Kfe : ∀ p r,Kfc p = some r → Kfd p r := by
 refine Kfc.partial_correctness Kfd ?_
 rintro impl_Systemjoin_l0_f impl_Systemjoin_l0_ih ⟨s0,a1,b2,a0,a2,a3⟩ r h
 intro c hc
 refine WpL.step ?_
 refine sN ?_
 refine K7e hc 4 [(1,I a1),(2,I b2),(3,.ra 1 0),(7,I a0),(8,.bool a2),(9,I a3),(31,.bool (decide (a3 < s0.fSize)))] ?_
 refine ic h (fun a4 h => ?_) fun a4 h => ?_
 ·refine sk ?_
  refine sN ?_
  refine bk 3 ?_
  obtain ⟨a5,a6,h⟩ := Qds h
  refine Wp.into (x := .normal) (mkS [(1,I a1),(2,I b2),(3,.ra 1 0),(7,I a0),(8,.bool a5),(9,I a3)] [(1,K19 s0)]) ?_ ?_
  ·replace h := a6
   rcases is h with ⟨a7,h⟩ | ⟨a7,h⟩
   ·obtain ⟨a8,a9,h⟩ := Qds h
    rcases is h with ⟨b1,h⟩ | ⟨b1,h⟩
    ·obtain ⟨b3,b4,h⟩ := Qds h
     rcases is h with ⟨b5,h⟩ | ⟨b5,h⟩
     ·obtain ⟨b6,b7,h⟩ := Qds h
      refine rgs hc none [oN,oN,oN,oN,oN,oc (.bool a8),oN,oN,oN,oN,oN,oc (.bool b3),oN,oF,oN,oN,oN,oN,oc (.bool b6),oF,oT,oN] [(1,I a1),(2,I b2),(3,.ra 1 0),(7,I a0),(8,.bool b6),(9,I a3)] (ar 4 a7 (cq (Kf6 _ _ a9) K4r (ar 2 a7 (ar 4 (nF b1) (cq (Kf6 _ _ b4) K4r (ad (nF b1) a7 (nF b1) a7 (ar 4 (nF b5) (cq (Kf6 _ _ b7) K4r (ac a7 (nF b5) a7 tv))))))))) ?_
      obtain rfl := os h
      exact Qde.mk
     refine rgs hc none [oN,oN,oN,oN,oN,oc (.bool a8),oN,oN,oN,oN,oN,oc (.bool b3),oN,oF,oN,o_,o_,o_,o_,oT,oT,oN] [(1,I a1),(2,I b2),(3,.ra 1 0),(7,I a0),(8,.bool true),(9,I a3)] (ar 4 a7 (cq (Kf6 _ _ a9) K4r (ar 2 a7 (ar 4 (nF b1) (cq (Kf6 _ _ b4) K4r (ad (nF b1) a7 (nF b1) a7 (ar 4 (neF (nT b5)) (ac a7 (nT b5) a7 tv)))))))) ?_
     obtain rfl := os h
     exact Qde.mk
    refine rgs hc none [oN,oN,oN,oN,oN,oc (.bool a8),oN,oN,o_,o_,o_,o_,o_,oT,oN,o_,o_,o_,o_,oT,oT,oN] [(1,I a1),(2,I b2),(3,.ra 1 0),(7,I a0),(8,.bool true),(9,I a3)] (ar 4 a7 (cq (Kf6 _ _ a9) K4r (ar 2 a7 (ar 5 (neF (nT b1)) (ac a7 (nT b1) a7 (ar 4 nf (ac a7 tt a7 tv))))))) ?_
    obtain rfl := os h
    exact Qde.mk
   refine rgs hc none [oN,oN,o_,o_,o_,o_,o_,o_,o_,o_,o_,o_,o_,o_,o_,o_,o_,o_,o_,o_,oF,oN] [(1,I a1),(2,I b2),(3,.ra 1 0),(7,I a0),(8,.bool false),(9,I a3)] (ar 9 (neT a7) (ai a7 tv)) ?_
   obtain rfl := os h
   exact Qde.mk
  clear a6
  refine K7d hc 3 [(1,I a1),(2,I b2),(3,.ra 1 0),(7,I a0),(8,.bool a5),(9,I (wr (a3 + 1)))] ?_
  refine Qda ?_
  exact (impl_Systemjoin_l0_ih _ _ h c hc)
 refine xt 2 ?_
 refine Qd4 ?_
 refine Qdb ?_
 obtain rfl := os h
 exact iv []
def Kff (c : Ctx) (s0 : K00) (a1 : Int) (b2 : Int) (a0 : Int) : (Unit) ⊕ (Int) → Exit → Q0a → Prop
 | .inl _ => Qde c .normal (mkS [(1,I a1),(2,I b2),(3,.ra 1 0),(7,I a0)] [(1,K19 s0)])
 | .inr r => Qdn TIx Tryz.f149 [] (I r)
def Kfg (c : Ctx) : (Unit) ⊕ (Int) → Exit → Q0a → Prop
 | .inl _ => Qde c (.exit 0) (mkS [] [])
 | .inr r => Qdn TIx Tryz.f149 [] (I r)
def Kfh (p : K00 × Int × Int × Int) : Option ((Unit) ⊕ (Int)) :=
 match p with
 | (s0,a1,b2,a0) =>
  if (decide (a0 < s0.fSize)) = true then
  ((
   ((
   (Kf4 (s0,a1,a0)) >>= fun a2 =>
   if a2 = true then
   (Kf4 (s0,b2,a0)) >>= fun a3 =>
   some ((!a3))
   else
   some (true)
   ) : Option (Bool)) >>= fun a4 =>
   if a4 = true then
   some (.inl ())
   else
   (Kfc (s0,a1,b2,a0,true,0)) >>= fun a5 =>
   if a5 = true then
   some (.inr a0)
   else
   some (.inl ())) : Option ((Unit) ⊕ (Int))) >>= fun fl => match fl with
  | .inl () =>
   Kfh (s0,a1,b2,(wr (a0 + 1)))
  | .inr r =>
   some (.inr r)
  else
  some (.inl ())
 partial_fixpoint
def Kfi (p : K00 × Int × Int × Int) (fl : (Unit) ⊕ (Int)) : Prop :=
 match p with
 | (s0,a1,b2,a0) => ∀ c : Ctx,c.nt = 57 → WpL Tryz.prog c (cl (cl (cr (cl (cr K4s))))) (Kfg c fl) (mkS [(1,I a1),(2,I b2),(3,.ra 1 0),(7,I a0)] [(1,K19 s0)])
theorem Kfj : ∀ p r,Kfh p = some r → Kfi p r := by
 refine Kfh.partial_correctness Kfi ?_
 rintro impl_Systemjoin_l1_f impl_Systemjoin_l1_ih ⟨s0,a1,b2,a0⟩ r h
 intro c hc
 refine WpL.step ?_
 refine sN ?_
 refine K7e hc 4 [(1,I a1),(2,I b2),(3,.ra 1 0),(7,I a0),(13,.bool (decide (a0 < s0.fSize)))] ?_
 refine ic h (fun a2 h => ?_) fun a2 h => ?_
 ·refine sk ?_
  refine sN ?_
  obtain ⟨fl,a3,h⟩ := Qds h
  refine flw (Kff c s0 a1 b2 a0 fl) ?_ (fun hF => ?_)
  ·replace h := a3
   refine bk 1 ?_
   refine sN ?_
   refine sN ?_
   obtain ⟨a4,a5,h⟩ := Qds h
   refine Wp.into (x := .normal) (mkS [(1,I a1),(2,I b2),(3,.ra 1 0),(7,I a0),(27,.bool a4)] [(1,K19 s0)]) ?_ ?_
   ·replace h := a5
    obtain ⟨a6,a7,h⟩ := Qds h
    rcases is h with ⟨a8,h⟩ | ⟨a8,h⟩
    ·obtain ⟨a9,b1,h⟩ := Qds h
     refine rgs hc none [oN,oN,oN,oc (.bool a6),oN,oN,oN,oN,oN,oc (.bool a9),oN,oF] [(1,I a1),(2,I b2),(3,.ra 1 0),(7,I a0),(27,.bool (!a9))] (cq (Kf6 _ _ a7) K4r (ar 4 (nF a8) (cq (Kf6 _ _ b1) K4r (ar 2 (nF a8) tv)))) ?_
     obtain rfl := os h
     exact Qde.mk
    refine rgs hc none [oN,oN,oN,oc (.bool a6),oN,oN,o_,o_,o_,o_,o_,oT] [(1,I a1),(2,I b2),(3,.ra 1 0),(7,I a0),(27,.bool true)] (cq (Kf6 _ _ a7) K4r (ar 5 (neF (nT a8)) (ai (nT a8) tv))) ?_
    obtain rfl := os h
    exact Qde.mk
   clear a5
   refine ic h (fun b3 h => ?_) fun b3 h => ?_
   ·refine xt 1 ?_
    refine Qd4 ?_
    refine Qd6 ?_
    obtain rfl := os h
    exact iv []
   refine sk ?_
   refine K7e hc 1 [(1,I a1),(2,I b2),(3,.ra 1 0),(7,I a0),(8,.bool true)] ?_
   refine sN ?_
   refine K7e hc 1 [(1,I a1),(2,I b2),(3,.ra 1 0),(7,I a0),(8,.bool true),(9,I 0)] ?_
   refine bk 2 ?_
   obtain ⟨b4,b5,h⟩ := Qds h
   have hL := Kfe _ _ b5 c hc
   refine lp ?_
   refine WpL.into (e := (.exit 2)) (mkS [(1,I a1),(2,I b2),(3,.ra 1 0),(7,I a0),(8,.bool b4)] [(1,K19 s0)]) hL ?_
   refine Qd6 ?_
   refine K7e hc 1 [(1,I a1),(2,I b2),(3,.ra 1 0),(7,I a0),(55,.bool b4)] ?_
   refine ic h (fun b6 h => ?_) fun b6 h => ?_
   ·refine rs0 hc 2 [(6,I a0)] [] ?_
    refine rt ?_
    obtain rfl := os h
    exact re [true]
   refine sk ?_
   obtain rfl := os h
   exact iv []
  rcases fl with ⟨⟩ | r
  ·refine Wp.into (x := .normal) (mkS [(1,I a1),(2,I b2),(3,.ra 1 0),(7,I a0)] [(1,K19 s0)]) hF ?_
   refine K7d hc 3 [(1,I a1),(2,I b2),(3,.ra 1 0),(7,I (wr (a0 + 1)))] ?_
   refine Qda ?_
   exact (impl_Systemjoin_l1_ih _ _ h c hc)
  refine Wp.mono hF ?_
  rintro _ _ ⟨rfl,hfin⟩
  obtain rfl := os h
  exact ⟨rfl,hfin⟩
 refine xt 0 ?_
 refine Qd4 ?_
 refine Qdb ?_
 obtain rfl := os h
 exact iv []
def Kfk (p : K00 × Int × Int) : Option (Int) :=
 match p with
 | (s0,a1,b2) =>
  (Kfh (s0,a1,b2,0)) >>= fun fl => match fl with
  | .inl () =>
   some (-1)
  | .inr r =>
   some r
def Kfl (p : K00 × Int × Int) (r : Int) : Prop :=
 match p with
 | (s0,a1,b2) => Q75 Tryz.prog 149 [K1a s0,I a1,I b2] (I r) []
theorem Kfm : ∀ p r,Kfk p = some r → Kfl p r := by
 rintro ⟨s0,a1,b2⟩ r h
 unfold Kfk at h
 refine b0 Tryz.f149 K4s 57 [(0,K1a s0),(1,I a1),(2,I b2)] fun c hc => ?_
 refine rs hc none [some (.new 1),oN] [(1,I a1),(2,I b2),(3,.ra 1 0)] [(1,K19 s0)] tv ?_
 refine sN ?_
 refine K7e hc 1 [(1,I a1),(2,I b2),(3,.ra 1 0),(7,I 0)] ?_
 refine bk 0 ?_
 obtain ⟨fl,a0,h⟩ := Qds h
 have hL := Kfj _ _ a0 c hc
 refine lp ?_
 rcases fl with ⟨⟩ | r
 ·refine WpL.into (e := (.exit 0)) (mkS [] []) hL ?_
  refine Qd6 ?_
  refine rs0 hc 1 [(6,I (-1))] [] ?_
  refine rt ?_
  obtain rfl := os h
  exact rq [true]
 refine WpL.mono hL ?_
 rintro _ _ ⟨rfl,hfin⟩
 obtain rfl := os h
 exact ⟨.inl rfl,hfin⟩
def Kfn (p : K00 × Int × Int × Int) : Option (Bool) :=
 match p with
 | (s0,a1,b2,c3) =>
  ((
  (Key (s0,a1,b2)) >>= fun a0 =>
  (Key (s0,a0,c3)) >>= fun a2 =>
  (Key (s0,b2,c3)) >>= fun a3 =>
  (Key (s0,a1,a3)) >>= fun a4 =>
  if (a2 != a4) = true then
  some (true)
  else
  (Kf1 (s0,a1,b2)) >>= fun a5 =>
  (Kf1 (s0,a5,c3)) >>= fun a6 =>
  (Kf1 (s0,b2,c3)) >>= fun a7 =>
  (Kf1 (s0,a1,a7)) >>= fun a8 =>
  some ((a6 != a8))
  ) : Option (Bool)) >>= fun a9 =>
  if a9 = true then
  some false
  else
  ((
  (Key (s0,b2,c3)) >>= fun b1 =>
  (Kf1 (s0,a1,b1)) >>= fun b3 =>
  (Kf1 (s0,a1,b2)) >>= fun b4 =>
  (Kf1 (s0,a1,c3)) >>= fun b5 =>
  (Key (s0,b4,b5)) >>= fun b6 =>
  if (b3 != b6) = true then
  some (true)
  else
  (Key (s0,a1,b2)) >>= fun b7 =>
  (Kf1 (s0,b7,c3)) >>= fun b8 =>
  (Kf1 (s0,a1,c3)) >>= fun b9 =>
  (Kf1 (s0,b2,c3)) >>= fun c0 =>
  (Key (s0,b9,c0)) >>= fun c1 =>
  some ((b8 != c1))
  ) : Option (Bool)) >>= fun c2 =>
  if c2 = true then
  some false
  else
  ((
  (Kf4 (s0,a1,b2)) >>= fun c4 =>
  if c4 = true then
  (Kf4 (s0,b2,c3)) >>= fun c5 =>
  if c5 = true then
  (Kf4 (s0,a1,c3)) >>= fun c6 =>
  some ((!c6))
  else
  some (false)
  else
  some (false)
  ) : Option (Bool)) >>= fun c7 =>
  if c7 = true then
  some false
  else
  ((
  (Kf4 (s0,a1,b2)) >>= fun c8 =>
  if c8 = true then
  (Key (s0,a1,c3)) >>= fun c9 =>
  (Key (s0,b2,c3)) >>= fun d0 =>
  (Kf4 (s0,c9,d0)) >>= fun d1 =>
  if d1 = true then
  (Kf1 (s0,a1,c3)) >>= fun d2 =>
  (Kf1 (s0,b2,c3)) >>= fun d3 =>
  (Kf4 (s0,d2,d3)) >>= fun d4 =>
  if d4 = true then
  (Kf1 (s0,c3,a1)) >>= fun d5 =>
  (Kf1 (s0,c3,b2)) >>= fun d6 =>
  (Kf4 (s0,d5,d6)) >>= fun d7 =>
  some (d7)
  else
  some (false)
  else
  some (false)
  else
  some (true)
  ) : Option (Bool)) >>= fun d8 =>
  some d8
def Kfo (p : K00 × Int × Int × Int) (r : Bool) : Prop :=
 match p with
 | (s0,a1,b2,c3) => Q75 Tryz.prog 162 [K1a s0,I a1,I b2,I c3] (.bool r) []
theorem Kfp : ∀ p r,Kfn p = some r → Kfo p r := by
 rintro ⟨s0,a1,b2,c3⟩ r h
 unfold Kfn at h
 refine b0 Tryz.f162 K4u 137 [(0,K1a s0),(1,I a1),(2,I b2),(3,I c3)] fun c hc => ?_
 refine rs hc none [some (.new 1),oN] [(1,I a1),(2,I b2),(3,I c3),(4,.ra 1 0)] [(1,K19 s0)] tv ?_
 refine sN ?_
 refine sN ?_
 obtain ⟨a0,a2,h⟩ := Qds h
 refine Wp.into (x := .normal) (mkS [(1,I a1),(2,I b2),(3,I c3),(4,.ra 1 0),(40,.bool a0)] [(1,K19 s0)]) ?_ ?_
 ·replace h := a2
  obtain ⟨a3,a4,a5,a6,a7,a8,a9,b1,h⟩ := bq4 h
  rcases is h with ⟨b3,h⟩ | ⟨b3,h⟩
  ·refine rgs hc Kf8 [oN,oN,oN,oN,oc (I a3),oN,oc (I a5),oN,oN,oN,oN,oN,oc (I a7),oc (I a9),oN,oN,o_,o_,o_,o_,o_,o_,o_,o_,o_,o_,o_,o_,o_,o_,o_,oT] [(1,I a1),(2,I b2),(3,I c3),(4,.ra 1 0),(40,.bool true)] (cq (Kf0 _ _ a4) K4o (cq (Kf0 _ _ a6) K4o (cq (Kf0 _ _ a8) K4o (cq (Kf0 _ _ b1) K4o (ar 15 (neF b3) (ai b3 tv)))))) ?_
   obtain rfl := os h
   exact Qde.mk
  obtain ⟨b4,b5,b6,b7,b8,b9,c0,c1,h⟩ := bq4 h
  refine rgs hc Kf8 [oN,oN,oN,oN,oc (I a3),oN,oc (I a5),oN,oN,oN,oN,oN,oc (I a7),oc (I a9),oN,oN,oN,oN,oN,oN,oc (I b4),oN,oc (I b6),oN,oN,oN,oN,oN,oc (I b8),oc (I c0),oN,oF] [(1,I a1),(2,I b2),(3,I c3),(4,.ra 1 0),(40,.bool (b6 != c0))] (cq (Kf0 _ _ a4) K4o (cq (Kf0 _ _ a6) K4o (cq (Kf0 _ _ a8) K4o (cq (Kf0 _ _ b1) K4o (ar 5 b3 (cq (Kf3 _ _ b5) K4q (ar 2 b3 (cq (Kf3 _ _ b7) K4q (ar 6 b3 (cq (Kf3 _ _ b9) K4q (ai b3 (cq (Kf3 _ _ c1) K4q (ar 2 b3 tv))))))))))))) ?_
  obtain rfl := os h
  exact Qde.mk
 clear a2
 refine ic h (fun c2 h => ?_) fun c2 h => ?_
 ·refine rs0 hc 1 [(8,.bool false)] [] ?_
  refine rt ?_
  obtain rfl := os h
  exact rq [true]
 refine sk ?_
 refine sN ?_
 refine sN ?_
 obtain ⟨c4,c5,h⟩ := Qds h
 refine Wp.into (x := .normal) (mkS [(1,I a1),(2,I b2),(3,I c3),(4,.ra 1 0),(78,.bool c4)] [(1,K19 s0)]) ?_ ?_
 ·replace h := c5
  obtain ⟨c6,c7,c8,c9,d0,d1,d2,d3,h⟩ := bq4 h
  obtain ⟨d4,d5,h⟩ := Qds h
  rcases is h with ⟨d6,h⟩ | ⟨d6,h⟩
  ·refine rgs hc Kf9 [oN,oN,oN,oN,oN,oc (I c6),oc (I c8),oN,oN,oN,oN,oc (I d0),oN,oN,oN,oc (I d2),oc (I d4),oN,oN,o_,o_,o_,o_,o_,o_,o_,o_,o_,o_,o_,o_,o_,o_,o_,o_,o_,o_,oT] [(1,I a1),(2,I b2),(3,I c3),(4,.ra 1 0),(78,.bool true)] (cq (Kf0 _ _ c7) K4o (cq (Kf3 _ _ c9) K4q (cq (Kf3 _ _ d1) K4q (cq (Kf3 _ _ d3) K4q (cq (Kf0 _ _ d5) K4o (ar 18 (neF d6) (ai d6 tv))))))) ?_
   obtain rfl := os h
   exact Qde.mk
  obtain ⟨d7,d8,d9,e0,e1,e2,e3,e4,h⟩ := bq4 h
  obtain ⟨e5,e6,h⟩ := Qds h
  refine rgs hc Kf9 [oN,oN,oN,oN,oN,oc (I c6),oc (I c8),oN,oN,oN,oN,oc (I d0),oN,oN,oN,oc (I d2),oc (I d4),oN,oN,oN,oN,oN,oN,oc (I d7),oN,oc (I d9),oN,oN,oN,oN,oc (I e1),oN,oN,oN,oc (I e3),oc (I e5),oN,oF] [(1,I a1),(2,I b2),(3,I c3),(4,.ra 1 0),(78,.bool (d9 != e5))] (cq (Kf0 _ _ c7) K4o (cq (Kf3 _ _ c9) K4q (cq (Kf3 _ _ d1) K4q (cq (Kf3 _ _ d3) K4q (cq (Kf0 _ _ d5) K4o (ar 5 d6 (cq (Kf0 _ _ d8) K4o (ar 2 d6 (cq (Kf3 _ _ e0) K4q (ar 5 d6 (cq (Kf3 _ _ e2) K4q (ar 4 d6 (cq (Kf3 _ _ e4) K4q (ai d6 (cq (Kf0 _ _ e6) K4o (ar 2 d6 tv)))))))))))))))) ?_
  obtain rfl := os h
  exact Qde.mk
 clear c5
 refine ic h (fun e7 h => ?_) fun e7 h => ?_
 ·refine rs0 hc 1 [(8,.bool false)] [] ?_
  refine rt ?_
  obtain rfl := os h
  exact rq [true]
 refine sk ?_
 refine sN ?_
 refine sN ?_
 obtain ⟨e8,e9,h⟩ := Qds h
 refine Wp.into (x := .normal) (mkS [(1,I a1),(2,I b2),(3,I c3),(4,.ra 1 0),(95,.bool e8)] [(1,K19 s0)]) ?_ ?_
 ·replace h := e9
  obtain ⟨f0,f1,h⟩ := Qds h
  rcases is h with ⟨f2,h⟩ | ⟨f2,h⟩
  ·obtain ⟨f3,f4,h⟩ := Qds h
   rcases is h with ⟨f5,h⟩ | ⟨f5,h⟩
   ·obtain ⟨f6,f7,h⟩ := Qds h
    refine rgs hc none [oN,oN,oN,oc (.bool f0),oN,oN,oN,oN,oc (.bool f3),oT,oN,oN,oN,oN,oc (.bool f6),oN,oT] [(1,I a1),(2,I b2),(3,I c3),(4,.ra 1 0),(95,.bool (!f6))] (cq (Kf6 _ _ f1) K4r (ar 4 f2 (cq (Kf6 _ _ f4) K4r (ai f2 (ar 4 f5 (cq (Kf6 _ _ f7) K4r (ar 2 f5 tv))))))) ?_
    obtain rfl := os h
    exact Qde.mk
   refine rgs hc none [oN,oN,oN,oc (.bool f0),oN,oN,oN,oN,oc (.bool f3),oT,oN,o_,o_,o_,o_,o_,oF] [(1,I a1),(2,I b2),(3,I c3),(4,.ra 1 0),(95,.bool false)] (cq (Kf6 _ _ f1) K4r (ar 4 f2 (cq (Kf6 _ _ f4) K4r (ai f2 (ar 5 (neT f5) (ai f5 tv)))))) ?_
   obtain rfl := os h
   exact Qde.mk
  refine rgs hc none [oN,oN,oN,oc (.bool f0),oN,o_,o_,o_,o_,oF,oN,o_,o_,o_,o_,o_,oF] [(1,I a1),(2,I b2),(3,I c3),(4,.ra 1 0),(95,.bool false)] (cq (Kf6 _ _ f1) K4r (ar 4 (neT f2) (ai f2 (ar 5 (neT (rfl : false = false)) (ai (rfl : false = false) tv))))) ?_
  obtain rfl := os h
  exact Qde.mk
 clear e9
 refine ic h (fun f8 h => ?_) fun f8 h => ?_
 ·refine rs0 hc 1 [(8,.bool false)] [] ?_
  refine rt ?_
  obtain rfl := os h
  exact rq [true]
 refine sk ?_
 refine sN ?_
 obtain ⟨f9,g0,h⟩ := Qds h
 refine Wp.into (x := .normal) (mkS [(8,.bool f9)] []) ?_ ?_
 ·replace h := g0
  obtain ⟨g1,g2,h⟩ := Qds h
  rcases is h with ⟨g3,h⟩ | ⟨g3,h⟩
  ·obtain ⟨g4,g5,g6,g7,g8,g9,h⟩ := bq3 h
   rcases is h with ⟨i0,h⟩ | ⟨i0,h⟩
   ·obtain ⟨i1,i2,i3,i4,i5,i6,h⟩ := bq3 h
    rcases is h with ⟨i7,h⟩ | ⟨i7,h⟩
    ·obtain ⟨i8,i9,j0,j8,j9,k0,h⟩ := bq3 h
     refine rg hc Kfa [oN,oN,oN,oc (.bool g1),oN,oN,oN,oN,oN,oN,oc (I g4),oN,oN,oN,oc (I g6),oc (.bool g8),oN,oN,oN,oN,oN,oc (I i1),oN,oN,oN,oc (I i3),oc (.bool i5),oT,oN,oN,oN,oN,oN,oc (I i8),oN,oN,oN,oc (I j0),oc (.bool j9),oT,oF,oN] [(8,.bool j9)] [] (cq (Kf6 _ _ g2) K4r (ar 5 (nF g3) (cq (Kf0 _ _ g5) K4o (ar 4 (nF g3) (cq (Kf0 _ _ g7) K4o (ai (nF g3) (cq (Kf6 _ _ g9) K4r (ai (nF g3) (ar 5 i0 (cq (Kf3 _ _ i2) K4q (ar 4 i0 (cq (Kf3 _ _ i4) K4q (ai i0 (cq (Kf6 _ _ i6) K4r (ac (nF g3) i0 (nF g3) (ar 5 i7 (cq (Kf3 _ _ i9) K4q (ar 4 i7 (cq (Kf3 _ _ j8) K4q (ai i7 (cq (Kf6 _ _ k0) K4r (ac (nF g3) i7 (nF g3) tv)))))))))))))))))))))) ?_
     obtain rfl := os h
     exact Qde.mk
    refine rg hc Kfa [oN,oN,oN,oc (.bool g1),oN,oN,oN,oN,oN,oN,oc (I g4),oN,oN,oN,oc (I g6),oc (.bool g8),oN,oN,oN,oN,oN,oc (I i1),oN,oN,oN,oc (I i3),oc (.bool i5),oT,oN,o_,o_,o_,o_,o_,o_,o_,o_,o_,o_,oF,oF,oN] [(8,.bool false)] [] (cq (Kf6 _ _ g2) K4r (ar 5 (nF g3) (cq (Kf0 _ _ g5) K4o (ar 4 (nF g3) (cq (Kf0 _ _ g7) K4o (ai (nF g3) (cq (Kf6 _ _ g9) K4r (ai (nF g3) (ar 5 i0 (cq (Kf3 _ _ i2) K4q (ar 4 i0 (cq (Kf3 _ _ i4) K4q (ai i0 (cq (Kf6 _ _ i6) K4r (ac (nF g3) i0 (nF g3) (ar 10 (neT i7) (ac (nF g3) i7 (nF g3) tv))))))))))))))))) ?_
    obtain rfl := os h
    exact Qde.mk
   refine rg hc Kfa [oN,oN,oN,oc (.bool g1),oN,oN,oN,oN,oN,oN,oc (I g4),oN,oN,oN,oc (I g6),oc (.bool g8),oN,o_,o_,o_,o_,o_,o_,o_,o_,o_,o_,oF,oN,o_,o_,o_,o_,o_,o_,o_,o_,o_,o_,oF,oF,oN] [(8,.bool false)] [] (cq (Kf6 _ _ g2) K4r (ar 5 (nF g3) (cq (Kf0 _ _ g5) K4o (ar 4 (nF g3) (cq (Kf0 _ _ g7) K4o (ai (nF g3) (cq (Kf6 _ _ g9) K4r (ai (nF g3) (ar 10 (neT i0) (ac (nF g3) i0 (nF g3) (ar 10 (neT (rfl : false = false)) (ac (nF g3) (rfl : false = false) (nF g3) tv)))))))))))) ?_
   obtain rfl := os h
   exact Qde.mk
  refine rg hc Kfa [oN,oN,oN,oc (.bool g1),oN,oN,o_,o_,o_,o_,o_,o_,o_,o_,o_,o_,o_,o_,o_,o_,o_,o_,o_,o_,o_,o_,o_,o_,o_,o_,o_,o_,o_,o_,o_,o_,o_,o_,o_,o_,oT,oN] [(8,.bool true)] [] (cq (Kf6 _ _ g2) K4r (ar 14 (neF (nT g3)) (ai (nT g3) tv))) ?_
  obtain rfl := os h
  exact Qde.mk
 clear g0
 refine rt ?_
 obtain rfl := os h
 exact rq [true]
def Kfq (c : Ctx) (s0 : K00) : (Unit) ⊕ (Bool) → Exit → Q0a → Prop
 | .inl _ => Qde c (.exit 0) (mkS [(1,.ra 1 0),(3,I s0.fSize)] [(1,K19 s0)])
 | .inr r => Qdn TIx Tryz.f79 [] (.bool r)
def Kfr (p : K00 × Int) : Option ((Unit) ⊕ (Bool)) :=
 match p with
 | (s0,a0) =>
  if (decide (a0 < (s0.fPlus.length : Int))) = true then
  ((
  (idx s0.fPlus a0) >>= fun a1 =>
  (Kev (s0,a1)) >>= fun a2 =>
  if a2 = true then
  (idx s0.fTimes a0) >>= fun a3 =>
  (Kev (s0,a3)) >>= fun a4 =>
  some ((!a4))
  else
  some (true)
  ) : Option (Bool)) >>= fun a5 =>
  if a5 = true then
  some (.inr false)
  else
  Kfr (s0,(wr (a0 + 1)))
  else
  some (.inl ())
 partial_fixpoint
def Kfs (p : K00 × Int) (fl : (Unit) ⊕ (Bool)) : Prop :=
 match p with
 | (s0,a0) => ∀ c : Ctx,c.nt = 157 → WpL Tryz.prog c (cl (cl (cr (cl (cr (cr (cr B79))))))) (Kfq c s0 fl) (mkS [(1,.ra 1 0),(3,I s0.fSize),(42,I (s0.fPlus.length : Int)),(43,I a0)] [(1,K19 s0)])
theorem Kft : ∀ p r,Kfr p = some r → Kfs p r := by
 refine Kfr.partial_correctness Kfs ?_
 rintro impl_IsSystem_l0_f impl_IsSystem_l0_ih ⟨s0,a0⟩ r h
 intro c hc
 refine WpL.step ?_
 refine K7e hc 1 [(1,.ra 1 0),(3,I s0.fSize),(42,I (s0.fPlus.length : Int)),(43,I a0),(44,.bool (decide (a0 < (s0.fPlus.length : Int))))] ?_
 refine sN ?_
 refine ic h (fun a1 h => ?_) fun a1 h => ?_
 ·refine sk ?_
  refine sN ?_
  refine bk 1 ?_
  refine K7e hc 2 [(1,.ra 1 0),(3,I s0.fSize),(4,I a0),(42,I (s0.fPlus.length : Int)),(43,I a0)] ?_
  refine sN ?_
  obtain ⟨a2,a3,h⟩ := Qds h
  refine Wp.into (x := .normal) (mkS [(1,.ra 1 0),(3,I s0.fSize),(42,I (s0.fPlus.length : Int)),(43,I a0),(63,.bool a2)] [(1,K19 s0)]) ?_ ?_
  ·replace h := a3
   obtain ⟨a4,a5,a6,a7,h⟩ := bq2 h
   rcases is h with ⟨a8,h⟩ | ⟨a8,h⟩
   ·obtain ⟨a9,b1,b2,b3,h⟩ := bq2 h
    refine rgs hc Kfb [oN,oN,oN,oN,some (.el (I a4)),oN,oc (.bool a6),oN,oN,oN,oN,oN,oN,some (.el (I a9)),oN,oc (.bool b2),oN,oF] [(1,.ra 1 0),(3,I s0.fSize),(42,I (s0.fPlus.length : Int)),(43,I a0),(63,.bool (!b2))] (ai (ix a5) (cq (Kex _ _ a7) K4m (ar 5 (nF a8) (ai (ix b1) (ar 2 (nF a8) (cq (Kex _ _ b3) K4m (ar 2 (nF a8) tv))))))) ?_
    obtain rfl := os h
    exact Qde.mk
   refine rgs hc Kfb [oN,oN,oN,oN,some (.el (I a4)),oN,oc (.bool a6),oN,oN,o_,o_,o_,o_,o_,o_,o_,o_,oT] [(1,.ra 1 0),(3,I s0.fSize),(42,I (s0.fPlus.length : Int)),(43,I a0),(63,.bool true)] (ai (ix a5) (cq (Kex _ _ a7) K4m (ar 8 (neF (nT a8)) (ai (nT a8) tv)))) ?_
   obtain rfl := os h
   exact Qde.mk
  clear a3
  refine ic h (fun b4 h => ?_) fun b4 h => ?_
  ·refine rs0 hc 1 [(2,.bool false)] [] ?_
   refine rt ?_
   obtain rfl := os h
   exact re [true]
  refine sk ?_
  refine K7d hc 2 [(1,.ra 1 0),(3,I s0.fSize),(42,I (s0.fPlus.length : Int)),(43,I (wr (a0 + 1)))] ?_
  refine Qda ?_
  exact (impl_IsSystem_l0_ih _ _ h c hc)
 refine xt 0 ?_
 refine Qd4 ?_
 refine Qdb ?_
 obtain rfl := os h
 exact iv []
def Kfu (c : Ctx) (s0 : K00) (a0 : Int) (a1 : Int) : (Unit) ⊕ (Bool) → Exit → Q0a → Prop
 | .inl _ => Qde c (.exit 6) (mkS [(1,.ra 1 0),(3,I s0.fSize),(5,I a0),(6,I a1)] [(1,K19 s0)])
 | .inr r => Qdn TIx Tryz.f79 [] (.bool r)
def Kfv (p : K00 × Int × Int × Int) : Option ((Unit) ⊕ (Bool)) :=
 match p with
 | (s0,a0,a1,a2) =>
  if (decide (a2 < s0.fSize)) = true then
  (Kfn (s0,a0,a1,a2)) >>= fun a3 =>
  if a3 = true then
  Kfv (s0,a0,a1,(wr (a2 + 1)))
  else
  some (.inr false)
  else
  some (.inl ())
 partial_fixpoint
def Kfw (p : K00 × Int × Int × Int) (fl : (Unit) ⊕ (Bool)) : Prop :=
 match p with
 | (s0,a0,a1,a2) => ∀ c : Ctx,c.nt = 157 → WpL Tryz.prog c (cl (cl (cr (cr (cl (cl (cr (cl (cl (cr (cr (cl (cl (cr (cl (cl (cr (cl (cr (cr (cr (cr B79)))))))))))))))))))))) (Kfu c s0 a0 a1 fl) (mkS [(1,.ra 1 0),(3,I s0.fSize),(5,I a0),(6,I a1),(7,I a2)] [(1,K19 s0)])
theorem Kfx : ∀ p r,Kfv p = some r → Kfw p r := by
 refine Kfv.partial_correctness Kfw ?_
 rintro impl_IsSystem_l1_f impl_IsSystem_l1_ih ⟨s0,a0,a1,a2⟩ r h
 intro c hc
 refine WpL.step ?_
 refine sN ?_
 refine K7e hc 3 [(1,.ra 1 0),(3,I s0.fSize),(5,I a0),(6,I a1),(7,I a2),(148,.bool (decide (a2 < s0.fSize)))] ?_
 refine ic h (fun a3 h => ?_) fun a3 h => ?_
 ·refine sk ?_
  refine sN ?_
  refine bk 7 ?_
  obtain ⟨a4,a5,h⟩ := Qds h
  refine rss hc none [oN,oN,oN,oN,oc (.bool a4),oN] [(1,.ra 1 0),(3,I s0.fSize),(5,I a0),(6,I a1),(7,I a2),(156,.bool (!a4))] (cq (Kfp _ _ a5) K4v tv) ?_
  rcases is h with ⟨a6,h⟩ | ⟨a6,h⟩
  ·refine cF (!a4) (nF a6) ?_
   refine sk ?_
   refine K7d hc 3 [(1,.ra 1 0),(3,I s0.fSize),(5,I a0),(6,I a1),(7,I (wr (a2 + 1)))] ?_
   refine Qda ?_
   exact (impl_IsSystem_l1_ih _ _ h c hc)
  refine cT (!a4) (nT a6) ?_
  refine rs0 hc 1 [(2,.bool false)] [] ?_
  refine rt ?_
  obtain rfl := os h
  exact re [true]
 refine xt 6 ?_
 refine Qd4 ?_
 refine Qdb ?_
 obtain rfl := os h
 exact iv []
def Kfy (c : Ctx) (s0 : K00) (a0 : Int) : (Unit) ⊕ (Bool) → Exit → Q0a → Prop
 | .inl _ => Qde c (.exit 4) (mkS [(1,.ra 1 0),(3,I s0.fSize),(5,I a0)] [(1,K19 s0)])
 | .inr r => Qdn TIx Tryz.f79 [] (.bool r)
def Kfz : Option (List (List Nat)) := rh [0,0,0,3,0,0,0,7,8,9,10,10,12,13,14,14,14,17,18,19,20,20,20,23,24,25,26,27,27,27,30,31,32]
def Kg0 (p : K00 × Int × Int) : Option ((Unit) ⊕ (Bool)) :=
 match p with
 | (s0,a0,a1) =>
  if (decide (a1 < s0.fSize)) = true then
  ((
  (Key (s0,a0,a1)) >>= fun a2 =>
  (Key (s0,a1,a0)) >>= fun a3 =>
  if (a2 != a3) = true then
   some (true)
  else
   if (a0 != a1) = true then
   (Kf4 (s0,a0,a1)) >>= fun a4 =>
   if a4 = true then
   (Kf4 (s0,a1,a0)) >>= fun a5 =>
   if a5 = true then
   some (true)
   else
   (Kfk (s0,a0,a1)) >>= fun a6 =>
   some ((decide (a6 < 0)))
   else
   (Kfk (s0,a0,a1)) >>= fun a6 =>
   some ((decide (a6 < 0)))
   else
   (Kfk (s0,a0,a1)) >>= fun a6 =>
   some ((decide (a6 < 0)))
  ) : Option (Bool)) >>= fun a7 =>
  if a7 = true then
  some (.inr false)
  else
  (Kfv (s0,a0,a1,0)) >>= fun fl => match fl with
  | .inl () =>
   Kg0 (s0,a0,(wr (a1 + 1)))
  | .inr r =>
   some (.inr r)
  else
  some (.inl ())
 partial_fixpoint
def Kg1 (p : K00 × Int × Int) (fl : (Unit) ⊕ (Bool)) : Prop :=
 match p with
 | (s0,a0,a1) => ∀ c : Ctx,c.nt = 157 → WpL Tryz.prog c (cl (cl (cr (cr (cl (cl (cr (cl (cl (cr (cl (cr (cr (cr (cr B79))))))))))))))) (Kfy c s0 a0 fl) (mkS [(1,.ra 1 0),(3,I s0.fSize),(5,I a0),(6,I a1)] [(1,K19 s0)])
theorem Kg2 : ∀ p r,Kg0 p = some r → Kg1 p r := by
 refine Kg0.partial_correctness Kg1 ?_
 rintro impl_IsSystem_l2_f impl_IsSystem_l2_ih ⟨s0,a0,a1⟩ r h
 intro c hc
 refine WpL.step ?_
 refine sN ?_
 refine K7e hc 3 [(1,.ra 1 0),(3,I s0.fSize),(5,I a0),(6,I a1),(110,.bool (decide (a1 < s0.fSize)))] ?_
 refine ic h (fun a2 h => ?_) fun a2 h => ?_
 ·refine sk ?_
  refine sN ?_
  refine bk 5 ?_
  refine sN ?_
  refine sN ?_
  obtain ⟨a3,a4,h⟩ := Qds h
  refine Wp.into (x := .normal) (mkS [(1,.ra 1 0),(3,I s0.fSize),(5,I a0),(6,I a1),(145,.bool a3)] [(1,K19 s0)]) ?_ ?_
  ·replace h := a4
   obtain ⟨a5,a6,a7,a8,h⟩ := bq2 h
   rcases is h with ⟨a9,h⟩ | ⟨a9,h⟩
   ·refine rgs hc Kfz [oN,oN,oN,oc (I a5),oN,oN,oN,oc (I a7),oN,oN,o_,o_,o_,o_,o_,o_,o_,o_,o_,o_,o_,o_,o_,o_,o_,oT,oN,o_,o_,o_,o_,o_,oT] [(1,.ra 1 0),(3,I s0.fSize),(5,I a0),(6,I a1),(145,.bool true)] (cq (Kf0 _ _ a6) K4o (cq (Kf0 _ _ a8) K4o (ar 7 (neF a9) (ai a9 (ar 5 nf (ai tt tv)))))) ?_
    obtain rfl := os h
    exact Qde.mk
   rcases is h with ⟨b1,h⟩ | ⟨b1,h⟩
   ·obtain ⟨b2,b3,h⟩ := Qds h
    rcases is h with ⟨b4,h⟩ | ⟨b4,h⟩
    ·obtain ⟨b5,b6,h⟩ := Qds h
     rcases is h with ⟨b7,h⟩ | ⟨b7,h⟩
     ·refine rgs hc Kfz [oN,oN,oN,oc (I a5),oN,oN,oN,oc (I a7),oN,oN,oN,oN,oN,oN,oN,oN,oN,oc (.bool b2),oT,oN,oN,oN,oN,oc (.bool b5),oT,oF,oN,o_,o_,o_,o_,o_,oT] [(1,.ra 1 0),(3,I s0.fSize),(5,I a0),(6,I a1),(145,.bool true)] (cq (Kf0 _ _ a6) K4o (cq (Kf0 _ _ a8) K4o (ar 4 a9 (ar 4 b1 (cq (Kf6 _ _ b3) K4r (ac a9 b1 a9 (ar 4 b4 (cq (Kf6 _ _ b6) K4r (ac a9 b4 a9 (ar 5 (neF b7) (ai b7 tv))))))))))) ?_
      obtain rfl := os h
      exact Qde.mk
     obtain ⟨b8,b9,h⟩ := Qds h
     refine rgs hc Kfz [oN,oN,oN,oc (I a5),oN,oN,oN,oc (I a7),oN,oN,oN,oN,oN,oN,oN,oN,oN,oc (.bool b2),oT,oN,oN,oN,oN,oc (.bool b5),oT,oF,oN,oN,oN,oN,oc (I b8),oN,oF] [(1,.ra 1 0),(3,I s0.fSize),(5,I a0),(6,I a1),(145,.bool (decide (b8 < 0)))] (cq (Kf0 _ _ a6) K4o (cq (Kf0 _ _ a8) K4o (ar 4 a9 (ar 4 b1 (cq (Kf6 _ _ b3) K4r (ac a9 b1 a9 (ar 4 b4 (cq (Kf6 _ _ b6) K4r (ac a9 b4 a9 (ar 4 b7 (cq (Kfm _ _ b9) K4t (ar 2 b7 tv)))))))))))) ?_
     obtain rfl := os h
     exact Qde.mk
    obtain ⟨b8,b9,h⟩ := Qds h
    refine rgs hc Kfz [oN,oN,oN,oc (I a5),oN,oN,oN,oc (I a7),oN,oN,oN,oN,oN,oN,oN,oN,oN,oc (.bool b2),oT,oN,o_,o_,o_,o_,oF,oF,oN,oN,oN,oN,oc (I b8),oN,oF] [(1,.ra 1 0),(3,I s0.fSize),(5,I a0),(6,I a1),(145,.bool (decide (b8 < 0)))] (cq (Kf0 _ _ a6) K4o (cq (Kf0 _ _ a8) K4o (ar 4 a9 (ar 4 b1 (cq (Kf6 _ _ b3) K4r (ac a9 b1 a9 (ar 4 (neT b4) (ac a9 b4 a9 (ar 4 (rfl : false = false) (cq (Kfm _ _ b9) K4t (ar 2 (rfl : false = false) tv))))))))))) ?_
    obtain rfl := os h
    exact Qde.mk
   obtain ⟨b8,b9,h⟩ := Qds h
   refine rgs hc Kfz [oN,oN,oN,oc (I a5),oN,oN,oN,oc (I a7),oN,oN,oN,oN,oN,oN,o_,o_,o_,o_,oF,oN,o_,o_,o_,o_,oF,oF,oN,oN,oN,oN,oc (I b8),oN,oF] [(1,.ra 1 0),(3,I s0.fSize),(5,I a0),(6,I a1),(145,.bool (decide (b8 < 0)))] (cq (Kf0 _ _ a6) K4o (cq (Kf0 _ _ a8) K4o (ar 4 a9 (ar 4 (neT b1) (ac a9 b1 a9 (ar 4 (neT (rfl : false = false)) (ac a9 (rfl : false = false) a9 (ar 4 (rfl : false = false) (cq (Kfm _ _ b9) K4t (ar 2 (rfl : false = false) tv)))))))))) ?_
   obtain rfl := os h
   exact Qde.mk
  clear a4
  refine ic h (fun c0 h => ?_) fun c0 h => ?_
  ·refine rs0 hc 1 [(2,.bool false)] [] ?_
   refine rt ?_
   obtain rfl := os h
   exact re [true]
  refine sk ?_
  refine K7e hc 1 [(1,.ra 1 0),(3,I s0.fSize),(5,I a0),(6,I a1),(7,I 0)] ?_
  refine bk 6 ?_
  obtain ⟨fl,c1,h⟩ := Qds h
  have hL := Kfx _ _ c1 c hc
  refine lp ?_
  rcases fl with ⟨⟩ | r
  ·refine WpL.into (e := (.exit 6)) (mkS [(1,.ra 1 0),(3,I s0.fSize),(5,I a0),(6,I a1)] [(1,K19 s0)]) hL ?_
   refine Qd6 ?_
   refine K7d hc 3 [(1,.ra 1 0),(3,I s0.fSize),(5,I a0),(6,I (wr (a1 + 1)))] ?_
   refine Qda ?_
   exact (impl_IsSystem_l2_ih _ _ h c hc)
  refine WpL.mono hL ?_
  rintro _ _ ⟨rfl,hfin⟩
  obtain rfl := os h
  exact ⟨rfl,hfin⟩
 refine xt 4 ?_
 refine Qd4 ?_
 refine Qdb ?_
 obtain rfl := os h
 exact iv []
def Kg3 (c : Ctx) : (Unit) ⊕ (Bool) → Exit → Q0a → Prop
 | .inl _ => Qde c (.exit 2) (mkS [] [])
 | .inr r => Qdn TIx Tryz.f79 [] (.bool r)
def Kg4 (p : K00 × Int) : Option ((Unit) ⊕ (Bool)) :=
 match p with
 | (s0,a0) =>
  if (decide (a0 < s0.fSize)) = true then
  ((
  (Key (s0,0,a0)) >>= fun a1 =>
  if (a1 != a0) = true then
   some (true)
  else
   (Kf1 (s0,1,a0)) >>= fun a2 =>
   if (a2 != a0) = true then
   some (true)
   else
   (Kf1 (s0,a0,1)) >>= fun a3 =>
   if (a3 != a0) = true then
   some (true)
   else
   (Kf1 (s0,0,a0)) >>= fun a4 =>
   if (a4 != 0) = true then
   some (true)
   else
   (Kf1 (s0,a0,0)) >>= fun a5 =>
   if (a5 != 0) = true then
   some (true)
   else
   (Kf4 (s0,a0,a0)) >>= fun a6 =>
   some ((!a6))
  ) : Option (Bool)) >>= fun a7 =>
  if a7 = true then
  some (.inr false)
  else
  (Kg0 (s0,a0,0)) >>= fun fl => match fl with
  | .inl () =>
   Kg4 (s0,(wr (a0 + 1)))
  | .inr r =>
   some (.inr r)
  else
  some (.inl ())
 partial_fixpoint
def Kg5 (p : K00 × Int) (fl : (Unit) ⊕ (Bool)) : Prop :=
 match p with
 | (s0,a0) => ∀ c : Ctx,c.nt = 157 → WpL Tryz.prog c (cl (cl (cr (cl (cr (cr (cr (cr B79)))))))) (Kg3 c fl) (mkS [(1,.ra 1 0),(3,I s0.fSize),(5,I a0)] [(1,K19 s0)])
theorem Kg6 : ∀ p r,Kg4 p = some r → Kg5 p r := by
 refine Kg4.partial_correctness Kg5 ?_
 rintro impl_IsSystem_l3_f impl_IsSystem_l3_ih ⟨s0,a0⟩ r h
 intro c hc
 refine WpL.step ?_
 refine sN ?_
 refine K7e hc 3 [(1,.ra 1 0),(3,I s0.fSize),(5,I a0),(67,.bool (decide (a0 < s0.fSize)))] ?_
 refine ic h (fun a1 h => ?_) fun a1 h => ?_
 ·refine sk ?_
  refine sN ?_
  refine bk 3 ?_
  refine sN ?_
  refine sN ?_
  obtain ⟨a2,a3,h⟩ := Qds h
  refine Wp.into (x := .normal) (mkS [(1,.ra 1 0),(3,I s0.fSize),(5,I a0),(107,.bool a2)] [(1,K19 s0)]) ?_ ?_
  ·replace h := a3
   obtain ⟨a4,a5,h⟩ := Qds h
   rcases is h with ⟨a6,h⟩ | ⟨a6,h⟩
   ·refine rgs hc none [oN,oN,oc (I a4),oN,oN,oN,o_,o_,o_,o_,o_,oT,oN,o_,o_,o_,o_,o_,oT,oN,o_,o_,o_,o_,oT,oN,o_,o_,o_,o_,oT,oN,o_,o_,o_,o_,o_,oT] [(1,.ra 1 0),(3,I s0.fSize),(5,I a0),(107,.bool true)] (cq (Kf0 _ _ a5) K4o (ar 5 (neF a6) (ai a6 (ar 5 nf (ai tt (ar 4 nf (ai tt (ar 4 nf (ai tt (ar 5 nf (ai tt tv))))))))))) ?_
    obtain rfl := os h
    exact Qde.mk
   obtain ⟨a7,a8,h⟩ := Qds h
   rcases is h with ⟨a9,h⟩ | ⟨a9,h⟩
   ·refine rgs hc none [oN,oN,oc (I a4),oN,oN,oN,oN,oN,oc (I a7),oN,oN,oF,oN,o_,o_,o_,o_,o_,oT,oN,o_,o_,o_,o_,oT,oN,o_,o_,o_,o_,oT,oN,o_,o_,o_,o_,o_,oT] [(1,.ra 1 0),(3,I s0.fSize),(5,I a0),(107,.bool true)] (cq (Kf0 _ _ a5) K4o (ar 3 a6 (cq (Kf3 _ _ a8) K4q (ar 3 a6 (ar 5 (neF a9) (ai a9 (ar 4 nf (ai tt (ar 4 nf (ai tt (ar 5 nf (ai tt tv)))))))))))) ?_
    obtain rfl := os h
    exact Qde.mk
   obtain ⟨b1,b2,h⟩ := Qds h
   rcases is h with ⟨b3,h⟩ | ⟨b3,h⟩
   ·refine rgs hc none [oN,oN,oc (I a4),oN,oN,oN,oN,oN,oc (I a7),oN,oN,oF,oN,oN,oN,oc (I b1),oN,oN,oF,oN,o_,o_,o_,o_,oT,oN,o_,o_,o_,o_,oT,oN,o_,o_,o_,o_,o_,oT] [(1,.ra 1 0),(3,I s0.fSize),(5,I a0),(107,.bool true)] (cq (Kf0 _ _ a5) K4o (ar 3 a6 (cq (Kf3 _ _ a8) K4q (ar 3 a6 (ar 3 a9 (cq (Kf3 _ _ b2) K4q (ar 3 a9 (ar 4 (neF b3) (ai b3 (ar 4 nf (ai tt (ar 5 nf (ai tt tv))))))))))))) ?_
    obtain rfl := os h
    exact Qde.mk
   obtain ⟨b4,b5,h⟩ := Qds h
   rcases is h with ⟨b6,h⟩ | ⟨b6,h⟩
   ·refine rgs hc none [oN,oN,oc (I a4),oN,oN,oN,oN,oN,oc (I a7),oN,oN,oF,oN,oN,oN,oc (I b1),oN,oN,oF,oN,oN,oN,oc (I b4),oN,oF,oN,o_,o_,o_,o_,oT,oN,o_,o_,o_,o_,o_,oT] [(1,.ra 1 0),(3,I s0.fSize),(5,I a0),(107,.bool true)] (cq (Kf0 _ _ a5) K4o (ar 3 a6 (cq (Kf3 _ _ a8) K4q (ar 3 a6 (ar 3 a9 (cq (Kf3 _ _ b2) K4q (ar 3 a9 (ar 3 b3 (cq (Kf3 _ _ b5) K4q (ar 2 b3 (ar 4 (neF b6) (ai b6 (ar 5 nf (ai tt tv)))))))))))))) ?_
    obtain rfl := os h
    exact Qde.mk
   obtain ⟨b7,b8,h⟩ := Qds h
   rcases is h with ⟨b9,h⟩ | ⟨b9,h⟩
   ·refine rgs hc none [oN,oN,oc (I a4),oN,oN,oN,oN,oN,oc (I a7),oN,oN,oF,oN,oN,oN,oc (I b1),oN,oN,oF,oN,oN,oN,oc (I b4),oN,oF,oN,oN,oN,oc (I b7),oN,oF,oN,o_,o_,o_,o_,o_,oT] [(1,.ra 1 0),(3,I s0.fSize),(5,I a0),(107,.bool true)] (cq (Kf0 _ _ a5) K4o (ar 3 a6 (cq (Kf3 _ _ a8) K4q (ar 3 a6 (ar 3 a9 (cq (Kf3 _ _ b2) K4q (ar 3 a9 (ar 3 b3 (cq (Kf3 _ _ b5) K4q (ar 2 b3 (ar 3 b6 (cq (Kf3 _ _ b8) K4q (ar 2 b6 (ar 5 (neF b9) (ai b9 tv))))))))))))))) ?_
    obtain rfl := os h
    exact Qde.mk
   obtain ⟨c0,c1,h⟩ := Qds h
   refine rgs hc none [oN,oN,oc (I a4),oN,oN,oN,oN,oN,oc (I a7),oN,oN,oF,oN,oN,oN,oc (I b1),oN,oN,oF,oN,oN,oN,oc (I b4),oN,oF,oN,oN,oN,oc (I b7),oN,oF,oN,oN,oN,oN,oc (.bool c0),oN,oF] [(1,.ra 1 0),(3,I s0.fSize),(5,I a0),(107,.bool (!c0))] (cq (Kf0 _ _ a5) K4o (ar 3 a6 (cq (Kf3 _ _ a8) K4q (ar 3 a6 (ar 3 a9 (cq (Kf3 _ _ b2) K4q (ar 3 a9 (ar 3 b3 (cq (Kf3 _ _ b5) K4q (ar 2 b3 (ar 3 b6 (cq (Kf3 _ _ b8) K4q (ar 2 b6 (ar 4 b9 (cq (Kf6 _ _ c1) K4r (ar 2 b9 tv)))))))))))))))) ?_
   obtain rfl := os h
   exact Qde.mk
  clear a3
  refine ic h (fun c2 h => ?_) fun c2 h => ?_
  ·refine rs0 hc 1 [(2,.bool false)] [] ?_
   refine rt ?_
   obtain rfl := os h
   exact re [true]
  refine sk ?_
  refine K7e hc 1 [(1,.ra 1 0),(3,I s0.fSize),(5,I a0),(6,I 0)] ?_
  refine bk 4 ?_
  obtain ⟨fl,c3,h⟩ := Qds h
  have hL := Kg2 _ _ c3 c hc
  refine lp ?_
  rcases fl with ⟨⟩ | r
  ·refine WpL.into (e := (.exit 4)) (mkS [(1,.ra 1 0),(3,I s0.fSize),(5,I a0)] [(1,K19 s0)]) hL ?_
   refine Qd6 ?_
   refine K7d hc 3 [(1,.ra 1 0),(3,I s0.fSize),(5,I (wr (a0 + 1)))] ?_
   refine Qda ?_
   exact (impl_IsSystem_l3_ih _ _ h c hc)
  refine WpL.mono hL ?_
  rintro _ _ ⟨rfl,hfin⟩
  obtain rfl := os h
  exact ⟨rfl,hfin⟩
 refine xt 2 ?_
 refine Qd4 ?_
 refine Qdb ?_
 obtain rfl := os h
 exact iv []
def Kg7 (s0 : K00) : Option (Bool) :=
 ((
 (Kes (s0.fSize,2,16)) >>= fun a0 =>
 if a0 = true then
  if ((s0.fPlus.length : Int) != (wr (s0.fSize * s0.fSize))) = true then
   some (true)
  else
   if ((s0.fTimes.length : Int) != (wr (s0.fSize * s0.fSize))) = true then
   some (true)
   else
   some (((s0.fBelow.length : Int) != (wr (s0.fSize * s0.fSize))))
 else
  some (true)
 ) : Option (Bool)) >>= fun a1 =>
 if a1 = true then
 some false
 else
 (Kfr (s0,0)) >>= fun fl => match fl with
 | .inl () =>
  (Kg4 (s0,0)) >>= fun fl => match fl with
  | .inl () =>
   some true
  | .inr r =>
   some r
 | .inr r =>
  some r
def Kg8 (s0 : K00) (r : Bool) : Prop :=
 Q75 Tryz.prog 79 [K1a s0] (.bool r) []
theorem Kg9 : ∀ p r,Kg7 p = some r → Kg8 p r := by
 rintro s0 r h
 unfold Kg7 at h
 refine b0 Tryz.f79 B79 157 [(0,K1a s0)] fun c hc => ?_
 refine rs hc none [some (.new 1),oN] [(1,.ra 1 0)] [(1,K19 s0)] tv ?_
 refine K7e hc 3 [(1,.ra 1 0),(3,I s0.fSize)] ?_
 refine sN ?_
 refine sN ?_
 obtain ⟨a0,a1,h⟩ := Qds h
 refine Wp.into (x := .normal) (mkS [(1,.ra 1 0),(3,I s0.fSize),(39,.bool a0)] [(1,K19 s0)]) ?_ ?_
 ·replace h := a1
  obtain ⟨a2,a3,h⟩ := Qds h
  rcases is h with ⟨a4,h⟩ | ⟨a4,h⟩
  ·rcases is h with ⟨a5,h⟩ | ⟨a5,h⟩
   ·refine rgs hc none [oN,oc (.bool a2),oN,oN,oN,oN,some (.eqv (.no) ⟨[(16,I (s0.fPlus.length : Int))],[],[]⟩),oN,oN,oN,oN,oF,oN,o_,o_,o_,o_,o_,o_,o_,oT,oN,o_,o_,o_,o_,o_,o_,o_,oT] [(1,.ra 1 0),(3,I s0.fSize),(39,.bool true)] (cq (Keu _ _ a3) K4k (ar 3 (nF a4) (ai (Qdy (d := 16) I s0.fPlus) (ar 5 (nF a4) (ar 7 (neF a5) (ai a5 (ar 7 nf (ai tt tv)))))))) ?_
    obtain rfl := os h
    exact Qde.mk
   rcases is h with ⟨a6,h⟩ | ⟨a6,h⟩
   ·refine rgs hc none [oN,oc (.bool a2),oN,oN,oN,oN,some (.eqv (.no) ⟨[(16,I (s0.fPlus.length : Int))],[],[]⟩),oN,oN,oN,oN,oF,oN,oN,oN,some (.eqv (.no) ⟨[(25,I (s0.fTimes.length : Int))],[],[]⟩),oN,oN,oN,oN,oF,oN,o_,o_,o_,o_,o_,o_,o_,oT] [(1,.ra 1 0),(3,I s0.fSize),(39,.bool true)] (cq (Keu _ _ a3) K4k (ar 3 (nF a4) (ai (Qdy (d := 16) I s0.fPlus) (ar 5 (nF a4) (ar 3 a5 (ai (Qdy (d := 25) I s0.fTimes) (ar 5 a5 (ar 7 (neF a6) (ai a6 tv))))))))) ?_
    obtain rfl := os h
    exact Qde.mk
   refine rgs hc none [oN,oc (.bool a2),oN,oN,oN,oN,some (.eqv (.no) ⟨[(16,I (s0.fPlus.length : Int))],[],[]⟩),oN,oN,oN,oN,oF,oN,oN,oN,some (.eqv (.no) ⟨[(25,I (s0.fTimes.length : Int))],[],[]⟩),oN,oN,oN,oN,oF,oN,oN,oN,some (.eqv (.no) ⟨[(34,I (s0.fBelow.length : Int))],[],[]⟩),oN,oN,oN,oN,oF] [(1,.ra 1 0),(3,I s0.fSize),(39,.bool ((s0.fBelow.length : Int) != (wr (s0.fSize * s0.fSize))))] (cq (Keu _ _ a3) K4k (ar 3 (nF a4) (ai (Qdy (d := 16) I s0.fPlus) (ar 5 (nF a4) (ar 3 a5 (ai (Qdy (d := 25) I s0.fTimes) (ar 5 a5 (ar 3 a6 (ai (Qdy (d := 34) AV.bool s0.fBelow) (ar 5 a6 tv)))))))))) ?_
   obtain rfl := os h
   exact Qde.mk
  refine rgs hc none [oN,oc (.bool a2),oN,oN,o_,o_,o_,o_,o_,o_,o_,oT,oN,o_,o_,o_,o_,o_,o_,o_,oT,oN,o_,o_,o_,o_,o_,o_,o_,oT] [(1,.ra 1 0),(3,I s0.fSize),(39,.bool true)] (cq (Keu _ _ a3) K4k (ar 7 (neF (nT a4)) (ai (nT a4) (ar 7 nf (ai tt (ar 7 nf (ai tt tv))))))) ?_
  obtain rfl := os h
  exact Qde.mk
 clear a1
 refine ic h (fun a7 h => ?_) fun a7 h => ?_
 ·refine rs0 hc 1 [(2,.bool false)] [] ?_
  refine rt ?_
  obtain rfl := os h
  exact rq [true]
 refine sk ?_
 refine sN ?_
 refine rss hc none [oN,oN,some (.eqv (.no) ⟨[(42,I (s0.fPlus.length : Int))],[],[]⟩),oN] [(1,.ra 1 0),(3,I s0.fSize),(42,I (s0.fPlus.length : Int)),(43,I 0)] (ai (Qdy (d := 42) I s0.fPlus) tv) ?_
 refine bk 0 ?_
 obtain ⟨fl,a8,h⟩ := Qds h
 have hL := Kft _ _ a8 c hc
 refine lp ?_
 rcases fl with ⟨⟩ | r
 ·refine WpL.into (e := (.exit 0)) (mkS [(1,.ra 1 0),(3,I s0.fSize)] [(1,K19 s0)]) hL ?_
  refine Qd6 ?_
  refine sN ?_
  refine K7e hc 1 [(1,.ra 1 0),(3,I s0.fSize),(5,I 0)] ?_
  refine bk 2 ?_
  obtain ⟨fl,a9,h⟩ := Qds h
  have hL := Kg6 _ _ a9 c hc
  refine lp ?_
  rcases fl with ⟨⟩ | r
  ·refine WpL.into (e := (.exit 2)) (mkS [] []) hL ?_
   refine Qd6 ?_
   refine rs0 hc 1 [(2,.bool true)] [] ?_
   refine rt ?_
   obtain rfl := os h
   exact rq [true]
  refine WpL.mono hL ?_
  rintro _ _ ⟨rfl,hfin⟩
  obtain rfl := os h
  exact ⟨.inl rfl,hfin⟩
 refine WpL.mono hL ?_
 rintro _ _ ⟨rfl,hfin⟩
 obtain rfl := os h
 exact ⟨.inl rfl,hfin⟩
def Kga (c : Ctx) (s0 : K00) (in1 : List Bool) (a0 : Int) : (Unit) ⊕ (Bool) → Exit → Q0a → Prop
 | .inl _ => Qde c (.exit 2) (mkS [(1,sB in1),(2,.ra 1 0),(5,I a0)] [(1,K19 s0)])
 | .inr r => Qdn TIx Tryz.f151 [] (.bool r)
def Kgb : Option (List (List Nat)) := rx [[0],[0],[0],[0],[0,1,2,3],[5],[6],[0],[0],[0,7,8],[0,7,8,9],[0,1,2,3,4,7,8,9,10],[0,1,2,3,4,7,8,9,10,11],[0,1,2,3,4,7,8,9,10,11],[0,1,2,3,4,7,8,9,10,11,12,13],[0,1,2,3,4,7,8,9,10,11,12,13,14],[0,1,2,3,4,7,8,9,10,11,12,13,14,15],[17],[18],[19],[19],[19],[19],[19,20,21,22],[24],[25],[19],[19],[19,26,27],[19,26,27,28],[19,20,21,22,23,26,27,28,29],[19,20,21,22,23,26,27,28,29,30],[19,20,21,22,23,26,27,28,29,30],[19,20,21,22,23,26,27,28,29,30,31,32],[19,20,21,22,23,26,27,28,29,30,31,32,33],[19,20,21,22,23,26,27,28,29,30,31,32,33,34],[36],[37],[38],[39],[39],[41],[42],[43],[44],[44],[44],[47],[48],[49],[50],[50],[52],[53],[54],[55],[56]]
def Kgc (p : K00 × (List Bool) × Int × Int) : Option ((Unit) ⊕ (Bool)) :=
 match p with
 | (s0,in1,a0,a1) =>
  if (decide (a1 < s0.fSize)) = true then
  ((
  (Key (s0,a0,a1)) >>= fun a2 =>
  (idx in1 a2) >>= fun a3 =>
  (idx in1 a0) >>= fun a4 =>
  if a4 = true then
  if (a3 == true) = true then
  (Kf1 (s0,a0,a1)) >>= fun a5 =>
  (idx in1 a5) >>= fun a6 =>
  (idx in1 a0) >>= fun a7 =>
  if a7 = true then
  (idx in1 a1) >>= fun a8 =>
  if (a6 == a8) = true then
  (idx in1 a0) >>= fun a9 =>
  if a9 = true then
  (Kf4 (s0,a0,a1)) >>= fun b1 =>
  if b1 = true then
  (idx in1 a1) >>= fun b2 =>
  some ((!b2))
  else
  some (false)
  else
  some (false)
  else
  some (true)
  else
  if (a6 == false) = true then
  (idx in1 a0) >>= fun a9 =>
  if a9 = true then
  (Kf4 (s0,a0,a1)) >>= fun b1 =>
  if b1 = true then
  (idx in1 a1) >>= fun b2 =>
  some ((!b2))
  else
  some (false)
  else
  some (false)
  else
  some (true)
  else
  some (true)
  else
  (idx in1 a1) >>= fun b3 =>
  if (a3 == b3) = true then
  (Kf1 (s0,a0,a1)) >>= fun a5 =>
  (idx in1 a5) >>= fun a6 =>
  (idx in1 a0) >>= fun a7 =>
  if a7 = true then
  (idx in1 a1) >>= fun a8 =>
  if (a6 == a8) = true then
  (idx in1 a0) >>= fun a9 =>
  if a9 = true then
  (Kf4 (s0,a0,a1)) >>= fun b1 =>
  if b1 = true then
  (idx in1 a1) >>= fun b2 =>
  some ((!b2))
  else
  some (false)
  else
  some (false)
  else
  some (true)
  else
  if (a6 == false) = true then
  (idx in1 a0) >>= fun a9 =>
  if a9 = true then
  (Kf4 (s0,a0,a1)) >>= fun b1 =>
  if b1 = true then
  (idx in1 a1) >>= fun b2 =>
  some ((!b2))
  else
  some (false)
  else
  some (false)
  else
  some (true)
  else
  some (true)
  ) : Option (Bool)) >>= fun b4 =>
  if b4 = true then
  some (.inr false)
  else
  Kgc (s0,in1,a0,(wr (a1 + 1)))
  else
  some (.inl ())
 partial_fixpoint
def Kgd (p : K00 × (List Bool) × Int × Int) (fl : (Unit) ⊕ (Bool)) : Prop :=
 match p with
 | (s0,in1,a0,a1) => ∀ c : Ctx,c.nt = 85 → WpL Tryz.prog c (cl (cl (cr (cl (cl (cr (cl (cl (cr (cl (cr (cr K4x)))))))))))) (Kga c s0 in1 a0 fl) (mkS [(1,sB in1),(2,.ra 1 0),(5,I a0),(6,I a1)] [(1,K19 s0)])
theorem Kge : ∀ p r,Kgc p = some r → Kgd p r := by
 refine Kgc.partial_correctness Kgd ?_
 rintro impl_isView_l0_f impl_isView_l0_ih ⟨s0,in1,a0,a1⟩ r h
 intro c hc
 refine WpL.step ?_
 refine sN ?_
 refine K7e hc 4 [(1,sB in1),(2,.ra 1 0),(5,I a0),(6,I a1),(25,.bool (decide (a1 < s0.fSize)))] ?_
 refine ic h (fun a2 h => ?_) fun a2 h => ?_
 ·refine sk ?_
  refine sN ?_
  refine bk 3 ?_
  refine sN ?_
  obtain ⟨a3,a4,h⟩ := Qds h
  refine Wp.into (x := .normal) (mkS [(1,sB in1),(2,.ra 1 0),(5,I a0),(6,I a1),(84,.bool a3)] [(1,K19 s0)]) ?_ ?_
  ·replace h := a4
   obtain ⟨a5,a6,a7,a8,a9,b1,h⟩ := bq3 h
   rcases is h with ⟨b2,h⟩ | ⟨b2,h⟩
   ·rcases is h with ⟨b3,h⟩ | ⟨b3,h⟩
    ·obtain ⟨b4,b5,b6,b7,b8,b9,h⟩ := bq3 h
     rcases is h with ⟨c0,h⟩ | ⟨c0,h⟩
     ·obtain ⟨c1,c2,h⟩ := Qds h
      rcases is h with ⟨c3,h⟩ | ⟨c3,h⟩
      ·obtain ⟨c4,c5,h⟩ := Qds h
       rcases is h with ⟨c6,h⟩ | ⟨c6,h⟩
       ·obtain ⟨c7,c8,h⟩ := Qds h
        rcases is h with ⟨c9,h⟩ | ⟨c9,h⟩
        ·obtain ⟨d0,d1,h⟩ := Qds h
         refine rgs hc Kgb [oN,oN,oN,oN,oc (I a5),some (.el (.bool a7)),oN,oN,oN,some (.el (.bool a9)),oN,oN,o_,o_,o_,o_,oT,oN,oN,oN,oN,oN,oN,oc (I b4),some (.el (.bool b6)),oN,oN,oN,some (.el (.bool b8)),oN,oN,oN,oN,some (.el (.bool c1)),oN,oT,oN,oF,oN,oN,oN,some (.el (.bool c4)),oN,oN,oN,oN,oN,oc (.bool c7),oT,oN,oN,oN,some (.el (.bool d0)),oN,oN,oT,oF] [(1,sB in1),(2,.ra 1 0),(5,I a0),(6,I a1),(84,.bool (!d0))] (cq (Kf0 _ _ a6) K4o (ab (Qdw (enc := AV.bool) (x := .bool a7) a8 (Qe9 a7)) (Qdw (enc := AV.bool) (x := .bool a9) b1 (Qe9 a9)) (ar 4 (neF b2) (ai b2 (ar 5 (nF b3) (cq (Kf3 _ _ b5) K4q (ab (nF b3) (Qdw (enc := AV.bool) (x := .bool b6) b7 (Qe9 b6)) (ar 4 (nF b3) (ai (Qdw (enc := AV.bool) (x := .bool b8) b9 (Qe9 b8)) (ar 2 (nF b3) (ar 3 c0 (ad (Qdw (enc := AV.bool) (x := .bool c1) c2 (Qe9 c1)) c0 (nF b3) c0 (ar 2 (nF b3) (ar 3 (nF c3) (ai (Qdw (enc := AV.bool) (x := .bool c4) c5 (Qe9 c4)) (ar 2 (nF c3) (ar 4 c6 (cq (Kf6 _ _ c8) K4r (ac (nF c3) c6 (nF c3) (ar 3 c9 (ai (Qdw (enc := AV.bool) (x := .bool d0) d1 (Qe9 d0)) (ar 2 c9 (ac (nF c3) c9 (nF c3) tv))))))))))))))))))))))) ?_
         obtain rfl := os h
         exact Qde.mk
        refine rgs hc Kgb [oN,oN,oN,oN,oc (I a5),some (.el (.bool a7)),oN,oN,oN,some (.el (.bool a9)),oN,oN,o_,o_,o_,o_,oT,oN,oN,oN,oN,oN,oN,oc (I b4),some (.el (.bool b6)),oN,oN,oN,some (.el (.bool b8)),oN,oN,oN,oN,some (.el (.bool c1)),oN,oT,oN,oF,oN,oN,oN,some (.el (.bool c4)),oN,oN,oN,oN,oN,oc (.bool c7),oT,oN,o_,o_,o_,o_,o_,oF,oF] [(1,sB in1),(2,.ra 1 0),(5,I a0),(6,I a1),(84,.bool false)] (cq (Kf0 _ _ a6) K4o (ab (Qdw (enc := AV.bool) (x := .bool a7) a8 (Qe9 a7)) (Qdw (enc := AV.bool) (x := .bool a9) b1 (Qe9 a9)) (ar 4 (neF b2) (ai b2 (ar 5 (nF b3) (cq (Kf3 _ _ b5) K4q (ab (nF b3) (Qdw (enc := AV.bool) (x := .bool b6) b7 (Qe9 b6)) (ar 4 (nF b3) (ai (Qdw (enc := AV.bool) (x := .bool b8) b9 (Qe9 b8)) (ar 2 (nF b3) (ar 3 c0 (ad (Qdw (enc := AV.bool) (x := .bool c1) c2 (Qe9 c1)) c0 (nF b3) c0 (ar 2 (nF b3) (ar 3 (nF c3) (ai (Qdw (enc := AV.bool) (x := .bool c4) c5 (Qe9 c4)) (ar 2 (nF c3) (ar 4 c6 (cq (Kf6 _ _ c8) K4r (ac (nF c3) c6 (nF c3) (ar 5 (neT c9) (ac (nF c3) c9 (nF c3) tv))))))))))))))))))))) ?_
        obtain rfl := os h
        exact Qde.mk
       refine rgs hc Kgb [oN,oN,oN,oN,oc (I a5),some (.el (.bool a7)),oN,oN,oN,some (.el (.bool a9)),oN,oN,o_,o_,o_,o_,oT,oN,oN,oN,oN,oN,oN,oc (I b4),some (.el (.bool b6)),oN,oN,oN,some (.el (.bool b8)),oN,oN,oN,oN,some (.el (.bool c1)),oN,oT,oN,oF,oN,oN,oN,some (.el (.bool c4)),oN,oN,o_,o_,o_,o_,oF,oN,o_,o_,o_,o_,o_,oF,oF] [(1,sB in1),(2,.ra 1 0),(5,I a0),(6,I a1),(84,.bool false)] (cq (Kf0 _ _ a6) K4o (ab (Qdw (enc := AV.bool) (x := .bool a7) a8 (Qe9 a7)) (Qdw (enc := AV.bool) (x := .bool a9) b1 (Qe9 a9)) (ar 4 (neF b2) (ai b2 (ar 5 (nF b3) (cq (Kf3 _ _ b5) K4q (ab (nF b3) (Qdw (enc := AV.bool) (x := .bool b6) b7 (Qe9 b6)) (ar 4 (nF b3) (ai (Qdw (enc := AV.bool) (x := .bool b8) b9 (Qe9 b8)) (ar 2 (nF b3) (ar 3 c0 (ad (Qdw (enc := AV.bool) (x := .bool c1) c2 (Qe9 c1)) c0 (nF b3) c0 (ar 2 (nF b3) (ar 3 (nF c3) (ai (Qdw (enc := AV.bool) (x := .bool c4) c5 (Qe9 c4)) (ar 2 (nF c3) (ar 4 (neT c6) (ac (nF c3) c6 (nF c3) (ar 5 (neT (rfl : false = false)) (ac (nF c3) (rfl : false = false) (nF c3) tv)))))))))))))))))))) ?_
       obtain rfl := os h
       exact Qde.mk
      refine rgs hc Kgb [oN,oN,oN,oN,oc (I a5),some (.el (.bool a7)),oN,oN,oN,some (.el (.bool a9)),oN,oN,o_,o_,o_,o_,oT,oN,oN,oN,oN,oN,oN,oc (I b4),some (.el (.bool b6)),oN,oN,oN,some (.el (.bool b8)),oN,oN,oN,oN,some (.el (.bool c1)),oN,oT,oN,oF,oN,o_,o_,o_,o_,o_,o_,o_,o_,o_,o_,o_,o_,o_,o_,o_,o_,o_,oT] [(1,sB in1),(2,.ra 1 0),(5,I a0),(6,I a1),(84,.bool true)] (cq (Kf0 _ _ a6) K4o (ab (Qdw (enc := AV.bool) (x := .bool a7) a8 (Qe9 a7)) (Qdw (enc := AV.bool) (x := .bool a9) b1 (Qe9 a9)) (ar 4 (neF b2) (ai b2 (ar 5 (nF b3) (cq (Kf3 _ _ b5) K4q (ab (nF b3) (Qdw (enc := AV.bool) (x := .bool b6) b7 (Qe9 b6)) (ar 4 (nF b3) (ai (Qdw (enc := AV.bool) (x := .bool b8) b9 (Qe9 b8)) (ar 2 (nF b3) (ar 3 c0 (ad (Qdw (enc := AV.bool) (x := .bool c1) c2 (Qe9 c1)) c0 (nF b3) c0 (ar 2 (nF b3) (ar 8 (neF (nT c3)) (ai (nT c3) tv))))))))))))))) ?_
      obtain rfl := os h
      exact Qde.mk
     rcases is h with ⟨c3,h⟩ | ⟨c3,h⟩
     ·obtain ⟨c4,c5,h⟩ := Qds h
      rcases is h with ⟨c6,h⟩ | ⟨c6,h⟩
      ·obtain ⟨c7,c8,h⟩ := Qds h
       rcases is h with ⟨c9,h⟩ | ⟨c9,h⟩
       ·obtain ⟨d0,d1,h⟩ := Qds h
        refine rgs hc Kgb [oN,oN,oN,oN,oc (I a5),some (.el (.bool a7)),oN,oN,oN,some (.el (.bool a9)),oN,oN,o_,o_,o_,o_,oT,oN,oN,oN,oN,oN,oN,oc (I b4),some (.el (.bool b6)),oN,oN,oN,some (.el (.bool b8)),oN,oN,o_,o_,o_,o_,oF,oN,oF,oN,oN,oN,some (.el (.bool c4)),oN,oN,oN,oN,oN,oc (.bool c7),oT,oN,oN,oN,some (.el (.bool d0)),oN,oN,oT,oF] [(1,sB in1),(2,.ra 1 0),(5,I a0),(6,I a1),(84,.bool (!d0))] (cq (Kf0 _ _ a6) K4o (ab (Qdw (enc := AV.bool) (x := .bool a7) a8 (Qe9 a7)) (Qdw (enc := AV.bool) (x := .bool a9) b1 (Qe9 a9)) (ar 4 (neF b2) (ai b2 (ar 5 (nF b3) (cq (Kf3 _ _ b5) K4q (ab (nF b3) (Qdw (enc := AV.bool) (x := .bool b6) b7 (Qe9 b6)) (ar 4 (nF b3) (ai (Qdw (enc := AV.bool) (x := .bool b8) b9 (Qe9 b8)) (ar 2 (nF b3) (ar 4 (neT c0) (ab (nF b3) c0 (ar 2 (nF b3) (ar 3 (nF c3) (ai (Qdw (enc := AV.bool) (x := .bool c4) c5 (Qe9 c4)) (ar 2 (nF c3) (ar 4 c6 (cq (Kf6 _ _ c8) K4r (ac (nF c3) c6 (nF c3) (ar 3 c9 (ai (Qdw (enc := AV.bool) (x := .bool d0) d1 (Qe9 d0)) (ar 2 c9 (ac (nF c3) c9 (nF c3) tv))))))))))))))))))))))) ?_
        obtain rfl := os h
        exact Qde.mk
       refine rgs hc Kgb [oN,oN,oN,oN,oc (I a5),some (.el (.bool a7)),oN,oN,oN,some (.el (.bool a9)),oN,oN,o_,o_,o_,o_,oT,oN,oN,oN,oN,oN,oN,oc (I b4),some (.el (.bool b6)),oN,oN,oN,some (.el (.bool b8)),oN,oN,o_,o_,o_,o_,oF,oN,oF,oN,oN,oN,some (.el (.bool c4)),oN,oN,oN,oN,oN,oc (.bool c7),oT,oN,o_,o_,o_,o_,o_,oF,oF] [(1,sB in1),(2,.ra 1 0),(5,I a0),(6,I a1),(84,.bool false)] (cq (Kf0 _ _ a6) K4o (ab (Qdw (enc := AV.bool) (x := .bool a7) a8 (Qe9 a7)) (Qdw (enc := AV.bool) (x := .bool a9) b1 (Qe9 a9)) (ar 4 (neF b2) (ai b2 (ar 5 (nF b3) (cq (Kf3 _ _ b5) K4q (ab (nF b3) (Qdw (enc := AV.bool) (x := .bool b6) b7 (Qe9 b6)) (ar 4 (nF b3) (ai (Qdw (enc := AV.bool) (x := .bool b8) b9 (Qe9 b8)) (ar 2 (nF b3) (ar 4 (neT c0) (ab (nF b3) c0 (ar 2 (nF b3) (ar 3 (nF c3) (ai (Qdw (enc := AV.bool) (x := .bool c4) c5 (Qe9 c4)) (ar 2 (nF c3) (ar 4 c6 (cq (Kf6 _ _ c8) K4r (ac (nF c3) c6 (nF c3) (ar 5 (neT c9) (ac (nF c3) c9 (nF c3) tv))))))))))))))))))))) ?_
       obtain rfl := os h
       exact Qde.mk
      refine rgs hc Kgb [oN,oN,oN,oN,oc (I a5),some (.el (.bool a7)),oN,oN,oN,some (.el (.bool a9)),oN,oN,o_,o_,o_,o_,oT,oN,oN,oN,oN,oN,oN,oc (I b4),some (.el (.bool b6)),oN,oN,oN,some (.el (.bool b8)),oN,oN,o_,o_,o_,o_,oF,oN,oF,oN,oN,oN,some (.el (.bool c4)),oN,oN,o_,o_,o_,o_,oF,oN,o_,o_,o_,o_,o_,oF,oF] [(1,sB in1),(2,.ra 1 0),(5,I a0),(6,I a1),(84,.bool false)] (cq (Kf0 _ _ a6) K4o (ab (Qdw (enc := AV.bool) (x := .bool a7) a8 (Qe9 a7)) (Qdw (enc := AV.bool) (x := .bool a9) b1 (Qe9 a9)) (ar 4 (neF b2) (ai b2 (ar 5 (nF b3) (cq (Kf3 _ _ b5) K4q (ab (nF b3) (Qdw (enc := AV.bool) (x := .bool b6) b7 (Qe9 b6)) (ar 4 (nF b3) (ai (Qdw (enc := AV.bool) (x := .bool b8) b9 (Qe9 b8)) (ar 2 (nF b3) (ar 4 (neT c0) (ab (nF b3) c0 (ar 2 (nF b3) (ar 3 (nF c3) (ai (Qdw (enc := AV.bool) (x := .bool c4) c5 (Qe9 c4)) (ar 2 (nF c3) (ar 4 (neT c6) (ac (nF c3) c6 (nF c3) (ar 5 (neT (rfl : false = false)) (ac (nF c3) (rfl : false = false) (nF c3) tv)))))))))))))))))))) ?_
      obtain rfl := os h
      exact Qde.mk
     refine rgs hc Kgb [oN,oN,oN,oN,oc (I a5),some (.el (.bool a7)),oN,oN,oN,some (.el (.bool a9)),oN,oN,o_,o_,o_,o_,oT,oN,oN,oN,oN,oN,oN,oc (I b4),some (.el (.bool b6)),oN,oN,oN,some (.el (.bool b8)),oN,oN,o_,o_,o_,o_,oF,oN,oF,oN,o_,o_,o_,o_,o_,o_,o_,o_,o_,o_,o_,o_,o_,o_,o_,o_,o_,oT] [(1,sB in1),(2,.ra 1 0),(5,I a0),(6,I a1),(84,.bool true)] (cq (Kf0 _ _ a6) K4o (ab (Qdw (enc := AV.bool) (x := .bool a7) a8 (Qe9 a7)) (Qdw (enc := AV.bool) (x := .bool a9) b1 (Qe9 a9)) (ar 4 (neF b2) (ai b2 (ar 5 (nF b3) (cq (Kf3 _ _ b5) K4q (ab (nF b3) (Qdw (enc := AV.bool) (x := .bool b6) b7 (Qe9 b6)) (ar 4 (nF b3) (ai (Qdw (enc := AV.bool) (x := .bool b8) b9 (Qe9 b8)) (ar 2 (nF b3) (ar 4 (neT c0) (ab (nF b3) c0 (ar 2 (nF b3) (ar 8 (neF (nT c3)) (ai (nT c3) tv))))))))))))))) ?_
     obtain rfl := os h
     exact Qde.mk
    refine rgs hc Kgb [oN,oN,oN,oN,oc (I a5),some (.el (.bool a7)),oN,oN,oN,some (.el (.bool a9)),oN,oN,o_,o_,o_,o_,oT,oN,oN,o_,o_,o_,o_,o_,o_,o_,o_,o_,o_,o_,o_,o_,o_,o_,o_,o_,o_,oT,oN,o_,o_,o_,o_,o_,o_,o_,o_,o_,o_,o_,o_,o_,o_,o_,o_,o_,oT] [(1,sB in1),(2,.ra 1 0),(5,I a0),(6,I a1),(84,.bool true)] (cq (Kf0 _ _ a6) K4o (ab (Qdw (enc := AV.bool) (x := .bool a7) a8 (Qe9 a7)) (Qdw (enc := AV.bool) (x := .bool a9) b1 (Qe9 a9)) (ar 4 (neF b2) (ai b2 (ar 14 (neF (nT b3)) (ai (nT b3) (ar 8 nf (ai tt tv)))))))) ?_
    obtain rfl := os h
    exact Qde.mk
   obtain ⟨d2,d3,h⟩ := Qds h
   rcases is h with ⟨b3,h⟩ | ⟨b3,h⟩
   ·obtain ⟨b4,b5,b6,b7,b8,b9,h⟩ := bq3 h
    rcases is h with ⟨c0,h⟩ | ⟨c0,h⟩
    ·obtain ⟨c1,c2,h⟩ := Qds h
     rcases is h with ⟨c3,h⟩ | ⟨c3,h⟩
     ·obtain ⟨c4,c5,h⟩ := Qds h
      rcases is h with ⟨c6,h⟩ | ⟨c6,h⟩
      ·obtain ⟨c7,c8,h⟩ := Qds h
       rcases is h with ⟨c9,h⟩ | ⟨c9,h⟩
       ·obtain ⟨d0,d1,h⟩ := Qds h
        refine rgs hc Kgb [oN,oN,oN,oN,oc (I a5),some (.el (.bool a7)),oN,oN,oN,some (.el (.bool a9)),oN,oN,oN,oN,some (.el (.bool d2)),oN,oF,oN,oN,oN,oN,oN,oN,oc (I b4),some (.el (.bool b6)),oN,oN,oN,some (.el (.bool b8)),oN,oN,oN,oN,some (.el (.bool c1)),oN,oT,oN,oF,oN,oN,oN,some (.el (.bool c4)),oN,oN,oN,oN,oN,oc (.bool c7),oT,oN,oN,oN,some (.el (.bool d0)),oN,oN,oT,oF] [(1,sB in1),(2,.ra 1 0),(5,I a0),(6,I a1),(84,.bool (!d0))] (cq (Kf0 _ _ a6) K4o (ab (Qdw (enc := AV.bool) (x := .bool a7) a8 (Qe9 a7)) (Qdw (enc := AV.bool) (x := .bool a9) b1 (Qe9 a9)) (ar 3 b2 (ai (Qdw (enc := AV.bool) (x := .bool d2) d3 (Qe9 d2)) (ar 2 b2 (ar 5 (nF b3) (cq (Kf3 _ _ b5) K4q (ab (nF b3) (Qdw (enc := AV.bool) (x := .bool b6) b7 (Qe9 b6)) (ar 4 (nF b3) (ai (Qdw (enc := AV.bool) (x := .bool b8) b9 (Qe9 b8)) (ar 2 (nF b3) (ar 3 c0 (ad (Qdw (enc := AV.bool) (x := .bool c1) c2 (Qe9 c1)) c0 (nF b3) c0 (ar 2 (nF b3) (ar 3 (nF c3) (ai (Qdw (enc := AV.bool) (x := .bool c4) c5 (Qe9 c4)) (ar 2 (nF c3) (ar 4 c6 (cq (Kf6 _ _ c8) K4r (ac (nF c3) c6 (nF c3) (ar 3 c9 (ai (Qdw (enc := AV.bool) (x := .bool d0) d1 (Qe9 d0)) (ar 2 c9 (ac (nF c3) c9 (nF c3) tv)))))))))))))))))))))))) ?_
        obtain rfl := os h
        exact Qde.mk
       refine rgs hc Kgb [oN,oN,oN,oN,oc (I a5),some (.el (.bool a7)),oN,oN,oN,some (.el (.bool a9)),oN,oN,oN,oN,some (.el (.bool d2)),oN,oF,oN,oN,oN,oN,oN,oN,oc (I b4),some (.el (.bool b6)),oN,oN,oN,some (.el (.bool b8)),oN,oN,oN,oN,some (.el (.bool c1)),oN,oT,oN,oF,oN,oN,oN,some (.el (.bool c4)),oN,oN,oN,oN,oN,oc (.bool c7),oT,oN,o_,o_,o_,o_,o_,oF,oF] [(1,sB in1),(2,.ra 1 0),(5,I a0),(6,I a1),(84,.bool false)] (cq (Kf0 _ _ a6) K4o (ab (Qdw (enc := AV.bool) (x := .bool a7) a8 (Qe9 a7)) (Qdw (enc := AV.bool) (x := .bool a9) b1 (Qe9 a9)) (ar 3 b2 (ai (Qdw (enc := AV.bool) (x := .bool d2) d3 (Qe9 d2)) (ar 2 b2 (ar 5 (nF b3) (cq (Kf3 _ _ b5) K4q (ab (nF b3) (Qdw (enc := AV.bool) (x := .bool b6) b7 (Qe9 b6)) (ar 4 (nF b3) (ai (Qdw (enc := AV.bool) (x := .bool b8) b9 (Qe9 b8)) (ar 2 (nF b3) (ar 3 c0 (ad (Qdw (enc := AV.bool) (x := .bool c1) c2 (Qe9 c1)) c0 (nF b3) c0 (ar 2 (nF b3) (ar 3 (nF c3) (ai (Qdw (enc := AV.bool) (x := .bool c4) c5 (Qe9 c4)) (ar 2 (nF c3) (ar 4 c6 (cq (Kf6 _ _ c8) K4r (ac (nF c3) c6 (nF c3) (ar 5 (neT c9) (ac (nF c3) c9 (nF c3) tv)))))))))))))))))))))) ?_
       obtain rfl := os h
       exact Qde.mk
      refine rgs hc Kgb [oN,oN,oN,oN,oc (I a5),some (.el (.bool a7)),oN,oN,oN,some (.el (.bool a9)),oN,oN,oN,oN,some (.el (.bool d2)),oN,oF,oN,oN,oN,oN,oN,oN,oc (I b4),some (.el (.bool b6)),oN,oN,oN,some (.el (.bool b8)),oN,oN,oN,oN,some (.el (.bool c1)),oN,oT,oN,oF,oN,oN,oN,some (.el (.bool c4)),oN,oN,o_,o_,o_,o_,oF,oN,o_,o_,o_,o_,o_,oF,oF] [(1,sB in1),(2,.ra 1 0),(5,I a0),(6,I a1),(84,.bool false)] (cq (Kf0 _ _ a6) K4o (ab (Qdw (enc := AV.bool) (x := .bool a7) a8 (Qe9 a7)) (Qdw (enc := AV.bool) (x := .bool a9) b1 (Qe9 a9)) (ar 3 b2 (ai (Qdw (enc := AV.bool) (x := .bool d2) d3 (Qe9 d2)) (ar 2 b2 (ar 5 (nF b3) (cq (Kf3 _ _ b5) K4q (ab (nF b3) (Qdw (enc := AV.bool) (x := .bool b6) b7 (Qe9 b6)) (ar 4 (nF b3) (ai (Qdw (enc := AV.bool) (x := .bool b8) b9 (Qe9 b8)) (ar 2 (nF b3) (ar 3 c0 (ad (Qdw (enc := AV.bool) (x := .bool c1) c2 (Qe9 c1)) c0 (nF b3) c0 (ar 2 (nF b3) (ar 3 (nF c3) (ai (Qdw (enc := AV.bool) (x := .bool c4) c5 (Qe9 c4)) (ar 2 (nF c3) (ar 4 (neT c6) (ac (nF c3) c6 (nF c3) (ar 5 (neT (rfl : false = false)) (ac (nF c3) (rfl : false = false) (nF c3) tv))))))))))))))))))))) ?_
      obtain rfl := os h
      exact Qde.mk
     refine rgs hc Kgb [oN,oN,oN,oN,oc (I a5),some (.el (.bool a7)),oN,oN,oN,some (.el (.bool a9)),oN,oN,oN,oN,some (.el (.bool d2)),oN,oF,oN,oN,oN,oN,oN,oN,oc (I b4),some (.el (.bool b6)),oN,oN,oN,some (.el (.bool b8)),oN,oN,oN,oN,some (.el (.bool c1)),oN,oT,oN,oF,oN,o_,o_,o_,o_,o_,o_,o_,o_,o_,o_,o_,o_,o_,o_,o_,o_,o_,oT] [(1,sB in1),(2,.ra 1 0),(5,I a0),(6,I a1),(84,.bool true)] (cq (Kf0 _ _ a6) K4o (ab (Qdw (enc := AV.bool) (x := .bool a7) a8 (Qe9 a7)) (Qdw (enc := AV.bool) (x := .bool a9) b1 (Qe9 a9)) (ar 3 b2 (ai (Qdw (enc := AV.bool) (x := .bool d2) d3 (Qe9 d2)) (ar 2 b2 (ar 5 (nF b3) (cq (Kf3 _ _ b5) K4q (ab (nF b3) (Qdw (enc := AV.bool) (x := .bool b6) b7 (Qe9 b6)) (ar 4 (nF b3) (ai (Qdw (enc := AV.bool) (x := .bool b8) b9 (Qe9 b8)) (ar 2 (nF b3) (ar 3 c0 (ad (Qdw (enc := AV.bool) (x := .bool c1) c2 (Qe9 c1)) c0 (nF b3) c0 (ar 2 (nF b3) (ar 8 (neF (nT c3)) (ai (nT c3) tv)))))))))))))))) ?_
     obtain rfl := os h
     exact Qde.mk
    rcases is h with ⟨c3,h⟩ | ⟨c3,h⟩
    ·obtain ⟨c4,c5,h⟩ := Qds h
     rcases is h with ⟨c6,h⟩ | ⟨c6,h⟩
     ·obtain ⟨c7,c8,h⟩ := Qds h
      rcases is h with ⟨c9,h⟩ | ⟨c9,h⟩
      ·obtain ⟨d0,d1,h⟩ := Qds h
       refine rgs hc Kgb [oN,oN,oN,oN,oc (I a5),some (.el (.bool a7)),oN,oN,oN,some (.el (.bool a9)),oN,oN,oN,oN,some (.el (.bool d2)),oN,oF,oN,oN,oN,oN,oN,oN,oc (I b4),some (.el (.bool b6)),oN,oN,oN,some (.el (.bool b8)),oN,oN,o_,o_,o_,o_,oF,oN,oF,oN,oN,oN,some (.el (.bool c4)),oN,oN,oN,oN,oN,oc (.bool c7),oT,oN,oN,oN,some (.el (.bool d0)),oN,oN,oT,oF] [(1,sB in1),(2,.ra 1 0),(5,I a0),(6,I a1),(84,.bool (!d0))] (cq (Kf0 _ _ a6) K4o (ab (Qdw (enc := AV.bool) (x := .bool a7) a8 (Qe9 a7)) (Qdw (enc := AV.bool) (x := .bool a9) b1 (Qe9 a9)) (ar 3 b2 (ai (Qdw (enc := AV.bool) (x := .bool d2) d3 (Qe9 d2)) (ar 2 b2 (ar 5 (nF b3) (cq (Kf3 _ _ b5) K4q (ab (nF b3) (Qdw (enc := AV.bool) (x := .bool b6) b7 (Qe9 b6)) (ar 4 (nF b3) (ai (Qdw (enc := AV.bool) (x := .bool b8) b9 (Qe9 b8)) (ar 2 (nF b3) (ar 4 (neT c0) (ab (nF b3) c0 (ar 2 (nF b3) (ar 3 (nF c3) (ai (Qdw (enc := AV.bool) (x := .bool c4) c5 (Qe9 c4)) (ar 2 (nF c3) (ar 4 c6 (cq (Kf6 _ _ c8) K4r (ac (nF c3) c6 (nF c3) (ar 3 c9 (ai (Qdw (enc := AV.bool) (x := .bool d0) d1 (Qe9 d0)) (ar 2 c9 (ac (nF c3) c9 (nF c3) tv)))))))))))))))))))))))) ?_
       obtain rfl := os h
       exact Qde.mk
      refine rgs hc Kgb [oN,oN,oN,oN,oc (I a5),some (.el (.bool a7)),oN,oN,oN,some (.el (.bool a9)),oN,oN,oN,oN,some (.el (.bool d2)),oN,oF,oN,oN,oN,oN,oN,oN,oc (I b4),some (.el (.bool b6)),oN,oN,oN,some (.el (.bool b8)),oN,oN,o_,o_,o_,o_,oF,oN,oF,oN,oN,oN,some (.el (.bool c4)),oN,oN,oN,oN,oN,oc (.bool c7),oT,oN,o_,o_,o_,o_,o_,oF,oF] [(1,sB in1),(2,.ra 1 0),(5,I a0),(6,I a1),(84,.bool false)] (cq (Kf0 _ _ a6) K4o (ab (Qdw (enc := AV.bool) (x := .bool a7) a8 (Qe9 a7)) (Qdw (enc := AV.bool) (x := .bool a9) b1 (Qe9 a9)) (ar 3 b2 (ai (Qdw (enc := AV.bool) (x := .bool d2) d3 (Qe9 d2)) (ar 2 b2 (ar 5 (nF b3) (cq (Kf3 _ _ b5) K4q (ab (nF b3) (Qdw (enc := AV.bool) (x := .bool b6) b7 (Qe9 b6)) (ar 4 (nF b3) (ai (Qdw (enc := AV.bool) (x := .bool b8) b9 (Qe9 b8)) (ar 2 (nF b3) (ar 4 (neT c0) (ab (nF b3) c0 (ar 2 (nF b3) (ar 3 (nF c3) (ai (Qdw (enc := AV.bool) (x := .bool c4) c5 (Qe9 c4)) (ar 2 (nF c3) (ar 4 c6 (cq (Kf6 _ _ c8) K4r (ac (nF c3) c6 (nF c3) (ar 5 (neT c9) (ac (nF c3) c9 (nF c3) tv)))))))))))))))))))))) ?_
      obtain rfl := os h
      exact Qde.mk
     refine rgs hc Kgb [oN,oN,oN,oN,oc (I a5),some (.el (.bool a7)),oN,oN,oN,some (.el (.bool a9)),oN,oN,oN,oN,some (.el (.bool d2)),oN,oF,oN,oN,oN,oN,oN,oN,oc (I b4),some (.el (.bool b6)),oN,oN,oN,some (.el (.bool b8)),oN,oN,o_,o_,o_,o_,oF,oN,oF,oN,oN,oN,some (.el (.bool c4)),oN,oN,o_,o_,o_,o_,oF,oN,o_,o_,o_,o_,o_,oF,oF] [(1,sB in1),(2,.ra 1 0),(5,I a0),(6,I a1),(84,.bool false)] (cq (Kf0 _ _ a6) K4o (ab (Qdw (enc := AV.bool) (x := .bool a7) a8 (Qe9 a7)) (Qdw (enc := AV.bool) (x := .bool a9) b1 (Qe9 a9)) (ar 3 b2 (ai (Qdw (enc := AV.bool) (x := .bool d2) d3 (Qe9 d2)) (ar 2 b2 (ar 5 (nF b3) (cq (Kf3 _ _ b5) K4q (ab (nF b3) (Qdw (enc := AV.bool) (x := .bool b6) b7 (Qe9 b6)) (ar 4 (nF b3) (ai (Qdw (enc := AV.bool) (x := .bool b8) b9 (Qe9 b8)) (ar 2 (nF b3) (ar 4 (neT c0) (ab (nF b3) c0 (ar 2 (nF b3) (ar 3 (nF c3) (ai (Qdw (enc := AV.bool) (x := .bool c4) c5 (Qe9 c4)) (ar 2 (nF c3) (ar 4 (neT c6) (ac (nF c3) c6 (nF c3) (ar 5 (neT (rfl : false = false)) (ac (nF c3) (rfl : false = false) (nF c3) tv))))))))))))))))))))) ?_
     obtain rfl := os h
     exact Qde.mk
    refine rgs hc Kgb [oN,oN,oN,oN,oc (I a5),some (.el (.bool a7)),oN,oN,oN,some (.el (.bool a9)),oN,oN,oN,oN,some (.el (.bool d2)),oN,oF,oN,oN,oN,oN,oN,oN,oc (I b4),some (.el (.bool b6)),oN,oN,oN,some (.el (.bool b8)),oN,oN,o_,o_,o_,o_,oF,oN,oF,oN,o_,o_,o_,o_,o_,o_,o_,o_,o_,o_,o_,o_,o_,o_,o_,o_,o_,oT] [(1,sB in1),(2,.ra 1 0),(5,I a0),(6,I a1),(84,.bool true)] (cq (Kf0 _ _ a6) K4o (ab (Qdw (enc := AV.bool) (x := .bool a7) a8 (Qe9 a7)) (Qdw (enc := AV.bool) (x := .bool a9) b1 (Qe9 a9)) (ar 3 b2 (ai (Qdw (enc := AV.bool) (x := .bool d2) d3 (Qe9 d2)) (ar 2 b2 (ar 5 (nF b3) (cq (Kf3 _ _ b5) K4q (ab (nF b3) (Qdw (enc := AV.bool) (x := .bool b6) b7 (Qe9 b6)) (ar 4 (nF b3) (ai (Qdw (enc := AV.bool) (x := .bool b8) b9 (Qe9 b8)) (ar 2 (nF b3) (ar 4 (neT c0) (ab (nF b3) c0 (ar 2 (nF b3) (ar 8 (neF (nT c3)) (ai (nT c3) tv)))))))))))))))) ?_
    obtain rfl := os h
    exact Qde.mk
   refine rgs hc Kgb [oN,oN,oN,oN,oc (I a5),some (.el (.bool a7)),oN,oN,oN,some (.el (.bool a9)),oN,oN,oN,oN,some (.el (.bool d2)),oN,oF,oN,oN,o_,o_,o_,o_,o_,o_,o_,o_,o_,o_,o_,o_,o_,o_,o_,o_,o_,o_,oT,oN,o_,o_,o_,o_,o_,o_,o_,o_,o_,o_,o_,o_,o_,o_,o_,o_,o_,oT] [(1,sB in1),(2,.ra 1 0),(5,I a0),(6,I a1),(84,.bool true)] (cq (Kf0 _ _ a6) K4o (ab (Qdw (enc := AV.bool) (x := .bool a7) a8 (Qe9 a7)) (Qdw (enc := AV.bool) (x := .bool a9) b1 (Qe9 a9)) (ar 3 b2 (ai (Qdw (enc := AV.bool) (x := .bool d2) d3 (Qe9 d2)) (ar 2 b2 (ar 14 (neF (nT b3)) (ai (nT b3) (ar 8 nf (ai tt tv))))))))) ?_
   obtain rfl := os h
   exact Qde.mk
  clear a4
  refine ic h (fun d4 h => ?_) fun d4 h => ?_
  ·refine rs0 hc 1 [(4,.bool false)] [] ?_
   refine rt ?_
   obtain rfl := os h
   exact re [true]
  refine sk ?_
  refine K7d hc 3 [(1,sB in1),(2,.ra 1 0),(5,I a0),(6,I (wr (a1 + 1)))] ?_
  refine Qda ?_
  exact (impl_isView_l0_ih _ _ h c hc)
 refine xt 2 ?_
 refine Qd4 ?_
 refine Qdb ?_
 obtain rfl := os h
 exact iv []
def Kgf (c : Ctx) : (Unit) ⊕ (Bool) → Exit → Q0a → Prop
 | .inl _ => Qde c (.exit 0) (mkS [] [])
 | .inr r => Qdn TIx Tryz.f151 [] (.bool r)
def Kgg (p : K00 × (List Bool) × Int) : Option ((Unit) ⊕ (Bool)) :=
 match p with
 | (s0,in1,a0) =>
  if (decide (a0 < s0.fSize)) = true then
  (Kgc (s0,in1,a0,0)) >>= fun fl => match fl with
  | .inl () =>
   Kgg (s0,in1,(wr (a0 + 1)))
  | .inr r =>
   some (.inr r)
  else
  some (.inl ())
 partial_fixpoint
def Kgh (p : K00 × (List Bool) × Int) (fl : (Unit) ⊕ (Bool)) : Prop :=
 match p with
 | (s0,in1,a0) => ∀ c : Ctx,c.nt = 85 → WpL Tryz.prog c (cl (cl (cr (cl (cr (cr K4x)))))) (Kgf c fl) (mkS [(1,sB in1),(2,.ra 1 0),(5,I a0)] [(1,K19 s0)])
theorem Kgi : ∀ p r,Kgg p = some r → Kgh p r := by
 refine Kgg.partial_correctness Kgh ?_
 rintro impl_isView_l1_f impl_isView_l1_ih ⟨s0,in1,a0⟩ r h
 intro c hc
 refine WpL.step ?_
 refine sN ?_
 refine K7e hc 4 [(1,sB in1),(2,.ra 1 0),(5,I a0),(19,.bool (decide (a0 < s0.fSize)))] ?_
 refine ic h (fun a1 h => ?_) fun a1 h => ?_
 ·refine sk ?_
  refine sN ?_
  refine bk 1 ?_
  refine K7e hc 1 [(1,sB in1),(2,.ra 1 0),(5,I a0),(6,I 0)] ?_
  refine bk 2 ?_
  obtain ⟨fl,a2,h⟩ := Qds h
  have hL := Kge _ _ a2 c hc
  refine lp ?_
  rcases fl with ⟨⟩ | r
  ·refine WpL.into (e := (.exit 2)) (mkS [(1,sB in1),(2,.ra 1 0),(5,I a0)] [(1,K19 s0)]) hL ?_
   refine Qd6 ?_
   refine K7d hc 3 [(1,sB in1),(2,.ra 1 0),(5,I (wr (a0 + 1)))] ?_
   refine Qda ?_
   exact (impl_isView_l1_ih _ _ h c hc)
  refine WpL.mono hL ?_
  rintro _ _ ⟨rfl,hfin⟩
  obtain rfl := os h
  exact ⟨rfl,hfin⟩
 refine xt 0 ?_
 refine Qd4 ?_
 refine Qdb ?_
 obtain rfl := os h
 exact iv []
def Kgj (p : K00 × (List Bool)) : Option (Bool) :=
 match p with
 | (s0,in1) =>
  ((
  (idx in1 1) >>= fun a0 =>
  if a0 = true then
   (idx in1 0) >>= fun a1 =>
   some (a1)
  else
   some (true)
  ) : Option (Bool)) >>= fun a2 =>
  if a2 = true then
  some false
  else
  (Kgg (s0,in1,0)) >>= fun fl => match fl with
  | .inl () =>
   some true
  | .inr r =>
   some r
def Kgk (p : K00 × (List Bool)) (r : Bool) : Prop :=
 match p with
 | (s0,in1) => Q75 Tryz.prog 151 [K1a s0,sB in1] (.bool r) []
theorem Kgl : ∀ p r,Kgj p = some r → Kgk p r := by
 rintro ⟨s0,in1⟩ r h
 unfold Kgj at h
 refine b0 Tryz.f151 K4x 85 [(0,K1a s0),(1,sB in1)] fun c hc => ?_
 refine rs hc none [some (.new 1),oN] [(1,sB in1),(2,.ra 1 0)] [(1,K19 s0)] tv ?_
 refine sN ?_
 refine sN ?_
 obtain ⟨a0,a1,h⟩ := Qds h
 refine Wp.into (x := .normal) (mkS [(1,sB in1),(2,.ra 1 0),(15,.bool a0)] [(1,K19 s0)]) ?_ ?_
 ·replace h := a1
  obtain ⟨a2,a3,h⟩ := Qds h
  rcases is h with ⟨a4,h⟩ | ⟨a4,h⟩
  ·obtain ⟨a5,a6,h⟩ := Qds h
   refine rgs hc none [oN,some (.el (.bool a2)),oN,oN,oN,oN,some (.el (.bool a5)),oN,oF] [(1,sB in1),(2,.ra 1 0),(15,.bool a5)] (ai (Qdw (enc := AV.bool) (x := .bool a2) a3 (Qe9 a2)) (ar 2 (nF a4) (ai (Qdw (enc := AV.bool) (x := .bool a5) a6 (Qe9 a5)) (ar 2 (nF a4) tv)))) ?_
   obtain rfl := os h
   exact Qde.mk
  refine rgs hc none [oN,some (.el (.bool a2)),oN,oN,oN,o_,o_,o_,oT] [(1,sB in1),(2,.ra 1 0),(15,.bool true)] (ai (Qdw (enc := AV.bool) (x := .bool a2) a3 (Qe9 a2)) (ar 3 (neF (nT a4)) (ai (nT a4) tv))) ?_
  obtain rfl := os h
  exact Qde.mk
 clear a1
 refine ic h (fun a7 h => ?_) fun a7 h => ?_
 ·refine rs0 hc 1 [(4,.bool false)] [] ?_
  refine rt ?_
  obtain rfl := os h
  exact rq [true]
 refine sk ?_
 refine sN ?_
 refine K7e hc 1 [(1,sB in1),(2,.ra 1 0),(5,I 0)] ?_
 refine bk 0 ?_
 obtain ⟨fl,a8,h⟩ := Qds h
 have hL := Kgi _ _ a8 c hc
 refine lp ?_
 rcases fl with ⟨⟩ | r
 ·refine WpL.into (e := (.exit 0)) (mkS [] []) hL ?_
  refine Qd6 ?_
  refine rs0 hc 1 [(4,.bool true)] [] ?_
  refine rt ?_
  obtain rfl := os h
  exact rq [true]
 refine WpL.mono hL ?_
 rintro _ _ ⟨rfl,hfin⟩
 obtain rfl := os h
 exact ⟨.inl rfl,hfin⟩
def Kgm (c : Ctx) (s0 : K00) : ((List Bool)) ⊕ (Bool) → Exit → Q0a → Prop
 | .inl a0 => Qde c (.exit 0) (mkS [(2,.ra 1 0),(5,.rs 2)] [(1,K19 s0),(2,.arr (List.map AV.bool a0))])
 | .inr r => Qdn TIx Tryz.f69 [] (.bool r)
def Kgn (p : K00 × (List Int) × (List Bool) × Int) : Option (((List Bool)) ⊕ (Bool)) :=
 match p with
 | (s0,v1,a0,a1) =>
  if (decide (a1 < (v1.length : Int))) = true then
  (idx v1 a1) >>= fun a2 =>
  ((
  (Kev (s0,a2)) >>= fun a3 =>
  if a3 = true then
  if (decide (a1 > 0)) = true then
  (idx v1 (wr (a1 - 1))) >>= fun a4 =>
  some ((decide (a2 ≤ a4)))
  else
  some (false)
  else
  some (true)
  ) : Option (Bool)) >>= fun a5 =>
  if a5 = true then
  some (.inr false)
  else
  (idx a0 a2) >>= fun a6 =>
  Kgn (s0,v1,(List.set a0 (Int.toNat a2) true),(wr (a1 + 1)))
  else
  some (.inl a0)
 partial_fixpoint
def Kgo (p : K00 × (List Int) × (List Bool) × Int) (fl : ((List Bool)) ⊕ (Bool)) : Prop :=
 match p with
 | (s0,v1,a0,a1) => ∀ c : Ctx,c.nt = 45 → WpL Tryz.prog c (cl (cl (cr (cl (cr (cr (cr B69))))))) (Kgm c s0 fl) (mkS [(1,sI v1),(2,.ra 1 0),(5,.rs 2),(14,sI v1),(15,I (v1.length : Int)),(16,I a1)] [(1,K19 s0),(2,.arr (List.map AV.bool a0))])
theorem Kgp : ∀ p r,Kgn p = some r → Kgo p r := by
 refine Kgn.partial_correctness Kgo ?_
 rintro impl_IsView_l0_f impl_IsView_l0_ih ⟨s0,v1,a0,a1⟩ r h
 intro c hc
 refine WpL.step ?_
 refine K7e hc 1 [(1,sI v1),(2,.ra 1 0),(5,.rs 2),(14,sI v1),(15,I (v1.length : Int)),(16,I a1),(17,.bool (decide (a1 < (v1.length : Int))))] ?_
 refine sN ?_
 refine ic h (fun a2 h => ?_) fun a2 h => ?_
 ·refine sk ?_
  refine sN ?_
  refine bk 1 ?_
  obtain ⟨a3,a4,h⟩ := Qds h
  refine rss hc none [oN,some (.el (I a3)),oN,oN,oN] [(1,sI v1),(2,.ra 1 0),(5,.rs 2),(6,I a1),(7,I a3),(14,sI v1),(15,I (v1.length : Int)),(16,I a1)] (ai (ix a4) tv) ?_
  refine sN ?_
  refine sN ?_
  obtain ⟨a5,a6,h⟩ := Qds h
  refine Wp.into (x := .normal) (mkS [(1,sI v1),(2,.ra 1 0),(5,.rs 2),(7,I a3),(14,sI v1),(15,I (v1.length : Int)),(16,I a1),(37,.bool a5)] [(1,K19 s0),(2,.arr (List.map AV.bool a0))]) ?_ ?_
  ·replace h := a6
   obtain ⟨a7,a8,h⟩ := Qds h
   rcases is h with ⟨a9,h⟩ | ⟨a9,h⟩
   ·rcases is h with ⟨b1,h⟩ | ⟨b1,h⟩
    ·obtain ⟨b2,b3,h⟩ := Qds h
     refine rgs hc none [oN,oN,oc (.bool a7),oN,oN,oN,oN,oN,oN,oN,oN,oN,some (.el (I b2)),oN,oN,oT,oF] [(1,sI v1),(2,.ra 1 0),(5,.rs 2),(7,I a3),(14,sI v1),(15,I (v1.length : Int)),(16,I a1),(37,.bool (decide (a3 ≤ b2)))] (cq (Kex _ _ a8) K4m (ar 3 (nF a9) (ar 5 b1 (ai (ix b3) (ar 2 b1 (ac (nF a9) b1 (nF a9) tv)))))) ?_
     obtain rfl := os h
     exact Qde.mk
    refine rgs hc none [oN,oN,oc (.bool a7),oN,oN,oN,oN,oN,o_,o_,o_,o_,o_,o_,o_,oF,oF] [(1,sI v1),(2,.ra 1 0),(5,.rs 2),(7,I a3),(14,sI v1),(15,I (v1.length : Int)),(16,I a1),(37,.bool false)] (cq (Kex _ _ a8) K4m (ar 3 (nF a9) (ar 7 (neT b1) (ac (nF a9) b1 (nF a9) tv)))) ?_
    obtain rfl := os h
    exact Qde.mk
   refine rgs hc none [oN,oN,oc (.bool a7),oN,oN,o_,o_,o_,o_,o_,o_,o_,o_,o_,o_,o_,oT] [(1,sI v1),(2,.ra 1 0),(5,.rs 2),(7,I a3),(14,sI v1),(15,I (v1.length : Int)),(16,I a1),(37,.bool true)] (cq (Kex _ _ a8) K4m (ar 4 (neF (nT a9)) (ai (nT a9) tv))) ?_
   obtain rfl := os h
   exact Qde.mk
  clear a6
  refine ic h (fun b4 h => ?_) fun b4 h => ?_
  ·refine rs0 hc 1 [(4,.bool false)] [] ?_
   refine rt ?_
   obtain rfl := os h
   exact re [true]
  refine sk ?_
  obtain ⟨b5,b6,h⟩ := Qds h
  refine rg hc none [oN,oN,oN,some (.eqv (.mk 0 true) ⟨[],[(2,some (.arr (List.map AV.bool (List.set a0 (Int.toNat a3) true))))],[]⟩)] [(1,sI v1),(2,.ra 1 0),(5,.rs 2),(14,sI v1),(15,I (v1.length : Int)),(16,I a1)] [(1,K19 s0),(2,.arr (List.map AV.bool (List.set a0 (Int.toNat a3) true)))] (ac (Qdx (enc := AV.bool) b6) (congrArg (fun z => (⟨[],[(2,some (.arr z))],[]⟩ : Wr)) (Qev (enc := AV.bool) (i := Int.toNat a3) (l := a0) (v := true) (x := AV.bool true) (Qe9 true))) (Qew (enc := AV.bool) (sz := 1) Qed b6) tv) ?_
  refine K7d hc 2 [(1,sI v1),(2,.ra 1 0),(5,.rs 2),(14,sI v1),(15,I (v1.length : Int)),(16,I (wr (a1 + 1)))] ?_
  refine Qda ?_
  exact (impl_IsView_l0_ih _ _ h c hc)
 refine xt 0 ?_
 refine Qd4 ?_
 refine Qdb ?_
 obtain rfl := os h
 exact iv []
def Kgq (p : K00 × (List Int)) : Option (Bool) :=
 match p with
 | (s0,v1) =>
  (Kg7 s0) >>= fun a0 =>
  if a0 = true then
  (chk (0 ≤ s0.fSize ∧ (Int.toNat s0.fSize) * 1 ≤ 140737488355328)) >>= fun _ =>
  (Kgn (s0,v1,(List.replicate (Int.toNat s0.fSize) false),0)) >>= fun fl => match fl with
  | .inl a1 =>
   (Kgj (s0,a1)) >>= fun a2 =>
   some a2
  | .inr r =>
   some r
  else
  some false
def Kgr (p : K00 × (List Int)) (r : Bool) : Prop :=
 match p with
 | (s0,v1) => Q75 Tryz.prog 69 [K1a s0,sI v1] (.bool r) []
theorem Kgs : ∀ p r,Kgq p = some r → Kgr p r := by
 rintro ⟨s0,v1⟩ r h
 unfold Kgq at h
 refine b0 Tryz.f69 B69 45 [(0,K1a s0),(1,sI v1)] fun c hc => ?_
 refine rs hc none [some (.new 1),oN] [(1,sI v1),(2,.ra 1 0)] [(1,K19 s0)] tv ?_
 refine sN ?_
 obtain ⟨a0,a1,h⟩ := Qds h
 refine rss hc none [oN,oc (.bool a0),oN] [(1,sI v1),(2,.ra 1 0),(10,.bool (!a0))] (cq (Kg9 _ _ a1) K4w tv) ?_
 rcases is h with ⟨a2,h⟩ | ⟨a2,h⟩
 ·refine cF (!a0) (nF a2) ?_
  refine sk ?_
  obtain ⟨_,a3,h⟩ := Qds h
  refine rs hc none [oN,oN,some (.eqv (.mk 2 true) ⟨[(13,.rs 2)],[(2,some (.arr (List.map AV.bool (List.replicate (Int.toNat s0.fSize) false))))],[2]⟩),oN] [(1,sI v1),(2,.ra 1 0),(5,.rs 2)] [(1,K19 s0),(2,.arr (List.map AV.bool (List.replicate (Int.toNat s0.fSize) false)))] (ab (congrArg (fun z => (⟨[(13,.rs 2)],[(2,some (.arr z))],[2]⟩ : Wr)) (Qex (enc := AV.bool) (n := Int.toNat s0.fSize) (x := AV.bool false) (Qe9 false))) (And.intro (Eq.refl s0.fSize) (Qdu a3)) tv) ?_
  refine sN ?_
  refine rss hc none [oN,some (.eqv (.no) ⟨[(15,I (v1.length : Int))],[],[]⟩),oN] [(1,sI v1),(2,.ra 1 0),(5,.rs 2),(14,sI v1),(15,I (v1.length : Int)),(16,I 0)] (ai (Qdy (d := 15) I v1) tv) ?_
  refine bk 0 ?_
  obtain ⟨fl,a4,h⟩ := Qds h
  have hL := Kgp _ _ a4 c hc
  refine lp ?_
  rcases fl with a5 | r
  ·refine WpL.into (e := (.exit 0)) (mkS [(2,.ra 1 0),(5,.rs 2)] [(1,K19 s0),(2,.arr (List.map AV.bool a5))]) hL ?_
   refine Qd6 ?_
   obtain ⟨a6,a7,h⟩ := Qds h
   refine rs hc none [oN,oN,oc (.bool a6),oN] [(4,.bool a6)] [] (ac (Q75.args (A1 := [K1a s0,.sl (Q02 (List.map AV.bool a5))]) (A2 := [K1a s0,sB a5]) (by simp only [List.map_nil,Qem]) (Kgl _ _ a7)) K4y (Or.inr rfl : ([2] : List Nat) = [] ∨ noSh (.bool a6) = true) tv) ?_
   refine rt ?_
   obtain rfl := os h
   exact rq [true]
  refine WpL.mono hL ?_
  rintro _ _ ⟨rfl,hfin⟩
  obtain rfl := os h
  exact ⟨.inl rfl,hfin⟩
 refine cT (!a0) (nT a2) ?_
 refine rs0 hc 1 [(4,.bool false)] [] ?_
 refine rt ?_
 obtain rfl := os h
 exact rq [true]
def Kgt (code0 : Int) : Option (Int × Int) :=
 (Kes (code0,0,2)) >>= fun a0 =>
 if a0 = true then
 some (code0,(-1))
 else
 (Kes (code0,3,18)) >>= fun a1 =>
 if a1 = true then
 some (3,(wr (code0 - 3)))
 else
 (Kes (code0,19,34)) >>= fun a2 =>
 if a2 = true then
 some (4,(wr (code0 - 19)))
 else
 if (code0 == 35) = true then
 some (3,(-1))
 else
 if (code0 == 36) = true then
 some (4,(-1))
 else
 some (5,(-1))
def Kgu (code0 : Int) (r : Int × Int) : Prop :=
 Q75 Tryz.prog 157 [I code0] (.tup [I r.1,I r.2]) []
theorem Kgv : ∀ p r,Kgt p = some r → Kgu p r := by
 rintro code0 r h
 unfold Kgt at h
 refine b0 Tryz.f157 K50 24 [(0,I code0)] fun c hc => ?_
 refine rs0 hc 2 [(0,I code0)] [] ?_
 refine sN ?_
 refine bk 0 ?_
 obtain ⟨a0,a1,h⟩ := Qds h
 refine rs hc none [oN,oc (.bool a0),oN] [(0,I code0),(4,.bool a0)] [] (cq (Keu _ _ a1) K4k tv) ?_
 refine ic h (fun a2 h => ?_) fun a2 h => ?_
 ·refine rs0 hc 3 [(2,I code0),(3,I (-1))] [] ?_
  refine rt ?_
  obtain rfl := os h
  exact rq [true,true]
 obtain ⟨a3,a4,h⟩ := Qds h
 refine rs hc none [oN,oc (.bool a3),oN] [(0,I code0),(8,.bool a3)] [] (cq (Keu _ _ a4) K4k tv) ?_
 refine ic h (fun a5 h => ?_) fun a5 h => ?_
 ·refine rs0 hc 4 [(2,I 3),(3,I (wr (code0 - 3)))] [] ?_
  refine rt ?_
  obtain rfl := os h
  exact rq [true,true]
 obtain ⟨a6,a7,h⟩ := Qds h
 refine rs hc none [oN,oc (.bool a6),oN] [(0,I code0),(13,.bool a6)] [] (cq (Keu _ _ a7) K4k tv) ?_
 refine ic h (fun a8 h => ?_) fun a8 h => ?_
 ·refine rs0 hc 4 [(2,I 4),(3,I (wr (code0 - 19)))] [] ?_
  refine rt ?_
  obtain rfl := os h
  exact rq [true,true]
 refine rs0 hc 3 [(0,I code0),(18,.bool (code0 == 35))] [] ?_
 refine ic h (fun a9 h => ?_) fun a9 h => ?_
 ·refine rs0 hc 2 [(2,I 3),(3,I (-1))] [] ?_
  refine rt ?_
  obtain rfl := os h
  exact rq [true,true]
 refine rs0 hc 3 [(21,.bool (code0 == 36))] [] ?_
 refine ic h (fun b1 h => ?_) fun b1 h => ?_
 ·refine rs0 hc 2 [(2,I 4),(3,I (-1))] [] ?_
  refine rt ?_
  obtain rfl := os h
  exact rq [true,true]
 refine sk ?_
 refine rs0 hc 2 [(2,I 5),(3,I (-1))] [] ?_
 refine rt ?_
 obtain rfl := os h
 exact rq [true,true]
def Kgw (p : (List Int) × Int) : Option (Int) :=
 match p with
 | (ty0,at1) =>
  ((
  if (decide (at1 < 0)) = true then
  some (true)
  else
  some ((decide (at1 ≥ (ty0.length : Int))))
  ) : Option (Bool)) >>= fun a0 =>
  if a0 = true then
  some (-1)
  else
  (idx ty0 at1) >>= fun a1 =>
  (Kgt a1) >>= fun (a2,a3) =>
  if (a2 == 0) = true then
  some (wr (at1 + 1))
  else
  if (a2 == 4) = true then
  (Kgw (ty0,(wr (at1 + 1)))) >>= fun a4 =>
  some a4
  else
  if (a2 == 5) = true then
  some (-1)
  else
  (Kgw (ty0,(wr (at1 + 1)))) >>= fun a5 =>
  (Kgw (ty0,a5)) >>= fun a6 =>
  some a6
 partial_fixpoint
def Kgx (p : (List Int) × Int) (r : Int) : Prop :=
 match p with
 | (ty0,at1) => Q75 Tryz.prog 213 [sI ty0,I at1] (I r) []
theorem Kgy : ∀ p r,Kgw p = some r → Kgx p r := by
 refine Kgw.partial_correctness Kgx ?_
 rintro impl_typeEnd_f impl_typeEnd_ih ⟨ty0,at1⟩ r h
 refine b0 Tryz.f213 K52 42 [(0,sI ty0),(1,I at1)] fun c hc => ?_
 refine rs0 hc 1 [(0,sI ty0),(1,I at1)] [] ?_
 refine sN ?_
 refine sN ?_
 obtain ⟨a0,a1,h⟩ := Qds h
 refine Wp.into (x := .normal) (mkS [(0,sI ty0),(1,I at1),(14,.bool a0)] []) ?_ ?_
 ·replace h := a1
  rcases is h with ⟨a2,h⟩ | ⟨a2,h⟩
  ·refine rg hc none [oN,oN,oN,o_,o_,o_,o_,oT] [(0,sI ty0),(1,I at1),(14,.bool true)] [] (ar 4 (neF a2) (ai a2 tv)) ?_
   obtain rfl := os h
   exact Qde.mk
  refine rg hc none [oN,oN,oN,oN,oN,some (.eqv (.no) ⟨[(12,I (ty0.length : Int))],[],[]⟩),oN,oF] [(0,sI ty0),(1,I at1),(14,.bool (decide (at1 ≥ (ty0.length : Int))))] [] (ar 3 a2 (ai (Qdy (d := 12) I ty0) (ar 2 a2 tv))) ?_
  obtain rfl := os h
  exact Qde.mk
 clear a1
 refine ic h (fun a3 h => ?_) fun a3 h => ?_
 ·refine rs0 hc 1 [(4,I (-1))] [] ?_
  refine rt ?_
  obtain rfl := os h
  exact rq [true]
 refine sk ?_
 obtain ⟨a4,a5,⟨a6,a7⟩,a8,h⟩ := bq2 h
 refine rs hc none [oN,oN,some (.el (I a4)),oN,oc (.tup [I a6,I a7]),oN,oN,oN,oN,oN] [(0,sI ty0),(1,I at1),(5,I a6)] [] (ai (ix a5) (cq (Kgv _ _ a8) K51 tv)) ?_
 refine sN ?_
 refine rs0 hc 1 [(0,sI ty0),(1,I at1),(23,I a6)] [] ?_
 refine bk 0 ?_
 refine rs0 hc 2 [(0,sI ty0),(1,I at1),(23,I a6),(24,.bool (a6 == 0))] [] ?_
 refine ic h (fun a9 h => ?_) fun a9 h => ?_
 ·refine rs0 hc 3 [(4,I (wr (at1 + 1)))] [] ?_
  refine rt ?_
  obtain rfl := os h
  exact rq [true]
 refine rs0 hc 2 [(0,sI ty0),(1,I at1),(23,I a6),(28,.bool (a6 == 4))] [] ?_
 refine ic h (fun b1 h => ?_) fun b1 h => ?_
 ·obtain ⟨b2,b3,h⟩ := Qds h
  refine rs hc none [oN,oN,oN,oc (I b2),oN] [(4,I b2)] [] (cq (impl_typeEnd_ih _ _ b3) K53 tv) ?_
  refine rt ?_
  obtain rfl := os h
  exact rq [true]
 refine rs0 hc 2 [(0,sI ty0),(1,I at1),(34,.bool (a6 == 5))] [] ?_
 refine ic h (fun b4 h => ?_) fun b4 h => ?_
 ·refine rs0 hc 1 [(4,I (-1))] [] ?_
  refine rt ?_
  obtain rfl := os h
  exact rq [true]
 refine sk ?_
 obtain ⟨b5,b6,b7,b8,h⟩ := bq2 h
 refine rs hc none [oN,oN,oN,oN,oc (I b5),oc (I b7),oN] [(4,I b7)] [] (cq (impl_typeEnd_ih _ _ b6) K53 (cq (impl_typeEnd_ih _ _ b8) K53 tv)) ?_
 refine rt ?_
 obtain rfl := os h
 exact rq [true]
def Kgz (ty0 : (List Int)) : Option (Bool) :=
 ((
 (Kes ((ty0.length : Int),1,40)) >>= fun a0 =>
 if a0 = true then
 (Kgw (ty0,0)) >>= fun a1 =>
 some ((a1 == (ty0.length : Int)))
 else
 some (false)
 ) : Option (Bool)) >>= fun a2 =>
 some a2
def Kh0 (ty0 : (List Int)) (r : Bool) : Prop :=
 Q75 Tryz.prog 159 [sI ty0] (.bool r) []
theorem Kh1 : ∀ p r,Kgz p = some r → Kh0 p r := by
 rintro ty0 r h
 unfold Kgz at h
 refine b0 Tryz.f159 K54 13 [(0,sI ty0)] fun c hc => ?_
 refine rs0 hc 1 [(0,sI ty0)] [] ?_
 refine sN ?_
 obtain ⟨a0,a1,h⟩ := Qds h
 refine Wp.into (x := .normal) (mkS [(2,.bool a0)] []) ?_ ?_
 ·replace h := a1
  obtain ⟨a2,a3,h⟩ := Qds h
  rcases is h with ⟨a4,h⟩ | ⟨a4,h⟩
  ·obtain ⟨a5,a6,h⟩ := Qds h
   refine rg hc none [oN,some (.eqv (.no) ⟨[(4,I (ty0.length : Int))],[],[]⟩),oc (.bool a2),oN,oN,oc (I a5),oN,some (.eqv (.no) ⟨[(10,I (ty0.length : Int))],[],[]⟩),oN,oT,oN] [(2,.bool (a5 == (ty0.length : Int)))] [] (ai (Qdy (d := 4) I ty0) (cq (Keu _ _ a3) K4k (ar 2 a4 (cq (Kgy _ _ a6) K53 (ar 2 a4 (ai (Qdy (d := 10) I ty0) (ar 2 a4 tv))))))) ?_
   obtain rfl := os h
   exact Qde.mk
  refine rg hc none [oN,some (.eqv (.no) ⟨[(4,I (ty0.length : Int))],[],[]⟩),oc (.bool a2),oN,o_,o_,o_,o_,o_,oF,oN] [(2,.bool false)] [] (ai (Qdy (d := 4) I ty0) (cq (Keu _ _ a3) K4k (ar 5 (neT a4) (ai a4 tv)))) ?_
  obtain rfl := os h
  exact Qde.mk
 clear a1
 refine rt ?_
 obtain rfl := os h
 exact rq [true]
def Kh2 (c : Ctx) : (Unit) ⊕ (Bool) → Exit → Q0a → Prop
 | .inl _ => Qde c (.exit 0) (mkS [] [])
 | .inr r => Qdn TIx Tryz.f78 [] (.bool r)
def Kh3 (p : K00 × (List Int) × Int) : Option ((Unit) ⊕ (Bool)) :=
 match p with
 | (s0,ty1,a0) =>
  if (decide (a0 < (ty1.length : Int))) = true then
  (idx ty1 a0) >>= fun a1 =>
  (Kgt a1) >>= fun (a2,a3) =>
  ((
  if (a2 == 3) = true then
  (Kev (s0,a3)) >>= fun a4 =>
  some ((!a4))
  else
  if (a2 == 4) = true then
  (Kev (s0,a3)) >>= fun a4 =>
  some ((!a4))
  else
  some (false)
  ) : Option (Bool)) >>= fun a5 =>
  if a5 = true then
  some (.inr false)
  else
  Kh3 (s0,ty1,(wr (a0 + 1)))
  else
  some (.inl ())
 partial_fixpoint
def Kh4 (p : K00 × (List Int) × Int) (fl : (Unit) ⊕ (Bool)) : Prop :=
 match p with
 | (s0,ty1,a0) => ∀ c : Ctx,c.nt = 36 → WpL Tryz.prog c (cl (cl (cr (cl (cr (cr B78)))))) (Kh2 c fl) (mkS [(2,.ra 1 0),(12,sI ty1),(13,I (ty1.length : Int)),(14,I a0)] [(1,K19 s0)])
theorem Kh5 : ∀ p r,Kh3 p = some r → Kh4 p r := by
 refine Kh3.partial_correctness Kh4 ?_
 rintro impl_isTypeOf_l0_f impl_isTypeOf_l0_ih ⟨s0,ty1,a0⟩ r h
 intro c hc
 refine WpL.step ?_
 refine K7e hc 1 [(2,.ra 1 0),(12,sI ty1),(13,I (ty1.length : Int)),(14,I a0),(15,.bool (decide (a0 < (ty1.length : Int))))] ?_
 refine sN ?_
 refine ic h (fun a1 h => ?_) fun a1 h => ?_
 ·refine sk ?_
  refine sN ?_
  refine bk 1 ?_
  obtain ⟨a2,a3,h⟩ := Qds h
  refine rss hc none [some (.el (I a2)),oN,oN] [(2,.ra 1 0),(6,I a2),(12,sI ty1),(13,I (ty1.length : Int)),(14,I a0)] (ai (ix a3) tv) ?_
  obtain ⟨⟨a4,a5⟩,a6,h⟩ := Qds h
  refine rss hc none [oN,oc (.tup [I a4,I a5]),oN,oN,oN,oN,oN] [(2,.ra 1 0),(7,I a4),(8,I a5),(12,sI ty1),(13,I (ty1.length : Int)),(14,I a0)] (cq (Kgv _ _ a6) K51 tv) ?_
  refine sN ?_
  obtain ⟨a7,a8,h⟩ := Qds h
  refine Wp.into (x := .normal) (mkS [(2,.ra 1 0),(12,sI ty1),(13,I (ty1.length : Int)),(14,I a0),(34,.bool a7)] [(1,K19 s0)]) ?_ ?_
  ·replace h := a8
   rcases is h with ⟨a9,h⟩ | ⟨a9,h⟩
   ·obtain ⟨b1,b2,h⟩ := Qds h
    refine rgs hc none [oN,oN,oN,o_,o_,oT,oN,oN,oN,oc (.bool b1),oN,oT] [(2,.ra 1 0),(12,sI ty1),(13,I (ty1.length : Int)),(14,I a0),(34,.bool (!b1))] (ar 2 (neF a9) (ai a9 (ar 3 tt (cq (Kex _ _ b2) K4m (ar 2 tt tv))))) ?_
    obtain rfl := os h
    exact Qde.mk
   rcases is h with ⟨b3,h⟩ | ⟨b3,h⟩
   ·obtain ⟨b1,b2,h⟩ := Qds h
    refine rgs hc none [oN,oN,oN,oN,oN,oF,oN,oN,oN,oc (.bool b1),oN,oT] [(2,.ra 1 0),(12,sI ty1),(13,I (ty1.length : Int)),(14,I a0),(34,.bool (!b1))] (ar 3 a9 (ar 3 b3 (cq (Kex _ _ b2) K4m (ar 2 b3 tv)))) ?_
    obtain rfl := os h
    exact Qde.mk
   refine rgs hc none [oN,oN,oN,oN,oN,oF,oN,o_,o_,o_,o_,oF] [(2,.ra 1 0),(12,sI ty1),(13,I (ty1.length : Int)),(14,I a0),(34,.bool false)] (ar 3 a9 (ar 4 (neT b3) (ai b3 tv))) ?_
   obtain rfl := os h
   exact Qde.mk
  clear a8
  refine ic h (fun b4 h => ?_) fun b4 h => ?_
  ·refine rs0 hc 1 [(4,.bool false)] [] ?_
   refine rt ?_
   obtain rfl := os h
   exact re [true]
  refine sk ?_
  refine K7d hc 2 [(2,.ra 1 0),(12,sI ty1),(13,I (ty1.length : Int)),(14,I (wr (a0 + 1)))] ?_
  refine Qda ?_
  exact (impl_isTypeOf_l0_ih _ _ h c hc)
 refine xt 0 ?_
 refine Qd4 ?_
 refine Qdb ?_
 obtain rfl := os h
 exact iv []
def Kh6 (p : K00 × (List Int)) : Option (Bool) :=
 match p with
 | (s0,ty1) =>
  (Kgz ty1) >>= fun a0 =>
  if a0 = true then
  (Kh3 (s0,ty1,0)) >>= fun fl => match fl with
  | .inl () =>
   some true
  | .inr r =>
   some r
  else
  some false
def Kh7 (p : K00 × (List Int)) (r : Bool) : Prop :=
 match p with
 | (s0,ty1) => Q75 Tryz.prog 78 [K1a s0,sI ty1] (.bool r) []
theorem Kh8 : ∀ p r,Kh6 p = some r → Kh7 p r := by
 rintro ⟨s0,ty1⟩ r h
 unfold Kh6 at h
 refine b0 Tryz.f78 B78 36 [(0,K1a s0),(1,sI ty1)] fun c hc => ?_
 refine rs hc none [some (.new 1),oN] [(1,sI ty1),(2,.ra 1 0)] [(1,K19 s0)] tv ?_
 refine sN ?_
 obtain ⟨a0,a1,h⟩ := Qds h
 refine rss hc none [oN,oc (.bool a0),oN] [(1,sI ty1),(2,.ra 1 0),(11,.bool (!a0))] (cq (Kh1 _ _ a1) K55 tv) ?_
 rcases is h with ⟨a2,h⟩ | ⟨a2,h⟩
 ·refine cF (!a0) (nF a2) ?_
  refine sk ?_
  refine sN ?_
  refine rss hc none [oN,some (.eqv (.no) ⟨[(13,I (ty1.length : Int))],[],[]⟩),oN] [(2,.ra 1 0),(12,sI ty1),(13,I (ty1.length : Int)),(14,I 0)] (ai (Qdy (d := 13) I ty1) tv) ?_
  refine bk 0 ?_
  obtain ⟨fl,a3,h⟩ := Qds h
  have hL := Kh5 _ _ a3 c hc
  refine lp ?_
  rcases fl with ⟨⟩ | r
  ·refine WpL.into (e := (.exit 0)) (mkS [] []) hL ?_
   refine Qd6 ?_
   refine rs0 hc 1 [(4,.bool true)] [] ?_
   refine rt ?_
   obtain rfl := os h
   exact rq [true]
  refine WpL.mono hL ?_
  rintro _ _ ⟨rfl,hfin⟩
  obtain rfl := os h
  exact ⟨.inl rfl,hfin⟩
 refine cT (!a0) (nT a2) ?_
 refine rs0 hc 1 [(4,.bool false)] [] ?_
 refine rt ?_
 obtain rfl := os h
 exact rq [true]
def Kh9 (c0 : Int) : Option (Bool) :=
 (Kgt c0) >>= fun (a0,a1) =>
 some (a0 == 3)
def Kha (c0 : Int) (r : Bool) : Prop :=
 Q75 Tryz.prog 170 [I c0] (.bool r) []
theorem Khb : ∀ p r,Kh9 p = some r → Kha p r := by
 rintro c0 r h
 unfold Kh9 at h
 refine b0 Tryz.f170 K57 12 [(0,I c0)] fun c hc => ?_
 refine rs0 hc 1 [(0,I c0)] [] ?_
 obtain ⟨⟨a0,a1⟩,a2,h⟩ := Qds h
 refine rs hc none [oN,oc (.tup [I a0,I a1]),oN,oN,oN,oN,oN] [(3,I a0)] [] (cq (Kgv _ _ a2) K51 tv) ?_
 refine rs0 hc 3 [(2,.bool (a0 == 3))] [] ?_
 refine rt ?_
 obtain rfl := os h
 exact rq [true]
def Khc (c : Ctx) : (Unit) ⊕ (Int) → Exit → Q0a → Prop
 | .inl _ => Qde c (.exit 0) (mkS [] [])
 | .inr r => Qdn TIx Tryz.f193 [] (I r)
def Khd (p : (List Int) × Int) : Option ((Unit) ⊕ (Int)) :=
 match p with
 | (s0,a0) =>
  if (decide (a0 < (s0.length : Int))) = true then
  (idx s0 a0) >>= fun a1 =>
  (Kh9 a1) >>= fun a2 =>
  if a2 = true then
  some (.inr a0)
  else
  Khd (s0,(wr (a0 + 1)))
  else
  some (.inl ())
 partial_fixpoint
def Khe (p : (List Int) × Int) (fl : (Unit) ⊕ (Int)) : Prop :=
 match p with
 | (s0,a0) => ∀ c : Ctx,c.nt = 19 → WpL Tryz.prog c (cl (cl (cr (cl (cr K59))))) (Khc c fl) (mkS [(0,sI s0),(1,.fn 170 []),(7,I (s0.length : Int)),(8,I a0)] [])
theorem Khf : ∀ p r,Khd p = some r → Khe p r := by
 refine Khd.partial_correctness Khe ?_
 rintro slices_IndexFunc_int_Kimpl_isDataOf_c1_l0_f slices_IndexFunc_int_Kimpl_isDataOf_c1_l0_ih ⟨s0,a0⟩ r h
 intro c hc
 refine WpL.step ?_
 refine rs0 hc 1 [(0,sI s0),(1,.fn 170 []),(7,I (s0.length : Int)),(8,I a0),(9,.bool (decide (a0 < (s0.length : Int))))] [] ?_
 refine sN ?_
 refine ic h (fun a1 h => ?_) fun a1 h => ?_
 ·refine sk ?_
  refine sN ?_
  refine bk 1 ?_
  refine rs0 hc 2 [(0,sI s0),(1,.fn 170 []),(5,I a0),(7,I (s0.length : Int)),(8,I a0)] [] ?_
  obtain ⟨a2,a3,a4,a5,h⟩ := bq2 h
  refine rs hc none [oN,oN,oN,some (.el (I a2)),oN,oc (.bool a4)] [(0,sI s0),(1,.fn 170 []),(5,I a0),(7,I (s0.length : Int)),(8,I a0),(16,.bool a4)] [] (ai (ix a3) (cq (Khb _ _ a5) K58 tv)) ?_
  refine ic h (fun a6 h => ?_) fun a6 h => ?_
  ·refine rs0 hc 2 [(4,I a0)] [] ?_
   refine rt ?_
   obtain rfl := os h
   exact re [true]
  refine sk ?_
  refine rg0 hc 2 [(0,sI s0),(1,.fn 170 []),(7,I (s0.length : Int)),(8,I (wr (a0 + 1)))] [] ?_
  refine Qda ?_
  exact (slices_IndexFunc_int_Kimpl_isDataOf_c1_l0_ih _ _ h c hc)
 refine xt 0 ?_
 refine Qd4 ?_
 refine Qdb ?_
 obtain rfl := os h
 exact iv []
def Khg (s0 : (List Int)) : Option (Int) :=
 (Khd (s0,0)) >>= fun fl => match fl with
 | .inl () =>
  some (-1)
 | .inr r =>
  some r
def Khh (s0 : (List Int)) (r : Int) : Prop :=
 Q75 Tryz.prog 193 [sI s0,.fn 170 []] (I r) []
theorem Khi : ∀ p r,Khg p = some r → Khh p r := by
 rintro s0 r h
 unfold Khg at h
 refine b0 Tryz.f193 K59 19 [(0,sI s0),(1,.fn 170 [])] fun c hc => ?_
 refine rs0 hc 1 [(0,sI s0),(1,.fn 170 [])] [] ?_
 refine sN ?_
 refine rs hc none [oN,some (.eqv (.no) ⟨[(7,I (s0.length : Int))],[],[]⟩),oN] [(0,sI s0),(1,.fn 170 []),(7,I (s0.length : Int)),(8,I 0)] [] (ai (Qdy (d := 7) I s0) tv) ?_
 refine bk 0 ?_
 obtain ⟨fl,a0,h⟩ := Qds h
 have hL := Khf _ _ a0 c hc
 refine lp ?_
 rcases fl with ⟨⟩ | r
 ·refine WpL.into (e := (.exit 0)) (mkS [] []) hL ?_
  refine Qd6 ?_
  refine rs0 hc 1 [(4,I (-1))] [] ?_
  refine rt ?_
  obtain rfl := os h
  exact rq [true]
 refine WpL.mono hL ?_
 rintro _ _ ⟨rfl,hfin⟩
 obtain rfl := os h
 exact ⟨.inl rfl,hfin⟩
def Khj (s0 : (List Int)) : Option (Bool) :=
 (Khg s0) >>= fun a0 =>
 some (decide (a0 ≥ 0))
def Khk (s0 : (List Int)) (r : Bool) : Prop :=
 Q75 Tryz.prog 116 [sI s0,.fn 170 []] (.bool r) []
theorem Khl : ∀ p r,Khj p = some r → Khk p r := by
 rintro s0 r h
 unfold Khj at h
 refine b0 Tryz.f116 K5b 9 [(0,sI s0),(1,.fn 170 [])] fun c hc => ?_
 refine rs0 hc 1 [(0,sI s0),(1,.fn 170 [])] [] ?_
 obtain ⟨a0,a1,h⟩ := Qds h
 refine rs hc none [oN,oN,oc (I a0),oN,oN] [(4,.bool (decide (a0 ≥ 0)))] [] (cq (Khi _ _ a1) K5a tv) ?_
 refine rt ?_
 obtain rfl := os h
 exact rq [true]
def Khm (p : K00 × (List Int)) : Option (Bool) :=
 match p with
 | (s0,ty1) =>
  ((
  (Kh6 (s0,ty1)) >>= fun a0 =>
  if a0 = true then
  (Khj ty1) >>= fun a1 =>
  some ((!a1))
  else
  some (false)
  ) : Option (Bool)) >>= fun a2 =>
  some a2
def Khn (p : K00 × (List Int)) (r : Bool) : Prop :=
 match p with
 | (s0,ty1) => Q75 Tryz.prog 83 [K1a s0,sI ty1] (.bool r) []
theorem Kho : ∀ p r,Khm p = some r → Khn p r := by
 rintro ⟨s0,ty1⟩ r h
 unfold Khm at h
 refine b0 Tryz.f83 B83 13 [(0,K1a s0),(1,sI ty1)] fun c hc => ?_
 refine rs hc none [some (.new 1),oN] [(1,sI ty1),(2,.ra 1 0)] [(1,K19 s0)] tv ?_
 refine sN ?_
 obtain ⟨a0,a1,h⟩ := Qds h
 refine Wp.into (x := .normal) (mkS [(4,.bool a0)] []) ?_ ?_
 ·replace h := a1
  obtain ⟨a2,a3,h⟩ := Qds h
  rcases is h with ⟨a4,h⟩ | ⟨a4,h⟩
  ·obtain ⟨a5,a6,h⟩ := Qds h
   refine rg hc none [oN,oN,oc (.bool a2),oN,oN,oc (.bool a5),oN,oT,oN] [(4,.bool (!a5))] [] (cq (Kh8 _ _ a3) K56 (ar 2 a4 (cq (Khl _ _ a6) K5c (ar 2 a4 tv)))) ?_
   obtain rfl := os h
   exact Qde.mk
  refine rg hc none [oN,oN,oc (.bool a2),oN,o_,o_,o_,oF,oN] [(4,.bool false)] [] (cq (Kh8 _ _ a3) K56 (ar 3 (neT a4) (ai a4 tv))) ?_
  obtain rfl := os h
  exact Qde.mk
 clear a1
 refine rt ?_
 obtain rfl := os h
 exact rq [true]
def Khp (p : K00 × (List Int)) : Option (Bool) :=
 match p with
 | (s0,ty1) =>
  ((
  (Khm (s0,ty1)) >>= fun a0 =>
  if a0 = true then
  (Kg7 s0) >>= fun a1 =>
  some (a1)
  else
  some (false)
  ) : Option (Bool)) >>= fun a2 =>
  some a2
def Khq (p : K00 × (List Int)) (r : Bool) : Prop :=
 match p with
 | (s0,ty1) => Q75 Tryz.prog 19 [K1a s0,sI ty1] (.bool r) []
theorem Khr : ∀ p r,Khp p = some r → Khq p r := by
 rintro ⟨s0,ty1⟩ r h
 unfold Khp at h
 refine b0 Tryz.f19 B19 12 [(0,K1a s0),(1,sI ty1)] fun c hc => ?_
 refine rs hc none [some (.new 1),oN] [(1,sI ty1),(2,.ra 1 0)] [(1,K19 s0)] tv ?_
 refine sN ?_
 obtain ⟨a0,a1,h⟩ := Qds h
 refine Wp.into (x := .normal) (mkS [(4,.bool a0)] []) ?_ ?_
 ·replace h := a1
  obtain ⟨a2,a3,h⟩ := Qds h
  rcases is h with ⟨a4,h⟩ | ⟨a4,h⟩
  ·obtain ⟨a5,a6,h⟩ := Qds h
   refine rg hc none [oN,oN,oc (.bool a2),oN,oN,oc (.bool a5),oT,oN] [(4,.bool a5)] [] (cq (Kho _ _ a3) K5d (ar 2 a4 (cq (Kg9 _ _ a6) K4w (ai a4 tv)))) ?_
   obtain rfl := os h
   exact Qde.mk
  refine rg hc none [oN,oN,oc (.bool a2),oN,o_,o_,oF,oN] [(4,.bool false)] [] (cq (Kho _ _ a3) K5d (ar 2 (neT a4) (ai a4 tv))) ?_
  obtain rfl := os h
  exact Qde.mk
 clear a1
 refine rt ?_
 obtain rfl := os h
 exact rq [true]
def Khs (c : Ctx) : LL → Exit → Q0a → Prop
 | a0 => Qde c (.exit 0) (mkS [(3,.rs 3)] [(3,.arr (List.map K0n a0))])
def Kht (p : (List Int) × LL × Int) : Option (LL) :=
 match p with
 | (ty0,a0,a1) =>
  if (decide (a1 < (ty0.length : Int))) = true then
  (Kgw (ty0,a1)) >>= fun a2 =>
  (cut ty0 (some a1) (some a2) (some a2)) >>= fun a3 =>
  (Qe5 (a0.length + [a3].length) 24) >>= fun _ =>
  Kht (ty0,(a0 ++ [a3]),a2)
  else
  some (a0)
 partial_fixpoint
def Khu (p : (List Int) × LL × Int) (fl : LL) : Prop :=
 match p with
 | (ty0,a0,a1) => ∀ c : Ctx,c.nt = 23 → WpL Tryz.prog c (cl (cl (cr (cl (cr (cr K5f)))))) (Khs c fl) (mkS [(0,sI ty0),(3,.rs 3),(4,I a1)] [(3,.arr (List.map K0n a0))])
theorem Khv : ∀ p r,Kht p = some r → Khu p r := by
 refine Kht.partial_correctness Khu ?_
 rintro impl_parts_l0_f impl_parts_l0_ih ⟨ty0,a0,a1⟩ r h
 intro c hc
 refine WpL.step ?_
 refine sN ?_
 refine rss hc none [oN,oN,some (.eqv (.no) ⟨[(8,I (ty0.length : Int))],[],[]⟩),oN] [(0,sI ty0),(3,.rs 3),(4,I a1),(9,.bool (decide (a1 < (ty0.length : Int))))] (ai (Qdy (d := 8) I ty0) tv) ?_
 refine ic h (fun a2 h => ?_) fun a2 h => ?_
 ·refine sk ?_
  refine bk 1 ?_
  obtain ⟨a3,a4,h⟩ := Qds h
  refine rss hc none [oN,oN,oc (I a3),oN] [(0,sI ty0),(3,.rs 3),(4,I a1),(5,I a3)] (cq (Kgy _ _ a4) K53 tv) ?_
  obtain ⟨a5,a6,_,a7,h⟩ := bq2 h
  refine rs hc none [oN,oN,oN,oN,oN,some (.eqv (.no) ⟨[(18,sI a5)],[],[]⟩),some (.mk 6 false),some (.eqv (.mk 7 true) ⟨[(20,.rs 7)],[(7,some (.arr (List.map K0n (a0 ++ [a5])))),(3,none),(6,none)],[7]⟩),oN] [(0,sI ty0),(3,.rs 7),(5,I a3)] [(7,.arr (List.map K0n (a0 ++ [a5])))] (ad (Qe1 (d := 18) I a6) (Qe0 (enc := I) (sz := 1) Qeb a6) (congrArg (fun z => (⟨[(20,.rs 7)],[(7,some (.arr z)),(3,none),(6,none)],[7]⟩ : Wr)) ((List.map_append).symm : (List.map K0n a0) ++ (List.map K0n [a5]) = List.map K0n (a0 ++ [a5]))) (Qe6 (enc1 := K0n) (enc2 := K0n) (e1 := a0) (e2 := [a5]) (sz := 1) K0q K0q a7) tv) ?_
  refine K7d hc 2 [(0,sI ty0),(3,.rs 7),(4,I a3)] ?_
  refine Qda ?_
  exact WpL.view (fun a w hv => SRx.renL [(3,7)] hv (by kernel_rfl) (by kernel_rfl) (by kernel_rfl)) (impl_parts_l0_ih _ _ h c hc)
 refine xt 0 ?_
 refine Qd4 ?_
 refine Qdb ?_
 obtain rfl := os h
 exact iv []
def Khw (ty0 : (List Int)) : Option (LL) :=
 (Kht (ty0,[],1)) >>= fun a0 =>
 some a0
def Khx (ty0 : (List Int)) (r : LL) : Prop :=
 Q75 Tryz.prog 158 [sI ty0] (.osl (List.map K0n r)) []
theorem Khy : ∀ p r,Khw p = some r → Khx p r := by
 rintro ty0 r h
 unfold Khw at h
 refine b0 Tryz.f158 K5f 23 [(0,sI ty0)] fun c hc => ?_
 refine rs0 hc 1 [(0,sI ty0)] [] ?_
 refine rs0 hc 1 [(0,sI ty0),(3,.nils)] [] ?_
 refine sN ?_
 refine rs0 hc 1 [(0,sI ty0),(3,.nils),(4,I 1)] [] ?_
 refine bk 0 ?_
 obtain ⟨a0,a1,h⟩ := Qds h
 have hL := Khv _ _ a1 c hc
 refine Wp.loopN (by kernel_rfl) (WpL.view (fun a w hv => SRx.renL [(3,8)] (SRx.nilTL 3 8 hv (by kernel_rfl) (by kernel_rfl)) (by kernel_rfl) (by kernel_rfl) (by kernel_rfl)) (?_ : WpL _ c _ _ (mkS [(0,sI ty0),(3,.rs 3),(4,I 1)] [(3,.arr (List.map K0n []))])))
 refine WpL.into (e := (.exit 0)) (mkS [(3,.rs 3)] [(3,.arr (List.map K0n a0))]) hL ?_
 refine Qd6 ?_
 refine K7e hc 2 [(2,.rs 3)] ?_
 refine rt ?_
 obtain rfl := os h
 exact rq [true]
def Khz (c : Ctx) : (Unit) ⊕ (Bool) → Exit → Q0a → Prop
 | .inl _ => Qde c (.exit 0) (mkS [] [])
 | .inr r => Qdn TIx Tryz.f144 [] (.bool r)
def Ki0 (p : (List Int) × (List Int) × Int) : Option ((Unit) ⊕ (Bool)) :=
 match p with
 | (s10,s21,a0) =>
  if (decide (a0 < (s10.length : Int))) = true then
  (idx s10 a0) >>= fun a1 =>
  (idx s21 a0) >>= fun a2 =>
  if (a1 != a2) = true then
  some (.inr false)
  else
  Ki0 (s10,s21,(wr (a0 + 1)))
  else
  some (.inl ())
 partial_fixpoint
def Ki1 (p : (List Int) × (List Int) × Int) (fl : (Unit) ⊕ (Bool)) : Prop :=
 match p with
 | (s10,s21,a0) => ∀ c : Ctx,c.nt = 26 → WpL Tryz.prog c (cl (cl (cr (cl (cr (cr K5i)))))) (Khz c fl) (mkS [(0,sI s10),(1,sI s21),(12,I (s10.length : Int)),(13,I a0)] [])
theorem Ki2 : ∀ p r,Ki0 p = some r → Ki1 p r := by
 refine Ki0.partial_correctness Ki1 ?_
 rintro slices_Equal_int_l0_f slices_Equal_int_l0_ih ⟨s10,s21,a0⟩ r h
 intro c hc
 refine WpL.step ?_
 refine rs0 hc 1 [(0,sI s10),(1,sI s21),(12,I (s10.length : Int)),(13,I a0),(14,.bool (decide (a0 < (s10.length : Int))))] [] ?_
 refine sN ?_
 refine ic h (fun a1 h => ?_) fun a1 h => ?_
 ·refine sk ?_
  refine sN ?_
  refine bk 1 ?_
  refine rs0 hc 2 [(0,sI s10),(1,sI s21),(5,I a0),(12,I (s10.length : Int)),(13,I a0)] [] ?_
  obtain ⟨a2,a3,a4,a5,h⟩ := bq2 h
  refine rs hc (rx [[0],[0],[2],[3],[0],[0],[0,4,5],[0,4,5,6],[8]]) [oN,oN,some (.el (I a2)),oN,oN,oN,some (.el (I a4)),oN,oN] [(0,sI s10),(1,sI s21),(12,I (s10.length : Int)),(13,I a0),(24,.bool (a2 != a4))] [] (ab (ix a3) (ix a5) tv) ?_
  refine ic h (fun a6 h => ?_) fun a6 h => ?_
  ·refine rs0 hc 1 [(4,.bool false)] [] ?_
   refine rt ?_
   obtain rfl := os h
   exact re [true]
  refine sk ?_
  refine rg0 hc 2 [(0,sI s10),(1,sI s21),(12,I (s10.length : Int)),(13,I (wr (a0 + 1)))] [] ?_
  refine Qda ?_
  exact (slices_Equal_int_l0_ih _ _ h c hc)
 refine xt 0 ?_
 refine Qd4 ?_
 refine Qdb ?_
 obtain rfl := os h
 exact iv []
def Ki3 (p : (List Int) × (List Int)) : Option (Bool) :=
 match p with
 | (s10,s21) =>
  if ((s10.length : Int) != (s21.length : Int)) = true then
  some false
  else
  (Ki0 (s10,s21,0)) >>= fun fl => match fl with
  | .inl () =>
   some true
  | .inr r =>
   some r
def Ki4 (p : (List Int) × (List Int)) (r : Bool) : Prop :=
 match p with
 | (s10,s21) => Q75 Tryz.prog 144 [sI s10,sI s21] (.bool r) []
theorem Ki5 : ∀ p r,Ki3 p = some r → Ki4 p r := by
 rintro ⟨s10,s21⟩ r h
 unfold Ki3 at h
 refine b0 Tryz.f144 K5i 26 [(0,sI s10),(1,sI s21)] fun c hc => ?_
 refine rs0 hc 1 [(0,sI s10),(1,sI s21)] [] ?_
 refine sN ?_
 refine rs hc none [oN,some (.eqv (.no) ⟨[(7,I (s10.length : Int))],[],[]⟩),oN,some (.eqv (.no) ⟨[(9,I (s21.length : Int))],[],[]⟩),oN] [(0,sI s10),(1,sI s21),(10,.bool ((s10.length : Int) != (s21.length : Int)))] [] (ab (Qdy (d := 7) I s10) (Qdy (d := 9) I s21) tv) ?_
 refine ic h (fun a0 h => ?_) fun a0 h => ?_
 ·refine rs0 hc 1 [(4,.bool false)] [] ?_
  refine rt ?_
  obtain rfl := os h
  exact rq [true]
 refine sk ?_
 refine sN ?_
 refine rs hc none [oN,some (.eqv (.no) ⟨[(12,I (s10.length : Int))],[],[]⟩),oN] [(0,sI s10),(1,sI s21),(12,I (s10.length : Int)),(13,I 0)] [] (ai (Qdy (d := 12) I s10) tv) ?_
 refine bk 0 ?_
 obtain ⟨fl,a1,h⟩ := Qds h
 have hL := Ki2 _ _ a1 c hc
 refine lp ?_
 rcases fl with ⟨⟩ | r
 ·refine WpL.into (e := (.exit 0)) (mkS [] []) hL ?_
  refine Qd6 ?_
  refine rs0 hc 1 [(4,.bool true)] [] ?_
  refine rt ?_
  obtain rfl := os h
  exact rq [true]
 refine WpL.mono hL ?_
 rintro _ _ ⟨rfl,hfin⟩
 obtain rfl := os h
 exact ⟨.inl rfl,hfin⟩
end Go.Am
