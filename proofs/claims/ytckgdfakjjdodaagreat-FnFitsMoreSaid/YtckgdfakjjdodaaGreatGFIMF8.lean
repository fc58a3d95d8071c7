/- Walks, printed. -/
import Derived.Test.YtckgdfakjjdodaaGreatGFIMF6
set_option linter.unusedVariables false
set_option linter.unusedSimpArgs false
set_option maxRecDepth 100000
namespace Go.Am
open Go Go.Proofs
def Kjc : Option (List (List Nat)) := rx [[0],[0],[0],[0],[0,1,2,3],[0],[6],[0],[0],[0],[0],[0],[7,9,10,11],[13],[14],[15],[16],[16],[16],[16],[16,17,18,19],[16],[22],[16],[16],[16],[16],[16],[23,25,26,27],[29],[30],[31]]
def Kjd : Option (List (List Nat)) := rx [[0],[0],[0],[0],[0],[0,2,3,4],[6],[0],[0],[0],[0],[7,8,9,10],[0],[0],[0],[7,8,9,10,11,12,13,14],[16],[17],[18],[19],[19],[19],[19],[19,20,21,22],[19],[25],[19],[19],[19],[19],[26,27,28,29],[19],[19],[19],[26,27,28,29,30,31,32,33],[35],[36],[37]]
def Kje : Option (List (List Nat)) := rx [[0],[0],[0],[3],[4],[5],[6],[6],[6],[6],[6,7,8,9],[6],[6],[6],[6,7,8,9,10,11,12,13],[15],[16],[17],[17],[17],[17],[17,18,19,20],[17],[17],[17],[17,18,19,20,21,22,23,24],[26],[27],[28],[29],[29],[29],[29],[29,30,31,32],[29],[29],[29],[29,30,31,32,33,34,35,36],[38],[39],[40],[41]]
def Kjf : Option (List (List Nat)) := rx [[0],[0],[0,1],[0],[0,1,2,3],[0,1,2,3,4],[6],[7],[8],[9],[9],[9,10],[9],[9,10,11,12],[9,10,11,12,13],[15],[16],[17]]
def Kjg : Option (List (List Nat)) := rh [0,0,0,3,0,0,0,7,8,9,10,10,12,13,14,14,14,17,18,19,20,20,20,23,24,25,26,27,27,27,30,31,32]
def Kjh (c : Ctx) (s0 : K00) (a1 : Int) (b2 : Int) (a0 : Int) : (Unit) ⊕ (Int) → Exit → Q0a → Prop
 | .inl _ => Qcz c .normal (mkS [(1,I a1),(2,I b2),(3,.ra 1 0),(7,I a0)] [(1,K1v s0)])
 | .inr r => Qd8 TIx Tryz.f149 [] (I r)
def Kji (c : Ctx) : (Unit) ⊕ (Int) → Exit → Q0a → Prop
 | .inl _ => Qcz c (.exit 0) (mkS [] [])
 | .inr r => Qd8 TIx Tryz.f149 [] (I r)
def Kjj (p : K00 × Int × Int × Int) : Option ((Unit) ⊕ (Int)) :=
 match p with
 | (s0,a1,b2,a0) =>
  if (decide (a0 < s0.fSize)) = true then
  ((
   ((
   (Kj5 (s0,a1,a0)) >>= fun a2 =>
   if a2 = true then
   (Kj5 (s0,b2,a0)) >>= fun a3 =>
   some ((!a3))
   else
   some (true)
   ) : Option (Bool)) >>= fun a4 =>
   if a4 = true then
   some (.inl ())
   else
   (Kj9 (s0,a1,b2,a0,true,0)) >>= fun a5 =>
   if a5 = true then
   some (.inr a0)
   else
   some (.inl ())) : Option ((Unit) ⊕ (Int))) >>= fun fl => match fl with
  | .inl () =>
   Kjj (s0,a1,b2,(wr (a0 + 1)))
  | .inr r =>
   some (.inr r)
  else
  some (.inl ())
 partial_fixpoint
def Kjk (p : K00 × Int × Int × Int) (fl : (Unit) ⊕ (Int)) : Prop :=
 match p with
 | (s0,a1,b2,a0) => ∀ c : Ctx,c.nt = 57 → WpL Tryz.prog c (cl (cl (cr (cl (cr K6r))))) (Kji c fl) (mkS [(1,I a1),(2,I b2),(3,.ra 1 0),(7,I a0)] [(1,K1v s0)])
theorem Kjl : ∀ p r,Kjj p = some r → Kjk p r := by
 refine Kjj.partial_correctness Kjk ?_
 rintro impl_Systemjoin_l1_f impl_Systemjoin_l1_ih ⟨s0,a1,b2,a0⟩ r h
 intro c hc
 refine WpL.step ?_
 refine sN ?_
 refine K9m hc 4 [(1,I a1),(2,I b2),(3,.ra 1 0),(7,I a0),(13,.bool (decide (a0 < s0.fSize)))] ?_
 refine ic h (fun a2 h => ?_) fun a2 h => ?_
 ·refine sk ?_
  refine sN ?_
  obtain ⟨fl,a3,h⟩ := Qdd h
  refine flw (Kjh c s0 a1 b2 a0 fl) ?_ (fun hF => ?_)
  ·replace h := a3
   refine bk 1 ?_
   refine sN ?_
   refine sN ?_
   obtain ⟨a4,a5,h⟩ := Qdd h
   refine Wp.into (x := .normal) (mkS [(1,I a1),(2,I b2),(3,.ra 1 0),(7,I a0),(27,.bool a4)] [(1,K1v s0)]) ?_ ?_
   ·replace h := a5
    obtain ⟨a6,a7,h⟩ := Qdd h
    rcases is h with ⟨a8,h⟩ | ⟨a8,h⟩
    ·obtain ⟨a9,b1,h⟩ := Qdd h
     refine rgs hc none [oN,oN,oN,oc (.bool a6),oN,oN,oN,oN,oN,oc (.bool a9),oN,oF] [(1,I a1),(2,I b2),(3,.ra 1 0),(7,I a0),(27,.bool (!a9))] (cq (Kj7 _ _ a7) K6q (ar 4 (nF a8) (cq (Kj7 _ _ b1) K6q (ar 2 (nF a8) tv)))) ?_
     obtain rfl := os h
     exact Qcz.mk
    refine rgs hc none [oN,oN,oN,oc (.bool a6),oN,oN,o_,o_,o_,o_,o_,oT] [(1,I a1),(2,I b2),(3,.ra 1 0),(7,I a0),(27,.bool true)] (cq (Kj7 _ _ a7) K6q (ar 5 (neF (nT a8)) (ai (nT a8) tv))) ?_
    obtain rfl := os h
    exact Qcz.mk
   clear a5
   refine ic h (fun b3 h => ?_) fun b3 h => ?_
   ·refine xt 1 ?_
    refine Qcp ?_
    refine Qcr ?_
    obtain rfl := os h
    exact iv []
   refine sk ?_
   refine K9m hc 1 [(1,I a1),(2,I b2),(3,.ra 1 0),(7,I a0),(8,.bool true)] ?_
   refine sN ?_
   refine K9m hc 1 [(1,I a1),(2,I b2),(3,.ra 1 0),(7,I a0),(8,.bool true),(9,I 0)] ?_
   refine bk 2 ?_
   obtain ⟨b4,b5,h⟩ := Qdd h
   have hL := Kjb _ _ b5 c hc
   refine lp ?_
   refine WpL.into (e := (.exit 2)) (mkS [(1,I a1),(2,I b2),(3,.ra 1 0),(7,I a0),(8,.bool b4)] [(1,K1v s0)]) hL ?_
   refine Qcr ?_
   refine K9m hc 1 [(1,I a1),(2,I b2),(3,.ra 1 0),(7,I a0),(55,.bool b4)] ?_
   refine ic h (fun b6 h => ?_) fun b6 h => ?_
   ·refine rs0 hc 2 [(6,I a0)] [] ?_
    refine rt ?_
    obtain rfl := os h
    exact re [true]
   refine sk ?_
   obtain rfl := os h
   exact iv []
  rcases fl with ⟨⟩ | r
  ·refine Wp.into (x := .normal) (mkS [(1,I a1),(2,I b2),(3,.ra 1 0),(7,I a0)] [(1,K1v s0)]) hF ?_
   refine K9l hc 3 [(1,I a1),(2,I b2),(3,.ra 1 0),(7,I (wr (a0 + 1)))] ?_
   refine Qcv ?_
   exact (impl_Systemjoin_l1_ih _ _ h c hc)
  refine Wp.mono hF ?_
  rintro _ _ ⟨rfl,hfin⟩
  obtain rfl := os h
  exact ⟨rfl,hfin⟩
 refine xt 0 ?_
 refine Qcp ?_
 refine Qcw ?_
 obtain rfl := os h
 exact iv []
def Kjm (p : K00 × Int × Int) : Option (Int) :=
 match p with
 | (s0,a1,b2) =>
  (Kjj (s0,a1,b2,0)) >>= fun fl => match fl with
  | .inl () =>
   some (-1)
  | .inr r =>
   some r
def Kjn (p : K00 × Int × Int) (r : Int) : Prop :=
 match p with
 | (s0,a1,b2) => Q71 Tryz.prog 149 [K1w s0,I a1,I b2] (I r) []
theorem Kjo : ∀ p r,Kjm p = some r → Kjn p r := by
 rintro ⟨s0,a1,b2⟩ r h
 unfold Kjm at h
 refine b0 Tryz.f149 K6r 57 [(0,K1w s0),(1,I a1),(2,I b2)] fun c hc => ?_
 refine rs hc none [some (.new 1),oN] [(1,I a1),(2,I b2),(3,.ra 1 0)] [(1,K1v s0)] tv ?_
 refine sN ?_
 refine K9m hc 1 [(1,I a1),(2,I b2),(3,.ra 1 0),(7,I 0)] ?_
 refine bk 0 ?_
 obtain ⟨fl,a0,h⟩ := Qdd h
 have hL := Kjl _ _ a0 c hc
 refine lp ?_
 rcases fl with ⟨⟩ | r
 ·refine WpL.into (e := (.exit 0)) (mkS [] []) hL ?_
  refine Qcr ?_
  refine rs0 hc 1 [(6,I (-1))] [] ?_
  refine rt ?_
  obtain rfl := os h
  exact rq [true]
 refine WpL.mono hL ?_
 rintro _ _ ⟨rfl,hfin⟩
 obtain rfl := os h
 exact ⟨.inl rfl,hfin⟩
def Kjp (p : K00 × Int × Int × Int) : Option (Bool) :=
 match p with
 | (s0,a1,b2,c3) =>
  ((
  (Kiz (s0,a1,b2)) >>= fun a0 =>
  (Kiz (s0,a0,c3)) >>= fun a2 =>
  (Kiz (s0,b2,c3)) >>= fun a3 =>
  (Kiz (s0,a1,a3)) >>= fun a4 =>
  if (a2 != a4) = true then
  some (true)
  else
  (Kj2 (s0,a1,b2)) >>= fun a5 =>
  (Kj2 (s0,a5,c3)) >>= fun a6 =>
  (Kj2 (s0,b2,c3)) >>= fun a7 =>
  (Kj2 (s0,a1,a7)) >>= fun a8 =>
  some ((a6 != a8))
  ) : Option (Bool)) >>= fun a9 =>
  if a9 = true then
  some false
  else
  ((
  (Kiz (s0,b2,c3)) >>= fun b1 =>
  (Kj2 (s0,a1,b1)) >>= fun b3 =>
  (Kj2 (s0,a1,b2)) >>= fun b4 =>
  (Kj2 (s0,a1,c3)) >>= fun b5 =>
  (Kiz (s0,b4,b5)) >>= fun b6 =>
  if (b3 != b6) = true then
  some (true)
  else
  (Kiz (s0,a1,b2)) >>= fun b7 =>
  (Kj2 (s0,b7,c3)) >>= fun b8 =>
  (Kj2 (s0,a1,c3)) >>= fun b9 =>
  (Kj2 (s0,b2,c3)) >>= fun c0 =>
  (Kiz (s0,b9,c0)) >>= fun c1 =>
  some ((b8 != c1))
  ) : Option (Bool)) >>= fun c2 =>
  if c2 = true then
  some false
  else
  ((
  (Kj5 (s0,a1,b2)) >>= fun c4 =>
  if c4 = true then
  (Kj5 (s0,b2,c3)) >>= fun c5 =>
  if c5 = true then
  (Kj5 (s0,a1,c3)) >>= fun c6 =>
  some ((!c6))
  else
  some (false)
  else
  some (false)
  ) : Option (Bool)) >>= fun c7 =>
  if c7 = true then
  some false
  else
  ((
  (Kj5 (s0,a1,b2)) >>= fun c8 =>
  if c8 = true then
  (Kiz (s0,a1,c3)) >>= fun c9 =>
  (Kiz (s0,b2,c3)) >>= fun d0 =>
  (Kj5 (s0,c9,d0)) >>= fun d1 =>
  if d1 = true then
  (Kj2 (s0,a1,c3)) >>= fun d2 =>
  (Kj2 (s0,b2,c3)) >>= fun d3 =>
  (Kj5 (s0,d2,d3)) >>= fun d4 =>
  if d4 = true then
  (Kj2 (s0,c3,a1)) >>= fun d5 =>
  (Kj2 (s0,c3,b2)) >>= fun d6 =>
  (Kj5 (s0,d5,d6)) >>= fun d7 =>
  some (d7)
  else
  some (false)
  else
  some (false)
  else
  some (true)
  ) : Option (Bool)) >>= fun d8 =>
  some d8
def Kjq (p : K00 × Int × Int × Int) (r : Bool) : Prop :=
 match p with
 | (s0,a1,b2,c3) => Q71 Tryz.prog 162 [K1w s0,I a1,I b2,I c3] (.bool r) []
theorem Kjr : ∀ p r,Kjp p = some r → Kjq p r := by
 rintro ⟨s0,a1,b2,c3⟩ r h
 unfold Kjp at h
 refine b0 Tryz.f162 K6t 137 [(0,K1w s0),(1,I a1),(2,I b2),(3,I c3)] fun c hc => ?_
 refine rs hc none [some (.new 1),oN] [(1,I a1),(2,I b2),(3,I c3),(4,.ra 1 0)] [(1,K1v s0)] tv ?_
 refine sN ?_
 refine sN ?_
 obtain ⟨a0,a2,h⟩ := Qdd h
 refine Wp.into (x := .normal) (mkS [(1,I a1),(2,I b2),(3,I c3),(4,.ra 1 0),(40,.bool a0)] [(1,K1v s0)]) ?_ ?_
 ·replace h := a2
  obtain ⟨a3,a4,a5,a6,a7,a8,a9,b1,h⟩ := bq4 h
  rcases is h with ⟨b3,h⟩ | ⟨b3,h⟩
  ·refine rgs hc Kjc [oN,oN,oN,oN,oc (I a3),oN,oc (I a5),oN,oN,oN,oN,oN,oc (I a7),oc (I a9),oN,oN,o_,o_,o_,o_,o_,o_,o_,o_,o_,o_,o_,o_,o_,o_,o_,oT] [(1,I a1),(2,I b2),(3,I c3),(4,.ra 1 0),(40,.bool true)] (cq (Kj1 _ _ a4) K6n (cq (Kj1 _ _ a6) K6n (cq (Kj1 _ _ a8) K6n (cq (Kj1 _ _ b1) K6n (ar 15 (neF b3) (ai b3 tv)))))) ?_
   obtain rfl := os h
   exact Qcz.mk
  obtain ⟨b4,b5,b6,b7,b8,b9,c0,c1,h⟩ := bq4 h
  refine rgs hc Kjc [oN,oN,oN,oN,oc (I a3),oN,oc (I a5),oN,oN,oN,oN,oN,oc (I a7),oc (I a9),oN,oN,oN,oN,oN,oN,oc (I b4),oN,oc (I b6),oN,oN,oN,oN,oN,oc (I b8),oc (I c0),oN,oF] [(1,I a1),(2,I b2),(3,I c3),(4,.ra 1 0),(40,.bool (b6 != c0))] (cq (Kj1 _ _ a4) K6n (cq (Kj1 _ _ a6) K6n (cq (Kj1 _ _ a8) K6n (cq (Kj1 _ _ b1) K6n (ar 5 b3 (cq (Kj4 _ _ b5) K6p (ar 2 b3 (cq (Kj4 _ _ b7) K6p (ar 6 b3 (cq (Kj4 _ _ b9) K6p (ai b3 (cq (Kj4 _ _ c1) K6p (ar 2 b3 tv))))))))))))) ?_
  obtain rfl := os h
  exact Qcz.mk
 clear a2
 refine ic h (fun c2 h => ?_) fun c2 h => ?_
 ·refine rs0 hc 1 [(8,.bool false)] [] ?_
  refine rt ?_
  obtain rfl := os h
  exact rq [true]
 refine sk ?_
 refine sN ?_
 refine sN ?_
 obtain ⟨c4,c5,h⟩ := Qdd h
 refine Wp.into (x := .normal) (mkS [(1,I a1),(2,I b2),(3,I c3),(4,.ra 1 0),(78,.bool c4)] [(1,K1v s0)]) ?_ ?_
 ·replace h := c5
  obtain ⟨c6,c7,c8,c9,d0,d1,d2,d3,h⟩ := bq4 h
  obtain ⟨d4,d5,h⟩ := Qdd h
  rcases is h with ⟨d6,h⟩ | ⟨d6,h⟩
  ·refine rgs hc Kjd [oN,oN,oN,oN,oN,oc (I c6),oc (I c8),oN,oN,oN,oN,oc (I d0),oN,oN,oN,oc (I d2),oc (I d4),oN,oN,o_,o_,o_,o_,o_,o_,o_,o_,o_,o_,o_,o_,o_,o_,o_,o_,o_,o_,oT] [(1,I a1),(2,I b2),(3,I c3),(4,.ra 1 0),(78,.bool true)] (cq (Kj1 _ _ c7) K6n (cq (Kj4 _ _ c9) K6p (cq (Kj4 _ _ d1) K6p (cq (Kj4 _ _ d3) K6p (cq (Kj1 _ _ d5) K6n (ar 18 (neF d6) (ai d6 tv))))))) ?_
   obtain rfl := os h
   exact Qcz.mk
  obtain ⟨d7,d8,d9,e0,e1,e2,e3,e4,h⟩ := bq4 h
  obtain ⟨e5,e6,h⟩ := Qdd h
  refine rgs hc Kjd [oN,oN,oN,oN,oN,oc (I c6),oc (I c8),oN,oN,oN,oN,oc (I d0),oN,oN,oN,oc (I d2),oc (I d4),oN,oN,oN,oN,oN,oN,oc (I d7),oN,oc (I d9),oN,oN,oN,oN,oc (I e1),oN,oN,oN,oc (I e3),oc (I e5),oN,oF] [(1,I a1),(2,I b2),(3,I c3),(4,.ra 1 0),(78,.bool (d9 != e5))] (cq (Kj1 _ _ c7) K6n (cq (Kj4 _ _ c9) K6p (cq (Kj4 _ _ d1) K6p (cq (Kj4 _ _ d3) K6p (cq (Kj1 _ _ d5) K6n (ar 5 d6 (cq (Kj1 _ _ d8) K6n (ar 2 d6 (cq (Kj4 _ _ e0) K6p (ar 5 d6 (cq (Kj4 _ _ e2) K6p (ar 4 d6 (cq (Kj4 _ _ e4) K6p (ai d6 (cq (Kj1 _ _ e6) K6n (ar 2 d6 tv)))))))))))))))) ?_
  obtain rfl := os h
  exact Qcz.mk
 clear c5
 refine ic h (fun e7 h => ?_) fun e7 h => ?_
 ·refine rs0 hc 1 [(8,.bool false)] [] ?_
  refine rt ?_
  obtain rfl := os h
  exact rq [true]
 refine sk ?_
 refine sN ?_
 refine sN ?_
 obtain ⟨e8,e9,h⟩ := Qdd h
 refine Wp.into (x := .normal) (mkS [(1,I a1),(2,I b2),(3,I c3),(4,.ra 1 0),(95,.bool e8)] [(1,K1v s0)]) ?_ ?_
 ·replace h := e9
  obtain ⟨f0,f1,h⟩ := Qdd h
  rcases is h with ⟨f2,h⟩ | ⟨f2,h⟩
  ·obtain ⟨f3,f4,h⟩ := Qdd h
   rcases is h with ⟨f5,h⟩ | ⟨f5,h⟩
   ·obtain ⟨f6,f7,h⟩ := Qdd h
    refine rgs hc none [oN,oN,oN,oc (.bool f0),oN,oN,oN,oN,oc (.bool f3),oT,oN,oN,oN,oN,oc (.bool f6),oN,oT] [(1,I a1),(2,I b2),(3,I c3),(4,.ra 1 0),(95,.bool (!f6))] (cq (Kj7 _ _ f1) K6q (ar 4 f2 (cq (Kj7 _ _ f4) K6q (ai f2 (ar 4 f5 (cq (Kj7 _ _ f7) K6q (ar 2 f5 tv))))))) ?_
    obtain rfl := os h
    exact Qcz.mk
   refine rgs hc none [oN,oN,oN,oc (.bool f0),oN,oN,oN,oN,oc (.bool f3),oT,oN,o_,o_,o_,o_,o_,oF] [(1,I a1),(2,I b2),(3,I c3),(4,.ra 1 0),(95,.bool false)] (cq (Kj7 _ _ f1) K6q (ar 4 f2 (cq (Kj7 _ _ f4) K6q (ai f2 (ar 5 (neT f5) (ai f5 tv)))))) ?_
   obtain rfl := os h
   exact Qcz.mk
  refine rgs hc none [oN,oN,oN,oc (.bool f0),oN,o_,o_,o_,o_,oF,oN,o_,o_,o_,o_,o_,oF] [(1,I a1),(2,I b2),(3,I c3),(4,.ra 1 0),(95,.bool false)] (cq (Kj7 _ _ f1) K6q (ar 4 (neT f2) (ai f2 (ar 5 (neT (rfl : false = false)) (ai (rfl : false = false) tv))))) ?_
  obtain rfl := os h
  exact Qcz.mk
 clear e9
 refine ic h (fun f8 h => ?_) fun f8 h => ?_
 ·refine rs0 hc 1 [(8,.bool false)] [] ?_
  refine rt ?_
  obtain rfl := os h
  exact rq [true]
 refine sk ?_
 refine sN ?_
 obtain ⟨f9,g0,h⟩ := Qdd h
 refine Wp.into (x := .normal) (mkS [(8,.bool f9)] []) ?_ ?_
 ·replace h := g0
  obtain ⟨g1,g2,h⟩ := Qdd h
  rcases is h with ⟨g3,h⟩ | ⟨g3,h⟩
  ·obtain ⟨g4,g5,g6,g7,g8,g9,h⟩ := bq3 h
   rcases is h with ⟨i0,h⟩ | ⟨i0,h⟩
   ·obtain ⟨i1,i2,i3,i4,i5,i6,h⟩ := bq3 h
    rcases is h with ⟨i7,h⟩ | ⟨i7,h⟩
    ·obtain ⟨i8,i9,j0,j8,j9,k0,h⟩ := bq3 h
     refine rg hc Kje [oN,oN,oN,oc (.bool g1),oN,oN,oN,oN,oN,oN,oc (I g4),oN,oN,oN,oc (I g6),oc (.bool g8),oN,oN,oN,oN,oN,oc (I i1),oN,oN,oN,oc (I i3),oc (.bool i5),oT,oN,oN,oN,oN,oN,oc (I i8),oN,oN,oN,oc (I j0),oc (.bool j9),oT,oF,oN] [(8,.bool j9)] [] (cq (Kj7 _ _ g2) K6q (ar 5 (nF g3) (cq (Kj1 _ _ g5) K6n (ar 4 (nF g3) (cq (Kj1 _ _ g7) K6n (ai (nF g3) (cq (Kj7 _ _ g9) K6q (ai (nF g3) (ar 5 i0 (cq (Kj4 _ _ i2) K6p (ar 4 i0 (cq (Kj4 _ _ i4) K6p (ai i0 (cq (Kj7 _ _ i6) K6q (ac (nF g3) i0 (nF g3) (ar 5 i7 (cq (Kj4 _ _ i9) K6p (ar 4 i7 (cq (Kj4 _ _ j8) K6p (ai i7 (cq (Kj7 _ _ k0) K6q (ac (nF g3) i7 (nF g3) tv)))))))))))))))))))))) ?_
     obtain rfl := os h
     exact Qcz.mk
    refine rg hc Kje [oN,oN,oN,oc (.bool g1),oN,oN,oN,oN,oN,oN,oc (I g4),oN,oN,oN,oc (I g6),oc (.bool g8),oN,oN,oN,oN,oN,oc (I i1),oN,oN,oN,oc (I i3),oc (.bool i5),oT,oN,o_,o_,o_,o_,o_,o_,o_,o_,o_,o_,oF,oF,oN] [(8,.bool false)] [] (cq (Kj7 _ _ g2) K6q (ar 5 (nF g3) (cq (Kj1 _ _ g5) K6n (ar 4 (nF g3) (cq (Kj1 _ _ g7) K6n (ai (nF g3) (cq (Kj7 _ _ g9) K6q (ai (nF g3) (ar 5 i0 (cq (Kj4 _ _ i2) K6p (ar 4 i0 (cq (Kj4 _ _ i4) K6p (ai i0 (cq (Kj7 _ _ i6) K6q (ac (nF g3) i0 (nF g3) (ar 10 (neT i7) (ac (nF g3) i7 (nF g3) tv))))))))))))))))) ?_
    obtain rfl := os h
    exact Qcz.mk
   refine rg hc Kje [oN,oN,oN,oc (.bool g1),oN,oN,oN,oN,oN,oN,oc (I g4),oN,oN,oN,oc (I g6),oc (.bool g8),oN,o_,o_,o_,o_,o_,o_,o_,o_,o_,o_,oF,oN,o_,o_,o_,o_,o_,o_,o_,o_,o_,o_,oF,oF,oN] [(8,.bool false)] [] (cq (Kj7 _ _ g2) K6q (ar 5 (nF g3) (cq (Kj1 _ _ g5) K6n (ar 4 (nF g3) (cq (Kj1 _ _ g7) K6n (ai (nF g3) (cq (Kj7 _ _ g9) K6q (ai (nF g3) (ar 10 (neT i0) (ac (nF g3) i0 (nF g3) (ar 10 (neT (rfl : false = false)) (ac (nF g3) (rfl : false = false) (nF g3) tv)))))))))))) ?_
   obtain rfl := os h
   exact Qcz.mk
  refine rg hc Kje [oN,oN,oN,oc (.bool g1),oN,oN,o_,o_,o_,o_,o_,o_,o_,o_,o_,o_,o_,o_,o_,o_,o_,o_,o_,o_,o_,o_,o_,o_,o_,o_,o_,o_,o_,o_,o_,o_,o_,o_,o_,o_,oT,oN] [(8,.bool true)] [] (cq (Kj7 _ _ g2) K6q (ar 14 (neF (nT g3)) (ai (nT g3) tv))) ?_
  obtain rfl := os h
  exact Qcz.mk
 clear g0
 refine rt ?_
 obtain rfl := os h
 exact rq [true]
def Kjs (c : Ctx) (s0 : K00) : (Unit) ⊕ (Bool) → Exit → Q0a → Prop
 | .inl _ => Qcz c (.exit 0) (mkS [(1,.ra 1 0),(3,I s0.fSize)] [(1,K1v s0)])
 | .inr r => Qd8 TIx Tryz.f79 [] (.bool r)
def Kjt (p : K00 × Int) : Option ((Unit) ⊕ (Bool)) :=
 match p with
 | (s0,a0) =>
  if (decide (a0 < (s0.fPlus.length : Int))) = true then
  ((
  (idx s0.fPlus a0) >>= fun a1 =>
  (Kiw (s0,a1)) >>= fun a2 =>
  if a2 = true then
  (idx s0.fTimes a0) >>= fun a3 =>
  (Kiw (s0,a3)) >>= fun a4 =>
  some ((!a4))
  else
  some (true)
  ) : Option (Bool)) >>= fun a5 =>
  if a5 = true then
  some (.inr false)
  else
  Kjt (s0,(wr (a0 + 1)))
  else
  some (.inl ())
 partial_fixpoint
def Kju (p : K00 × Int) (fl : (Unit) ⊕ (Bool)) : Prop :=
 match p with
 | (s0,a0) => ∀ c : Ctx,c.nt = 157 → WpL Tryz.prog c (cl (cl (cr (cl (cr (cr (cr B79))))))) (Kjs c s0 fl) (mkS [(1,.ra 1 0),(3,I s0.fSize),(42,I (s0.fPlus.length : Int)),(43,I a0)] [(1,K1v s0)])
theorem Kjv : ∀ p r,Kjt p = some r → Kju p r := by
 refine Kjt.partial_correctness Kju ?_
 rintro impl_IsSystem_l0_f impl_IsSystem_l0_ih ⟨s0,a0⟩ r h
 intro c hc
 refine WpL.step ?_
 refine K9m hc 1 [(1,.ra 1 0),(3,I s0.fSize),(42,I (s0.fPlus.length : Int)),(43,I a0),(44,.bool (decide (a0 < (s0.fPlus.length : Int))))] ?_
 refine sN ?_
 refine ic h (fun a1 h => ?_) fun a1 h => ?_
 ·refine sk ?_
  refine sN ?_
  refine bk 1 ?_
  refine K9m hc 2 [(1,.ra 1 0),(3,I s0.fSize),(4,I a0),(42,I (s0.fPlus.length : Int)),(43,I a0)] ?_
  refine sN ?_
  obtain ⟨a2,a3,h⟩ := Qdd h
  refine Wp.into (x := .normal) (mkS [(1,.ra 1 0),(3,I s0.fSize),(42,I (s0.fPlus.length : Int)),(43,I a0),(63,.bool a2)] [(1,K1v s0)]) ?_ ?_
  ·replace h := a3
   obtain ⟨a4,a5,a6,a7,h⟩ := bq2 h
   rcases is h with ⟨a8,h⟩ | ⟨a8,h⟩
   ·obtain ⟨a9,b1,b2,b3,h⟩ := bq2 h
    refine rgs hc Kjf [oN,oN,oN,oN,some (.el (I a4)),oN,oc (.bool a6),oN,oN,oN,oN,oN,oN,some (.el (I a9)),oN,oc (.bool b2),oN,oF] [(1,.ra 1 0),(3,I s0.fSize),(42,I (s0.fPlus.length : Int)),(43,I a0),(63,.bool (!b2))] (ai (ix a5) (cq (Kiy _ _ a7) K6l (ar 5 (nF a8) (ai (ix b1) (ar 2 (nF a8) (cq (Kiy _ _ b3) K6l (ar 2 (nF a8) tv))))))) ?_
    obtain rfl := os h
    exact Qcz.mk
   refine rgs hc Kjf [oN,oN,oN,oN,some (.el (I a4)),oN,oc (.bool a6),oN,oN,o_,o_,o_,o_,o_,o_,o_,o_,oT] [(1,.ra 1 0),(3,I s0.fSize),(42,I (s0.fPlus.length : Int)),(43,I a0),(63,.bool true)] (ai (ix a5) (cq (Kiy _ _ a7) K6l (ar 8 (neF (nT a8)) (ai (nT a8) tv)))) ?_
   obtain rfl := os h
   exact Qcz.mk
  clear a3
  refine ic h (fun b4 h => ?_) fun b4 h => ?_
  ·refine rs0 hc 1 [(2,.bool false)] [] ?_
   refine rt ?_
   obtain rfl := os h
   exact re [true]
  refine sk ?_
  refine K9l hc 2 [(1,.ra 1 0),(3,I s0.fSize),(42,I (s0.fPlus.length : Int)),(43,I (wr (a0 + 1)))] ?_
  refine Qcv ?_
  exact (impl_IsSystem_l0_ih _ _ h c hc)
 refine xt 0 ?_
 refine Qcp ?_
 refine Qcw ?_
 obtain rfl := os h
 exact iv []
def Kjw (c : Ctx) (s0 : K00) (a0 : Int) (a1 : Int) : (Unit) ⊕ (Bool) → Exit → Q0a → Prop
 | .inl _ => Qcz c (.exit 6) (mkS [(1,.ra 1 0),(3,I s0.fSize),(5,I a0),(6,I a1)] [(1,K1v s0)])
 | .inr r => Qd8 TIx Tryz.f79 [] (.bool r)
def Kjx (p : K00 × Int × Int × Int) : Option ((Unit) ⊕ (Bool)) :=
 match p with
 | (s0,a0,a1,a2) =>
  if (decide (a2 < s0.fSize)) = true then
  (Kjp (s0,a0,a1,a2)) >>= fun a3 =>
  if a3 = true then
  Kjx (s0,a0,a1,(wr (a2 + 1)))
  else
  some (.inr false)
  else
  some (.inl ())
 partial_fixpoint
def Kjy (p : K00 × Int × Int × Int) (fl : (Unit) ⊕ (Bool)) : Prop :=
 match p with
 | (s0,a0,a1,a2) => ∀ c : Ctx,c.nt = 157 → WpL Tryz.prog c (cl (cl (cr (cr (cl (cl (cr (cl (cl (cr (cr (cl (cl (cr (cl (cl (cr (cl (cr (cr (cr (cr B79)))))))))))))))))))))) (Kjw c s0 a0 a1 fl) (mkS [(1,.ra 1 0),(3,I s0.fSize),(5,I a0),(6,I a1),(7,I a2)] [(1,K1v s0)])
theorem Kjz : ∀ p r,Kjx p = some r → Kjy p r := by
 refine Kjx.partial_correctness Kjy ?_
 rintro impl_IsSystem_l1_f impl_IsSystem_l1_ih ⟨s0,a0,a1,a2⟩ r h
 intro c hc
 refine WpL.step ?_
 refine sN ?_
 refine K9m hc 3 [(1,.ra 1 0),(3,I s0.fSize),(5,I a0),(6,I a1),(7,I a2),(148,.bool (decide (a2 < s0.fSize)))] ?_
 refine ic h (fun a3 h => ?_) fun a3 h => ?_
 ·refine sk ?_
  refine sN ?_
  refine bk 7 ?_
  obtain ⟨a4,a5,h⟩ := Qdd h
  refine rss hc none [oN,oN,oN,oN,oc (.bool a4),oN] [(1,.ra 1 0),(3,I s0.fSize),(5,I a0),(6,I a1),(7,I a2),(156,.bool (!a4))] (cq (Kjr _ _ a5) K6u tv) ?_
  rcases is h with ⟨a6,h⟩ | ⟨a6,h⟩
  ·refine cF (!a4) (nF a6) ?_
   refine sk ?_
   refine K9l hc 3 [(1,.ra 1 0),(3,I s0.fSize),(5,I a0),(6,I a1),(7,I (wr (a2 + 1)))] ?_
   refine Qcv ?_
   exact (impl_IsSystem_l1_ih _ _ h c hc)
  refine cT (!a4) (nT a6) ?_
  refine rs0 hc 1 [(2,.bool false)] [] ?_
  refine rt ?_
  obtain rfl := os h
  exact re [true]
 refine xt 6 ?_
 refine Qcp ?_
 refine Qcw ?_
 obtain rfl := os h
 exact iv []
def Kk0 (c : Ctx) (s0 : K00) (a0 : Int) : (Unit) ⊕ (Bool) → Exit → Q0a → Prop
 | .inl _ => Qcz c (.exit 4) (mkS [(1,.ra 1 0),(3,I s0.fSize),(5,I a0)] [(1,K1v s0)])
 | .inr r => Qd8 TIx Tryz.f79 [] (.bool r)
def Kk1 (p : K00 × Int × Int) : Option ((Unit) ⊕ (Bool)) :=
 match p with
 | (s0,a0,a1) =>
  if (decide (a1 < s0.fSize)) = true then
  ((
  (Kiz (s0,a0,a1)) >>= fun a2 =>
  (Kiz (s0,a1,a0)) >>= fun a3 =>
  if (a2 != a3) = true then
   some (true)
  else
   if (a0 != a1) = true then
   (Kj5 (s0,a0,a1)) >>= fun a4 =>
   if a4 = true then
   (Kj5 (s0,a1,a0)) >>= fun a5 =>
   if a5 = true then
   some (true)
   else
   (Kjm (s0,a0,a1)) >>= fun a6 =>
   some ((decide (a6 < 0)))
   else
   (Kjm (s0,a0,a1)) >>= fun a6 =>
   some ((decide (a6 < 0)))
   else
   (Kjm (s0,a0,a1)) >>= fun a6 =>
   some ((decide (a6 < 0)))
  ) : Option (Bool)) >>= fun a7 =>
  if a7 = true then
  some (.inr false)
  else
  (Kjx (s0,a0,a1,0)) >>= fun fl => match fl with
  | .inl () =>
   Kk1 (s0,a0,(wr (a1 + 1)))
  | .inr r =>
   some (.inr r)
  else
  some (.inl ())
 partial_fixpoint
def Kk2 (p : K00 × Int × Int) (fl : (Unit) ⊕ (Bool)) : Prop :=
 match p with
 | (s0,a0,a1) => ∀ c : Ctx,c.nt = 157 → WpL Tryz.prog c (cl (cl (cr (cr (cl (cl (cr (cl (cl (cr (cl (cr (cr (cr (cr B79))))))))))))))) (Kk0 c s0 a0 fl) (mkS [(1,.ra 1 0),(3,I s0.fSize),(5,I a0),(6,I a1)] [(1,K1v s0)])
theorem Kk3 : ∀ p r,Kk1 p = some r → Kk2 p r := by
 refine Kk1.partial_correctness Kk2 ?_
 rintro impl_IsSystem_l2_f impl_IsSystem_l2_ih ⟨s0,a0,a1⟩ r h
 intro c hc
 refine WpL.step ?_
 refine sN ?_
 refine K9m hc 3 [(1,.ra 1 0),(3,I s0.fSize),(5,I a0),(6,I a1),(110,.bool (decide (a1 < s0.fSize)))] ?_
 refine ic h (fun a2 h => ?_) fun a2 h => ?_
 ·refine sk ?_
  refine sN ?_
  refine bk 5 ?_
  refine sN ?_
  refine sN ?_
  obtain ⟨a3,a4,h⟩ := Qdd h
  refine Wp.into (x := .normal) (mkS [(1,.ra 1 0),(3,I s0.fSize),(5,I a0),(6,I a1),(145,.bool a3)] [(1,K1v s0)]) ?_ ?_
  ·replace h := a4
   obtain ⟨a5,a6,a7,a8,h⟩ := bq2 h
   rcases is h with ⟨a9,h⟩ | ⟨a9,h⟩
   ·refine rgs hc Kjg [oN,oN,oN,oc (I a5),oN,oN,oN,oc (I a7),oN,oN,o_,o_,o_,o_,o_,o_,o_,o_,o_,o_,o_,o_,o_,o_,o_,oT,oN,o_,o_,o_,o_,o_,oT] [(1,.ra 1 0),(3,I s0.fSize),(5,I a0),(6,I a1),(145,.bool true)] (cq (Kj1 _ _ a6) K6n (cq (Kj1 _ _ a8) K6n (ar 7 (neF a9) (ai a9 (ar 5 nf (ai tt tv)))))) ?_
    obtain rfl := os h
    exact Qcz.mk
   rcases is h with ⟨b1,h⟩ | ⟨b1,h⟩
   ·obtain ⟨b2,b3,h⟩ := Qdd h
    rcases is h with ⟨b4,h⟩ | ⟨b4,h⟩
    ·obtain ⟨b5,b6,h⟩ := Qdd h
     rcases is h with ⟨b7,h⟩ | ⟨b7,h⟩
     ·refine rgs hc Kjg [oN,oN,oN,oc (I a5),oN,oN,oN,oc (I a7),oN,oN,oN,oN,oN,oN,oN,oN,oN,oc (.bool b2),oT,oN,oN,oN,oN,oc (.bool b5),oT,oF,oN,o_,o_,o_,o_,o_,oT] [(1,.ra 1 0),(3,I s0.fSize),(5,I a0),(6,I a1),(145,.bool true)] (cq (Kj1 _ _ a6) K6n (cq (Kj1 _ _ a8) K6n (ar 4 a9 (ar 4 b1 (cq (Kj7 _ _ b3) K6q (ac a9 b1 a9 (ar 4 b4 (cq (Kj7 _ _ b6) K6q (ac a9 b4 a9 (ar 5 (neF b7) (ai b7 tv))))))))))) ?_
      obtain rfl := os h
      exact Qcz.mk
     obtain ⟨b8,b9,h⟩ := Qdd h
     refine rgs hc Kjg [oN,oN,oN,oc (I a5),oN,oN,oN,oc (I a7),oN,oN,oN,oN,oN,oN,oN,oN,oN,oc (.bool b2),oT,oN,oN,oN,oN,oc (.bool b5),oT,oF,oN,oN,oN,oN,oc (I b8),oN,oF] [(1,.ra 1 0),(3,I s0.fSize),(5,I a0),(6,I a1),(145,.bool (decide (b8 < 0)))] (cq (Kj1 _ _ a6) K6n (cq (Kj1 _ _ a8) K6n (ar 4 a9 (ar 4 b1 (cq (Kj7 _ _ b3) K6q (ac a9 b1 a9 (ar 4 b4 (cq (Kj7 _ _ b6) K6q (ac a9 b4 a9 (ar 4 b7 (cq (Kjo _ _ b9) K6s (ar 2 b7 tv)))))))))))) ?_
     obtain rfl := os h
     exact Qcz.mk
    obtain ⟨b8,b9,h⟩ := Qdd h
    refine rgs hc Kjg [oN,oN,oN,oc (I a5),oN,oN,oN,oc (I a7),oN,oN,oN,oN,oN,oN,oN,oN,oN,oc (.bool b2),oT,oN,o_,o_,o_,o_,oF,oF,oN,oN,oN,oN,oc (I b8),oN,oF] [(1,.ra 1 0),(3,I s0.fSize),(5,I a0),(6,I a1),(145,.bool (decide (b8 < 0)))] (cq (Kj1 _ _ a6) K6n (cq (Kj1 _ _ a8) K6n (ar 4 a9 (ar 4 b1 (cq (Kj7 _ _ b3) K6q (ac a9 b1 a9 (ar 4 (neT b4) (ac a9 b4 a9 (ar 4 (rfl : false = false) (cq (Kjo _ _ b9) K6s (ar 2 (rfl : false = false) tv))))))))))) ?_
    obtain rfl := os h
    exact Qcz.mk
   obtain ⟨b8,b9,h⟩ := Qdd h
   refine rgs hc Kjg [oN,oN,oN,oc (I a5),oN,oN,oN,oc (I a7),oN,oN,oN,oN,oN,oN,o_,o_,o_,o_,oF,oN,o_,o_,o_,o_,oF,oF,oN,oN,oN,oN,oc (I b8),oN,oF] [(1,.ra 1 0),(3,I s0.fSize),(5,I a0),(6,I a1),(145,.bool (decide (b8 < 0)))] (cq (Kj1 _ _ a6) K6n (cq (Kj1 _ _ a8) K6n (ar 4 a9 (ar 4 (neT b1) (ac a9 b1 a9 (ar 4 (neT (rfl : false = false)) (ac a9 (rfl : false = false) a9 (ar 4 (rfl : false = false) (cq (Kjo _ _ b9) K6s (ar 2 (rfl : false = false) tv)))))))))) ?_
   obtain rfl := os h
   exact Qcz.mk
  clear a4
  refine ic h (fun c0 h => ?_) fun c0 h => ?_
  ·refine rs0 hc 1 [(2,.bool false)] [] ?_
   refine rt ?_
   obtain rfl := os h
   exact re [true]
  refine sk ?_
  refine K9m hc 1 [(1,.ra 1 0),(3,I s0.fSize),(5,I a0),(6,I a1),(7,I 0)] ?_
  refine bk 6 ?_
  obtain ⟨fl,c1,h⟩ := Qdd h
  have hL := Kjz _ _ c1 c hc
  refine lp ?_
  rcases fl with ⟨⟩ | r
  ·refine WpL.into (e := (.exit 6)) (mkS [(1,.ra 1 0),(3,I s0.fSize),(5,I a0),(6,I a1)] [(1,K1v s0)]) hL ?_
   refine Qcr ?_
   refine K9l hc 3 [(1,.ra 1 0),(3,I s0.fSize),(5,I a0),(6,I (wr (a1 + 1)))] ?_
   refine Qcv ?_
   exact (impl_IsSystem_l2_ih _ _ h c hc)
  refine WpL.mono hL ?_
  rintro _ _ ⟨rfl,hfin⟩
  obtain rfl := os h
  exact ⟨rfl,hfin⟩
 refine xt 4 ?_
 refine Qcp ?_
 refine Qcw ?_
 obtain rfl := os h
 exact iv []
def Kk4 (c : Ctx) : (Unit) ⊕ (Bool) → Exit → Q0a → Prop
 | .inl _ => Qcz c (.exit 2) (mkS [] [])
 | .inr r => Qd8 TIx Tryz.f79 [] (.bool r)
def Kk5 (p : K00 × Int) : Option ((Unit) ⊕ (Bool)) :=
 match p with
 | (s0,a0) =>
  if (decide (a0 < s0.fSize)) = true then
  ((
  (Kiz (s0,0,a0)) >>= fun a1 =>
  if (a1 != a0) = true then
   some (true)
  else
   (Kj2 (s0,1,a0)) >>= fun a2 =>
   if (a2 != a0) = true then
   some (true)
   else
   (Kj2 (s0,a0,1)) >>= fun a3 =>
   if (a3 != a0) = true then
   some (true)
   else
   (Kj2 (s0,0,a0)) >>= fun a4 =>
   if (a4 != 0) = true then
   some (true)
   else
   (Kj2 (s0,a0,0)) >>= fun a5 =>
   if (a5 != 0) = true then
   some (true)
   else
   (Kj5 (s0,a0,a0)) >>= fun a6 =>
   some ((!a6))
  ) : Option (Bool)) >>= fun a7 =>
  if a7 = true then
  some (.inr false)
  else
  (Kk1 (s0,a0,0)) >>= fun fl => match fl with
  | .inl () =>
   Kk5 (s0,(wr (a0 + 1)))
  | .inr r =>
   some (.inr r)
  else
  some (.inl ())
 partial_fixpoint
def Kk6 (p : K00 × Int) (fl : (Unit) ⊕ (Bool)) : Prop :=
 match p with
 | (s0,a0) => ∀ c : Ctx,c.nt = 157 → WpL Tryz.prog c (cl (cl (cr (cl (cr (cr (cr (cr B79)))))))) (Kk4 c fl) (mkS [(1,.ra 1 0),(3,I s0.fSize),(5,I a0)] [(1,K1v s0)])
theorem Kk7 : ∀ p r,Kk5 p = some r → Kk6 p r := by
 refine Kk5.partial_correctness Kk6 ?_
 rintro impl_IsSystem_l3_f impl_IsSystem_l3_ih ⟨s0,a0⟩ r h
 intro c hc
 refine WpL.step ?_
 refine sN ?_
 refine K9m hc 3 [(1,.ra 1 0),(3,I s0.fSize),(5,I a0),(67,.bool (decide (a0 < s0.fSize)))] ?_
 refine ic h (fun a1 h => ?_) fun a1 h => ?_
 ·refine sk ?_
  refine sN ?_
  refine bk 3 ?_
  refine sN ?_
  refine sN ?_
  obtain ⟨a2,a3,h⟩ := Qdd h
  refine Wp.into (x := .normal) (mkS [(1,.ra 1 0),(3,I s0.fSize),(5,I a0),(107,.bool a2)] [(1,K1v s0)]) ?_ ?_
  ·replace h := a3
   obtain ⟨a4,a5,h⟩ := Qdd h
   rcases is h with ⟨a6,h⟩ | ⟨a6,h⟩
   ·refine rgs hc none [oN,oN,oc (I a4),oN,oN,oN,o_,o_,o_,o_,o_,oT,oN,o_,o_,o_,o_,o_,oT,oN,o_,o_,o_,o_,oT,oN,o_,o_,o_,o_,oT,oN,o_,o_,o_,o_,o_,oT] [(1,.ra 1 0),(3,I s0.fSize),(5,I a0),(107,.bool true)] (cq (Kj1 _ _ a5) K6n (ar 5 (neF a6) (ai a6 (ar 5 nf (ai tt (ar 4 nf (ai tt (ar 4 nf (ai tt (ar 5 nf (ai tt tv))))))))))) ?_
    obtain rfl := os h
    exact Qcz.mk
   obtain ⟨a7,a8,h⟩ := Qdd h
   rcases is h with ⟨a9,h⟩ | ⟨a9,h⟩
   ·refine rgs hc none [oN,oN,oc (I a4),oN,oN,oN,oN,oN,oc (I a7),oN,oN,oF,oN,o_,o_,o_,o_,o_,oT,oN,o_,o_,o_,o_,oT,oN,o_,o_,o_,o_,oT,oN,o_,o_,o_,o_,o_,oT] [(1,.ra 1 0),(3,I s0.fSize),(5,I a0),(107,.bool true)] (cq (Kj1 _ _ a5) K6n (ar 3 a6 (cq (Kj4 _ _ a8) K6p (ar 3 a6 (ar 5 (neF a9) (ai a9 (ar 4 nf (ai tt (ar 4 nf (ai tt (ar 5 nf (ai tt tv)))))))))))) ?_
    obtain rfl := os h
    exact Qcz.mk
   obtain ⟨b1,b2,h⟩ := Qdd h
   rcases is h with ⟨b3,h⟩ | ⟨b3,h⟩
   ·refine rgs hc none [oN,oN,oc (I a4),oN,oN,oN,oN,oN,oc (I a7),oN,oN,oF,oN,oN,oN,oc (I b1),oN,oN,oF,oN,o_,o_,o_,o_,oT,oN,o_,o_,o_,o_,oT,oN,o_,o_,o_,o_,o_,oT] [(1,.ra 1 0),(3,I s0.fSize),(5,I a0),(107,.bool true)] (cq (Kj1 _ _ a5) K6n (ar 3 a6 (cq (Kj4 _ _ a8) K6p (ar 3 a6 (ar 3 a9 (cq (Kj4 _ _ b2) K6p (ar 3 a9 (ar 4 (neF b3) (ai b3 (ar 4 nf (ai tt (ar 5 nf (ai tt tv))))))))))))) ?_
    obtain rfl := os h
    exact Qcz.mk
   obtain ⟨b4,b5,h⟩ := Qdd h
   rcases is h with ⟨b6,h⟩ | ⟨b6,h⟩
   ·refine rgs hc none [oN,oN,oc (I a4),oN,oN,oN,oN,oN,oc (I a7),oN,oN,oF,oN,oN,oN,oc (I b1),oN,oN,oF,oN,oN,oN,oc (I b4),oN,oF,oN,o_,o_,o_,o_,oT,oN,o_,o_,o_,o_,o_,oT] [(1,.ra 1 0),(3,I s0.fSize),(5,I a0),(107,.bool true)] (cq (Kj1 _ _ a5) K6n (ar 3 a6 (cq (Kj4 _ _ a8) K6p (ar 3 a6 (ar 3 a9 (cq (Kj4 _ _ b2) K6p (ar 3 a9 (ar 3 b3 (cq (Kj4 _ _ b5) K6p (ar 2 b3 (ar 4 (neF b6) (ai b6 (ar 5 nf (ai tt tv)))))))))))))) ?_
    obtain rfl := os h
    exact Qcz.mk
   obtain ⟨b7,b8,h⟩ := Qdd h
   rcases is h with ⟨b9,h⟩ | ⟨b9,h⟩
   ·refine rgs hc none [oN,oN,oc (I a4),oN,oN,oN,oN,oN,oc (I a7),oN,oN,oF,oN,oN,oN,oc (I b1),oN,oN,oF,oN,oN,oN,oc (I b4),oN,oF,oN,oN,oN,oc (I b7),oN,oF,oN,o_,o_,o_,o_,o_,oT] [(1,.ra 1 0),(3,I s0.fSize),(5,I a0),(107,.bool true)] (cq (Kj1 _ _ a5) K6n (ar 3 a6 (cq (Kj4 _ _ a8) K6p (ar 3 a6 (ar 3 a9 (cq (Kj4 _ _ b2) K6p (ar 3 a9 (ar 3 b3 (cq (Kj4 _ _ b5) K6p (ar 2 b3 (ar 3 b6 (cq (Kj4 _ _ b8) K6p (ar 2 b6 (ar 5 (neF b9) (ai b9 tv))))))))))))))) ?_
    obtain rfl := os h
    exact Qcz.mk
   obtain ⟨c0,c1,h⟩ := Qdd h
   refine rgs hc none [oN,oN,oc (I a4),oN,oN,oN,oN,oN,oc (I a7),oN,oN,oF,oN,oN,oN,oc (I b1),oN,oN,oF,oN,oN,oN,oc (I b4),oN,oF,oN,oN,oN,oc (I b7),oN,oF,oN,oN,oN,oN,oc (.bool c0),oN,oF] [(1,.ra 1 0),(3,I s0.fSize),(5,I a0),(107,.bool (!c0))] (cq (Kj1 _ _ a5) K6n (ar 3 a6 (cq (Kj4 _ _ a8) K6p (ar 3 a6 (ar 3 a9 (cq (Kj4 _ _ b2) K6p (ar 3 a9 (ar 3 b3 (cq (Kj4 _ _ b5) K6p (ar 2 b3 (ar 3 b6 (cq (Kj4 _ _ b8) K6p (ar 2 b6 (ar 4 b9 (cq (Kj7 _ _ c1) K6q (ar 2 b9 tv)))))))))))))))) ?_
   obtain rfl := os h
   exact Qcz.mk
  clear a3
  refine ic h (fun c2 h => ?_) fun c2 h => ?_
  ·refine rs0 hc 1 [(2,.bool false)] [] ?_
   refine rt ?_
   obtain rfl := os h
   exact re [true]
  refine sk ?_
  refine K9m hc 1 [(1,.ra 1 0),(3,I s0.fSize),(5,I a0),(6,I 0)] ?_
  refine bk 4 ?_
  obtain ⟨fl,c3,h⟩ := Qdd h
  have hL := Kk3 _ _ c3 c hc
  refine lp ?_
  rcases fl with ⟨⟩ | r
  ·refine WpL.into (e := (.exit 4)) (mkS [(1,.ra 1 0),(3,I s0.fSize),(5,I a0)] [(1,K1v s0)]) hL ?_
   refine Qcr ?_
   refine K9l hc 3 [(1,.ra 1 0),(3,I s0.fSize),(5,I (wr (a0 + 1)))] ?_
   refine Qcv ?_
   exact (impl_IsSystem_l3_ih _ _ h c hc)
  refine WpL.mono hL ?_
  rintro _ _ ⟨rfl,hfin⟩
  obtain rfl := os h
  exact ⟨rfl,hfin⟩
 refine xt 2 ?_
 refine Qcp ?_
 refine Qcw ?_
 obtain rfl := os h
 exact iv []
def Kk8 (s0 : K00) : Option (Bool) :=
 ((
 (Kit (s0.fSize,2,16)) >>= fun a0 =>
 if a0 = true then
  if ((s0.fPlus.length : Int) != (wr (s0.fSize * s0.fSize))) = true then
   some (true)
  else
   if ((s0.fTimes.length : Int) != (wr (s0.fSize * s0.fSize))) = true then
   some (true)
   else
   some (((s0.fBelow.length : Int) != (wr (s0.fSize * s0.fSize))))
 else
  some (true)
 ) : Option (Bool)) >>= fun a1 =>
 if a1 = true then
 some false
 else
 (Kjt (s0,0)) >>= fun fl => match fl with
 | .inl () =>
  (Kk5 (s0,0)) >>= fun fl => match fl with
  | .inl () =>
   some true
  | .inr r =>
   some r
 | .inr r =>
  some r
def Kk9 (s0 : K00) (r : Bool) : Prop :=
 Q71 Tryz.prog 79 [K1w s0] (.bool r) []
theorem Kka : ∀ p r,Kk8 p = some r → Kk9 p r := by
 rintro s0 r h
 unfold Kk8 at h
 refine b0 Tryz.f79 B79 157 [(0,K1w s0)] fun c hc => ?_
 refine rs hc none [some (.new 1),oN] [(1,.ra 1 0)] [(1,K1v s0)] tv ?_
 refine K9m hc 3 [(1,.ra 1 0),(3,I s0.fSize)] ?_
 refine sN ?_
 refine sN ?_
 obtain ⟨a0,a1,h⟩ := Qdd h
 refine Wp.into (x := .normal) (mkS [(1,.ra 1 0),(3,I s0.fSize),(39,.bool a0)] [(1,K1v s0)]) ?_ ?_
 ·replace h := a1
  obtain ⟨a2,a3,h⟩ := Qdd h
  rcases is h with ⟨a4,h⟩ | ⟨a4,h⟩
  ·rcases is h with ⟨a5,h⟩ | ⟨a5,h⟩
   ·refine rgs hc none [oN,oc (.bool a2),oN,oN,oN,oN,some (.eqv (.no) ⟨[(16,I (s0.fPlus.length : Int))],[],[]⟩),oN,oN,oN,oN,oF,oN,o_,o_,o_,o_,o_,o_,o_,oT,oN,o_,o_,o_,o_,o_,o_,o_,oT] [(1,.ra 1 0),(3,I s0.fSize),(39,.bool true)] (cq (Kiv _ _ a3) K6j (ar 3 (nF a4) (ai (Qdj (d := 16) I s0.fPlus) (ar 5 (nF a4) (ar 7 (neF a5) (ai a5 (ar 7 nf (ai tt tv)))))))) ?_
    obtain rfl := os h
    exact Qcz.mk
   rcases is h with ⟨a6,h⟩ | ⟨a6,h⟩
   ·refine rgs hc none [oN,oc (.bool a2),oN,oN,oN,oN,some (.eqv (.no) ⟨[(16,I (s0.fPlus.length : Int))],[],[]⟩),oN,oN,oN,oN,oF,oN,oN,oN,some (.eqv (.no) ⟨[(25,I (s0.fTimes.length : Int))],[],[]⟩),oN,oN,oN,oN,oF,oN,o_,o_,o_,o_,o_,o_,o_,oT] [(1,.ra 1 0),(3,I s0.fSize),(39,.bool true)] (cq (Kiv _ _ a3) K6j (ar 3 (nF a4) (ai (Qdj (d := 16) I s0.fPlus) (ar 5 (nF a4) (ar 3 a5 (ai (Qdj (d := 25) I s0.fTimes) (ar 5 a5 (ar 7 (neF a6) (ai a6 tv))))))))) ?_
    obtain rfl := os h
    exact Qcz.mk
   refine rgs hc none [oN,oc (.bool a2),oN,oN,oN,oN,some (.eqv (.no) ⟨[(16,I (s0.fPlus.length : Int))],[],[]⟩),oN,oN,oN,oN,oF,oN,oN,oN,some (.eqv (.no) ⟨[(25,I (s0.fTimes.length : Int))],[],[]⟩),oN,oN,oN,oN,oF,oN,oN,oN,some (.eqv (.no) ⟨[(34,I (s0.fBelow.length : Int))],[],[]⟩),oN,oN,oN,oN,oF] [(1,.ra 1 0),(3,I s0.fSize),(39,.bool ((s0.fBelow.length : Int) != (wr (s0.fSize * s0.fSize))))] (cq (Kiv _ _ a3) K6j (ar 3 (nF a4) (ai (Qdj (d := 16) I s0.fPlus) (ar 5 (nF a4) (ar 3 a5 (ai (Qdj (d := 25) I s0.fTimes) (ar 5 a5 (ar 3 a6 (ai (Qdj (d := 34) AV.bool s0.fBelow) (ar 5 a6 tv)))))))))) ?_
   obtain rfl := os h
   exact Qcz.mk
  refine rgs hc none [oN,oc (.bool a2),oN,oN,o_,o_,o_,o_,o_,o_,o_,oT,oN,o_,o_,o_,o_,o_,o_,o_,oT,oN,o_,o_,o_,o_,o_,o_,o_,oT] [(1,.ra 1 0),(3,I s0.fSize),(39,.bool true)] (cq (Kiv _ _ a3) K6j (ar 7 (neF (nT a4)) (ai (nT a4) (ar 7 nf (ai tt (ar 7 nf (ai tt tv))))))) ?_
  obtain rfl := os h
  exact Qcz.mk
 clear a1
 refine ic h (fun a7 h => ?_) fun a7 h => ?_
 ·refine rs0 hc 1 [(2,.bool false)] [] ?_
  refine rt ?_
  obtain rfl := os h
  exact rq [true]
 refine sk ?_
 refine sN ?_
 refine rss hc none [oN,oN,some (.eqv (.no) ⟨[(42,I (s0.fPlus.length : Int))],[],[]⟩),oN] [(1,.ra 1 0),(3,I s0.fSize),(42,I (s0.fPlus.length : Int)),(43,I 0)] (ai (Qdj (d := 42) I s0.fPlus) tv) ?_
 refine bk 0 ?_
 obtain ⟨fl,a8,h⟩ := Qdd h
 have hL := Kjv _ _ a8 c hc
 refine lp ?_
 rcases fl with ⟨⟩ | r
 ·refine WpL.into (e := (.exit 0)) (mkS [(1,.ra 1 0),(3,I s0.fSize)] [(1,K1v s0)]) hL ?_
  refine Qcr ?_
  refine sN ?_
  refine K9m hc 1 [(1,.ra 1 0),(3,I s0.fSize),(5,I 0)] ?_
  refine bk 2 ?_
  obtain ⟨fl,a9,h⟩ := Qdd h
  have hL := Kk7 _ _ a9 c hc
  refine lp ?_
  rcases fl with ⟨⟩ | r
  ·refine WpL.into (e := (.exit 2)) (mkS [] []) hL ?_
   refine Qcr ?_
   refine rs0 hc 1 [(2,.bool true)] [] ?_
   refine rt ?_
   obtain rfl := os h
   exact rq [true]
  refine WpL.mono hL ?_
  rintro _ _ ⟨rfl,hfin⟩
  obtain rfl := os h
  exact ⟨.inl rfl,hfin⟩
 refine WpL.mono hL ?_
 rintro _ _ ⟨rfl,hfin⟩
 obtain rfl := os h
 exact ⟨.inl rfl,hfin⟩
def Kkb (code0 : Int) : Option (Int × Int) :=
 (Kit (code0,0,2)) >>= fun a0 =>
 if a0 = true then
 some (code0,(-1))
 else
 (Kit (code0,3,18)) >>= fun a1 =>
 if a1 = true then
 some (3,(wr (code0 - 3)))
 else
 (Kit (code0,19,34)) >>= fun a2 =>
 if a2 = true then
 some (4,(wr (code0 - 19)))
 else
 if (code0 == 35) = true then
 some (3,(-1))
 else
 if (code0 == 36) = true then
 some (4,(-1))
 else
 some (5,(-1))
def Kkc (code0 : Int) (r : Int × Int) : Prop :=
 Q71 Tryz.prog 157 [I code0] (.tup [I r.1,I r.2]) []
theorem Kkd : ∀ p r,Kkb p = some r → Kkc p r := by
 rintro code0 r h
 unfold Kkb at h
 refine b0 Tryz.f157 K6w 24 [(0,I code0)] fun c hc => ?_
 refine rs0 hc 2 [(0,I code0)] [] ?_
 refine sN ?_
 refine bk 0 ?_
 obtain ⟨a0,a1,h⟩ := Qdd h
 refine rs hc none [oN,oc (.bool a0),oN] [(0,I code0),(4,.bool a0)] [] (cq (Kiv _ _ a1) K6j tv) ?_
 refine ic h (fun a2 h => ?_) fun a2 h => ?_
 ·refine rs0 hc 3 [(2,I code0),(3,I (-1))] [] ?_
  refine rt ?_
  obtain rfl := os h
  exact rq [true,true]
 obtain ⟨a3,a4,h⟩ := Qdd h
 refine rs hc none [oN,oc (.bool a3),oN] [(0,I code0),(8,.bool a3)] [] (cq (Kiv _ _ a4) K6j tv) ?_
 refine ic h (fun a5 h => ?_) fun a5 h => ?_
 ·refine rs0 hc 4 [(2,I 3),(3,I (wr (code0 - 3)))] [] ?_
  refine rt ?_
  obtain rfl := os h
  exact rq [true,true]
 obtain ⟨a6,a7,h⟩ := Qdd h
 refine rs hc none [oN,oc (.bool a6),oN] [(0,I code0),(13,.bool a6)] [] (cq (Kiv _ _ a7) K6j tv) ?_
 refine ic h (fun a8 h => ?_) fun a8 h => ?_
 ·refine rs0 hc 4 [(2,I 4),(3,I (wr (code0 - 19)))] [] ?_
  refine rt ?_
  obtain rfl := os h
  exact rq [true,true]
 refine rs0 hc 3 [(0,I code0),(18,.bool (code0 == 35))] [] ?_
 refine ic h (fun a9 h => ?_) fun a9 h => ?_
 ·refine rs0 hc 2 [(2,I 3),(3,I (-1))] [] ?_
  refine rt ?_
  obtain rfl := os h
  exact rq [true,true]
 refine rs0 hc 3 [(21,.bool (code0 == 36))] [] ?_
 refine ic h (fun b1 h => ?_) fun b1 h => ?_
 ·refine rs0 hc 2 [(2,I 4),(3,I (-1))] [] ?_
  refine rt ?_
  obtain rfl := os h
  exact rq [true,true]
 refine sk ?_
 refine rs0 hc 2 [(2,I 5),(3,I (-1))] [] ?_
 refine rt ?_
 obtain rfl := os h
 exact rq [true,true]
def Kke (p : (List Int) × Int) : Option (Int) :=
 match p with
 | (ty0,at1) =>
  ((
  if (decide (at1 < 0)) = true then
  some (true)
  else
  some ((decide (at1 ≥ (ty0.length : Int))))
  ) : Option (Bool)) >>= fun a0 =>
  if a0 = true then
  some (-1)
  else
  (idx ty0 at1) >>= fun a1 =>
  (Kkb a1) >>= fun (a2,a3) =>
  if (a2 == 0) = true then
  some (wr (at1 + 1))
  else
  if (a2 == 4) = true then
  (Kke (ty0,(wr (at1 + 1)))) >>= fun a4 =>
  some a4
  else
  if (a2 == 5) = true then
  some (-1)
  else
  (Kke (ty0,(wr (at1 + 1)))) >>= fun a5 =>
  (Kke (ty0,a5)) >>= fun a6 =>
  some a6
 partial_fixpoint
def Kkf (p : (List Int) × Int) (r : Int) : Prop :=
 match p with
 | (ty0,at1) => Q71 Tryz.prog 213 [sI ty0,I at1] (I r) []
theorem Kkg : ∀ p r,Kke p = some r → Kkf p r := by
 refine Kke.partial_correctness Kkf ?_
 rintro impl_typeEnd_f impl_typeEnd_ih ⟨ty0,at1⟩ r h
 refine b0 Tryz.f213 K6y 42 [(0,sI ty0),(1,I at1)] fun c hc => ?_
 refine rs0 hc 1 [(0,sI ty0),(1,I at1)] [] ?_
 refine sN ?_
 refine sN ?_
 obtain ⟨a0,a1,h⟩ := Qdd h
 refine Wp.into (x := .normal) (mkS [(0,sI ty0),(1,I at1),(14,.bool a0)] []) ?_ ?_
 ·replace h := a1
  rcases is h with ⟨a2,h⟩ | ⟨a2,h⟩
  ·refine rg hc none [oN,oN,oN,o_,o_,o_,o_,oT] [(0,sI ty0),(1,I at1),(14,.bool true)] [] (ar 4 (neF a2) (ai a2 tv)) ?_
   obtain rfl := os h
   exact Qcz.mk
  refine rg hc none [oN,oN,oN,oN,oN,some (.eqv (.no) ⟨[(12,I (ty0.length : Int))],[],[]⟩),oN,oF] [(0,sI ty0),(1,I at1),(14,.bool (decide (at1 ≥ (ty0.length : Int))))] [] (ar 3 a2 (ai (Qdj (d := 12) I ty0) (ar 2 a2 tv))) ?_
  obtain rfl := os h
  exact Qcz.mk
 clear a1
 refine ic h (fun a3 h => ?_) fun a3 h => ?_
 ·refine rs0 hc 1 [(4,I (-1))] [] ?_
  refine rt ?_
  obtain rfl := os h
  exact rq [true]
 refine sk ?_
 obtain ⟨a4,a5,⟨a6,a7⟩,a8,h⟩ := bq2 h
 refine rs hc none [oN,oN,some (.el (I a4)),oN,oc (.tup [I a6,I a7]),oN,oN,oN,oN,oN] [(0,sI ty0),(1,I at1),(5,I a6)] [] (ai (ix a5) (cq (Kkd _ _ a8) K6x tv)) ?_
 refine sN ?_
 refine rs0 hc 1 [(0,sI ty0),(1,I at1),(23,I a6)] [] ?_
 refine bk 0 ?_
 refine rs0 hc 2 [(0,sI ty0),(1,I at1),(23,I a6),(24,.bool (a6 == 0))] [] ?_
 refine ic h (fun a9 h => ?_) fun a9 h => ?_
 ·refine rs0 hc 3 [(4,I (wr (at1 + 1)))] [] ?_
  refine rt ?_
  obtain rfl := os h
  exact rq [true]
 refine rs0 hc 2 [(0,sI ty0),(1,I at1),(23,I a6),(28,.bool (a6 == 4))] [] ?_
 refine ic h (fun b1 h => ?_) fun b1 h => ?_
 ·obtain ⟨b2,b3,h⟩ := Qdd h
  refine rs hc none [oN,oN,oN,oc (I b2),oN] [(4,I b2)] [] (cq (impl_typeEnd_ih _ _ b3) K6z tv) ?_
  refine rt ?_
  obtain rfl := os h
  exact rq [true]
 refine rs0 hc 2 [(0,sI ty0),(1,I at1),(34,.bool (a6 == 5))] [] ?_
 refine ic h (fun b4 h => ?_) fun b4 h => ?_
 ·refine rs0 hc 1 [(4,I (-1))] [] ?_
  refine rt ?_
  obtain rfl := os h
  exact rq [true]
 refine sk ?_
 obtain ⟨b5,b6,b7,b8,h⟩ := bq2 h
 refine rs hc none [oN,oN,oN,oN,oc (I b5),oc (I b7),oN] [(4,I b7)] [] (cq (impl_typeEnd_ih _ _ b6) K6z (cq (impl_typeEnd_ih _ _ b8) K6z tv)) ?_
 refine rt ?_
 obtain rfl := os h
 exact rq [true]
def Kkh (ty0 : (List Int)) : Option (Bool) :=
 ((
 (Kit ((ty0.length : Int),1,40)) >>= fun a0 =>
 if a0 = true then
 (Kke (ty0,0)) >>= fun a1 =>
 some ((a1 == (ty0.length : Int)))
 else
 some (false)
 ) : Option (Bool)) >>= fun a2 =>
 some a2
def Kki (ty0 : (List Int)) (r : Bool) : Prop :=
 Q71 Tryz.prog 159 [sI ty0] (.bool r) []
theorem Kkj : ∀ p r,Kkh p = some r → Kki p r := by
 rintro ty0 r h
 unfold Kkh at h
 refine b0 Tryz.f159 K70 13 [(0,sI ty0)] fun c hc => ?_
 refine rs0 hc 1 [(0,sI ty0)] [] ?_
 refine sN ?_
 obtain ⟨a0,a1,h⟩ := Qdd h
 refine Wp.into (x := .normal) (mkS [(2,.bool a0)] []) ?_ ?_
 ·replace h := a1
  obtain ⟨a2,a3,h⟩ := Qdd h
  rcases is h with ⟨a4,h⟩ | ⟨a4,h⟩
  ·obtain ⟨a5,a6,h⟩ := Qdd h
   refine rg hc none [oN,some (.eqv (.no) ⟨[(4,I (ty0.length : Int))],[],[]⟩),oc (.bool a2),oN,oN,oc (I a5),oN,some (.eqv (.no) ⟨[(10,I (ty0.length : Int))],[],[]⟩),oN,oT,oN] [(2,.bool (a5 == (ty0.length : Int)))] [] (ai (Qdj (d := 4) I ty0) (cq (Kiv _ _ a3) K6j (ar 2 a4 (cq (Kkg _ _ a6) K6z (ar 2 a4 (ai (Qdj (d := 10) I ty0) (ar 2 a4 tv))))))) ?_
   obtain rfl := os h
   exact Qcz.mk
  refine rg hc none [oN,some (.eqv (.no) ⟨[(4,I (ty0.length : Int))],[],[]⟩),oc (.bool a2),oN,o_,o_,o_,o_,o_,oF,oN] [(2,.bool false)] [] (ai (Qdj (d := 4) I ty0) (cq (Kiv _ _ a3) K6j (ar 5 (neT a4) (ai a4 tv)))) ?_
  obtain rfl := os h
  exact Qcz.mk
 clear a1
 refine rt ?_
 obtain rfl := os h
 exact rq [true]
def Kkk (c : Ctx) : (Unit) ⊕ (Bool) → Exit → Q0a → Prop
 | .inl _ => Qcz c (.exit 0) (mkS [] [])
 | .inr r => Qd8 TIx Tryz.f78 [] (.bool r)
def Kkl (p : K00 × (List Int) × Int) : Option ((Unit) ⊕ (Bool)) :=
 match p with
 | (s0,ty1,a0) =>
  if (decide (a0 < (ty1.length : Int))) = true then
  (idx ty1 a0) >>= fun a1 =>
  (Kkb a1) >>= fun (a2,a3) =>
  ((
  if (a2 == 3) = true then
  (Kiw (s0,a3)) >>= fun a4 =>
  some ((!a4))
  else
  if (a2 == 4) = true then
  (Kiw (s0,a3)) >>= fun a4 =>
  some ((!a4))
  else
  some (false)
  ) : Option (Bool)) >>= fun a5 =>
  if a5 = true then
  some (.inr false)
  else
  Kkl (s0,ty1,(wr (a0 + 1)))
  else
  some (.inl ())
 partial_fixpoint
def Kkm (p : K00 × (List Int) × Int) (fl : (Unit) ⊕ (Bool)) : Prop :=
 match p with
 | (s0,ty1,a0) => ∀ c : Ctx,c.nt = 36 → WpL Tryz.prog c (cl (cl (cr (cl (cr (cr B78)))))) (Kkk c fl) (mkS [(2,.ra 1 0),(12,sI ty1),(13,I (ty1.length : Int)),(14,I a0)] [(1,K1v s0)])
theorem Kkn : ∀ p r,Kkl p = some r → Kkm p r := by
 refine Kkl.partial_correctness Kkm ?_
 rintro impl_isTypeOf_l0_f impl_isTypeOf_l0_ih ⟨s0,ty1,a0⟩ r h
 intro c hc
 refine WpL.step ?_
 refine K9m hc 1 [(2,.ra 1 0),(12,sI ty1),(13,I (ty1.length : Int)),(14,I a0),(15,.bool (decide (a0 < (ty1.length : Int))))] ?_
 refine sN ?_
 refine ic h (fun a1 h => ?_) fun a1 h => ?_
 ·refine sk ?_
  refine sN ?_
  refine bk 1 ?_
  obtain ⟨a2,a3,h⟩ := Qdd h
  refine rss hc none [some (.el (I a2)),oN,oN] [(2,.ra 1 0),(6,I a2),(12,sI ty1),(13,I (ty1.length : Int)),(14,I a0)] (ai (ix a3) tv) ?_
  obtain ⟨⟨a4,a5⟩,a6,h⟩ := Qdd h
  refine rss hc none [oN,oc (.tup [I a4,I a5]),oN,oN,oN,oN,oN] [(2,.ra 1 0),(7,I a4),(8,I a5),(12,sI ty1),(13,I (ty1.length : Int)),(14,I a0)] (cq (Kkd _ _ a6) K6x tv) ?_
  refine sN ?_
  obtain ⟨a7,a8,h⟩ := Qdd h
  refine Wp.into (x := .normal) (mkS [(2,.ra 1 0),(12,sI ty1),(13,I (ty1.length : Int)),(14,I a0),(34,.bool a7)] [(1,K1v s0)]) ?_ ?_
  ·replace h := a8
   rcases is h with ⟨a9,h⟩ | ⟨a9,h⟩
   ·obtain ⟨b1,b2,h⟩ := Qdd h
    refine rgs hc none [oN,oN,oN,o_,o_,oT,oN,oN,oN,oc (.bool b1),oN,oT] [(2,.ra 1 0),(12,sI ty1),(13,I (ty1.length : Int)),(14,I a0),(34,.bool (!b1))] (ar 2 (neF a9) (ai a9 (ar 3 tt (cq (Kiy _ _ b2) K6l (ar 2 tt tv))))) ?_
    obtain rfl := os h
    exact Qcz.mk
   rcases is h with ⟨b3,h⟩ | ⟨b3,h⟩
   ·obtain ⟨b1,b2,h⟩ := Qdd h
    refine rgs hc none [oN,oN,oN,oN,oN,oF,oN,oN,oN,oc (.bool b1),oN,oT] [(2,.ra 1 0),(12,sI ty1),(13,I (ty1.length : Int)),(14,I a0),(34,.bool (!b1))] (ar 3 a9 (ar 3 b3 (cq (Kiy _ _ b2) K6l (ar 2 b3 tv)))) ?_
    obtain rfl := os h
    exact Qcz.mk
   refine rgs hc none [oN,oN,oN,oN,oN,oF,oN,o_,o_,o_,o_,oF] [(2,.ra 1 0),(12,sI ty1),(13,I (ty1.length : Int)),(14,I a0),(34,.bool false)] (ar 3 a9 (ar 4 (neT b3) (ai b3 tv))) ?_
   obtain rfl := os h
   exact Qcz.mk
  clear a8
  refine ic h (fun b4 h => ?_) fun b4 h => ?_
  ·refine rs0 hc 1 [(4,.bool false)] [] ?_
   refine rt ?_
   obtain rfl := os h
   exact re [true]
  refine sk ?_
  refine K9l hc 2 [(2,.ra 1 0),(12,sI ty1),(13,I (ty1.length : Int)),(14,I (wr (a0 + 1)))] ?_
  refine Qcv ?_
  exact (impl_isTypeOf_l0_ih _ _ h c hc)
 refine xt 0 ?_
 refine Qcp ?_
 refine Qcw ?_
 obtain rfl := os h
 exact iv []
def Kko (p : K00 × (List Int)) : Option (Bool) :=
 match p with
 | (s0,ty1) =>
  (Kkh ty1) >>= fun a0 =>
  if a0 = true then
  (Kkl (s0,ty1,0)) >>= fun fl => match fl with
  | .inl () =>
   some true
  | .inr r =>
   some r
  else
  some false
def Kkp (p : K00 × (List Int)) (r : Bool) : Prop :=
 match p with
 | (s0,ty1) => Q71 Tryz.prog 78 [K1w s0,sI ty1] (.bool r) []
theorem Kkq : ∀ p r,Kko p = some r → Kkp p r := by
 rintro ⟨s0,ty1⟩ r h
 unfold Kko at h
 refine b0 Tryz.f78 B78 36 [(0,K1w s0),(1,sI ty1)] fun c hc => ?_
 refine rs hc none [some (.new 1),oN] [(1,sI ty1),(2,.ra 1 0)] [(1,K1v s0)] tv ?_
 refine sN ?_
 obtain ⟨a0,a1,h⟩ := Qdd h
 refine rss hc none [oN,oc (.bool a0),oN] [(1,sI ty1),(2,.ra 1 0),(11,.bool (!a0))] (cq (Kkj _ _ a1) K71 tv) ?_
 rcases is h with ⟨a2,h⟩ | ⟨a2,h⟩
 ·refine cF (!a0) (nF a2) ?_
  refine sk ?_
  refine sN ?_
  refine rss hc none [oN,some (.eqv (.no) ⟨[(13,I (ty1.length : Int))],[],[]⟩),oN] [(2,.ra 1 0),(12,sI ty1),(13,I (ty1.length : Int)),(14,I 0)] (ai (Qdj (d := 13) I ty1) tv) ?_
  refine bk 0 ?_
  obtain ⟨fl,a3,h⟩ := Qdd h
  have hL := Kkn _ _ a3 c hc
  refine lp ?_
  rcases fl with ⟨⟩ | r
  ·refine WpL.into (e := (.exit 0)) (mkS [] []) hL ?_
   refine Qcr ?_
   refine rs0 hc 1 [(4,.bool true)] [] ?_
   refine rt ?_
   obtain rfl := os h
   exact rq [true]
  refine WpL.mono hL ?_
  rintro _ _ ⟨rfl,hfin⟩
  obtain rfl := os h
  exact ⟨.inl rfl,hfin⟩
 refine cT (!a0) (nT a2) ?_
 refine rs0 hc 1 [(4,.bool false)] [] ?_
 refine rt ?_
 obtain rfl := os h
 exact rq [true]
def Kkr (p : (List Int) × K00) : Option (Bool) :=
 match p with
 | (ty0,cap0) =>
  (Kko (cap0,ty0)) >>= fun a0 =>
  some (!a0)
def Kks (p : (List Int) × K00) (r : Bool) : Prop :=
 match p with
 | (ty0,cap0) => Q71 Tryz.prog 217 [sI ty0,.ptr [I cap0.fSize,sI cap0.fPlus,sI cap0.fTimes,sB cap0.fBelow] 0] (.bool r) []
theorem Kkt : ∀ p r,Kkr p = some r → Kks p r := by
 rintro ⟨ty0,cap0⟩ r h
 unfold Kkr at h
 refine b0 Tryz.f217 K73 8 [(0,sI ty0),(1,.ptr [I cap0.fSize,sI cap0.fPlus,sI cap0.fTimes,sB cap0.fBelow] 0)] fun c hc => ?_
 refine rs0 hc 1 [(0,sI ty0),(1,.ptr [I cap0.fSize,sI cap0.fPlus,sI cap0.fTimes,sB cap0.fBelow] 0)] [] ?_
 obtain ⟨a0,a1,h⟩ := Qdd h
 refine rs hc none [oN,oN,oc (.bool a0),oN,oN] [(3,.bool (!a0))] [] (cq (Kkq _ _ a1) K72 tv) ?_
 refine rt ?_
 obtain rfl := os h
 exact rq [true]
def Kku (c : Ctx) : (Unit) ⊕ (Int) → Exit → Q0a → Prop
 | .inl _ => Qcz c (.exit 0) (mkS [] [])
 | .inr r => Qd8 TIx Tryz.f241 [] (I r)
def Kkv (p : LL × K00 × Int) : Option ((Unit) ⊕ (Int)) :=
 match p with
 | (s0,clo1_0,a0) =>
  if (decide (a0 < (s0.length : Int))) = true then
  (idx s0 a0) >>= fun a1 =>
  (Kkr (a1,clo1_0)) >>= fun a2 =>
  if a2 = true then
  some (.inr a0)
  else
  Kkv (s0,clo1_0,(wr (a0 + 1)))
  else
  some (.inl ())
 partial_fixpoint
def Kkw (p : LL × K00 × Int) (fl : (Unit) ⊕ (Int)) : Prop :=
 match p with
 | (s0,clo1_0,a0) => ∀ c : Ctx,c.nt = 19 → WpL Tryz.prog c (cl (cl (cr (cl (cr K75))))) (Kku c fl) (mkS [(0,sL s0),(1,.fn 217 [.ptr [I clo1_0.fSize,sI clo1_0.fPlus,sI clo1_0.fTimes,sB clo1_0.fBelow] 0]),(7,I (s0.length : Int)),(8,I a0)] [])
theorem Kkx : ∀ p r,Kkv p = some r → Kkw p r := by
 refine Kkv.partial_correctness Kkw ?_
 rintro slices_IndexFunc_Lint_Kimpl_isContext_c1_l0_f slices_IndexFunc_Lint_Kimpl_isContext_c1_l0_ih ⟨s0,clo1_0,a0⟩ r h
 intro c hc
 refine WpL.step ?_
 refine rs0 hc 1 [(0,sL s0),(1,.fn 217 [.ptr [I clo1_0.fSize,sI clo1_0.fPlus,sI clo1_0.fTimes,sB clo1_0.fBelow] 0]),(7,I (s0.length : Int)),(8,I a0),(9,.bool (decide (a0 < (s0.length : Int))))] [] ?_
 refine sN ?_
 refine ic h (fun a1 h => ?_) fun a1 h => ?_
 ·refine sk ?_
  refine sN ?_
  refine bk 1 ?_
  refine rs0 hc 2 [(0,sL s0),(1,.fn 217 [.ptr [I clo1_0.fSize,sI clo1_0.fPlus,sI clo1_0.fTimes,sB clo1_0.fBelow] 0]),(5,I a0),(7,I (s0.length : Int)),(8,I a0)] [] ?_
  obtain ⟨a2,a3,a4,a5,h⟩ := bq2 h
  refine rs hc none [oN,oN,oN,some (.el (sI a2)),oN,oc (.bool a4)] [(0,sL s0),(1,.fn 217 [.ptr [I clo1_0.fSize,sI clo1_0.fPlus,sI clo1_0.fTimes,sB clo1_0.fBelow] 0]),(5,I a0),(7,I (s0.length : Int)),(8,I a0),(16,.bool a4)] [] (ai (xL a3) (cq (Kkt _ _ a5) K74 tv)) ?_
  refine ic h (fun a6 h => ?_) fun a6 h => ?_
  ·refine rs0 hc 2 [(4,I a0)] [] ?_
   refine rt ?_
   obtain rfl := os h
   exact re [true]
  refine sk ?_
  refine rg0 hc 2 [(0,sL s0),(1,.fn 217 [.ptr [I clo1_0.fSize,sI clo1_0.fPlus,sI clo1_0.fTimes,sB clo1_0.fBelow] 0]),(7,I (s0.length : Int)),(8,I (wr (a0 + 1)))] [] ?_
  refine Qcv ?_
  exact (slices_IndexFunc_Lint_Kimpl_isContext_c1_l0_ih _ _ h c hc)
 refine xt 0 ?_
 refine Qcp ?_
 refine Qcw ?_
 obtain rfl := os h
 exact iv []
def Kky (p : LL × K00) : Option (Int) :=
 match p with
 | (s0,clo1_0) =>
  (Kkv (s0,clo1_0,0)) >>= fun fl => match fl with
  | .inl () =>
   some (-1)
  | .inr r =>
   some r
def Kkz (p : LL × K00) (r : Int) : Prop :=
 match p with
 | (s0,clo1_0) => Q71 Tryz.prog 241 [sL s0,.fn 217 [.ptr [I clo1_0.fSize,sI clo1_0.fPlus,sI clo1_0.fTimes,sB clo1_0.fBelow] 0]] (I r) []
theorem Kl0 : ∀ p r,Kky p = some r → Kkz p r := by
 rintro ⟨s0,clo1_0⟩ r h
 unfold Kky at h
 refine b0 Tryz.f241 K75 19 [(0,sL s0),(1,.fn 217 [.ptr [I clo1_0.fSize,sI clo1_0.fPlus,sI clo1_0.fTimes,sB clo1_0.fBelow] 0])] fun c hc => ?_
 refine rs0 hc 1 [(0,sL s0),(1,.fn 217 [.ptr [I clo1_0.fSize,sI clo1_0.fPlus,sI clo1_0.fTimes,sB clo1_0.fBelow] 0])] [] ?_
 refine sN ?_
 refine rs hc none [oN,some (.eqv (.no) ⟨[(7,I (s0.length : Int))],[],[]⟩),oN] [(0,sL s0),(1,.fn 217 [.ptr [I clo1_0.fSize,sI clo1_0.fPlus,sI clo1_0.fTimes,sB clo1_0.fBelow] 0]),(7,I (s0.length : Int)),(8,I 0)] [] (ai (Qdj (d := 7) K14 s0) tv) ?_
 refine bk 0 ?_
 obtain ⟨fl,a0,h⟩ := Qdd h
 have hL := Kkx _ _ a0 c hc
 refine lp ?_
 rcases fl with ⟨⟩ | r
 ·refine WpL.into (e := (.exit 0)) (mkS [] []) hL ?_
  refine Qcr ?_
  refine rs0 hc 1 [(4,I (-1))] [] ?_
  refine rt ?_
  obtain rfl := os h
  exact rq [true]
 refine WpL.mono hL ?_
 rintro _ _ ⟨rfl,hfin⟩
 obtain rfl := os h
 exact ⟨.inl rfl,hfin⟩
def Kl1 (p : LL × K00) : Option (Bool) :=
 match p with
 | (s0,clo1_0) =>
  (Kky (s0,clo1_0)) >>= fun a0 =>
  some (decide (a0 ≥ 0))
def Kl2 (p : LL × K00) (r : Bool) : Prop :=
 match p with
 | (s0,clo1_0) => Q71 Tryz.prog 216 [sL s0,.fn 217 [.ptr [I clo1_0.fSize,sI clo1_0.fPlus,sI clo1_0.fTimes,sB clo1_0.fBelow] 0]] (.bool r) []
theorem Kl3 : ∀ p r,Kl1 p = some r → Kl2 p r := by
 rintro ⟨s0,clo1_0⟩ r h
 unfold Kl1 at h
 refine b0 Tryz.f216 K77 9 [(0,sL s0),(1,.fn 217 [.ptr [I clo1_0.fSize,sI clo1_0.fPlus,sI clo1_0.fTimes,sB clo1_0.fBelow] 0])] fun c hc => ?_
 refine rs0 hc 1 [(0,sL s0),(1,.fn 217 [.ptr [I clo1_0.fSize,sI clo1_0.fPlus,sI clo1_0.fTimes,sB clo1_0.fBelow] 0])] [] ?_
 obtain ⟨a0,a1,h⟩ := Qdd h
 refine rs hc none [oN,oN,oc (I a0),oN,oN] [(4,.bool (decide (a0 ≥ 0)))] [] (cq (Kl0 _ _ a1) K76 tv) ?_
 refine rt ?_
 obtain rfl := os h
 exact rq [true]
def Kl4 (p : K00 × LL) : Option (Bool) :=
 match p with
 | (s0,ctx1) =>
  ((
  if (decide ((ctx1.length : Int) ≤ 8)) = true then
  (Kl1 (ctx1,s0)) >>= fun a0 =>
  some ((!a0))
  else
  some (false)
  ) : Option (Bool)) >>= fun a1 =>
  some a1
def Kl5 (p : K00 × LL) (r : Bool) : Prop :=
 match p with
 | (s0,ctx1) => Q71 Tryz.prog 171 [K1w s0,sL ctx1] (.bool r) []
theorem Kl6 : ∀ p r,Kl4 p = some r → Kl5 p r := by
 rintro ⟨s0,ctx1⟩ r h
 unfold Kl4 at h
 refine b0 Tryz.f171 K79 14 [(0,K1w s0),(1,sL ctx1)] fun c hc => ?_
 refine rs hc none [some (.new 1),oN] [(1,sL ctx1),(2,.ra 1 0)] [(1,K1v s0)] tv ?_
 refine sN ?_
 obtain ⟨a0,a1,h⟩ := Qdd h
 refine Wp.into (x := .normal) (mkS [(4,.bool a0)] []) ?_ ?_
 ·replace h := a1
  rcases is h with ⟨a2,h⟩ | ⟨a2,h⟩
  ·obtain ⟨a3,a4,h⟩ := Qdd h
   refine rg hc none [oN,some (.eqv (.no) ⟨[(6,I (ctx1.length : Int))],[],[]⟩),oN,oN,oN,oN,oc (.bool a3),oN,oT,oN] [(4,.bool (!a3))] [] (ai (Qdj (d := 6) K14 ctx1) (ar 3 a2 (ac (Kl3 _ _ a4) K78 (Or.inr rfl : ([1] : List Nat) = [] ∨ noSh (.bool a3) = true) (ar 2 a2 tv)))) ?_
   obtain rfl := os h
   exact Qcz.mk
  refine rg hc none [oN,some (.eqv (.no) ⟨[(6,I (ctx1.length : Int))],[],[]⟩),oN,oN,o_,o_,o_,o_,oF,oN] [(4,.bool false)] [] (ai (Qdj (d := 6) K14 ctx1) (ar 4 (neT a2) (ai a2 tv))) ?_
  obtain rfl := os h
  exact Qcz.mk
 clear a1
 refine rt ?_
 obtain rfl := os h
 exact rq [true]
def Kl7 (op0 : Int) : Option (K05 × Bool) :=
 (Kit (op0,0,12)) >>= fun a0 =>
 if a0 = true then
 (idx [(K05.mk (ByteArray.mk #[120]) 0 false false),(K05.mk ByteArray.empty 0 false false),(K05.mk (ByteArray.mk #[97,100,100]) 2 false false),(K05.mk (ByteArray.mk #[105,102]) 3 false false),(K05.mk (ByteArray.mk #[112,97,105,114]) 2 false false),(K05.mk (ByteArray.mk #[115,112,108,105,116]) 2 true false),(K05.mk (ByteArray.mk #[108,101,102,116]) 1 false true),(K05.mk (ByteArray.mk #[114,105,103,104,116]) 1 false true),(K05.mk (ByteArray.mk #[99,97,115,101]) 3 true false),(K05.mk (ByteArray.mk #[102,117,110]) 1 true true),(K05.mk (ByteArray.mk #[97,112,112]) 2 false false),(K05.mk (ByteArray.mk #[98,111,120]) 1 true false),(K05.mk (ByteArray.mk #[111,112,101,110]) 2 true false)] op0) >>= fun a1 =>
 some (a1,true)
 else
 some ((K05.mk ByteArray.empty 0 false false),false)
def Kl8 (op0 : Int) (r : K05 × Bool) : Prop :=
 Q71 Tryz.prog 188 [I op0] (.tup [.agg [.str r.1.fword,I r.1.fkids,.bool r.1.fgrade,.bool r.1.ftyped],.bool r.2]) []
theorem Kl9 : ∀ p r,Kl7 p = some r → Kl8 p r := by
 rintro op0 r h
 unfold Kl7 at h
 refine b0 Tryz.f188 K7b 25 [(0,I op0)] fun c hc => ?_
 refine rs hc none [some (.new 1),oN] [(0,I op0),(2,.ra 1 0)] [(1,.box [.str ByteArray.empty,I 0,.bool false,.bool false])] tv ?_
 refine sN ?_
 obtain ⟨a0,a1,h⟩ := Qdd h
 refine rss hc none [oN,oc (.bool a0),oN] [(0,I op0),(2,.ra 1 0),(6,.bool (!a0))] (cq (Kiv _ _ a1) K6j tv) ?_
 rcases is h with ⟨a2,h⟩ | ⟨a2,h⟩
 ·refine cF (!a0) (nF a2) ?_
  refine sk ?_
  obtain ⟨a3,a4,h⟩ := Qdd h
  refine rs hc none [oN,oN,oN,oN,oN,oN,oN,oN,oN,oN,oN,oN,oN,some (.mk 2 true),oN,oN,some (.el (.agg [.str a3.fword,I a3.fkids,.bool a3.fgrade,.bool a3.ftyped])),oN,oN] [(2,.ra 1 0),(3,.bool true)] [(1,.box [.str a3.fword,I a3.fkids,.bool a3.fgrade,.bool a3.ftyped])] (ab (Qdi (enc := K0x) a4) (Qdh (enc := K0x) (x := .agg [.str a3.fword,I a3.fkids,.bool a3.fgrade,.bool a3.ftyped]) a4 (K1l a3)).2 tv) ?_
  refine rt ?_
  obtain rfl := os h
  exact rq [true,true]
 refine cT (!a0) (nT a2) ?_
 refine K9m hc 3 [(2,.ra 1 0),(3,.bool false)] ?_
 refine rt ?_
 obtain rfl := os h
 exact rq [true,true]
def Kla (p : (List Int) × K00) : Option (Bool) :=
 match p with
 | (ty0,cap0) =>
  (Kko (cap0,ty0)) >>= fun a0 =>
  some a0
def Klb (p : (List Int) × K00) (r : Bool) : Prop :=
 match p with
 | (ty0,cap0) => Q71 Tryz.prog 218 [sI ty0,.ptr [I cap0.fSize,sI cap0.fPlus,sI cap0.fTimes,sB cap0.fBelow] 0] (.bool r) []
theorem Klc : ∀ p r,Kla p = some r → Klb p r := by
 rintro ⟨ty0,cap0⟩ r h
 unfold Kla at h
 refine b0 Tryz.f218 K7d 7 [(0,sI ty0),(1,.ptr [I cap0.fSize,sI cap0.fPlus,sI cap0.fTimes,sB cap0.fBelow] 0)] fun c hc => ?_
 refine rs0 hc 1 [(0,sI ty0),(1,.ptr [I cap0.fSize,sI cap0.fPlus,sI cap0.fTimes,sB cap0.fBelow] 0)] [] ?_
 obtain ⟨a0,a1,h⟩ := Qdd h
 refine rs hc none [oN,oN,oc (.bool a0),oN] [(3,.bool a0)] [] (cq (Kkq _ _ a1) K72 tv) ?_
 refine rt ?_
 obtain rfl := os h
 exact rq [true]
def Kld (p : Int × Int) : Option (Int) :=
 match p with
 | (op0,kid1) =>
  ((
  if (op0 == 5) = true then
  some ((kid1 == 1))
  else
  some (false)
  ) : Option (Bool)) >>= fun a0 =>
  if a0 = true then
  some 2
  else
  ((
  if (op0 == 8) = true then
  some ((decide (kid1 > 0)))
  else
  some (false)
  ) : Option (Bool)) >>= fun a1 =>
  ((
  if a1 = true then
  some (a1)
  else
  ((
  if (op0 == 9) = true then
  some ((op0 == 9))
  else
  ((
  if (op0 == 12) = true then
  some ((kid1 == 1))
  else
  some (false)
  ) : Option (Bool)) >>= fun a2 =>
  some (a2)
  ) : Option (Bool)) >>= fun a3 =>
  some (a3)
  ) : Option (Bool)) >>= fun a4 =>
  if a4 = true then
  some 1
  else
  some 0
def Kle (p : Int × Int) (r : Int) : Prop :=
 match p with
 | (op0,kid1) => Q71 Tryz.prog 199 [I op0,I kid1] (I r) []
theorem Klf : ∀ p r,Kld p = some r → Kle p r := by
 rintro ⟨op0,kid1⟩ r h
 unfold Kld at h
 refine b0 Tryz.f199 K7f 27 [(0,I op0),(1,I kid1)] fun c hc => ?_
 refine rs0 hc 1 [(0,I op0),(1,I kid1)] [] ?_
 refine sN ?_
 refine bk 0 ?_
 refine sN ?_
 obtain ⟨a0,a1,h⟩ := Qdd h
 refine Wp.into (x := .normal) (mkS [(0,I op0),(1,I kid1),(5,.bool a0)] []) ?_ ?_
 ·replace h := a1
  rcases is h with ⟨a2,h⟩ | ⟨a2,h⟩
  ·refine rg hc none [oN,oN,oN,oN,oN,oT,oN] [(0,I op0),(1,I kid1),(5,.bool (kid1 == 1))] [] (ar 3 a2 tv) ?_
   obtain rfl := os h
   exact Qcz.mk
  refine rg hc none [oN,oN,oN,o_,o_,oF,oN] [(0,I op0),(1,I kid1),(5,.bool false)] [] (ar 2 (neT a2) (ai a2 tv)) ?_
  obtain rfl := os h
  exact Qcz.mk
 clear a1
 refine ic h (fun a3 h => ?_) fun a3 h => ?_
 ·refine rs0 hc 1 [(4,I 2)] [] ?_
  refine rt ?_
  obtain rfl := os h
  exact rq [true]
 refine sN ?_
 refine sN ?_
 obtain ⟨a4,a5,h⟩ := Qdd h
 refine Wp.into (x := .normal) (mkS [(0,I op0),(1,I kid1),(12,.bool a4)] []) ?_ ?_
 ·replace h := a5
  rcases is h with ⟨a6,h⟩ | ⟨a6,h⟩
  ·refine rg hc none [oN,oN,oN,oN,oN,oT,oN] [(0,I op0),(1,I kid1),(12,.bool (decide (kid1 > 0)))] [] (ar 3 a6 tv) ?_
   obtain rfl := os h
   exact Qcz.mk
  refine rg hc none [oN,oN,oN,o_,o_,oF,oN] [(0,I op0),(1,I kid1),(12,.bool false)] [] (ar 2 (neT a6) (ai a6 tv)) ?_
  obtain rfl := os h
  exact Qcz.mk
 clear a5
 obtain ⟨a7,a8,h⟩ := Qdd h
 refine Wp.into (x := .normal) (mkS [(12,.bool a7)] []) ?_ ?_
 ·replace h := a8
  refine ic h (fun a9 h => ?_) fun a9 h => ?_
  ·refine sk ?_
   obtain rfl := os h
   exact iv []
  refine rs0 hc 3 [(0,I op0),(1,I kid1),(12,.bool (op0 == 9))] [] ?_
  obtain ⟨b1,b2,h⟩ := Qdd h
  refine Wp.into (x := .normal) (mkS [(12,.bool b1)] []) ?_ ?_
  ·replace h := b2
   refine ic h (fun b3 h => ?_) fun b3 h => ?_
   ·refine sk ?_
    obtain rfl := os h
    exact iv []
   obtain ⟨b4,b5,h⟩ := Qdd h
   refine Wp.into (x := .normal) (mkS [(12,.bool b4)] []) ?_ ?_
   ·replace h := b5
    rcases is h with ⟨b6,h⟩ | ⟨b6,h⟩
    ·refine rg hc none [oN,oN,oN,oN,oN,oT,oN] [(12,.bool (kid1 == 1))] [] (ar 3 b6 tv) ?_
     obtain rfl := os h
     exact Qcz.mk
    refine rg hc none [oN,oN,oN,o_,o_,oF,oN] [(12,.bool false)] [] (ar 2 (neT b6) (ai b6 tv)) ?_
    obtain rfl := os h
    exact Qcz.mk
   clear b5
   obtain rfl := os h
   exact Qcz.mk
  clear b2
  obtain rfl := os h
  exact Qcz.mk
 clear a8
 refine ic h (fun b7 h => ?_) fun b7 h => ?_
 ·refine rs0 hc 1 [(4,I 1)] [] ?_
  refine rt ?_
  obtain rfl := os h
  exact rq [true]
 refine sk ?_
 refine rs0 hc 1 [(4,I 0)] [] ?_
 refine rt ?_
 obtain rfl := os h
 exact rq [true]
def Klg (c : Ctx) : (Int) ⊕ (Int) → Exit → Q0a → Prop
 | .inl a0 => Qcz c (.exit 1) (mkS [(4,I a0)] [])
 | .inr r => Qd8 TIx Tryz.f134 [] (I r)
mutual
def Klh (p : K01 × Int × K00 × K00 × Int) : Option (Int) :=
 match p with
 | (t0,n1,clo2_0,clo3_0,nodes4) =>
  (Kl7 t0.fOp) >>= fun (a0,a1) =>
  ((
  if a1 = true then
  if (decide ((wr (nodes4 + 1)) > 400)) = true then
   some (true)
  else
   some (((t0.fKids.length : Int) != a0.fkids))
  else
  some (true)
  ) : Option (Bool)) >>= fun a2 =>
  if a2 = true then
  some 401
  else
  ((
  if (t0.fOp == 0) = true then
   (Kit (t0.fN,0,(wr (n1 - 1)))) >>= fun a3 =>
   some (a3)
  else
   ((
   if (t0.fOp == 1) = true then
   (Kit (t0.fN,0,2)) >>= fun a4 =>
   some (a4)
   else
   ((
   if a0.fgrade = true then
   (Kiw (clo2_0,t0.fN)) >>= fun a5 =>
   some (a5)
   else
   some ((t0.fN == 0))
   ) : Option (Bool)) >>= fun a6 =>
   some (a6)
   ) : Option (Bool)) >>= fun a7 =>
   some (a7)
  ) : Option (Bool)) >>= fun a8 =>
  ((
  if a0.ftyped = true then
   ((
   if a8 = true then
   (Kla (t0.fType,clo3_0)) >>= fun a9 =>
   some (a9)
   else
   some (false)
   ) : Option (Bool)) >>= fun b1 =>
   some (b1)
  else
   ((
   if a8 = true then
   some (((t0.fType.length : Int) == 0))
   else
   some (false)
   ) : Option (Bool)) >>= fun b2 =>
   some (b2)
  ) : Option (Bool)) >>= fun b3 =>
  if b3 = true then
  (Kli (t0,n1,clo2_0,clo3_0,(wr (nodes4 + 1)),0)) >>= fun fl => match fl with
  | .inl b4 =>
   some b4
  | .inr r =>
   some r
  else
  some 401
 partial_fixpoint
def Kli (p : K01 × Int × K00 × K00 × Int × Int) : Option ((Int) ⊕ (Int)) :=
 match p with
 | (t0,n1,clo2_0,clo3_0,a0,a1) =>
  if (decide (a1 < (t0.fKids.length : Int))) = true then
  (idx t0.fKids a1) >>= fun a2 =>
  (Kld (t0.fOp,a1)) >>= fun a3 =>
  (Klh (a2,(wr (n1 + a3)),clo2_0,clo3_0,a0)) >>= fun a4 =>
  if (decide (a4 > 400)) = true then
  some (.inr 401)
  else
  Kli (t0,n1,clo2_0,clo3_0,a4,(wr (a1 + 1)))
  else
  some (.inl a0)
 partial_fixpoint
end
def Klj (p : K01 × Int × K00 × K00 × Int) (r : Int) : Prop :=
 match p with
 | (t0,n1,clo2_0,clo3_0,nodes4) => Q71 Tryz.prog 134 [K1y t0,I n1,.fnb 145 [K1w clo2_0],.fn 218 [.ptr [I clo3_0.fSize,sI clo3_0.fPlus,sI clo3_0.fTimes,sB clo3_0.fBelow] 0],I nodes4] (I r) []
def Klk (p : K01 × Int × K00 × K00 × Int × Int) (fl : (Int) ⊕ (Int)) : Prop :=
 match p with
 | (t0,n1,clo2_0,clo3_0,a0,a1) => ∀ c : Ctx,c.nt = 104 → WpL Tryz.prog c (cl (cl (cr (cl (cr (cr (cr (cr (cr (cr (cr K7h))))))))))) (Klg c fl) (mkS [(1,I n1),(2,.fnb 145 [K1w clo2_0]),(3,.fn 218 [.ptr [I clo3_0.fSize,sI clo3_0.fPlus,sI clo3_0.fTimes,sB clo3_0.fBelow] 0]),(4,I a0),(5,.ra 1 0),(82,.sl (List.map K0h t0.fKids)),(83,I (t0.fKids.length : Int)),(84,I a1)] [(1,K1x t0)])
theorem Kll : (∀ p r,Klh p = some r → Klj p r) ∧ (∀ p r,Kli p = some r → Klk p r) := by
 refine Klh.mutual_partial_correctness Klj Klk ?_ ?_
 ·rintro impl_check_Kimpl_Systemhas_Kimpl_isTermOf_c1_l0_f impl_check_Kimpl_Systemhas_Kimpl_isTermOf_c1_l0_ih ⟨t0,n1,clo2_0,clo3_0,nodes4⟩ r h
  refine b0 Tryz.f134 K7h 104 [(0,K1y t0),(1,I n1),(2,.fnb 145 [K1w clo2_0]),(3,.fn 218 [.ptr [I clo3_0.fSize,sI clo3_0.fPlus,sI clo3_0.fTimes,sB clo3_0.fBelow] 0]),(4,I nodes4)] fun c hc => ?_
  refine rs hc none [some (.new 1),oN] [(1,I n1),(2,.fnb 145 [K1w clo2_0]),(3,.fn 218 [.ptr [I clo3_0.fSize,sI clo3_0.fPlus,sI clo3_0.fTimes,sB clo3_0.fBelow] 0]),(4,I nodes4),(5,.ra 1 0)] [(1,K1x t0)] tv ?_
  refine K9m hc 3 [(1,I n1),(2,.fnb 145 [K1w clo2_0]),(3,.fn 218 [.ptr [I clo3_0.fSize,sI clo3_0.fPlus,sI clo3_0.fTimes,sB clo3_0.fBelow] 0]),(4,I (wr (nodes4 + 1))),(5,.ra 1 0)] ?_
  obtain ⟨⟨a0,a1⟩,a2,h⟩ := Qdd h
  refine rs hc none [oN,oN,oc (.tup [.agg [.str a0.fword,I a0.fkids,.bool a0.fgrade,.bool a0.ftyped],.bool a1]),oN,oN,oN,some (.new 2),oN,oN] [(1,I n1),(2,.fnb 145 [K1w clo2_0]),(3,.fn 218 [.ptr [I clo3_0.fSize,sI clo3_0.fPlus,sI clo3_0.fTimes,sB clo3_0.fBelow] 0]),(4,I (wr (nodes4 + 1))),(5,.ra 1 0),(11,.ra 2 0),(12,.bool a1)] [(1,K1x t0),(2,.box [.str a0.fword,I a0.fkids,.bool a0.fgrade,.bool a0.ftyped])] (cq (Kl9 _ _ a2) K7c tv) ?_
  refine sN ?_
  refine sN ?_
  obtain ⟨a3,a4,h⟩ := Qdd h
  refine Wp.into (x := .normal) (mkS [(1,I n1),(2,.fnb 145 [K1w clo2_0]),(3,.fn 218 [.ptr [I clo3_0.fSize,sI clo3_0.fPlus,sI clo3_0.fTimes,sB clo3_0.fBelow] 0]),(4,I (wr (nodes4 + 1))),(5,.ra 1 0),(11,.ra 2 0),(36,.bool a3)] [(1,K1x t0),(2,.box [.str a0.fword,I a0.fkids,.bool a0.fgrade,.bool a0.ftyped])]) ?_ ?_
  ·replace h := a4
   rcases is h with ⟨a5,h⟩ | ⟨a5,h⟩
   ·rcases is h with ⟨a6,h⟩ | ⟨a6,h⟩
    ·refine rgs hc none [oN,oN,oN,oN,oN,oF,oN,o_,o_,o_,o_,o_,o_,oT] [(1,I n1),(2,.fnb 145 [K1w clo2_0]),(3,.fn 218 [.ptr [I clo3_0.fSize,sI clo3_0.fPlus,sI clo3_0.fTimes,sB clo3_0.fBelow] 0]),(4,I (wr (nodes4 + 1))),(5,.ra 1 0),(11,.ra 2 0),(36,.bool true)] (ar 3 (nF a5) (ar 6 (neF a6) (ai a6 tv))) ?_
     obtain rfl := os h
     exact Qcz.mk
    refine rgs hc none [oN,oN,oN,oN,oN,oF,oN,oN,oN,some (.eqv (.no) ⟨[(32,I (t0.fKids.length : Int))],[],[]⟩),oN,oN,oN,oF] [(1,I n1),(2,.fnb 145 [K1w clo2_0]),(3,.fn 218 [.ptr [I clo3_0.fSize,sI clo3_0.fPlus,sI clo3_0.fTimes,sB clo3_0.fBelow] 0]),(4,I (wr (nodes4 + 1))),(5,.ra 1 0),(11,.ra 2 0),(36,.bool ((t0.fKids.length : Int) != a0.fkids))] (ar 3 (nF a5) (ar 3 a6 (ai (Qdj (d := 32) K0h t0.fKids) (ar 4 a6 tv)))) ?_
    obtain rfl := os h
    exact Qcz.mk
   refine rgs hc none [oN,oN,oN,o_,o_,oT,oN,o_,o_,o_,o_,o_,o_,oT] [(1,I n1),(2,.fnb 145 [K1w clo2_0]),(3,.fn 218 [.ptr [I clo3_0.fSize,sI clo3_0.fPlus,sI clo3_0.fTimes,sB clo3_0.fBelow] 0]),(4,I (wr (nodes4 + 1))),(5,.ra 1 0),(11,.ra 2 0),(36,.bool true)] (ar 2 (neF (nT a5)) (ai (nT a5) (ar 6 nf (ai tt tv)))) ?_
   obtain rfl := os h
   exact Qcz.mk
  clear a4
  refine ic h (fun a7 h => ?_) fun a7 h => ?_
  ·refine rs0 hc 1 [(10,I 401)] [] ?_
   refine rt ?_
   obtain rfl := os h
   exact rq [true]
  refine sk ?_
  refine sN ?_
  refine bk 0 ?_
  refine K9m hc 4 [(1,I n1),(2,.fnb 145 [K1w clo2_0]),(3,.fn 218 [.ptr [I clo3_0.fSize,sI clo3_0.fPlus,sI clo3_0.fTimes,sB clo3_0.fBelow] 0]),(4,I (wr (nodes4 + 1))),(5,.ra 1 0),(11,.ra 2 0),(40,.bool (t0.fOp == 0))] ?_
  obtain ⟨a8,a9,h⟩ := Qdd h
  refine Wp.into (x := .normal) (mkS [(1,I n1),(2,.fnb 145 [K1w clo2_0]),(3,.fn 218 [.ptr [I clo3_0.fSize,sI clo3_0.fPlus,sI clo3_0.fTimes,sB clo3_0.fBelow] 0]),(4,I (wr (nodes4 + 1))),(5,.ra 1 0),(11,.ra 2 0),(12,.bool a8)] [(1,K1x t0),(2,.box [.str a0.fword,I a0.fkids,.bool a0.fgrade,.bool a0.ftyped])]) ?_ ?_
  ·replace h := a9
   refine ic h (fun b1 h => ?_) fun b1 h => ?_
   ·obtain ⟨b2,b3,h⟩ := Qdd h
    refine rgs hc none [oN,oN,oN,oN,oc (.bool b2),oN] [(1,I n1),(2,.fnb 145 [K1w clo2_0]),(3,.fn 218 [.ptr [I clo3_0.fSize,sI clo3_0.fPlus,sI clo3_0.fTimes,sB clo3_0.fBelow] 0]),(4,I (wr (nodes4 + 1))),(5,.ra 1 0),(11,.ra 2 0),(12,.bool b2)] (cq (Kiv _ _ b3) K6j tv) ?_
    obtain rfl := os h
    exact Qcz.mk
   refine K9m hc 4 [(1,I n1),(2,.fnb 145 [K1w clo2_0]),(3,.fn 218 [.ptr [I clo3_0.fSize,sI clo3_0.fPlus,sI clo3_0.fTimes,sB clo3_0.fBelow] 0]),(4,I (wr (nodes4 + 1))),(5,.ra 1 0),(11,.ra 2 0),(49,.bool (t0.fOp == 1))] ?_
   obtain ⟨b4,b5,h⟩ := Qdd h
   refine Wp.into (x := .normal) (mkS [(1,I n1),(2,.fnb 145 [K1w clo2_0]),(3,.fn 218 [.ptr [I clo3_0.fSize,sI clo3_0.fPlus,sI clo3_0.fTimes,sB clo3_0.fBelow] 0]),(4,I (wr (nodes4 + 1))),(5,.ra 1 0),(11,.ra 2 0),(12,.bool b4)] [(1,K1x t0),(2,.box [.str a0.fword,I a0.fkids,.bool a0.fgrade,.bool a0.ftyped])]) ?_ ?_
   ·replace h := b5
    refine ic h (fun b6 h => ?_) fun b6 h => ?_
    ·obtain ⟨b7,b8,h⟩ := Qdd h
     refine rgs hc none [oN,oN,oc (.bool b7),oN] [(1,I n1),(2,.fnb 145 [K1w clo2_0]),(3,.fn 218 [.ptr [I clo3_0.fSize,sI clo3_0.fPlus,sI clo3_0.fTimes,sB clo3_0.fBelow] 0]),(4,I (wr (nodes4 + 1))),(5,.ra 1 0),(11,.ra 2 0),(12,.bool b7)] (cq (Kiv _ _ b8) K6j tv) ?_
     obtain rfl := os h
     exact Qcz.mk
    refine K9m hc 3 [(1,I n1),(2,.fnb 145 [K1w clo2_0]),(3,.fn 218 [.ptr [I clo3_0.fSize,sI clo3_0.fPlus,sI clo3_0.fTimes,sB clo3_0.fBelow] 0]),(4,I (wr (nodes4 + 1))),(5,.ra 1 0),(11,.ra 2 0),(56,.bool a0.fgrade)] ?_
    obtain ⟨b9,c0,h⟩ := Qdd h
    refine Wp.into (x := .normal) (mkS [(1,I n1),(2,.fnb 145 [K1w clo2_0]),(3,.fn 218 [.ptr [I clo3_0.fSize,sI clo3_0.fPlus,sI clo3_0.fTimes,sB clo3_0.fBelow] 0]),(4,I (wr (nodes4 + 1))),(5,.ra 1 0),(11,.ra 2 0),(12,.bool b9)] [(1,K1x t0),(2,.box [.str a0.fword,I a0.fkids,.bool a0.fgrade,.bool a0.ftyped])]) ?_ ?_
    ·replace h := c0
     refine ic h (fun c1 h => ?_) fun c1 h => ?_
     ·obtain ⟨c2,c3,h⟩ := Qdd h
      refine rgs hc none [oN,oN,oN,oc (.bool c2),oN] [(1,I n1),(2,.fnb 145 [K1w clo2_0]),(3,.fn 218 [.ptr [I clo3_0.fSize,sI clo3_0.fPlus,sI clo3_0.fTimes,sB clo3_0.fBelow] 0]),(4,I (wr (nodes4 + 1))),(5,.ra 1 0),(11,.ra 2 0),(12,.bool c2)] (cq (Kiy _ _ c3) K6l tv) ?_
      obtain rfl := os h
      exact Qcz.mk
     refine K9l hc 4 [(1,I n1),(2,.fnb 145 [K1w clo2_0]),(3,.fn 218 [.ptr [I clo3_0.fSize,sI clo3_0.fPlus,sI clo3_0.fTimes,sB clo3_0.fBelow] 0]),(4,I (wr (nodes4 + 1))),(5,.ra 1 0),(11,.ra 2 0),(12,.bool (t0.fN == 0))] ?_
     obtain rfl := os h
     exact Qcz.mk
    clear c0
    obtain rfl := os h
    exact Qcz.mk
   clear b5
   obtain rfl := os h
   exact Qcz.mk
  clear a9
  refine sN ?_
  refine rs0 hc 2 [(1,I n1),(2,.fnb 145 [K1w clo2_0]),(3,.fn 218 [.ptr [I clo3_0.fSize,sI clo3_0.fPlus,sI clo3_0.fTimes,sB clo3_0.fBelow] 0]),(4,I (wr (nodes4 + 1))),(5,.ra 1 0),(12,.bool a8),(64,.bool a0.ftyped)] [(1,K1x t0)] ?_
  obtain ⟨c4,c5,h⟩ := Qdd h
  refine Wp.into (x := .normal) (mkS [(1,I n1),(2,.fnb 145 [K1w clo2_0]),(3,.fn 218 [.ptr [I clo3_0.fSize,sI clo3_0.fPlus,sI clo3_0.fTimes,sB clo3_0.fBelow] 0]),(4,I (wr (nodes4 + 1))),(5,.ra 1 0),(12,.bool c4)] [(1,K1x t0)]) ?_ ?_
  ·replace h := c5
   refine ic h (fun c6 h => ?_) fun c6 h => ?_
   ·obtain ⟨c7,c8,h⟩ := Qdd h
    refine Wp.into (x := .normal) (mkS [(1,I n1),(2,.fnb 145 [K1w clo2_0]),(3,.fn 218 [.ptr [I clo3_0.fSize,sI clo3_0.fPlus,sI clo3_0.fTimes,sB clo3_0.fBelow] 0]),(4,I (wr (nodes4 + 1))),(5,.ra 1 0),(12,.bool c7)] [(1,K1x t0)]) ?_ ?_
    ·replace h := c8
     rcases is h with ⟨c9,h⟩ | ⟨c9,h⟩
     ·obtain ⟨d0,d1,h⟩ := Qdd h
      refine rgs hc none [oN,oN,oN,oN,oN,oc (.bool d0),oT,oN] [(1,I n1),(2,.fnb 145 [K1w clo2_0]),(3,.fn 218 [.ptr [I clo3_0.fSize,sI clo3_0.fPlus,sI clo3_0.fTimes,sB clo3_0.fBelow] 0]),(4,I (wr (nodes4 + 1))),(5,.ra 1 0),(12,.bool d0)] (ar 4 c9 (cq (Klc _ _ d1) K7e (ai c9 tv))) ?_
      obtain rfl := os h
      exact Qcz.mk
     refine rgs hc none [oN,oN,o_,o_,o_,o_,oF,oN] [(1,I n1),(2,.fnb 145 [K1w clo2_0]),(3,.fn 218 [.ptr [I clo3_0.fSize,sI clo3_0.fPlus,sI clo3_0.fTimes,sB clo3_0.fBelow] 0]),(4,I (wr (nodes4 + 1))),(5,.ra 1 0),(12,.bool false)] (ar 4 (neT c9) (ai c9 tv)) ?_
     obtain rfl := os h
     exact Qcz.mk
    clear c8
    obtain rfl := os h
    exact Qcz.mk
   obtain ⟨d2,d3,h⟩ := Qdd h
   refine Wp.into (x := .normal) (mkS [(1,I n1),(2,.fnb 145 [K1w clo2_0]),(3,.fn 218 [.ptr [I clo3_0.fSize,sI clo3_0.fPlus,sI clo3_0.fTimes,sB clo3_0.fBelow] 0]),(4,I (wr (nodes4 + 1))),(5,.ra 1 0),(12,.bool d2)] [(1,K1x t0)]) ?_ ?_
   ·replace h := d3
    rcases is h with ⟨d4,h⟩ | ⟨d4,h⟩
    ·refine rgs hc none [oN,oN,oN,oN,some (.eqv (.no) ⟨[(76,I (t0.fType.length : Int))],[],[]⟩),oN,oT,oN] [(1,I n1),(2,.fnb 145 [K1w clo2_0]),(3,.fn 218 [.ptr [I clo3_0.fSize,sI clo3_0.fPlus,sI clo3_0.fTimes,sB clo3_0.fBelow] 0]),(4,I (wr (nodes4 + 1))),(5,.ra 1 0),(12,.bool ((t0.fType.length : Int) == 0))] (ar 3 d4 (ai (Qdj (d := 76) I t0.fType) (ar 2 d4 tv))) ?_
     obtain rfl := os h
     exact Qcz.mk
    refine rgs hc none [oN,oN,o_,o_,o_,o_,oF,oN] [(1,I n1),(2,.fnb 145 [K1w clo2_0]),(3,.fn 218 [.ptr [I clo3_0.fSize,sI clo3_0.fPlus,sI clo3_0.fTimes,sB clo3_0.fBelow] 0]),(4,I (wr (nodes4 + 1))),(5,.ra 1 0),(12,.bool false)] (ar 4 (neT d4) (ai d4 tv)) ?_
    obtain rfl := os h
    exact Qcz.mk
   clear d3
   obtain rfl := os h
   exact Qcz.mk
  clear c5
  refine sN ?_
  refine K9m hc 2 [(1,I n1),(2,.fnb 145 [K1w clo2_0]),(3,.fn 218 [.ptr [I clo3_0.fSize,sI clo3_0.fPlus,sI clo3_0.fTimes,sB clo3_0.fBelow] 0]),(4,I (wr (nodes4 + 1))),(5,.ra 1 0),(80,.bool (!c4))] ?_
  rcases is h with ⟨d5,h⟩ | ⟨d5,h⟩
  ·refine cF (!c4) (nF d5) ?_
   refine sk ?_
   refine sN ?_
   refine rss hc none [oN,oN,some (.eqv (.no) ⟨[(83,I (t0.fKids.length : Int))],[],[]⟩),oN] [(1,I n1),(2,.fnb 145 [K1w clo2_0]),(3,.fn 218 [.ptr [I clo3_0.fSize,sI clo3_0.fPlus,sI clo3_0.fTimes,sB clo3_0.fBelow] 0]),(4,I (wr (nodes4 + 1))),(5,.ra 1 0),(82,.sl (List.map K0h t0.fKids)),(83,I (t0.fKids.length : Int)),(84,I 0)] (ai (Qdj (d := 83) K0h t0.fKids) tv) ?_
   refine bk 1 ?_
   obtain ⟨fl,d6,h⟩ := Qdd h
   have hL := impl_check_Kimpl_Systemhas_Kimpl_isTermOf_c1_l0_ih _ _ d6 c hc
   refine lp ?_
   rcases fl with d7 | r
   ·refine WpL.into (e := (.exit 1)) (mkS [(4,I d7)] []) hL ?_
    refine Qcr ?_
    refine rs0 hc 2 [(10,I d7)] [] ?_
    refine rt ?_
    obtain rfl := os h
    exact rq [true]
   refine WpL.mono hL ?_
   rintro _ _ ⟨rfl,hfin⟩
   obtain rfl := os h
   exact ⟨.inl rfl,hfin⟩
  refine cT (!c4) (nT d5) ?_
  refine rs0 hc 1 [(10,I 401)] [] ?_
  refine rt ?_
  obtain rfl := os h
  exact rq [true]
 ·rintro impl_check_Kimpl_Systemhas_Kimpl_isTermOf_c1_f impl_check_Kimpl_Systemhas_Kimpl_isTermOf_c1_l0_f impl_check_Kimpl_Systemhas_Kimpl_isTermOf_c1_ih impl_check_Kimpl_Systemhas_Kimpl_isTermOf_c1_l0_ih ⟨t0,n1,clo2_0,clo3_0,d8,d9⟩ r h
  intro c hc
  refine WpL.step ?_
  refine K9m hc 1 [(1,I n1),(2,.fnb 145 [K1w clo2_0]),(3,.fn 218 [.ptr [I clo3_0.fSize,sI clo3_0.fPlus,sI clo3_0.fTimes,sB clo3_0.fBelow] 0]),(4,I d8),(5,.ra 1 0),(82,.sl (List.map K0h t0.fKids)),(83,I (t0.fKids.length : Int)),(84,I d9),(85,.bool (decide (d9 < (t0.fKids.length : Int))))] ?_
  refine sN ?_
  refine ic h (fun e0 h => ?_) fun e0 h => ?_
  ·refine sk ?_
   refine sN ?_
   refine bk 2 ?_
   obtain ⟨e1,e2,h⟩ := Qdd h
   refine rs hc none [oN,some (.el (K1y e1)),oN,some (.new 4),oN,oN] [(1,I n1),(2,.fnb 145 [K1w clo2_0]),(3,.fn 218 [.ptr [I clo3_0.fSize,sI clo3_0.fPlus,sI clo3_0.fTimes,sB clo3_0.fBelow] 0]),(4,I d8),(5,.ra 1 0),(13,I d9),(14,.ra 4 0),(82,.sl (List.map K0h t0.fKids)),(83,I (t0.fKids.length : Int)),(84,I d9)] [(1,K1x t0),(4,K1x e1)] (ai (Qdh e2 (K0o e1)) tv) ?_
   obtain ⟨e3,e4,e5,e6,h⟩ := bq2 h
   refine rs hc (rx [[0],[0],[0],[0,2],[0],[0,2,3,4],[0,1,2,3,4,5],[0],[0],[0],[10],[11]]) [oN,oN,oN,oN,oN,oc (I e3),oN,oN,oN,oN,oc (I e5),oN] [(1,I n1),(2,.fnb 145 [K1w clo2_0]),(3,.fn 218 [.ptr [I clo3_0.fSize,sI clo3_0.fPlus,sI clo3_0.fTimes,sB clo3_0.fBelow] 0]),(4,I e5),(5,.ra 1 0),(82,.sl (List.map K0h t0.fKids)),(83,I (t0.fKids.length : Int)),(84,I d9)] [(1,K1x t0)] (cq (Klf _ _ e4) K7g (cq (impl_check_Kimpl_Systemhas_Kimpl_isTermOf_c1_ih _ _ e6) K7i tv)) ?_
   refine K9m hc 2 [(1,I n1),(2,.fnb 145 [K1w clo2_0]),(3,.fn 218 [.ptr [I clo3_0.fSize,sI clo3_0.fPlus,sI clo3_0.fTimes,sB clo3_0.fBelow] 0]),(4,I e5),(5,.ra 1 0),(82,.sl (List.map K0h t0.fKids)),(83,I (t0.fKids.length : Int)),(84,I d9),(101,.bool (decide (e5 > 400)))] ?_
   refine ic h (fun e7 h => ?_) fun e7 h => ?_
   ·refine rs0 hc 1 [(10,I 401)] [] ?_
    refine rt ?_
    obtain rfl := os h
    exact re [true]
   refine sk ?_
   refine K9l hc 2 [(1,I n1),(2,.fnb 145 [K1w clo2_0]),(3,.fn 218 [.ptr [I clo3_0.fSize,sI clo3_0.fPlus,sI clo3_0.fTimes,sB clo3_0.fBelow] 0]),(4,I e5),(5,.ra 1 0),(82,.sl (List.map K0h t0.fKids)),(83,I (t0.fKids.length : Int)),(84,I (wr (d9 + 1)))] ?_
   refine Qcv ?_
   exact (impl_check_Kimpl_Systemhas_Kimpl_isTermOf_c1_l0_ih _ _ h c hc)
  refine xt 1 ?_
  refine Qcp ?_
  refine Qcw ?_
  obtain rfl := os h
  exact iv []
theorem Klm : ∀ p r,Klh p = some r → Klj p r := Kll.1
theorem Kln : ∀ p r,Kli p = some r → Klk p r := Kll.2
def Klo (p : K00 × K01 × Int) : Option (Bool) :=
 match p with
 | (s0,t1,n2) =>
  ((
  (Kit (n2,0,8)) >>= fun a0 =>
  if a0 = true then
  (Klh (t1,n2,s0,s0,0)) >>= fun a1 =>
  some ((decide (a1 ≤ 400)))
  else
  some (false)
  ) : Option (Bool)) >>= fun a2 =>
  some a2
def Klp (p : K00 × K01 × Int) (r : Bool) : Prop :=
 match p with
 | (s0,t1,n2) => Q71 Tryz.prog 172 [K1w s0,K1y t1,I n2] (.bool r) []
theorem Klq : ∀ p r,Klo p = some r → Klp p r := by
 rintro ⟨s0,t1,n2⟩ r h
 unfold Klo at h
 refine b0 Tryz.f172 K7j 18 [(0,K1w s0),(1,K1y t1),(2,I n2)] fun c hc => ?_
 refine rs hc none [some (.new 1),some (.new 2),oN] [(2,I n2),(3,.ra 1 0),(4,.ra 2 0)] [(1,K1v s0),(2,K1x t1)] tv ?_
 refine sN ?_
 obtain ⟨a0,a1,h⟩ := Qdd h
 refine Wp.into (x := .normal) (mkS [(6,.bool a0)] []) ?_ ?_
 ·replace h := a1
  obtain ⟨a2,a3,h⟩ := Qdd h
  rcases is h with ⟨a4,h⟩ | ⟨a4,h⟩
  ·obtain ⟨a5,a6,h⟩ := Qdd h
   refine rg hc none [oN,oc (.bool a2),oN,oN,oN,oN,oN,oN,oc (I a5),oN,oT,oN] [(6,.bool (decide (a5 ≤ 400)))] [] (cq (Kiv _ _ a3) K6j (ar 6 a4 (ac (Klm _ _ a6) K7i (Or.inr rfl : ([1] : List Nat) = [] ∨ noSh (I a5) = true) (ar 2 a4 tv)))) ?_
   obtain rfl := os h
   exact Qcz.mk
  refine rg hc none [oN,oc (.bool a2),oN,o_,o_,o_,o_,o_,o_,o_,oF,oN] [(6,.bool false)] [] (cq (Kiv _ _ a3) K6j (ar 7 (neT a4) (ai a4 tv))) ?_
  obtain rfl := os h
  exact Qcz.mk
 clear a1
 refine rt ?_
 obtain rfl := os h
 exact rq [true]
def Klr (c : Ctx) : LL → Exit → Q0a → Prop
 | a0 => Qcz c (.exit 0) (mkS [(3,.rs 3)] [(3,.arr (List.map K14 a0))])
def Kls (p : (List Int) × LL × Int) : Option (LL) :=
 match p with
 | (ty0,a0,a1) =>
  if (decide (a1 < (ty0.length : Int))) = true then
  (Kke (ty0,a1)) >>= fun a2 =>
  (cut ty0 (some a1) (some a2) (some a2)) >>= fun a3 =>
  (Qdq (a0.length + [a3].length) 24) >>= fun _ =>
  Kls (ty0,(a0 ++ [a3]),a2)
  else
  some (a0)
 partial_fixpoint
def Klt (p : (List Int) × LL × Int) (fl : LL) : Prop :=
 match p with
 | (ty0,a0,a1) => ∀ c : Ctx,c.nt = 23 → WpL Tryz.prog c (cl (cl (cr (cl (cr (cr K7l)))))) (Klr c fl) (mkS [(0,sI ty0),(3,.rs 3),(4,I a1)] [(3,.arr (List.map K14 a0))])
theorem Klu : ∀ p r,Kls p = some r → Klt p r := by
 refine Kls.partial_correctness Klt ?_
 rintro impl_parts_l0_f impl_parts_l0_ih ⟨ty0,a0,a1⟩ r h
 intro c hc
 refine WpL.step ?_
 refine sN ?_
 refine rss hc none [oN,oN,some (.eqv (.no) ⟨[(8,I (ty0.length : Int))],[],[]⟩),oN] [(0,sI ty0),(3,.rs 3),(4,I a1),(9,.bool (decide (a1 < (ty0.length : Int))))] (ai (Qdj (d := 8) I ty0) tv) ?_
 refine ic h (fun a2 h => ?_) fun a2 h => ?_
 ·refine sk ?_
  refine bk 1 ?_
  obtain ⟨a3,a4,h⟩ := Qdd h
  refine rss hc none [oN,oN,oc (I a3),oN] [(0,sI ty0),(3,.rs 3),(4,I a1),(5,I a3)] (cq (Kkg _ _ a4) K6z tv) ?_
  obtain ⟨a5,a6,_,a7,h⟩ := bq2 h
  refine rs hc none [oN,oN,oN,oN,oN,some (.eqv (.no) ⟨[(18,sI a5)],[],[]⟩),some (.mk 6 false),some (.eqv (.mk 7 true) ⟨[(20,.rs 7)],[(7,some (.arr (List.map K14 (a0 ++ [a5])))),(3,none),(6,none)],[7]⟩),oN] [(0,sI ty0),(3,.rs 7),(5,I a3)] [(7,.arr (List.map K14 (a0 ++ [a5])))] (ad (Qdm (d := 18) I a6) (Qdl (enc := I) (sz := 1) Qdw a6) (congrArg (fun z => (⟨[(20,.rs 7)],[(7,some (.arr z)),(3,none),(6,none)],[7]⟩ : Wr)) ((List.map_append).symm : (List.map K14 a0) ++ (List.map K14 [a5]) = List.map K14 (a0 ++ [a5]))) (Qdr (enc1 := K14) (enc2 := K14) (e1 := a0) (e2 := [a5]) (sz := 1) K17 K17 a7) tv) ?_
  refine K9l hc 2 [(0,sI ty0),(3,.rs 7),(4,I a3)] ?_
  refine Qcv ?_
  exact WpL.view (fun a w hv => SRx.renL [(3,7)] hv (by kernel_rfl) (by kernel_rfl) (by kernel_rfl)) (impl_parts_l0_ih _ _ h c hc)
 refine xt 0 ?_
 refine Qcp ?_
 refine Qcw ?_
 obtain rfl := os h
 exact iv []
def Klv (ty0 : (List Int)) : Option (LL) :=
 (Kls (ty0,[],1)) >>= fun a0 =>
 some a0
def Klw (ty0 : (List Int)) (r : LL) : Prop :=
 Q71 Tryz.prog 158 [sI ty0] (.osl (List.map K14 r)) []
theorem Klx : ∀ p r,Klv p = some r → Klw p r := by
 rintro ty0 r h
 unfold Klv at h
 refine b0 Tryz.f158 K7l 23 [(0,sI ty0)] fun c hc => ?_
 refine rs0 hc 1 [(0,sI ty0)] [] ?_
 refine rs0 hc 1 [(0,sI ty0),(3,.nils)] [] ?_
 refine sN ?_
 refine rs0 hc 1 [(0,sI ty0),(3,.nils),(4,I 1)] [] ?_
 refine bk 0 ?_
 obtain ⟨a0,a1,h⟩ := Qdd h
 have hL := Klu _ _ a1 c hc
 refine Wp.loopN (by kernel_rfl) (WpL.view (fun a w hv => SRx.renL [(3,8)] (SRx.nilTL 3 8 hv (by kernel_rfl) (by kernel_rfl)) (by kernel_rfl) (by kernel_rfl) (by kernel_rfl)) (?_ : WpL _ c _ _ (mkS [(0,sI ty0),(3,.rs 3),(4,I 1)] [(3,.arr (List.map K14 []))])))
 refine WpL.into (e := (.exit 0)) (mkS [(3,.rs 3)] [(3,.arr (List.map K14 a0))]) hL ?_
 refine Qcr ?_
 refine K9m hc 2 [(2,.rs 3)] ?_
 refine rt ?_
 obtain rfl := os h
 exact rq [true]
def Kly (p : K01 × Int × (List Int)) : Option (LL) :=
 match p with
 | (t0,kid1,first2) =>
  if (t0.fOp == 9) = true then
  some [t0.fType]
  else
  (Kld (t0.fOp,kid1)) >>= fun a0 =>
  if (a0 == 0) = true then
  some []
  else
  (Klv first2) >>= fun a1 =>
  if (t0.fOp == 5) = true then
  (idx a1 1) >>= fun a2 =>
  (idx a1 0) >>= fun a3 =>
  some [a2,a3]
  else
  if (t0.fOp == 8) = true then
  (idx a1 (wr (kid1 - 1))) >>= fun a4 =>
  some [a4]
  else
  some a1
def Klz (p : K01 × Int × (List Int)) (r : LL) : Prop :=
 match p with
 | (t0,kid1,first2) => Q71 Tryz.prog 219 [K1y t0,I kid1,sI first2] (.osl (List.map K14 r)) []
theorem Km0 : ∀ p r,Kly p = some r → Klz p r := by
 rintro ⟨t0,kid1,first2⟩ r h
 unfold Kly at h
 refine b0 Tryz.f219 K7n 43 [(0,K1y t0),(1,I kid1),(2,sI first2)] fun c hc => ?_
 refine rs hc none [some (.new 1),oN] [(1,I kid1),(2,sI first2),(3,.ra 1 0)] [(1,K1x t0)] tv ?_
 refine sN ?_
 refine bk 0 ?_
 refine K9m hc 4 [(1,I kid1),(2,sI first2),(3,.ra 1 0),(8,.bool (t0.fOp == 9))] ?_
 refine ic h (fun a0 h => ?_) fun a0 h => ?_
 ·refine rs hc none [oN,oN,some (.mk 2 false),oN] [(6,.rs 2)] [(2,.arr (List.map K14 [t0.fType]))] tv ?_
  refine rt ?_
  obtain rfl := os h
  exact rq [true]
 obtain ⟨a1,a2,h⟩ := Qdd h
 refine rss hc none [oN,oN,oN,oc (I a1),oN,oN] [(1,I kid1),(2,sI first2),(3,.ra 1 0),(15,.bool (a1 == 0))] (cq (Klf _ _ a2) K7g tv) ?_
 refine ic h (fun a3 h => ?_) fun a3 h => ?_
 ·refine rs0 hc 1 [(6,.nils)] [] ?_
  refine rt ?_
  obtain rfl := os h
  exact rq [true]
 refine sk ?_
 obtain ⟨a4,a5,h⟩ := Qdd h
 refine rs hc none [oN,some (.call (.osl (List.map K14 a4)) [] 3),oN] [(1,I kid1),(3,.ra 1 0),(7,.rs 3)] [(1,K1x t0),(3,.arr (List.map K14 a4))] (cq (Klx _ _ a5) K7m tv) ?_
 refine sN ?_
 refine rs0 hc 2 [(1,I kid1),(7,.rs 3),(24,I t0.fOp)] [(3,.arr (List.map K14 a4))] ?_
 refine bk 1 ?_
 refine K9m hc 2 [(1,I kid1),(7,.rs 3),(24,I t0.fOp),(25,.bool (t0.fOp == 5))] ?_
 refine ic h (fun a6 h => ?_) fun a6 h => ?_
 ·obtain ⟨a7,a8,a9,b1,h⟩ := bq2 h
  refine rs hc (rx [[0],[1],[2],[0],[0,3],[0,3,4],[6],[7]]) [oN,oN,some (.el (sI a7)),oN,oN,some (.el (sI a9)),some (.mk 4 false),oN] [(6,.rs 4)] [(4,.arr (List.map K14 [a7,a9]))] (ad (Qdi (enc := K14) a8) (xL a8).2 (Qdi (enc := K14) b1) (xL b1).2 tv) ?_
  refine rt ?_
  obtain rfl := os h
  exact rq [true]
 refine K9m hc 2 [(1,I kid1),(7,.rs 3),(34,.bool (t0.fOp == 8))] ?_
 refine ic h (fun b2 h => ?_) fun b2 h => ?_
 ·obtain ⟨b3,b4,h⟩ := Qdd h
  refine rs hc none [oN,oN,oN,oN,some (.el (sI b3)),some (.mk 5 false),oN] [(6,.rs 5)] [(5,.arr (List.map K14 [b3]))] (ab (Qdi (enc := K14) b4) (xL b4).2 tv) ?_
  refine rt ?_
  obtain rfl := os h
  exact rq [true]
 refine sk ?_
 refine K9m hc 2 [(6,.rs 3)] ?_
 refine rt ?_
 obtain rfl := os h
 exact rq [true]
def Km1 (n1 : Int) : Option (Unit) :=
 if (decide (n1 < 0)) = true then
 none
 else
 if (decide ((wr (n1 - (wr (0 - 0)))) > 0)) = true then
 (chk (0 ≤ (wr (n1 - (wr (0 - 0)))) ∧ (Int.toNat (wr (n1 - (wr (0 - 0))))) * 24 ≤ 140737488355328)) >>= fun _ =>
 some ()
 else
 some ()
def Km2 (n1 : Int) (r : Unit) : Prop :=
 Q9v Tryz.prog 242 n1
theorem Km3 : ∀ p r,Km1 p = some r → Km2 p r := by
 rintro n1 r h
 unfold Km1 at h
 show Q9v Tryz.prog 242 n1
 refine Q9v.of_body K34 (fn := Tryz.f242) (code := K7p) (by kernel_rfl) (by kernel_rfl) (nt := 27) (by kernel_rfl) (by kernel_rfl) (fun c hc => ?_)
 refine rs0 hc 1 [(0,.nils),(1,I n1)] [] ?_
 refine sN ?_
 refine rs0 hc 2 [(0,.nils),(1,I n1),(6,.bool (decide (n1 < 0)))] [] ?_
 refine ic h (fun a0 h => ?_) fun a0 h => ?_
 ·cases h
 refine sk ?_
 refine sN ?_
 refine rs0 hc 8 [(0,.nils),(1,I (wr (n1 - (wr (0 - 0)))))] [] ?_
 refine rs0 hc 2 [(0,.nils),(1,I (wr (n1 - (wr (0 - 0))))),(16,.bool (decide ((wr (n1 - (wr (0 - 0)))) > 0)))] [] ?_
 refine ic h (fun a1 h => ?_) fun a1 h => ?_
 ·obtain ⟨_,a2,h⟩ := Qdd h
  refine rg hc none [oN,oN,oN,oN,oN,some (.new 1),oN,oN,some (.new 2),oN] [(0,.rs 2)] [(2,.ary (List.map K14 []))] (ai (Qdf a2) tv) ?_
  refine K9m hc 2 [(4,.rs 2)] ?_
  refine rt ?_
  exact Qew.ret (by kernel_rfl)
 refine sk ?_
 refine rs0 hc 2 [(4,.nils)] [] ?_
 refine rt ?_
 exact Qew.ret (by kernel_rfl)
def Km4 (c : Ctx) (slices0 : List LL) : Int → Exit → Q0a → Prop
 | a0 => Qcz c (.exit 0) (mkS [(0,.sl (List.map K1q slices0)),(3,I a0)] [])
def Km5 (p : (List LL) × Int × Int) : Option (Int) :=
 match p with
 | (slices0,a0,a1) =>
  if (decide (a1 < (slices0.length : Int))) = true then
  (idx slices0 a1) >>= fun a2 =>
  ((
  if (decide ((wr (a0 + (a2.length : Int))) < 0)) = true then
  none
  else
  some (())
  ) : Option (Unit)) >>= fun () =>
  Km5 (slices0,(wr (a0 + (a2.length : Int))),(wr (a1 + 1)))
  else
  some (a0)
 partial_fixpoint
def Km6 (p : (List LL) × Int × Int) (fl : Int) : Prop :=
 match p with
 | (slices0,a0,a1) => ∀ c : Ctx,c.nt = 36 → WpL Tryz.prog c (cl (cl (cr (cl (cr (cr K7r)))))) (Km4 c slices0 fl) (mkS [(0,.sl (List.map K1q slices0)),(3,I a0),(9,.sl (List.map K1q slices0)),(10,I (slices0.length : Int)),(11,I a1)] [])
theorem Km7 : ∀ p r,Km5 p = some r → Km6 p r := by
 refine Km5.partial_correctness Km6 ?_
 rintro slices_Concat_Lint_l0_f slices_Concat_Lint_l0_ih ⟨slices0,a0,a1⟩ r h
 intro c hc
 refine WpL.step ?_
 refine rs0 hc 1 [(0,.sl (List.map K1q slices0)),(3,I a0),(9,.sl (List.map K1q slices0)),(10,I (slices0.length : Int)),(11,I a1),(12,.bool (decide (a1 < (slices0.length : Int))))] [] ?_
 refine sN ?_
 refine ic h (fun a2 h => ?_) fun a2 h => ?_
 ·refine sk ?_
  refine sN ?_
  refine bk 1 ?_
  obtain ⟨a3,a4,h⟩ := Qdd h
  refine rs hc none [some (.el (sL a3)),oN,oN] [(0,.sl (List.map K1q slices0)),(3,I a0),(5,sL a3),(9,.sl (List.map K1q slices0)),(10,I (slices0.length : Int)),(11,I a1)] [] (ai (Qdh a4 (K1r a3)) tv) ?_
  refine rs hc none [oN,oN,some (.eqv (.no) ⟨[(17,I (a3.length : Int))],[],[]⟩),oN,oN] [(0,.sl (List.map K1q slices0)),(3,I (wr (a0 + (a3.length : Int)))),(9,.sl (List.map K1q slices0)),(10,I (slices0.length : Int)),(11,I a1)] [] (ai (Qdj (d := 17) K14 a3) tv) ?_
  refine rs0 hc 2 [(0,.sl (List.map K1q slices0)),(3,I (wr (a0 + (a3.length : Int)))),(9,.sl (List.map K1q slices0)),(10,I (slices0.length : Int)),(11,I a1),(20,.bool (decide ((wr (a0 + (a3.length : Int))) < 0)))] [] ?_
  obtain ⟨⟨⟩,a5,h⟩ := Qdd h
  refine Wp.into (x := .normal) (mkS [(0,.sl (List.map K1q slices0)),(3,I (wr (a0 + (a3.length : Int)))),(9,.sl (List.map K1q slices0)),(10,I (slices0.length : Int)),(11,I a1)] []) ?_ ?_
  ·replace h := a5
   refine ic h (fun a6 h => ?_) fun a6 h => ?_
   ·cases h
   refine sk ?_
   exact iv []
  clear a5
  refine rg0 hc 2 [(0,.sl (List.map K1q slices0)),(3,I (wr (a0 + (a3.length : Int)))),(9,.sl (List.map K1q slices0)),(10,I (slices0.length : Int)),(11,I (wr (a1 + 1)))] [] ?_
  refine Qcv ?_
  exact (slices_Concat_Lint_l0_ih _ _ h c hc)
 refine xt 0 ?_
 refine Qcp ?_
 refine Qcw ?_
 obtain rfl := os h
 exact iv []
def Km8 (c : Ctx) : LL → Exit → Q0a → Prop
 | a0 => Qcz c (.exit 2) (mkS [(6,.rs 1)] [(1,.ary (List.map K14 a0))])
def Km9 (p : (List LL) × LL × Int) : Option (LL) :=
 match p with
 | (slices0,a0,a1) =>
  if (decide (a1 < (slices0.length : Int))) = true then
  (idx slices0 a1) >>= fun a2 =>
  (Qdq (a0.length + a2.length) 24) >>= fun _ =>
  Km9 (slices0,(a0 ++ a2),(wr (a1 + 1)))
  else
  some (a0)
 partial_fixpoint
def Kma (p : (List LL) × LL × Int) (fl : LL) : Prop :=
 match p with
 | (slices0,a0,a1) => ∀ c : Ctx,c.nt = 36 → WpL Tryz.prog c (cl (cl (cr (cl (cr (cr (cr (cr K7r)))))))) (Km8 c fl) (mkS [(6,.rs 1),(25,.sl (List.map K1q slices0)),(26,I (slices0.length : Int)),(27,I a1)] [(1,.ary (List.map K14 a0))])
theorem Kmb : ∀ p r,Km9 p = some r → Kma p r := by
 refine Km9.partial_correctness Kma ?_
 rintro slices_Concat_Lint_l1_f slices_Concat_Lint_l1_ih ⟨slices0,a0,a1⟩ r h
 intro c hc
 refine WpL.step ?_
 refine K9m hc 1 [(6,.rs 1),(25,.sl (List.map K1q slices0)),(26,I (slices0.length : Int)),(27,I a1),(28,.bool (decide (a1 < (slices0.length : Int))))] ?_
 refine sN ?_
 refine ic h (fun a2 h => ?_) fun a2 h => ?_
 ·refine sk ?_
  refine sN ?_
  refine bk 3 ?_
  obtain ⟨a3,a4,h⟩ := Qdd h
  refine rss hc none [some (.el (sL a3)),oN,oN] [(6,.rs 1),(8,sL a3),(25,.sl (List.map K1q slices0)),(26,I (slices0.length : Int)),(27,I a1)] (ai (Qdh a4 (K1r a3)) tv) ?_
  obtain ⟨_,a5,h⟩ := Qdd h
  refine rg hc none [oN,oN,some (.eqv (.new 3) ⟨[(33,.rs 3)],[(3,some (.ary (List.map K14 (a0 ++ a3)))),(1,none)],[3]⟩),oN] [(6,.rs 3),(25,.sl (List.map K1q slices0)),(26,I (slices0.length : Int)),(27,I a1)] [(3,.ary (List.map K14 (a0 ++ a3)))] (ab (congrArg (fun z => (⟨[(33,.rs 3)],[(3,some (.ary z)),(1,none)],[3]⟩ : Wr)) ((List.map_append).symm : (List.map K14 a0) ++ (List.map K14 a3) = List.map K14 (a0 ++ a3))) (Qez (enc := K14) (e1 := a0) (e2 := a3) (fun _ => rfl) a5) tv) ?_
  refine K9l hc 2 [(6,.rs 3),(25,.sl (List.map K1q slices0)),(26,I (slices0.length : Int)),(27,I (wr (a1 + 1)))] ?_
  refine Qcv ?_
  exact WpL.view (fun a w hv => SRx.renL [(1,3)] hv (by kernel_rfl) (by kernel_rfl) (by kernel_rfl)) (slices_Concat_Lint_l1_ih _ _ h c hc)
 refine xt 2 ?_
 refine Qcp ?_
 refine Qcw ?_
 obtain rfl := os h
 exact iv []
def Kmc (slices0 : (List LL)) : Option (LL) :=
 (Km5 (slices0,0,0)) >>= fun a0 =>
 (Km1 a0) >>= fun _ =>
 (Km9 (slices0,[],0)) >>= fun a1 =>
 some a1
def Kmd (slices0 : (List LL)) (r : LL) : Prop :=
 Q71 Tryz.prog 220 [.sl (List.map K1q slices0)] (sL r) []
theorem Kme : ∀ p r,Kmc p = some r → Kmd p r := by
 rintro slices0 r h
 unfold Kmc at h
 refine b0 Tryz.f220 K7r 36 [(0,.sl (List.map K1q slices0))] fun c hc => ?_
 refine rs0 hc 1 [(0,.sl (List.map K1q slices0))] [] ?_
 refine rs0 hc 1 [(0,.sl (List.map K1q slices0)),(3,I 0)] [] ?_
 refine sN ?_
 refine rs hc none [oN,some (.eqv (.no) ⟨[(10,I (slices0.length : Int))],[],[]⟩),oN] [(0,.sl (List.map K1q slices0)),(3,I 0),(9,.sl (List.map K1q slices0)),(10,I (slices0.length : Int)),(11,I 0)] [] (ai (Qdj (d := 10) K1q slices0) tv) ?_
 refine bk 0 ?_
 obtain ⟨a0,a1,h⟩ := Qdd h
 have hL := Km7 _ _ a1 c hc
 refine lp ?_
 refine WpL.into (e := (.exit 0)) (mkS [(0,.sl (List.map K1q slices0)),(3,I a0)] []) hL ?_
 refine Qcr ?_
 obtain ⟨_,a2,h⟩ := Qdd h
 refine rs hc none [oN,some (.new 1),oN] [(0,.sl (List.map K1q slices0)),(6,.rs 1)] [(1,.ary (List.map K14 []))] (ab (Km3 _ _ a2) K7q tv) ?_
 refine sN ?_
 refine rss hc none [oN,some (.eqv (.no) ⟨[(26,I (slices0.length : Int))],[],[]⟩),oN] [(6,.rs 1),(25,.sl (List.map K1q slices0)),(26,I (slices0.length : Int)),(27,I 0)] (ai (Qdj (d := 26) K1q slices0) tv) ?_
 refine bk 2 ?_
 obtain ⟨a3,a4,h⟩ := Qdd h
 have hL := Kmb _ _ a4 c hc
 refine lp ?_
 refine WpL.into (e := (.exit 2)) (mkS [(6,.rs 1)] [(1,.ary (List.map K14 a3))]) hL ?_
 refine Qcr ?_
 refine K9m hc 2 [(2,.rs 1)] ?_
 refine Wp.view (fun a w hv => SRx.frzYL 1 (xs := List.map K14 a3) hv (by kernel_rfl) (by kernel_rfl) (by kernel_rfl)) (?_ : Wp Tryz.prog c _ _ (mkS [(2,sL a3)] []))
 refine rt ?_
 obtain rfl := os h
 exact rq [false]
end Go.Am
