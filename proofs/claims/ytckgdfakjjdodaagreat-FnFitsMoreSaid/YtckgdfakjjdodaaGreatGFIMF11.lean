/- Walks, printed. -/
import Derived.Test.YtckgdfakjjdodaaGreatGFIMF8
set_option linter.unusedVariables false
set_option linter.unusedSimpArgs false
set_option maxRecDepth 100000
namespace Go.Am
open Go Go.Proofs
def Kmf : Option (List (List Nat)) := rx [[0],[0],[0],[0],[0],[0,3,4],[0,3,4,5],[0],[0],[0,7,8],[0,7,8,9],[0,2,3,4,5,6,7,8,9,10],[12],[13]]
def Kmg (p : K06 × K01 × Int × (List Int)) : Option (Int) :=
 match p with
 | (p0,t1,kid2,ty3) =>
  (idx ty3 0) >>= fun a0 =>
  (Kkb a0) >>= fun (a1,a2) =>
  ((
  if (t1.fOp == 2) = true then
  some ((t1.fOp == 2))
  else
  ((
  if (t1.fOp == 3) = true then
  some ((kid2 == 0))
  else
  some (false)
  ) : Option (Bool)) >>= fun a3 =>
  some (a3)
  ) : Option (Bool)) >>= fun a4 =>
  ((
  if a4 = true then
  some ((0,2))
  else
  ((
  if (t1.fOp == 5) = true then
  some ((kid2 == 0))
  else
  some (false)
  ) : Option (Bool)) >>= fun a5 =>
  ((
  if a5 = true then
  some ((1,4))
  else
  ((
  if (t1.fOp == 8) = true then
  some ((kid2 == 0))
  else
  some (false)
  ) : Option (Bool)) >>= fun a6 =>
  ((
  if a6 = true then
  some ((2,5))
  else
  ((
  if (t1.fOp == 10) = true then
  some ((kid2 == 0))
  else
  some (false)
  ) : Option (Bool)) >>= fun a7 =>
  ((
  if a7 = true then
  some ((3,6))
  else
  ((
  if (t1.fOp == 12) = true then
  some ((kid2 == 0))
  else
  some (false)
  ) : Option (Bool)) >>= fun a8 =>
  ((
  if a8 = true then
  some ((4,7))
  else
  some (((-1),0))
  ) : Option (Int × Int)) >>= fun (a9,b1) =>
  some ((a9,b1))
  ) : Option (Int × Int)) >>= fun (b2,b3) =>
  some ((b2,b3))
  ) : Option (Int × Int)) >>= fun (b4,b5) =>
  some ((b4,b5))
  ) : Option (Int × Int)) >>= fun (b6,b7) =>
  some ((b6,b7))
  ) : Option (Int × Int)) >>= fun (b8,b9) =>
  ((
  if (decide (b8 ≥ 0)) = true then
  some ((a1 != b8))
  else
  some (false)
  ) : Option (Bool)) >>= fun c0 =>
  if c0 = true then
  some b9
  else
  ((
  if (kid2 == 0) = true then
  if (t1.fOp == 5) = true then
  (Kj5 (p0.fs,1,t1.fN)) >>= fun c1 =>
  some ((!c1))
  else
  if (t1.fOp == 8) = true then
  (Kj5 (p0.fs,1,t1.fN)) >>= fun c1 =>
  some ((!c1))
  else
  if (t1.fOp == 12) = true then
  (Kj5 (p0.fs,1,t1.fN)) >>= fun c1 =>
  some ((!c1))
  else
  some (false)
  else
  some (false)
  ) : Option (Bool)) >>= fun c2 =>
  if c2 = true then
  some 8
  else
  some 0
def Kmh (p : K06 × K01 × Int × (List Int)) (r : Int) : Prop :=
 match p with
 | (p0,t1,kid2,ty3) => Q71 Tryz.prog 221 [K26 p0,K1y t1,I kid2,sI ty3] (I r) []
theorem Kmi : ∀ p r,Kmg p = some r → Kmh p r := by
 rintro ⟨p0,t1,kid2,ty3⟩ r h
 unfold Kmg at h
 refine b0 Tryz.f221 K7v 96 [(0,K26 p0),(1,K1y t1),(2,I kid2),(3,sI ty3)] fun c hc => ?_
 refine rs hc none [some (.new 1),some (.new 2),oN] [(2,I kid2),(3,sI ty3),(4,.ra 1 0),(5,.ra 2 0)] [(1,K25 p0),(2,K1x t1)] tv ?_
 obtain ⟨a0,a1,⟨a2,a3⟩,a4,h⟩ := bq2 h
 refine rss hc none [oN,some (.el (I a0)),oN,oc (.tup [I a2,I a3]),oN,oN,oN,oN,oN] [(2,I kid2),(4,.ra 1 0),(5,.ra 2 0),(9,I a2)] (ai (ix a1) (cq (Kkd _ _ a4) K6x tv)) ?_
 refine K9m hc 2 [(2,I kid2),(4,.ra 1 0),(5,.ra 2 0),(9,I a2),(11,I (-1)),(12,I 0)] ?_
 refine sN ?_
 refine bk 0 ?_
 refine sN ?_
 refine K9m hc 4 [(2,I kid2),(4,.ra 1 0),(5,.ra 2 0),(9,I a2),(11,I (-1)),(12,I 0),(20,.bool (t1.fOp == 2))] ?_
 obtain ⟨a5,a6,h⟩ := Qdd h
 refine Wp.into (x := .normal) (mkS [(2,I kid2),(4,.ra 1 0),(5,.ra 2 0),(9,I a2),(11,I (-1)),(12,I 0),(20,.bool a5)] [(1,K25 p0),(2,K1x t1)]) ?_ ?_
 ·replace h := a6
  refine ic h (fun a7 h => ?_) fun a7 h => ?_
  ·refine sk ?_
   obtain rfl := os h
   exact Qcz.mk
  obtain ⟨a8,a9,h⟩ := Qdd h
  refine Wp.into (x := .normal) (mkS [(2,I kid2),(4,.ra 1 0),(5,.ra 2 0),(9,I a2),(11,I (-1)),(12,I 0),(20,.bool a8)] [(1,K25 p0),(2,K1x t1)]) ?_ ?_
  ·replace h := a9
   rcases is h with ⟨b1,h⟩ | ⟨b1,h⟩
   ·refine rgs hc none [oN,oN,oN,oN,oN,oN,oT,oN] [(2,I kid2),(4,.ra 1 0),(5,.ra 2 0),(9,I a2),(11,I (-1)),(12,I 0),(20,.bool (kid2 == 0))] (ar 3 b1 tv) ?_
    obtain rfl := os h
    exact Qcz.mk
   refine rgs hc none [oN,oN,oN,oN,o_,o_,oF,oN] [(2,I kid2),(4,.ra 1 0),(5,.ra 2 0),(9,I a2),(11,I (-1)),(12,I 0),(20,.bool false)] (ar 2 (neT b1) (ai b1 tv)) ?_
   obtain rfl := os h
   exact Qcz.mk
  clear a9
  obtain rfl := os h
  exact Qcz.mk
 clear a6
 obtain ⟨⟨b2,b3⟩,b4,h⟩ := Qdd h
 refine Wp.into (x := .normal) (mkS [(2,I kid2),(4,.ra 1 0),(5,.ra 2 0),(9,I a2),(11,I b2),(12,I b3)] [(1,K25 p0),(2,K1x t1)]) ?_ ?_
 ·replace h := b4
  refine ic h (fun b5 h => ?_) fun b5 h => ?_
  ·refine K9l hc 2 [(2,I kid2),(4,.ra 1 0),(5,.ra 2 0),(9,I a2),(11,I 0),(12,I 2)] ?_
   obtain ⟨rfl,rfl⟩ := Prod.mk.inj (Option.some.inj h)
   exact Qcz.mk
  refine sN ?_
  obtain ⟨b6,b7,h⟩ := Qdd h
  refine Wp.into (x := .normal) (mkS [(2,I kid2),(4,.ra 1 0),(5,.ra 2 0),(9,I a2),(11,I (-1)),(12,I 0),(31,.bool b6)] [(1,K25 p0),(2,K1x t1)]) ?_ ?_
  ·replace h := b7
   rcases is h with ⟨b8,h⟩ | ⟨b8,h⟩
   ·refine rgs hc none [oN,oN,oN,oN,oN,oN,oT,oN] [(2,I kid2),(4,.ra 1 0),(5,.ra 2 0),(9,I a2),(11,I (-1)),(12,I 0),(31,.bool (kid2 == 0))] (ar 3 b8 tv) ?_
    obtain rfl := os h
    exact Qcz.mk
   refine rgs hc none [oN,oN,oN,oN,o_,o_,oF,oN] [(2,I kid2),(4,.ra 1 0),(5,.ra 2 0),(9,I a2),(11,I (-1)),(12,I 0),(31,.bool false)] (ar 2 (neT b8) (ai b8 tv)) ?_
   obtain rfl := os h
   exact Qcz.mk
  clear b7
  obtain ⟨⟨b9,c0⟩,c1,h⟩ := Qdd h
  refine Wp.into (x := .normal) (mkS [(2,I kid2),(4,.ra 1 0),(5,.ra 2 0),(9,I a2),(11,I b9),(12,I c0)] [(1,K25 p0),(2,K1x t1)]) ?_ ?_
  ·replace h := c1
   refine ic h (fun c2 h => ?_) fun c2 h => ?_
   ·refine K9l hc 2 [(2,I kid2),(4,.ra 1 0),(5,.ra 2 0),(9,I a2),(11,I 1),(12,I 4)] ?_
    obtain ⟨rfl,rfl⟩ := Prod.mk.inj (Option.some.inj h)
    exact Qcz.mk
   refine sN ?_
   obtain ⟨c3,c4,h⟩ := Qdd h
   refine Wp.into (x := .normal) (mkS [(2,I kid2),(4,.ra 1 0),(5,.ra 2 0),(9,I a2),(11,I (-1)),(12,I 0),(39,.bool c3)] [(1,K25 p0),(2,K1x t1)]) ?_ ?_
   ·replace h := c4
    rcases is h with ⟨c5,h⟩ | ⟨c5,h⟩
    ·refine rgs hc none [oN,oN,oN,oN,oN,oN,oT,oN] [(2,I kid2),(4,.ra 1 0),(5,.ra 2 0),(9,I a2),(11,I (-1)),(12,I 0),(39,.bool (kid2 == 0))] (ar 3 c5 tv) ?_
     obtain rfl := os h
     exact Qcz.mk
    refine rgs hc none [oN,oN,oN,oN,o_,o_,oF,oN] [(2,I kid2),(4,.ra 1 0),(5,.ra 2 0),(9,I a2),(11,I (-1)),(12,I 0),(39,.bool false)] (ar 2 (neT c5) (ai c5 tv)) ?_
    obtain rfl := os h
    exact Qcz.mk
   clear c4
   obtain ⟨⟨c6,c7⟩,c8,h⟩ := Qdd h
   refine Wp.into (x := .normal) (mkS [(2,I kid2),(4,.ra 1 0),(5,.ra 2 0),(9,I a2),(11,I c6),(12,I c7)] [(1,K25 p0),(2,K1x t1)]) ?_ ?_
   ·replace h := c8
    refine ic h (fun c9 h => ?_) fun c9 h => ?_
    ·refine K9l hc 2 [(2,I kid2),(4,.ra 1 0),(5,.ra 2 0),(9,I a2),(11,I 2),(12,I 5)] ?_
     obtain ⟨rfl,rfl⟩ := Prod.mk.inj (Option.some.inj h)
     exact Qcz.mk
    refine sN ?_
    obtain ⟨d0,d1,h⟩ := Qdd h
    refine Wp.into (x := .normal) (mkS [(2,I kid2),(4,.ra 1 0),(5,.ra 2 0),(9,I a2),(11,I (-1)),(12,I 0),(47,.bool d0)] [(1,K25 p0),(2,K1x t1)]) ?_ ?_
    ·replace h := d1
     rcases is h with ⟨d2,h⟩ | ⟨d2,h⟩
     ·refine rgs hc none [oN,oN,oN,oN,oN,oN,oT,oN] [(2,I kid2),(4,.ra 1 0),(5,.ra 2 0),(9,I a2),(11,I (-1)),(12,I 0),(47,.bool (kid2 == 0))] (ar 3 d2 tv) ?_
      obtain rfl := os h
      exact Qcz.mk
     refine rgs hc none [oN,oN,oN,oN,o_,o_,oF,oN] [(2,I kid2),(4,.ra 1 0),(5,.ra 2 0),(9,I a2),(11,I (-1)),(12,I 0),(47,.bool false)] (ar 2 (neT d2) (ai d2 tv)) ?_
     obtain rfl := os h
     exact Qcz.mk
    clear d1
    obtain ⟨⟨d3,d4⟩,d5,h⟩ := Qdd h
    refine Wp.into (x := .normal) (mkS [(2,I kid2),(4,.ra 1 0),(5,.ra 2 0),(9,I a2),(11,I d3),(12,I d4)] [(1,K25 p0),(2,K1x t1)]) ?_ ?_
    ·replace h := d5
     refine ic h (fun d6 h => ?_) fun d6 h => ?_
     ·refine K9l hc 2 [(2,I kid2),(4,.ra 1 0),(5,.ra 2 0),(9,I a2),(11,I 3),(12,I 6)] ?_
      obtain ⟨rfl,rfl⟩ := Prod.mk.inj (Option.some.inj h)
      exact Qcz.mk
     refine sN ?_
     obtain ⟨d7,d8,h⟩ := Qdd h
     refine Wp.into (x := .normal) (mkS [(2,I kid2),(4,.ra 1 0),(5,.ra 2 0),(9,I a2),(11,I (-1)),(12,I 0),(55,.bool d7)] [(1,K25 p0),(2,K1x t1)]) ?_ ?_
     ·replace h := d8
      rcases is h with ⟨d9,h⟩ | ⟨d9,h⟩
      ·refine rgs hc none [oN,oN,oN,oN,oN,oN,oT,oN] [(2,I kid2),(4,.ra 1 0),(5,.ra 2 0),(9,I a2),(11,I (-1)),(12,I 0),(55,.bool (kid2 == 0))] (ar 3 d9 tv) ?_
       obtain rfl := os h
       exact Qcz.mk
      refine rgs hc none [oN,oN,oN,oN,o_,o_,oF,oN] [(2,I kid2),(4,.ra 1 0),(5,.ra 2 0),(9,I a2),(11,I (-1)),(12,I 0),(55,.bool false)] (ar 2 (neT d9) (ai d9 tv)) ?_
      obtain rfl := os h
      exact Qcz.mk
     clear d8
     obtain ⟨⟨e0,e1⟩,e2,h⟩ := Qdd h
     refine Wp.into (x := .normal) (mkS [(2,I kid2),(4,.ra 1 0),(5,.ra 2 0),(9,I a2),(11,I e0),(12,I e1)] [(1,K25 p0),(2,K1x t1)]) ?_ ?_
     ·replace h := e2
      refine ic h (fun e3 h => ?_) fun e3 h => ?_
      ·refine K9l hc 2 [(2,I kid2),(4,.ra 1 0),(5,.ra 2 0),(9,I a2),(11,I 4),(12,I 7)] ?_
       obtain ⟨rfl,rfl⟩ := Prod.mk.inj (Option.some.inj h)
       exact Qcz.mk
      refine sk ?_
      obtain ⟨rfl,rfl⟩ := Prod.mk.inj (Option.some.inj h)
      exact iv []
     clear e2
     obtain ⟨rfl,rfl⟩ := Prod.mk.inj (Option.some.inj h)
     exact Qcz.mk
    clear d5
    obtain ⟨rfl,rfl⟩ := Prod.mk.inj (Option.some.inj h)
    exact Qcz.mk
   clear c8
   obtain ⟨rfl,rfl⟩ := Prod.mk.inj (Option.some.inj h)
   exact Qcz.mk
  clear c1
  obtain ⟨rfl,rfl⟩ := Prod.mk.inj (Option.some.inj h)
  exact Qcz.mk
 clear b4
 refine sN ?_
 refine sN ?_
 obtain ⟨e4,e5,h⟩ := Qdd h
 refine Wp.into (x := .normal) (mkS [(2,I kid2),(4,.ra 1 0),(5,.ra 2 0),(12,I b3),(69,.bool e4)] [(1,K25 p0),(2,K1x t1)]) ?_ ?_
 ·replace h := e5
  rcases is h with ⟨e6,h⟩ | ⟨e6,h⟩
  ·refine rgs hc none [oN,oN,oN,oN,oN,oN,oT] [(2,I kid2),(4,.ra 1 0),(5,.ra 2 0),(12,I b3),(69,.bool (a2 != b2))] (ar 4 e6 tv) ?_
   obtain rfl := os h
   exact Qcz.mk
  refine rgs hc none [oN,oN,oN,o_,o_,o_,oF] [(2,I kid2),(4,.ra 1 0),(5,.ra 2 0),(12,I b3),(69,.bool false)] (ar 3 (neT e6) (ai e6 tv)) ?_
  obtain rfl := os h
  exact Qcz.mk
 clear e5
 refine ic h (fun e7 h => ?_) fun e7 h => ?_
 ·refine rs0 hc 2 [(8,I b3)] [] ?_
  refine rt ?_
  obtain rfl := os h
  exact rq [true]
 refine sk ?_
 refine sN ?_
 refine sN ?_
 obtain ⟨e8,e9,h⟩ := Qdd h
 refine Wp.into (x := .normal) (mkS [(95,.bool e8)] []) ?_ ?_
 ·replace h := e9
  rcases is h with ⟨f0,h⟩ | ⟨f0,h⟩
  ·rcases is h with ⟨f1,h⟩ | ⟨f1,h⟩
   ·obtain ⟨f2,f3,h⟩ := Qdd h
    refine rg hc none [oN,oN,oN,oN,oN,oN,oN,o_,o_,o_,oT,oN,o_,o_,o_,oT,oT,oN,oN,oN,oN,oN,oc (.bool f2),oN,oT] [(95,.bool (!f2))] [] (ar 4 f0 (ar 3 (neF f1) (ac f0 f1 f0 (ar 3 nf (ac f0 tt f0 (ar 5 tt (cq (Kj7 _ _ f3) K6q (ar 2 tt tv)))))))) ?_
    obtain rfl := os h
    exact Qcz.mk
   rcases is h with ⟨f4,h⟩ | ⟨f4,h⟩
   ·obtain ⟨f2,f3,h⟩ := Qdd h
    refine rg hc none [oN,oN,oN,oN,oN,oN,oN,oN,oN,oN,oF,oN,o_,o_,o_,oT,oT,oN,oN,oN,oN,oN,oc (.bool f2),oN,oT] [(95,.bool (!f2))] [] (ar 4 f0 (ar 3 f1 (ac f0 f1 f0 (ar 3 (neF f4) (ac f0 f4 f0 (ar 5 tt (cq (Kj7 _ _ f3) K6q (ar 2 tt tv)))))))) ?_
    obtain rfl := os h
    exact Qcz.mk
   rcases is h with ⟨f5,h⟩ | ⟨f5,h⟩
   ·obtain ⟨f2,f3,h⟩ := Qdd h
    refine rg hc none [oN,oN,oN,oN,oN,oN,oN,oN,oN,oN,oF,oN,oN,oN,oN,oF,oT,oN,oN,oN,oN,oN,oc (.bool f2),oN,oT] [(95,.bool (!f2))] [] (ar 4 f0 (ar 3 f1 (ac f0 f1 f0 (ar 3 f4 (ac f0 f4 f0 (ar 5 f5 (cq (Kj7 _ _ f3) K6q (ar 2 f5 tv)))))))) ?_
    obtain rfl := os h
    exact Qcz.mk
   refine rg hc none [oN,oN,oN,oN,oN,oN,oN,oN,oN,oN,oF,oN,oN,oN,oN,oF,oT,oN,o_,o_,o_,o_,o_,o_,oF] [(95,.bool false)] [] (ar 4 f0 (ar 3 f1 (ac f0 f1 f0 (ar 3 f4 (ac f0 f4 f0 (ar 6 (neT f5) (ai f5 tv))))))) ?_
   obtain rfl := os h
   exact Qcz.mk
  refine rg hc none [oN,oN,oN,o_,o_,o_,o_,o_,o_,o_,o_,o_,o_,o_,o_,o_,oF,oN,o_,o_,o_,o_,o_,o_,oF] [(95,.bool false)] [] (ar 7 (neT f0) (ai f0 (ar 6 (neT (rfl : false = false)) (ai (rfl : false = false) tv)))) ?_
  obtain rfl := os h
  exact Qcz.mk
 clear e9
 refine ic h (fun f6 h => ?_) fun f6 h => ?_
 ·refine rs0 hc 1 [(8,I 8)] [] ?_
  refine rt ?_
  obtain rfl := os h
  exact rq [true]
 refine sk ?_
 refine rs0 hc 1 [(8,I 0)] [] ?_
 refine rt ?_
 obtain rfl := os h
 exact rq [true]
def Kmj (c : Ctx) : (Unit) ⊕ (Bool) → Exit → Q0a → Prop
 | .inl _ => Qcz c (.exit 0) (mkS [] [])
 | .inr r => Qd8 TIx Tryz.f144 [] (.bool r)
def Kmk (p : (List Int) × (List Int) × Int) : Option ((Unit) ⊕ (Bool)) :=
 match p with
 | (s10,s21,a0) =>
  if (decide (a0 < (s10.length : Int))) = true then
  (idx s10 a0) >>= fun a1 =>
  (idx s21 a0) >>= fun a2 =>
  if (a1 != a2) = true then
  some (.inr false)
  else
  Kmk (s10,s21,(wr (a0 + 1)))
  else
  some (.inl ())
 partial_fixpoint
def Kml (p : (List Int) × (List Int) × Int) (fl : (Unit) ⊕ (Bool)) : Prop :=
 match p with
 | (s10,s21,a0) => ∀ c : Ctx,c.nt = 26 → WpL Tryz.prog c (cl (cl (cr (cl (cr (cr K7x)))))) (Kmj c fl) (mkS [(0,sI s10),(1,sI s21),(12,I (s10.length : Int)),(13,I a0)] [])
theorem Kmm : ∀ p r,Kmk p = some r → Kml p r := by
 refine Kmk.partial_correctness Kml ?_
 rintro slices_Equal_int_l0_f slices_Equal_int_l0_ih ⟨s10,s21,a0⟩ r h
 intro c hc
 refine WpL.step ?_
 refine rs0 hc 1 [(0,sI s10),(1,sI s21),(12,I (s10.length : Int)),(13,I a0),(14,.bool (decide (a0 < (s10.length : Int))))] [] ?_
 refine sN ?_
 refine ic h (fun a1 h => ?_) fun a1 h => ?_
 ·refine sk ?_
  refine sN ?_
  refine bk 1 ?_
  refine rs0 hc 2 [(0,sI s10),(1,sI s21),(5,I a0),(12,I (s10.length : Int)),(13,I a0)] [] ?_
  obtain ⟨a2,a3,a4,a5,h⟩ := bq2 h
  refine rs hc (rx [[0],[0],[2],[3],[0],[0],[0,4,5],[0,4,5,6],[8]]) [oN,oN,some (.el (I a2)),oN,oN,oN,some (.el (I a4)),oN,oN] [(0,sI s10),(1,sI s21),(12,I (s10.length : Int)),(13,I a0),(24,.bool (a2 != a4))] [] (ab (ix a3) (ix a5) tv) ?_
  refine ic h (fun a6 h => ?_) fun a6 h => ?_
  ·refine rs0 hc 1 [(4,.bool false)] [] ?_
   refine rt ?_
   obtain rfl := os h
   exact re [true]
  refine sk ?_
  refine rg0 hc 2 [(0,sI s10),(1,sI s21),(12,I (s10.length : Int)),(13,I (wr (a0 + 1)))] [] ?_
  refine Qcv ?_
  exact (slices_Equal_int_l0_ih _ _ h c hc)
 refine xt 0 ?_
 refine Qcp ?_
 refine Qcw ?_
 obtain rfl := os h
 exact iv []
def Kmn (p : (List Int) × (List Int)) : Option (Bool) :=
 match p with
 | (s10,s21) =>
  if ((s10.length : Int) != (s21.length : Int)) = true then
  some false
  else
  (Kmk (s10,s21,0)) >>= fun fl => match fl with
  | .inl () =>
   some true
  | .inr r =>
   some r
def Kmo (p : (List Int) × (List Int)) (r : Bool) : Prop :=
 match p with
 | (s10,s21) => Q71 Tryz.prog 144 [sI s10,sI s21] (.bool r) []
theorem Kmp : ∀ p r,Kmn p = some r → Kmo p r := by
 rintro ⟨s10,s21⟩ r h
 unfold Kmn at h
 refine b0 Tryz.f144 K7x 26 [(0,sI s10),(1,sI s21)] fun c hc => ?_
 refine rs0 hc 1 [(0,sI s10),(1,sI s21)] [] ?_
 refine sN ?_
 refine rs hc none [oN,some (.eqv (.no) ⟨[(7,I (s10.length : Int))],[],[]⟩),oN,some (.eqv (.no) ⟨[(9,I (s21.length : Int))],[],[]⟩),oN] [(0,sI s10),(1,sI s21),(10,.bool ((s10.length : Int) != (s21.length : Int)))] [] (ab (Qdj (d := 7) I s10) (Qdj (d := 9) I s21) tv) ?_
 refine ic h (fun a0 h => ?_) fun a0 h => ?_
 ·refine rs0 hc 1 [(4,.bool false)] [] ?_
  refine rt ?_
  obtain rfl := os h
  exact rq [true]
 refine sk ?_
 refine sN ?_
 refine rs hc none [oN,some (.eqv (.no) ⟨[(12,I (s10.length : Int))],[],[]⟩),oN] [(0,sI s10),(1,sI s21),(12,I (s10.length : Int)),(13,I 0)] [] (ai (Qdj (d := 12) I s10) tv) ?_
 refine bk 0 ?_
 obtain ⟨fl,a1,h⟩ := Qdd h
 have hL := Kmm _ _ a1 c hc
 refine lp ?_
 rcases fl with ⟨⟩ | r
 ·refine WpL.into (e := (.exit 0)) (mkS [] []) hL ?_
  refine Qcr ?_
  refine rs0 hc 1 [(4,.bool true)] [] ?_
  refine rt ?_
  obtain rfl := os h
  exact rq [true]
 refine WpL.mono hL ?_
 rintro _ _ ⟨rfl,hfin⟩
 obtain rfl := os h
 exact ⟨.inl rfl,hfin⟩
def Kmq (s0 : (List Int)) : Option ((List Int)) :=
 (Qdq (([] : List Int).length + s0.length) 8) >>= fun _ =>
 some s0
def Kmr (s0 : (List Int)) (r : (List Int)) : Prop :=
 Q71 Tryz.prog 88 [sI s0] (oI r) []
theorem Kms : ∀ p r,Kmq p = some r → Kmr p r := by
 rintro s0 r h
 unfold Kmq at h
 refine b0 Tryz.f88 B88 8 [(0,sI s0)] fun c hc => ?_
 refine rs0 hc 1 [(0,sI s0)] [] ?_
 refine sN ?_
 refine rs0 hc 2 [(0,sI s0),(4,.nilq (List.map I s0))] [] ?_
 refine Wp.condNil (xs := List.map I s0) (by kernel_rfl) (by kernel_rfl) (fun hn => ?_) ?_
 ·replace hn := List.map_eq_nil_iff.1 hn
  replace h : (some []) = some r := by rw [hn] at h; simpa [Qdq,chk] using h
  refine rs0 hc 1 [(2,.nils)] [] ?_
  refine rt ?_
  obtain rfl := os h
  exact rq [true]
 refine sk ?_
 obtain ⟨_,a0,h⟩ := Qdd h
 refine rs hc none [some (.mk 1 true),oN,some (.eqv (.mk 2 true) ⟨[(7,.rs 2)],[(2,some (rI s0)),(1,none)],[2]⟩),oN] [(2,.rs 2)] [(2,rI s0)] (ab (congrArg (fun z => (⟨[(7,.rs 2)],[(2,some (.arr z)),(1,none)],[2]⟩ : Wr)) (List.nil_append _ : [] ++ (List.map I s0) = List.map I s0)) (Qdr (enc1 := I) (enc2 := I) (e1 := []) (e2 := s0) (sz := 1) Qe0 Qe0 a0) tv) ?_
 refine rt ?_
 obtain rfl := os h
 exact rq [true]
def Kmt (c : Ctx) : (List Int) → Exit → Q0a → Prop
 | a0 => Qcz c (.exit 0) (mkS [(9,.rs 2)] [(2,rI a0)])
def Kmu (p : K00 × (List Int) × (List Int) × (List Int) × Int) : Option ((List Int)) :=
 match p with
 | (clo1_0,a2,b3,a0,a1) =>
  if (decide (a1 < (a2.length : Int))) = true then
  (idx a2 a1) >>= fun a3 =>
  (idx b3 a1) >>= fun a4 =>
  (Kiz (clo1_0,a3,a4)) >>= fun a5 =>
  (idx a0 a1) >>= fun a6 =>
  Kmu (clo1_0,a2,b3,(List.set a0 (Int.toNat a1) a5),(wr (a1 + 1)))
  else
  some (a0)
 partial_fixpoint
def Kmv (p : K00 × (List Int) × (List Int) × (List Int) × Int) (fl : (List Int)) : Prop :=
 match p with
 | (clo1_0,a2,b3,a0,a1) => ∀ c : Ctx,c.nt = 34 → WpL Tryz.prog c (cl (cl (cr (cl (cr (cr K80)))))) (Kmt c fl) (mkS [(1,.fnb 160 [K1w clo1_0]),(2,sI a2),(3,sI b3),(9,.rs 2),(15,I (a2.length : Int)),(16,I a1)] [(2,rI a0)])
theorem Kmw : ∀ p r,Kmu p = some r → Kmv p r := by
 refine Kmu.partial_correctness Kmv ?_
 rintro impl_typerboth_Kimpl_Systemplus_l0_f impl_typerboth_Kimpl_Systemplus_l0_ih ⟨clo1_0,a2,b3,a0,a1⟩ r h
 intro c hc
 refine WpL.step ?_
 refine K9m hc 1 [(1,.fnb 160 [K1w clo1_0]),(2,sI a2),(3,sI b3),(9,.rs 2),(15,I (a2.length : Int)),(16,I a1),(17,.bool (decide (a1 < (a2.length : Int))))] ?_
 refine sN ?_
 refine ic h (fun a3 h => ?_) fun a3 h => ?_
 ·refine sk ?_
  refine sN ?_
  refine bk 1 ?_
  refine K9m hc 2 [(1,.fnb 160 [K1w clo1_0]),(2,sI a2),(3,sI b3),(9,.rs 2),(10,I a1),(15,I (a2.length : Int)),(16,I a1)] ?_
  obtain ⟨a4,a5,a6,a7,a8,a9,b1,b2,h⟩ := bq4 h
  refine rg hc Kmf [oN,oN,oN,oN,oN,some (.el (I a4)),oN,oN,oN,some (.el (I a6)),oN,oc (I a8),oN,some (.eqv (.mk 0 true) ⟨[],[(2,some (.arr (List.map I (List.set a0 (Int.toNat a1) a8))))],[]⟩)] [(1,.fnb 160 [K1w clo1_0]),(2,sI a2),(3,sI b3),(9,.rs 2),(15,I (a2.length : Int)),(16,I a1)] [(2,.arr (List.map I (List.set a0 (Int.toNat a1) a8)))] (ab (ix a5) (ix a7) (cq (Kj1 _ _ a9) K6n (ac (Qdi (enc := I) b2) (congrArg (fun z => (⟨[],[(2,some (.arr z))],[]⟩ : Wr)) (Qeg (enc := I) (i := Int.toNat a1) (l := a0) (v := a8) (x := I a8) (Qds a8))) (Qeh (enc := I) (sz := 1) Qdw b2) tv))) ?_
  refine K9l hc 2 [(1,.fnb 160 [K1w clo1_0]),(2,sI a2),(3,sI b3),(9,.rs 2),(15,I (a2.length : Int)),(16,I (wr (a1 + 1)))] ?_
  refine Qcv ?_
  exact (impl_typerboth_Kimpl_Systemplus_l0_ih _ _ h c hc)
 refine xt 0 ?_
 refine Qcp ?_
 refine Qcw ?_
 obtain rfl := os h
 exact iv []
def Kmx (p : K06 × K00 × (List Int) × (List Int)) : Option ((List Int)) :=
 match p with
 | (p0,clo1_0,a2,b3) =>
  (chk (0 ≤ (a2.length : Int) ∧ (Int.toNat (a2.length : Int)) * 8 ≤ 140737488355328)) >>= fun _ =>
  (Kmu (clo1_0,a2,b3,(List.replicate (Int.toNat (a2.length : Int)) 0),0)) >>= fun a0 =>
  some a0
def Kmy (p : K06 × K00 × (List Int) × (List Int)) (r : (List Int)) : Prop :=
 match p with
 | (p0,clo1_0,a2,b3) => Q71 Tryz.prog 254 [K26 p0,.fnb 160 [K1w clo1_0],sI a2,sI b3] (oI r) []
theorem Kmz : ∀ p r,Kmx p = some r → Kmy p r := by
 rintro ⟨p0,clo1_0,a2,b3⟩ r h
 unfold Kmx at h
 refine b0 Tryz.f254 K80 34 [(0,K26 p0),(1,.fnb 160 [K1w clo1_0]),(2,sI a2),(3,sI b3)] fun c hc => ?_
 refine rs hc none [some (.new 1),oN] [(1,.fnb 160 [K1w clo1_0]),(2,sI a2),(3,sI b3)] [] tv ?_
 obtain ⟨_,a0,h⟩ := Qdd h
 refine rs hc none [oN,some (.eqv (.no) ⟨[(12,I (a2.length : Int))],[],[]⟩),some (.eqv (.mk 2 true) ⟨[(13,.rs 2)],[(2,some (.arr (List.map I (List.replicate (Int.toNat (a2.length : Int)) 0))))],[2]⟩),oN] [(1,.fnb 160 [K1w clo1_0]),(2,sI a2),(3,sI b3),(9,.rs 2)] [(2,.arr (List.map I (List.replicate (Int.toNat (a2.length : Int)) 0)))] (ac (Qdj (d := 12) I a2) (congrArg (fun z => (⟨[(13,.rs 2)],[(2,some (.arr z))],[2]⟩ : Wr)) (Qei (enc := I) (n := Int.toNat (a2.length : Int)) (x := I 0) (Qds 0))) (And.intro (Eq.refl (a2.length : Int)) (Qdf a0)) tv) ?_
 refine sN ?_
 refine rss hc none [oN,some (.eqv (.no) ⟨[(15,I (a2.length : Int))],[],[]⟩),oN] [(1,.fnb 160 [K1w clo1_0]),(2,sI a2),(3,sI b3),(9,.rs 2),(15,I (a2.length : Int)),(16,I 0)] (ai (Qdj (d := 15) I a2) tv) ?_
 refine bk 0 ?_
 obtain ⟨a1,a3,h⟩ := Qdd h
 have hL := Kmw _ _ a3 c hc
 refine lp ?_
 refine WpL.into (e := (.exit 0)) (mkS [(9,.rs 2)] [(2,rI a1)]) hL ?_
 refine Qcr ?_
 refine K9m hc 2 [(8,.rs 2)] ?_
 refine rt ?_
 obtain rfl := os h
 exact rq [true]
def Kn0 (p : K06 × (List Int) × (List Int)) : Option ((List Int)) :=
 match p with
 | (p0,a1,b2) =>
  (Kmx (p0,p0.fs,a1,b2)) >>= fun a0 =>
  some a0
def Kn1 (p : K06 × (List Int) × (List Int)) (r : (List Int)) : Prop :=
 match p with
 | (p0,a1,b2) => Q71 Tryz.prog 244 [K26 p0,sI a1,sI b2] (oI r) []
theorem Kn2 : ∀ p r,Kn0 p = some r → Kn1 p r := by
 rintro ⟨p0,a1,b2⟩ r h
 unfold Kn0 at h
 refine b0 Tryz.f244 K82 14 [(0,K26 p0),(1,sI a1),(2,sI b2)] fun c hc => ?_
 refine rs hc none [some (.new 1),oN] [(1,sI a1),(2,sI b2),(3,.ra 1 0)] [(1,K25 p0)] tv ?_
 obtain ⟨a0,a2,h⟩ := Qdd h
 refine rs hc none [oN,oN,oN,oN,oN,oN,some (.call (oI a0) [] 2),oN] [(6,.rs 2)] [(2,rI a0)] (cq (Kmz _ _ a2) K81 tv) ?_
 refine rt ?_
 obtain rfl := os h
 exact rq [true]
def Kn3 (p : Int × K04) : Option ((List Int)) :=
 match p with
 | (i0,cap0) =>
  (idx cap0.fkids i0) >>= fun a0 =>
  some a0.fty
def Kn4 (p : Int × K04) (r : (List Int)) : Prop :=
 match p with
 | (i0,cap0) => Qa9 Tryz.prog 243 i0 [sI cap0.fty,sI cap0.fneeds,.sl (List.map K07 cap0.fkids),I cap0.ffault,sI cap0.fpath] (sI r)
theorem Kn5 : ∀ p r,Kn3 p = some r → Kn4 p r := by
 rintro ⟨i0,cap0⟩ r h
 unfold Kn3 at h
 show Qa9 Tryz.prog 243 i0 [sI cap0.fty,sI cap0.fneeds,.sl (List.map K07 cap0.fkids),I cap0.ffault,sI cap0.fpath] (sI r)
 refine Qa9.of_body K34 (fn := Tryz.f243) (code := K84) (by kernel_rfl) (by kernel_rfl) rfl rfl (nt := 14) (by kernel_rfl) (by kernel_rfl) (fun c hc => ?_)
 refine K9m hc 1 [(0,I i0),(1,.ra 1000 0)] ?_
 obtain ⟨a0,a1,h⟩ := Qdd h
 refine rss hc none [oN,oN,oN,oN,oN,some (.el (.ptr [sI a0.fty,sI a0.fneeds,.sl (List.map K07 a0.fkids),I a0.ffault,sI a0.fpath] 0)),oN,oN,oN,oN,oN] [(3,sI a0.fty)] (ai (Qdh (enc := K07) (x := .ptr [sI a0.fty,sI a0.fneeds,.sl (List.map K07 a0.fkids),I a0.ffault,sI a0.fpath] 0) a1 (K0a a0)) tv) ?_
 refine rt ?_
 obtain rfl := os h
 exact Qf0.ret (by kernel_rfl)
def Kn6 (c : Ctx) : (List Int) → Exit → Q0a → Prop
 | a0 => Qcz c (.exit 0) (mkS [(9,.rs 2)] [(2,rI a0)])
def Kn7 (p : K00 × (List Int) × (List Int) × (List Int) × Int) : Option ((List Int)) :=
 match p with
 | (clo1_0,a2,b3,a0,a1) =>
  if (decide (a1 < (a2.length : Int))) = true then
  (idx a2 a1) >>= fun a3 =>
  (idx b3 a1) >>= fun a4 =>
  (Kjm (clo1_0,a3,a4)) >>= fun a5 =>
  (idx a0 a1) >>= fun a6 =>
  Kn7 (clo1_0,a2,b3,(List.set a0 (Int.toNat a1) a5),(wr (a1 + 1)))
  else
  some (a0)
 partial_fixpoint
def Kn8 (p : K00 × (List Int) × (List Int) × (List Int) × Int) (fl : (List Int)) : Prop :=
 match p with
 | (clo1_0,a2,b3,a0,a1) => ∀ c : Ctx,c.nt = 34 → WpL Tryz.prog c (cl (cl (cr (cl (cr (cr K80)))))) (Kn6 c fl) (mkS [(1,.fnb 149 [K1w clo1_0]),(2,sI a2),(3,sI b3),(9,.rs 2),(15,I (a2.length : Int)),(16,I a1)] [(2,rI a0)])
theorem Kn9 : ∀ p r,Kn7 p = some r → Kn8 p r := by
 refine Kn7.partial_correctness Kn8 ?_
 rintro impl_typerboth_Kimpl_Systemjoin_l0_f impl_typerboth_Kimpl_Systemjoin_l0_ih ⟨clo1_0,a2,b3,a0,a1⟩ r h
 intro c hc
 refine WpL.step ?_
 refine K9m hc 1 [(1,.fnb 149 [K1w clo1_0]),(2,sI a2),(3,sI b3),(9,.rs 2),(15,I (a2.length : Int)),(16,I a1),(17,.bool (decide (a1 < (a2.length : Int))))] ?_
 refine sN ?_
 refine ic h (fun a3 h => ?_) fun a3 h => ?_
 ·refine sk ?_
  refine sN ?_
  refine bk 1 ?_
  refine K9m hc 2 [(1,.fnb 149 [K1w clo1_0]),(2,sI a2),(3,sI b3),(9,.rs 2),(10,I a1),(15,I (a2.length : Int)),(16,I a1)] ?_
  obtain ⟨a4,a5,a6,a7,a8,a9,b1,b2,h⟩ := bq4 h
  refine rg hc Kmf [oN,oN,oN,oN,oN,some (.el (I a4)),oN,oN,oN,some (.el (I a6)),oN,oc (I a8),oN,some (.eqv (.mk 0 true) ⟨[],[(2,some (.arr (List.map I (List.set a0 (Int.toNat a1) a8))))],[]⟩)] [(1,.fnb 149 [K1w clo1_0]),(2,sI a2),(3,sI b3),(9,.rs 2),(15,I (a2.length : Int)),(16,I a1)] [(2,.arr (List.map I (List.set a0 (Int.toNat a1) a8)))] (ab (ix a5) (ix a7) (cq (Kjo _ _ a9) K6s (ac (Qdi (enc := I) b2) (congrArg (fun z => (⟨[],[(2,some (.arr z))],[]⟩ : Wr)) (Qeg (enc := I) (i := Int.toNat a1) (l := a0) (v := a8) (x := I a8) (Qds a8))) (Qeh (enc := I) (sz := 1) Qdw b2) tv))) ?_
  refine K9l hc 2 [(1,.fnb 149 [K1w clo1_0]),(2,sI a2),(3,sI b3),(9,.rs 2),(15,I (a2.length : Int)),(16,I (wr (a1 + 1)))] ?_
  refine Qcv ?_
  exact (impl_typerboth_Kimpl_Systemjoin_l0_ih _ _ h c hc)
 refine xt 0 ?_
 refine Qcp ?_
 refine Qcw ?_
 obtain rfl := os h
 exact iv []
def Kna (p : K06 × K00 × (List Int) × (List Int)) : Option ((List Int)) :=
 match p with
 | (p0,clo1_0,a2,b3) =>
  (chk (0 ≤ (a2.length : Int) ∧ (Int.toNat (a2.length : Int)) * 8 ≤ 140737488355328)) >>= fun _ =>
  (Kn7 (clo1_0,a2,b3,(List.replicate (Int.toNat (a2.length : Int)) 0),0)) >>= fun a0 =>
  some a0
def Knb (p : K06 × K00 × (List Int) × (List Int)) (r : (List Int)) : Prop :=
 match p with
 | (p0,clo1_0,a2,b3) => Q71 Tryz.prog 254 [K26 p0,.fnb 149 [K1w clo1_0],sI a2,sI b3] (oI r) []
theorem Knc : ∀ p r,Kna p = some r → Knb p r := by
 rintro ⟨p0,clo1_0,a2,b3⟩ r h
 unfold Kna at h
 refine b0 Tryz.f254 K80 34 [(0,K26 p0),(1,.fnb 149 [K1w clo1_0]),(2,sI a2),(3,sI b3)] fun c hc => ?_
 refine rs hc none [some (.new 1),oN] [(1,.fnb 149 [K1w clo1_0]),(2,sI a2),(3,sI b3)] [] tv ?_
 obtain ⟨_,a0,h⟩ := Qdd h
 refine rs hc none [oN,some (.eqv (.no) ⟨[(12,I (a2.length : Int))],[],[]⟩),some (.eqv (.mk 2 true) ⟨[(13,.rs 2)],[(2,some (.arr (List.map I (List.replicate (Int.toNat (a2.length : Int)) 0))))],[2]⟩),oN] [(1,.fnb 149 [K1w clo1_0]),(2,sI a2),(3,sI b3),(9,.rs 2)] [(2,.arr (List.map I (List.replicate (Int.toNat (a2.length : Int)) 0)))] (ac (Qdj (d := 12) I a2) (congrArg (fun z => (⟨[(13,.rs 2)],[(2,some (.arr z))],[2]⟩ : Wr)) (Qei (enc := I) (n := Int.toNat (a2.length : Int)) (x := I 0) (Qds 0))) (And.intro (Eq.refl (a2.length : Int)) (Qdf a0)) tv) ?_
 refine sN ?_
 refine rss hc none [oN,some (.eqv (.no) ⟨[(15,I (a2.length : Int))],[],[]⟩),oN] [(1,.fnb 149 [K1w clo1_0]),(2,sI a2),(3,sI b3),(9,.rs 2),(15,I (a2.length : Int)),(16,I 0)] (ai (Qdj (d := 15) I a2) tv) ?_
 refine bk 0 ?_
 obtain ⟨a1,a3,h⟩ := Qdd h
 have hL := Kn9 _ _ a3 c hc
 refine lp ?_
 refine WpL.into (e := (.exit 0)) (mkS [(9,.rs 2)] [(2,rI a1)]) hL ?_
 refine Qcr ?_
 refine K9m hc 2 [(8,.rs 2)] ?_
 refine rt ?_
 obtain rfl := os h
 exact rq [true]
def Knd (p : K06 × (List Int) × (List Int)) : Option ((List Int)) :=
 match p with
 | (p0,a1,b2) =>
  (Kna (p0,p0.fs,a1,b2)) >>= fun a0 =>
  some a0
def Kne (p : K06 × (List Int) × (List Int)) (r : (List Int)) : Prop :=
 match p with
 | (p0,a1,b2) => Q71 Tryz.prog 245 [K26 p0,sI a1,sI b2] (oI r) []
theorem Knf : ∀ p r,Knd p = some r → Kne p r := by
 rintro ⟨p0,a1,b2⟩ r h
 unfold Knd at h
 refine b0 Tryz.f245 K86 14 [(0,K26 p0),(1,sI a1),(2,sI b2)] fun c hc => ?_
 refine rs hc none [some (.new 1),oN] [(1,sI a1),(2,sI b2),(3,.ra 1 0)] [(1,K25 p0)] tv ?_
 obtain ⟨a0,a2,h⟩ := Qdd h
 refine rs hc none [oN,oN,oN,oN,oN,oN,some (.call (oI a0) [] 2),oN] [(6,.rs 2)] [(2,rI a0)] (cq (Knc _ _ a2) K81 tv) ?_
 refine rt ?_
 obtain rfl := os h
 exact rq [true]
def Kng (n1 : Int) : Option (Unit) :=
 if (decide (n1 < 0)) = true then
 none
 else
 if (decide ((wr (n1 - (wr (0 - 0)))) > 0)) = true then
 (chk (0 ≤ (wr (n1 - (wr (0 - 0)))) ∧ (Int.toNat (wr (n1 - (wr (0 - 0))))) * 8 ≤ 140737488355328)) >>= fun _ =>
 some ()
 else
 some ()
def Knh (n1 : Int) (r : Unit) : Prop :=
 Q9v Tryz.prog 255 n1
theorem Kni : ∀ p r,Kng p = some r → Knh p r := by
 rintro n1 r h
 unfold Kng at h
 show Q9v Tryz.prog 255 n1
 refine Q9v.of_body K34 (fn := Tryz.f255) (code := K88) (by kernel_rfl) (by kernel_rfl) (nt := 27) (by kernel_rfl) (by kernel_rfl) (fun c hc => ?_)
 refine rs0 hc 1 [(0,.nils),(1,I n1)] [] ?_
 refine sN ?_
 refine rs0 hc 2 [(0,.nils),(1,I n1),(6,.bool (decide (n1 < 0)))] [] ?_
 refine ic h (fun a0 h => ?_) fun a0 h => ?_
 ·cases h
 refine sk ?_
 refine sN ?_
 refine rs0 hc 8 [(0,.nils),(1,I (wr (n1 - (wr (0 - 0)))))] [] ?_
 refine rs0 hc 2 [(0,.nils),(1,I (wr (n1 - (wr (0 - 0))))),(16,.bool (decide ((wr (n1 - (wr (0 - 0)))) > 0)))] [] ?_
 refine ic h (fun a1 h => ?_) fun a1 h => ?_
 ·obtain ⟨_,a2,h⟩ := Qdd h
  refine rg hc none [oN,oN,oN,oN,oN,some (.new 1),oN,oN,some (.new 2),oN] [(0,.rs 2)] [(2,.ary (List.map I []))] (ai (Qdf a2) tv) ?_
  refine K9m hc 2 [(4,.rs 2)] ?_
  refine rt ?_
  exact Qew.ret (by kernel_rfl)
 refine sk ?_
 refine rs0 hc 2 [(4,.nils)] [] ?_
 refine rt ?_
 exact Qew.ret (by kernel_rfl)
def Knj (c : Ctx) (slices0 : LL) : Int → Exit → Q0a → Prop
 | a0 => Qcz c (.exit 0) (mkS [(0,sL slices0),(3,I a0)] [])
def Knk (p : LL × Int × Int) : Option (Int) :=
 match p with
 | (slices0,a0,a1) =>
  if (decide (a1 < (slices0.length : Int))) = true then
  (idx slices0 a1) >>= fun a2 =>
  ((
  if (decide ((wr (a0 + (a2.length : Int))) < 0)) = true then
  none
  else
  some (())
  ) : Option (Unit)) >>= fun () =>
  Knk (slices0,(wr (a0 + (a2.length : Int))),(wr (a1 + 1)))
  else
  some (a0)
 partial_fixpoint
def Knl (p : LL × Int × Int) (fl : Int) : Prop :=
 match p with
 | (slices0,a0,a1) => ∀ c : Ctx,c.nt = 36 → WpL Tryz.prog c (cl (cl (cr (cl (cr (cr K8a)))))) (Knj c slices0 fl) (mkS [(0,sL slices0),(3,I a0),(9,sL slices0),(10,I (slices0.length : Int)),(11,I a1)] [])
theorem Knm : ∀ p r,Knk p = some r → Knl p r := by
 refine Knk.partial_correctness Knl ?_
 rintro slices_Concat_int_l0_f slices_Concat_int_l0_ih ⟨slices0,a0,a1⟩ r h
 intro c hc
 refine WpL.step ?_
 refine rs0 hc 1 [(0,sL slices0),(3,I a0),(9,sL slices0),(10,I (slices0.length : Int)),(11,I a1),(12,.bool (decide (a1 < (slices0.length : Int))))] [] ?_
 refine sN ?_
 refine ic h (fun a2 h => ?_) fun a2 h => ?_
 ·refine sk ?_
  refine sN ?_
  refine bk 1 ?_
  obtain ⟨a3,a4,h⟩ := Qdd h
  refine rs hc none [some (.el (sI a3)),oN,oN] [(0,sL slices0),(3,I a0),(5,sI a3),(9,sL slices0),(10,I (slices0.length : Int)),(11,I a1)] [] (ai (xL a4) tv) ?_
  refine rs hc none [oN,oN,some (.eqv (.no) ⟨[(17,I (a3.length : Int))],[],[]⟩),oN,oN] [(0,sL slices0),(3,I (wr (a0 + (a3.length : Int)))),(9,sL slices0),(10,I (slices0.length : Int)),(11,I a1)] [] (ai (Qdj (d := 17) I a3) tv) ?_
  refine rs0 hc 2 [(0,sL slices0),(3,I (wr (a0 + (a3.length : Int)))),(9,sL slices0),(10,I (slices0.length : Int)),(11,I a1),(20,.bool (decide ((wr (a0 + (a3.length : Int))) < 0)))] [] ?_
  obtain ⟨⟨⟩,a5,h⟩ := Qdd h
  refine Wp.into (x := .normal) (mkS [(0,sL slices0),(3,I (wr (a0 + (a3.length : Int)))),(9,sL slices0),(10,I (slices0.length : Int)),(11,I a1)] []) ?_ ?_
  ·replace h := a5
   refine ic h (fun a6 h => ?_) fun a6 h => ?_
   ·cases h
   refine sk ?_
   exact iv []
  clear a5
  refine rg0 hc 2 [(0,sL slices0),(3,I (wr (a0 + (a3.length : Int)))),(9,sL slices0),(10,I (slices0.length : Int)),(11,I (wr (a1 + 1)))] [] ?_
  refine Qcv ?_
  exact (slices_Concat_int_l0_ih _ _ h c hc)
 refine xt 0 ?_
 refine Qcp ?_
 refine Qcw ?_
 obtain rfl := os h
 exact iv []
def Knn (c : Ctx) : (List Int) → Exit → Q0a → Prop
 | a0 => Qcz c (.exit 2) (mkS [(6,.rs 1)] [(1,.ary (List.map I a0))])
def Kno (p : LL × (List Int) × Int) : Option ((List Int)) :=
 match p with
 | (slices0,a0,a1) =>
  if (decide (a1 < (slices0.length : Int))) = true then
  (idx slices0 a1) >>= fun a2 =>
  (Qdq (a0.length + a2.length) 8) >>= fun _ =>
  Kno (slices0,(a0 ++ a2),(wr (a1 + 1)))
  else
  some (a0)
 partial_fixpoint
def Knp (p : LL × (List Int) × Int) (fl : (List Int)) : Prop :=
 match p with
 | (slices0,a0,a1) => ∀ c : Ctx,c.nt = 36 → WpL Tryz.prog c (cl (cl (cr (cl (cr (cr (cr (cr K8a)))))))) (Knn c fl) (mkS [(6,.rs 1),(25,sL slices0),(26,I (slices0.length : Int)),(27,I a1)] [(1,.ary (List.map I a0))])
theorem Knq : ∀ p r,Kno p = some r → Knp p r := by
 refine Kno.partial_correctness Knp ?_
 rintro slices_Concat_int_l1_f slices_Concat_int_l1_ih ⟨slices0,a0,a1⟩ r h
 intro c hc
 refine WpL.step ?_
 refine K9m hc 1 [(6,.rs 1),(25,sL slices0),(26,I (slices0.length : Int)),(27,I a1),(28,.bool (decide (a1 < (slices0.length : Int))))] ?_
 refine sN ?_
 refine ic h (fun a2 h => ?_) fun a2 h => ?_
 ·refine sk ?_
  refine sN ?_
  refine bk 3 ?_
  obtain ⟨a3,a4,h⟩ := Qdd h
  refine rss hc none [some (.el (sI a3)),oN,oN] [(6,.rs 1),(8,sI a3),(25,sL slices0),(26,I (slices0.length : Int)),(27,I a1)] (ai (xL a4) tv) ?_
  obtain ⟨_,a5,h⟩ := Qdd h
  refine rg hc none [oN,oN,some (.eqv (.new 3) ⟨[(33,.rs 3)],[(3,some (.ary (List.map I (a0 ++ a3)))),(1,none)],[3]⟩),oN] [(6,.rs 3),(25,sL slices0),(26,I (slices0.length : Int)),(27,I a1)] [(3,.ary (List.map I (a0 ++ a3)))] (ab (congrArg (fun z => (⟨[(33,.rs 3)],[(3,some (.ary z)),(1,none)],[3]⟩ : Wr)) ((List.map_append).symm : (List.map I a0) ++ (List.map I a3) = List.map I (a0 ++ a3))) (Qez (enc := I) (e1 := a0) (e2 := a3) (fun _ => rfl) a5) tv) ?_
  refine K9l hc 2 [(6,.rs 3),(25,sL slices0),(26,I (slices0.length : Int)),(27,I (wr (a1 + 1)))] ?_
  refine Qcv ?_
  exact WpL.view (fun a w hv => SRx.renL [(1,3)] hv (by kernel_rfl) (by kernel_rfl) (by kernel_rfl)) (slices_Concat_int_l1_ih _ _ h c hc)
 refine xt 2 ?_
 refine Qcp ?_
 refine Qcw ?_
 obtain rfl := os h
 exact iv []
def Knr (slices0 : LL) : Option ((List Int)) :=
 (Knk (slices0,0,0)) >>= fun a0 =>
 (Kng a0) >>= fun _ =>
 (Kno (slices0,[],0)) >>= fun a1 =>
 some a1
def Kns (slices0 : LL) (r : (List Int)) : Prop :=
 Q71 Tryz.prog 246 [sL slices0] (sI r) []
theorem Knt : ∀ p r,Knr p = some r → Kns p r := by
 rintro slices0 r h
 unfold Knr at h
 refine b0 Tryz.f246 K8a 36 [(0,sL slices0)] fun c hc => ?_
 refine rs0 hc 1 [(0,sL slices0)] [] ?_
 refine rs0 hc 1 [(0,sL slices0),(3,I 0)] [] ?_
 refine sN ?_
 refine rs hc none [oN,some (.eqv (.no) ⟨[(10,I (slices0.length : Int))],[],[]⟩),oN] [(0,sL slices0),(3,I 0),(9,sL slices0),(10,I (slices0.length : Int)),(11,I 0)] [] (ai (Qdj (d := 10) K14 slices0) tv) ?_
 refine bk 0 ?_
 obtain ⟨a0,a1,h⟩ := Qdd h
 have hL := Knm _ _ a1 c hc
 refine lp ?_
 refine WpL.into (e := (.exit 0)) (mkS [(0,sL slices0),(3,I a0)] []) hL ?_
 refine Qcr ?_
 obtain ⟨_,a2,h⟩ := Qdd h
 refine rs hc none [oN,some (.new 1),oN] [(0,sL slices0),(6,.rs 1)] [(1,.ary (List.map I []))] (ab (Kni _ _ a2) K89 tv) ?_
 refine sN ?_
 refine rss hc none [oN,some (.eqv (.no) ⟨[(26,I (slices0.length : Int))],[],[]⟩),oN] [(6,.rs 1),(25,sL slices0),(26,I (slices0.length : Int)),(27,I 0)] (ai (Qdj (d := 26) K14 slices0) tv) ?_
 refine bk 2 ?_
 obtain ⟨a3,a4,h⟩ := Qdd h
 have hL := Knq _ _ a4 c hc
 refine lp ?_
 refine WpL.into (e := (.exit 2)) (mkS [(6,.rs 1)] [(1,.ary (List.map I a3))]) hL ?_
 refine Qcr ?_
 refine K9m hc 2 [(2,.rs 1)] ?_
 refine Wp.view (fun a w hv => SRx.frzYL 1 (xs := List.map I a3) hv (by kernel_rfl) (by kernel_rfl) (by kernel_rfl)) (?_ : Wp Tryz.prog c _ _ (mkS [(2,sI a3)] []))
 refine rt ?_
 obtain rfl := os h
 exact rq [false]
def Knu (p : Int × K06 × Int) : Option (Bool) :=
 match p with
 | (u0,cap0,cap1) =>
  (Kj5 (cap0.fs,u0,cap1)) >>= fun a0 =>
  some (!a0)
def Knv (p : Int × K06 × Int) (r : Bool) : Prop :=
 match p with
 | (u0,cap0,cap1) => Q71 Tryz.prog 256 [I u0,.ptr [I cap0.fs.fSize,.sl (List.map I cap0.fs.fPlus),.sl (List.map I cap0.fs.fTimes),.sl (List.map AV.bool cap0.fs.fBelow)] 0,.ptr [I cap1] 0] (.bool r) []
theorem Knw : ∀ p r,Knu p = some r → Knv p r := by
 rintro ⟨u0,cap0,cap1⟩ r h
 unfold Knu at h
 refine b0 Tryz.f256 K8c 11 [(0,I u0),(1,.ptr [I cap0.fs.fSize,.sl (List.map I cap0.fs.fPlus),.sl (List.map I cap0.fs.fTimes),.sl (List.map AV.bool cap0.fs.fBelow)] 0),(2,.ptr [I cap1] 0)] fun c hc => ?_
 refine rs0 hc 1 [(0,I u0),(1,.ptr [I cap0.fs.fSize,.sl (List.map I cap0.fs.fPlus),.sl (List.map I cap0.fs.fTimes),.sl (List.map AV.bool cap0.fs.fBelow)] 0),(2,.ptr [I cap1] 0)] [] ?_
 obtain ⟨a0,a1,h⟩ := Qdd h
 refine rs hc none [oN,oN,oN,oN,oc (.bool a0),oN,oN] [(4,.bool (!a0))] [] (cq (Kj7 _ _ a1) K6q tv) ?_
 refine rt ?_
 obtain rfl := os h
 exact rq [true]
def Knx (c : Ctx) : (Unit) ⊕ (Int) → Exit → Q0a → Prop
 | .inl _ => Qcz c (.exit 0) (mkS [] [])
 | .inr r => Qd8 TIx Tryz.f193 [] (I r)
def Kny (p : (List Int) × K06 × Int × Int) : Option ((Unit) ⊕ (Int)) :=
 match p with
 | (s0,clo1_0,clo1_1,a0) =>
  if (decide (a0 < (s0.length : Int))) = true then
  (idx s0 a0) >>= fun a1 =>
  (Knu (a1,clo1_0,clo1_1)) >>= fun a2 =>
  if a2 = true then
  some (.inr a0)
  else
  Kny (s0,clo1_0,clo1_1,(wr (a0 + 1)))
  else
  some (.inl ())
 partial_fixpoint
def Knz (p : (List Int) × K06 × Int × Int) (fl : (Unit) ⊕ (Int)) : Prop :=
 match p with
 | (s0,clo1_0,clo1_1,a0) => ∀ c : Ctx,c.nt = 19 → WpL Tryz.prog c (cl (cl (cr (cl (cr K8e))))) (Knx c fl) (mkS [(0,sI s0),(1,.fn 256 [.ptr [I clo1_0.fs.fSize,.sl (List.map I clo1_0.fs.fPlus),.sl (List.map I clo1_0.fs.fTimes),.sl (List.map AV.bool clo1_0.fs.fBelow)] 0,.ptr [I clo1_1] 0]),(7,I (s0.length : Int)),(8,I a0)] [])
theorem Ko0 : ∀ p r,Kny p = some r → Knz p r := by
 refine Kny.partial_correctness Knz ?_
 rintro slices_IndexFunc_int_Kimpl_typerusedOk_c1_l0_f slices_IndexFunc_int_Kimpl_typerusedOk_c1_l0_ih ⟨s0,clo1_0,clo1_1,a0⟩ r h
 intro c hc
 refine WpL.step ?_
 refine rs0 hc 1 [(0,sI s0),(1,.fn 256 [.ptr [I clo1_0.fs.fSize,.sl (List.map I clo1_0.fs.fPlus),.sl (List.map I clo1_0.fs.fTimes),.sl (List.map AV.bool clo1_0.fs.fBelow)] 0,.ptr [I clo1_1] 0]),(7,I (s0.length : Int)),(8,I a0),(9,.bool (decide (a0 < (s0.length : Int))))] [] ?_
 refine sN ?_
 refine ic h (fun a1 h => ?_) fun a1 h => ?_
 ·refine sk ?_
  refine sN ?_
  refine bk 1 ?_
  refine rs0 hc 2 [(0,sI s0),(1,.fn 256 [.ptr [I clo1_0.fs.fSize,.sl (List.map I clo1_0.fs.fPlus),.sl (List.map I clo1_0.fs.fTimes),.sl (List.map AV.bool clo1_0.fs.fBelow)] 0,.ptr [I clo1_1] 0]),(5,I a0),(7,I (s0.length : Int)),(8,I a0)] [] ?_
  obtain ⟨a2,a3,a4,a5,h⟩ := bq2 h
  refine rs hc none [oN,oN,oN,some (.el (I a2)),oN,oc (.bool a4)] [(0,sI s0),(1,.fn 256 [.ptr [I clo1_0.fs.fSize,.sl (List.map I clo1_0.fs.fPlus),.sl (List.map I clo1_0.fs.fTimes),.sl (List.map AV.bool clo1_0.fs.fBelow)] 0,.ptr [I clo1_1] 0]),(5,I a0),(7,I (s0.length : Int)),(8,I a0),(16,.bool a4)] [] (ai (ix a3) (cq (Knw _ _ a5) K8d tv)) ?_
  refine ic h (fun a6 h => ?_) fun a6 h => ?_
  ·refine rs0 hc 2 [(4,I a0)] [] ?_
   refine rt ?_
   obtain rfl := os h
   exact re [true]
  refine sk ?_
  refine rg0 hc 2 [(0,sI s0),(1,.fn 256 [.ptr [I clo1_0.fs.fSize,.sl (List.map I clo1_0.fs.fPlus),.sl (List.map I clo1_0.fs.fTimes),.sl (List.map AV.bool clo1_0.fs.fBelow)] 0,.ptr [I clo1_1] 0]),(7,I (s0.length : Int)),(8,I (wr (a0 + 1)))] [] ?_
  refine Qcv ?_
  exact (slices_IndexFunc_int_Kimpl_typerusedOk_c1_l0_ih _ _ h c hc)
 refine xt 0 ?_
 refine Qcp ?_
 refine Qcw ?_
 obtain rfl := os h
 exact iv []
def Ko1 (p : (List Int) × K06 × Int) : Option (Int) :=
 match p with
 | (s0,clo1_0,clo1_1) =>
  (Kny (s0,clo1_0,clo1_1,0)) >>= fun fl => match fl with
  | .inl () =>
   some (-1)
  | .inr r =>
   some r
def Ko2 (p : (List Int) × K06 × Int) (r : Int) : Prop :=
 match p with
 | (s0,clo1_0,clo1_1) => Q71 Tryz.prog 193 [sI s0,.fn 256 [.ptr [I clo1_0.fs.fSize,.sl (List.map I clo1_0.fs.fPlus),.sl (List.map I clo1_0.fs.fTimes),.sl (List.map AV.bool clo1_0.fs.fBelow)] 0,.ptr [I clo1_1] 0]] (I r) []
theorem Ko3 : ∀ p r,Ko1 p = some r → Ko2 p r := by
 rintro ⟨s0,clo1_0,clo1_1⟩ r h
 unfold Ko1 at h
 refine b0 Tryz.f193 K8e 19 [(0,sI s0),(1,.fn 256 [.ptr [I clo1_0.fs.fSize,.sl (List.map I clo1_0.fs.fPlus),.sl (List.map I clo1_0.fs.fTimes),.sl (List.map AV.bool clo1_0.fs.fBelow)] 0,.ptr [I clo1_1] 0])] fun c hc => ?_
 refine rs0 hc 1 [(0,sI s0),(1,.fn 256 [.ptr [I clo1_0.fs.fSize,.sl (List.map I clo1_0.fs.fPlus),.sl (List.map I clo1_0.fs.fTimes),.sl (List.map AV.bool clo1_0.fs.fBelow)] 0,.ptr [I clo1_1] 0])] [] ?_
 refine sN ?_
 refine rs hc none [oN,some (.eqv (.no) ⟨[(7,I (s0.length : Int))],[],[]⟩),oN] [(0,sI s0),(1,.fn 256 [.ptr [I clo1_0.fs.fSize,.sl (List.map I clo1_0.fs.fPlus),.sl (List.map I clo1_0.fs.fTimes),.sl (List.map AV.bool clo1_0.fs.fBelow)] 0,.ptr [I clo1_1] 0]),(7,I (s0.length : Int)),(8,I 0)] [] (ai (Qdj (d := 7) I s0) tv) ?_
 refine bk 0 ?_
 obtain ⟨fl,a0,h⟩ := Qdd h
 have hL := Ko0 _ _ a0 c hc
 refine lp ?_
 rcases fl with ⟨⟩ | r
 ·refine WpL.into (e := (.exit 0)) (mkS [] []) hL ?_
  refine Qcr ?_
  refine rs0 hc 1 [(4,I (-1))] [] ?_
  refine rt ?_
  obtain rfl := os h
  exact rq [true]
 refine WpL.mono hL ?_
 rintro _ _ ⟨rfl,hfin⟩
 obtain rfl := os h
 exact ⟨.inl rfl,hfin⟩
def Ko4 (p : (List Int) × K06 × Int) : Option (Bool) :=
 match p with
 | (s0,clo1_0,clo1_1) =>
  (Ko1 (s0,clo1_0,clo1_1)) >>= fun a0 =>
  some (decide (a0 ≥ 0))
def Ko5 (p : (List Int) × K06 × Int) (r : Bool) : Prop :=
 match p with
 | (s0,clo1_0,clo1_1) => Q71 Tryz.prog 116 [sI s0,.fn 256 [.ptr [I clo1_0.fs.fSize,.sl (List.map I clo1_0.fs.fPlus),.sl (List.map I clo1_0.fs.fTimes),.sl (List.map AV.bool clo1_0.fs.fBelow)] 0,.ptr [I clo1_1] 0]] (.bool r) []
theorem Ko6 : ∀ p r,Ko4 p = some r → Ko5 p r := by
 rintro ⟨s0,clo1_0,clo1_1⟩ r h
 unfold Ko4 at h
 refine b0 Tryz.f116 K8g 9 [(0,sI s0),(1,.fn 256 [.ptr [I clo1_0.fs.fSize,.sl (List.map I clo1_0.fs.fPlus),.sl (List.map I clo1_0.fs.fTimes),.sl (List.map AV.bool clo1_0.fs.fBelow)] 0,.ptr [I clo1_1] 0])] fun c hc => ?_
 refine rs0 hc 1 [(0,sI s0),(1,.fn 256 [.ptr [I clo1_0.fs.fSize,.sl (List.map I clo1_0.fs.fPlus),.sl (List.map I clo1_0.fs.fTimes),.sl (List.map AV.bool clo1_0.fs.fBelow)] 0,.ptr [I clo1_1] 0])] [] ?_
 obtain ⟨a0,a1,h⟩ := Qdd h
 refine rs hc none [oN,oN,oc (I a0),oN,oN] [(4,.bool (decide (a0 ≥ 0)))] [] (cq (Ko3 _ _ a1) K8f tv) ?_
 refine rt ?_
 obtain rfl := os h
 exact rq [true]
def Ko7 (p : K06 × (List Int) × Int) : Option (Bool) :=
 match p with
 | (p0,l1,g2) =>
  (Ko4 (l1,p0,g2)) >>= fun a0 =>
  some (!a0)
def Ko8 (p : K06 × (List Int) × Int) (r : Bool) : Prop :=
 match p with
 | (p0,l1,g2) => Q71 Tryz.prog 247 [K26 p0,sI l1,I g2] (.bool r) []
theorem Ko9 : ∀ p r,Ko7 p = some r → Ko8 p r := by
 rintro ⟨p0,l1,g2⟩ r h
 unfold Ko7 at h
 refine b0 Tryz.f247 K8i 11 [(0,K26 p0),(1,sI l1),(2,I g2)] fun c hc => ?_
 refine rs hc none [some (.new 1),some (.new 2),oN] [(1,sI l1),(3,.ra 1 0),(5,.ra 2 0)] [(1,K25 p0),(2,.box [I g2])] tv ?_
 obtain ⟨a0,a1,h⟩ := Qdd h
 refine rs hc none [oN,oN,oc (.bool a0),oN,oN] [(6,.bool (!a0))] [] (ac (Ko6 _ _ a1) K8h (Or.inr rfl : ([1,2] : List Nat) = [] ∨ noSh (.bool a0) = true) tv) ?_
 refine rt ?_
 obtain rfl := os h
 exact rq [true]
def Koa (c : Ctx) : (List Int) → Exit → Q0a → Prop
 | a0 => Qcz c (.exit 0) (mkS [(7,.rs 2)] [(2,rI a0)])
def Kob (p : K06 × Int × (List Int) × (List Int) × Int) : Option ((List Int)) :=
 match p with
 | (p0,g1,l2,a0,a1) =>
  if (decide (a1 < (l2.length : Int))) = true then
  (idx l2 a1) >>= fun a2 =>
  (Kj2 (p0.fs,g1,a2)) >>= fun a3 =>
  (idx a0 a1) >>= fun a4 =>
  Kob (p0,g1,l2,(List.set a0 (Int.toNat a1) a3),(wr (a1 + 1)))
  else
  some (a0)
 partial_fixpoint
def Koc (p : K06 × Int × (List Int) × (List Int) × Int) (fl : (List Int)) : Prop :=
 match p with
 | (p0,g1,l2,a0,a1) => ∀ c : Ctx,c.nt = 30 → WpL Tryz.prog c (cl (cl (cr (cl (cr (cr K8k)))))) (Koa c fl) (mkS [(1,I g1),(3,.ra 1 0),(7,.rs 2),(13,sI l2),(14,I (l2.length : Int)),(15,I a1)] [(1,K25 p0),(2,rI a0)])
theorem Kod : ∀ p r,Kob p = some r → Koc p r := by
 refine Kob.partial_correctness Koc ?_
 rintro impl_typerscaled_l0_f impl_typerscaled_l0_ih ⟨p0,g1,l2,a0,a1⟩ r h
 intro c hc
 refine WpL.step ?_
 refine K9m hc 1 [(1,I g1),(3,.ra 1 0),(7,.rs 2),(13,sI l2),(14,I (l2.length : Int)),(15,I a1),(16,.bool (decide (a1 < (l2.length : Int))))] ?_
 refine sN ?_
 refine ic h (fun a2 h => ?_) fun a2 h => ?_
 ·refine sk ?_
  refine sN ?_
  refine bk 1 ?_
  obtain ⟨a3,a4,h⟩ := Qdd h
  refine rss hc none [oN,some (.el (I a3)),oN,oN,oN] [(1,I g1),(3,.ra 1 0),(7,.rs 2),(8,I a1),(9,I a3),(13,sI l2),(14,I (l2.length : Int)),(15,I a1)] (ai (ix a4) tv) ?_
  obtain ⟨a5,a6,a7,a8,h⟩ := bq2 h
  refine rg hc none [oN,oN,oN,oN,oN,oN,oc (I a5),oN,some (.eqv (.mk 0 true) ⟨[],[(2,some (.arr (List.map I (List.set a0 (Int.toNat a1) a5))))],[]⟩)] [(1,I g1),(3,.ra 1 0),(7,.rs 2),(13,sI l2),(14,I (l2.length : Int)),(15,I a1)] [(1,K25 p0),(2,.arr (List.map I (List.set a0 (Int.toNat a1) a5)))] (cq (Kj4 _ _ a6) K6p (ac (Qdi (enc := I) a8) (congrArg (fun z => (⟨[],[(2,some (.arr z))],[]⟩ : Wr)) (Qeg (enc := I) (i := Int.toNat a1) (l := a0) (v := a5) (x := I a5) (Qds a5))) (Qeh (enc := I) (sz := 1) Qdw a8) tv)) ?_
  refine K9l hc 2 [(1,I g1),(3,.ra 1 0),(7,.rs 2),(13,sI l2),(14,I (l2.length : Int)),(15,I (wr (a1 + 1)))] ?_
  refine Qcv ?_
  exact (impl_typerscaled_l0_ih _ _ h c hc)
 refine xt 0 ?_
 refine Qcp ?_
 refine Qcw ?_
 obtain rfl := os h
 exact iv []
def Koe (p : K06 × Int × (List Int)) : Option ((List Int)) :=
 match p with
 | (p0,g1,l2) =>
  (chk (0 ≤ (l2.length : Int) ∧ (Int.toNat (l2.length : Int)) * 8 ≤ 140737488355328)) >>= fun _ =>
  (Kob (p0,g1,l2,(List.replicate (Int.toNat (l2.length : Int)) 0),0)) >>= fun a0 =>
  some a0
def Kof (p : K06 × Int × (List Int)) (r : (List Int)) : Prop :=
 match p with
 | (p0,g1,l2) => Q71 Tryz.prog 248 [K26 p0,I g1,sI l2] (oI r) []
theorem Kog : ∀ p r,Koe p = some r → Kof p r := by
 rintro ⟨p0,g1,l2⟩ r h
 unfold Koe at h
 refine b0 Tryz.f248 K8k 30 [(0,K26 p0),(1,I g1),(2,sI l2)] fun c hc => ?_
 refine rs hc none [some (.new 1),oN] [(1,I g1),(2,sI l2),(3,.ra 1 0)] [(1,K25 p0)] tv ?_
 obtain ⟨_,a0,h⟩ := Qdd h
 refine rs hc none [oN,some (.eqv (.no) ⟨[(11,I (l2.length : Int))],[],[]⟩),some (.eqv (.mk 2 true) ⟨[(12,.rs 2)],[(2,some (.arr (List.map I (List.replicate (Int.toNat (l2.length : Int)) 0))))],[2]⟩),oN] [(1,I g1),(2,sI l2),(3,.ra 1 0),(7,.rs 2)] [(1,K25 p0),(2,.arr (List.map I (List.replicate (Int.toNat (l2.length : Int)) 0)))] (ac (Qdj (d := 11) I l2) (congrArg (fun z => (⟨[(12,.rs 2)],[(2,some (.arr z))],[2]⟩ : Wr)) (Qei (enc := I) (n := Int.toNat (l2.length : Int)) (x := I 0) (Qds 0))) (And.intro (Eq.refl (l2.length : Int)) (Qdf a0)) tv) ?_
 refine sN ?_
 refine rss hc none [oN,some (.eqv (.no) ⟨[(14,I (l2.length : Int))],[],[]⟩),oN] [(1,I g1),(3,.ra 1 0),(7,.rs 2),(13,sI l2),(14,I (l2.length : Int)),(15,I 0)] (ai (Qdj (d := 14) I l2) tv) ?_
 refine bk 0 ?_
 obtain ⟨a1,a2,h⟩ := Qdd h
 have hL := Kod _ _ a2 c hc
 refine lp ?_
 refine WpL.into (e := (.exit 0)) (mkS [(7,.rs 2)] [(2,rI a1)]) hL ?_
 refine Qcr ?_
 refine K9m hc 2 [(6,.rs 2)] ?_
 refine rt ?_
 obtain rfl := os h
 exact rq [true]
def Koh (ty0 : (List Int)) : Option (Bool) :=
 some (decide ((ty0.length : Int) > 40))
def Koi (ty0 : (List Int)) (r : Bool) : Prop :=
 Q71 Tryz.prog 249 [sI ty0] (.bool r) []
theorem Koj : ∀ p r,Koh p = some r → Koi p r := by
 rintro ty0 r h
 unfold Koh at h
 refine b0 Tryz.f249 K8m 6 [(0,sI ty0)] fun c hc => ?_
 refine rs0 hc 1 [(0,sI ty0)] [] ?_
 refine rs hc none [oN,some (.eqv (.no) ⟨[(4,I (ty0.length : Int))],[],[]⟩),oN,oN] [(2,.bool (decide ((ty0.length : Int) > 40)))] [] (ai (Qdj (d := 4) I ty0) tv) ?_
 refine rt ?_
 obtain rfl := os h
 exact rq [true]
def Kok (c : Ctx) (p0 : K06) (out1 : K04) (ctx2 : LL) (t3 : K01) (needs4 : LL) (used5 : LL) : ((List Int) × (List Int)) ⊕ ((Int × K04)) → Exit → Q0a → Prop
 | .inl (a0,a1) => Qcz c .normal (mkS [(7,.ra 2 0)] [(2,.box [.ra 2000 0]),(36,rI a1),(2000,.box [sI a0,.rs 36,.sl (List.map K07 out1.fkids),I out1.ffault,sI out1.fpath])])
 | .inr r => Qdb TIx Tryz.f222 [K26 p0,.optr [oI out1.fty,oI out1.fneeds,.osl (List.map K07 out1.fkids),I out1.ffault,oI out1.fpath],sL ctx2,K1y t3,sL needs4,sL used5] (I r.1,[.undef,.optr [.sl (List.map I r.2.fty),.sl (List.map I r.2.fneeds),.sl (List.map K07 r.2.fkids),I r.2.ffault,.sl (List.map I r.2.fpath)],.undef,.undef,.undef,.undef])
def Kol (c : Ctx) (p0 : K06) (out1 : K04) (ctx2 : LL) (t3 : K01) (needs4 : LL) (used5 : LL) : ((List Int) × (List Int)) ⊕ ((Int × K04)) → Exit → Q0a → Prop
 | .inl (a0,a1) => Qcz c .normal (mkS [(7,.ra 2 0)] [(2,.box [.ra 2000 0]),(34,rI a1),(2000,.box [sI a0,.rs 34,.sl (List.map K07 out1.fkids),I out1.ffault,sI out1.fpath])])
 | .inr r => Qdb TIx Tryz.f222 [K26 p0,.optr [oI out1.fty,oI out1.fneeds,.osl (List.map K07 out1.fkids),I out1.ffault,oI out1.fpath],sL ctx2,K1y t3,sL needs4,sL used5] (I r.1,[.undef,.optr [.sl (List.map I r.2.fty),.sl (List.map I r.2.fneeds),.sl (List.map K07 r.2.fkids),I r.2.ffault,.sl (List.map I r.2.fpath)],.undef,.undef,.undef,.undef])
def Kom (c : Ctx) (p0 : K06) (out1 : K04) (ctx2 : LL) (t3 : K01) (needs4 : LL) (used5 : LL) : ((List Int) × (List Int)) ⊕ ((Int × K04)) → Exit → Q0a → Prop
 | .inl (a0,a1) => Qcz c .normal (mkS [(7,.ra 2 0)] [(2,.box [.ra 2000 0]),(30,rI a1),(2000,.box [sI a0,.rs 30,.sl (List.map K07 out1.fkids),I out1.ffault,sI out1.fpath])])
 | .inr r => Qdb TIx Tryz.f222 [K26 p0,.optr [oI out1.fty,oI out1.fneeds,.osl (List.map K07 out1.fkids),I out1.ffault,oI out1.fpath],sL ctx2,K1y t3,sL needs4,sL used5] (I r.1,[.undef,.optr [.sl (List.map I r.2.fty),.sl (List.map I r.2.fneeds),.sl (List.map K07 r.2.fkids),I r.2.ffault,.sl (List.map I r.2.fpath)],.undef,.undef,.undef,.undef])
def Kon (c : Ctx) (p0 : K06) (out1 : K04) (ctx2 : LL) (t3 : K01) (needs4 : LL) (used5 : LL) : ((List Int) × (List Int)) ⊕ ((Int × K04)) → Exit → Q0a → Prop
 | .inl (a0,a1) => Qcz c .normal (mkS [(7,.ra 2 0)] [(2,.box [.ra 2000 0]),(2000,.box [sI a0,sI a1,.sl (List.map K07 out1.fkids),I out1.ffault,sI out1.fpath])])
 | .inr r => Qdb TIx Tryz.f222 [K26 p0,.optr [oI out1.fty,oI out1.fneeds,.osl (List.map K07 out1.fkids),I out1.ffault,oI out1.fpath],sL ctx2,K1y t3,sL needs4,sL used5] (I r.1,[.undef,.optr [.sl (List.map I r.2.fty),.sl (List.map I r.2.fneeds),.sl (List.map K07 r.2.fkids),I r.2.ffault,.sl (List.map I r.2.fpath)],.undef,.undef,.undef,.undef])
def Koo (c : Ctx) (p0 : K06) (out1 : K04) (ctx2 : LL) (t3 : K01) (needs4 : LL) (used5 : LL) : ((List Int) × (List Int)) ⊕ ((Int × K04)) → Exit → Q0a → Prop
 | .inl (a0,a1) => Qcz c .normal (mkS [(7,.ra 2 0)] [(2,.box [.ra 2000 0]),(2000,.box [sI a0,sI a1,.sl (List.map K07 out1.fkids),I out1.ffault,sI out1.fpath])])
 | .inr r => Qdb TIx Tryz.f222 [K26 p0,.optr [oI out1.fty,oI out1.fneeds,.osl (List.map K07 out1.fkids),I out1.ffault,oI out1.fpath],sL ctx2,K1y t3,sL needs4,sL used5] (I r.1,[.undef,.optr [.sl (List.map I r.2.fty),.sl (List.map I r.2.fneeds),.sl (List.map K07 r.2.fkids),I r.2.ffault,.sl (List.map I r.2.fpath)],.undef,.undef,.undef,.undef])
def Kop (c : Ctx) (p0 : K06) (out1 : K04) (ctx2 : LL) (t3 : K01) (needs4 : LL) (used5 : LL) : ((List Int) × (List Int)) ⊕ ((Int × K04)) → Exit → Q0a → Prop
 | .inl (a0,a1) => Qcz c .normal (mkS [(7,.ra 2 0)] [(2,.box [.ra 2000 0]),(2000,.box [sI a0,sI a1,.sl (List.map K07 out1.fkids),I out1.ffault,sI out1.fpath])])
 | .inr r => Qdb TIx Tryz.f222 [K26 p0,.optr [oI out1.fty,oI out1.fneeds,.osl (List.map K07 out1.fkids),I out1.ffault,oI out1.fpath],sL ctx2,K1y t3,sL needs4,sL used5] (I r.1,[.undef,.optr [.sl (List.map I r.2.fty),.sl (List.map I r.2.fneeds),.sl (List.map K07 r.2.fkids),I r.2.ffault,.sl (List.map I r.2.fpath)],.undef,.undef,.undef,.undef])
def Koq (c : Ctx) (p0 : K06) (out1 : K04) (ctx2 : LL) (t3 : K01) (needs4 : LL) (used5 : LL) : ((List Int) × (List Int)) ⊕ ((Int × K04)) → Exit → Q0a → Prop
 | .inl (a0,a1) => Qcz c .normal (mkS [(7,.ra 2 0)] [(2,.box [.ra 2000 0]),(2000,.box [sI a0,sI a1,.sl (List.map K07 out1.fkids),I out1.ffault,sI out1.fpath])])
 | .inr r => Qdb TIx Tryz.f222 [K26 p0,.optr [oI out1.fty,oI out1.fneeds,.osl (List.map K07 out1.fkids),I out1.ffault,oI out1.fpath],sL ctx2,K1y t3,sL needs4,sL used5] (I r.1,[.undef,.optr [.sl (List.map I r.2.fty),.sl (List.map I r.2.fneeds),.sl (List.map K07 r.2.fkids),I r.2.ffault,.sl (List.map I r.2.fpath)],.undef,.undef,.undef,.undef])
def Kor (c : Ctx) (p0 : K06) (out1 : K04) (ctx2 : LL) (t3 : K01) (needs4 : LL) (used5 : LL) : ((List Int) × (List Int)) ⊕ ((Int × K04)) → Exit → Q0a → Prop
 | .inl (a0,a1) => Qcz c .normal (mkS [(7,.ra 2 0)] [(2,.box [.ra 2000 0]),(2000,.box [sI a0,sI a1,.sl (List.map K07 out1.fkids),I out1.ffault,sI out1.fpath])])
 | .inr r => Qdb TIx Tryz.f222 [K26 p0,.optr [oI out1.fty,oI out1.fneeds,.osl (List.map K07 out1.fkids),I out1.ffault,oI out1.fpath],sL ctx2,K1y t3,sL needs4,sL used5] (I r.1,[.undef,.optr [.sl (List.map I r.2.fty),.sl (List.map I r.2.fneeds),.sl (List.map K07 r.2.fkids),I r.2.ffault,.sl (List.map I r.2.fpath)],.undef,.undef,.undef,.undef])
def Kos (c : Ctx) (p0 : K06) (out1 : K04) (ctx2 : LL) (t3 : K01) (needs4 : LL) (used5 : LL) : ((List Int) × (List Int)) ⊕ ((Int × K04)) → Exit → Q0a → Prop
 | .inl (a0,a1) => Qcz c .normal (mkS [(7,.ra 2 0)] [(2,.box [.ra 2000 0]),(2000,.box [sI a0,sI a1,.sl (List.map K07 out1.fkids),I out1.ffault,sI out1.fpath])])
 | .inr r => Qdb TIx Tryz.f222 [K26 p0,.optr [oI out1.fty,oI out1.fneeds,.osl (List.map K07 out1.fkids),I out1.ffault,oI out1.fpath],sL ctx2,K1y t3,sL needs4,sL used5] (I r.1,[.undef,.optr [.sl (List.map I r.2.fty),.sl (List.map I r.2.fneeds),.sl (List.map K07 r.2.fkids),I r.2.ffault,.sl (List.map I r.2.fpath)],.undef,.undef,.undef,.undef])
def Kot (c : Ctx) (p0 : K06) (out1 : K04) (ctx2 : LL) (t3 : K01) (needs4 : LL) (used5 : LL) : ((List Int) × (List Int)) ⊕ ((Int × K04)) → Exit → Q0a → Prop
 | .inl (a0,a1) => Qcz c .normal (mkS [(7,.ra 2 0)] [(2,.box [.ra 2000 0]),(2000,.box [sI a0,sI a1,.sl (List.map K07 out1.fkids),I out1.ffault,sI out1.fpath])])
 | .inr r => Qdb TIx Tryz.f222 [K26 p0,.optr [oI out1.fty,oI out1.fneeds,.osl (List.map K07 out1.fkids),I out1.ffault,oI out1.fpath],sL ctx2,K1y t3,sL needs4,sL used5] (I r.1,[.undef,.optr [.sl (List.map I r.2.fty),.sl (List.map I r.2.fneeds),.sl (List.map K07 r.2.fkids),I r.2.ffault,.sl (List.map I r.2.fpath)],.undef,.undef,.undef,.undef])
def Kou (c : Ctx) (p0 : K06) (out1 : K04) (ctx2 : LL) (t3 : K01) (needs4 : LL) (used5 : LL) : ((List Int) × (List Int)) ⊕ ((Int × K04)) → Exit → Q0a → Prop
 | .inl (a0,a1) => Qcz c .normal (mkS [(7,.ra 2 0)] [(2,.box [.ra 2000 0]),(2000,.box [sI a0,sI a1,.sl (List.map K07 out1.fkids),I out1.ffault,sI out1.fpath])])
 | .inr r => Qdb TIx Tryz.f222 [K26 p0,.optr [oI out1.fty,oI out1.fneeds,.osl (List.map K07 out1.fkids),I out1.ffault,oI out1.fpath],sL ctx2,K1y t3,sL needs4,sL used5] (I r.1,[.undef,.optr [.sl (List.map I r.2.fty),.sl (List.map I r.2.fneeds),.sl (List.map K07 r.2.fkids),I r.2.ffault,.sl (List.map I r.2.fpath)],.undef,.undef,.undef,.undef])
def Kov (c : Ctx) (p0 : K06) (out1 : K04) (ctx2 : LL) (t3 : K01) (needs4 : LL) (used5 : LL) : ((List Int) × (List Int)) ⊕ ((Int × K04)) → Exit → Q0a → Prop
 | .inl (a0,a1) => Qcz c .normal (mkS [(7,.ra 2 0)] [(2,.box [.ra 2000 0]),(2000,.box [sI a0,sI a1,.sl (List.map K07 out1.fkids),I out1.ffault,sI out1.fpath])])
 | .inr r => Qdb TIx Tryz.f222 [K26 p0,.optr [oI out1.fty,oI out1.fneeds,.osl (List.map K07 out1.fkids),I out1.ffault,oI out1.fpath],sL ctx2,K1y t3,sL needs4,sL used5] (I r.1,[.undef,.optr [.sl (List.map I r.2.fty),.sl (List.map I r.2.fneeds),.sl (List.map K07 r.2.fkids),I r.2.ffault,.sl (List.map I r.2.fpath)],.undef,.undef,.undef,.undef])
def Kow (c : Ctx) (p0 : K06) (out1 : K04) (ctx2 : LL) (t3 : K01) (needs4 : LL) (used5 : LL) : ((List Int) × (List Int)) ⊕ ((Int × K04)) → Exit → Q0a → Prop
 | .inl (a0,a1) => Qcz c .normal (mkS [(7,.ra 2 0)] [(2,.box [.ra 2000 0]),(2000,.box [sI a0,sI a1,.sl (List.map K07 out1.fkids),I out1.ffault,sI out1.fpath])])
 | .inr r => Qdb TIx Tryz.f222 [K26 p0,.optr [oI out1.fty,oI out1.fneeds,.osl (List.map K07 out1.fkids),I out1.ffault,oI out1.fpath],sL ctx2,K1y t3,sL needs4,sL used5] (I r.1,[.undef,.optr [.sl (List.map I r.2.fty),.sl (List.map I r.2.fneeds),.sl (List.map K07 r.2.fkids),I r.2.ffault,.sl (List.map I r.2.fpath)],.undef,.undef,.undef,.undef])
def Kox : Option (List (List Nat)) := rx [[0],[0],[0,1],[0,1,2],[0],[0,4],[6],[7]]
def Koy : Option (List (List Nat)) := rx [[0],[0],[0],[0,2],[0],[0],[0],[0,6],[0],[0,8],[0,8,9],[0,2,3,5,6,7,8,9,10],[0],[0,12],[0,12,13],[0,2,3,4,5,6,7,8,9,10,11,12,13,14],[1,2,3,4,5,6,7,8,9,10,11,12,13,14,15],[1,2,3,4,5,6,7,8,9,10,11,12,13,14,15,16],[1,2,3,4,5,6,7,8,9,10,11,12,13,14,15,16,17],[19],[20],[21]]
def Koz : Option (List (List Nat)) := rx [[0],[0],[0],[0],[0,3],[0],[0,5],[0,2,3,4,5,6],[0,2,3,4,5,6,7],[0],[0,9],[0,9,10],[1,2,3,4,5,6,7,8,9,10,11],[1,2,3,4,5,6,7,8,9,10,11,12],[1,2,3,4,5,6,7,8,9,10,11,12,13],[15],[16],[17]]
def Kp0 : Option (List (List Nat)) := rx [[0],[0],[0,1],[0,1,2],[0],[0,4],[6],[7],[8],[9],[9],[9,10],[9,10,11],[9],[9,13],[15],[16],[17]]
def Kp1 (p : K06 × K04 × LL × K01 × LL × LL) : Option (Int × K04) :=
 match p with
 | (p0,out1,ctx2,t3,needs4,used5) =>
  ((
   if (t3.fOp == 0) = true then
   (idx ctx2 t3.fN) >>= fun a0 =>
   (Kmq a0) >>= fun a1 =>
   (idx out1.fneeds t3.fN) >>= fun a2 =>
   some (.inl (a1,(List.set out1.fneeds (Int.toNat t3.fN) 1)))
   else
   ((
    if (t3.fOp == 1) = true then
    some (.inl ([0],out1.fneeds))
    else
    ((
     if (t3.fOp == 2) = true then
     (idx needs4 0) >>= fun a3 =>
     (idx needs4 1) >>= fun a4 =>
     (Kn0 (p0,a3,a4)) >>= fun a5 =>
     some (.inl ([0],a5))
     else
     ((
      if (t3.fOp == 3) = true then
      (Kn3 (1,out1)) >>= fun a6 =>
      (Kn3 (2,out1)) >>= fun a7 =>
      (Kmn (a6,a7)) >>= fun a8 =>
      if a8 = true then
       (Kn3 (1,out1)) >>= fun a9 =>
       (idx needs4 0) >>= fun b1 =>
       (idx needs4 1) >>= fun b2 =>
       (idx needs4 2) >>= fun b3 =>
       (Knd (p0,b2,b3)) >>= fun b4 =>
       (Kn0 (p0,b1,b4)) >>= fun b5 =>
       some (.inl (a9,b5))
      else
       some (.inr (3,out1))
      else
      ((
       if (t3.fOp == 4) = true then
       (Kn3 (0,out1)) >>= fun b6 =>
       (Kn3 (1,out1)) >>= fun b7 =>
       (Knr [[1],b6,b7]) >>= fun b8 =>
       (idx needs4 0) >>= fun b9 =>
       (idx needs4 1) >>= fun c0 =>
       (Kn0 (p0,b9,c0)) >>= fun c1 =>
       some (.inl (b8,c1))
       else
       ((
        if (t3.fOp == 5) = true then
        (idx used5 1) >>= fun c2 =>
        (Ko7 (p0,c2,t3.fN)) >>= fun c3 =>
        if c3 = true then
         (Kn3 (1,out1)) >>= fun c4 =>
         (idx needs4 0) >>= fun c5 =>
         (Koe (p0,t3.fN,c5)) >>= fun c6 =>
         (idx needs4 1) >>= fun c7 =>
         (Kn0 (p0,c6,c7)) >>= fun c8 =>
         some (.inl (c4,c8))
        else
         some (.inr (9,out1))
        else
        ((
         if (t3.fOp == 6) = true then
         (Kn3 (0,out1)) >>= fun c9 =>
         (Knr [[2],c9,t3.fType]) >>= fun d0 =>
         (idx needs4 0) >>= fun d1 =>
         some (.inl (d0,d1))
         else
         ((
          if (t3.fOp == 7) = true then
          (Kn3 (0,out1)) >>= fun d2 =>
          (Knr [[2],t3.fType,d2]) >>= fun d3 =>
          (idx needs4 0) >>= fun d4 =>
          some (.inl (d3,d4))
          else
          ((
           if (t3.fOp == 8) = true then
           (Kn3 (1,out1)) >>= fun d5 =>
           (Kn3 (2,out1)) >>= fun d6 =>
           (Kmn (d5,d6)) >>= fun d7 =>
           if d7 = true then
            ((
            (idx used5 1) >>= fun d8 =>
            (Ko7 (p0,d8,t3.fN)) >>= fun d9 =>
            if d9 = true then
             (idx used5 2) >>= fun e0 =>
             (Ko7 (p0,e0,t3.fN)) >>= fun e1 =>
             some ((!e1))
            else
             some (true)
            ) : Option (Bool)) >>= fun e2 =>
            if e2 = true then
            some (.inr (9,out1))
            else
            (Kn3 (1,out1)) >>= fun e3 =>
            (idx needs4 0) >>= fun e4 =>
            (Koe (p0,t3.fN,e4)) >>= fun e5 =>
            (idx needs4 1) >>= fun e6 =>
            (idx needs4 2) >>= fun e7 =>
            (Knd (p0,e6,e7)) >>= fun e8 =>
            (Kn0 (p0,e5,e8)) >>= fun e9 =>
            some (.inl (e3,e9))
           else
            some (.inr (3,out1))
           else
           ((
            if (t3.fOp == 9) = true then
            (idx used5 0) >>= fun f0 =>
            (Ko7 (p0,f0,t3.fN)) >>= fun f1 =>
            if f1 = true then
             (Kn3 (0,out1)) >>= fun f2 =>
             (Knr [[(wr (3 + t3.fN))],t3.fType,f2]) >>= fun f3 =>
             (idx needs4 0) >>= fun f4 =>
             some (.inl (f3,f4))
            else
             some (.inr (9,out1))
            else
            ((
             if (t3.fOp == 10) = true then
             (Kn3 (0,out1)) >>= fun f5 =>
             (idx f5 0) >>= fun f6 =>
             (Kkb f6) >>= fun (f7,f8) =>
             (Kn3 (0,out1)) >>= fun f9 =>
             (Klv f9) >>= fun g0 =>
             (idx g0 1) >>= fun g1 =>
             (idx needs4 0) >>= fun g2 =>
             (idx needs4 1) >>= fun g3 =>
             (Koe (p0,f8,g3)) >>= fun g4 =>
             (Kn0 (p0,g2,g4)) >>= fun g5 =>
             some (.inl (g1,g5))
             else
             ((
              if (t3.fOp == 11) = true then
              (Kn3 (0,out1)) >>= fun g6 =>
              (Knr [[(wr (19 + t3.fN))],g6]) >>= fun g7 =>
              (idx needs4 0) >>= fun g8 =>
              (Koe (p0,t3.fN,g8)) >>= fun g9 =>
              some (.inl (g7,g9))
              else
              ((
               if (t3.fOp == 12) = true then
               (Kn3 (0,out1)) >>= fun i0 =>
               (idx i0 0) >>= fun i1 =>
               (Kkb i1) >>= fun (i2,i3) =>
               (idx used5 1) >>= fun i4 =>
               (Kj2 (p0.fs,t3.fN,i3)) >>= fun i5 =>
               (Ko7 (p0,i4,i5)) >>= fun i6 =>
               if i6 = true then
               (Kn3 (1,out1)) >>= fun i7 =>
               (idx needs4 0) >>= fun i8 =>
               (Koe (p0,t3.fN,i8)) >>= fun i9 =>
               (idx needs4 1) >>= fun j0 =>
               (Kn0 (p0,i9,j0)) >>= fun j8 =>
               some (.inl (i7,j8))
               else
               some (.inr (9,out1))
               else
               some (.inl (out1.fty,out1.fneeds))) : Option (((List Int) × (List Int)) ⊕ ((Int × K04)))) >>= fun fl => match fl with
              | .inl (j9,k0) =>
               some (.inl (j9,k0))
              | .inr r =>
               some (.inr r)) : Option (((List Int) × (List Int)) ⊕ ((Int × K04)))) >>= fun fl => match fl with
             | .inl (k1,k2) =>
              some (.inl (k1,k2))
             | .inr r =>
              some (.inr r)) : Option (((List Int) × (List Int)) ⊕ ((Int × K04)))) >>= fun fl => match fl with
            | .inl (k3,k4) =>
             some (.inl (k3,k4))
            | .inr r =>
             some (.inr r)) : Option (((List Int) × (List Int)) ⊕ ((Int × K04)))) >>= fun fl => match fl with
           | .inl (k5,k6) =>
            some (.inl (k5,k6))
           | .inr r =>
            some (.inr r)) : Option (((List Int) × (List Int)) ⊕ ((Int × K04)))) >>= fun fl => match fl with
          | .inl (k7,k8) =>
           some (.inl (k7,k8))
          | .inr r =>
           some (.inr r)) : Option (((List Int) × (List Int)) ⊕ ((Int × K04)))) >>= fun fl => match fl with
         | .inl (k9,l0) =>
          some (.inl (k9,l0))
         | .inr r =>
          some (.inr r)) : Option (((List Int) × (List Int)) ⊕ ((Int × K04)))) >>= fun fl => match fl with
        | .inl (l1,l2) =>
         some (.inl (l1,l2))
        | .inr r =>
         some (.inr r)) : Option (((List Int) × (List Int)) ⊕ ((Int × K04)))) >>= fun fl => match fl with
       | .inl (l3,l4) =>
        some (.inl (l3,l4))
       | .inr r =>
        some (.inr r)) : Option (((List Int) × (List Int)) ⊕ ((Int × K04)))) >>= fun fl => match fl with
      | .inl (l5,l6) =>
       some (.inl (l5,l6))
      | .inr r =>
       some (.inr r)) : Option (((List Int) × (List Int)) ⊕ ((Int × K04)))) >>= fun fl => match fl with
     | .inl (l7,l8) =>
      some (.inl (l7,l8))
     | .inr r =>
      some (.inr r)) : Option (((List Int) × (List Int)) ⊕ ((Int × K04)))) >>= fun fl => match fl with
    | .inl (l9,m0) =>
     some (.inl (l9,m0))
    | .inr r =>
     some (.inr r)) : Option (((List Int) × (List Int)) ⊕ ((Int × K04)))) >>= fun fl => match fl with
   | .inl (m1,m2) =>
    some (.inl (m1,m2))
   | .inr r =>
    some (.inr r)) : Option (((List Int) × (List Int)) ⊕ ((Int × K04)))) >>= fun fl => match fl with
  | .inl (m3,m4) =>
   (Koh m3) >>= fun m5 =>
   if m5 = true then
   some (3,(K04.mk m3 m4 out1.fkids out1.ffault out1.fpath))
   else
   some (0,(K04.mk m3 m4 out1.fkids out1.ffault out1.fpath))
  | .inr r =>
   some r
def Kp2 (p : K06 × K04 × LL × K01 × LL × LL) (r : Int × K04) : Prop :=
 match p with
 | (p0,out1,ctx2,t3,needs4,used5) => Q71 Tryz.prog 222 [K26 p0,.optr [oI out1.fty,oI out1.fneeds,.osl (List.map K07 out1.fkids),I out1.ffault,oI out1.fpath],sL ctx2,K1y t3,sL needs4,sL used5] (I r.1) [.undef,.optr [.sl (List.map I r.2.fty),.sl (List.map I r.2.fneeds),.sl (List.map K07 r.2.fkids),I r.2.ffault,.sl (List.map I r.2.fpath)],.undef,.undef,.undef,.undef]
theorem Kp3 : ∀ p r,Kp1 p = some r → Kp2 p r := by
 rintro ⟨p0,out1,ctx2,t3,needs4,used5⟩ r h
 unfold Kp1 at h
 refine Q71.bodyO K34 (fn := Tryz.f222) (code := K8o) (by kernel_rfl) (by kernel_rfl) (by kernel_rfl) (nt := 362) (by kernel_rfl) (by kernel_rfl) (T := [(0,K26 p0),(1,.ra 2000 0),(2,sL ctx2),(3,K1y t3),(4,sL needs4),(5,sL used5)]) (O := [(2000,.box [.rs 2001,.rs 2002,.rs 2003,I out1.ffault,.rs 2004]),(2001,rI out1.fty),(2002,rI out1.fneeds),(2003,.arr (List.map K07 out1.fkids)),(2004,rI out1.fpath)]) (by kernel_rfl) (by kernel_rfl) (fun c hc => ?_)
 refine vz 2001 (Qe5 out1.fty) [(0,K26 p0),(1,.ra 2000 0),(2,sL ctx2),(3,K1y t3),(4,sL needs4),(5,sL used5)] [(2000,.box [sI out1.fty,.rs 2002,.rs 2003,I out1.ffault,.rs 2004]),(2002,rI out1.fneeds),(2003,.arr (List.map K07 out1.fkids)),(2004,rI out1.fpath)] ?_
 refine vz 2003 (K0e out1.fkids) [(0,K26 p0),(1,.ra 2000 0),(2,sL ctx2),(3,K1y t3),(4,sL needs4),(5,sL used5)] [(2000,.box [sI out1.fty,.rs 2002,.sl (List.map K07 out1.fkids),I out1.ffault,.rs 2004]),(2002,rI out1.fneeds),(2004,rI out1.fpath)] ?_
 refine vz 2004 (Qe5 out1.fpath) [(0,K26 p0),(1,.ra 2000 0),(2,sL ctx2),(3,K1y t3),(4,sL needs4),(5,sL used5)] [(2000,.box [sI out1.fty,.rs 2002,.sl (List.map K07 out1.fkids),I out1.ffault,sI out1.fpath]),(2002,rI out1.fneeds)] ?_
 refine rs hc none [some (.new 1),some (.new 2),some (.new 3),oN] [(2,sL ctx2),(4,sL needs4),(5,sL used5),(6,.ra 1 0),(7,.ra 2 0),(9,.ra 3 0)] [(1,K25 p0),(2,.box [.ra 2000 0]),(3,K1x t3),(2000,.box [sI out1.fty,.rs 2002,.sl (List.map K07 out1.fkids),I out1.ffault,sI out1.fpath]),(2002,rI out1.fneeds)] tv ?_
 refine K9m hc 2 [(2,sL ctx2),(4,sL needs4),(5,sL used5),(6,.ra 1 0),(7,.ra 2 0),(9,.ra 3 0),(13,.fn 243 [.ra 2 0])] ?_
 refine sN ?_
 refine K9m hc 2 [(2,sL ctx2),(4,sL needs4),(5,sL used5),(6,.ra 1 0),(7,.ra 2 0),(9,.ra 3 0),(13,.fn 243 [.ra 2 0]),(20,I t3.fOp)] ?_
 refine bk 0 ?_
 refine K9m hc 2 [(2,sL ctx2),(4,sL needs4),(5,sL used5),(6,.ra 1 0),(7,.ra 2 0),(9,.ra 3 0),(13,.fn 243 [.ra 2 0]),(20,I t3.fOp),(21,.bool (t3.fOp == 0))] ?_
 obtain ⟨fl,a0,h⟩ := Qdd h
 refine flw (Kow c p0 out1 ctx2 t3 needs4 used5 fl) ?_ (fun hF => ?_)
 ·replace h := a0
  refine ic h (fun a1 h => ?_) fun a1 h => ?_
  ·obtain ⟨a2,a3,a4,a5,h⟩ := bq2 h
   refine rs hc (rx [[0],[0],[0],[0,2],[0,1,2,3],[0,1,2,3,4],[0,1,2,3,4,5],[7],[8],[9]]) [oN,oN,oN,oN,some (.el (sI a2)),oN,some (.call (oI a4) [] 4),oN,oN,oN] [(7,.ra 2 0),(9,.ra 3 0)] [(2,.box [.ra 2000 0]),(3,K1x t3),(4,rI a4),(2000,.box [.rs 4,.rs 2002,.sl (List.map K07 out1.fkids),I out1.ffault,sI out1.fpath]),(2002,rI out1.fneeds)] (ai (xL a3) (cq (Kms _ _ a5) K7z tv)) ?_
   obtain ⟨a6,a7,h⟩ := Qdd h
   refine rg hc (rx [[0],[1],[2],[3],[0],[0,4],[6],[7]]) [oN,oN,oN,oN,oN,oN,oN,some (.eqv (.mk 0 true) ⟨[],[(2002,some (.arr (List.map I (List.set out1.fneeds (Int.toNat t3.fN) 1))))],[]⟩)] [(7,.ra 2 0)] [(2,.box [.ra 2000 0]),(4,rI a4),(2000,.box [.rs 4,.rs 2002,.sl (List.map K07 out1.fkids),I out1.ffault,sI out1.fpath]),(2002,.arr (List.map I (List.set out1.fneeds (Int.toNat t3.fN) 1)))] (ac (Qdi (enc := I) a7) (congrArg (fun z => (⟨[],[(2002,some (.arr z))],[]⟩ : Wr)) (Qeg (enc := I) (i := Int.toNat t3.fN) (l := out1.fneeds) (v := 1) (x := I 1) (Qds 1))) (Qeh (enc := I) (sz := 1) Qdw a7) tv) ?_
   obtain rfl := os h
   exact Qcz.view (fun a w hv => SRx.renL [] (SRx.frzC 2002 (xs := List.map I (List.set out1.fneeds (Int.toNat t3.fN) 1)) (xs' := List.map I (List.set out1.fneeds (Int.toNat t3.fN) 1)) (SRx.frzC 4 (xs := List.map I a4) (xs' := List.map I a4) hv (by kernel_rfl) (Qe5 _)) (by kernel_rfl) (Qe5 _)) (by kernel_rfl) (by kernel_rfl) (by kernel_rfl))
  refine K9m hc 2 [(4,sL needs4),(5,sL used5),(6,.ra 1 0),(7,.ra 2 0),(9,.ra 3 0),(13,.fn 243 [.ra 2 0]),(20,I t3.fOp),(39,.bool (t3.fOp == 1))] ?_
  obtain ⟨fl,a8,h⟩ := Qdd h
  refine flw (Kov c p0 out1 ctx2 t3 needs4 used5 fl) ?_ (fun hF => ?_)
  ·replace h := a8
   refine ic h (fun a9 h => ?_) fun a9 h => ?_
   ·refine rg hc none [oN,some (.mk 5 true),oN,oN,oN] [(7,.ra 2 0)] [(2,.box [.ra 2000 0]),(5,.arr (List.map I [0])),(2000,.box [.rs 5,.rs 2002,.sl (List.map K07 out1.fkids),I out1.ffault,sI out1.fpath]),(2002,rI out1.fneeds)] tv ?_
    obtain rfl := os h
    exact Qcz.view (fun a w hv => SRx.renL [] (SRx.frzC 2002 (xs := List.map I out1.fneeds) (xs' := List.map I out1.fneeds) (SRx.frzC 5 (xs := List.map I [0]) (xs' := List.map I [0]) hv (by kernel_rfl) (Qe5 _)) (by kernel_rfl) (Qe5 _)) (by kernel_rfl) (by kernel_rfl) (by kernel_rfl))
   refine K9m hc 2 [(4,sL needs4),(5,sL used5),(6,.ra 1 0),(7,.ra 2 0),(9,.ra 3 0),(13,.fn 243 [.ra 2 0]),(20,I t3.fOp),(45,.bool (t3.fOp == 2))] ?_
   obtain ⟨fl,b1,h⟩ := Qdd h
   refine flw (Kou c p0 out1 ctx2 t3 needs4 used5 fl) ?_ (fun hF => ?_)
   ·replace h := b1
    refine ic h (fun b2 h => ?_) fun b2 h => ?_
    ·obtain ⟨b3,b4,b5,b6,b7,b8,h⟩ := bq3 h
     refine rg hc (rx [[0],[0],[0],[0],[0],[0,4],[0,4,5],[0],[0,7],[0,7,8],[0,3,4,5,6,7,8,9],[1,2,3,4,5,6,7,8,9,10],[1,2,3,4,5,6,7,8,9,10,11],[1,2,3,4,5,6,7,8,9,10,11,12],[14],[15],[16]]) [oN,oN,some (.mk 6 true),oN,oN,some (.el (sI b3)),oN,oN,some (.el (sI b5)),oN,some (.call (oI b7) [] 7),oN,oN,oN,oN,oN,oN] [(7,.ra 2 0)] [(2,.box [.ra 2000 0]),(6,.arr (List.map I [0])),(7,rI b7),(2000,.box [.rs 6,.rs 7,.sl (List.map K07 out1.fkids),I out1.ffault,sI out1.fpath])] (ab (xL b4) (xL b6) (cq (Kn2 _ _ b8) K83 tv)) ?_
     obtain rfl := os h
     exact Qcz.view (fun a w hv => SRx.renL [] (SRx.frzC 7 (xs := List.map I b7) (xs' := List.map I b7) (SRx.frzC 6 (xs := List.map I [0]) (xs' := List.map I [0]) hv (by kernel_rfl) (Qe5 _)) (by kernel_rfl) (Qe5 _)) (by kernel_rfl) (by kernel_rfl) (by kernel_rfl))
    refine K9m hc 2 [(4,sL needs4),(5,sL used5),(6,.ra 1 0),(7,.ra 2 0),(9,.ra 3 0),(13,.fn 243 [.ra 2 0]),(20,I t3.fOp),(62,.bool (t3.fOp == 3))] ?_
    obtain ⟨fl,b9,h⟩ := Qdd h
    refine flw (Kot c p0 out1 ctx2 t3 needs4 used5 fl) ?_ (fun hF => ?_)
    ·replace h := b9
     refine ic h (fun c0 h => ?_) fun c0 h => ?_
     ·refine sN ?_
      refine sN ?_
      refine vz 2002 (Qe5 out1.fneeds) [(4,sL needs4),(5,sL used5),(6,.ra 1 0),(7,.ra 2 0),(9,.ra 3 0),(13,.fn 243 [.ra 2 0]),(20,I t3.fOp),(62,.bool (t3.fOp == 3))] [(1,K25 p0),(2,.box [.ra 2000 0]),(3,K1x t3),(2000,K23 out1)] ?_
      obtain ⟨c1,c2,c3,c4,c5,c6,h⟩ := bq3 h
      refine rg hc none [oN,some (.el (sI c1)),oN,some (.el (sI c3)),oc (.bool c5),oN] [(4,sL needs4),(6,.ra 1 0),(7,.ra 2 0),(13,.fn 243 [.ra 2 0]),(69,.bool (!c5))] [(1,K25 p0),(2,.box [.ra 2000 0]),(2000,K23 out1)] (ad (Kn5 _ _ c2) K85 (Kn5 _ _ c4) K85 (cq (Kmp _ _ c6) K7y tv)) ?_
      rcases is h with ⟨c7,h⟩ | ⟨c7,h⟩
      ·refine cF (!c5) (nF c7) ?_
       refine sk ?_
       obtain ⟨c8,c9,d0,d1,d2,d3,d4,d5,h⟩ := bq4 h
       obtain ⟨d6,d7,d8,d9,h⟩ := bq2 h
       refine rg hc (rx [[0],[0],[0],[0,2],[0],[0],[0,5],[0,5,6],[0],[0],[0,9],[0,9,10],[0],[0,12],[0,12,13],[0,2,3,8,9,10,11,12,13,14],[0,2,3,4,5,6,7,8,9,10,11,12,13,14,15],[1,2,3,4,5,6,7,8,9,10,11,12,13,14,15,16],[1,2,3,4,5,6,7,8,9,10,11,12,13,14,15,16,17],[1,2,3,4,5,6,7,8,9,10,11,12,13,14,15,16,17,18],[20],[21],[22]]) [oN,oN,oN,some (.el (sI c8)),oN,oN,some (.el (sI d0)),oN,oN,oN,some (.el (sI d2)),oN,oN,some (.el (sI d4)),oN,some (.call (oI d6) [] 8),some (.call (oI d8) [] 9),oN,oN,oN,oN,oN,oN] [(7,.ra 2 0)] [(2,.box [.ra 2000 0]),(9,rI d8),(2000,.box [sI c8,.rs 9,.sl (List.map K07 out1.fkids),I out1.ffault,sI out1.fpath])] (ad (Kn5 _ _ c9) K85 (xL d1) (xL d3) (ai (xL d5) (cq (Knf _ _ d7) K87 (ac (Q71.args (A1 := [K26 p0,sI d0,.sl (Q02 (List.map I d6))]) (A2 := [K26 p0,sI d0,sI d6]) (by simp only [List.map_nil,Qe5]) (Kn2 _ _ d9)) K83 (Or.inr (Qed Qe9 d8) : ([8] : List Nat) = [] ∨ noSh (oI d8) = true) tv)))) ?_
       obtain rfl := os h
       exact Qcz.view (fun a w hv => SRx.renL [] (SRx.frzC 9 (xs := List.map I d8) (xs' := List.map I d8) hv (by kernel_rfl) (Qe5 _)) (by kernel_rfl) (by kernel_rfl) (by kernel_rfl))
      refine cT (!c5) (nT c7) ?_
      refine rs0 hc 1 [(12,I 3)] [(2000,K23 out1)] ?_
      refine rt ?_
      obtain rfl := os h
      exact Qdb.ret (fl := [true]) (by kernel_rfl)
     refine K9m hc 2 [(4,sL needs4),(5,sL used5),(6,.ra 1 0),(7,.ra 2 0),(9,.ra 3 0),(13,.fn 243 [.ra 2 0]),(20,I t3.fOp),(91,.bool (t3.fOp == 4))] ?_
     obtain ⟨fl,e0,h⟩ := Qdd h
     refine flw (Kos c p0 out1 ctx2 t3 needs4 used5 fl) ?_ (fun hF => ?_)
     ·replace h := e0
      refine ic h (fun e1 h => ?_) fun e1 h => ?_
      ·refine vz 2002 (Qe5 out1.fneeds) [(4,sL needs4),(5,sL used5),(6,.ra 1 0),(7,.ra 2 0),(9,.ra 3 0),(13,.fn 243 [.ra 2 0]),(20,I t3.fOp),(91,.bool (t3.fOp == 4))] [(1,K25 p0),(2,.box [.ra 2000 0]),(3,K1x t3),(2000,K23 out1)] ?_
       obtain ⟨e2,e3,e4,e5,e6,e7,e8,e9,h⟩ := bq4 h
       obtain ⟨f0,f1,f2,f3,h⟩ := bq2 h
       refine rg hc (rx [[0],[0],[0],[0],[0,3],[0],[0,3,4,5],[0,2,3,4,5,6],[0,2,3,4,5,6,7],[0],[0],[0,10],[0,10,11],[0],[0,13],[0,13,14],[0,2,3,4,5,6,7,8,9,10,11,12,13,14,15],[1,2,3,4,5,6,7,8,9,10,11,12,13,14,15,16],[1,2,3,4,5,6,7,8,9,10,11,12,13,14,15,16,17],[1,2,3,4,5,6,7,8,9,10,11,12,13,14,15,16,17,18],[20],[21],[22]]) [oN,oN,some (.mk 11 true),oN,some (.el (sI e2)),oN,some (.el (sI e4)),some (.mk 12 true),some (.call (sI e6) [.tup []] 1),oN,oN,some (.el (sI e8)),oN,oN,some (.el (sI f0)),oN,some (.call (oI f2) [] 13),oN,oN,oN,oN,oN,oN] [(7,.ra 2 0)] [(2,.box [.ra 2000 0]),(13,rI f2),(2000,.box [sI e6,.rs 13,.sl (List.map K07 out1.fkids),I out1.ffault,sI out1.fpath])] (ad (Kn5 _ _ e3) K85 (Kn5 _ _ e5) K85 (ad (Q71.args (A1 := [.sl (Q02 [AV.osl (List.map I [1]),sI e2,sI e4])]) (A2 := [.sl (List.map K14 [[1],e2,e4])]) (by simp only [List.map_cons,List.map_nil,K15,Qe5,share,Qf1,Q02]) (Knt _ _ e7)) K8b (xL e9) (xL f1) (cq (Kn2 _ _ f3) K83 tv))) ?_
       obtain rfl := os h
       exact Qcz.view (fun a w hv => SRx.renL [] (SRx.frzC 13 (xs := List.map I f2) (xs' := List.map I f2) hv (by kernel_rfl) (Qe5 _)) (by kernel_rfl) (by kernel_rfl) (by kernel_rfl))
      refine K9m hc 2 [(4,sL needs4),(5,sL used5),(6,.ra 1 0),(7,.ra 2 0),(9,.ra 3 0),(13,.fn 243 [.ra 2 0]),(20,I t3.fOp),(114,.bool (t3.fOp == 5))] ?_
      obtain ⟨fl,f4,h⟩ := Qdd h
      refine flw (Kor c p0 out1 ctx2 t3 needs4 used5 fl) ?_ (fun hF => ?_)
      ·replace h := f4
       refine ic h (fun f5 h => ?_) fun f5 h => ?_
       ·refine sN ?_
        obtain ⟨f6,f7,f8,f9,h⟩ := bq2 h
        refine rss hc Kox [oN,oN,some (.el (sI f6)),oN,oN,oN,oc (.bool f8),oN] [(4,sL needs4),(6,.ra 1 0),(7,.ra 2 0),(9,.ra 3 0),(13,.fn 243 [.ra 2 0]),(123,.bool (!f8))] (ai (xL f7) (cq (Ko9 _ _ f9) K8j tv)) ?_
        rcases is h with ⟨g0,h⟩ | ⟨g0,h⟩
        ·refine cF (!f8) (nF g0) ?_
         refine sk ?_
         refine vz 2002 (Qe5 out1.fneeds) [(4,sL needs4),(6,.ra 1 0),(7,.ra 2 0),(9,.ra 3 0),(13,.fn 243 [.ra 2 0]),(123,.bool (!f8))] [(1,K25 p0),(2,.box [.ra 2000 0]),(3,K1x t3),(2000,K23 out1)] ?_
         obtain ⟨g1,g2,g3,g4,g5,g6,g7,g8,h⟩ := bq4 h
         obtain ⟨g9,i0,h⟩ := Qdd h
         refine rg hc Koy [oN,oN,oN,some (.el (sI g1)),oN,oN,oN,oN,oN,some (.el (sI g3)),oN,some (.call (oI g5) [] 14),oN,some (.el (sI g7)),oN,some (.call (oI g9) [] 15),oN,oN,oN,oN,oN,oN] [(7,.ra 2 0)] [(2,.box [.ra 2000 0]),(15,rI g9),(2000,.box [sI g1,.rs 15,.sl (List.map K07 out1.fkids),I out1.ffault,sI out1.fpath])] (ac (Kn5 _ _ g2) K85 (xL g4) (cq (Kog _ _ g6) K8l (ad (xL g8) (Q71.args (A1 := [K26 p0,.sl (Q02 (List.map I g5)),sI g7]) (A2 := [K26 p0,sI g5,sI g7]) (by simp only [List.map_nil,Qe5]) (Kn2 _ _ i0)) K83 (Or.inr (Qed Qe9 g9) : ([14] : List Nat) = [] ∨ noSh (oI g9) = true) tv))) ?_
         obtain rfl := os h
         exact Qcz.view (fun a w hv => SRx.renL [] (SRx.frzC 15 (xs := List.map I g9) (xs' := List.map I g9) hv (by kernel_rfl) (Qe5 _)) (by kernel_rfl) (by kernel_rfl) (by kernel_rfl))
        refine cT (!f8) (nT g0) ?_
        refine rs0 hc 1 [(12,I 9)] [(2000,.box [sI out1.fty,.rs 2002,.sl (List.map K07 out1.fkids),I out1.ffault,sI out1.fpath]),(2002,rI out1.fneeds)] ?_
        refine vz 2002 (Qe5 out1.fneeds) [(12,I 9)] [(2000,K23 out1)] ?_
        refine rt ?_
        obtain rfl := os h
        exact Qdb.ret (fl := [true]) (by kernel_rfl)
       refine K9m hc 2 [(4,sL needs4),(5,sL used5),(6,.ra 1 0),(7,.ra 2 0),(9,.ra 3 0),(13,.fn 243 [.ra 2 0]),(20,I t3.fOp),(144,.bool (t3.fOp == 6))] ?_
       obtain ⟨fl,i1,h⟩ := Qdd h
       refine flw (Koq c p0 out1 ctx2 t3 needs4 used5 fl) ?_ (fun hF => ?_)
       ·replace h := i1
        refine ic h (fun i2 h => ?_) fun i2 h => ?_
        ·refine vz 2002 (Qe5 out1.fneeds) [(4,sL needs4),(5,sL used5),(6,.ra 1 0),(7,.ra 2 0),(9,.ra 3 0),(13,.fn 243 [.ra 2 0]),(20,I t3.fOp),(144,.bool (t3.fOp == 6))] [(1,K25 p0),(2,.box [.ra 2000 0]),(3,K1x t3),(2000,K23 out1)] ?_
         obtain ⟨i3,i4,i5,i6,i7,i8,h⟩ := bq3 h
         refine rg hc Koz [oN,oN,some (.mk 17 true),oN,some (.el (sI i3)),oN,oN,some (.mk 18 true),some (.call (sI i5) [.tup []] 1),oN,some (.el (sI i7)),oN,oN,oN,oN,oN,oN,oN] [(7,.ra 2 0)] [(2,.box [.ra 2000 0]),(2000,.box [sI i5,sI i7,.sl (List.map K07 out1.fkids),I out1.ffault,sI out1.fpath])] (ad (Kn5 _ _ i4) K85 (Q71.args (A1 := [.sl (Q02 [AV.osl (List.map I [2]),sI i3,sI t3.fType])]) (A2 := [.sl (List.map K14 [[2],i3,t3.fType])]) (by simp only [List.map_cons,List.map_nil,K15,Qe5,share,Qf1,Q02]) (Knt _ _ i6)) K8b (ai (xL i8) tv)) ?_
         obtain rfl := os h
         exact Qcz.mk
        refine K9m hc 2 [(4,sL needs4),(5,sL used5),(6,.ra 1 0),(7,.ra 2 0),(9,.ra 3 0),(13,.fn 243 [.ra 2 0]),(20,I t3.fOp),(162,.bool (t3.fOp == 7))] ?_
        obtain ⟨fl,i9,h⟩ := Qdd h
        refine flw (Kop c p0 out1 ctx2 t3 needs4 used5 fl) ?_ (fun hF => ?_)
        ·replace h := i9
         refine ic h (fun j0 h => ?_) fun j0 h => ?_
         ·refine vz 2002 (Qe5 out1.fneeds) [(4,sL needs4),(5,sL used5),(6,.ra 1 0),(7,.ra 2 0),(9,.ra 3 0),(13,.fn 243 [.ra 2 0]),(20,I t3.fOp),(162,.bool (t3.fOp == 7))] [(1,K25 p0),(2,.box [.ra 2000 0]),(3,K1x t3),(2000,K23 out1)] ?_
          obtain ⟨j8,j9,k0,k1,k2,k3,h⟩ := bq3 h
          refine rg hc Koz [oN,oN,some (.mk 20 true),oN,oN,oN,some (.el (sI j8)),some (.mk 21 true),some (.call (sI k0) [.tup []] 1),oN,some (.el (sI k2)),oN,oN,oN,oN,oN,oN,oN] [(7,.ra 2 0)] [(2,.box [.ra 2000 0]),(2000,.box [sI k0,sI k2,.sl (List.map K07 out1.fkids),I out1.ffault,sI out1.fpath])] (ad (Kn5 _ _ j9) K85 (Q71.args (A1 := [.sl (Q02 [AV.osl (List.map I [2]),sI t3.fType,sI j8])]) (A2 := [.sl (List.map K14 [[2],t3.fType,j8])]) (by simp only [List.map_cons,List.map_nil,K15,Qe5,share,Qf1,Q02]) (Knt _ _ k1)) K8b (ai (xL k3) tv)) ?_
          obtain rfl := os h
          exact Qcz.mk
         refine K9m hc 2 [(4,sL needs4),(5,sL used5),(6,.ra 1 0),(7,.ra 2 0),(9,.ra 3 0),(13,.fn 243 [.ra 2 0]),(20,I t3.fOp),(180,.bool (t3.fOp == 8))] ?_
         obtain ⟨fl,k4,h⟩ := Qdd h
         refine flw (Koo c p0 out1 ctx2 t3 needs4 used5 fl) ?_ (fun hF => ?_)
         ·replace h := k4
          refine ic h (fun k5 h => ?_) fun k5 h => ?_
          ·refine sN ?_
           refine sN ?_
           refine vz 2002 (Qe5 out1.fneeds) [(4,sL needs4),(5,sL used5),(6,.ra 1 0),(7,.ra 2 0),(9,.ra 3 0),(13,.fn 243 [.ra 2 0]),(20,I t3.fOp),(180,.bool (t3.fOp == 8))] [(1,K25 p0),(2,.box [.ra 2000 0]),(3,K1x t3),(2000,K23 out1)] ?_
           obtain ⟨k6,k7,k8,k9,l0,l1,h⟩ := bq3 h
           refine rgs hc none [oN,some (.el (sI k6)),oN,some (.el (sI k8)),oc (.bool l0),oN] [(4,sL needs4),(5,sL used5),(6,.ra 1 0),(7,.ra 2 0),(9,.ra 3 0),(13,.fn 243 [.ra 2 0]),(187,.bool (!l0))] (ad (Kn5 _ _ k7) K85 (Kn5 _ _ k9) K85 (cq (Kmp _ _ l1) K7y tv)) ?_
           rcases is h with ⟨l2,h⟩ | ⟨l2,h⟩
           ·refine cF (!l0) (nF l2) ?_
            refine sk ?_
            refine sN ?_
            refine sN ?_
            obtain ⟨l3,l4,h⟩ := Qdd h
            refine Wp.into (x := .normal) (mkS [(4,sL needs4),(6,.ra 1 0),(7,.ra 2 0),(9,.ra 3 0),(13,.fn 243 [.ra 2 0]),(205,.bool l3)] [(1,K25 p0),(2,.box [.ra 2000 0]),(3,K1x t3),(2000,K23 out1)]) ?_ ?_
            ·replace h := l4
             obtain ⟨l5,l6,l7,l8,h⟩ := bq2 h
             rcases is h with ⟨l9,h⟩ | ⟨l9,h⟩
             ·obtain ⟨m0,m1,m2,m3,h⟩ := bq2 h
              refine rgs hc Kp0 [oN,oN,some (.el (sI l5)),oN,oN,oN,oc (.bool l7),oN,oN,oN,oN,some (.el (sI m0)),oN,oN,oN,oc (.bool m2),oN,oF] [(4,sL needs4),(6,.ra 1 0),(7,.ra 2 0),(9,.ra 3 0),(13,.fn 243 [.ra 2 0]),(205,.bool (!m2))] (ai (xL l6) (cq (Ko9 _ _ l8) K8j (ar 3 (nF l9) (ai (xL m1) (ar 4 (nF l9) (cq (Ko9 _ _ m3) K8j (ar 2 (nF l9) tv))))))) ?_
              obtain rfl := os h
              exact Qcz.mk
             refine rgs hc Kp0 [oN,oN,some (.el (sI l5)),oN,oN,oN,oc (.bool l7),oN,oN,o_,o_,o_,o_,o_,o_,o_,o_,oT] [(4,sL needs4),(6,.ra 1 0),(7,.ra 2 0),(9,.ra 3 0),(13,.fn 243 [.ra 2 0]),(205,.bool true)] (ai (xL l6) (cq (Ko9 _ _ l8) K8j (ar 8 (neF (nT l9)) (ai (nT l9) tv)))) ?_
             obtain rfl := os h
             exact Qcz.mk
            clear l4
            refine ic h (fun m4 h => ?_) fun m4 h => ?_
            ·refine rs0 hc 1 [(12,I 9)] [(2000,K23 out1)] ?_
             refine rt ?_
             obtain rfl := os h
             exact Qdb.ret (fl := [true]) (by kernel_rfl)
            refine sk ?_
            obtain ⟨m5,m6,m7,m8,m9,n0,n1,n2,h⟩ := bq4 h
            obtain ⟨n3,n4,n5,n6,n7,n8,h⟩ := bq3 h
            refine rg hc (rx [[0],[0],[0],[0,2],[0],[0],[0],[0,6],[0],[0,8],[0,8,9],[0,2,3,5,6,7,8,9,10],[0],[0],[0,13],[0,13,14],[0],[0,16],[0,16,17],[0,2,3,5,6,7,8,9,10,11,12,13,14,15,16,17,18],[0,2,3,4,5,6,7,8,9,10,11,12,13,14,15,16,17,18,19],[1,2,3,4,5,6,7,8,9,10,11,12,13,14,15,16,17,18,19,20],[1,2,3,4,5,6,7,8,9,10,11,12,13,14,15,16,17,18,19,20,21],[1,2,3,4,5,6,7,8,9,10,11,12,13,14,15,16,17,18,19,20,21,22],[24],[25],[26]]) [oN,oN,oN,some (.el (sI m5)),oN,oN,oN,oN,oN,some (.el (sI m7)),oN,some (.call (oI m9) [] 22),oN,oN,some (.el (sI n1)),oN,oN,some (.el (sI n3)),oN,some (.call (oI n5) [] 23),some (.call (oI n7) [] 24),oN,oN,oN,oN,oN,oN] [(7,.ra 2 0)] [(2,.box [.ra 2000 0]),(24,rI n7),(2000,.box [sI m5,.rs 24,.sl (List.map K07 out1.fkids),I out1.ffault,sI out1.fpath])] (ac (Kn5 _ _ m6) K85 (xL m8) (cq (Kog _ _ n0) K8l (ab (xL n2) (xL n4) (cq (Knf _ _ n6) K87 (ac (Q71.args (A1 := [K26 p0,.sl (Q02 (List.map I m9)),.sl (Q02 (List.map I n5))]) (A2 := [K26 p0,sI m9,sI n5]) (by simp only [List.map_nil,Qe5]) (Kn2 _ _ n8)) K83 (Or.inr (Qed Qe9 n7) : ([22,23] : List Nat) = [] ∨ noSh (oI n7) = true) tv))))) ?_
            obtain rfl := os h
            exact Qcz.view (fun a w hv => SRx.renL [] (SRx.frzC 24 (xs := List.map I n7) (xs' := List.map I n7) hv (by kernel_rfl) (Qe5 _)) (by kernel_rfl) (by kernel_rfl) (by kernel_rfl))
           refine cT (!l0) (nT l2) ?_
           refine rs0 hc 1 [(12,I 3)] [(2000,K23 out1)] ?_
           refine rt ?_
           obtain rfl := os h
           exact Qdb.ret (fl := [true]) (by kernel_rfl)
          refine K9m hc 2 [(4,sL needs4),(5,sL used5),(6,.ra 1 0),(7,.ra 2 0),(9,.ra 3 0),(13,.fn 243 [.ra 2 0]),(20,I t3.fOp),(231,.bool (t3.fOp == 9))] ?_
          obtain ⟨fl,n9,h⟩ := Qdd h
          refine flw (Kon c p0 out1 ctx2 t3 needs4 used5 fl) ?_ (fun hF => ?_)
          ·replace h := n9
           refine ic h (fun o0 h => ?_) fun o0 h => ?_
           ·refine sN ?_
            obtain ⟨o1,o2,o3,o4,h⟩ := bq2 h
            refine rs hc Kox [oN,oN,some (.el (sI o1)),oN,oN,oN,oc (.bool o3),oN] [(4,sL needs4),(7,.ra 2 0),(9,.ra 3 0),(13,.fn 243 [.ra 2 0]),(240,.bool (!o3))] [(2,.box [.ra 2000 0]),(3,K1x t3),(2000,.box [sI out1.fty,.rs 2002,.sl (List.map K07 out1.fkids),I out1.ffault,sI out1.fpath]),(2002,rI out1.fneeds)] (ai (xL o2) (cq (Ko9 _ _ o4) K8j tv)) ?_
            rcases is h with ⟨o5,h⟩ | ⟨o5,h⟩
            ·refine cF (!o3) (nF o5) ?_
             refine sk ?_
             refine vz 2002 (Qe5 out1.fneeds) [(4,sL needs4),(7,.ra 2 0),(9,.ra 3 0),(13,.fn 243 [.ra 2 0]),(240,.bool (!o3))] [(2,.box [.ra 2000 0]),(3,K1x t3),(2000,K23 out1)] ?_
             obtain ⟨o6,o7,o8,o9,p1,p2,h⟩ := bq3 h
             refine rg hc (rx [[0],[0],[0],[0,2],[0,2,3],[0,2,3,4],[0],[0,6],[0],[0,8],[0,2,3,4,5,6,7,8,9],[0,2,3,4,5,6,7,8,9,10],[0],[0,12],[0,12,13],[1,2,3,4,5,6,7,8,9,10,11,12,13,14],[1,2,3,4,5,6,7,8,9,10,11,12,13,14,15],[1,2,3,4,5,6,7,8,9,10,11,12,13,14,15,16],[18],[19],[20]]) [oN,oN,oN,oN,oN,some (.mk 26 true),oN,oN,oN,some (.el (sI o6)),some (.mk 27 true),some (.call (sI o8) [.tup []] 1),oN,some (.el (sI p1)),oN,oN,oN,oN,oN,oN,oN] [(7,.ra 2 0)] [(2,.box [.ra 2000 0]),(2000,.box [sI o8,sI p1,.sl (List.map K07 out1.fkids),I out1.ffault,sI out1.fpath])] (ad (Kn5 _ _ o7) K85 (Q71.args (A1 := [.sl (Q02 [AV.osl (List.map I [(wr (3 + t3.fN))]),sI t3.fType,sI o6])]) (A2 := [.sl (List.map K14 [[(wr (3 + t3.fN))],t3.fType,o6])]) (by simp only [List.map_cons,List.map_nil,K15,Qe5,share,Qf1,Q02]) (Knt _ _ o9)) K8b (ai (xL p2) tv)) ?_
             obtain rfl := os h
             exact Qcz.mk
            refine cT (!o3) (nT o5) ?_
            refine rs0 hc 1 [(12,I 9)] [(2000,.box [sI out1.fty,.rs 2002,.sl (List.map K07 out1.fkids),I out1.ffault,sI out1.fpath]),(2002,rI out1.fneeds)] ?_
            refine vz 2002 (Qe5 out1.fneeds) [(12,I 9)] [(2000,K23 out1)] ?_
            refine rt ?_
            obtain rfl := os h
            exact Qdb.ret (fl := [true]) (by kernel_rfl)
           refine K9m hc 2 [(4,sL needs4),(5,sL used5),(6,.ra 1 0),(7,.ra 2 0),(9,.ra 3 0),(13,.fn 243 [.ra 2 0]),(20,I t3.fOp),(260,.bool (t3.fOp == 10))] ?_
           obtain ⟨fl,p3,h⟩ := Qdd h
           refine flw (Kom c p0 out1 ctx2 t3 needs4 used5 fl) ?_ (fun hF => ?_)
           ·replace h := p3
            refine ic h (fun p4 h => ?_) fun p4 h => ?_
            ·refine sN ?_
             refine vz 2002 (Qe5 out1.fneeds) [(4,sL needs4),(5,sL used5),(6,.ra 1 0),(7,.ra 2 0),(9,.ra 3 0),(13,.fn 243 [.ra 2 0]),(20,I t3.fOp),(260,.bool (t3.fOp == 10))] [(1,K25 p0),(2,.box [.ra 2000 0]),(3,K1x t3),(2000,K23 out1)] ?_
             obtain ⟨p5,p6,p7,p8,⟨p9,q0⟩,q1,h⟩ := bq3 h
             refine rg hc none [oN,some (.el (sI p5)),some (.el (I p7)),oN,oc (.tup [I p9,I q0]),oN,oN,oN,oN,oN] [(4,sL needs4),(6,.ra 1 0),(7,.ra 2 0),(13,.fn 243 [.ra 2 0]),(15,I q0)] [(1,K25 p0),(2,.box [.ra 2000 0]),(2000,K23 out1)] (ac (Kn5 _ _ p6) K85 (ix p8) (cq (Kkd _ _ q1) K6x tv)) ?_
             obtain ⟨q2,q3,q4,q5,q6,q7,q8,q9,h⟩ := bq4 h
             obtain ⟨r0,r1,r2,r3,r4,r5,h⟩ := bq3 h
             refine rg hc (rx [[0],[0],[0],[0,2],[0,2,3],[0,2,3,4],[0,2,3,4,5],[0],[0],[0,8],[0,8,9],[0],[0],[0],[0,13],[0,13,14],[0,2,3,4,11,12,13,14,15],[0,2,3,4,7,8,9,10,11,12,13,14,15,16],[1,2,3,4,5,6,7,8,9,10,11,12,13,14,15,16,17],[1,2,3,4,5,6,7,8,9,10,11,12,13,14,15,16,17,18],[1,2,3,4,5,6,7,8,9,10,11,12,13,14,15,16,17,18,19],[21],[22],[23]]) [oN,oN,oN,some (.el (sI q2)),some (.call (.osl (List.map K14 q4)) [] 28),oN,some (.el (sI q6)),oN,oN,some (.el (sI q8)),oN,oN,oN,oN,some (.el (sI r0)),oN,some (.call (oI r2) [] 29),some (.call (oI r4) [] 30),oN,oN,oN,oN,oN,oN] [(7,.ra 2 0)] [(2,.box [.ra 2000 0]),(30,rI r4),(2000,.box [sI q6,.rs 30,.sl (List.map K07 out1.fkids),I out1.ffault,sI out1.fpath])] (ab (Kn5 _ _ q3) K85 (cq (Klx _ _ q5) K7m (ad (Qdi (enc := K14) q7) (xL q7).2 (xL q9) (xL r1) (cq (Kog _ _ r3) K8l (ac (Q71.args (A1 := [K26 p0,sI q8,.sl (Q02 (List.map I r2))]) (A2 := [K26 p0,sI q8,sI r2]) (by simp only [List.map_nil,Qe5]) (Kn2 _ _ r5)) K83 (Or.inr (Qed Qe9 r4) : ([29] : List Nat) = [] ∨ noSh (oI r4) = true) tv))))) ?_
             obtain rfl := os h
             exact Qcz.mk
            refine K9m hc 2 [(4,sL needs4),(5,sL used5),(6,.ra 1 0),(7,.ra 2 0),(9,.ra 3 0),(13,.fn 243 [.ra 2 0]),(20,I t3.fOp),(292,.bool (t3.fOp == 11))] ?_
            obtain ⟨fl,r6,h⟩ := Qdd h
            refine flw (Kol c p0 out1 ctx2 t3 needs4 used5 fl) ?_ (fun hF => ?_)
            ·replace h := r6
             refine ic h (fun r7 h => ?_) fun r7 h => ?_
             ·refine vz 2002 (Qe5 out1.fneeds) [(4,sL needs4),(5,sL used5),(6,.ra 1 0),(7,.ra 2 0),(9,.ra 3 0),(13,.fn 243 [.ra 2 0]),(20,I t3.fOp),(292,.bool (t3.fOp == 11))] [(1,K25 p0),(2,.box [.ra 2000 0]),(3,K1x t3),(2000,K23 out1)] ?_
              obtain ⟨r8,r9,s0,s1,s2,s3,s4,s5,h⟩ := bq4 h
              refine rg hc (rx [[0],[0],[0],[0,2],[0,2,3],[0,2,3,4],[0],[0,6],[0,2,3,4,5,6,7],[0,2,3,4,5,6,7,8],[0],[0],[0,11],[0],[0,13],[0,13,14],[0,2,3,4,5,6,7,8,9,10,11,12,13,14,15],[1,2,3,4,5,6,7,8,9,10,11,12,13,14,15,16],[1,2,3,4,5,6,7,8,9,10,11,12,13,14,15,16,17],[1,2,3,4,5,6,7,8,9,10,11,12,13,14,15,16,17,18],[20],[21],[22]]) [oN,oN,oN,oN,oN,some (.mk 32 true),oN,some (.el (sI r8)),some (.mk 33 true),some (.call (sI s0) [.tup []] 1),oN,oN,oN,oN,some (.el (sI s2)),oN,some (.call (oI s4) [] 34),oN,oN,oN,oN,oN,oN] [(7,.ra 2 0)] [(2,.box [.ra 2000 0]),(34,rI s4),(2000,.box [sI s0,.rs 34,.sl (List.map K07 out1.fkids),I out1.ffault,sI out1.fpath])] (ad (Kn5 _ _ r9) K85 (Q71.args (A1 := [.sl (Q02 [AV.osl (List.map I [(wr (19 + t3.fN))]),sI r8])]) (A2 := [.sl (List.map K14 [[(wr (19 + t3.fN))],r8])]) (by simp only [List.map_cons,List.map_nil,K15,Qe5,share,Qf1,Q02]) (Knt _ _ s1)) K8b (ai (xL s3) (cq (Kog _ _ s5) K8l tv))) ?_
              obtain rfl := os h
              exact Qcz.mk
             refine K9m hc 2 [(4,sL needs4),(5,sL used5),(6,.ra 1 0),(7,.ra 2 0),(9,.ra 3 0),(13,.fn 243 [.ra 2 0]),(315,.bool (t3.fOp == 12))] ?_
             obtain ⟨fl,s6,h⟩ := Qdd h
             refine flw (Kok c p0 out1 ctx2 t3 needs4 used5 fl) ?_ (fun hF => ?_)
             ·replace h := s6
              refine ic h (fun s7 h => ?_) fun s7 h => ?_
              ·refine sN ?_
               refine vz 2002 (Qe5 out1.fneeds) [(4,sL needs4),(5,sL used5),(6,.ra 1 0),(7,.ra 2 0),(9,.ra 3 0),(13,.fn 243 [.ra 2 0]),(315,.bool (t3.fOp == 12))] [(1,K25 p0),(2,.box [.ra 2000 0]),(3,K1x t3),(2000,K23 out1)] ?_
               obtain ⟨s8,s9,t0,t1,⟨t2,t4⟩,t5,h⟩ := bq3 h
               refine rgs hc none [oN,some (.el (sI s8)),some (.el (I t0)),oN,oc (.tup [I t2,I t4]),oN,oN,oN,oN,oN] [(4,sL needs4),(5,sL used5),(6,.ra 1 0),(7,.ra 2 0),(9,.ra 3 0),(13,.fn 243 [.ra 2 0]),(17,I t4)] (ac (Kn5 _ _ s9) K85 (ix t1) (cq (Kkd _ _ t5) K6x tv)) ?_
               refine sN ?_
               obtain ⟨t6,t7,t8,t9,u0,u1,h⟩ := bq3 h
               refine rss hc (rx [[0],[0],[0,1],[0,1,2],[0],[0,4],[0],[0,6],[0],[0,4,5,6,7,8],[10],[11]]) [oN,oN,some (.el (sI t6)),oN,oN,oN,oN,oN,oN,oc (I t8),oc (.bool u0),oN] [(4,sL needs4),(6,.ra 1 0),(7,.ra 2 0),(9,.ra 3 0),(13,.fn 243 [.ra 2 0]),(336,.bool (!u0))] (ai (xL t7) (cq (Kj4 _ _ t9) K6p (cq (Ko9 _ _ u1) K8j tv))) ?_
               rcases is h with ⟨u2,h⟩ | ⟨u2,h⟩
               ·refine cF (!u0) (nF u2) ?_
                refine sk ?_
                obtain ⟨u3,u4,u5,u6,u7,u8,u9,v0,h⟩ := bq4 h
                obtain ⟨v1,v2,h⟩ := Qdd h
                refine rg hc Koy [oN,oN,oN,some (.el (sI u3)),oN,oN,oN,oN,oN,some (.el (sI u5)),oN,some (.call (oI u7) [] 35),oN,some (.el (sI u9)),oN,some (.call (oI v1) [] 36),oN,oN,oN,oN,oN,oN] [(7,.ra 2 0)] [(2,.box [.ra 2000 0]),(36,rI v1),(2000,.box [sI u3,.rs 36,.sl (List.map K07 out1.fkids),I out1.ffault,sI out1.fpath])] (ac (Kn5 _ _ u4) K85 (xL u6) (cq (Kog _ _ u8) K8l (ad (xL v0) (Q71.args (A1 := [K26 p0,.sl (Q02 (List.map I u7)),sI u9]) (A2 := [K26 p0,sI u7,sI u9]) (by simp only [List.map_nil,Qe5]) (Kn2 _ _ v2)) K83 (Or.inr (Qed Qe9 v1) : ([35] : List Nat) = [] ∨ noSh (oI v1) = true) tv))) ?_
                obtain rfl := os h
                exact Qcz.mk
               refine cT (!u0) (nT u2) ?_
               refine rs0 hc 1 [(12,I 9)] [(2000,K23 out1)] ?_
               refine rt ?_
               obtain rfl := os h
               exact Qdb.ret (fl := [true]) (by kernel_rfl)
              refine sk ?_
              obtain rfl := os h
              exact iv [(36,2002)]
             rcases fl with ⟨v3,v4⟩ | r
             ·refine Wp.into (x := .normal) (mkS [(7,.ra 2 0)] [(2,.box [.ra 2000 0]),(36,rI v4),(2000,.box [sI v3,.rs 36,.sl (List.map K07 out1.fkids),I out1.ffault,sI out1.fpath])]) hF ?_
              obtain rfl := os h
              exact iv [(34,36)]
             refine Wp.mono hF ?_
             rintro _ _ ⟨rfl,hfin⟩
             obtain rfl := os h
             exact ⟨rfl,hfin⟩
            rcases fl with ⟨v5,v6⟩ | r
            ·refine Wp.into (x := .normal) (mkS [(7,.ra 2 0)] [(2,.box [.ra 2000 0]),(34,rI v6),(2000,.box [sI v5,.rs 34,.sl (List.map K07 out1.fkids),I out1.ffault,sI out1.fpath])]) hF ?_
             obtain rfl := os h
             exact iv [(30,34)]
            refine Wp.mono hF ?_
            rintro _ _ ⟨rfl,hfin⟩
            obtain rfl := os h
            exact ⟨rfl,hfin⟩
           rcases fl with ⟨v7,v8⟩ | r
           ·refine Wp.into (x := .normal) (mkS [(7,.ra 2 0)] [(2,.box [.ra 2000 0]),(30,rI v8),(2000,.box [sI v7,.rs 30,.sl (List.map K07 out1.fkids),I out1.ffault,sI out1.fpath])]) hF ?_
            obtain rfl := os h
            exact Qcz.view (fun a w hv => SRx.renL [] (SRx.frzC 30 (xs := List.map I v8) (xs' := List.map I v8) hv (by kernel_rfl) (Qe5 _)) (by kernel_rfl) (by kernel_rfl) (by kernel_rfl))
           refine Wp.mono hF ?_
           rintro _ _ ⟨rfl,hfin⟩
           obtain rfl := os h
           exact ⟨rfl,hfin⟩
          rcases fl with ⟨v9,w0⟩ | r
          ·refine Wp.into (x := .normal) (mkS [(7,.ra 2 0)] [(2,.box [.ra 2000 0]),(2000,.box [sI v9,sI w0,.sl (List.map K07 out1.fkids),I out1.ffault,sI out1.fpath])]) hF ?_
           obtain rfl := os h
           exact Qcz.mk
          refine Wp.mono hF ?_
          rintro _ _ ⟨rfl,hfin⟩
          obtain rfl := os h
          exact ⟨rfl,hfin⟩
         rcases fl with ⟨w1,w2⟩ | r
         ·refine Wp.into (x := .normal) (mkS [(7,.ra 2 0)] [(2,.box [.ra 2000 0]),(2000,.box [sI w1,sI w2,.sl (List.map K07 out1.fkids),I out1.ffault,sI out1.fpath])]) hF ?_
          obtain rfl := os h
          exact Qcz.mk
         refine Wp.mono hF ?_
         rintro _ _ ⟨rfl,hfin⟩
         obtain rfl := os h
         exact ⟨rfl,hfin⟩
        rcases fl with ⟨w3,w4⟩ | r
        ·refine Wp.into (x := .normal) (mkS [(7,.ra 2 0)] [(2,.box [.ra 2000 0]),(2000,.box [sI w3,sI w4,.sl (List.map K07 out1.fkids),I out1.ffault,sI out1.fpath])]) hF ?_
         obtain rfl := os h
         exact Qcz.mk
        refine Wp.mono hF ?_
        rintro _ _ ⟨rfl,hfin⟩
        obtain rfl := os h
        exact ⟨rfl,hfin⟩
       rcases fl with ⟨w5,w6⟩ | r
       ·refine Wp.into (x := .normal) (mkS [(7,.ra 2 0)] [(2,.box [.ra 2000 0]),(2000,.box [sI w5,sI w6,.sl (List.map K07 out1.fkids),I out1.ffault,sI out1.fpath])]) hF ?_
        obtain rfl := os h
        exact Qcz.mk
       refine Wp.mono hF ?_
       rintro _ _ ⟨rfl,hfin⟩
       obtain rfl := os h
       exact ⟨rfl,hfin⟩
      rcases fl with ⟨w7,w8⟩ | r
      ·refine Wp.into (x := .normal) (mkS [(7,.ra 2 0)] [(2,.box [.ra 2000 0]),(2000,.box [sI w7,sI w8,.sl (List.map K07 out1.fkids),I out1.ffault,sI out1.fpath])]) hF ?_
       obtain rfl := os h
       exact Qcz.mk
      refine Wp.mono hF ?_
      rintro _ _ ⟨rfl,hfin⟩
      obtain rfl := os h
      exact ⟨rfl,hfin⟩
     rcases fl with ⟨w9,x0⟩ | r
     ·refine Wp.into (x := .normal) (mkS [(7,.ra 2 0)] [(2,.box [.ra 2000 0]),(2000,.box [sI w9,sI x0,.sl (List.map K07 out1.fkids),I out1.ffault,sI out1.fpath])]) hF ?_
      obtain rfl := os h
      exact Qcz.mk
     refine Wp.mono hF ?_
     rintro _ _ ⟨rfl,hfin⟩
     obtain rfl := os h
     exact ⟨rfl,hfin⟩
    rcases fl with ⟨x1,x2⟩ | r
    ·refine Wp.into (x := .normal) (mkS [(7,.ra 2 0)] [(2,.box [.ra 2000 0]),(2000,.box [sI x1,sI x2,.sl (List.map K07 out1.fkids),I out1.ffault,sI out1.fpath])]) hF ?_
     obtain rfl := os h
     exact Qcz.mk
    refine Wp.mono hF ?_
    rintro _ _ ⟨rfl,hfin⟩
    obtain rfl := os h
    exact ⟨rfl,hfin⟩
   rcases fl with ⟨x3,x4⟩ | r
   ·refine Wp.into (x := .normal) (mkS [(7,.ra 2 0)] [(2,.box [.ra 2000 0]),(2000,.box [sI x3,sI x4,.sl (List.map K07 out1.fkids),I out1.ffault,sI out1.fpath])]) hF ?_
    obtain rfl := os h
    exact Qcz.mk
   refine Wp.mono hF ?_
   rintro _ _ ⟨rfl,hfin⟩
   obtain rfl := os h
   exact ⟨rfl,hfin⟩
  rcases fl with ⟨x5,x6⟩ | r
  ·refine Wp.into (x := .normal) (mkS [(7,.ra 2 0)] [(2,.box [.ra 2000 0]),(2000,.box [sI x5,sI x6,.sl (List.map K07 out1.fkids),I out1.ffault,sI out1.fpath])]) hF ?_
   obtain rfl := os h
   exact Qcz.mk
  refine Wp.mono hF ?_
  rintro _ _ ⟨rfl,hfin⟩
  obtain rfl := os h
  exact ⟨rfl,hfin⟩
 rcases fl with ⟨x7,x8⟩ | r
 ·refine Wp.into (x := .normal) (mkS [(7,.ra 2 0)] [(2,.box [.ra 2000 0]),(2000,.box [sI x7,sI x8,.sl (List.map K07 out1.fkids),I out1.ffault,sI out1.fpath])]) hF ?_
  refine sN ?_
  obtain ⟨x9,y0,h⟩ := Qdd h
  refine rs hc none [oN,oN,oN,oN,oc (.bool x9)] [(361,.bool x9)] [(2000,.box [sI x7,sI x8,.sl (List.map K07 out1.fkids),I out1.ffault,sI out1.fpath])] (cq (Koj _ _ y0) K8n tv) ?_
  refine ic h (fun y1 h => ?_) fun y1 h => ?_
  ·refine K9m hc 1 [(12,I 3)] ?_
   refine rt ?_
   obtain rfl := os h
   exact Qda.ret (fl := [true]) (by kernel_rfl)
  refine sk ?_
  refine K9m hc 1 [(12,I 0)] ?_
  refine rt ?_
  obtain rfl := os h
  exact Qda.ret (fl := [true]) (by kernel_rfl)
 refine Wp.mono hF ?_
 rintro _ _ ⟨rfl,hfin⟩
 obtain rfl := os h
 exact ⟨.inl rfl,hfin⟩
def Kp4 (c : Ctx) (p0 : K06) (ctx1 : LL) (t2 : K01) : ((List K04) × LL × LL) ⊕ (K04) → Exit → Q0a → Prop
 | .inl (a0,a1,a2) => Qcz c (.exit 0) (mkS [(1,sL ctx1),(3,.ra 1 0),(5,.ra 2 0),(7,.ra 4 0),(8,.rs 21),(9,.rs 22)] [(1,K25 p0),(2,K1x t2),(3,.arr (List.map I (List.replicate (Int.toNat (ctx1.length : Int)) 0))),(4,.box [.nils,.rs 3,.rs 20,I 0,.nils]),(20,.arr (List.map K07 a0)),(21,.arr (List.map K14 a1)),(22,.arr (List.map K14 a2))])
 | .inr r => Qd8 TIx Tryz.f173 [] (.ptr [sI r.fty,sI r.fneeds,.sl (List.map K07 r.fkids),I r.ffault,sI r.fpath] 0)
end Go.Am
