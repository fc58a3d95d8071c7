/- Walks, printed. -/
import Derived.Test.YtckgdfakjjdodaaGreatGSECF0
set_option linter.unusedVariables false
set_option linter.unusedSimpArgs false
set_option maxRecDepth 100000
namespace Go.Am
open Go Go.Proofs
def K9f : Option (List (List Nat)) := rx [[0],[1],[0],[0],[0],[0],[0,3,4,5],[0],[0],[0],[0,3,4,5,6,7,8,9],[0,2,3,4,5,6,7,8,9,10],[0,2,3,4,5,6,7,8,9,10,11],[13],[14],[15]]
def K9g : Option (List (List Nat)) := rx [[0],[1],[0],[0],[0],[0,2,3,4],[0,2,3,4,5],[0,2,3,4,5,6],[0,2,3,4,5,6],[0,2,3,4,5,6],[0,2,3,4,5,6,7,8,9],[0,2,3,4,5,6,7,8,9,10],[0,2,3,4,5,6,7,8,9,10,11],[13],[14],[15]]
def K9h (p : K00 × Int × Int) : Option ((Unit) ⊕ (Bool)) :=
 match p with
 | (s0,a0,a1) =>
  if (decide (a1 < s0.fSize)) = true then
  (K94 (s0,a0,a1)) >>= fun a2 =>
  if a2 = true then
  (K9b (s0,a0,a1,0)) >>= fun fl => match fl with
  | .inl () =>
   K9h (s0,a0,(wr (a1 + 1)))
  | .inr r =>
   some (.inr r)
  else
  some (.inr false)
  else
  some (.inl ())
 partial_fixpoint
def K9i (p : K00 × Int × Int) (fl : (Unit) ⊕ (Bool)) : Prop :=
 match p with
 | (s0,a0,a1) => ∀ c : Ctx,c.nt = 42 → WpL Tryz.prog c (cl (cl (cr (cr (cl (cl (cr (cl (cl (cr (cl (cr (cr B80))))))))))))) (K9e c s0 a0 fl) (mkS [(1,.ra 1 0),(3,I a0),(4,I a1)] [(1,K19 s0)])
theorem K9j : ∀ p r,K9h p = some r → K9i p r := by
 refine K9h.partial_correctness K9i ?_
 rintro spec_IsSystem_l1_f spec_IsSystem_l1_ih ⟨s0,a0,a1⟩ r h
 intro c hc
 refine WpL.step ?_
 refine sN ?_
 refine K6n hc 4 [(1,.ra 1 0),(3,I a0),(4,I a1),(22,.bool (decide (a1 < s0.fSize)))] ?_
 refine ic h (fun a2 h => ?_) fun a2 h => ?_
 ·refine sk ?_
  refine sN ?_
  refine bk 3 ?_
  refine sN ?_
  obtain ⟨a3,a4,h⟩ := Qds h
  refine rss hc none [oN,oN,oN,oc (.bool a3),oN] [(1,.ra 1 0),(3,I a0),(4,I a1),(29,.bool (!a3))] (cq (K96 _ _ a4) K2w tv) ?_
  rcases is h with ⟨a5,h⟩ | ⟨a5,h⟩
  ·refine cF (!a3) (nF a5) ?_
   refine sk ?_
   refine K6n hc 1 [(1,.ra 1 0),(3,I a0),(4,I a1),(5,I 0)] ?_
   refine bk 4 ?_
   obtain ⟨fl,a6,h⟩ := Qds h
   have hL := K9d _ _ a6 c hc
   refine lp ?_
   rcases fl with ⟨⟩ | r
   ·refine WpL.into (e := (.exit 4)) (mkS [(1,.ra 1 0),(3,I a0),(4,I a1)] [(1,K19 s0)]) hL ?_
    refine Qd6 ?_
    refine K6m hc 3 [(1,.ra 1 0),(3,I a0),(4,I (wr (a1 + 1)))] ?_
    refine Qda ?_
    exact (spec_IsSystem_l1_ih _ _ h c hc)
   refine WpL.mono hL ?_
   rintro _ _ ⟨rfl,hfin⟩
   obtain rfl := os h
   exact ⟨rfl,hfin⟩
  refine cT (!a3) (nT a5) ?_
  refine rs0 hc 1 [(2,.bool false)] [] ?_
  refine rt ?_
  obtain rfl := os h
  exact re [true]
 refine xt 2 ?_
 refine Qd4 ?_
 refine Qdb ?_
 obtain rfl := os h
 exact iv []
def K9k (c : Ctx) : (Unit) ⊕ (Bool) → Exit → Q0a → Prop
 | .inl _ => Qde c (.exit 0) (mkS [] [])
 | .inr r => Qdn TIx Tryz.f80 [] (.bool r)
def K9l (p : K00 × Int) : Option ((Unit) ⊕ (Bool)) :=
 match p with
 | (s0,a0) =>
  if (decide (a0 < s0.fSize)) = true then
  (K8q (s0,a0)) >>= fun a1 =>
  if a1 = true then
  (K9h (s0,a0,0)) >>= fun fl => match fl with
  | .inl () =>
   K9l (s0,(wr (a0 + 1)))
  | .inr r =>
   some (.inr r)
  else
  some (.inr false)
  else
  some (.inl ())
 partial_fixpoint
def K9m (p : K00 × Int) (fl : (Unit) ⊕ (Bool)) : Prop :=
 match p with
 | (s0,a0) => ∀ c : Ctx,c.nt = 42 → WpL Tryz.prog c (cl (cl (cr (cl (cr (cr B80)))))) (K9k c fl) (mkS [(1,.ra 1 0),(3,I a0)] [(1,K19 s0)])
theorem K9n : ∀ p r,K9l p = some r → K9m p r := by
 refine K9l.partial_correctness K9m ?_
 rintro spec_IsSystem_l2_f spec_IsSystem_l2_ih ⟨s0,a0⟩ r h
 intro c hc
 refine WpL.step ?_
 refine sN ?_
 refine K6n hc 4 [(1,.ra 1 0),(3,I a0),(12,.bool (decide (a0 < s0.fSize)))] ?_
 refine ic h (fun a1 h => ?_) fun a1 h => ?_
 ·refine sk ?_
  refine sN ?_
  refine bk 1 ?_
  refine sN ?_
  obtain ⟨a2,a3,h⟩ := Qds h
  refine rss hc none [oN,oN,oc (.bool a2),oN] [(1,.ra 1 0),(3,I a0),(18,.bool (!a2))] (cq (K8s _ _ a3) K2s tv) ?_
  rcases is h with ⟨a4,h⟩ | ⟨a4,h⟩
  ·refine cF (!a2) (nF a4) ?_
   refine sk ?_
   refine K6n hc 1 [(1,.ra 1 0),(3,I a0),(4,I 0)] ?_
   refine bk 2 ?_
   obtain ⟨fl,a5,h⟩ := Qds h
   have hL := K9j _ _ a5 c hc
   refine lp ?_
   rcases fl with ⟨⟩ | r
   ·refine WpL.into (e := (.exit 2)) (mkS [(1,.ra 1 0),(3,I a0)] [(1,K19 s0)]) hL ?_
    refine Qd6 ?_
    refine K6m hc 3 [(1,.ra 1 0),(3,I (wr (a0 + 1)))] ?_
    refine Qda ?_
    exact (spec_IsSystem_l2_ih _ _ h c hc)
   refine WpL.mono hL ?_
   rintro _ _ ⟨rfl,hfin⟩
   obtain rfl := os h
   exact ⟨rfl,hfin⟩
  refine cT (!a2) (nT a4) ?_
  refine rs0 hc 1 [(2,.bool false)] [] ?_
  refine rt ?_
  obtain rfl := os h
  exact re [true]
 refine xt 0 ?_
 refine Qd4 ?_
 refine Qdb ?_
 obtain rfl := os h
 exact iv []
def K9o (s0 : K00) : Option (Bool) :=
 (K8a s0) >>= fun a0 =>
 if a0 = true then
 (K9l (s0,0)) >>= fun fl => match fl with
 | .inl () =>
  some true
 | .inr r =>
  some r
 else
 some false
def K9p (s0 : K00) (r : Bool) : Prop :=
 Q75 Tryz.prog 80 [K1a s0] (.bool r) []
theorem K9q : ∀ p r,K9o p = some r → K9p p r := by
 rintro s0 r h
 unfold K9o at h
 refine b0 Tryz.f80 B80 42 [(0,K1a s0)] fun c hc => ?_
 refine rs hc none [some (.new 1),oN] [(1,.ra 1 0)] [(1,K19 s0)] tv ?_
 refine sN ?_
 obtain ⟨a0,a1,h⟩ := Qds h
 refine rss hc none [oN,oc (.bool a0),oN] [(1,.ra 1 0),(8,.bool (!a0))] (cq (K8c _ _ a1) K2k tv) ?_
 rcases is h with ⟨a2,h⟩ | ⟨a2,h⟩
 ·refine cF (!a0) (nF a2) ?_
  refine sk ?_
  refine sN ?_
  refine K6n hc 1 [(1,.ra 1 0),(3,I 0)] ?_
  refine bk 0 ?_
  obtain ⟨fl,a3,h⟩ := Qds h
  have hL := K9n _ _ a3 c hc
  refine lp ?_
  rcases fl with ⟨⟩ | r
  ·refine WpL.into (e := (.exit 0)) (mkS [] []) hL ?_
   refine Qd6 ?_
   refine rs0 hc 1 [(2,.bool true)] [] ?_
   refine rt ?_
   obtain rfl := os h
   exact rq [true]
  refine WpL.mono hL ?_
  rintro _ _ ⟨rfl,hfin⟩
  obtain rfl := os h
  exact ⟨.inl rfl,hfin⟩
 refine cT (!a0) (nT a2) ?_
 refine rs0 hc 1 [(2,.bool false)] [] ?_
 refine rt ?_
 obtain rfl := os h
 exact rq [true]
def K9r (p : K00 × K00) : Option (Bool) :=
 match p with
 | (a0,b1) =>
  ((
  (K9o a0) >>= fun a1 =>
  if a1 = true then
  (K9o b1) >>= fun a2 =>
  if a2 = true then
  some ((decide ((wr (a0.fSize * b1.fSize)) ≤ 16)))
  else
  some (false)
  else
  some (false)
  ) : Option (Bool)) >>= fun a3 =>
  some a3
def K9s (p : K00 × K00) (r : Bool) : Prop :=
 match p with
 | (a0,b1) => Q75 Tryz.prog 207 [K1a a0,K1a b1] (.bool r) []
theorem K9t : ∀ p r,K9r p = some r → K9s p r := by
 rintro ⟨a0,b1⟩ r h
 unfold K9r at h
 refine b0 Tryz.f207 K30 19 [(0,K1a a0),(1,K1a b1)] fun c hc => ?_
 refine rs hc none [some (.new 1),some (.new 2),oN] [(2,.ra 1 0),(3,.ra 2 0)] [(1,K19 a0),(2,K19 b1)] tv ?_
 refine sN ?_
 obtain ⟨a1,a2,h⟩ := Qds h
 refine Wp.into (x := .normal) (mkS [(4,.bool a1)] []) ?_ ?_
 ·replace h := a2
  obtain ⟨a3,a4,h⟩ := Qds h
  rcases is h with ⟨a5,h⟩ | ⟨a5,h⟩
  ·obtain ⟨a6,a7,h⟩ := Qds h
   rcases is h with ⟨a8,h⟩ | ⟨a8,h⟩
   ·refine rg hc none [oN,oc (.bool a3),oN,oN,oc (.bool a6),oT,oN,oN,oN,oN,oN,oN,oN,oT,oN] [(4,.bool (decide ((wr (a0.fSize * b1.fSize)) ≤ 16)))] [] (cq (K9q _ _ a4) K2z (ar 2 a5 (cq (K9q _ _ a7) K2z (ai a5 (ar 7 a8 tv))))) ?_
    obtain rfl := os h
    exact Qde.mk
   refine rg hc none [oN,oc (.bool a3),oN,oN,oc (.bool a6),oT,oN,o_,o_,o_,o_,o_,o_,oF,oN] [(4,.bool false)] [] (cq (K9q _ _ a4) K2z (ar 2 a5 (cq (K9q _ _ a7) K2z (ai a5 (ar 6 (neT a8) (ai a8 tv)))))) ?_
   obtain rfl := os h
   exact Qde.mk
  refine rg hc none [oN,oc (.bool a3),oN,o_,o_,oF,oN,o_,o_,o_,o_,o_,o_,oF,oN] [(4,.bool false)] [] (cq (K9q _ _ a4) K2z (ar 2 (neT a5) (ai a5 (ar 6 (neT (rfl : false = false)) (ai (rfl : false = false) tv))))) ?_
  obtain rfl := os h
  exact Qde.mk
 clear a2
 refine rt ?_
 obtain rfl := os h
 exact rq [true]
def K9u (p : Int × Int) : Option (Int) :=
 match p with
 | (n0,g1) =>
  if (g1 == 0) = true then
  some 0
  else
  if (g1 == 1) = true then
  some 1
  else
  if (decide (g1 ≤ (wr (n0 + 1)))) = true then
  (chk (n0 ≠ 0)) >>= fun _ =>
  some (wr (Int.tdiv (wr (g1 - 1)) n0))
  else
  (chk (n0 ≠ 0)) >>= fun _ =>
  some (wr (Int.tdiv g1 n0))
def K9v (p : Int × Int) (r : Int) : Prop :=
 match p with
 | (n0,g1) => Q75 Tryz.prog 208 [I n0,I g1] (I r) []
theorem K9w : ∀ p r,K9u p = some r → K9v p r := by
 rintro ⟨n0,g1⟩ r h
 unfold K9u at h
 refine b0 Tryz.f208 K32 23 [(0,I n0),(1,I g1)] fun c hc => ?_
 refine rs0 hc 1 [(0,I n0),(1,I g1)] [] ?_
 refine sN ?_
 refine bk 0 ?_
 refine rs0 hc 3 [(0,I n0),(1,I g1),(5,.bool (g1 == 0))] [] ?_
 refine ic h (fun a0 h => ?_) fun a0 h => ?_
 ·refine rs0 hc 1 [(4,I 0)] [] ?_
  refine rt ?_
  obtain rfl := os h
  exact rq [true]
 refine rs0 hc 3 [(0,I n0),(1,I g1),(8,.bool (g1 == 1))] [] ?_
 refine ic h (fun a1 h => ?_) fun a1 h => ?_
 ·refine rs0 hc 1 [(4,I 1)] [] ?_
  refine rt ?_
  obtain rfl := os h
  exact rq [true]
 refine rs0 hc 5 [(0,I n0),(1,I g1),(11,.bool (decide (g1 ≤ (wr (n0 + 1)))))] [] ?_
 refine ic h (fun a2 h => ?_) fun a2 h => ?_
 ·obtain ⟨_,a3,h⟩ := Qds h
  refine rs hc none [oN,oN,oN,oN,oN] [(4,I (wr (Int.tdiv (wr (g1 - 1)) n0)))] [] (ai (Qdu a3) tv) ?_
  refine rt ?_
  obtain rfl := os h
  exact rq [true]
 refine sk ?_
 obtain ⟨_,a4,h⟩ := Qds h
 refine rs hc none [oN,oN,oN,oN] [(4,I (wr (Int.tdiv g1 n0)))] [] (ai (Qdu a4) tv) ?_
 refine rt ?_
 obtain rfl := os h
 exact rq [true]
def K9x (p : Int × Int) : Option (Int) :=
 match p with
 | (n0,g1) =>
  if (decide (g1 < 2)) = true then
  some g1
  else
  if (decide (g1 ≤ (wr (n0 + 1)))) = true then
  (chk (n0 ≠ 0)) >>= fun _ =>
  some (Int.tmod (wr (g1 - 1)) n0)
  else
  (chk (n0 ≠ 0)) >>= fun _ =>
  some (Int.tmod g1 n0)
def K9y (p : Int × Int) (r : Int) : Prop :=
 match p with
 | (n0,g1) => Q75 Tryz.prog 209 [I n0,I g1] (I r) []
theorem K9z : ∀ p r,K9x p = some r → K9y p r := by
 rintro ⟨n0,g1⟩ r h
 unfold K9x at h
 refine b0 Tryz.f209 K34 21 [(0,I n0),(1,I g1)] fun c hc => ?_
 refine rs0 hc 1 [(0,I n0),(1,I g1)] [] ?_
 refine sN ?_
 refine bk 0 ?_
 refine rs0 hc 3 [(0,I n0),(1,I g1),(5,.bool (decide (g1 < 2)))] [] ?_
 refine ic h (fun a0 h => ?_) fun a0 h => ?_
 ·refine rs0 hc 2 [(4,I g1)] [] ?_
  refine rt ?_
  obtain rfl := os h
  exact rq [true]
 refine rs0 hc 5 [(0,I n0),(1,I g1),(9,.bool (decide (g1 ≤ (wr (n0 + 1)))))] [] ?_
 refine ic h (fun a1 h => ?_) fun a1 h => ?_
 ·obtain ⟨_,a2,h⟩ := Qds h
  refine rs hc none [oN,oN,oN,oN,oN] [(4,I (Int.tmod (wr (g1 - 1)) n0))] [] (ai (Qdu a2) tv) ?_
  refine rt ?_
  obtain rfl := os h
  exact rq [true]
 refine sk ?_
 obtain ⟨_,a3,h⟩ := Qds h
 refine rs hc none [oN,oN,oN,oN] [(4,I (Int.tmod g1 n0))] [] (ai (Qdu a3) tv) ?_
 refine rt ?_
 obtain rfl := os h
 exact rq [true]
def Ka0 (p : Int × Int × Int) : Option (Int) :=
 match p with
 | (n0,x1,y2) =>
  if ((wr ((wr (x1 * n0)) + y2)) == 0) = true then
  some 0
  else
  if ((wr ((wr (x1 * n0)) + y2)) == (wr (n0 + 1))) = true then
  some 1
  else
  if (decide ((wr ((wr (x1 * n0)) + y2)) < (wr (n0 + 1)))) = true then
  some (wr ((wr ((wr (x1 * n0)) + y2)) + 1))
  else
  some (wr ((wr (x1 * n0)) + y2))
def Ka1 (p : Int × Int × Int) (r : Int) : Prop :=
 match p with
 | (n0,x1,y2) => Q75 Tryz.prog 210 [I n0,I x1,I y2] (I r) []
theorem Ka2 : ∀ p r,Ka0 p = some r → Ka1 p r := by
 rintro ⟨n0,x1,y2⟩ r h
 unfold Ka0 at h
 refine b0 Tryz.f210 K36 29 [(0,I n0),(1,I x1),(2,I y2)] fun c hc => ?_
 refine rs0 hc 1 [(0,I n0),(1,I x1),(2,I y2)] [] ?_
 refine rs0 hc 6 [(0,I n0),(7,I (wr ((wr (x1 * n0)) + y2)))] [] ?_
 refine sN ?_
 refine bk 0 ?_
 refine rs0 hc 3 [(0,I n0),(7,I (wr ((wr (x1 * n0)) + y2))),(13,.bool ((wr ((wr (x1 * n0)) + y2)) == 0))] [] ?_
 refine ic h (fun a0 h => ?_) fun a0 h => ?_
 ·refine rs0 hc 1 [(6,I 0)] [] ?_
  refine rt ?_
  obtain rfl := os h
  exact rq [true]
 refine rs0 hc 5 [(0,I n0),(7,I (wr ((wr (x1 * n0)) + y2))),(16,.bool ((wr ((wr (x1 * n0)) + y2)) == (wr (n0 + 1))))] [] ?_
 refine ic h (fun a1 h => ?_) fun a1 h => ?_
 ·refine rs0 hc 1 [(6,I 1)] [] ?_
  refine rt ?_
  obtain rfl := os h
  exact rq [true]
 refine rs0 hc 5 [(7,I (wr ((wr (x1 * n0)) + y2))),(21,.bool (decide ((wr ((wr (x1 * n0)) + y2)) < (wr (n0 + 1)))))] [] ?_
 refine ic h (fun a2 h => ?_) fun a2 h => ?_
 ·refine rs0 hc 3 [(6,I (wr ((wr ((wr (x1 * n0)) + y2)) + 1)))] [] ?_
  refine rt ?_
  obtain rfl := os h
  exact rq [true]
 refine sk ?_
 refine rs0 hc 2 [(6,I (wr ((wr (x1 * n0)) + y2)))] [] ?_
 refine rt ?_
 obtain rfl := os h
 exact rq [true]
def Ka3 (c : Ctx) (a0 : K00) (b1 : K00) (a1 : Int) : (List Int) × (List Int) × (List Bool) → Exit → Q0a → Prop
 | (a2,a3,a4) => Qde c (.exit 2) (mkS [(2,.ra 1 0),(3,.ra 2 0),(4,.ra 3 0),(6,I b1.fSize),(7,.ra 4 0),(8,I a1)] [(1,K19 a0),(2,K19 b1),(3,.box [I 0,.nils,.nils,.nils]),(4,.box [I (wr (a0.fSize * b1.fSize)),.rs 29,.rs 30,.rs 31]),(29,rI a2),(30,rI a3),(31,.arr (List.map AV.bool a4))])
def Ka4 (p : K00 × K00 × Int × (List Int) × (List Int) × (List Bool) × Int) : Option ((List Int) × (List Int) × (List Bool)) :=
 match p with
 | (a0,b1,a1,a2,a3,a4,a5) =>
  if (decide (a5 < (wr (a0.fSize * b1.fSize)))) = true then
  (K9u (b1.fSize,a1)) >>= fun a6 =>
  (K9x (b1.fSize,a1)) >>= fun a7 =>
  (K9u (b1.fSize,a5)) >>= fun a8 =>
  (K9x (b1.fSize,a5)) >>= fun a9 =>
  (K8d (a0,a6,a8)) >>= fun b2 =>
  (K8d (b1,a7,a9)) >>= fun b3 =>
  (Ka0 (b1.fSize,b2,b3)) >>= fun b4 =>
  (Qe5 (a2.length + [b4].length) 8) >>= fun _ =>
  (K8k (a0,a6,a8)) >>= fun b5 =>
  (K8k (b1,a7,a9)) >>= fun b6 =>
  (Ka0 (b1.fSize,b5,b6)) >>= fun b7 =>
  (Qe5 (a3.length + [b7].length) 8) >>= fun _ =>
  ((
  (K8n (a0,a6,a8)) >>= fun b8 =>
  if b8 = true then
  (K8n (b1,a7,a9)) >>= fun b9 =>
  (Qe5 (a4.length + [b9].length) 1) >>= fun _ =>
  some ((a4 ++ [b9]))
  else
  (Qe5 (a4.length + [false].length) 1) >>= fun _ =>
  some ((a4 ++ [false]))
  ) : Option ((List Bool))) >>= fun c0 =>
  Ka4 (a0,b1,a1,(a2 ++ [b4]),(a3 ++ [b7]),c0,(wr (a5 + 1)))
  else
  some ((a2,a3,a4))
 partial_fixpoint
def Ka5 (p : K00 × K00 × Int × (List Int) × (List Int) × (List Bool) × Int) (fl : (List Int) × (List Int) × (List Bool)) : Prop :=
 match p with
 | (a0,b1,a1,a2,a3,a4,a5) => ∀ c : Ctx,c.nt = 96 → WpL Tryz.prog c (cl (cl (cr (cl (cl (cr (cl (cl (cr (cl (cr (cr (cr (cr K38)))))))))))))) (Ka3 c a0 b1 a1 fl) (mkS [(2,.ra 1 0),(3,.ra 2 0),(4,.ra 3 0),(6,I b1.fSize),(7,.ra 4 0),(8,I a1),(9,I a5)] [(1,K19 a0),(2,K19 b1),(3,.box [I 0,.nils,.nils,.nils]),(4,.box [I (wr (a0.fSize * b1.fSize)),.rs 29,.rs 30,.rs 31]),(29,rI a2),(30,rI a3),(31,.arr (List.map AV.bool a4))])
theorem Ka6 : ∀ p r,Ka4 p = some r → Ka5 p r := by
 refine Ka4.partial_correctness Ka5 ?_
 rintro spec_ProductSystem_l0_f spec_ProductSystem_l0_ih ⟨a0,b1,a1,a2,a3,a4,a5⟩ r h
 intro c hc
 refine WpL.step ?_
 refine sN ?_
 refine K6n hc 4 [(2,.ra 1 0),(3,.ra 2 0),(4,.ra 3 0),(6,I b1.fSize),(7,.ra 4 0),(8,I a1),(9,I a5),(35,.bool (decide (a5 < (wr (a0.fSize * b1.fSize)))))] ?_
 refine ic h (fun a6 h => ?_) fun a6 h => ?_
 ·refine sk ?_
  refine sN ?_
  refine bk 3 ?_
  obtain ⟨a7,a8,h⟩ := Qds h
  refine rss hc none [oN,oN,oc (I a7),oN] [(2,.ra 1 0),(3,.ra 2 0),(4,.ra 3 0),(6,I b1.fSize),(7,.ra 4 0),(8,I a1),(9,I a5),(10,I a7)] (cq (K9w _ _ a8) K33 tv) ?_
  obtain ⟨a9,b2,h⟩ := Qds h
  refine rss hc none [oN,oN,oc (I a9),oN] [(2,.ra 1 0),(3,.ra 2 0),(4,.ra 3 0),(6,I b1.fSize),(7,.ra 4 0),(8,I a1),(9,I a5),(10,I a7),(11,I a9)] (cq (K9z _ _ b2) K35 tv) ?_
  obtain ⟨b3,b4,h⟩ := Qds h
  refine rss hc none [oN,oN,oc (I b3),oN] [(2,.ra 1 0),(3,.ra 2 0),(4,.ra 3 0),(6,I b1.fSize),(7,.ra 4 0),(8,I a1),(9,I a5),(10,I a7),(11,I a9),(12,I b3)] (cq (K9w _ _ b4) K33 tv) ?_
  obtain ⟨b5,b6,h⟩ := Qds h
  refine rss hc none [oN,oN,oc (I b5),oN] [(2,.ra 1 0),(3,.ra 2 0),(4,.ra 3 0),(6,I b1.fSize),(7,.ra 4 0),(8,I a1),(9,I a5),(10,I a7),(11,I a9),(12,I b3),(13,I b5)] (cq (K9z _ _ b6) K35 tv) ?_
  obtain ⟨b7,b8,b9,c0,c1,c2,_,c3,h⟩ := bq4 h
  refine rs hc K9f [oN,oN,oN,oN,oN,oN,oc (I b7),oN,oN,oN,oc (I b9),oc (I c1),some (.mk 50 true),some (.eqv (.mk 51 true) ⟨[(63,.rs 51)],[(51,some (rI (a2 ++ [c1]))),(29,none),(50,none)],[51]⟩),oN,oN] [(2,.ra 1 0),(3,.ra 2 0),(4,.ra 3 0),(6,I b1.fSize),(7,.ra 4 0),(8,I a1),(9,I a5),(10,I a7),(11,I a9),(12,I b3),(13,I b5)] [(1,K19 a0),(2,K19 b1),(3,.box [I 0,.nils,.nils,.nils]),(4,.box [I (wr (a0.fSize * b1.fSize)),.rs 51,.rs 30,.rs 31]),(30,rI a3),(31,.arr (List.map AV.bool a4)),(51,rI (a2 ++ [c1]))] (cq (K8f _ _ b8) K2m (cq (K8f _ _ c0) K2m (cq (Ka2 _ _ c2) K37 (ab (congrArg (fun z => (⟨[(63,.rs 51)],[(51,some (.arr z)),(29,none),(50,none)],[51]⟩ : Wr)) ((List.map_append).symm : (List.map I a2) ++ (List.map I [c1]) = List.map I (a2 ++ [c1]))) (Qe6 (enc1 := I) (enc2 := I) (e1 := a2) (e2 := [c1]) (sz := 1) Qef Qef c3) tv)))) ?_
  obtain ⟨c4,c5,c6,c7,c8,c9,_,d0,h⟩ := bq4 h
  refine rs hc K9f [oN,oN,oN,oN,oN,oN,oc (I c4),oN,oN,oN,oc (I c6),oc (I c8),some (.mk 52 true),some (.eqv (.mk 53 true) ⟨[(78,.rs 53)],[(53,some (rI (a3 ++ [c8]))),(30,none),(52,none)],[53]⟩),oN,oN] [(2,.ra 1 0),(3,.ra 2 0),(4,.ra 3 0),(6,I b1.fSize),(7,.ra 4 0),(8,I a1),(9,I a5),(10,I a7),(11,I a9),(12,I b3),(13,I b5)] [(1,K19 a0),(2,K19 b1),(3,.box [I 0,.nils,.nils,.nils]),(4,.box [I (wr (a0.fSize * b1.fSize)),.rs 51,.rs 53,.rs 31]),(31,.arr (List.map AV.bool a4)),(51,rI (a2 ++ [c1])),(53,rI (a3 ++ [c8]))] (cq (K8m _ _ c5) K2o (cq (K8m _ _ c7) K2o (cq (Ka2 _ _ c9) K37 (ab (congrArg (fun z => (⟨[(78,.rs 53)],[(53,some (.arr z)),(30,none),(52,none)],[53]⟩ : Wr)) ((List.map_append).symm : (List.map I a3) ++ (List.map I [c8]) = List.map I (a3 ++ [c8]))) (Qe6 (enc1 := I) (enc2 := I) (e1 := a3) (e2 := [c8]) (sz := 1) Qef Qef d0) tv)))) ?_
  obtain ⟨d1,d2,h⟩ := Qds h
  refine Wp.into (x := .normal) (mkS [(2,.ra 1 0),(3,.ra 2 0),(4,.ra 3 0),(6,I b1.fSize),(7,.ra 4 0),(8,I a1),(9,I a5)] [(1,K19 a0),(2,K19 b1),(3,.box [I 0,.nils,.nils,.nils]),(4,.box [I (wr (a0.fSize * b1.fSize)),.rs 51,.rs 53,.rs 55]),(51,rI (a2 ++ [c1])),(53,rI (a3 ++ [c8])),(55,.arr (List.map AV.bool d1))]) ?_ ?_
  ·replace h := d2
   obtain ⟨d3,d4,h⟩ := Qds h
   rcases is h with ⟨d5,h⟩ | ⟨d5,h⟩
   ·obtain ⟨d6,d7,_,d8,h⟩ := bq2 h
    refine rg hc K9g [oN,oN,oN,oN,oN,oc (.bool d3),oN,oN,oN,oN,oc (.bool d6),oT,some (.mk 54 true),some (.eqv (.mk 55 true) ⟨[(93,.rs 55)],[(55,some (.arr (List.map AV.bool (a4 ++ [d6])))),(31,none),(54,none)],[55]⟩),oN,oN] [(2,.ra 1 0),(3,.ra 2 0),(4,.ra 3 0),(6,I b1.fSize),(7,.ra 4 0),(8,I a1),(9,I a5)] [(1,K19 a0),(2,K19 b1),(3,.box [I 0,.nils,.nils,.nils]),(4,.box [I (wr (a0.fSize * b1.fSize)),.rs 51,.rs 53,.rs 55]),(51,rI (a2 ++ [c1])),(53,rI (a3 ++ [c8])),(55,.arr (List.map AV.bool (a4 ++ [d6])))] (cq (K8p _ _ d4) K2q (ar 4 d5 (cq (K8p _ _ d7) K2q (ac d5 (congrArg (fun z => (⟨[(93,.rs 55)],[(55,some (.arr z)),(31,none),(54,none)],[55]⟩ : Wr)) ((List.map_append).symm : (List.map AV.bool a4) ++ (List.map AV.bool [d6]) = List.map AV.bool (a4 ++ [d6]))) (Qe6 (enc1 := AV.bool) (enc2 := AV.bool) (e1 := a4) (e2 := [d6]) (sz := 1) Qeh Qeh d8) tv)))) ?_
    obtain rfl := os h
    exact Qde.mk
   obtain ⟨_,d8,h⟩ := Qds h
   refine rg hc K9g [oN,oN,oN,oN,oN,oc (.bool d3),oN,o_,o_,o_,o_,oF,some (.mk 54 true),some (.eqv (.mk 55 true) ⟨[(93,.rs 55)],[(55,some (.arr (List.map AV.bool (a4 ++ [false])))),(31,none),(54,none)],[55]⟩),oN,oN] [(2,.ra 1 0),(3,.ra 2 0),(4,.ra 3 0),(6,I b1.fSize),(7,.ra 4 0),(8,I a1),(9,I a5)] [(1,K19 a0),(2,K19 b1),(3,.box [I 0,.nils,.nils,.nils]),(4,.box [I (wr (a0.fSize * b1.fSize)),.rs 51,.rs 53,.rs 55]),(51,rI (a2 ++ [c1])),(53,rI (a3 ++ [c8])),(55,.arr (List.map AV.bool (a4 ++ [false])))] (cq (K8p _ _ d4) K2q (ar 4 (neT d5) (ac d5 (congrArg (fun z => (⟨[(93,.rs 55)],[(55,some (.arr z)),(31,none),(54,none)],[55]⟩ : Wr)) ((List.map_append).symm : (List.map AV.bool a4) ++ (List.map AV.bool [false]) = List.map AV.bool (a4 ++ [false]))) (Qe6 (enc1 := AV.bool) (enc2 := AV.bool) (e1 := a4) (e2 := [false]) (sz := 1) Qeh Qeh d8) tv))) ?_
   obtain rfl := os h
   exact Qde.mk
  clear d2
  refine K6m hc 3 [(2,.ra 1 0),(3,.ra 2 0),(4,.ra 3 0),(6,I b1.fSize),(7,.ra 4 0),(8,I a1),(9,I (wr (a5 + 1)))] ?_
  refine Qda ?_
  exact WpL.view (fun a w hv => SRx.renL [(29,51),(30,53),(31,55)] hv (by kernel_rfl) (by kernel_rfl) (by kernel_rfl)) (spec_ProductSystem_l0_ih _ _ h c hc)
 refine xt 2 ?_
 refine Qd4 ?_
 refine Qdb ?_
 obtain ⟨rfl,hq0⟩ := Prod.mk.inj (Option.some.inj h)
 obtain ⟨rfl,rfl⟩ := Prod.mk.inj (hq0)
 exact iv []
def Ka7 (c : Ctx) (a0 : K00) (b1 : K00) : (List Int) × (List Int) × (List Bool) → Exit → Q0a → Prop
 | (a1,a2,a3) => Qde c (.exit 0) (mkS [(4,.ra 3 0),(7,.ra 4 0)] [(3,.box [I 0,.nils,.nils,.nils]),(4,.box [I (wr (a0.fSize * b1.fSize)),.rs 29,.rs 30,.rs 31]),(29,rI a1),(30,rI a2),(31,.arr (List.map AV.bool a3))])
def Ka8 (p : K00 × K00 × (List Int) × (List Int) × (List Bool) × Int) : Option ((List Int) × (List Int) × (List Bool)) :=
 match p with
 | (a0,b1,a1,a2,a3,a4) =>
  if (decide (a4 < (wr (a0.fSize * b1.fSize)))) = true then
  (Ka4 (a0,b1,a4,a1,a2,a3,0)) >>= fun (a5,a6,a7) =>
  Ka8 (a0,b1,a5,a6,a7,(wr (a4 + 1)))
  else
  some ((a1,a2,a3))
 partial_fixpoint
def Ka9 (p : K00 × K00 × (List Int) × (List Int) × (List Bool) × Int) (fl : (List Int) × (List Int) × (List Bool)) : Prop :=
 match p with
 | (a0,b1,a1,a2,a3,a4) => ∀ c : Ctx,c.nt = 96 → WpL Tryz.prog c (cl (cl (cr (cl (cr (cr (cr (cr K38)))))))) (Ka7 c a0 b1 fl) (mkS [(2,.ra 1 0),(3,.ra 2 0),(4,.ra 3 0),(6,I b1.fSize),(7,.ra 4 0),(8,I a4)] [(1,K19 a0),(2,K19 b1),(3,.box [I 0,.nils,.nils,.nils]),(4,.box [I (wr (a0.fSize * b1.fSize)),.rs 29,.rs 30,.rs 31]),(29,rI a1),(30,rI a2),(31,.arr (List.map AV.bool a3))])
theorem Kaa : ∀ p r,Ka8 p = some r → Ka9 p r := by
 refine Ka8.partial_correctness Ka9 ?_
 rintro spec_ProductSystem_l1_f spec_ProductSystem_l1_ih ⟨a0,b1,a1,a2,a3,a4⟩ r h
 intro c hc
 refine WpL.step ?_
 refine sN ?_
 refine K6n hc 4 [(2,.ra 1 0),(3,.ra 2 0),(4,.ra 3 0),(6,I b1.fSize),(7,.ra 4 0),(8,I a4),(29,.bool (decide (a4 < (wr (a0.fSize * b1.fSize)))))] ?_
 refine ic h (fun a5 h => ?_) fun a5 h => ?_
 ·refine sk ?_
  refine sN ?_
  refine bk 1 ?_
  refine K6n hc 1 [(2,.ra 1 0),(3,.ra 2 0),(4,.ra 3 0),(6,I b1.fSize),(7,.ra 4 0),(8,I a4),(9,I 0)] ?_
  refine bk 2 ?_
  obtain ⟨⟨a6,a7,a8⟩,a9,h⟩ := Qds h
  have hL := Ka6 _ _ a9 c hc
  refine lp ?_
  refine WpL.into (e := (.exit 2)) (mkS [(2,.ra 1 0),(3,.ra 2 0),(4,.ra 3 0),(6,I b1.fSize),(7,.ra 4 0),(8,I a4)] [(1,K19 a0),(2,K19 b1),(3,.box [I 0,.nils,.nils,.nils]),(4,.box [I (wr (a0.fSize * b1.fSize)),.rs 29,.rs 30,.rs 31]),(29,rI a6),(30,rI a7),(31,.arr (List.map AV.bool a8))]) hL ?_
  refine Qd6 ?_
  refine K6m hc 3 [(2,.ra 1 0),(3,.ra 2 0),(4,.ra 3 0),(6,I b1.fSize),(7,.ra 4 0),(8,I (wr (a4 + 1)))] ?_
  refine Qda ?_
  exact (spec_ProductSystem_l1_ih _ _ h c hc)
 refine xt 0 ?_
 refine Qd4 ?_
 refine Qdb ?_
 obtain ⟨rfl,hq0⟩ := Prod.mk.inj (Option.some.inj h)
 obtain ⟨rfl,rfl⟩ := Prod.mk.inj (hq0)
 exact iv []
def Kab (p : K00 × K00) : Option (K00 × Bool) :=
 match p with
 | (a0,b1) =>
  (K9r (a0,b1)) >>= fun a1 =>
  if a1 = true then
  (Ka8 (a0,b1,[],[],[],0)) >>= fun (a2,a3,a4) =>
  some ((K00.mk (wr (a0.fSize * b1.fSize)) a2 a3 a4),true)
  else
  some ((K00.mk 0 [] [] []),false)
def Kac (p : K00 × K00) (r : K00 × Bool) : Prop :=
 match p with
 | (a0,b1) => Q75 Tryz.prog 154 [K1a a0,K1a b1] (.tup [.agg [I r.1.fSize,.osl (List.map I r.1.fPlus),.osl (List.map I r.1.fTimes),.osl (List.map AV.bool r.1.fBelow)],.bool r.2]) []
theorem Kad : ∀ p r,Kab p = some r → Kac p r := by
 rintro ⟨a0,b1⟩ r h
 unfold Kab at h
 refine b0 Tryz.f154 K38 96 [(0,K1a a0),(1,K1a b1)] fun c hc => ?_
 refine rs hc none [some (.new 1),some (.new 2),some (.new 3),oN] [(2,.ra 1 0),(3,.ra 2 0),(4,.ra 3 0)] [(1,K19 a0),(2,K19 b1),(3,.box [I 0,.nils,.nils,.nils])] tv ?_
 refine sN ?_
 obtain ⟨a1,a2,h⟩ := Qds h
 refine rss hc none [oN,oN,oc (.bool a1),oN] [(2,.ra 1 0),(3,.ra 2 0),(4,.ra 3 0),(17,.bool (!a1))] (cq (K9t _ _ a2) K31 tv) ?_
 rcases is h with ⟨a3,h⟩ | ⟨a3,h⟩
 ·refine cF (!a1) (nF a3) ?_
  refine sk ?_
  refine K6n hc 3 [(2,.ra 1 0),(3,.ra 2 0),(4,.ra 3 0),(6,I b1.fSize)] ?_
  refine rs hc none [oN,oN,oN,oN,oN,some (.new 4),oN] [(2,.ra 1 0),(3,.ra 2 0),(4,.ra 3 0),(6,I b1.fSize),(7,.ra 4 0)] [(1,K19 a0),(2,K19 b1),(3,.box [I 0,.nils,.nils,.nils]),(4,.box [I (wr (a0.fSize * b1.fSize)),.nils,.nils,.nils])] tv ?_
  refine sN ?_
  refine K6n hc 1 [(2,.ra 1 0),(3,.ra 2 0),(4,.ra 3 0),(6,I b1.fSize),(7,.ra 4 0),(8,I 0)] ?_
  refine bk 0 ?_
  obtain ⟨⟨a4,a5,a6⟩,a7,h⟩ := Qds h
  have hL := Kaa _ _ a7 c hc
  refine Wp.loopN (by kernel_rfl) (WpL.view (fun a w hv => SRx.renL [(29,56),(30,57),(31,58)] (SRx.nilBL 4 3 58 [I (wr (a0.fSize * b1.fSize)),.rs 56,.rs 57,.nils] (SRx.nilBL 4 2 57 [I (wr (a0.fSize * b1.fSize)),.rs 56,.nils,.nils] (SRx.nilBL 4 1 56 [I (wr (a0.fSize * b1.fSize)),.nils,.nils,.nils] hv (by kernel_rfl) (by kernel_rfl) (by kernel_rfl)) (by kernel_rfl) (by kernel_rfl) (by kernel_rfl)) (by kernel_rfl) (by kernel_rfl) (by kernel_rfl)) (by kernel_rfl) (by kernel_rfl) (by kernel_rfl)) (?_ : WpL _ c _ _ (mkS [(2,.ra 1 0),(3,.ra 2 0),(4,.ra 3 0),(6,I b1.fSize),(7,.ra 4 0),(8,I 0)] [(1,K19 a0),(2,K19 b1),(3,.box [I 0,.nils,.nils,.nils]),(4,.box [I (wr (a0.fSize * b1.fSize)),.rs 29,.rs 30,.rs 31]),(29,.arr (List.map I [])),(30,.arr (List.map I [])),(31,.arr (List.map AV.bool []))])))
  refine WpL.into (e := (.exit 0)) (mkS [(4,.ra 3 0),(7,.ra 4 0)] [(3,.box [I 0,.nils,.nils,.nils]),(4,.box [I (wr (a0.fSize * b1.fSize)),.rs 29,.rs 30,.rs 31]),(29,rI a4),(30,rI a5),(31,.arr (List.map AV.bool a6))]) hL ?_
  refine Qd6 ?_
  refine rs0 hc 3 [(4,.ra 3 0),(5,.bool true)] [(3,.box [I (wr (a0.fSize * b1.fSize)),.rs 29,.rs 30,.rs 31]),(29,rI a4),(30,rI a5),(31,.arr (List.map AV.bool a6))] ?_
  refine rt ?_
  obtain rfl := os h
  exact rq [true,true]
 refine cT (!a1) (nT a3) ?_
 refine rs0 hc 3 [(4,.ra 3 0),(5,.bool false)] [(3,.box [I 0,.nils,.nils,.nils])] ?_
 refine rt ?_
 obtain rfl := os h
 exact rq [true,true]
def Kae (c0 : K01) : Option (K00 × K01) :=
 (K72 (c0,3)) >>= fun (a0,a1) =>
 (K7m (wr (1 + a0))) >>= fun a2 =>
 (K72 (a1,8)) >>= fun (a3,a4) =>
 ((
 if (a3 == 0) = true then
 some ((a3 == 0))
 else
 ((
 if (a3 == 1) = true then
 some ((a3 == 1))
 else
 some ((a3 == 2))
 ) : Option (Bool)) >>= fun a5 =>
 some (a5)
 ) : Option (Bool)) >>= fun a6 =>
 ((
 if a6 = true then
 (K7p (wr (1 + a0))) >>= fun a7 =>
 some ((a7.fSize,a7.fPlus,a7.fTimes,a7.fBelow,a4.fb,a4.fi,a4.fh))
 else
 ((
 if (a3 == 3) = true then
 some ((a3 == 3))
 else
 some ((a3 == 4))
 ) : Option (Bool)) >>= fun a8 =>
 ((
 if a8 = true then
 (K83 (wr (1 + a0))) >>= fun a9 =>
 some ((a9.fSize,a9.fPlus,a9.fTimes,a9.fBelow,a4.fb,a4.fi,a4.fh))
 else
 ((
 if (a3 == 5) = true then
 (K7p 1) >>= fun b1 =>
 (K72 (a4,2)) >>= fun (b2,b3) =>
 (K83 (wr (1 + b2))) >>= fun b4 =>
 (Kab (b1,b4)) >>= fun (b5,b6) =>
 some ((b5.fSize,b5.fPlus,b5.fTimes,b5.fBelow,b3.fb,b3.fi,b3.fh))
 else
 some ((a2.fSize,a2.fPlus,a2.fTimes,a2.fBelow,a4.fb,a4.fi,a4.fh))
 ) : Option (Int × (List Int) × (List Int) × (List Bool) × (List Int) × Int × Int)) >>= fun (b7,b8,b9,c1,c2,c3,c4) =>
 some ((b7,b8,b9,c1,c2,c3,c4))
 ) : Option (Int × (List Int) × (List Int) × (List Bool) × (List Int) × Int × Int)) >>= fun (c5,c6,c7,c8,c9,d0,d1) =>
 some ((c5,c6,c7,c8,c9,d0,d1))
 ) : Option (Int × (List Int) × (List Int) × (List Bool) × (List Int) × Int × Int)) >>= fun (d2,d3,d4,d5,d6,d7,d8) =>
 some ((K00.mk d2 d3 d4 d5),(K01.mk d6 d7 d8))
def Kaf (c0 : K01) (r : K00 × K01) : Prop :=
 Q75 Tryz.prog 72 [.optr [.sl (List.map U8 c0.fb),I c0.fi,I c0.fh]] (.agg [I r.1.fSize,.osl (List.map I r.1.fPlus),.osl (List.map I r.1.fTimes),.osl (List.map AV.bool r.1.fBelow)]) [.optr [.sl (List.map U8 r.2.fb),I r.2.fi,I r.2.fh]]
theorem Kag : ∀ p r,Kae p = some r → Kaf p r := by
 rintro c0 r h
 unfold Kae at h
 refine Q75.bodyO K20 (fn := Tryz.f72) (code := B72) (by kernel_rfl) (by kernel_rfl) (by kernel_rfl) (nt := 35) (by kernel_rfl) (by kernel_rfl) (T := [(0,.ra 1000 0)]) (O := [(1000,K1b c0)]) (by kernel_rfl) (by kernel_rfl) (fun c hc => ?_)
 refine rs hc none [some (.new 1)] [(0,.ra 1000 0),(2,.ra 1 0)] [(1,.box [I 0,.nils,.nils,.nils]),(1000,K1b c0)] tv ?_
 obtain ⟨⟨a0,a1⟩,a2,h⟩ := Qds h
 refine rs hc none [oN,some (.call (I a0) [.optr [.sl (List.map U8 a1.fb),I a1.fi,I a1.fh],.undef] 1),oN,oN] [(0,.ra 1000 0),(2,.ra 1 0),(3,I (wr (1 + a0)))] [(1,.box [I 0,.nils,.nils,.nils]),(1000,K1b a1)] (ab (K74 _ _ a2) K25 tv) ?_
 obtain ⟨a3,a4,h⟩ := Qds h
 refine rs hc none [oN,some (.call (K1f a3) [] 2),some (.new 5),oN] [(0,.ra 1000 0),(2,.ra 1 0),(3,I (wr (1 + a0))),(4,.ra 5 0)] [(1,.box [I 0,.nils,.nils,.nils]),(2,rI a3.fPlus),(3,rI a3.fTimes),(4,.arr (List.map AV.bool a3.fBelow)),(5,.box [I a3.fSize,.rs 2,.rs 3,.rs 4]),(1000,K1b a1)] (cq (K7o _ _ a4) K2d tv) ?_
 refine sN ?_
 obtain ⟨⟨a5,a6⟩,a7,h⟩ := Qds h
 refine rs hc none [oN,some (.call (I a5) [.optr [.sl (List.map U8 a6.fb),I a6.fi,I a6.fh],.undef] 1)] [(0,.ra 1000 0),(2,.ra 1 0),(3,I (wr (1 + a0))),(4,.ra 5 0),(11,I a5)] [(1,.box [I 0,.nils,.nils,.nils]),(2,rI a3.fPlus),(3,rI a3.fTimes),(4,.arr (List.map AV.bool a3.fBelow)),(5,.box [I a3.fSize,.rs 2,.rs 3,.rs 4]),(1000,K1b a6)] (ab (K74 _ _ a7) K25 tv) ?_
 refine bk 0 ?_
 refine sN ?_
 refine K6n hc 2 [(0,.ra 1000 0),(2,.ra 1 0),(3,I (wr (1 + a0))),(4,.ra 5 0),(11,I a5),(12,.bool (a5 == 0))] ?_
 obtain ⟨a8,a9,h⟩ := Qds h
 refine Wp.into (x := .normal) (mkS [(0,.ra 1000 0),(2,.ra 1 0),(3,I (wr (1 + a0))),(4,.ra 5 0),(11,I a5),(12,.bool a8)] [(1,.box [I 0,.nils,.nils,.nils]),(2,rI a3.fPlus),(3,rI a3.fTimes),(4,.arr (List.map AV.bool a3.fBelow)),(5,.box [I a3.fSize,.rs 2,.rs 3,.rs 4]),(1000,K1b a6)]) ?_ ?_
 ·replace h := a9
  refine ic h (fun b1 h => ?_) fun b1 h => ?_
  ·refine sk ?_
   obtain rfl := os h
   exact Qde.mk
  refine K6n hc 2 [(0,.ra 1000 0),(2,.ra 1 0),(3,I (wr (1 + a0))),(4,.ra 5 0),(11,I a5),(12,.bool (a5 == 1))] ?_
  obtain ⟨b2,b3,h⟩ := Qds h
  refine Wp.into (x := .normal) (mkS [(0,.ra 1000 0),(2,.ra 1 0),(3,I (wr (1 + a0))),(4,.ra 5 0),(11,I a5),(12,.bool b2)] [(1,.box [I 0,.nils,.nils,.nils]),(2,rI a3.fPlus),(3,rI a3.fTimes),(4,.arr (List.map AV.bool a3.fBelow)),(5,.box [I a3.fSize,.rs 2,.rs 3,.rs 4]),(1000,K1b a6)]) ?_ ?_
  ·replace h := b3
   refine ic h (fun b4 h => ?_) fun b4 h => ?_
   ·refine sk ?_
    obtain rfl := os h
    exact Qde.mk
   refine K6m hc 2 [(0,.ra 1000 0),(2,.ra 1 0),(3,I (wr (1 + a0))),(4,.ra 5 0),(11,I a5),(12,.bool (a5 == 2))] ?_
   obtain rfl := os h
   exact Qde.mk
  clear b3
  obtain rfl := os h
  exact Qde.mk
 clear a9
 obtain ⟨⟨b5,b6,b7,b8,b9,c1,c2⟩,c3,h⟩ := Qds h
 refine Wp.into (x := .normal) (mkS [(2,.ra 1 0),(4,.ra 5 0)] [(1,.box [I 0,.nils,.nils,.nils]),(5,.box [I b5,.rs 6,.rs 7,.rs 8]),(6,rI b6),(7,rI b7),(8,.arr (List.map AV.bool b8)),(1000,.box [.sl (List.map U8 b9),I c1,I c2])]) ?_ ?_
 ·replace h := c3
  refine ic h (fun c4 h => ?_) fun c4 h => ?_
  ·obtain ⟨c5,c6,h⟩ := Qds h
   refine rg hc none [oN,some (.call (K1f c5) [] 6),oN] [(2,.ra 1 0),(4,.ra 5 0)] [(1,.box [I 0,.nils,.nils,.nils]),(5,.box [I c5.fSize,.rs 6,.rs 7,.rs 8]),(6,rI c5.fPlus),(7,rI c5.fTimes),(8,.arr (List.map AV.bool c5.fBelow)),(1000,K1b a6)] (cq (K7r _ _ c6) K2e tv) ?_
   obtain ⟨rfl,hq0⟩ := Prod.mk.inj (Option.some.inj h)
   obtain ⟨rfl,hq1⟩ := Prod.mk.inj (hq0)
   obtain ⟨rfl,hq2⟩ := Prod.mk.inj (hq1)
   obtain ⟨rfl,hq3⟩ := Prod.mk.inj (hq2)
   obtain ⟨rfl,hq4⟩ := Prod.mk.inj (hq3)
   obtain ⟨rfl,rfl⟩ := Prod.mk.inj (hq4)
   exact Qde.mk
  refine sN ?_
  refine K6n hc 2 [(0,.ra 1000 0),(2,.ra 1 0),(3,I (wr (1 + a0))),(4,.ra 5 0),(11,I a5),(18,.bool (a5 == 3))] ?_
  obtain ⟨c7,c8,h⟩ := Qds h
  refine Wp.into (x := .normal) (mkS [(0,.ra 1000 0),(2,.ra 1 0),(3,I (wr (1 + a0))),(4,.ra 5 0),(11,I a5),(18,.bool c7)] [(1,.box [I 0,.nils,.nils,.nils]),(2,rI a3.fPlus),(3,rI a3.fTimes),(4,.arr (List.map AV.bool a3.fBelow)),(5,.box [I a3.fSize,.rs 2,.rs 3,.rs 4]),(1000,K1b a6)]) ?_ ?_
  ·replace h := c8
   refine ic h (fun c9 h => ?_) fun c9 h => ?_
   ·refine sk ?_
    obtain rfl := os h
    exact Qde.mk
   refine K6m hc 2 [(0,.ra 1000 0),(2,.ra 1 0),(3,I (wr (1 + a0))),(4,.ra 5 0),(11,I a5),(18,.bool (a5 == 4))] ?_
   obtain rfl := os h
   exact Qde.mk
  clear c8
  obtain ⟨⟨d0,d1,d2,d3,d4,d5,d6⟩,d7,h⟩ := Qds h
  refine Wp.into (x := .normal) (mkS [(2,.ra 1 0),(4,.ra 5 0)] [(1,.box [I 0,.nils,.nils,.nils]),(5,.box [I d0,.rs 9,.rs 10,.rs 11]),(9,rI d1),(10,rI d2),(11,.arr (List.map AV.bool d3)),(1000,.box [.sl (List.map U8 d4),I d5,I d6])]) ?_ ?_
  ·replace h := d7
   refine ic h (fun d8 h => ?_) fun d8 h => ?_
   ·obtain ⟨d9,e0,h⟩ := Qds h
    refine rg hc none [oN,some (.call (K1f d9) [] 9),oN] [(2,.ra 1 0),(4,.ra 5 0)] [(1,.box [I 0,.nils,.nils,.nils]),(5,.box [I d9.fSize,.rs 9,.rs 10,.rs 11]),(9,rI d9.fPlus),(10,rI d9.fTimes),(11,.arr (List.map AV.bool d9.fBelow)),(1000,K1b a6)] (cq (K85 _ _ e0) K2i tv) ?_
    obtain ⟨rfl,hq0⟩ := Prod.mk.inj (Option.some.inj h)
    obtain ⟨rfl,hq1⟩ := Prod.mk.inj (hq0)
    obtain ⟨rfl,hq2⟩ := Prod.mk.inj (hq1)
    obtain ⟨rfl,hq3⟩ := Prod.mk.inj (hq2)
    obtain ⟨rfl,hq4⟩ := Prod.mk.inj (hq3)
    obtain ⟨rfl,rfl⟩ := Prod.mk.inj (hq4)
    exact Qde.mk
   refine K6n hc 2 [(0,.ra 1000 0),(2,.ra 1 0),(4,.ra 5 0),(23,.bool (a5 == 5))] ?_
   obtain ⟨⟨e1,e2,e3,e4,e5,e6,e7⟩,e8,h⟩ := Qds h
   refine Wp.into (x := .normal) (mkS [(2,.ra 1 0),(4,.ra 5 0)] [(1,.box [I 0,.nils,.nils,.nils]),(5,.box [I e1,.rs 18,.rs 19,.rs 20]),(18,rI e2),(19,rI e3),(20,.arr (List.map AV.bool e4)),(1000,.box [.sl (List.map U8 e5),I e6,I e7])]) ?_ ?_
   ·replace h := e8
    refine ic h (fun e9 h => ?_) fun e9 h => ?_
    ·obtain ⟨f0,f1,⟨f2,f3⟩,f4,h⟩ := bq2 h
     obtain ⟨f5,f6,⟨f7,f8⟩,f9,h⟩ := bq2 h
     refine rg hc none [some (.call (K1f f0) [] 12),oN,some (.call (I f2) [.optr [.sl (List.map U8 f3.fb),I f3.fi,I f3.fh],.undef] 1),oN,some (.call (K1f f5) [] 15),some (.call (.tup [K1f f7,.bool f8]) [] 18),oN,oN,oN,oN] [(2,.ra 1 0),(4,.ra 5 0)] [(1,.box [I 0,.nils,.nils,.nils]),(5,.box [I f7.fSize,.rs 18,.rs 19,.rs 20]),(18,rI f7.fPlus),(19,rI f7.fTimes),(20,.arr (List.map AV.bool f7.fBelow)),(1000,K1b f3)] (cq (K7r _ _ f1) K2e (ab (K74 _ _ f4) K25 (cq (K85 _ _ f6) K2i (ac (Q75.args (A1 := [K1g f0,K1g f5]) (A2 := [K1a f0,K1a f5]) (by simp only [K1g,List.map_nil,Qem,Qek]) (Kad _ _ f9)) K39 (Or.inr (Qeu (Qeu rfl (Qeu (Qes Qeo f7.fPlus) (Qeu (Qes Qeo f7.fTimes) (Qeu (Qes Qeq f7.fBelow) rfl)))) (Qeu rfl rfl)) : ([12,13,14,15,16,17] : List Nat) = [] ∨ noSh (.tup [K1f f7,.bool f8]) = true) tv)))) ?_
     obtain ⟨rfl,hq0⟩ := Prod.mk.inj (Option.some.inj h)
     obtain ⟨rfl,hq1⟩ := Prod.mk.inj (hq0)
     obtain ⟨rfl,hq2⟩ := Prod.mk.inj (hq1)
     obtain ⟨rfl,hq3⟩ := Prod.mk.inj (hq2)
     obtain ⟨rfl,hq4⟩ := Prod.mk.inj (hq3)
     obtain ⟨rfl,rfl⟩ := Prod.mk.inj (hq4)
     exact Qde.mk
    refine sk ?_
    obtain ⟨rfl,hq0⟩ := Prod.mk.inj (Option.some.inj h)
    obtain ⟨rfl,hq1⟩ := Prod.mk.inj (hq0)
    obtain ⟨rfl,hq2⟩ := Prod.mk.inj (hq1)
    obtain ⟨rfl,hq3⟩ := Prod.mk.inj (hq2)
    obtain ⟨rfl,hq4⟩ := Prod.mk.inj (hq3)
    obtain ⟨rfl,rfl⟩ := Prod.mk.inj (hq4)
    exact iv [(18,2),(19,3),(20,4)]
   clear e8
   obtain ⟨rfl,hq0⟩ := Prod.mk.inj (Option.some.inj h)
   obtain ⟨rfl,hq1⟩ := Prod.mk.inj (hq0)
   obtain ⟨rfl,hq2⟩ := Prod.mk.inj (hq1)
   obtain ⟨rfl,hq3⟩ := Prod.mk.inj (hq2)
   obtain ⟨rfl,hq4⟩ := Prod.mk.inj (hq3)
   obtain ⟨rfl,rfl⟩ := Prod.mk.inj (hq4)
   exact iv [(9,18),(10,19),(11,20)]
  clear d7
  obtain ⟨rfl,hq0⟩ := Prod.mk.inj (Option.some.inj h)
  obtain ⟨rfl,hq1⟩ := Prod.mk.inj (hq0)
  obtain ⟨rfl,hq2⟩ := Prod.mk.inj (hq1)
  obtain ⟨rfl,hq3⟩ := Prod.mk.inj (hq2)
  obtain ⟨rfl,hq4⟩ := Prod.mk.inj (hq3)
  obtain ⟨rfl,rfl⟩ := Prod.mk.inj (hq4)
  exact iv [(6,9),(7,10),(8,11)]
 clear c3
 refine rs0 hc 2 [(2,.ra 1 0)] [(1,.box [I b5,.rs 6,.rs 7,.rs 8]),(6,rI b6),(7,rI b7),(8,.arr (List.map AV.bool b8)),(1000,.box [.sl (List.map U8 b9),I c1,I c2])] ?_
 refine rt ?_
 obtain rfl := os h
 exact Qdp.ret (fl := [true]) (by kernel_rfl)
def Kah (c : Ctx) : (List Int) → Exit → Q0a → Prop
 | a0 => Qde c (.exit 0) (mkS [(5,.rs 1)] [(1,rI a0)])
def Kai (p : LL × (List Int) × Int) : Option ((List Int)) :=
 match p with
 | (parts1,a0,a1) =>
  if (decide (a1 < (parts1.length : Int))) = true then
  (idx parts1 a1) >>= fun a2 =>
  (Qe5 (a0.length + a2.length) 8) >>= fun _ =>
  Kai (parts1,(a0 ++ a2),(wr (a1 + 1)))
  else
  some (a0)
 partial_fixpoint
def Kaj (p : LL × (List Int) × Int) (fl : (List Int)) : Prop :=
 match p with
 | (parts1,a0,a1) => ∀ c : Ctx,c.nt = 22 → WpL Tryz.prog c (cl (cl (cr (cl (cr (cr K3c)))))) (Kah c fl) (mkS [(1,sL parts1),(5,.rs 1),(6,I a1)] [(1,rI a0)])
theorem Kak : ∀ p r,Kai p = some r → Kaj p r := by
 refine Kai.partial_correctness Kaj ?_
 rintro spec_l3Glue_l0_f spec_l3Glue_l0_ih ⟨parts1,a0,a1⟩ r h
 intro c hc
 refine WpL.step ?_
 refine sN ?_
 refine rss hc none [oN,oN,some (.eqv (.no) ⟨[(11,I (parts1.length : Int))],[],[]⟩),oN] [(1,sL parts1),(5,.rs 1),(6,I a1),(12,.bool (decide (a1 < (parts1.length : Int))))] (ai (Qdy (d := 11) K0n parts1) tv) ?_
 refine ic h (fun a2 h => ?_) fun a2 h => ?_
 ·refine sk ?_
  refine sN ?_
  refine bk 1 ?_
  obtain ⟨a3,a4,_,a5,h⟩ := bq2 h
  refine rg hc none [oN,oN,oN,some (.el (sI a3)),oN,some (.eqv (.mk 3 true) ⟨[(20,.rs 3)],[(3,some (rI (a0 ++ a3))),(1,none)],[3]⟩),oN] [(1,sL parts1),(5,.rs 3),(6,I a1)] [(3,rI (a0 ++ a3))] (ac (xL a4) (congrArg (fun z => (⟨[(20,.rs 3)],[(3,some (.arr z)),(1,none)],[3]⟩ : Wr)) ((List.map_append).symm : (List.map I a0) ++ (List.map I a3) = List.map I (a0 ++ a3))) (Qe6 (enc1 := I) (enc2 := I) (e1 := a0) (e2 := a3) (sz := 1) Qef Qef a5) tv) ?_
  refine K6m hc 3 [(1,sL parts1),(5,.rs 3),(6,I (wr (a1 + 1)))] ?_
  refine Qda ?_
  exact WpL.view (fun a w hv => SRx.renL [(1,3)] hv (by kernel_rfl) (by kernel_rfl) (by kernel_rfl)) (spec_l3Glue_l0_ih _ _ h c hc)
 refine xt 0 ?_
 refine Qd4 ?_
 refine Qdb ?_
 obtain rfl := os h
 exact iv []
def Kal (p : Int × LL) : Option ((List Int)) :=
 match p with
 | (c0,parts1) =>
  (Kai (parts1,[c0],0)) >>= fun a0 =>
  some a0
def Kam (p : Int × LL) (r : (List Int)) : Prop :=
 match p with
 | (c0,parts1) => Q75 Tryz.prog 155 [I c0,sL parts1] (oI r) []
theorem Kan : ∀ p r,Kal p = some r → Kam p r := by
 rintro ⟨c0,parts1⟩ r h
 unfold Kal at h
 refine b0 Tryz.f155 K3c 22 [(0,I c0),(1,sL parts1)] fun c hc => ?_
 refine rs0 hc 1 [(0,I c0),(1,sL parts1)] [] ?_
 refine rs hc none [oN,some (.mk 1 true),oN] [(1,sL parts1),(5,.rs 1)] [(1,.arr (List.map I [c0]))] tv ?_
 refine sN ?_
 refine K6n hc 1 [(1,sL parts1),(5,.rs 1),(6,I 0)] ?_
 refine bk 0 ?_
 obtain ⟨a0,a1,h⟩ := Qds h
 have hL := Kak _ _ a1 c hc
 refine lp ?_
 refine WpL.into (e := (.exit 0)) (mkS [(5,.rs 1)] [(1,rI a0)]) hL ?_
 refine Qd6 ?_
 refine K6n hc 2 [(4,.rs 1)] ?_
 refine rt ?_
 obtain rfl := os h
 exact rq [true]
def Kao (p : K01 × K00 × Int × Bool) : Option ((List Int) × K01) :=
 match p with
 | (c0,s1,deep2,data3) =>
  (K72 (c0,6)) >>= fun (a0,a1) =>
  ((
  if (decide (deep2 ≤ 0)) = true then
  some (true)
  else
  some ((decide (a0 < 2)))
  ) : Option (Bool)) >>= fun a2 =>
  if a2 = true then
  some ([0],a1)
  else
  (Kao (a1,s1,(wr (deep2 - 1)),data3)) >>= fun (a3,a4) =>
  if (a0 == 2) = true then
  (K72 (a4,s1.fSize)) >>= fun (a5,a6) =>
  (Kal ((wr (19 + a5)),[a3])) >>= fun a7 =>
  some (a7,a6)
  else
  ((
  if (a0 == 3) = true then
  some ((!data3))
  else
  some (false)
  ) : Option (Bool)) >>= fun a8 =>
  if a8 = true then
  (K72 (a4,s1.fSize)) >>= fun (a9,b1) =>
  (Kao (b1,s1,(wr (deep2 - 1)),data3)) >>= fun (b2,b3) =>
  (Kal ((wr (3 + a9)),[a3,b2])) >>= fun b4 =>
  some (b4,b3)
  else
  if (a0 == 4) = true then
  (Kao (a4,s1,(wr (deep2 - 1)),data3)) >>= fun (b5,b6) =>
  (Kal (2,[a3,b5])) >>= fun b7 =>
  some (b7,b6)
  else
  (Kao (a4,s1,(wr (deep2 - 1)),data3)) >>= fun (b8,b9) =>
  (Kal (1,[a3,b8])) >>= fun c1 =>
  some (c1,b9)
 partial_fixpoint
def Kap (p : K01 × K00 × Int × Bool) (r : (List Int) × K01) : Prop :=
 match p with
 | (c0,s1,deep2,data3) => Q75 Tryz.prog 75 [.optr [.sl (List.map U8 c0.fb),I c0.fi,I c0.fh],K1a s1,I deep2,.bool data3] (oI r.1) [.optr [.sl (List.map U8 r.2.fb),I r.2.fi,I r.2.fh],.undef,.undef,.undef]
theorem Kaq : ∀ p r,Kao p = some r → Kap p r := by
 refine Kao.partial_correctness Kap ?_
 rintro spec_dType_f spec_dType_ih ⟨c0,s1,deep2,data3⟩ r h
 refine Q75.bodyO K20 (fn := Tryz.f75) (code := B75) (by kernel_rfl) (by kernel_rfl) (by kernel_rfl) (nt := 79) (by kernel_rfl) (by kernel_rfl) (T := [(0,.ra 1000 0),(1,K1a s1),(2,I deep2),(3,.bool data3)]) (O := [(1000,K1b c0)]) (by kernel_rfl) (by kernel_rfl) (fun c hc => ?_)
 refine rs hc none [some (.new 1),oN] [(0,.ra 1000 0),(2,I deep2),(3,.bool data3),(5,.ra 1 0)] [(1,K19 s1),(1000,K1b c0)] tv ?_
 obtain ⟨⟨a0,a1⟩,a2,h⟩ := Qds h
 refine rs hc none [oN,some (.call (I a0) [.optr [.sl (List.map U8 a1.fb),I a1.fi,I a1.fh],.undef] 1),oN] [(0,.ra 1000 0),(2,I deep2),(3,.bool data3),(5,.ra 1 0),(9,I a0)] [(1,K19 s1),(1000,K1b a1)] (ab (K74 _ _ a2) K25 tv) ?_
 refine sN ?_
 refine sN ?_
 obtain ⟨a3,a4,h⟩ := Qds h
 refine Wp.into (x := .normal) (mkS [(0,.ra 1000 0),(2,I deep2),(3,.bool data3),(5,.ra 1 0),(9,I a0),(18,.bool a3)] [(1,K19 s1),(1000,K1b a1)]) ?_ ?_
 ·replace h := a4
  rcases is h with ⟨a5,h⟩ | ⟨a5,h⟩
  ·refine rgs hc none [oN,oN,oN,o_,o_,oT] [(0,.ra 1000 0),(2,I deep2),(3,.bool data3),(5,.ra 1 0),(9,I a0),(18,.bool true)] (ar 2 (neF a5) (ai a5 tv)) ?_
   obtain rfl := os h
   exact Qde.mk
  refine rgs hc none [oN,oN,oN,oN,oN,oF] [(0,.ra 1000 0),(2,I deep2),(3,.bool data3),(5,.ra 1 0),(9,I a0),(18,.bool (decide (a0 < 2)))] (ar 3 a5 tv) ?_
  obtain rfl := os h
  exact Qde.mk
 clear a4
 refine ic h (fun a6 h => ?_) fun a6 h => ?_
 ·refine rs hc none [some (.mk 2 true),oN] [(8,.rs 2)] [(2,.arr (List.map I [0])),(1000,K1b a1)] tv ?_
  refine rt ?_
  obtain rfl := os h
  exact Qdp.ret (fl := [true]) (by kernel_rfl)
 refine sk ?_
 obtain ⟨⟨a7,a8⟩,a9,h⟩ := Qds h
 refine rs hc none [oN,oN,oN,oN,oN,some (.call (oI a7) [.optr [.sl (List.map U8 a8.fb),I a8.fi,I a8.fh],.undef,.undef,.undef] 3),oN] [(0,.ra 1000 0),(2,I deep2),(3,.bool data3),(5,.ra 1 0),(9,I a0),(10,.rs 3)] [(1,K19 s1),(3,rI a7),(1000,K1b a8)] (ab (spec_dType_ih _ _ a9) K3b tv) ?_
 refine sN ?_
 refine bk 0 ?_
 refine K6n hc 3 [(0,.ra 1000 0),(2,I deep2),(3,.bool data3),(5,.ra 1 0),(9,I a0),(10,.rs 3),(26,.bool (a0 == 2))] ?_
 refine ic h (fun b1 h => ?_) fun b1 h => ?_
 ·obtain ⟨⟨b2,b3⟩,b4,h⟩ := Qds h
  obtain ⟨b5,b6,h⟩ := Qds h
  refine rs hc none [oN,oN,oN,some (.call (I b2) [.optr [.sl (List.map U8 b3.fb),I b3.fi,I b3.fh],.undef] 1),oN,oN,some (.mk 4 true),some (.call (oI b5) [] 5),oN] [(8,.rs 5)] [(5,rI b5),(1000,K1b b3)] (ad (K74 _ _ b4) K25 (Q75.args (A1 := [I (wr (19 + b2)),.sl (Q02 (List.map K0j [a7]))]) (A2 := [I (wr (19 + b2)),.sl (List.map K0n [a7])]) (by simp only [List.map_nil,K0s]) (Kan _ _ b6)) K3d (ai (Or.inr (Qes Qeo b5) : ([4] : List Nat) = [] ∨ noSh (oI b5) = true) tv)) ?_
  refine rt ?_
  obtain rfl := os h
  exact Qdp.ret (fl := [true]) (by kernel_rfl)
 refine sN ?_
 obtain ⟨b7,b8,h⟩ := Qds h
 refine Wp.into (x := .normal) (mkS [(0,.ra 1000 0),(2,I deep2),(3,.bool data3),(5,.ra 1 0),(9,I a0),(10,.rs 3),(37,.bool b7)] [(1,K19 s1),(3,rI a7),(1000,K1b a8)]) ?_ ?_
 ·replace h := b8
  rcases is h with ⟨b9,h⟩ | ⟨b9,h⟩
  ·refine rgs hc none [oN,oN,oN,oN,oN,oT,oN] [(0,.ra 1000 0),(2,I deep2),(3,.bool data3),(5,.ra 1 0),(9,I a0),(10,.rs 3),(37,.bool (!data3))] (ar 3 b9 tv) ?_
   obtain rfl := os h
   exact Qde.mk
  refine rgs hc none [oN,oN,oN,o_,o_,oF,oN] [(0,.ra 1000 0),(2,I deep2),(3,.bool data3),(5,.ra 1 0),(9,I a0),(10,.rs 3),(37,.bool false)] (ar 2 (neT b9) (ai b9 tv)) ?_
  obtain rfl := os h
  exact Qde.mk
 clear b8
 refine ic h (fun c1 h => ?_) fun c1 h => ?_
 ·obtain ⟨⟨c2,c3⟩,c4,h⟩ := Qds h
  obtain ⟨⟨c5,c6⟩,c7,h⟩ := Qds h
  obtain ⟨c8,c9,h⟩ := Qds h
  refine rs hc (rx [[0],[0],[0,1],[3],[4],[0],[0],[0],[0],[0,8],[0],[4,6,7,8,9,10],[4,5,6,7,8,9,10,11],[13],[14]]) [oN,oN,oN,some (.call (I c2) [.optr [.sl (List.map U8 c3.fb),I c3.fi,I c3.fh],.undef] 1),oN,oN,oN,oN,oN,oN,oN,some (.call (oI c5) [.optr [.sl (List.map U8 c6.fb),I c6.fi,I c6.fh],.undef,.undef,.undef] 6),some (.mk 7 true),some (.call (oI c8) [] 8),oN] [(8,.rs 8)] [(8,rI c8),(1000,K1b c6)] (ad (K74 _ _ c4) K25 (spec_dType_ih _ _ c7) K3b (ac (Q75.args (A1 := [I (wr (3 + c2)),.sl (Q02 (List.map K0j [a7,c5]))]) (A2 := [I (wr (3 + c2)),.sl (List.map K0n [a7,c5])]) (by simp only [List.map_nil,K0s]) (Kan _ _ c9)) K3d (Or.inr (Qes Qeo c8) : ([7] : List Nat) = [] ∨ noSh (oI c8) = true) tv)) ?_
  refine rt ?_
  obtain rfl := os h
  exact Qdp.ret (fl := [true]) (by kernel_rfl)
 refine K6n hc 3 [(0,.ra 1000 0),(2,I deep2),(3,.bool data3),(5,.ra 1 0),(10,.rs 3),(58,.bool (a0 == 4))] ?_
 refine ic h (fun d0 h => ?_) fun d0 h => ?_
 ·obtain ⟨⟨d1,d2⟩,d3,h⟩ := Qds h
  obtain ⟨d4,d5,h⟩ := Qds h
  refine rs hc none [oN,oN,oN,oN,oN,oN,some (.call (oI d1) [.optr [.sl (List.map U8 d2.fb),I d2.fi,I d2.fh],.undef,.undef,.undef] 9),some (.mk 10 true),some (.call (oI d4) [] 11),oN] [(8,.rs 11)] [(11,rI d4),(1000,K1b d2)] (ad (spec_dType_ih _ _ d3) K3b (Q75.args (A1 := [I 2,.sl (Q02 (List.map K0j [a7,d1]))]) (A2 := [I 2,.sl (List.map K0n [a7,d1])]) (by simp only [List.map_nil,K0s]) (Kan _ _ d5)) K3d (ai (Or.inr (Qes Qeo d4) : ([10] : List Nat) = [] ∨ noSh (oI d4) = true) tv)) ?_
  refine rt ?_
  obtain rfl := os h
  exact Qdp.ret (fl := [true]) (by kernel_rfl)
 refine sk ?_
 obtain ⟨⟨d6,d7⟩,d8,h⟩ := Qds h
 obtain ⟨d9,e0,h⟩ := Qds h
 refine rs hc none [oN,oN,oN,oN,oN,oN,some (.call (oI d6) [.optr [.sl (List.map U8 d7.fb),I d7.fi,I d7.fh],.undef,.undef,.undef] 12),some (.mk 13 true),some (.call (oI d9) [] 14),oN] [(8,.rs 14)] [(14,rI d9),(1000,K1b d7)] (ad (spec_dType_ih _ _ d8) K3b (Q75.args (A1 := [I 1,.sl (Q02 (List.map K0j [a7,d6]))]) (A2 := [I 1,.sl (List.map K0n [a7,d6])]) (by simp only [List.map_nil,K0s]) (Kan _ _ e0)) K3d (ai (Or.inr (Qes Qeo d9) : ([13] : List Nat) = [] ∨ noSh (oI d9) = true) tv)) ?_
 refine rt ?_
 obtain rfl := os h
 exact Qdp.ret (fl := [true]) (by kernel_rfl)
def Kar (c : Ctx) (s0 : K00) (in1 : List Bool) (a0 : Int) : (Unit) ⊕ (Bool) → Exit → Q0a → Prop
 | .inl _ => Qde c (.exit 2) (mkS [(1,sB in1),(2,.ra 1 0),(5,I a0)] [(1,K19 s0)])
 | .inr r => Qdn TIx Tryz.f177 [] (.bool r)
def Kas : Option (List (List Nat)) := rx [[0],[0],[0],[0],[0,1,2,3],[5],[6],[0],[0],[0,7,8],[0,7,8,9],[0,1,2,3,4,7,8,9,10],[0,1,2,3,4,7,8,9,10,11],[0,1,2,3,4,7,8,9,10,11],[0,1,2,3,4,7,8,9,10,11,12,13],[0,1,2,3,4,7,8,9,10,11,12,13,14],[0,1,2,3,4,7,8,9,10,11,12,13,14,15],[17],[18],[19],[19],[19],[19],[19,20,21,22],[24],[25],[19],[19],[19,26,27],[19,26,27,28],[19,20,21,22,23,26,27,28,29],[19,20,21,22,23,26,27,28,29,30],[19,20,21,22,23,26,27,28,29,30],[19,20,21,22,23,26,27,28,29,30,31,32],[19,20,21,22,23,26,27,28,29,30,31,32,33],[19,20,21,22,23,26,27,28,29,30,31,32,33,34],[36],[37],[38],[39],[39],[41],[42],[43],[44],[44],[44],[47],[48],[49],[50],[50],[52],[53],[54],[55],[56]]
def Kat (p : K00 × (List Bool) × Int × Int) : Option ((Unit) ⊕ (Bool)) :=
 match p with
 | (s0,in1,a0,a1) =>
  if (decide (a1 < s0.fSize)) = true then
  ((
  (K8d (s0,a0,a1)) >>= fun a2 =>
  (idx in1 a2) >>= fun a3 =>
  (idx in1 a0) >>= fun a4 =>
  if a4 = true then
  if (a3 == true) = true then
  (K8k (s0,a0,a1)) >>= fun a5 =>
  (idx in1 a5) >>= fun a6 =>
  (idx in1 a0) >>= fun a7 =>
  if a7 = true then
  (idx in1 a1) >>= fun a8 =>
  if (a6 == a8) = true then
  (idx in1 a0) >>= fun a9 =>
  if a9 = true then
  (K8n (s0,a0,a1)) >>= fun b1 =>
  if b1 = true then
  (idx in1 a1) >>= fun b2 =>
  some ((!b2))
  else
  some (false)
  else
  some (false)
  else
  some (true)
  else
  if (a6 == false) = true then
  (idx in1 a0) >>= fun a9 =>
  if a9 = true then
  (K8n (s0,a0,a1)) >>= fun b1 =>
  if b1 = true then
  (idx in1 a1) >>= fun b2 =>
  some ((!b2))
  else
  some (false)
  else
  some (false)
  else
  some (true)
  else
  some (true)
  else
  (idx in1 a1) >>= fun b3 =>
  if (a3 == b3) = true then
  (K8k (s0,a0,a1)) >>= fun a5 =>
  (idx in1 a5) >>= fun a6 =>
  (idx in1 a0) >>= fun a7 =>
  if a7 = true then
  (idx in1 a1) >>= fun a8 =>
  if (a6 == a8) = true then
  (idx in1 a0) >>= fun a9 =>
  if a9 = true then
  (K8n (s0,a0,a1)) >>= fun b1 =>
  if b1 = true then
  (idx in1 a1) >>= fun b2 =>
  some ((!b2))
  else
  some (false)
  else
  some (false)
  else
  some (true)
  else
  if (a6 == false) = true then
  (idx in1 a0) >>= fun a9 =>
  if a9 = true then
  (K8n (s0,a0,a1)) >>= fun b1 =>
  if b1 = true then
  (idx in1 a1) >>= fun b2 =>
  some ((!b2))
  else
  some (false)
  else
  some (false)
  else
  some (true)
  else
  some (true)
  ) : Option (Bool)) >>= fun b4 =>
  if b4 = true then
  some (.inr false)
  else
  Kat (s0,in1,a0,(wr (a1 + 1)))
  else
  some (.inl ())
 partial_fixpoint
def Kau (p : K00 × (List Bool) × Int × Int) (fl : (Unit) ⊕ (Bool)) : Prop :=
 match p with
 | (s0,in1,a0,a1) => ∀ c : Ctx,c.nt = 85 → WpL Tryz.prog c (cl (cl (cr (cl (cl (cr (cl (cl (cr (cl (cr (cr K3e)))))))))))) (Kar c s0 in1 a0 fl) (mkS [(1,sB in1),(2,.ra 1 0),(5,I a0),(6,I a1)] [(1,K19 s0)])
theorem Kav : ∀ p r,Kat p = some r → Kau p r := by
 refine Kat.partial_correctness Kau ?_
 rintro spec_l1View_l0_f spec_l1View_l0_ih ⟨s0,in1,a0,a1⟩ r h
 intro c hc
 refine WpL.step ?_
 refine sN ?_
 refine K6n hc 4 [(1,sB in1),(2,.ra 1 0),(5,I a0),(6,I a1),(25,.bool (decide (a1 < s0.fSize)))] ?_
 refine ic h (fun a2 h => ?_) fun a2 h => ?_
 ·refine sk ?_
  refine sN ?_
  refine bk 3 ?_
  refine sN ?_
  obtain ⟨a3,a4,h⟩ := Qds h
  refine Wp.into (x := .normal) (mkS [(1,sB in1),(2,.ra 1 0),(5,I a0),(6,I a1),(84,.bool a3)] [(1,K19 s0)]) ?_ ?_
  ·replace h := a4
   obtain ⟨a5,a6,a7,a8,a9,b1,h⟩ := bq3 h
   rcases is h with ⟨b2,h⟩ | ⟨b2,h⟩
   ·rcases is h with ⟨b3,h⟩ | ⟨b3,h⟩
    ·obtain ⟨b4,b5,b6,b7,b8,b9,h⟩ := bq3 h
     rcases is h with ⟨c0,h⟩ | ⟨c0,h⟩
     ·obtain ⟨c1,c2,h⟩ := Qds h
      rcases is h with ⟨c3,h⟩ | ⟨c3,h⟩
      ·obtain ⟨c4,c5,h⟩ := Qds h
       rcases is h with ⟨c6,h⟩ | ⟨c6,h⟩
       ·obtain ⟨c7,c8,h⟩ := Qds h
        rcases is h with ⟨c9,h⟩ | ⟨c9,h⟩
        ·obtain ⟨d0,d1,h⟩ := Qds h
         refine rgs hc Kas [oN,oN,oN,oN,oc (I a5),some (.el (.bool a7)),oN,oN,oN,some (.el (.bool a9)),oN,oN,o_,o_,o_,o_,oT,oN,oN,oN,oN,oN,oN,oc (I b4),some (.el (.bool b6)),oN,oN,oN,some (.el (.bool b8)),oN,oN,oN,oN,some (.el (.bool c1)),oN,oT,oN,oF,oN,oN,oN,some (.el (.bool c4)),oN,oN,oN,oN,oN,oc (.bool c7),oT,oN,oN,oN,some (.el (.bool d0)),oN,oN,oT,oF] [(1,sB in1),(2,.ra 1 0),(5,I a0),(6,I a1),(84,.bool (!d0))] (cq (K8f _ _ a6) K2m (ab (Qdw (enc := AV.bool) (x := .bool a7) a8 (Qe9 a7)) (Qdw (enc := AV.bool) (x := .bool a9) b1 (Qe9 a9)) (ar 4 (neF b2) (ai b2 (ar 5 (nF b3) (cq (K8m _ _ b5) K2o (ab (nF b3) (Qdw (enc := AV.bool) (x := .bool b6) b7 (Qe9 b6)) (ar 4 (nF b3) (ai (Qdw (enc := AV.bool) (x := .bool b8) b9 (Qe9 b8)) (ar 2 (nF b3) (ar 3 c0 (ad (Qdw (enc := AV.bool) (x := .bool c1) c2 (Qe9 c1)) c0 (nF b3) c0 (ar 2 (nF b3) (ar 3 (nF c3) (ai (Qdw (enc := AV.bool) (x := .bool c4) c5 (Qe9 c4)) (ar 2 (nF c3) (ar 4 c6 (cq (K8p _ _ c8) K2q (ac (nF c3) c6 (nF c3) (ar 3 c9 (ai (Qdw (enc := AV.bool) (x := .bool d0) d1 (Qe9 d0)) (ar 2 c9 (ac (nF c3) c9 (nF c3) tv))))))))))))))))))))))) ?_
         obtain rfl := os h
         exact Qde.mk
        refine rgs hc Kas [oN,oN,oN,oN,oc (I a5),some (.el (.bool a7)),oN,oN,oN,some (.el (.bool a9)),oN,oN,o_,o_,o_,o_,oT,oN,oN,oN,oN,oN,oN,oc (I b4),some (.el (.bool b6)),oN,oN,oN,some (.el (.bool b8)),oN,oN,oN,oN,some (.el (.bool c1)),oN,oT,oN,oF,oN,oN,oN,some (.el (.bool c4)),oN,oN,oN,oN,oN,oc (.bool c7),oT,oN,o_,o_,o_,o_,o_,oF,oF] [(1,sB in1),(2,.ra 1 0),(5,I a0),(6,I a1),(84,.bool false)] (cq (K8f _ _ a6) K2m (ab (Qdw (enc := AV.bool) (x := .bool a7) a8 (Qe9 a7)) (Qdw (enc := AV.bool) (x := .bool a9) b1 (Qe9 a9)) (ar 4 (neF b2) (ai b2 (ar 5 (nF b3) (cq (K8m _ _ b5) K2o (ab (nF b3) (Qdw (enc := AV.bool) (x := .bool b6) b7 (Qe9 b6)) (ar 4 (nF b3) (ai (Qdw (enc := AV.bool) (x := .bool b8) b9 (Qe9 b8)) (ar 2 (nF b3) (ar 3 c0 (ad (Qdw (enc := AV.bool) (x := .bool c1) c2 (Qe9 c1)) c0 (nF b3) c0 (ar 2 (nF b3) (ar 3 (nF c3) (ai (Qdw (enc := AV.bool) (x := .bool c4) c5 (Qe9 c4)) (ar 2 (nF c3) (ar 4 c6 (cq (K8p _ _ c8) K2q (ac (nF c3) c6 (nF c3) (ar 5 (neT c9) (ac (nF c3) c9 (nF c3) tv))))))))))))))))))))) ?_
        obtain rfl := os h
        exact Qde.mk
       refine rgs hc Kas [oN,oN,oN,oN,oc (I a5),some (.el (.bool a7)),oN,oN,oN,some (.el (.bool a9)),oN,oN,o_,o_,o_,o_,oT,oN,oN,oN,oN,oN,oN,oc (I b4),some (.el (.bool b6)),oN,oN,oN,some (.el (.bool b8)),oN,oN,oN,oN,some (.el (.bool c1)),oN,oT,oN,oF,oN,oN,oN,some (.el (.bool c4)),oN,oN,o_,o_,o_,o_,oF,oN,o_,o_,o_,o_,o_,oF,oF] [(1,sB in1),(2,.ra 1 0),(5,I a0),(6,I a1),(84,.bool false)] (cq (K8f _ _ a6) K2m (ab (Qdw (enc := AV.bool) (x := .bool a7) a8 (Qe9 a7)) (Qdw (enc := AV.bool) (x := .bool a9) b1 (Qe9 a9)) (ar 4 (neF b2) (ai b2 (ar 5 (nF b3) (cq (K8m _ _ b5) K2o (ab (nF b3) (Qdw (enc := AV.bool) (x := .bool b6) b7 (Qe9 b6)) (ar 4 (nF b3) (ai (Qdw (enc := AV.bool) (x := .bool b8) b9 (Qe9 b8)) (ar 2 (nF b3) (ar 3 c0 (ad (Qdw (enc := AV.bool) (x := .bool c1) c2 (Qe9 c1)) c0 (nF b3) c0 (ar 2 (nF b3) (ar 3 (nF c3) (ai (Qdw (enc := AV.bool) (x := .bool c4) c5 (Qe9 c4)) (ar 2 (nF c3) (ar 4 (neT c6) (ac (nF c3) c6 (nF c3) (ar 5 (neT (rfl : false = false)) (ac (nF c3) (rfl : false = false) (nF c3) tv)))))))))))))))))))) ?_
       obtain rfl := os h
       exact Qde.mk
      refine rgs hc Kas [oN,oN,oN,oN,oc (I a5),some (.el (.bool a7)),oN,oN,oN,some (.el (.bool a9)),oN,oN,o_,o_,o_,o_,oT,oN,oN,oN,oN,oN,oN,oc (I b4),some (.el (.bool b6)),oN,oN,oN,some (.el (.bool b8)),oN,oN,oN,oN,some (.el (.bool c1)),oN,oT,oN,oF,oN,o_,o_,o_,o_,o_,o_,o_,o_,o_,o_,o_,o_,o_,o_,o_,o_,o_,oT] [(1,sB in1),(2,.ra 1 0),(5,I a0),(6,I a1),(84,.bool true)] (cq (K8f _ _ a6) K2m (ab (Qdw (enc := AV.bool) (x := .bool a7) a8 (Qe9 a7)) (Qdw (enc := AV.bool) (x := .bool a9) b1 (Qe9 a9)) (ar 4 (neF b2) (ai b2 (ar 5 (nF b3) (cq (K8m _ _ b5) K2o (ab (nF b3) (Qdw (enc := AV.bool) (x := .bool b6) b7 (Qe9 b6)) (ar 4 (nF b3) (ai (Qdw (enc := AV.bool) (x := .bool b8) b9 (Qe9 b8)) (ar 2 (nF b3) (ar 3 c0 (ad (Qdw (enc := AV.bool) (x := .bool c1) c2 (Qe9 c1)) c0 (nF b3) c0 (ar 2 (nF b3) (ar 8 (neF (nT c3)) (ai (nT c3) tv))))))))))))))) ?_
      obtain rfl := os h
      exact Qde.mk
     rcases is h with ⟨c3,h⟩ | ⟨c3,h⟩
     ·obtain ⟨c4,c5,h⟩ := Qds h
      rcases is h with ⟨c6,h⟩ | ⟨c6,h⟩
      ·obtain ⟨c7,c8,h⟩ := Qds h
       rcases is h with ⟨c9,h⟩ | ⟨c9,h⟩
       ·obtain ⟨d0,d1,h⟩ := Qds h
        refine rgs hc Kas [oN,oN,oN,oN,oc (I a5),some (.el (.bool a7)),oN,oN,oN,some (.el (.bool a9)),oN,oN,o_,o_,o_,o_,oT,oN,oN,oN,oN,oN,oN,oc (I b4),some (.el (.bool b6)),oN,oN,oN,some (.el (.bool b8)),oN,oN,o_,o_,o_,o_,oF,oN,oF,oN,oN,oN,some (.el (.bool c4)),oN,oN,oN,oN,oN,oc (.bool c7),oT,oN,oN,oN,some (.el (.bool d0)),oN,oN,oT,oF] [(1,sB in1),(2,.ra 1 0),(5,I a0),(6,I a1),(84,.bool (!d0))] (cq (K8f _ _ a6) K2m (ab (Qdw (enc := AV.bool) (x := .bool a7) a8 (Qe9 a7)) (Qdw (enc := AV.bool) (x := .bool a9) b1 (Qe9 a9)) (ar 4 (neF b2) (ai b2 (ar 5 (nF b3) (cq (K8m _ _ b5) K2o (ab (nF b3) (Qdw (enc := AV.bool) (x := .bool b6) b7 (Qe9 b6)) (ar 4 (nF b3) (ai (Qdw (enc := AV.bool) (x := .bool b8) b9 (Qe9 b8)) (ar 2 (nF b3) (ar 4 (neT c0) (ab (nF b3) c0 (ar 2 (nF b3) (ar 3 (nF c3) (ai (Qdw (enc := AV.bool) (x := .bool c4) c5 (Qe9 c4)) (ar 2 (nF c3) (ar 4 c6 (cq (K8p _ _ c8) K2q (ac (nF c3) c6 (nF c3) (ar 3 c9 (ai (Qdw (enc := AV.bool) (x := .bool d0) d1 (Qe9 d0)) (ar 2 c9 (ac (nF c3) c9 (nF c3) tv))))))))))))))))))))))) ?_
        obtain rfl := os h
        exact Qde.mk
       refine rgs hc Kas [oN,oN,oN,oN,oc (I a5),some (.el (.bool a7)),oN,oN,oN,some (.el (.bool a9)),oN,oN,o_,o_,o_,o_,oT,oN,oN,oN,oN,oN,oN,oc (I b4),some (.el (.bool b6)),oN,oN,oN,some (.el (.bool b8)),oN,oN,o_,o_,o_,o_,oF,oN,oF,oN,oN,oN,some (.el (.bool c4)),oN,oN,oN,oN,oN,oc (.bool c7),oT,oN,o_,o_,o_,o_,o_,oF,oF] [(1,sB in1),(2,.ra 1 0),(5,I a0),(6,I a1),(84,.bool false)] (cq (K8f _ _ a6) K2m (ab (Qdw (enc := AV.bool) (x := .bool a7) a8 (Qe9 a7)) (Qdw (enc := AV.bool) (x := .bool a9) b1 (Qe9 a9)) (ar 4 (neF b2) (ai b2 (ar 5 (nF b3) (cq (K8m _ _ b5) K2o (ab (nF b3) (Qdw (enc := AV.bool) (x := .bool b6) b7 (Qe9 b6)) (ar 4 (nF b3) (ai (Qdw (enc := AV.bool) (x := .bool b8) b9 (Qe9 b8)) (ar 2 (nF b3) (ar 4 (neT c0) (ab (nF b3) c0 (ar 2 (nF b3) (ar 3 (nF c3) (ai (Qdw (enc := AV.bool) (x := .bool c4) c5 (Qe9 c4)) (ar 2 (nF c3) (ar 4 c6 (cq (K8p _ _ c8) K2q (ac (nF c3) c6 (nF c3) (ar 5 (neT c9) (ac (nF c3) c9 (nF c3) tv))))))))))))))))))))) ?_
       obtain rfl := os h
       exact Qde.mk
      refine rgs hc Kas [oN,oN,oN,oN,oc (I a5),some (.el (.bool a7)),oN,oN,oN,some (.el (.bool a9)),oN,oN,o_,o_,o_,o_,oT,oN,oN,oN,oN,oN,oN,oc (I b4),some (.el (.bool b6)),oN,oN,oN,some (.el (.bool b8)),oN,oN,o_,o_,o_,o_,oF,oN,oF,oN,oN,oN,some (.el (.bool c4)),oN,oN,o_,o_,o_,o_,oF,oN,o_,o_,o_,o_,o_,oF,oF] [(1,sB in1),(2,.ra 1 0),(5,I a0),(6,I a1),(84,.bool false)] (cq (K8f _ _ a6) K2m (ab (Qdw (enc := AV.bool) (x := .bool a7) a8 (Qe9 a7)) (Qdw (enc := AV.bool) (x := .bool a9) b1 (Qe9 a9)) (ar 4 (neF b2) (ai b2 (ar 5 (nF b3) (cq (K8m _ _ b5) K2o (ab (nF b3) (Qdw (enc := AV.bool) (x := .bool b6) b7 (Qe9 b6)) (ar 4 (nF b3) (ai (Qdw (enc := AV.bool) (x := .bool b8) b9 (Qe9 b8)) (ar 2 (nF b3) (ar 4 (neT c0) (ab (nF b3) c0 (ar 2 (nF b3) (ar 3 (nF c3) (ai (Qdw (enc := AV.bool) (x := .bool c4) c5 (Qe9 c4)) (ar 2 (nF c3) (ar 4 (neT c6) (ac (nF c3) c6 (nF c3) (ar 5 (neT (rfl : false = false)) (ac (nF c3) (rfl : false = false) (nF c3) tv)))))))))))))))))))) ?_
      obtain rfl := os h
      exact Qde.mk
     refine rgs hc Kas [oN,oN,oN,oN,oc (I a5),some (.el (.bool a7)),oN,oN,oN,some (.el (.bool a9)),oN,oN,o_,o_,o_,o_,oT,oN,oN,oN,oN,oN,oN,oc (I b4),some (.el (.bool b6)),oN,oN,oN,some (.el (.bool b8)),oN,oN,o_,o_,o_,o_,oF,oN,oF,oN,o_,o_,o_,o_,o_,o_,o_,o_,o_,o_,o_,o_,o_,o_,o_,o_,o_,oT] [(1,sB in1),(2,.ra 1 0),(5,I a0),(6,I a1),(84,.bool true)] (cq (K8f _ _ a6) K2m (ab (Qdw (enc := AV.bool) (x := .bool a7) a8 (Qe9 a7)) (Qdw (enc := AV.bool) (x := .bool a9) b1 (Qe9 a9)) (ar 4 (neF b2) (ai b2 (ar 5 (nF b3) (cq (K8m _ _ b5) K2o (ab (nF b3) (Qdw (enc := AV.bool) (x := .bool b6) b7 (Qe9 b6)) (ar 4 (nF b3) (ai (Qdw (enc := AV.bool) (x := .bool b8) b9 (Qe9 b8)) (ar 2 (nF b3) (ar 4 (neT c0) (ab (nF b3) c0 (ar 2 (nF b3) (ar 8 (neF (nT c3)) (ai (nT c3) tv))))))))))))))) ?_
     obtain rfl := os h
     exact Qde.mk
    refine rgs hc Kas [oN,oN,oN,oN,oc (I a5),some (.el (.bool a7)),oN,oN,oN,some (.el (.bool a9)),oN,oN,o_,o_,o_,o_,oT,oN,oN,o_,o_,o_,o_,o_,o_,o_,o_,o_,o_,o_,o_,o_,o_,o_,o_,o_,o_,oT,oN,o_,o_,o_,o_,o_,o_,o_,o_,o_,o_,o_,o_,o_,o_,o_,o_,o_,oT] [(1,sB in1),(2,.ra 1 0),(5,I a0),(6,I a1),(84,.bool true)] (cq (K8f _ _ a6) K2m (ab (Qdw (enc := AV.bool) (x := .bool a7) a8 (Qe9 a7)) (Qdw (enc := AV.bool) (x := .bool a9) b1 (Qe9 a9)) (ar 4 (neF b2) (ai b2 (ar 14 (neF (nT b3)) (ai (nT b3) (ar 8 nf (ai tt tv)))))))) ?_
    obtain rfl := os h
    exact Qde.mk
   obtain ⟨d2,d3,h⟩ := Qds h
   rcases is h with ⟨b3,h⟩ | ⟨b3,h⟩
   ·obtain ⟨b4,b5,b6,b7,b8,b9,h⟩ := bq3 h
    rcases is h with ⟨c0,h⟩ | ⟨c0,h⟩
    ·obtain ⟨c1,c2,h⟩ := Qds h
     rcases is h with ⟨c3,h⟩ | ⟨c3,h⟩
     ·obtain ⟨c4,c5,h⟩ := Qds h
      rcases is h with ⟨c6,h⟩ | ⟨c6,h⟩
      ·obtain ⟨c7,c8,h⟩ := Qds h
       rcases is h with ⟨c9,h⟩ | ⟨c9,h⟩
       ·obtain ⟨d0,d1,h⟩ := Qds h
        refine rgs hc Kas [oN,oN,oN,oN,oc (I a5),some (.el (.bool a7)),oN,oN,oN,some (.el (.bool a9)),oN,oN,oN,oN,some (.el (.bool d2)),oN,oF,oN,oN,oN,oN,oN,oN,oc (I b4),some (.el (.bool b6)),oN,oN,oN,some (.el (.bool b8)),oN,oN,oN,oN,some (.el (.bool c1)),oN,oT,oN,oF,oN,oN,oN,some (.el (.bool c4)),oN,oN,oN,oN,oN,oc (.bool c7),oT,oN,oN,oN,some (.el (.bool d0)),oN,oN,oT,oF] [(1,sB in1),(2,.ra 1 0),(5,I a0),(6,I a1),(84,.bool (!d0))] (cq (K8f _ _ a6) K2m (ab (Qdw (enc := AV.bool) (x := .bool a7) a8 (Qe9 a7)) (Qdw (enc := AV.bool) (x := .bool a9) b1 (Qe9 a9)) (ar 3 b2 (ai (Qdw (enc := AV.bool) (x := .bool d2) d3 (Qe9 d2)) (ar 2 b2 (ar 5 (nF b3) (cq (K8m _ _ b5) K2o (ab (nF b3) (Qdw (enc := AV.bool) (x := .bool b6) b7 (Qe9 b6)) (ar 4 (nF b3) (ai (Qdw (enc := AV.bool) (x := .bool b8) b9 (Qe9 b8)) (ar 2 (nF b3) (ar 3 c0 (ad (Qdw (enc := AV.bool) (x := .bool c1) c2 (Qe9 c1)) c0 (nF b3) c0 (ar 2 (nF b3) (ar 3 (nF c3) (ai (Qdw (enc := AV.bool) (x := .bool c4) c5 (Qe9 c4)) (ar 2 (nF c3) (ar 4 c6 (cq (K8p _ _ c8) K2q (ac (nF c3) c6 (nF c3) (ar 3 c9 (ai (Qdw (enc := AV.bool) (x := .bool d0) d1 (Qe9 d0)) (ar 2 c9 (ac (nF c3) c9 (nF c3) tv)))))))))))))))))))))))) ?_
        obtain rfl := os h
        exact Qde.mk
       refine rgs hc Kas [oN,oN,oN,oN,oc (I a5),some (.el (.bool a7)),oN,oN,oN,some (.el (.bool a9)),oN,oN,oN,oN,some (.el (.bool d2)),oN,oF,oN,oN,oN,oN,oN,oN,oc (I b4),some (.el (.bool b6)),oN,oN,oN,some (.el (.bool b8)),oN,oN,oN,oN,some (.el (.bool c1)),oN,oT,oN,oF,oN,oN,oN,some (.el (.bool c4)),oN,oN,oN,oN,oN,oc (.bool c7),oT,oN,o_,o_,o_,o_,o_,oF,oF] [(1,sB in1),(2,.ra 1 0),(5,I a0),(6,I a1),(84,.bool false)] (cq (K8f _ _ a6) K2m (ab (Qdw (enc := AV.bool) (x := .bool a7) a8 (Qe9 a7)) (Qdw (enc := AV.bool) (x := .bool a9) b1 (Qe9 a9)) (ar 3 b2 (ai (Qdw (enc := AV.bool) (x := .bool d2) d3 (Qe9 d2)) (ar 2 b2 (ar 5 (nF b3) (cq (K8m _ _ b5) K2o (ab (nF b3) (Qdw (enc := AV.bool) (x := .bool b6) b7 (Qe9 b6)) (ar 4 (nF b3) (ai (Qdw (enc := AV.bool) (x := .bool b8) b9 (Qe9 b8)) (ar 2 (nF b3) (ar 3 c0 (ad (Qdw (enc := AV.bool) (x := .bool c1) c2 (Qe9 c1)) c0 (nF b3) c0 (ar 2 (nF b3) (ar 3 (nF c3) (ai (Qdw (enc := AV.bool) (x := .bool c4) c5 (Qe9 c4)) (ar 2 (nF c3) (ar 4 c6 (cq (K8p _ _ c8) K2q (ac (nF c3) c6 (nF c3) (ar 5 (neT c9) (ac (nF c3) c9 (nF c3) tv)))))))))))))))))))))) ?_
       obtain rfl := os h
       exact Qde.mk
      refine rgs hc Kas [oN,oN,oN,oN,oc (I a5),some (.el (.bool a7)),oN,oN,oN,some (.el (.bool a9)),oN,oN,oN,oN,some (.el (.bool d2)),oN,oF,oN,oN,oN,oN,oN,oN,oc (I b4),some (.el (.bool b6)),oN,oN,oN,some (.el (.bool b8)),oN,oN,oN,oN,some (.el (.bool c1)),oN,oT,oN,oF,oN,oN,oN,some (.el (.bool c4)),oN,oN,o_,o_,o_,o_,oF,oN,o_,o_,o_,o_,o_,oF,oF] [(1,sB in1),(2,.ra 1 0),(5,I a0),(6,I a1),(84,.bool false)] (cq (K8f _ _ a6) K2m (ab (Qdw (enc := AV.bool) (x := .bool a7) a8 (Qe9 a7)) (Qdw (enc := AV.bool) (x := .bool a9) b1 (Qe9 a9)) (ar 3 b2 (ai (Qdw (enc := AV.bool) (x := .bool d2) d3 (Qe9 d2)) (ar 2 b2 (ar 5 (nF b3) (cq (K8m _ _ b5) K2o (ab (nF b3) (Qdw (enc := AV.bool) (x := .bool b6) b7 (Qe9 b6)) (ar 4 (nF b3) (ai (Qdw (enc := AV.bool) (x := .bool b8) b9 (Qe9 b8)) (ar 2 (nF b3) (ar 3 c0 (ad (Qdw (enc := AV.bool) (x := .bool c1) c2 (Qe9 c1)) c0 (nF b3) c0 (ar 2 (nF b3) (ar 3 (nF c3) (ai (Qdw (enc := AV.bool) (x := .bool c4) c5 (Qe9 c4)) (ar 2 (nF c3) (ar 4 (neT c6) (ac (nF c3) c6 (nF c3) (ar 5 (neT (rfl : false = false)) (ac (nF c3) (rfl : false = false) (nF c3) tv))))))))))))))))))))) ?_
      obtain rfl := os h
      exact Qde.mk
     refine rgs hc Kas [oN,oN,oN,oN,oc (I a5),some (.el (.bool a7)),oN,oN,oN,some (.el (.bool a9)),oN,oN,oN,oN,some (.el (.bool d2)),oN,oF,oN,oN,oN,oN,oN,oN,oc (I b4),some (.el (.bool b6)),oN,oN,oN,some (.el (.bool b8)),oN,oN,oN,oN,some (.el (.bool c1)),oN,oT,oN,oF,oN,o_,o_,o_,o_,o_,o_,o_,o_,o_,o_,o_,o_,o_,o_,o_,o_,o_,oT] [(1,sB in1),(2,.ra 1 0),(5,I a0),(6,I a1),(84,.bool true)] (cq (K8f _ _ a6) K2m (ab (Qdw (enc := AV.bool) (x := .bool a7) a8 (Qe9 a7)) (Qdw (enc := AV.bool) (x := .bool a9) b1 (Qe9 a9)) (ar 3 b2 (ai (Qdw (enc := AV.bool) (x := .bool d2) d3 (Qe9 d2)) (ar 2 b2 (ar 5 (nF b3) (cq (K8m _ _ b5) K2o (ab (nF b3) (Qdw (enc := AV.bool) (x := .bool b6) b7 (Qe9 b6)) (ar 4 (nF b3) (ai (Qdw (enc := AV.bool) (x := .bool b8) b9 (Qe9 b8)) (ar 2 (nF b3) (ar 3 c0 (ad (Qdw (enc := AV.bool) (x := .bool c1) c2 (Qe9 c1)) c0 (nF b3) c0 (ar 2 (nF b3) (ar 8 (neF (nT c3)) (ai (nT c3) tv)))))))))))))))) ?_
     obtain rfl := os h
     exact Qde.mk
    rcases is h with ⟨c3,h⟩ | ⟨c3,h⟩
    ·obtain ⟨c4,c5,h⟩ := Qds h
     rcases is h with ⟨c6,h⟩ | ⟨c6,h⟩
     ·obtain ⟨c7,c8,h⟩ := Qds h
      rcases is h with ⟨c9,h⟩ | ⟨c9,h⟩
      ·obtain ⟨d0,d1,h⟩ := Qds h
       refine rgs hc Kas [oN,oN,oN,oN,oc (I a5),some (.el (.bool a7)),oN,oN,oN,some (.el (.bool a9)),oN,oN,oN,oN,some (.el (.bool d2)),oN,oF,oN,oN,oN,oN,oN,oN,oc (I b4),some (.el (.bool b6)),oN,oN,oN,some (.el (.bool b8)),oN,oN,o_,o_,o_,o_,oF,oN,oF,oN,oN,oN,some (.el (.bool c4)),oN,oN,oN,oN,oN,oc (.bool c7),oT,oN,oN,oN,some (.el (.bool d0)),oN,oN,oT,oF] [(1,sB in1),(2,.ra 1 0),(5,I a0),(6,I a1),(84,.bool (!d0))] (cq (K8f _ _ a6) K2m (ab (Qdw (enc := AV.bool) (x := .bool a7) a8 (Qe9 a7)) (Qdw (enc := AV.bool) (x := .bool a9) b1 (Qe9 a9)) (ar 3 b2 (ai (Qdw (enc := AV.bool) (x := .bool d2) d3 (Qe9 d2)) (ar 2 b2 (ar 5 (nF b3) (cq (K8m _ _ b5) K2o (ab (nF b3) (Qdw (enc := AV.bool) (x := .bool b6) b7 (Qe9 b6)) (ar 4 (nF b3) (ai (Qdw (enc := AV.bool) (x := .bool b8) b9 (Qe9 b8)) (ar 2 (nF b3) (ar 4 (neT c0) (ab (nF b3) c0 (ar 2 (nF b3) (ar 3 (nF c3) (ai (Qdw (enc := AV.bool) (x := .bool c4) c5 (Qe9 c4)) (ar 2 (nF c3) (ar 4 c6 (cq (K8p _ _ c8) K2q (ac (nF c3) c6 (nF c3) (ar 3 c9 (ai (Qdw (enc := AV.bool) (x := .bool d0) d1 (Qe9 d0)) (ar 2 c9 (ac (nF c3) c9 (nF c3) tv)))))))))))))))))))))))) ?_
       obtain rfl := os h
       exact Qde.mk
      refine rgs hc Kas [oN,oN,oN,oN,oc (I a5),some (.el (.bool a7)),oN,oN,oN,some (.el (.bool a9)),oN,oN,oN,oN,some (.el (.bool d2)),oN,oF,oN,oN,oN,oN,oN,oN,oc (I b4),some (.el (.bool b6)),oN,oN,oN,some (.el (.bool b8)),oN,oN,o_,o_,o_,o_,oF,oN,oF,oN,oN,oN,some (.el (.bool c4)),oN,oN,oN,oN,oN,oc (.bool c7),oT,oN,o_,o_,o_,o_,o_,oF,oF] [(1,sB in1),(2,.ra 1 0),(5,I a0),(6,I a1),(84,.bool false)] (cq (K8f _ _ a6) K2m (ab (Qdw (enc := AV.bool) (x := .bool a7) a8 (Qe9 a7)) (Qdw (enc := AV.bool) (x := .bool a9) b1 (Qe9 a9)) (ar 3 b2 (ai (Qdw (enc := AV.bool) (x := .bool d2) d3 (Qe9 d2)) (ar 2 b2 (ar 5 (nF b3) (cq (K8m _ _ b5) K2o (ab (nF b3) (Qdw (enc := AV.bool) (x := .bool b6) b7 (Qe9 b6)) (ar 4 (nF b3) (ai (Qdw (enc := AV.bool) (x := .bool b8) b9 (Qe9 b8)) (ar 2 (nF b3) (ar 4 (neT c0) (ab (nF b3) c0 (ar 2 (nF b3) (ar 3 (nF c3) (ai (Qdw (enc := AV.bool) (x := .bool c4) c5 (Qe9 c4)) (ar 2 (nF c3) (ar 4 c6 (cq (K8p _ _ c8) K2q (ac (nF c3) c6 (nF c3) (ar 5 (neT c9) (ac (nF c3) c9 (nF c3) tv)))))))))))))))))))))) ?_
      obtain rfl := os h
      exact Qde.mk
     refine rgs hc Kas [oN,oN,oN,oN,oc (I a5),some (.el (.bool a7)),oN,oN,oN,some (.el (.bool a9)),oN,oN,oN,oN,some (.el (.bool d2)),oN,oF,oN,oN,oN,oN,oN,oN,oc (I b4),some (.el (.bool b6)),oN,oN,oN,some (.el (.bool b8)),oN,oN,o_,o_,o_,o_,oF,oN,oF,oN,oN,oN,some (.el (.bool c4)),oN,oN,o_,o_,o_,o_,oF,oN,o_,o_,o_,o_,o_,oF,oF] [(1,sB in1),(2,.ra 1 0),(5,I a0),(6,I a1),(84,.bool false)] (cq (K8f _ _ a6) K2m (ab (Qdw (enc := AV.bool) (x := .bool a7) a8 (Qe9 a7)) (Qdw (enc := AV.bool) (x := .bool a9) b1 (Qe9 a9)) (ar 3 b2 (ai (Qdw (enc := AV.bool) (x := .bool d2) d3 (Qe9 d2)) (ar 2 b2 (ar 5 (nF b3) (cq (K8m _ _ b5) K2o (ab (nF b3) (Qdw (enc := AV.bool) (x := .bool b6) b7 (Qe9 b6)) (ar 4 (nF b3) (ai (Qdw (enc := AV.bool) (x := .bool b8) b9 (Qe9 b8)) (ar 2 (nF b3) (ar 4 (neT c0) (ab (nF b3) c0 (ar 2 (nF b3) (ar 3 (nF c3) (ai (Qdw (enc := AV.bool) (x := .bool c4) c5 (Qe9 c4)) (ar 2 (nF c3) (ar 4 (neT c6) (ac (nF c3) c6 (nF c3) (ar 5 (neT (rfl : false = false)) (ac (nF c3) (rfl : false = false) (nF c3) tv))))))))))))))))))))) ?_
     obtain rfl := os h
     exact Qde.mk
    refine rgs hc Kas [oN,oN,oN,oN,oc (I a5),some (.el (.bool a7)),oN,oN,oN,some (.el (.bool a9)),oN,oN,oN,oN,some (.el (.bool d2)),oN,oF,oN,oN,oN,oN,oN,oN,oc (I b4),some (.el (.bool b6)),oN,oN,oN,some (.el (.bool b8)),oN,oN,o_,o_,o_,o_,oF,oN,oF,oN,o_,o_,o_,o_,o_,o_,o_,o_,o_,o_,o_,o_,o_,o_,o_,o_,o_,oT] [(1,sB in1),(2,.ra 1 0),(5,I a0),(6,I a1),(84,.bool true)] (cq (K8f _ _ a6) K2m (ab (Qdw (enc := AV.bool) (x := .bool a7) a8 (Qe9 a7)) (Qdw (enc := AV.bool) (x := .bool a9) b1 (Qe9 a9)) (ar 3 b2 (ai (Qdw (enc := AV.bool) (x := .bool d2) d3 (Qe9 d2)) (ar 2 b2 (ar 5 (nF b3) (cq (K8m _ _ b5) K2o (ab (nF b3) (Qdw (enc := AV.bool) (x := .bool b6) b7 (Qe9 b6)) (ar 4 (nF b3) (ai (Qdw (enc := AV.bool) (x := .bool b8) b9 (Qe9 b8)) (ar 2 (nF b3) (ar 4 (neT c0) (ab (nF b3) c0 (ar 2 (nF b3) (ar 8 (neF (nT c3)) (ai (nT c3) tv)))))))))))))))) ?_
    obtain rfl := os h
    exact Qde.mk
   refine rgs hc Kas [oN,oN,oN,oN,oc (I a5),some (.el (.bool a7)),oN,oN,oN,some (.el (.bool a9)),oN,oN,oN,oN,some (.el (.bool d2)),oN,oF,oN,oN,o_,o_,o_,o_,o_,o_,o_,o_,o_,o_,o_,o_,o_,o_,o_,o_,o_,o_,oT,oN,o_,o_,o_,o_,o_,o_,o_,o_,o_,o_,o_,o_,o_,o_,o_,o_,o_,oT] [(1,sB in1),(2,.ra 1 0),(5,I a0),(6,I a1),(84,.bool true)] (cq (K8f _ _ a6) K2m (ab (Qdw (enc := AV.bool) (x := .bool a7) a8 (Qe9 a7)) (Qdw (enc := AV.bool) (x := .bool a9) b1 (Qe9 a9)) (ar 3 b2 (ai (Qdw (enc := AV.bool) (x := .bool d2) d3 (Qe9 d2)) (ar 2 b2 (ar 14 (neF (nT b3)) (ai (nT b3) (ar 8 nf (ai tt tv))))))))) ?_
   obtain rfl := os h
   exact Qde.mk
  clear a4
  refine ic h (fun d4 h => ?_) fun d4 h => ?_
  ·refine rs0 hc 1 [(4,.bool false)] [] ?_
   refine rt ?_
   obtain rfl := os h
   exact re [true]
  refine sk ?_
  refine K6m hc 3 [(1,sB in1),(2,.ra 1 0),(5,I a0),(6,I (wr (a1 + 1)))] ?_
  refine Qda ?_
  exact (spec_l1View_l0_ih _ _ h c hc)
 refine xt 2 ?_
 refine Qd4 ?_
 refine Qdb ?_
 obtain rfl := os h
 exact iv []
end Go.Am
