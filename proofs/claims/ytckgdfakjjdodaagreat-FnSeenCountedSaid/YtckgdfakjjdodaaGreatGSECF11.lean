/- Walks, printed. -/
import Derived.Test.YtckgdfakjjdodaaGreatGSECF8
set_option linter.unusedVariables false
set_option linter.unusedSimpArgs false
set_option maxRecDepth 100000
namespace Go.Am
open Go Go.Proofs
def Kia (p : (List Int) × Int × Int) : Option ((Unit) ⊕ (Bool)) :=
 match p with
 | (l0,n1,a0) =>
  if (decide (a0 < (l0.length : Int))) = true then
  (idx l0 a0) >>= fun a1 =>
  if (a1 == n1) = true then
  some (.inr true)
  else
  Kia (l0,n1,(wr (a0 + 1)))
  else
  some (.inl ())
 partial_fixpoint
def Kib (p : (List Int) × Int × Int) (fl : (Unit) ⊕ (Bool)) : Prop :=
 match p with
 | (l0,n1,a0) => ∀ c : Ctx,c.nt = 18 → WpL Tryz.prog c (cl (cl (cr (cl (cr K5r))))) (Ki9 c fl) (mkS [(0,sI l0),(1,I n1),(5,I a0)] [])
theorem Kic : ∀ p r,Kia p = some r → Kib p r := by
 refine Kia.partial_correctness Kib ?_
 rintro spec_l1Has_l0_f spec_l1Has_l0_ih ⟨l0,n1,a0⟩ r h
 intro c hc
 refine WpL.step ?_
 refine sN ?_
 refine rs hc none [oN,oN,some (.eqv (.no) ⟨[(8,I (l0.length : Int))],[],[]⟩),oN] [(0,sI l0),(1,I n1),(5,I a0),(9,.bool (decide (a0 < (l0.length : Int))))] [] (ai (Qdy (d := 8) I l0) tv) ?_
 refine ic h (fun a1 h => ?_) fun a1 h => ?_
 ·refine sk ?_
  refine sN ?_
  refine bk 1 ?_
  obtain ⟨a2,a3,h⟩ := Qds h
  refine rs hc none [oN,oN,some (.el (I a2)),oN,oN,oN] [(0,sI l0),(1,I n1),(5,I a0),(17,.bool (a2 == n1))] [] (ai (ix a3) tv) ?_
  refine ic h (fun a4 h => ?_) fun a4 h => ?_
  ·refine rs0 hc 1 [(4,.bool true)] [] ?_
   refine rt ?_
   obtain rfl := os h
   exact re [true]
  refine sk ?_
  refine rg0 hc 3 [(0,sI l0),(1,I n1),(5,I (wr (a0 + 1)))] [] ?_
  refine Qda ?_
  exact (spec_l1Has_l0_ih _ _ h c hc)
 refine xt 0 ?_
 refine Qd4 ?_
 refine Qdb ?_
 obtain rfl := os h
 exact iv []
def Kid (p : (List Int) × Int) : Option (Bool) :=
 match p with
 | (l0,n1) =>
  (Kia (l0,n1,0)) >>= fun fl => match fl with
  | .inl () =>
   some false
  | .inr r =>
   some r
def Kie (p : (List Int) × Int) (r : Bool) : Prop :=
 match p with
 | (l0,n1) => Q75 Tryz.prog 179 [sI l0,I n1] (.bool r) []
theorem Kif : ∀ p r,Kid p = some r → Kie p r := by
 rintro ⟨l0,n1⟩ r h
 unfold Kid at h
 refine b0 Tryz.f179 K5r 18 [(0,sI l0),(1,I n1)] fun c hc => ?_
 refine rs0 hc 1 [(0,sI l0),(1,I n1)] [] ?_
 refine sN ?_
 refine rs0 hc 1 [(0,sI l0),(1,I n1),(5,I 0)] [] ?_
 refine bk 0 ?_
 obtain ⟨fl,a0,h⟩ := Qds h
 have hL := Kic _ _ a0 c hc
 refine lp ?_
 rcases fl with ⟨⟩ | r
 ·refine WpL.into (e := (.exit 0)) (mkS [] []) hL ?_
  refine Qd6 ?_
  refine rs0 hc 1 [(4,.bool false)] [] ?_
  refine rt ?_
  obtain rfl := os h
  exact rq [true]
 refine WpL.mono hL ?_
 rintro _ _ ⟨rfl,hfin⟩
 obtain rfl := os h
 exact ⟨.inl rfl,hfin⟩
def Kig (p : (List Int) × (List Int)) : Option (Int) :=
 match p with
 | (view0,ty1) =>
  (idx ty1 0) >>= fun a0 =>
  if (a0 == 0) = true then
  some 3
  else
  if (a0 == 1) = true then
  (Ki0 (ty1,0)) >>= fun a1 =>
  (Kig (view0,a1)) >>= fun a2 =>
  (Ki0 (ty1,1)) >>= fun a3 =>
  (Kig (view0,a3)) >>= fun a4 =>
  some (wr (a2 * a4))
  else
  if (a0 == 2) = true then
  (Ki0 (ty1,0)) >>= fun a5 =>
  (Kig (view0,a5)) >>= fun a6 =>
  (Ki0 (ty1,1)) >>= fun a7 =>
  (Kig (view0,a7)) >>= fun a8 =>
  some (wr (a6 + a8))
  else
  (Khc a0) >>= fun a9 =>
  (Kid (view0,a9)) >>= fun b1 =>
  if b1 = true then
  (Ki0 (ty1,0)) >>= fun b2 =>
  (Kig (view0,b2)) >>= fun b3 =>
  some b3
  else
  some 1
 partial_fixpoint
def Kih (p : (List Int) × (List Int)) (r : Int) : Prop :=
 match p with
 | (view0,ty1) => Q75 Tryz.prog 94 [sI view0,sI ty1] (I r) []
theorem Kii : ∀ p r,Kig p = some r → Kih p r := by
 refine Kig.partial_correctness Kih ?_
 rintro spec_l7Seen_f spec_l7Seen_ih ⟨view0,ty1⟩ r h
 refine b0 Tryz.f94 B94 45 [(0,sI view0),(1,sI ty1)] fun c hc => ?_
 refine rs0 hc 1 [(0,sI view0),(1,sI ty1)] [] ?_
 obtain ⟨a0,a1,h⟩ := Qds h
 refine rs hc none [oN,some (.el (I a0)),oN,oN] [(0,sI view0),(1,sI ty1),(5,I a0)] [] (ai (ix a1) tv) ?_
 refine sN ?_
 refine bk 0 ?_
 refine rs0 hc 3 [(0,sI view0),(1,sI ty1),(5,I a0),(9,.bool (a0 == 0))] [] ?_
 refine ic h (fun a2 h => ?_) fun a2 h => ?_
 ·refine rs0 hc 1 [(4,I 3)] [] ?_
  refine rt ?_
  obtain rfl := os h
  exact rq [true]
 refine rs0 hc 3 [(0,sI view0),(1,sI ty1),(5,I a0),(12,.bool (a0 == 1))] [] ?_
 refine ic h (fun a3 h => ?_) fun a3 h => ?_
 ·obtain ⟨a4,a5,a6,a7,a8,a9,b1,b2,h⟩ := bq4 h
  refine rs hc none [oN,oN,oc (oI a4),oc (I a6),oN,oN,some (.call (oI a8) [] 2),oc (I b1),oN,oN] [(4,I (wr (a6 * b1)))] [] (cq (Ki2 _ _ a5) K5m (ac (Q75.args (A1 := [sI view0,.sl (Q02 (List.map I a4))]) (A2 := [sI view0,sI a4]) (by simp only [List.map_nil,Qek]) (spec_l7Seen_ih _ _ a7)) K5q (Or.inr rfl : ([1] : List Nat) = [] ∨ noSh (I a6) = true) (cq (Ki2 _ _ a9) K5m (ac (Q75.args (A1 := [sI view0,.sl (Q02 (List.map I a8))]) (A2 := [sI view0,sI a8]) (by simp only [List.map_nil,Qek]) (spec_l7Seen_ih _ _ b2)) K5q (Or.inr rfl : ([2] : List Nat) = [] ∨ noSh (I b1) = true) tv)))) ?_
  refine rt ?_
  obtain rfl := os h
  exact rq [true]
 refine rs0 hc 3 [(0,sI view0),(1,sI ty1),(5,I a0),(24,.bool (a0 == 2))] [] ?_
 refine ic h (fun b3 h => ?_) fun b3 h => ?_
 ·obtain ⟨b4,b5,b6,b7,b8,b9,c0,c1,h⟩ := bq4 h
  refine rs hc none [oN,oN,some (.call (oI b4) [] 3),oc (I b6),oN,oN,some (.call (oI b8) [] 4),oc (I c0),oN,oN] [(4,I (wr (b6 + c0)))] [] (cq (Ki2 _ _ b5) K5m (ac (Q75.args (A1 := [sI view0,.sl (Q02 (List.map I b4))]) (A2 := [sI view0,sI b4]) (by simp only [List.map_nil,Qek]) (spec_l7Seen_ih _ _ b7)) K5q (Or.inr rfl : ([3] : List Nat) = [] ∨ noSh (I b6) = true) (cq (Ki2 _ _ b9) K5m (ac (Q75.args (A1 := [sI view0,.sl (Q02 (List.map I b8))]) (A2 := [sI view0,sI b8]) (by simp only [List.map_nil,Qek]) (spec_l7Seen_ih _ _ c1)) K5q (Or.inr rfl : ([4] : List Nat) = [] ∨ noSh (I c0) = true) tv)))) ?_
  refine rt ?_
  obtain rfl := os h
  exact rq [true]
 obtain ⟨c2,c3,c4,c5,h⟩ := bq2 h
 refine rs hc none [oN,oN,oc (I c2),oc (.bool c4),oN] [(0,sI view0),(1,sI ty1),(36,.bool c4)] [] (cq (Khe _ _ c3) K5e (cq (Kif _ _ c5) K5s tv)) ?_
 refine ic h (fun c6 h => ?_) fun c6 h => ?_
 ·obtain ⟨c7,c8,c9,d0,h⟩ := bq2 h
  refine rs hc none [oN,oN,some (.call (oI c7) [] 5),oc (I c9),oN] [(4,I c9)] [] (cq (Ki2 _ _ c8) K5m (ac (Q75.args (A1 := [sI view0,.sl (Q02 (List.map I c7))]) (A2 := [sI view0,sI c7]) (by simp only [List.map_nil,Qek]) (spec_l7Seen_ih _ _ d0)) K5q (Or.inr rfl : ([5] : List Nat) = [] ∨ noSh (I c9) = true) tv)) ?_
  refine rt ?_
  obtain rfl := os h
  exact rq [true]
 refine sk ?_
 refine rs0 hc 1 [(4,I 1)] [] ?_
 refine rt ?_
 obtain rfl := os h
 exact rq [true]
def Kij (p : K00 × (List Int) × (List Int)) : Option (Int) :=
 match p with
 | (s0,view1,ty2) =>
  ((
  (Kgq (s0,view1)) >>= fun a0 =>
  if a0 = true then
  (Ki6 (s0,ty2)) >>= fun a1 =>
  some ((decide (a1 < 0)))
  else
  some (true)
  ) : Option (Bool)) >>= fun a2 =>
  if a2 = true then
  some (-1)
  else
  (Kig (view1,ty2)) >>= fun a3 =>
  some a3
def Kik (p : K00 × (List Int) × (List Int)) (r : Int) : Prop :=
 match p with
 | (s0,view1,ty2) => Q75 Tryz.prog 28 [K1a s0,sI view1,sI ty2] (I r) []
theorem Kil : ∀ p r,Kij p = some r → Kik p r := by
 rintro ⟨s0,view1,ty2⟩ r h
 unfold Kij at h
 refine b0 Tryz.f28 B28 20 [(0,K1a s0),(1,sI view1),(2,sI ty2)] fun c hc => ?_
 refine rs hc none [some (.new 1),oN] [(1,sI view1),(2,sI ty2),(3,.ra 1 0)] [(1,K19 s0)] tv ?_
 refine sN ?_
 refine sN ?_
 obtain ⟨a0,a1,h⟩ := Qds h
 refine Wp.into (x := .normal) (mkS [(1,sI view1),(2,sI ty2),(16,.bool a0)] []) ?_ ?_
 ·replace h := a1
  obtain ⟨a2,a3,h⟩ := Qds h
  rcases is h with ⟨a4,h⟩ | ⟨a4,h⟩
  ·obtain ⟨a5,a6,h⟩ := Qds h
   refine rg hc none [oN,oN,oc (.bool a2),oN,oN,oN,oN,oc (I a5),oN,oF] [(1,sI view1),(2,sI ty2),(16,.bool (decide (a5 < 0)))] [] (cq (Kgs _ _ a3) K53 (ar 3 (nF a4) (cq (Ki8 _ _ a6) K5p (ar 2 (nF a4) tv)))) ?_
   obtain rfl := os h
   exact Qde.mk
  refine rg hc none [oN,oN,oc (.bool a2),oN,oN,o_,o_,o_,o_,oT] [(1,sI view1),(2,sI ty2),(16,.bool true)] [] (cq (Kgs _ _ a3) K53 (ar 4 (neF (nT a4)) (ai (nT a4) tv))) ?_
  obtain rfl := os h
  exact Qde.mk
 clear a1
 refine ic h (fun a7 h => ?_) fun a7 h => ?_
 ·refine rs0 hc 1 [(6,I (-1))] [] ?_
  refine rt ?_
  obtain rfl := os h
  exact rq [true]
 refine sk ?_
 obtain ⟨a8,a9,h⟩ := Qds h
 refine rs hc none [oN,oN,oc (I a8),oN] [(6,I a8)] [] (cq (Kii _ _ a9) K5q tv) ?_
 refine rt ?_
 obtain rfl := os h
 exact rq [true]
def Kim (s0 : (List Int)) : Option ((List Int)) :=
 (Qe5 (([] : List Int).length + s0.length) 8) >>= fun _ =>
 some s0
def Kin (s0 : (List Int)) (r : (List Int)) : Prop :=
 Q75 Tryz.prog 88 [sI s0] (oI r) []
theorem Kio : ∀ p r,Kim p = some r → Kin p r := by
 rintro s0 r h
 unfold Kim at h
 refine b0 Tryz.f88 B88 8 [(0,sI s0)] fun c hc => ?_
 refine rs0 hc 1 [(0,sI s0)] [] ?_
 refine sN ?_
 refine rs0 hc 2 [(0,sI s0),(4,.nilq (List.map I s0))] [] ?_
 refine Wp.condNil (xs := List.map I s0) (by kernel_rfl) (by kernel_rfl) (fun hn => ?_) ?_
 ·replace hn := List.map_eq_nil_iff.1 hn
  replace h : (some []) = some r := by rw [hn] at h; simpa [Qe5,chk] using h
  refine rs0 hc 1 [(2,.nils)] [] ?_
  refine rt ?_
  obtain rfl := os h
  exact rq [true]
 refine sk ?_
 obtain ⟨_,a0,h⟩ := Qds h
 refine rs hc none [some (.mk 1 true),oN,some (.eqv (.mk 2 true) ⟨[(7,.rs 2)],[(2,some (rI s0)),(1,none)],[2]⟩),oN] [(2,.rs 2)] [(2,rI s0)] (ab (congrArg (fun z => (⟨[(7,.rs 2)],[(2,some (.arr z)),(1,none)],[2]⟩ : Wr)) (List.nil_append _ : [] ++ (List.map I s0) = List.map I s0)) (Qe6 (enc1 := I) (enc2 := I) (e1 := []) (e2 := s0) (sz := 1) Qef Qef a0) tv) ?_
 refine rt ?_
 obtain rfl := os h
 exact rq [true]
def Kip (p : (List Int) × Int) : Option (K02) :=
 match p with
 | (ty0,k1) =>
  (idx ty0 0) >>= fun a0 =>
  (Kes a0) >>= fun (a1,a2) =>
  (Kfv ty0) >>= fun a3 =>
  if (a1 == 1) = true then
  (idx a3 1) >>= fun a4 =>
  (Kfy a4) >>= fun a5 =>
  (idx a3 0) >>= fun a6 =>
  (chk (a5 ≠ 0)) >>= fun _ =>
  (Kip (a6,(wr (Int.tdiv k1 a5)))) >>= fun a7 =>
  (idx a3 1) >>= fun a8 =>
  (chk (a5 ≠ 0)) >>= fun _ =>
  (Kip (a8,(Int.tmod k1 a5))) >>= fun a9 =>
  some (K02.mk 4 0 [] [a7,a9])
  else
  if (a1 == 2) = true then
  (idx a3 0) >>= fun b1 =>
  (Kfy b1) >>= fun b2 =>
  if (decide (k1 ≥ b2)) = true then
  (idx a3 0) >>= fun b3 =>
  (Kim b3) >>= fun b4 =>
  (idx a3 1) >>= fun b5 =>
  (Kip (b5,(wr (k1 - b2)))) >>= fun b6 =>
  some (K02.mk 7 0 b4 [b6])
  else
  (idx a3 1) >>= fun b7 =>
  (Kim b7) >>= fun b8 =>
  (idx a3 0) >>= fun b9 =>
  (Kip (b9,k1)) >>= fun c0 =>
  some (K02.mk 6 0 b8 [c0])
  else
  if (a1 == 4) = true then
  (idx a3 0) >>= fun c1 =>
  (Kip (c1,k1)) >>= fun c2 =>
  some (K02.mk 11 a2 [] [c2])
  else
  some (K02.mk 1 k1 [] [])
 partial_fixpoint
def Kiq (p : (List Int) × Int) (r : K02) : Prop :=
 match p with
 | (ty0,k1) => Q75 Tryz.prog 96 [sI ty0,I k1] (K1j r) []
theorem Kir : ∀ p r,Kip p = some r → Kiq p r := by
 refine Kip.partial_correctness Kiq ?_
 rintro impl_valueAt_f impl_valueAt_ih ⟨ty0,k1⟩ r h
 refine b0 Tryz.f96 B96 87 [(0,sI ty0),(1,I k1)] fun c hc => ?_
 refine rs hc none [some (.new 1)] [(0,sI ty0),(1,I k1),(4,.ra 1 0)] [(1,.box [I 0,I 0,.nils,.nils])] tv ?_
 obtain ⟨a0,a1,⟨a2,a3⟩,a4,h⟩ := bq2 h
 refine rss hc none [oN,some (.el (I a0)),oN,oc (.tup [I a2,I a3]),oN,oN,oN,oN,oN] [(0,sI ty0),(1,I k1),(4,.ra 1 0),(5,I a2),(6,I a3)] (ai (ix a1) (cq (Keu _ _ a4) K4f tv)) ?_
 obtain ⟨a5,a6,h⟩ := Qds h
 refine rs hc none [oN,some (.call (.osl (List.map K0n a5)) [] 2),oN] [(1,I k1),(4,.ra 1 0),(5,I a2),(6,I a3),(7,.rs 2)] [(1,.box [I 0,I 0,.nils,.nils]),(2,.arr (List.map K0n a5))] (cq (Kfx _ _ a6) K4u tv) ?_
 refine sN ?_
 refine K6n hc 1 [(1,I k1),(4,.ra 1 0),(6,I a3),(7,.rs 2),(19,I a2)] ?_
 refine bk 0 ?_
 refine K6n hc 2 [(1,I k1),(4,.ra 1 0),(6,I a3),(7,.rs 2),(19,I a2),(20,.bool (a2 == 1))] ?_
 refine ic h (fun a7 h => ?_) fun a7 h => ?_
 ·obtain ⟨a8,a9,b1,b2,h⟩ := bq2 h
  refine rss hc none [oN,oN,some (.el (sI a8)),oc (I b1),oN] [(1,I k1),(4,.ra 1 0),(7,.rs 2),(8,I b1)] (ab (Qdx (enc := K0n) a9) (xL a9).2 (cq (Kg0 _ _ b2) K4v tv)) ?_
  obtain ⟨b3,b4,_,b5,b6,b7,b8,b9,h⟩ := bq4 h
  obtain ⟨_,c0,c1,c2,h⟩ := bq2 h
  refine rs hc (rx [[0],[1],[2],[0],[0],[0,3,4],[6],[0],[0,7],[0,7,8],[0],[0],[0,10,11],[13],[14],[15],[16]]) [oN,oN,some (.el (sI b3)),oN,oN,oN,some (.call (K1j b6) [] 3),oN,oN,some (.el (sI b8)),oN,oN,oN,some (.call (K1j c1) [] 5),some (.eqv (.mk 7 true) ⟨[(40,.rs 7)],[(7,some (.arr (List.map K0b [b6,c1]))),(3,none),(4,none),(5,none),(6,none)],[7]⟩),oN,oN] [(4,.ra 1 0)] [(1,.box [I 4,I 0,.nils,.rs 7]),(7,.arr (List.map K0b [b6,c1]))] (ac (Qdx (enc := K0n) b4) (xL b4).2 (Qdu b5) (cq (impl_valueAt_ih _ _ b7) K5u (ac (Qdx (enc := K0n) b9) (xL b9).2 (Qdu c0) (cq (impl_valueAt_ih _ _ c2) K5u (ai (congrArg (fun z => (⟨[(40,.rs 7)],[(7,some (.arr z)),(3,none),(4,none),(5,none),(6,none)],[7]⟩ : Wr)) ((Qez (K0h b6) (Qez (K0h c1) Qey)) : [AV.agg [I b6.fOp,I b6.fN,oI b6.fType,AV.osl (List.map K0b b6.fKids)],AV.agg [I c1.fOp,I c1.fN,oI c1.fType,AV.osl (List.map K0b c1.fKids)]] = List.map K0b [b6,c1])) tv))))) ?_
  refine rt ?_
  obtain rfl := os h
  exact rq [true]
 refine K6n hc 2 [(1,I k1),(4,.ra 1 0),(6,I a3),(7,.rs 2),(19,I a2),(42,.bool (a2 == 2))] ?_
 refine ic h (fun c3 h => ?_) fun c3 h => ?_
 ·refine sN ?_
  obtain ⟨c4,c5,c6,c7,h⟩ := bq2 h
  refine rss hc none [oN,oN,some (.el (sI c4)),oc (I c6),oN] [(1,I k1),(4,.ra 1 0),(7,.rs 2),(9,I c6)] (ab (Qdx (enc := K0n) c5) (xL c5).2 (cq (Kg0 _ _ c7) K4v tv)) ?_
  refine K6n hc 3 [(1,I k1),(4,.ra 1 0),(7,.rs 2),(9,I c6),(50,.bool (decide (k1 ≥ c6)))] ?_
  refine ic h (fun c8 h => ?_) fun c8 h => ?_
  ·obtain ⟨c9,d0,d1,d2,d3,d4,d5,d6,h⟩ := bq4 h
   refine rs hc (rx [[0],[1],[2],[3],[0],[0,4],[0,4,5],[0],[0],[0,7,8],[10],[11],[12],[13]]) [oN,oN,some (.el (sI c9)),some (.call (oI d1) [] 8),oN,oN,some (.el (sI d3)),oN,oN,oN,some (.call (K1j d5) [] 9),some (.eqv (.mk 11 true) ⟨[(62,.rs 11)],[(11,some (.arr (List.map K0b [d5]))),(9,none),(10,none)],[11]⟩),oN,oN] [(4,.ra 1 0)] [(1,.box [I 7,I 0,.rs 8,.rs 11]),(8,rI d1),(11,.arr (List.map K0b [d5]))] (ab (Qdx (enc := K0n) d0) (xL d0).2 (cq (Kio _ _ d2) K5v (ab (Qdx (enc := K0n) d4) (xL d4).2 (cq (impl_valueAt_ih _ _ d6) K5u (ai (congrArg (fun z => (⟨[(62,.rs 11)],[(11,some (.arr z)),(9,none),(10,none)],[11]⟩ : Wr)) ((Qez (K0h d5) Qey) : [AV.agg [I d5.fOp,I d5.fN,oI d5.fType,AV.osl (List.map K0b d5.fKids)]] = List.map K0b [d5])) tv))))) ?_
   refine rt ?_
   obtain rfl := os h
   exact rq [true]
  refine sk ?_
  obtain ⟨d7,d8,d9,e0,e1,e2,e3,e4,h⟩ := bq4 h
  refine rs hc (rx [[0],[1],[2],[3],[0],[0,4],[0,4,5],[0],[8],[9],[10],[11]]) [oN,oN,some (.el (sI d7)),some (.call (oI d9) [] 12),oN,oN,some (.el (sI e1)),oN,some (.call (K1j e3) [] 13),some (.eqv (.mk 15 true) ⟨[(73,.rs 15)],[(15,some (.arr (List.map K0b [e3]))),(13,none),(14,none)],[15]⟩),oN,oN] [(4,.ra 1 0)] [(1,.box [I 6,I 0,.rs 12,.rs 15]),(12,rI d9),(15,.arr (List.map K0b [e3]))] (ab (Qdx (enc := K0n) d8) (xL d8).2 (cq (Kio _ _ e0) K5v (ab (Qdx (enc := K0n) e2) (xL e2).2 (cq (impl_valueAt_ih _ _ e4) K5u (ai (congrArg (fun z => (⟨[(73,.rs 15)],[(15,some (.arr z)),(13,none),(14,none)],[15]⟩ : Wr)) ((Qez (K0h e3) Qey) : [AV.agg [I e3.fOp,I e3.fN,oI e3.fType,AV.osl (List.map K0b e3.fKids)]] = List.map K0b [e3])) tv))))) ?_
  refine rt ?_
  obtain rfl := os h
  exact rq [true]
 refine K6n hc 2 [(1,I k1),(4,.ra 1 0),(6,I a3),(7,.rs 2),(75,.bool (a2 == 4))] ?_
 refine ic h (fun e5 h => ?_) fun e5 h => ?_
 ·obtain ⟨e6,e7,e8,e9,h⟩ := bq2 h
  refine rs hc none [oN,oN,oN,some (.el (sI e6)),oN,some (.call (K1j e8) [] 16),some (.eqv (.mk 18 true) ⟨[(83,.rs 18)],[(18,some (.arr (List.map K0b [e8]))),(16,none),(17,none)],[18]⟩),oN,oN] [(4,.ra 1 0)] [(1,.box [I 11,I a3,.nils,.rs 18]),(18,.arr (List.map K0b [e8]))] (ab (Qdx (enc := K0n) e7) (xL e7).2 (cq (impl_valueAt_ih _ _ e9) K5u (ai (congrArg (fun z => (⟨[(83,.rs 18)],[(18,some (.arr z)),(16,none),(17,none)],[18]⟩ : Wr)) ((Qez (K0h e8) Qey) : [AV.agg [I e8.fOp,I e8.fN,oI e8.fType,AV.osl (List.map K0b e8.fKids)]] = List.map K0b [e8])) tv))) ?_
  refine rt ?_
  obtain rfl := os h
  exact rq [true]
 refine sk ?_
 refine rs0 hc 3 [(4,.ra 1 0)] [(1,.box [I 1,I k1,.nils,.nils])] ?_
 refine rt ?_
 obtain rfl := os h
 exact rq [true]
def Kis (p : K00 × (List Int) × Int) : Option (K02 × Bool) :=
 match p with
 | (s0,ty1,k2) =>
  (Kg1 (s0,ty1)) >>= fun a0 =>
  (Kcq (k2,0,(wr (a0 - 1)))) >>= fun a1 =>
  if a1 = true then
  (Kip (ty1,k2)) >>= fun a2 =>
  some (a2,true)
  else
  some ((K02.mk 0 0 [] []),false)
def Kit (p : K00 × (List Int) × Int) (r : K02 × Bool) : Prop :=
 match p with
 | (s0,ty1,k2) => Q75 Tryz.prog 29 [K1a s0,sI ty1,I k2] (.tup [.agg [I r.1.fOp,I r.1.fN,.osl (List.map I r.1.fType),.osl (List.map K0b r.1.fKids)],.bool r.2]) []
theorem Kiu : ∀ p r,Kis p = some r → Kit p r := by
 rintro ⟨s0,ty1,k2⟩ r h
 unfold Kis at h
 refine b0 Tryz.f29 B29 19 [(0,K1a s0),(1,sI ty1),(2,I k2)] fun c hc => ?_
 refine rs hc none [some (.new 1),some (.new 2),oN] [(1,sI ty1),(2,I k2),(3,.ra 1 0),(6,.ra 2 0)] [(1,K19 s0),(2,.box [I 0,I 0,.nils,.nils])] tv ?_
 refine sN ?_
 obtain ⟨a0,a1,a2,a3,h⟩ := bq2 h
 refine rs hc none [oN,oN,oN,oc (I a0),oN,oc (.bool a2),oN] [(1,sI ty1),(2,I k2),(6,.ra 2 0),(14,.bool (!a2))] [(2,.box [I 0,I 0,.nils,.nils])] (cq (Kg3 _ _ a1) K4w (cq (Kcs _ _ a3) K3y tv)) ?_
 rcases is h with ⟨a4,h⟩ | ⟨a4,h⟩
 ·refine cF (!a2) (nF a4) ?_
  refine sk ?_
  obtain ⟨a5,a6,h⟩ := Qds h
  refine rs hc none [oN,oN,some (.call (K1j a5) [] 3),oN,oN] [(6,.ra 2 0),(7,.bool true)] [(2,.box [I a5.fOp,I a5.fN,.rs 3,.rs 4]),(3,rI a5.fType),(4,.arr (List.map K0b a5.fKids))] (cq (Kir _ _ a6) K5u tv) ?_
  refine rt ?_
  obtain rfl := os h
  exact rq [true,true]
 refine cT (!a2) (nT a4) ?_
 refine K6n hc 3 [(6,.ra 2 0),(7,.bool false)] ?_
 refine rt ?_
 obtain rfl := os h
 exact rq [true,true]
def Kiv (c : Ctx) : (Unit) ⊕ (Bool) → Exit → Q0a → Prop
 | .inl _ => Qde c (.exit 0) (mkS [] [])
 | .inr r => Qdn TIx Tryz.f144 [] (.bool r)
def Kiw (p : (List Int) × (List Int) × Int) : Option ((Unit) ⊕ (Bool)) :=
 match p with
 | (s10,s21,a0) =>
  if (decide (a0 < (s10.length : Int))) = true then
  (idx s10 a0) >>= fun a1 =>
  (idx s21 a0) >>= fun a2 =>
  if (a1 != a2) = true then
  some (.inr false)
  else
  Kiw (s10,s21,(wr (a0 + 1)))
  else
  some (.inl ())
 partial_fixpoint
def Kix (p : (List Int) × (List Int) × Int) (fl : (Unit) ⊕ (Bool)) : Prop :=
 match p with
 | (s10,s21,a0) => ∀ c : Ctx,c.nt = 26 → WpL Tryz.prog c (cl (cl (cr (cl (cr (cr K5y)))))) (Kiv c fl) (mkS [(0,sI s10),(1,sI s21),(12,I (s10.length : Int)),(13,I a0)] [])
theorem Kiy : ∀ p r,Kiw p = some r → Kix p r := by
 refine Kiw.partial_correctness Kix ?_
 rintro slices_Equal_int_l0_f slices_Equal_int_l0_ih ⟨s10,s21,a0⟩ r h
 intro c hc
 refine WpL.step ?_
 refine rs0 hc 1 [(0,sI s10),(1,sI s21),(12,I (s10.length : Int)),(13,I a0),(14,.bool (decide (a0 < (s10.length : Int))))] [] ?_
 refine sN ?_
 refine ic h (fun a1 h => ?_) fun a1 h => ?_
 ·refine sk ?_
  refine sN ?_
  refine bk 1 ?_
  refine rs0 hc 2 [(0,sI s10),(1,sI s21),(5,I a0),(12,I (s10.length : Int)),(13,I a0)] [] ?_
  obtain ⟨a2,a3,a4,a5,h⟩ := bq2 h
  refine rs hc (rx [[0],[0],[2],[3],[0],[0],[0,4,5],[0,4,5,6],[8]]) [oN,oN,some (.el (I a2)),oN,oN,oN,some (.el (I a4)),oN,oN] [(0,sI s10),(1,sI s21),(12,I (s10.length : Int)),(13,I a0),(24,.bool (a2 != a4))] [] (ab (ix a3) (ix a5) tv) ?_
  refine ic h (fun a6 h => ?_) fun a6 h => ?_
  ·refine rs0 hc 1 [(4,.bool false)] [] ?_
   refine rt ?_
   obtain rfl := os h
   exact re [true]
  refine sk ?_
  refine rg0 hc 2 [(0,sI s10),(1,sI s21),(12,I (s10.length : Int)),(13,I (wr (a0 + 1)))] [] ?_
  refine Qda ?_
  exact (slices_Equal_int_l0_ih _ _ h c hc)
 refine xt 0 ?_
 refine Qd4 ?_
 refine Qdb ?_
 obtain rfl := os h
 exact iv []
def Kiz (p : (List Int) × (List Int)) : Option (Bool) :=
 match p with
 | (s10,s21) =>
  if ((s10.length : Int) != (s21.length : Int)) = true then
  some false
  else
  (Kiw (s10,s21,0)) >>= fun fl => match fl with
  | .inl () =>
   some true
  | .inr r =>
   some r
def Kj0 (p : (List Int) × (List Int)) (r : Bool) : Prop :=
 match p with
 | (s10,s21) => Q75 Tryz.prog 144 [sI s10,sI s21] (.bool r) []
theorem Kj1 : ∀ p r,Kiz p = some r → Kj0 p r := by
 rintro ⟨s10,s21⟩ r h
 unfold Kiz at h
 refine b0 Tryz.f144 K5y 26 [(0,sI s10),(1,sI s21)] fun c hc => ?_
 refine rs0 hc 1 [(0,sI s10),(1,sI s21)] [] ?_
 refine sN ?_
 refine rs hc none [oN,some (.eqv (.no) ⟨[(7,I (s10.length : Int))],[],[]⟩),oN,some (.eqv (.no) ⟨[(9,I (s21.length : Int))],[],[]⟩),oN] [(0,sI s10),(1,sI s21),(10,.bool ((s10.length : Int) != (s21.length : Int)))] [] (ab (Qdy (d := 7) I s10) (Qdy (d := 9) I s21) tv) ?_
 refine ic h (fun a0 h => ?_) fun a0 h => ?_
 ·refine rs0 hc 1 [(4,.bool false)] [] ?_
  refine rt ?_
  obtain rfl := os h
  exact rq [true]
 refine sk ?_
 refine sN ?_
 refine rs hc none [oN,some (.eqv (.no) ⟨[(12,I (s10.length : Int))],[],[]⟩),oN] [(0,sI s10),(1,sI s21),(12,I (s10.length : Int)),(13,I 0)] [] (ai (Qdy (d := 12) I s10) tv) ?_
 refine bk 0 ?_
 obtain ⟨fl,a1,h⟩ := Qds h
 have hL := Kiy _ _ a1 c hc
 refine lp ?_
 rcases fl with ⟨⟩ | r
 ·refine WpL.into (e := (.exit 0)) (mkS [] []) hL ?_
  refine Qd6 ?_
  refine rs0 hc 1 [(4,.bool true)] [] ?_
  refine rt ?_
  obtain rfl := os h
  exact rq [true]
 refine WpL.mono hL ?_
 rintro _ _ ⟨rfl,hfin⟩
 obtain rfl := os h
 exact ⟨.inl rfl,hfin⟩
def Kj2 : Option (List (List Nat)) := rx [[0],[1],[2],[3],[4],[5],[6],[7],[8],[9],[10],[11],[12],[13],[14],[15],[16],[17],[18],[19],[20],[21],[22],[23],[21],[21,24],[21,24,25],[21,24,25,26],[28],[29],[30],[31],[32],[33],[31],[31,34],[31,34,35],[31,34,35,36],[38],[39],[40]]
def Kj3 : Option (List (List Nat)) := rx [[0],[1],[0],[0],[0,3],[0,2,3,4],[0,2,3,4,5],[7],[8],[9],[9],[11],[12],[9],[9,13],[9,13,14],[9,13,14,15],[17],[18],[19]]
def Kj4 : Option (List (List Nat)) := rx [[0],[1],[2],[3],[4],[5],[4],[7],[8],[9],[10],[11],[12],[13],[14],[15],[16],[17],[18],[19],[20],[21],[22],[23],[24],[22],[22,25],[22,25,26],[22,25,26,27],[29],[30],[31]]
def Kj5 : Option (List (List Nat)) := rx [[0],[1],[2],[3],[0],[0,4],[0,4,5],[7],[8],[9],[10]]
def Kj6 (p : (List Int) × K02) : Option (Bool) :=
 match p with
 | (ty0,v1) =>
  (idx ty0 0) >>= fun a0 =>
  (Kes a0) >>= fun (a1,a2) =>
  (Kfv ty0) >>= fun a3 =>
  if (a1 == 0) = true then
  ((
  if (v1.fOp == 1) = true then
  (Kcq (v1.fN,0,2)) >>= fun a4 =>
  if a4 = true then
  if ((v1.fType.length : Int) == 0) = true then
  some (((v1.fKids.length : Int) == 0))
  else
  some (false)
  else
  some (false)
  else
  some (false)
  ) : Option (Bool)) >>= fun a5 =>
  some a5
  else
  if (a1 == 1) = true then
  ((
  if (v1.fOp == 4) = true then
  if (v1.fN == 0) = true then
  if ((v1.fType.length : Int) == 0) = true then
  if ((v1.fKids.length : Int) == 2) = true then
  (idx a3 0) >>= fun a6 =>
  (idx v1.fKids 0) >>= fun a7 =>
  (Kj6 (a6,a7)) >>= fun a8 =>
  if a8 = true then
  (idx a3 1) >>= fun a9 =>
  (idx v1.fKids 1) >>= fun b1 =>
  (Kj6 (a9,b1)) >>= fun b2 =>
  some (b2)
  else
  some (false)
  else
  some (false)
  else
  some (false)
  else
  some (false)
  else
  some (false)
  ) : Option (Bool)) >>= fun b3 =>
  some b3
  else
  if (a1 == 2) = true then
  ((
  if (v1.fN != 0) = true then
  some (true)
  else
  if ((v1.fKids.length : Int) != 1) = true then
  some (true)
  else
  if (v1.fOp != 6) = true then
  some ((v1.fOp != 7))
  else
  some (false)
  ) : Option (Bool)) >>= fun b4 =>
  if b4 = true then
  some false
  else
  ((
  (idx a3 (wr (1 - (wr (v1.fOp - 6))))) >>= fun b5 =>
  (Kiz (v1.fType,b5)) >>= fun b6 =>
  if b6 = true then
  (idx a3 (wr (v1.fOp - 6))) >>= fun b7 =>
  (idx v1.fKids 0) >>= fun b8 =>
  (Kj6 (b7,b8)) >>= fun b9 =>
  some (b9)
  else
  some (false)
  ) : Option (Bool)) >>= fun c0 =>
  some c0
  else
  ((
  if (v1.fOp == 11) = true then
  if (v1.fN == a2) = true then
  if ((v1.fType.length : Int) == 0) = true then
  if ((v1.fKids.length : Int) == 1) = true then
  (idx a3 0) >>= fun c1 =>
  (idx v1.fKids 0) >>= fun c2 =>
  (Kj6 (c1,c2)) >>= fun c3 =>
  some (c3)
  else
  some (false)
  else
  some (false)
  else
  some (false)
  else
  some (false)
  ) : Option (Bool)) >>= fun c4 =>
  some c4
 partial_fixpoint
def Kj7 (p : (List Int) × K02) (r : Bool) : Prop :=
 match p with
 | (ty0,v1) => Q75 Tryz.prog 84 [sI ty0,K1e v1] (.bool r) []
theorem Kj8 : ∀ p r,Kj6 p = some r → Kj7 p r := by
 refine Kj6.partial_correctness Kj7 ?_
 rintro impl_isValue_f impl_isValue_ih ⟨ty0,v1⟩ r h
 refine b0 Tryz.f84 B84 157 [(0,sI ty0),(1,K1e v1)] fun c hc => ?_
 refine rs hc none [some (.new 1),oN] [(0,sI ty0),(3,.ra 1 0)] [(1,K1d v1)] tv ?_
 obtain ⟨a0,a1,⟨a2,a3⟩,a4,h⟩ := bq2 h
 refine rss hc none [oN,some (.el (I a0)),oN,oc (.tup [I a2,I a3]),oN,oN,oN,oN,oN] [(0,sI ty0),(3,.ra 1 0),(5,I a2),(6,I a3)] (ai (ix a1) (cq (Keu _ _ a4) K4f tv)) ?_
 obtain ⟨a5,a6,h⟩ := Qds h
 refine rs hc none [oN,some (.call (.osl (List.map K0n a5)) [] 2),oN] [(3,.ra 1 0),(5,I a2),(6,I a3),(7,.rs 2)] [(1,K1d v1),(2,.arr (List.map K0n a5))] (cq (Kfx _ _ a6) K4u tv) ?_
 refine sN ?_
 refine K6n hc 1 [(3,.ra 1 0),(6,I a3),(7,.rs 2),(18,I a2)] ?_
 refine bk 0 ?_
 refine K6n hc 2 [(3,.ra 1 0),(6,I a3),(7,.rs 2),(18,I a2),(19,.bool (a2 == 0))] ?_
 refine ic h (fun a7 h => ?_) fun a7 h => ?_
 ·refine sN ?_
  obtain ⟨a8,a9,h⟩ := Qds h
  refine Wp.into (x := .normal) (mkS [(4,.bool a8)] []) ?_ ?_
  ·replace h := a9
   rcases is h with ⟨b1,h⟩ | ⟨b1,h⟩
   ·obtain ⟨b2,b3,h⟩ := Qds h
    rcases is h with ⟨b4,h⟩ | ⟨b4,h⟩
    ·rcases is h with ⟨b5,h⟩ | ⟨b5,h⟩
     ·refine rg hc none [oN,oN,oN,oN,oN,oN,oc (.bool b2),oT,oN,oN,oN,some (.eqv (.no) ⟨[(32,I (v1.fType.length : Int))],[],[]⟩),oN,oT,oN,oN,oN,some (.eqv (.no) ⟨[(38,I (v1.fKids.length : Int))],[],[]⟩),oN,oT,oN] [(4,.bool ((v1.fKids.length : Int) == 0))] [] (ar 3 b1 (cq (Kcs _ _ b3) K3y (ai b1 (ar 3 b4 (ai (Qdy (d := 32) I v1.fType) (ar 2 b4 (ar 3 b5 (ai (Qdy (d := 38) K08 v1.fKids) (ar 2 b5 tv))))))))) ?_
      obtain rfl := os h
      exact Qde.mk
     refine rg hc none [oN,oN,oN,oN,oN,oN,oc (.bool b2),oT,oN,oN,oN,some (.eqv (.no) ⟨[(32,I (v1.fType.length : Int))],[],[]⟩),oN,oT,oN,o_,o_,o_,o_,oF,oN] [(4,.bool false)] [] (ar 3 b1 (cq (Kcs _ _ b3) K3y (ai b1 (ar 3 b4 (ai (Qdy (d := 32) I v1.fType) (ar 2 b4 (ar 4 (neT b5) (ai b5 tv)))))))) ?_
     obtain rfl := os h
     exact Qde.mk
    refine rg hc none [oN,oN,oN,oN,oN,oN,oc (.bool b2),oT,oN,o_,o_,o_,o_,oF,oN,o_,o_,o_,o_,oF,oN] [(4,.bool false)] [] (ar 3 b1 (cq (Kcs _ _ b3) K3y (ai b1 (ar 4 (neT b4) (ai b4 (ar 4 (neT (rfl : false = false)) (ai (rfl : false = false) tv))))))) ?_
    obtain rfl := os h
    exact Qde.mk
   refine rg hc none [oN,oN,oN,oN,o_,o_,o_,oF,oN,o_,o_,o_,o_,oF,oN,o_,o_,o_,o_,oF,oN] [(4,.bool false)] [] (ar 3 (neT b1) (ai b1 (ar 4 (neT (rfl : false = false)) (ai (rfl : false = false) (ar 4 (neT (rfl : false = false)) (ai (rfl : false = false) tv)))))) ?_
   obtain rfl := os h
   exact Qde.mk
  clear a9
  refine rt ?_
  obtain rfl := os h
  exact rq [true]
 refine K6n hc 2 [(3,.ra 1 0),(6,I a3),(7,.rs 2),(18,I a2),(41,.bool (a2 == 1))] ?_
 refine ic h (fun b6 h => ?_) fun b6 h => ?_
 ·refine sN ?_
  obtain ⟨b7,b8,h⟩ := Qds h
  refine Wp.into (x := .normal) (mkS [(4,.bool b7)] []) ?_ ?_
  ·replace h := b8
   rcases is h with ⟨b9,h⟩ | ⟨b9,h⟩
   ·rcases is h with ⟨c0,h⟩ | ⟨c0,h⟩
    ·rcases is h with ⟨c1,h⟩ | ⟨c1,h⟩
     ·rcases is h with ⟨c2,h⟩ | ⟨c2,h⟩
      ·obtain ⟨c3,c4,c5,c6,c7,c8,h⟩ := bq3 h
       rcases is h with ⟨c9,h⟩ | ⟨c9,h⟩
       ·obtain ⟨d0,d1,d2,d3,d4,d5,h⟩ := bq3 h
        refine rg hc Kj2 [oN,oN,oN,oN,oN,oN,oN,oT,oN,oN,oN,some (.eqv (.no) ⟨[(54,I (v1.fType.length : Int))],[],[]⟩),oN,oT,oN,oN,oN,some (.eqv (.no) ⟨[(60,I (v1.fKids.length : Int))],[],[]⟩),oN,oT,oN,oN,oN,some (.el (sI c3)),oN,oN,some (.el (K1e c5)),oN,oc (.bool c7),oT,oN,oN,oN,some (.el (sI d0)),oN,oN,some (.el (K1e d2)),oN,oc (.bool d4),oT,oN] [(4,.bool d4)] [] (ar 4 b9 (ar 3 c0 (ai (Qdy (d := 54) I v1.fType) (ar 2 c0 (ar 3 c1 (ai (Qdy (d := 60) K08 v1.fKids) (ar 2 c1 (ar 2 c2 (ac (Qdx (enc := K0n) c4) c2 (xL c4).2 (ar 3 c2 (ai (Qdw c6 (K0f c5)) (ar 2 c2 (cq (impl_isValue_ih _ _ c8) K5x (ai c2 (ar 2 c9 (ac (Qdx (enc := K0n) d1) c9 (xL d1).2 (ar 3 c9 (ai (Qdw d3 (K0f d2)) (ar 2 c9 (cq (impl_isValue_ih _ _ d5) K5x (ai c9 tv))))))))))))))))))))) ?_
        obtain rfl := os h
        exact Qde.mk
       refine rg hc Kj2 [oN,oN,oN,oN,oN,oN,oN,oT,oN,oN,oN,some (.eqv (.no) ⟨[(54,I (v1.fType.length : Int))],[],[]⟩),oN,oT,oN,oN,oN,some (.eqv (.no) ⟨[(60,I (v1.fKids.length : Int))],[],[]⟩),oN,oT,oN,oN,oN,some (.el (sI c3)),oN,oN,some (.el (K1e c5)),oN,oc (.bool c7),oT,oN,o_,o_,o_,o_,o_,o_,o_,o_,oF,oN] [(4,.bool false)] [] (ar 4 b9 (ar 3 c0 (ai (Qdy (d := 54) I v1.fType) (ar 2 c0 (ar 3 c1 (ai (Qdy (d := 60) K08 v1.fKids) (ar 2 c1 (ar 2 c2 (ac (Qdx (enc := K0n) c4) c2 (xL c4).2 (ar 3 c2 (ai (Qdw c6 (K0f c5)) (ar 2 c2 (cq (impl_isValue_ih _ _ c8) K5x (ai c2 (ar 8 (neT c9) (ai c9 tv)))))))))))))))) ?_
       obtain rfl := os h
       exact Qde.mk
      refine rg hc Kj2 [oN,oN,oN,oN,oN,oN,oN,oT,oN,oN,oN,some (.eqv (.no) ⟨[(54,I (v1.fType.length : Int))],[],[]⟩),oN,oT,oN,oN,oN,some (.eqv (.no) ⟨[(60,I (v1.fKids.length : Int))],[],[]⟩),oN,oT,oN,o_,o_,o_,o_,o_,o_,o_,o_,oF,oN,o_,o_,o_,o_,o_,o_,o_,o_,oF,oN] [(4,.bool false)] [] (ar 4 b9 (ar 3 c0 (ai (Qdy (d := 54) I v1.fType) (ar 2 c0 (ar 3 c1 (ai (Qdy (d := 60) K08 v1.fKids) (ar 2 c1 (ar 8 (neT c2) (ai c2 (ar 8 (neT (rfl : false = false)) (ai (rfl : false = false) tv))))))))))) ?_
      obtain rfl := os h
      exact Qde.mk
     refine rg hc Kj2 [oN,oN,oN,oN,oN,oN,oN,oT,oN,oN,oN,some (.eqv (.no) ⟨[(54,I (v1.fType.length : Int))],[],[]⟩),oN,oT,oN,o_,o_,o_,o_,oF,oN,o_,o_,o_,o_,o_,o_,o_,o_,oF,oN,o_,o_,o_,o_,o_,o_,o_,o_,oF,oN] [(4,.bool false)] [] (ar 4 b9 (ar 3 c0 (ai (Qdy (d := 54) I v1.fType) (ar 2 c0 (ar 4 (neT c1) (ai c1 (ar 8 (neT (rfl : false = false)) (ai (rfl : false = false) (ar 8 (neT (rfl : false = false)) (ai (rfl : false = false) tv)))))))))) ?_
     obtain rfl := os h
     exact Qde.mk
    refine rg hc Kj2 [oN,oN,oN,oN,oN,oN,oN,oT,oN,o_,o_,o_,o_,oF,oN,o_,o_,o_,o_,oF,oN,o_,o_,o_,o_,o_,o_,o_,o_,oF,oN,o_,o_,o_,o_,o_,o_,o_,o_,oF,oN] [(4,.bool false)] [] (ar 4 b9 (ar 4 (neT c0) (ai c0 (ar 4 (neT (rfl : false = false)) (ai (rfl : false = false) (ar 8 (neT (rfl : false = false)) (ai (rfl : false = false) (ar 8 (neT (rfl : false = false)) (ai (rfl : false = false) tv))))))))) ?_
    obtain rfl := os h
    exact Qde.mk
   refine rg hc Kj2 [oN,oN,oN,oN,o_,o_,o_,oF,oN,o_,o_,o_,o_,oF,oN,o_,o_,o_,o_,oF,oN,o_,o_,o_,o_,o_,o_,o_,o_,oF,oN,o_,o_,o_,o_,o_,o_,o_,o_,oF,oN] [(4,.bool false)] [] (ar 3 (neT b9) (ai b9 (ar 4 (neT (rfl : false = false)) (ai (rfl : false = false) (ar 4 (neT (rfl : false = false)) (ai (rfl : false = false) (ar 8 (neT (rfl : false = false)) (ai (rfl : false = false) (ar 8 (neT (rfl : false = false)) (ai (rfl : false = false) tv)))))))))) ?_
   obtain rfl := os h
   exact Qde.mk
  clear b8
  refine rt ?_
  obtain rfl := os h
  exact rq [true]
 refine K6n hc 2 [(3,.ra 1 0),(6,I a3),(7,.rs 2),(83,.bool (a2 == 2))] ?_
 refine ic h (fun d6 h => ?_) fun d6 h => ?_
 ·refine sN ?_
  refine sN ?_
  obtain ⟨d7,d8,h⟩ := Qds h
  refine Wp.into (x := .normal) (mkS [(3,.ra 1 0),(7,.rs 2),(103,.bool d7)] [(1,K1d v1),(2,.arr (List.map K0n a5))]) ?_ ?_
  ·replace h := d8
   rcases is h with ⟨d9,h⟩ | ⟨d9,h⟩
   ·refine rgs hc none [oN,oN,oN,oN,o_,o_,o_,o_,oT,oN,o_,o_,o_,o_,o_,o_,o_,o_,oT] [(3,.ra 1 0),(7,.rs 2),(103,.bool true)] (ar 4 (neF d9) (ai d9 (ar 5 nf (ai tt tv)))) ?_
    obtain rfl := os h
    exact Qde.mk
   rcases is h with ⟨e0,h⟩ | ⟨e0,h⟩
   ·refine rgs hc none [oN,oN,oN,oN,oN,oN,some (.eqv (.no) ⟨[(91,I (v1.fKids.length : Int))],[],[]⟩),oN,oF,oN,o_,o_,o_,o_,o_,o_,o_,o_,oT] [(3,.ra 1 0),(7,.rs 2),(103,.bool true)] (ar 3 d9 (ai (Qdy (d := 91) K08 v1.fKids) (ar 2 d9 (ar 5 (neF e0) (ai e0 tv))))) ?_
    obtain rfl := os h
    exact Qde.mk
   rcases is h with ⟨e1,h⟩ | ⟨e1,h⟩
   ·refine rgs hc none [oN,oN,oN,oN,oN,oN,some (.eqv (.no) ⟨[(91,I (v1.fKids.length : Int))],[],[]⟩),oN,oF,oN,oN,oN,oN,oN,oN,oN,oN,oT,oF] [(3,.ra 1 0),(7,.rs 2),(103,.bool (v1.fOp != 7))] (ar 3 d9 (ai (Qdy (d := 91) K08 v1.fKids) (ar 2 d9 (ar 4 e0 (ar 3 e1 (ac e0 e1 e0 tv)))))) ?_
    obtain rfl := os h
    exact Qde.mk
   refine rgs hc none [oN,oN,oN,oN,oN,oN,some (.eqv (.no) ⟨[(91,I (v1.fKids.length : Int))],[],[]⟩),oN,oF,oN,oN,oN,oN,oN,o_,o_,o_,oF,oF] [(3,.ra 1 0),(7,.rs 2),(103,.bool false)] (ar 3 d9 (ai (Qdy (d := 91) K08 v1.fKids) (ar 2 d9 (ar 4 e0 (ar 3 (neT e1) (ac e0 e1 e0 tv)))))) ?_
   obtain rfl := os h
   exact Qde.mk
  clear d8
  refine ic h (fun e2 h => ?_) fun e2 h => ?_
  ·refine rs0 hc 1 [(4,.bool false)] [] ?_
   refine rt ?_
   obtain rfl := os h
   exact rq [true]
  refine sk ?_
  refine K6n hc 4 [(3,.ra 1 0),(7,.rs 2),(8,I (wr (v1.fOp - 6)))] ?_
  refine sN ?_
  obtain ⟨e3,e4,h⟩ := Qds h
  refine Wp.into (x := .normal) (mkS [(4,.bool e3)] []) ?_ ?_
  ·replace h := e4
   obtain ⟨e5,e6,e7,e8,h⟩ := bq2 h
   rcases is h with ⟨e9,h⟩ | ⟨e9,h⟩
   ·obtain ⟨f0,f1,f2,f3,f4,f5,h⟩ := bq3 h
    refine rg hc Kj3 [oN,oN,oN,oN,oN,oN,some (.el (sI e5)),oc (.bool e7),oN,oN,oN,oN,some (.el (sI f0)),oN,oN,some (.el (K1e f2)),oN,oc (.bool f4),oT,oN] [(4,.bool f4)] [] (ab (Qdx (enc := K0n) e6) (xL e6).2 (cq (Kj1 _ _ e8) K5z (ar 3 e9 (ac (Qdx (enc := K0n) f1) e9 (xL f1).2 (ar 3 e9 (ai (Qdw f3 (K0f f2)) (ar 2 e9 (cq (impl_isValue_ih _ _ f5) K5x (ai e9 tv))))))))) ?_
    obtain rfl := os h
    exact Qde.mk
   refine rg hc Kj3 [oN,oN,oN,oN,oN,oN,some (.el (sI e5)),oc (.bool e7),oN,o_,o_,o_,o_,o_,o_,o_,o_,o_,oF,oN] [(4,.bool false)] [] (ab (Qdx (enc := K0n) e6) (xL e6).2 (cq (Kj1 _ _ e8) K5z (ar 9 (neT e9) (ai e9 tv)))) ?_
   obtain rfl := os h
   exact Qde.mk
  clear e4
  refine rt ?_
  obtain rfl := os h
  exact rq [true]
 refine sk ?_
 refine sN ?_
 obtain ⟨f6,f7,h⟩ := Qds h
 refine Wp.into (x := .normal) (mkS [(4,.bool f6)] []) ?_ ?_
 ·replace h := f7
  rcases is h with ⟨f8,h⟩ | ⟨f8,h⟩
  ·rcases is h with ⟨f9,h⟩ | ⟨f9,h⟩
   ·rcases is h with ⟨g0,h⟩ | ⟨g0,h⟩
    ·rcases is h with ⟨g1,h⟩ | ⟨g1,h⟩
     ·obtain ⟨g2,g3,g4,g5,g6,g7,h⟩ := bq3 h
      refine rg hc Kj4 [oN,oN,oN,oN,oN,oN,oN,oN,oT,oN,oN,oN,some (.eqv (.no) ⟨[(138,I (v1.fType.length : Int))],[],[]⟩),oN,oT,oN,oN,oN,some (.eqv (.no) ⟨[(144,I (v1.fKids.length : Int))],[],[]⟩),oN,oT,oN,oN,oN,some (.el (sI g2)),oN,oN,some (.el (K1e g4)),oN,oc (.bool g6),oT,oN] [(4,.bool g6)] [] (ar 5 f8 (ar 3 f9 (ai (Qdy (d := 138) I v1.fType) (ar 2 f9 (ar 3 g0 (ai (Qdy (d := 144) K08 v1.fKids) (ar 2 g0 (ar 2 g1 (ac (Qdx (enc := K0n) g3) g1 (xL g3).2 (ar 3 g1 (ai (Qdw g5 (K0f g4)) (ar 2 g1 (cq (impl_isValue_ih _ _ g7) K5x (ai g1 tv)))))))))))))) ?_
      obtain rfl := os h
      exact Qde.mk
     refine rg hc Kj4 [oN,oN,oN,oN,oN,oN,oN,oN,oT,oN,oN,oN,some (.eqv (.no) ⟨[(138,I (v1.fType.length : Int))],[],[]⟩),oN,oT,oN,oN,oN,some (.eqv (.no) ⟨[(144,I (v1.fKids.length : Int))],[],[]⟩),oN,oT,oN,o_,o_,o_,o_,o_,o_,o_,o_,oF,oN] [(4,.bool false)] [] (ar 5 f8 (ar 3 f9 (ai (Qdy (d := 138) I v1.fType) (ar 2 f9 (ar 3 g0 (ai (Qdy (d := 144) K08 v1.fKids) (ar 2 g0 (ar 8 (neT g1) (ai g1 tv))))))))) ?_
     obtain rfl := os h
     exact Qde.mk
    refine rg hc Kj4 [oN,oN,oN,oN,oN,oN,oN,oN,oT,oN,oN,oN,some (.eqv (.no) ⟨[(138,I (v1.fType.length : Int))],[],[]⟩),oN,oT,oN,o_,o_,o_,o_,oF,oN,o_,o_,o_,o_,o_,o_,o_,o_,oF,oN] [(4,.bool false)] [] (ar 5 f8 (ar 3 f9 (ai (Qdy (d := 138) I v1.fType) (ar 2 f9 (ar 4 (neT g0) (ai g0 (ar 8 (neT (rfl : false = false)) (ai (rfl : false = false) tv)))))))) ?_
    obtain rfl := os h
    exact Qde.mk
   refine rg hc Kj4 [oN,oN,oN,oN,oN,oN,oN,oN,oT,oN,o_,o_,o_,o_,oF,oN,o_,o_,o_,o_,oF,oN,o_,o_,o_,o_,o_,o_,o_,o_,oF,oN] [(4,.bool false)] [] (ar 5 f8 (ar 4 (neT f9) (ai f9 (ar 4 (neT (rfl : false = false)) (ai (rfl : false = false) (ar 8 (neT (rfl : false = false)) (ai (rfl : false = false) tv))))))) ?_
   obtain rfl := os h
   exact Qde.mk
  refine rg hc Kj4 [oN,oN,oN,oN,o_,o_,o_,o_,oF,oN,o_,o_,o_,o_,oF,oN,o_,o_,o_,o_,oF,oN,o_,o_,o_,o_,o_,o_,o_,o_,oF,oN] [(4,.bool false)] [] (ar 4 (neT f8) (ai f8 (ar 4 (neT (rfl : false = false)) (ai (rfl : false = false) (ar 4 (neT (rfl : false = false)) (ai (rfl : false = false) (ar 8 (neT (rfl : false = false)) (ai (rfl : false = false) tv)))))))) ?_
  obtain rfl := os h
  exact Qde.mk
 clear f7
 refine rt ?_
 obtain rfl := os h
 exact rq [true]
def Kj9 (p : K00 × (List Int) × K02) : Option (Bool) :=
 match p with
 | (s0,ty1,v2) =>
  ((
  (Kfo (s0,ty1)) >>= fun a0 =>
  if a0 = true then
  (Kj6 (ty1,v2)) >>= fun a1 =>
  some (a1)
  else
  some (false)
  ) : Option (Bool)) >>= fun a2 =>
  some a2
def Kja (p : K00 × (List Int) × K02) (r : Bool) : Prop :=
 match p with
 | (s0,ty1,v2) => Q75 Tryz.prog 20 [K1a s0,sI ty1,K1e v2] (.bool r) []
theorem Kjb : ∀ p r,Kj9 p = some r → Kja p r := by
 rintro ⟨s0,ty1,v2⟩ r h
 unfold Kj9 at h
 refine b0 Tryz.f20 B20 15 [(0,K1a s0),(1,sI ty1),(2,K1e v2)] fun c hc => ?_
 refine rs hc none [some (.new 1),some (.new 2),oN] [(1,sI ty1),(3,.ra 1 0),(5,.ra 2 0)] [(1,K19 s0),(2,K1d v2)] tv ?_
 refine sN ?_
 obtain ⟨a0,a1,h⟩ := Qds h
 refine Wp.into (x := .normal) (mkS [(6,.bool a0)] []) ?_ ?_
 ·replace h := a1
  obtain ⟨a2,a3,h⟩ := Qds h
  rcases is h with ⟨a4,h⟩ | ⟨a4,h⟩
  ·obtain ⟨a5,a6,h⟩ := Qds h
   refine rg hc none [oN,oN,oc (.bool a2),oN,oN,oN,oc (.bool a5),oT,oN] [(6,.bool a5)] [] (cq (Kfq _ _ a3) K4s (ar 3 a4 (cq (Kj8 _ _ a6) K5x (ai a4 tv)))) ?_
   obtain rfl := os h
   exact Qde.mk
  refine rg hc none [oN,oN,oc (.bool a2),oN,o_,o_,o_,oF,oN] [(6,.bool false)] [] (cq (Kfq _ _ a3) K4s (ar 3 (neT a4) (ai a4 tv))) ?_
  obtain rfl := os h
  exact Qde.mk
 clear a1
 refine rt ?_
 obtain rfl := os h
 exact rq [true]
def Kjc (c : Ctx) (t0 : K02) (a0 : List Int) : (List K02) → Exit → Q0a → Prop
 | a1 => Qde c (.exit 0) (mkS [(2,.ra 2 0),(3,.ra 4 0)] [(2,.box [I 0,I 0,.nils,.nils]),(3,rI a0),(4,.box [I t0.fOp,I t0.fN,.rs 3,.rs 10]),(10,.arr (List.map K0b a1))])
mutual
def Kjd (t0 : K02) : Option (K02) :=
 (Kim t0.fType) >>= fun a0 =>
 (Kje (t0,a0,[],0)) >>= fun a1 =>
 some (K02.mk t0.fOp t0.fN a0 a1)
 partial_fixpoint
def Kje (p : K02 × (List Int) × (List K02) × Int) : Option ((List K02)) :=
 match p with
 | (t0,a0,a1,a2) =>
  if (decide (a2 < (t0.fKids.length : Int))) = true then
  (idx t0.fKids a2) >>= fun a3 =>
  (Kjd a3) >>= fun a4 =>
  (Qe5 (a1.length + [a4].length) 64) >>= fun _ =>
  Kje (t0,a0,(a1 ++ [a4]),(wr (a2 + 1)))
  else
  some (a1)
 partial_fixpoint
end
def Kjf (t0 : K02) (r : K02) : Prop :=
 Q75 Tryz.prog 131 [K1e t0] (K1j r) []
def Kjg (p : K02 × (List Int) × (List K02) × Int) (fl : (List K02)) : Prop :=
 match p with
 | (t0,a0,a1,a2) => ∀ c : Ctx,c.nt = 30 → WpL Tryz.prog c (cl (cl (cr (cl (cr (cr K61)))))) (Kjc c t0 a0 fl) (mkS [(2,.ra 2 0),(3,.ra 4 0),(15,.sl (List.map K08 t0.fKids)),(16,I (t0.fKids.length : Int)),(17,I a2)] [(2,.box [I 0,I 0,.nils,.nils]),(3,rI a0),(4,.box [I t0.fOp,I t0.fN,.rs 3,.rs 10]),(10,.arr (List.map K0b a1))])
theorem Kjh : (∀ p r,Kjd p = some r → Kjf p r) ∧ (∀ p r,Kje p = some r → Kjg p r) := by
 refine Kjd.mutual_partial_correctness Kjf Kjg ?_ ?_
 ·rintro impl_copyTerm_l0_f impl_copyTerm_l0_ih t0 r h
  refine b0 Tryz.f131 K61 30 [(0,K1e t0)] fun c hc => ?_
  refine rs hc none [some (.new 1),some (.new 2)] [(1,.ra 1 0),(2,.ra 2 0)] [(1,K1d t0),(2,.box [I 0,I 0,.nils,.nils])] tv ?_
  obtain ⟨a0,a1,h⟩ := Qds h
  refine rs hc (rx [[0],[1],[0],[0,2],[0],[0,4],[0,4,5],[7],[0],[9]]) [oN,oN,oN,oN,oN,oN,some (.call (oI a0) [] 3),oN,some (.new 4),oN] [(1,.ra 1 0),(2,.ra 2 0),(3,.ra 4 0)] [(1,K1d t0),(2,.box [I 0,I 0,.nils,.nils]),(3,rI a0),(4,.box [I t0.fOp,I t0.fN,.rs 3,.nils])] (cq (Kio _ _ a1) K5v tv) ?_
  refine sN ?_
  refine rs hc none [oN,oN,some (.eqv (.no) ⟨[(16,I (t0.fKids.length : Int))],[],[]⟩),oN] [(2,.ra 2 0),(3,.ra 4 0),(15,.sl (List.map K08 t0.fKids)),(16,I (t0.fKids.length : Int)),(17,I 0)] [(2,.box [I 0,I 0,.nils,.nils]),(3,rI a0),(4,.box [I t0.fOp,I t0.fN,.rs 3,.nils])] (ai (Qdy (d := 16) K08 t0.fKids) tv) ?_
  refine bk 0 ?_
  obtain ⟨a2,a3,h⟩ := Qds h
  have hL := impl_copyTerm_l0_ih _ _ a3 c hc
  refine Wp.loopN (by kernel_rfl) (WpL.view (fun a w hv => SRx.renL [(10,21)] (SRx.nilBL 4 3 21 [I t0.fOp,I t0.fN,.rs 3,.nils] hv (by kernel_rfl) (by kernel_rfl) (by kernel_rfl)) (by kernel_rfl) (by kernel_rfl) (by kernel_rfl)) (?_ : WpL _ c _ _ (mkS [(2,.ra 2 0),(3,.ra 4 0),(15,.sl (List.map K08 t0.fKids)),(16,I (t0.fKids.length : Int)),(17,I 0)] [(2,.box [I 0,I 0,.nils,.nils]),(3,rI a0),(4,.box [I t0.fOp,I t0.fN,.rs 3,.rs 10]),(10,.arr (List.map K0b []))])))
  refine WpL.into (e := (.exit 0)) (mkS [(2,.ra 2 0),(3,.ra 4 0)] [(2,.box [I 0,I 0,.nils,.nils]),(3,rI a0),(4,.box [I t0.fOp,I t0.fN,.rs 3,.rs 10]),(10,.arr (List.map K0b a2))]) hL ?_
  refine Qd6 ?_
  refine rs0 hc 2 [(2,.ra 2 0)] [(2,.box [I t0.fOp,I t0.fN,.rs 3,.rs 10]),(3,rI a0),(10,.arr (List.map K0b a2))] ?_
  refine rt ?_
  obtain rfl := os h
  exact rq [true]
 ·rintro impl_copyTerm_f impl_copyTerm_l0_f impl_copyTerm_ih impl_copyTerm_l0_ih ⟨t0,a0,a4,a5⟩ r h
  intro c hc
  refine WpL.step ?_
  refine K6n hc 1 [(2,.ra 2 0),(3,.ra 4 0),(15,.sl (List.map K08 t0.fKids)),(16,I (t0.fKids.length : Int)),(17,I a5),(18,.bool (decide (a5 < (t0.fKids.length : Int))))] ?_
  refine sN ?_
  refine ic h (fun a6 h => ?_) fun a6 h => ?_
  ·refine sk ?_
   refine sN ?_
   refine bk 1 ?_
   obtain ⟨a7,a8,h⟩ := Qds h
   refine rs hc none [some (.el (K1e a7)),oN,some (.new 16),oN] [(2,.ra 2 0),(3,.ra 4 0),(5,.ra 16 0),(15,.sl (List.map K08 t0.fKids)),(16,I (t0.fKids.length : Int)),(17,I a5)] [(2,.box [I 0,I 0,.nils,.nils]),(3,rI a0),(4,.box [I t0.fOp,I t0.fN,.rs 3,.rs 10]),(10,.arr (List.map K0b a4)),(16,K1d a7)] (ai (Qdw a8 (K0f a7)) tv) ?_
   obtain ⟨a9,b1,_,b2,h⟩ := bq2 h
   refine rg hc (rx [[0],[1],[0],[0,2],[0,2,3],[5],[6],[7]]) [oN,oN,oN,some (.call (K1j a9) [] 17),some (.eqv (.mk 19 true) ⟨[(25,.rs 19)],[(19,some (.arr (List.map K0b [a9]))),(17,none),(18,none)],[19]⟩),some (.eqv (.mk 20 true) ⟨[(26,.rs 20)],[(20,some (.arr (List.map K0b (a4 ++ [a9])))),(10,none),(19,none)],[20]⟩),oN,oN] [(2,.ra 2 0),(3,.ra 4 0),(15,.sl (List.map K08 t0.fKids)),(16,I (t0.fKids.length : Int)),(17,I a5)] [(2,.box [I 0,I 0,.nils,.nils]),(3,rI a0),(4,.box [I t0.fOp,I t0.fN,.rs 3,.rs 20]),(20,.arr (List.map K0b (a4 ++ [a9])))] (cq (impl_copyTerm_ih _ _ b1) K62 (ac (congrArg (fun z => (⟨[(25,.rs 19)],[(19,some (.arr z)),(17,none),(18,none)],[19]⟩ : Wr)) ((Qez (K0h a9) Qey) : [AV.agg [I a9.fOp,I a9.fN,oI a9.fType,AV.osl (List.map K0b a9.fKids)]] = List.map K0b [a9])) (congrArg (fun z => (⟨[(26,.rs 20)],[(20,some (.arr z)),(10,none),(19,none)],[20]⟩ : Wr)) ((List.map_append).symm : (List.map K0b a4) ++ (List.map K0b [a9]) = List.map K0b (a4 ++ [a9]))) (Qe6 (enc1 := K0b) (enc2 := K0b) (e1 := a4) (e2 := [a9]) (sz := 4) K0v K0v b2) tv)) ?_
   refine K6m hc 2 [(2,.ra 2 0),(3,.ra 4 0),(15,.sl (List.map K08 t0.fKids)),(16,I (t0.fKids.length : Int)),(17,I (wr (a5 + 1)))] ?_
   refine Qda ?_
   exact WpL.view (fun a w hv => SRx.renL [(10,20)] hv (by kernel_rfl) (by kernel_rfl) (by kernel_rfl)) (impl_copyTerm_l0_ih _ _ h c hc)
  refine xt 0 ?_
  refine Qd4 ?_
  refine Qdb ?_
  obtain rfl := os h
  exact iv []
theorem Kji : ∀ p r,Kjd p = some r → Kjf p r := Kjh.1
theorem Kjj : ∀ p r,Kje p = some r → Kjg p r := Kjh.2
def Kjk (ty0 : (List Int)) : Option (K02) :=
 (idx ty0 0) >>= fun a0 =>
 (Kes a0) >>= fun (a1,a2) =>
 (Kfv ty0) >>= fun a3 =>
 if (a1 == 1) = true then
 (idx a3 0) >>= fun a4 =>
 (Kjk a4) >>= fun a5 =>
 (idx a3 1) >>= fun a6 =>
 (Kjk a6) >>= fun a7 =>
 some (K02.mk 4 0 [] [a5,a7])
 else
 if (a1 == 2) = true then
 (idx a3 1) >>= fun a8 =>
 (Kim a8) >>= fun a9 =>
 (idx a3 0) >>= fun b1 =>
 (Kjk b1) >>= fun b2 =>
 some (K02.mk 6 0 a9 [b2])
 else
 if (a1 == 3) = true then
 (idx a3 0) >>= fun b3 =>
 (Kim b3) >>= fun b4 =>
 (idx a3 1) >>= fun b5 =>
 (Kjk b5) >>= fun b6 =>
 some (K02.mk 9 a2 b4 [b6])
 else
 if (a1 == 4) = true then
 (idx a3 0) >>= fun b7 =>
 (Kjk b7) >>= fun b8 =>
 some (K02.mk 11 a2 [] [b8])
 else
 some (K02.mk 1 0 [] [])
 partial_fixpoint
def Kjl (ty0 : (List Int)) (r : K02) : Prop :=
 Q75 Tryz.prog 77 [sI ty0] (K1j r) []
theorem Kjm : ∀ p r,Kjk p = some r → Kjl p r := by
 refine Kjk.partial_correctness Kjl ?_
 rintro impl_defaultOf_f impl_defaultOf_ih ty0 r h
 refine b0 Tryz.f77 B77 63 [(0,sI ty0)] fun c hc => ?_
 refine rs hc none [some (.new 1)] [(0,sI ty0),(2,.ra 1 0)] [(1,.box [I 0,I 0,.nils,.nils])] tv ?_
 obtain ⟨a0,a1,⟨a2,a3⟩,a4,h⟩ := bq2 h
 refine rss hc none [oN,some (.el (I a0)),oN,oc (.tup [I a2,I a3]),oN,oN,oN,oN,oN] [(0,sI ty0),(2,.ra 1 0),(3,I a2),(4,I a3)] (ai (ix a1) (cq (Keu _ _ a4) K4f tv)) ?_
 obtain ⟨a5,a6,h⟩ := Qds h
 refine rs hc none [oN,some (.call (.osl (List.map K0n a5)) [] 2),oN] [(2,.ra 1 0),(3,I a2),(4,I a3),(5,.rs 2)] [(1,.box [I 0,I 0,.nils,.nils]),(2,.arr (List.map K0n a5))] (cq (Kfx _ _ a6) K4u tv) ?_
 refine sN ?_
 refine K6n hc 1 [(2,.ra 1 0),(4,I a3),(5,.rs 2),(15,I a2)] ?_
 refine bk 0 ?_
 refine K6n hc 2 [(2,.ra 1 0),(4,I a3),(5,.rs 2),(15,I a2),(16,.bool (a2 == 1))] ?_
 refine ic h (fun a7 h => ?_) fun a7 h => ?_
 ·obtain ⟨a8,a9,b1,b2,b3,b4,b5,b6,h⟩ := bq4 h
  refine rs hc Kj5 [oN,oN,some (.el (sI a8)),some (.call (K1j b1) [] 3),oN,oN,some (.el (sI b3)),some (.call (K1j b5) [] 5),some (.eqv (.mk 7 true) ⟨[(26,.rs 7)],[(7,some (.arr (List.map K0b [b1,b5]))),(3,none),(4,none),(5,none),(6,none)],[7]⟩),oN,oN] [(2,.ra 1 0)] [(1,.box [I 4,I 0,.nils,.rs 7]),(7,.arr (List.map K0b [b1,b5]))] (ab (Qdx (enc := K0n) a9) (xL a9).2 (cq (impl_defaultOf_ih _ _ b2) K64 (ab (Qdx (enc := K0n) b4) (xL b4).2 (cq (impl_defaultOf_ih _ _ b6) K64 (ai (congrArg (fun z => (⟨[(26,.rs 7)],[(7,some (.arr z)),(3,none),(4,none),(5,none),(6,none)],[7]⟩ : Wr)) ((Qez (K0h b1) (Qez (K0h b5) Qey)) : [AV.agg [I b1.fOp,I b1.fN,oI b1.fType,AV.osl (List.map K0b b1.fKids)],AV.agg [I b5.fOp,I b5.fN,oI b5.fType,AV.osl (List.map K0b b5.fKids)]] = List.map K0b [b1,b5])) tv))))) ?_
  refine rt ?_
  obtain rfl := os h
  exact rq [true]
 refine K6n hc 2 [(2,.ra 1 0),(4,I a3),(5,.rs 2),(15,I a2),(28,.bool (a2 == 2))] ?_
 refine ic h (fun b7 h => ?_) fun b7 h => ?_
 ·obtain ⟨b8,b9,c0,c1,c2,c3,c4,c5,h⟩ := bq4 h
  refine rs hc Kj5 [oN,oN,some (.el (sI b8)),some (.call (oI c0) [] 8),oN,oN,some (.el (sI c2)),some (.call (K1j c4) [] 9),some (.eqv (.mk 11 true) ⟨[(38,.rs 11)],[(11,some (.arr (List.map K0b [c4]))),(9,none),(10,none)],[11]⟩),oN,oN] [(2,.ra 1 0)] [(1,.box [I 6,I 0,.rs 8,.rs 11]),(8,rI c0),(11,.arr (List.map K0b [c4]))] (ab (Qdx (enc := K0n) b9) (xL b9).2 (cq (Kio _ _ c1) K5v (ab (Qdx (enc := K0n) c3) (xL c3).2 (cq (impl_defaultOf_ih _ _ c5) K64 (ai (congrArg (fun z => (⟨[(38,.rs 11)],[(11,some (.arr z)),(9,none),(10,none)],[11]⟩ : Wr)) ((Qez (K0h c4) Qey) : [AV.agg [I c4.fOp,I c4.fN,oI c4.fType,AV.osl (List.map K0b c4.fKids)]] = List.map K0b [c4])) tv))))) ?_
  refine rt ?_
  obtain rfl := os h
  exact rq [true]
 refine K6n hc 2 [(2,.ra 1 0),(4,I a3),(5,.rs 2),(15,I a2),(40,.bool (a2 == 3))] ?_
 refine ic h (fun c6 h => ?_) fun c6 h => ?_
 ·obtain ⟨c7,c8,c9,d0,d1,d2,d3,d4,h⟩ := bq4 h
  refine rs hc (rx [[0],[0],[0,1],[0,1,2],[0,1,2,3],[0],[0,5],[0,5,6],[0,1,2,3,4,5,6,7],[0,1,2,3,4,5,6,7,8],[10],[11]]) [oN,oN,oN,some (.el (sI c7)),some (.call (oI c9) [] 12),oN,oN,some (.el (sI d1)),some (.call (K1j d3) [] 13),some (.eqv (.mk 15 true) ⟨[(51,.rs 15)],[(15,some (.arr (List.map K0b [d3]))),(13,none),(14,none)],[15]⟩),oN,oN] [(2,.ra 1 0)] [(1,.box [I 9,I a3,.rs 12,.rs 15]),(12,rI c9),(15,.arr (List.map K0b [d3]))] (ab (Qdx (enc := K0n) c8) (xL c8).2 (cq (Kio _ _ d0) K5v (ab (Qdx (enc := K0n) d2) (xL d2).2 (cq (impl_defaultOf_ih _ _ d4) K64 (ai (congrArg (fun z => (⟨[(51,.rs 15)],[(15,some (.arr z)),(13,none),(14,none)],[15]⟩ : Wr)) ((Qez (K0h d3) Qey) : [AV.agg [I d3.fOp,I d3.fN,oI d3.fType,AV.osl (List.map K0b d3.fKids)]] = List.map K0b [d3])) tv))))) ?_
  refine rt ?_
  obtain rfl := os h
  exact rq [true]
 refine K6n hc 2 [(2,.ra 1 0),(4,I a3),(5,.rs 2),(53,.bool (a2 == 4))] ?_
 refine ic h (fun d5 h => ?_) fun d5 h => ?_
 ·obtain ⟨d6,d7,d8,d9,h⟩ := bq2 h
  refine rs hc none [oN,oN,oN,some (.el (sI d6)),some (.call (K1j d8) [] 16),some (.eqv (.mk 18 true) ⟨[(60,.rs 18)],[(18,some (.arr (List.map K0b [d8]))),(16,none),(17,none)],[18]⟩),oN,oN] [(2,.ra 1 0)] [(1,.box [I 11,I a3,.nils,.rs 18]),(18,.arr (List.map K0b [d8]))] (ab (Qdx (enc := K0n) d7) (xL d7).2 (cq (impl_defaultOf_ih _ _ d9) K64 (ai (congrArg (fun z => (⟨[(60,.rs 18)],[(18,some (.arr z)),(16,none),(17,none)],[18]⟩ : Wr)) ((Qez (K0h d8) Qey) : [AV.agg [I d8.fOp,I d8.fN,oI d8.fType,AV.osl (List.map K0b d8.fKids)]] = List.map K0b [d8])) tv))) ?_
  refine rt ?_
  obtain rfl := os h
  exact rq [true]
 refine sk ?_
 refine rs0 hc 2 [(2,.ra 1 0)] [(1,.box [I 1,I 0,.nils,.nils])] ?_
 refine rt ?_
 obtain rfl := os h
 exact rq [true]
def Kjn (p : (List Int) × (List Int) × K02) : Option (K02) :=
 match p with
 | (view0,ty1,v2) =>
  (idx ty1 0) >>= fun a0 =>
  (Kes a0) >>= fun (a1,a2) =>
  (Kfv ty1) >>= fun a3 =>
  (Kjd v2) >>= fun a4 =>
  ((
  if (a1 == 1) = true then
  (idx a3 0) >>= fun a5 =>
  (idx v2.fKids 0) >>= fun a6 =>
  (Kjn (view0,a5,a6)) >>= fun a7 =>
  (idx a3 1) >>= fun a8 =>
  (idx v2.fKids 1) >>= fun a9 =>
  (Kjn (view0,a8,a9)) >>= fun b1 =>
  (idx a4.fKids 0) >>= fun b2 =>
  (idx (List.set a4.fKids (Int.toNat 0) a7) 1) >>= fun b3 =>
  some ((List.set (List.set a4.fKids (Int.toNat 0) a7) (Int.toNat 1) b1))
  else
  ((
  if (a1 == 2) = true then
  (idx a3 (wr (v2.fOp - 6))) >>= fun b4 =>
  (idx v2.fKids 0) >>= fun b5 =>
  (Kjn (view0,b4,b5)) >>= fun b6 =>
  (idx a4.fKids 0) >>= fun b7 =>
  some ((List.set a4.fKids (Int.toNat 0) b6))
  else
  ((
  if (a1 == 4) = true then
  (Kgb (view0,a2)) >>= fun b8 =>
  ((
  if b8 = true then
  (idx a3 0) >>= fun b9 =>
  (idx v2.fKids 0) >>= fun c0 =>
  (Kjn (view0,b9,c0)) >>= fun c1 =>
  (idx a4.fKids 0) >>= fun c2 =>
  some ((List.set a4.fKids (Int.toNat 0) c1))
  else
  (idx a3 0) >>= fun c3 =>
  (Kjk c3) >>= fun c4 =>
  (idx a4.fKids 0) >>= fun c5 =>
  some ((List.set a4.fKids (Int.toNat 0) c4))
  ) : Option ((List K02))) >>= fun c6 =>
  some (c6)
  else
  some (a4.fKids)
  ) : Option ((List K02))) >>= fun c7 =>
  some (c7)
  ) : Option ((List K02))) >>= fun c8 =>
  some (c8)
  ) : Option ((List K02))) >>= fun c9 =>
  some (K02.mk a4.fOp a4.fN a4.fType c9)
 partial_fixpoint
def Kjo (p : (List Int) × (List Int) × K02) (r : K02) : Prop :=
 match p with
 | (view0,ty1,v2) => Q75 Tryz.prog 97 [sI view0,sI ty1,K1e v2] (K1j r) []
theorem Kjp : ∀ p r,Kjn p = some r → Kjo p r := by
 refine Kjn.partial_correctness Kjo ?_
 rintro impl_eraseValue_f impl_eraseValue_ih ⟨view0,ty1,v2⟩ r h
 refine b0 Tryz.f97 B97 91 [(0,sI view0),(1,sI ty1),(2,K1e v2)] fun c hc => ?_
 refine rs hc none [some (.new 1),some (.new 2)] [(0,sI view0),(1,sI ty1),(5,.ra 1 0),(6,.ra 2 0)] [(1,K1d v2),(2,.box [I 0,I 0,.nils,.nils])] tv ?_
 obtain ⟨a0,a1,⟨a2,a3⟩,a4,h⟩ := bq2 h
 refine rss hc none [oN,some (.el (I a0)),oN,oc (.tup [I a2,I a3]),oN,oN,oN,oN,oN] [(0,sI view0),(1,sI ty1),(5,.ra 1 0),(6,.ra 2 0),(7,I a2),(8,I a3)] (ai (ix a1) (cq (Keu _ _ a4) K4f tv)) ?_
 obtain ⟨a5,a6,h⟩ := Qds h
 refine rs hc none [oN,some (.call (.osl (List.map K0n a5)) [] 3),oN] [(0,sI view0),(5,.ra 1 0),(6,.ra 2 0),(7,I a2),(8,I a3),(9,.rs 3)] [(1,K1d v2),(2,.box [I 0,I 0,.nils,.nils]),(3,.arr (List.map K0n a5))] (cq (Kfx _ _ a6) K4u tv) ?_
 obtain ⟨a7,a8,h⟩ := Qds h
 refine rs hc none [oN,some (.call (K1j a7) [] 4),some (.new 6),oN] [(0,sI view0),(5,.ra 1 0),(6,.ra 2 0),(7,I a2),(8,I a3),(9,.rs 3),(10,.ra 6 0)] [(1,K1d v2),(2,.box [I 0,I 0,.nils,.nils]),(3,.arr (List.map K0n a5)),(4,rI a7.fType),(5,.arr (List.map K0b a7.fKids)),(6,.box [I a7.fOp,I a7.fN,.rs 4,.rs 5])] (cq (Kji _ _ a8) K62 tv) ?_
 refine sN ?_
 refine K6n hc 1 [(0,sI view0),(5,.ra 1 0),(6,.ra 2 0),(8,I a3),(9,.rs 3),(10,.ra 6 0),(22,I a2)] ?_
 refine bk 0 ?_
 refine K6n hc 2 [(0,sI view0),(5,.ra 1 0),(6,.ra 2 0),(8,I a3),(9,.rs 3),(10,.ra 6 0),(22,I a2),(23,.bool (a2 == 1))] ?_
 obtain ⟨a9,b1,h⟩ := Qds h
 refine Wp.into (x := .normal) (mkS [(6,.ra 2 0),(10,.ra 6 0)] [(2,.box [I 0,I 0,.nils,.nils]),(4,rI a7.fType),(5,.arr (List.map K0b a9)),(6,.box [I a7.fOp,I a7.fN,.rs 4,.rs 5])]) ?_ ?_
 ·replace h := b1
  refine ic h (fun b2 h => ?_) fun b2 h => ?_
  ·obtain ⟨b3,b4,b5,b6,b7,b8,b9,c0,h⟩ := bq4 h
   obtain ⟨c1,c2,c3,c4,c5,c6,c7,c8,h⟩ := bq4 h
   refine rg hc (rx [[0],[1],[0],[0,2],[0],[0],[0,5],[0,5,6],[0],[0,8],[0,8,9],[0,8,9,10],[0,4,5,6,7,8,9,10,11],[0],[0],[0,14],[0,14,15],[0],[0,17],[0,17,18],[0,17,18,19],[0,4,5,6,7,8,9,10,11,12,13,14,15,16,17,18,19,20],[2,4,5,6,7,8,9,10,11,12,13,14,15,16,17,18,19,20,21],[2,4,5,6,7,8,9,10,11,12,13,14,15,16,17,18,19,20,21,22],[24],[25]]) [oN,oN,oN,oN,oN,oN,oN,some (.el (sI b3)),oN,oN,some (.el (K1e b5)),oN,some (.call (K1j b7) [] 7),oN,oN,oN,some (.el (sI b9)),oN,oN,some (.el (K1e c1)),oN,some (.call (K1j c3) [] 9),oN,some (.eqv (.mk 0 true) ⟨[],[(5,some (.arr (List.map K0b (List.set a7.fKids (Int.toNat 0) b7)))),(7,none),(8,none)],[]⟩),oN,some (.eqv (.mk 0 true) ⟨[],[(5,some (.arr (List.map K0b (List.set (List.set a7.fKids (Int.toNat 0) b7) (Int.toNat 1) c3)))),(9,none),(10,none)],[]⟩)] [(6,.ra 2 0),(10,.ra 6 0)] [(2,.box [I 0,I 0,.nils,.nils]),(4,rI a7.fType),(5,.arr (List.map K0b (List.set (List.set a7.fKids (Int.toNat 0) b7) (Int.toNat 1) c3))),(6,.box [I a7.fOp,I a7.fN,.rs 4,.rs 5])] (ac (Qdx (enc := K0n) b4) (xL b4).2 (Qdw b6 (K0f b5)) (cq (impl_eraseValue_ih _ _ b8) K63 (ac (Qdx (enc := K0n) c0) (xL c0).2 (Qdw c2 (K0f c1)) (cq (impl_eraseValue_ih _ _ c4) K63 (ad (Qdx (enc := K0b) c6) (congrArg (fun z => (⟨[],[(5,some (.arr z)),(7,none),(8,none)],[]⟩ : Wr)) (Qev (enc := K0b) (i := Int.toNat 0) (l := a7.fKids) (v := b7) (x := AV.agg [I b7.fOp,I b7.fN,oI b7.fType,AV.osl (List.map K0b b7.fKids)]) (K0h b7))) (Qew (enc := K0b) (sz := 4) K0u c6) (Qdx (enc := K0b) c8) (ab (congrArg (fun z => (⟨[],[(5,some (.arr z)),(9,none),(10,none)],[]⟩ : Wr)) (Qev (enc := K0b) (i := Int.toNat 1) (l := (List.set a7.fKids (Int.toNat 0) b7)) (v := c3) (x := AV.agg [I c3.fOp,I c3.fN,oI c3.fType,AV.osl (List.map K0b c3.fKids)]) (K0h c3))) (Qew (enc := K0b) (sz := 4) K0u c8) tv)))))) ?_
   obtain rfl := os h
   exact Qde.mk
  refine K6n hc 2 [(0,sI view0),(5,.ra 1 0),(6,.ra 2 0),(8,I a3),(9,.rs 3),(10,.ra 6 0),(22,I a2),(49,.bool (a2 == 2))] ?_
  obtain ⟨c9,d0,h⟩ := Qds h
  refine Wp.into (x := .normal) (mkS [(6,.ra 2 0),(10,.ra 6 0)] [(2,.box [I 0,I 0,.nils,.nils]),(4,rI a7.fType),(5,.arr (List.map K0b c9)),(6,.box [I a7.fOp,I a7.fN,.rs 4,.rs 5])]) ?_ ?_
  ·replace h := d0
   refine ic h (fun d1 h => ?_) fun d1 h => ?_
   ·obtain ⟨d2,d3,d4,d5,d6,d7,d8,d9,h⟩ := bq4 h
    refine rg hc (rx [[0],[1],[0],[0],[0],[0,4],[0,4,5],[0,3,4,5,6],[0,3,4,5,6,7],[0],[0,9],[0,9,10],[0,9,10,11],[0,2,3,4,5,6,7,8,9,10,11,12],[14],[15]]) [oN,oN,oN,oN,oN,oN,oN,oN,some (.el (sI d2)),oN,oN,some (.el (K1e d4)),oN,some (.call (K1j d6) [] 11),oN,some (.eqv (.mk 0 true) ⟨[],[(5,some (.arr (List.map K0b (List.set a7.fKids (Int.toNat 0) d6)))),(11,none),(12,none)],[]⟩)] [(6,.ra 2 0),(10,.ra 6 0)] [(2,.box [I 0,I 0,.nils,.nils]),(4,rI a7.fType),(5,.arr (List.map K0b (List.set a7.fKids (Int.toNat 0) d6))),(6,.box [I a7.fOp,I a7.fN,.rs 4,.rs 5])] (ac (Qdx (enc := K0n) d3) (xL d3).2 (Qdw d5 (K0f d4)) (cq (impl_eraseValue_ih _ _ d7) K63 (ac (Qdx (enc := K0b) d9) (congrArg (fun z => (⟨[],[(5,some (.arr z)),(11,none),(12,none)],[]⟩ : Wr)) (Qev (enc := K0b) (i := Int.toNat 0) (l := a7.fKids) (v := d6) (x := AV.agg [I d6.fOp,I d6.fN,oI d6.fType,AV.osl (List.map K0b d6.fKids)]) (K0h d6))) (Qew (enc := K0b) (sz := 4) K0u d9) tv))) ?_
    obtain rfl := os h
    exact Qde.mk
   refine K6n hc 2 [(0,sI view0),(5,.ra 1 0),(6,.ra 2 0),(8,I a3),(9,.rs 3),(10,.ra 6 0),(66,.bool (a2 == 4))] ?_
   obtain ⟨e0,e1,h⟩ := Qds h
   refine Wp.into (x := .normal) (mkS [(6,.ra 2 0),(10,.ra 6 0)] [(2,.box [I 0,I 0,.nils,.nils]),(4,rI a7.fType),(5,.arr (List.map K0b e0)),(6,.box [I a7.fOp,I a7.fN,.rs 4,.rs 5])]) ?_ ?_
   ·replace h := e1
    refine ic h (fun e2 h => ?_) fun e2 h => ?_
    ·obtain ⟨e3,e4,h⟩ := Qds h
     refine rss hc none [oN,oN,oc (.bool e3)] [(0,sI view0),(5,.ra 1 0),(6,.ra 2 0),(9,.rs 3),(10,.ra 6 0),(70,.bool e3)] (cq (Kgd _ _ e4) K51 tv) ?_
     obtain ⟨e5,e6,h⟩ := Qds h
     refine Wp.into (x := .normal) (mkS [(6,.ra 2 0),(10,.ra 6 0)] [(2,.box [I 0,I 0,.nils,.nils]),(4,rI a7.fType),(5,.arr (List.map K0b e5)),(6,.box [I a7.fOp,I a7.fN,.rs 4,.rs 5])]) ?_ ?_
     ·replace h := e6
      refine ic h (fun e7 h => ?_) fun e7 h => ?_
      ·obtain ⟨e8,e9,f0,f1,f2,f3,f4,f5,h⟩ := bq4 h
       refine rg hc (rx [[0],[1],[0],[0],[0,3],[0,3,4],[0],[0,6],[0,6,7],[0,6,7,8],[0,2,3,4,5,6,7,8,9],[11],[12]]) [oN,oN,oN,oN,oN,some (.el (sI e8)),oN,oN,some (.el (K1e f0)),oN,some (.call (K1j f2) [] 13),oN,some (.eqv (.mk 0 true) ⟨[],[(5,some (.arr (List.map K0b (List.set a7.fKids (Int.toNat 0) f2)))),(13,none),(14,none)],[]⟩)] [(6,.ra 2 0),(10,.ra 6 0)] [(2,.box [I 0,I 0,.nils,.nils]),(4,rI a7.fType),(5,.arr (List.map K0b (List.set a7.fKids (Int.toNat 0) f2))),(6,.box [I a7.fOp,I a7.fN,.rs 4,.rs 5])] (ac (Qdx (enc := K0n) e9) (xL e9).2 (Qdw f1 (K0f f0)) (cq (impl_eraseValue_ih _ _ f3) K63 (ac (Qdx (enc := K0b) f5) (congrArg (fun z => (⟨[],[(5,some (.arr z)),(13,none),(14,none)],[]⟩ : Wr)) (Qev (enc := K0b) (i := Int.toNat 0) (l := a7.fKids) (v := f2) (x := AV.agg [I f2.fOp,I f2.fN,oI f2.fType,AV.osl (List.map K0b f2.fKids)]) (K0h f2))) (Qew (enc := K0b) (sz := 4) K0u f5) tv))) ?_
       obtain rfl := os h
       exact Qde.mk
      obtain ⟨f6,f7,f8,f9,g0,g1,h⟩ := bq3 h
      refine rg hc (rx [[0],[1],[0],[0,2],[0,2,3],[0,2,3,4],[6],[7]]) [oN,oN,oN,oN,some (.el (sI f6)),some (.call (K1j f8) [] 15),oN,some (.eqv (.mk 0 true) ⟨[],[(5,some (.arr (List.map K0b (List.set a7.fKids (Int.toNat 0) f8)))),(15,none),(16,none)],[]⟩)] [(6,.ra 2 0),(10,.ra 6 0)] [(2,.box [I 0,I 0,.nils,.nils]),(4,rI a7.fType),(5,.arr (List.map K0b (List.set a7.fKids (Int.toNat 0) f8))),(6,.box [I a7.fOp,I a7.fN,.rs 4,.rs 5])] (ab (Qdx (enc := K0n) f7) (xL f7).2 (cq (Kjm _ _ f9) K64 (ac (Qdx (enc := K0b) g1) (congrArg (fun z => (⟨[],[(5,some (.arr z)),(15,none),(16,none)],[]⟩ : Wr)) (Qev (enc := K0b) (i := Int.toNat 0) (l := a7.fKids) (v := f8) (x := AV.agg [I f8.fOp,I f8.fN,oI f8.fType,AV.osl (List.map K0b f8.fKids)]) (K0h f8))) (Qew (enc := K0b) (sz := 4) K0u g1) tv))) ?_
      obtain rfl := os h
      exact Qde.mk
     clear e6
     obtain rfl := os h
     exact Qde.mk
    refine sk ?_
    obtain rfl := os h
    exact iv []
   clear e1
   obtain rfl := os h
   exact Qde.mk
  clear d0
  obtain rfl := os h
  exact Qde.mk
 clear b1
 refine rs0 hc 2 [(6,.ra 2 0)] [(2,.box [I a7.fOp,I a7.fN,.rs 4,.rs 5]),(4,rI a7.fType),(5,.arr (List.map K0b a9))] ?_
 refine rt ?_
 obtain rfl := os h
 exact rq [true]
def Kjq (p : K00 × (List Int) × (List Int) × K02) : Option (K02 × Bool) :=
 match p with
 | (s0,view1,ty2,v3) =>
  ((
  (Kep (s0,view1)) >>= fun a0 =>
  if a0 = true then
  (Kj9 (s0,ty2,v3)) >>= fun a1 =>
  some ((!a1))
  else
  some (true)
  ) : Option (Bool)) >>= fun a2 =>
  if a2 = true then
  some ((K02.mk 0 0 [] []),false)
  else
  (Kjn (view1,ty2,v3)) >>= fun a3 =>
  some (a3,true)
def Kjr (p : K00 × (List Int) × (List Int) × K02) (r : K02 × Bool) : Prop :=
 match p with
 | (s0,view1,ty2,v3) => Q75 Tryz.prog 30 [K1a s0,sI view1,sI ty2,K1e v3] (.tup [.agg [I r.1.fOp,I r.1.fN,.osl (List.map I r.1.fType),.osl (List.map K0b r.1.fKids)],.bool r.2]) []
theorem Kjs : ∀ p r,Kjq p = some r → Kjr p r := by
 rintro ⟨s0,view1,ty2,v3⟩ r h
 unfold Kjq at h
 refine b0 Tryz.f30 B30 26 [(0,K1a s0),(1,sI view1),(2,sI ty2),(3,K1e v3)] fun c hc => ?_
 refine rs hc none [some (.new 1),some (.new 2),some (.new 3),oN] [(1,sI view1),(2,sI ty2),(4,.ra 1 0),(7,.ra 2 0),(8,.ra 3 0)] [(1,K19 s0),(2,K1d v3),(3,.box [I 0,I 0,.nils,.nils])] tv ?_
 refine sN ?_
 refine sN ?_
 obtain ⟨a0,a1,h⟩ := Qds h
 refine Wp.into (x := .normal) (mkS [(1,sI view1),(2,sI ty2),(7,.ra 2 0),(8,.ra 3 0),(20,.bool a0)] [(2,K1d v3),(3,.box [I 0,I 0,.nils,.nils])]) ?_ ?_
 ·replace h := a1
  obtain ⟨a2,a3,h⟩ := Qds h
  rcases is h with ⟨a4,h⟩ | ⟨a4,h⟩
  ·obtain ⟨a5,a6,h⟩ := Qds h
   refine rg hc none [oN,oN,oc (.bool a2),oN,oN,oN,oN,oN,oc (.bool a5),oN,oF] [(1,sI view1),(2,sI ty2),(7,.ra 2 0),(8,.ra 3 0),(20,.bool (!a5))] [(2,K1d v3),(3,.box [I 0,I 0,.nils,.nils])] (cq (Ker _ _ a3) K4d (ar 4 (nF a4) (cq (Kjb _ _ a6) K60 (ar 2 (nF a4) tv)))) ?_
   obtain rfl := os h
   exact Qde.mk
  refine rg hc none [oN,oN,oc (.bool a2),oN,oN,o_,o_,o_,o_,o_,oT] [(1,sI view1),(2,sI ty2),(7,.ra 2 0),(8,.ra 3 0),(20,.bool true)] [(2,K1d v3),(3,.box [I 0,I 0,.nils,.nils])] (cq (Ker _ _ a3) K4d (ar 5 (neF (nT a4)) (ai (nT a4) tv))) ?_
  obtain rfl := os h
  exact Qde.mk
 clear a1
 refine ic h (fun a7 h => ?_) fun a7 h => ?_
 ·refine rs0 hc 3 [(8,.ra 3 0),(9,.bool false)] [(3,.box [I 0,I 0,.nils,.nils])] ?_
  refine rt ?_
  obtain rfl := os h
  exact rq [true,true]
 refine sk ?_
 obtain ⟨a8,a9,h⟩ := Qds h
 refine rs hc none [oN,oN,oN,some (.call (K1j a8) [] 4),oN,oN] [(8,.ra 3 0),(9,.bool true)] [(3,.box [I a8.fOp,I a8.fN,.rs 4,.rs 5]),(4,rI a8.fType),(5,.arr (List.map K0b a8.fKids))] (cq (Kjp _ _ a9) K63 tv) ?_
 refine rt ?_
 obtain rfl := os h
 exact rq [true,true]
def Kjt (op0 : Int) : Option (K03 × Bool) :=
 (Kcq (op0,0,12)) >>= fun a0 =>
 if a0 = true then
 (idx [(K03.mk (ByteArray.mk #[120]) 0 false false),(K03.mk ByteArray.empty 0 false false),(K03.mk (ByteArray.mk #[97,100,100]) 2 false false),(K03.mk (ByteArray.mk #[105,102]) 3 false false),(K03.mk (ByteArray.mk #[112,97,105,114]) 2 false false),(K03.mk (ByteArray.mk #[115,112,108,105,116]) 2 true false),(K03.mk (ByteArray.mk #[108,101,102,116]) 1 false true),(K03.mk (ByteArray.mk #[114,105,103,104,116]) 1 false true),(K03.mk (ByteArray.mk #[99,97,115,101]) 3 true false),(K03.mk (ByteArray.mk #[102,117,110]) 1 true true),(K03.mk (ByteArray.mk #[97,112,112]) 2 false false),(K03.mk (ByteArray.mk #[98,111,120]) 1 true false),(K03.mk (ByteArray.mk #[111,112,101,110]) 2 true false)] op0) >>= fun a1 =>
 some (a1,true)
 else
 some ((K03.mk ByteArray.empty 0 false false),false)
def Kju (op0 : Int) (r : K03 × Bool) : Prop :=
 Q75 Tryz.prog 188 [I op0] (.tup [.agg [.str r.1.fword,I r.1.fkids,.bool r.1.fgrade,.bool r.1.ftyped],.bool r.2]) []
theorem Kjv : ∀ p r,Kjt p = some r → Kju p r := by
 rintro op0 r h
 unfold Kjt at h
 refine b0 Tryz.f188 K66 25 [(0,I op0)] fun c hc => ?_
 refine rs hc none [some (.new 1),oN] [(0,I op0),(2,.ra 1 0)] [(1,.box [.str ByteArray.empty,I 0,.bool false,.bool false])] tv ?_
 refine sN ?_
 obtain ⟨a0,a1,h⟩ := Qds h
 refine rss hc none [oN,oc (.bool a0),oN] [(0,I op0),(2,.ra 1 0),(6,.bool (!a0))] (cq (Kcs _ _ a1) K3y tv) ?_
 rcases is h with ⟨a2,h⟩ | ⟨a2,h⟩
 ·refine cF (!a0) (nF a2) ?_
  refine sk ?_
  obtain ⟨a3,a4,h⟩ := Qds h
  refine rs hc none [oN,oN,oN,oN,oN,oN,oN,oN,oN,oN,oN,oN,oN,some (.mk 2 true),oN,oN,some (.el (.agg [.str a3.fword,I a3.fkids,.bool a3.fgrade,.bool a3.ftyped])),oN,oN] [(2,.ra 1 0),(3,.bool true)] [(1,.box [.str a3.fword,I a3.fkids,.bool a3.fgrade,.bool a3.ftyped])] (ab (Qdx (enc := K0i) a4) (Qdw (enc := K0i) (x := .agg [.str a3.fword,I a3.fkids,.bool a3.fgrade,.bool a3.ftyped]) a4 (K14 a3)).2 tv) ?_
  refine rt ?_
  obtain rfl := os h
  exact rq [true,true]
 refine cT (!a0) (nT a2) ?_
 refine K6n hc 3 [(2,.ra 1 0),(3,.bool false)] ?_
 refine rt ?_
 obtain rfl := os h
 exact rq [true,true]
def Kjw (g0 : Int) : Option (Bool) :=
 (Kcq (g0,(-1),15)) >>= fun a0 =>
 some a0
def Kjx (g0 : Int) (r : Bool) : Prop :=
 Q75 Tryz.prog 189 [I g0] (.bool r) []
theorem Kjy : ∀ p r,Kjw p = some r → Kjx p r := by
 rintro g0 r h
 unfold Kjw at h
 refine b0 Tryz.f189 K68 5 [(0,I g0)] fun c hc => ?_
 refine rs0 hc 1 [(0,I g0)] [] ?_
 obtain ⟨a0,a1,h⟩ := Qds h
 refine rs hc none [oN,oc (.bool a0),oN] [(2,.bool a0)] [] (cq (Kcs _ _ a1) K3y tv) ?_
 refine rt ?_
 obtain rfl := os h
 exact rq [true]
def Kjz (p : Int × Int) : Option (Int) :=
 match p with
 | (op0,kid1) =>
  ((
  if (op0 == 5) = true then
  some ((kid1 == 1))
  else
  some (false)
  ) : Option (Bool)) >>= fun a0 =>
  if a0 = true then
  some 2
  else
  ((
  if (op0 == 8) = true then
  some ((decide (kid1 > 0)))
  else
  some (false)
  ) : Option (Bool)) >>= fun a1 =>
  ((
  if a1 = true then
  some (a1)
  else
  ((
  if (op0 == 9) = true then
  some ((op0 == 9))
  else
  ((
  if (op0 == 12) = true then
  some ((kid1 == 1))
  else
  some (false)
  ) : Option (Bool)) >>= fun a2 =>
  some (a2)
  ) : Option (Bool)) >>= fun a3 =>
  some (a3)
  ) : Option (Bool)) >>= fun a4 =>
  if a4 = true then
  some 1
  else
  some 0
def Kk0 (p : Int × Int) (r : Int) : Prop :=
 match p with
 | (op0,kid1) => Q75 Tryz.prog 199 [I op0,I kid1] (I r) []
theorem Kk1 : ∀ p r,Kjz p = some r → Kk0 p r := by
 rintro ⟨op0,kid1⟩ r h
 unfold Kjz at h
 refine b0 Tryz.f199 K6a 27 [(0,I op0),(1,I kid1)] fun c hc => ?_
 refine rs0 hc 1 [(0,I op0),(1,I kid1)] [] ?_
 refine sN ?_
 refine bk 0 ?_
 refine sN ?_
 obtain ⟨a0,a1,h⟩ := Qds h
 refine Wp.into (x := .normal) (mkS [(0,I op0),(1,I kid1),(5,.bool a0)] []) ?_ ?_
 ·replace h := a1
  rcases is h with ⟨a2,h⟩ | ⟨a2,h⟩
  ·refine rg hc none [oN,oN,oN,oN,oN,oT,oN] [(0,I op0),(1,I kid1),(5,.bool (kid1 == 1))] [] (ar 3 a2 tv) ?_
   obtain rfl := os h
   exact Qde.mk
  refine rg hc none [oN,oN,oN,o_,o_,oF,oN] [(0,I op0),(1,I kid1),(5,.bool false)] [] (ar 2 (neT a2) (ai a2 tv)) ?_
  obtain rfl := os h
  exact Qde.mk
 clear a1
 refine ic h (fun a3 h => ?_) fun a3 h => ?_
 ·refine rs0 hc 1 [(4,I 2)] [] ?_
  refine rt ?_
  obtain rfl := os h
  exact rq [true]
 refine sN ?_
 refine sN ?_
 obtain ⟨a4,a5,h⟩ := Qds h
 refine Wp.into (x := .normal) (mkS [(0,I op0),(1,I kid1),(12,.bool a4)] []) ?_ ?_
 ·replace h := a5
  rcases is h with ⟨a6,h⟩ | ⟨a6,h⟩
  ·refine rg hc none [oN,oN,oN,oN,oN,oT,oN] [(0,I op0),(1,I kid1),(12,.bool (decide (kid1 > 0)))] [] (ar 3 a6 tv) ?_
   obtain rfl := os h
   exact Qde.mk
  refine rg hc none [oN,oN,oN,o_,o_,oF,oN] [(0,I op0),(1,I kid1),(12,.bool false)] [] (ar 2 (neT a6) (ai a6 tv)) ?_
  obtain rfl := os h
  exact Qde.mk
 clear a5
 obtain ⟨a7,a8,h⟩ := Qds h
 refine Wp.into (x := .normal) (mkS [(12,.bool a7)] []) ?_ ?_
 ·replace h := a8
  refine ic h (fun a9 h => ?_) fun a9 h => ?_
  ·refine sk ?_
   obtain rfl := os h
   exact iv []
  refine rs0 hc 3 [(0,I op0),(1,I kid1),(12,.bool (op0 == 9))] [] ?_
  obtain ⟨b1,b2,h⟩ := Qds h
  refine Wp.into (x := .normal) (mkS [(12,.bool b1)] []) ?_ ?_
  ·replace h := b2
   refine ic h (fun b3 h => ?_) fun b3 h => ?_
   ·refine sk ?_
    obtain rfl := os h
    exact iv []
   obtain ⟨b4,b5,h⟩ := Qds h
   refine Wp.into (x := .normal) (mkS [(12,.bool b4)] []) ?_ ?_
   ·replace h := b5
    rcases is h with ⟨b6,h⟩ | ⟨b6,h⟩
    ·refine rg hc none [oN,oN,oN,oN,oN,oT,oN] [(12,.bool (kid1 == 1))] [] (ar 3 b6 tv) ?_
     obtain rfl := os h
     exact Qde.mk
    refine rg hc none [oN,oN,oN,o_,o_,oF,oN] [(12,.bool false)] [] (ar 2 (neT b6) (ai b6 tv)) ?_
    obtain rfl := os h
    exact Qde.mk
   clear b5
   obtain rfl := os h
   exact Qde.mk
  clear b2
  obtain rfl := os h
  exact Qde.mk
 clear a8
 refine ic h (fun b7 h => ?_) fun b7 h => ?_
 ·refine rs0 hc 1 [(4,I 1)] [] ?_
  refine rt ?_
  obtain rfl := os h
  exact rq [true]
 refine sk ?_
 refine rs0 hc 1 [(4,I 0)] [] ?_
 refine rt ?_
 obtain rfl := os h
 exact rq [true]
def Kk2 (c : Ctx) : (Int) ⊕ (Int) → Exit → Q0a → Prop
 | .inl a0 => Qde c (.exit 1) (mkS [(4,I a0)] [])
 | .inr r => Qdn TIx Tryz.f134 [] (I r)
mutual
def Kk3 (p : K02 × Int × Int) : Option (Int) :=
 match p with
 | (t0,n1,nodes4) =>
  (Kjt t0.fOp) >>= fun (a0,a1) =>
  ((
  if a1 = true then
  if (decide ((wr (nodes4 + 1)) > 400)) = true then
   some (true)
  else
   some (((t0.fKids.length : Int) != a0.fkids))
  else
  some (true)
  ) : Option (Bool)) >>= fun a2 =>
  if a2 = true then
  some 401
  else
  ((
  if (t0.fOp == 0) = true then
   (Kcq (t0.fN,0,(wr (n1 - 1)))) >>= fun a3 =>
   some (a3)
  else
   ((
   if (t0.fOp == 1) = true then
   (Kcq (t0.fN,0,2)) >>= fun a4 =>
   some (a4)
   else
   ((
   if a0.fgrade = true then
   (Kjw t0.fN) >>= fun a5 =>
   some (a5)
   else
   some ((t0.fN == 0))
   ) : Option (Bool)) >>= fun a6 =>
   some (a6)
   ) : Option (Bool)) >>= fun a7 =>
   some (a7)
  ) : Option (Bool)) >>= fun a8 =>
  ((
  if a0.ftyped = true then
   ((
   if a8 = true then
   (Key t0.fType) >>= fun a9 =>
   some (a9)
   else
   some (false)
   ) : Option (Bool)) >>= fun b1 =>
   some (b1)
  else
   ((
   if a8 = true then
   some (((t0.fType.length : Int) == 0))
   else
   some (false)
   ) : Option (Bool)) >>= fun b2 =>
   some (b2)
  ) : Option (Bool)) >>= fun b3 =>
  if b3 = true then
  (Kk4 (t0,n1,(wr (nodes4 + 1)),0)) >>= fun fl => match fl with
  | .inl b4 =>
   some b4
  | .inr r =>
   some r
  else
  some 401
 partial_fixpoint
def Kk4 (p : K02 × Int × Int × Int) : Option ((Int) ⊕ (Int)) :=
 match p with
 | (t0,n1,a0,a1) =>
  if (decide (a1 < (t0.fKids.length : Int))) = true then
  (idx t0.fKids a1) >>= fun a2 =>
  (Kjz (t0.fOp,a1)) >>= fun a3 =>
  (Kk3 (a2,(wr (n1 + a3)),a0)) >>= fun a4 =>
  if (decide (a4 > 400)) = true then
  some (.inr 401)
  else
  Kk4 (t0,n1,a4,(wr (a1 + 1)))
  else
  some (.inl a0)
 partial_fixpoint
end
def Kk5 (p : K02 × Int × Int) (r : Int) : Prop :=
 match p with
 | (t0,n1,nodes4) => Q75 Tryz.prog 134 [K1e t0,I n1,.fn 189 [],.fn 159 [],I nodes4] (I r) []
def Kk6 (p : K02 × Int × Int × Int) (fl : (Int) ⊕ (Int)) : Prop :=
 match p with
 | (t0,n1,a0,a1) => ∀ c : Ctx,c.nt = 104 → WpL Tryz.prog c (cl (cl (cr (cl (cr (cr (cr (cr (cr (cr (cr K6c))))))))))) (Kk2 c fl) (mkS [(1,I n1),(2,.fn 189 []),(3,.fn 159 []),(4,I a0),(5,.ra 1 0),(82,.sl (List.map K08 t0.fKids)),(83,I (t0.fKids.length : Int)),(84,I a1)] [(1,K1d t0)])
theorem Kk7 : (∀ p r,Kk3 p = some r → Kk5 p r) ∧ (∀ p r,Kk4 p = some r → Kk6 p r) := by
 refine Kk3.mutual_partial_correctness Kk5 Kk6 ?_ ?_
 ·rintro impl_check_Kimpl_writtenSize_c1_Kimpl_isWrittenType_l0_f impl_check_Kimpl_writtenSize_c1_Kimpl_isWrittenType_l0_ih ⟨t0,n1,nodes4⟩ r h
  refine b0 Tryz.f134 K6c 104 [(0,K1e t0),(1,I n1),(2,.fn 189 []),(3,.fn 159 []),(4,I nodes4)] fun c hc => ?_
  refine rs hc none [some (.new 1),oN] [(1,I n1),(2,.fn 189 []),(3,.fn 159 []),(4,I nodes4),(5,.ra 1 0)] [(1,K1d t0)] tv ?_
  refine K6n hc 3 [(1,I n1),(2,.fn 189 []),(3,.fn 159 []),(4,I (wr (nodes4 + 1))),(5,.ra 1 0)] ?_
  obtain ⟨⟨a0,a1⟩,a2,h⟩ := Qds h
  refine rs hc none [oN,oN,oc (.tup [.agg [.str a0.fword,I a0.fkids,.bool a0.fgrade,.bool a0.ftyped],.bool a1]),oN,oN,oN,some (.new 2),oN,oN] [(1,I n1),(2,.fn 189 []),(3,.fn 159 []),(4,I (wr (nodes4 + 1))),(5,.ra 1 0),(11,.ra 2 0),(12,.bool a1)] [(1,K1d t0),(2,.box [.str a0.fword,I a0.fkids,.bool a0.fgrade,.bool a0.ftyped])] (cq (Kjv _ _ a2) K67 tv) ?_
  refine sN ?_
  refine sN ?_
  obtain ⟨a3,a4,h⟩ := Qds h
  refine Wp.into (x := .normal) (mkS [(1,I n1),(2,.fn 189 []),(3,.fn 159 []),(4,I (wr (nodes4 + 1))),(5,.ra 1 0),(11,.ra 2 0),(36,.bool a3)] [(1,K1d t0),(2,.box [.str a0.fword,I a0.fkids,.bool a0.fgrade,.bool a0.ftyped])]) ?_ ?_
  ·replace h := a4
   rcases is h with ⟨a5,h⟩ | ⟨a5,h⟩
   ·rcases is h with ⟨a6,h⟩ | ⟨a6,h⟩
    ·refine rgs hc none [oN,oN,oN,oN,oN,oF,oN,o_,o_,o_,o_,o_,o_,oT] [(1,I n1),(2,.fn 189 []),(3,.fn 159 []),(4,I (wr (nodes4 + 1))),(5,.ra 1 0),(11,.ra 2 0),(36,.bool true)] (ar 3 (nF a5) (ar 6 (neF a6) (ai a6 tv))) ?_
     obtain rfl := os h
     exact Qde.mk
    refine rgs hc none [oN,oN,oN,oN,oN,oF,oN,oN,oN,some (.eqv (.no) ⟨[(32,I (t0.fKids.length : Int))],[],[]⟩),oN,oN,oN,oF] [(1,I n1),(2,.fn 189 []),(3,.fn 159 []),(4,I (wr (nodes4 + 1))),(5,.ra 1 0),(11,.ra 2 0),(36,.bool ((t0.fKids.length : Int) != a0.fkids))] (ar 3 (nF a5) (ar 3 a6 (ai (Qdy (d := 32) K08 t0.fKids) (ar 4 a6 tv)))) ?_
    obtain rfl := os h
    exact Qde.mk
   refine rgs hc none [oN,oN,oN,o_,o_,oT,oN,o_,o_,o_,o_,o_,o_,oT] [(1,I n1),(2,.fn 189 []),(3,.fn 159 []),(4,I (wr (nodes4 + 1))),(5,.ra 1 0),(11,.ra 2 0),(36,.bool true)] (ar 2 (neF (nT a5)) (ai (nT a5) (ar 6 nf (ai tt tv)))) ?_
   obtain rfl := os h
   exact Qde.mk
  clear a4
  refine ic h (fun a7 h => ?_) fun a7 h => ?_
  ·refine rs0 hc 1 [(10,I 401)] [] ?_
   refine rt ?_
   obtain rfl := os h
   exact rq [true]
  refine sk ?_
  refine sN ?_
  refine bk 0 ?_
  refine K6n hc 4 [(1,I n1),(2,.fn 189 []),(3,.fn 159 []),(4,I (wr (nodes4 + 1))),(5,.ra 1 0),(11,.ra 2 0),(40,.bool (t0.fOp == 0))] ?_
  obtain ⟨a8,a9,h⟩ := Qds h
  refine Wp.into (x := .normal) (mkS [(1,I n1),(2,.fn 189 []),(3,.fn 159 []),(4,I (wr (nodes4 + 1))),(5,.ra 1 0),(11,.ra 2 0),(12,.bool a8)] [(1,K1d t0),(2,.box [.str a0.fword,I a0.fkids,.bool a0.fgrade,.bool a0.ftyped])]) ?_ ?_
  ·replace h := a9
   refine ic h (fun b1 h => ?_) fun b1 h => ?_
   ·obtain ⟨b2,b3,h⟩ := Qds h
    refine rgs hc none [oN,oN,oN,oN,oc (.bool b2),oN] [(1,I n1),(2,.fn 189 []),(3,.fn 159 []),(4,I (wr (nodes4 + 1))),(5,.ra 1 0),(11,.ra 2 0),(12,.bool b2)] (cq (Kcs _ _ b3) K3y tv) ?_
    obtain rfl := os h
    exact Qde.mk
   refine K6n hc 4 [(1,I n1),(2,.fn 189 []),(3,.fn 159 []),(4,I (wr (nodes4 + 1))),(5,.ra 1 0),(11,.ra 2 0),(49,.bool (t0.fOp == 1))] ?_
   obtain ⟨b4,b5,h⟩ := Qds h
   refine Wp.into (x := .normal) (mkS [(1,I n1),(2,.fn 189 []),(3,.fn 159 []),(4,I (wr (nodes4 + 1))),(5,.ra 1 0),(11,.ra 2 0),(12,.bool b4)] [(1,K1d t0),(2,.box [.str a0.fword,I a0.fkids,.bool a0.fgrade,.bool a0.ftyped])]) ?_ ?_
   ·replace h := b5
    refine ic h (fun b6 h => ?_) fun b6 h => ?_
    ·obtain ⟨b7,b8,h⟩ := Qds h
     refine rgs hc none [oN,oN,oc (.bool b7),oN] [(1,I n1),(2,.fn 189 []),(3,.fn 159 []),(4,I (wr (nodes4 + 1))),(5,.ra 1 0),(11,.ra 2 0),(12,.bool b7)] (cq (Kcs _ _ b8) K3y tv) ?_
     obtain rfl := os h
     exact Qde.mk
    refine K6n hc 3 [(1,I n1),(2,.fn 189 []),(3,.fn 159 []),(4,I (wr (nodes4 + 1))),(5,.ra 1 0),(11,.ra 2 0),(56,.bool a0.fgrade)] ?_
    obtain ⟨b9,c0,h⟩ := Qds h
    refine Wp.into (x := .normal) (mkS [(1,I n1),(2,.fn 189 []),(3,.fn 159 []),(4,I (wr (nodes4 + 1))),(5,.ra 1 0),(11,.ra 2 0),(12,.bool b9)] [(1,K1d t0),(2,.box [.str a0.fword,I a0.fkids,.bool a0.fgrade,.bool a0.ftyped])]) ?_ ?_
    ·replace h := c0
     refine ic h (fun c1 h => ?_) fun c1 h => ?_
     ·obtain ⟨c2,c3,h⟩ := Qds h
      refine rgs hc none [oN,oN,oN,oc (.bool c2),oN] [(1,I n1),(2,.fn 189 []),(3,.fn 159 []),(4,I (wr (nodes4 + 1))),(5,.ra 1 0),(11,.ra 2 0),(12,.bool c2)] (cq (Kjy _ _ c3) K69 tv) ?_
      obtain rfl := os h
      exact Qde.mk
     refine K6m hc 4 [(1,I n1),(2,.fn 189 []),(3,.fn 159 []),(4,I (wr (nodes4 + 1))),(5,.ra 1 0),(11,.ra 2 0),(12,.bool (t0.fN == 0))] ?_
     obtain rfl := os h
     exact Qde.mk
    clear c0
    obtain rfl := os h
    exact Qde.mk
   clear b5
   obtain rfl := os h
   exact Qde.mk
  clear a9
  refine sN ?_
  refine rs0 hc 2 [(1,I n1),(2,.fn 189 []),(3,.fn 159 []),(4,I (wr (nodes4 + 1))),(5,.ra 1 0),(12,.bool a8),(64,.bool a0.ftyped)] [(1,K1d t0)] ?_
  obtain ⟨c4,c5,h⟩ := Qds h
  refine Wp.into (x := .normal) (mkS [(1,I n1),(2,.fn 189 []),(3,.fn 159 []),(4,I (wr (nodes4 + 1))),(5,.ra 1 0),(12,.bool c4)] [(1,K1d t0)]) ?_ ?_
  ·replace h := c5
   refine ic h (fun c6 h => ?_) fun c6 h => ?_
   ·obtain ⟨c7,c8,h⟩ := Qds h
    refine Wp.into (x := .normal) (mkS [(1,I n1),(2,.fn 189 []),(3,.fn 159 []),(4,I (wr (nodes4 + 1))),(5,.ra 1 0),(12,.bool c7)] [(1,K1d t0)]) ?_ ?_
    ·replace h := c8
     rcases is h with ⟨c9,h⟩ | ⟨c9,h⟩
     ·obtain ⟨d0,d1,h⟩ := Qds h
      refine rgs hc none [oN,oN,oN,oN,oN,oc (.bool d0),oT,oN] [(1,I n1),(2,.fn 189 []),(3,.fn 159 []),(4,I (wr (nodes4 + 1))),(5,.ra 1 0),(12,.bool d0)] (ar 4 c9 (cq (Kf0 _ _ d1) K4j (ai c9 tv))) ?_
      obtain rfl := os h
      exact Qde.mk
     refine rgs hc none [oN,oN,o_,o_,o_,o_,oF,oN] [(1,I n1),(2,.fn 189 []),(3,.fn 159 []),(4,I (wr (nodes4 + 1))),(5,.ra 1 0),(12,.bool false)] (ar 4 (neT c9) (ai c9 tv)) ?_
     obtain rfl := os h
     exact Qde.mk
    clear c8
    obtain rfl := os h
    exact Qde.mk
   obtain ⟨d2,d3,h⟩ := Qds h
   refine Wp.into (x := .normal) (mkS [(1,I n1),(2,.fn 189 []),(3,.fn 159 []),(4,I (wr (nodes4 + 1))),(5,.ra 1 0),(12,.bool d2)] [(1,K1d t0)]) ?_ ?_
   ·replace h := d3
    rcases is h with ⟨d4,h⟩ | ⟨d4,h⟩
    ·refine rgs hc none [oN,oN,oN,oN,some (.eqv (.no) ⟨[(76,I (t0.fType.length : Int))],[],[]⟩),oN,oT,oN] [(1,I n1),(2,.fn 189 []),(3,.fn 159 []),(4,I (wr (nodes4 + 1))),(5,.ra 1 0),(12,.bool ((t0.fType.length : Int) == 0))] (ar 3 d4 (ai (Qdy (d := 76) I t0.fType) (ar 2 d4 tv))) ?_
     obtain rfl := os h
     exact Qde.mk
    refine rgs hc none [oN,oN,o_,o_,o_,o_,oF,oN] [(1,I n1),(2,.fn 189 []),(3,.fn 159 []),(4,I (wr (nodes4 + 1))),(5,.ra 1 0),(12,.bool false)] (ar 4 (neT d4) (ai d4 tv)) ?_
    obtain rfl := os h
    exact Qde.mk
   clear d3
   obtain rfl := os h
   exact Qde.mk
  clear c5
  refine sN ?_
  refine K6n hc 2 [(1,I n1),(2,.fn 189 []),(3,.fn 159 []),(4,I (wr (nodes4 + 1))),(5,.ra 1 0),(80,.bool (!c4))] ?_
  rcases is h with ⟨d5,h⟩ | ⟨d5,h⟩
  ·refine cF (!c4) (nF d5) ?_
   refine sk ?_
   refine sN ?_
   refine rss hc none [oN,oN,some (.eqv (.no) ⟨[(83,I (t0.fKids.length : Int))],[],[]⟩),oN] [(1,I n1),(2,.fn 189 []),(3,.fn 159 []),(4,I (wr (nodes4 + 1))),(5,.ra 1 0),(82,.sl (List.map K08 t0.fKids)),(83,I (t0.fKids.length : Int)),(84,I 0)] (ai (Qdy (d := 83) K08 t0.fKids) tv) ?_
   refine bk 1 ?_
   obtain ⟨fl,d6,h⟩ := Qds h
   have hL := impl_check_Kimpl_writtenSize_c1_Kimpl_isWrittenType_l0_ih _ _ d6 c hc
   refine lp ?_
   rcases fl with d7 | r
   ·refine WpL.into (e := (.exit 1)) (mkS [(4,I d7)] []) hL ?_
    refine Qd6 ?_
    refine rs0 hc 2 [(10,I d7)] [] ?_
    refine rt ?_
    obtain rfl := os h
    exact rq [true]
   refine WpL.mono hL ?_
   rintro _ _ ⟨rfl,hfin⟩
   obtain rfl := os h
   exact ⟨.inl rfl,hfin⟩
  refine cT (!c4) (nT d5) ?_
  refine rs0 hc 1 [(10,I 401)] [] ?_
  refine rt ?_
  obtain rfl := os h
  exact rq [true]
 ·rintro impl_check_Kimpl_writtenSize_c1_Kimpl_isWrittenType_f impl_check_Kimpl_writtenSize_c1_Kimpl_isWrittenType_l0_f impl_check_Kimpl_writtenSize_c1_Kimpl_isWrittenType_ih impl_check_Kimpl_writtenSize_c1_Kimpl_isWrittenType_l0_ih ⟨t0,n1,d8,d9⟩ r h
  intro c hc
  refine WpL.step ?_
  refine K6n hc 1 [(1,I n1),(2,.fn 189 []),(3,.fn 159 []),(4,I d8),(5,.ra 1 0),(82,.sl (List.map K08 t0.fKids)),(83,I (t0.fKids.length : Int)),(84,I d9),(85,.bool (decide (d9 < (t0.fKids.length : Int))))] ?_
  refine sN ?_
  refine ic h (fun e0 h => ?_) fun e0 h => ?_
  ·refine sk ?_
   refine sN ?_
   refine bk 2 ?_
   obtain ⟨e1,e2,h⟩ := Qds h
   refine rs hc none [oN,some (.el (K1e e1)),oN,some (.new 4),oN,oN] [(1,I n1),(2,.fn 189 []),(3,.fn 159 []),(4,I d8),(5,.ra 1 0),(13,I d9),(14,.ra 4 0),(82,.sl (List.map K08 t0.fKids)),(83,I (t0.fKids.length : Int)),(84,I d9)] [(1,K1d t0),(4,K1d e1)] (ai (Qdw e2 (K0f e1)) tv) ?_
   obtain ⟨e3,e4,e5,e6,h⟩ := bq2 h
   refine rs hc (rx [[0],[0],[0],[0,2],[0],[0,2,3,4],[0,1,2,3,4,5],[0],[0],[0],[10],[11]]) [oN,oN,oN,oN,oN,oc (I e3),oN,oN,oN,oN,oc (I e5),oN] [(1,I n1),(2,.fn 189 []),(3,.fn 159 []),(4,I e5),(5,.ra 1 0),(82,.sl (List.map K08 t0.fKids)),(83,I (t0.fKids.length : Int)),(84,I d9)] [(1,K1d t0)] (cq (Kk1 _ _ e4) K6b (cq (impl_check_Kimpl_writtenSize_c1_Kimpl_isWrittenType_ih _ _ e6) K6d tv)) ?_
   refine K6n hc 2 [(1,I n1),(2,.fn 189 []),(3,.fn 159 []),(4,I e5),(5,.ra 1 0),(82,.sl (List.map K08 t0.fKids)),(83,I (t0.fKids.length : Int)),(84,I d9),(101,.bool (decide (e5 > 400)))] ?_
   refine ic h (fun e7 h => ?_) fun e7 h => ?_
   ·refine rs0 hc 1 [(10,I 401)] [] ?_
    refine rt ?_
    obtain rfl := os h
    exact re [true]
   refine sk ?_
   refine K6m hc 2 [(1,I n1),(2,.fn 189 []),(3,.fn 159 []),(4,I e5),(5,.ra 1 0),(82,.sl (List.map K08 t0.fKids)),(83,I (t0.fKids.length : Int)),(84,I (wr (d9 + 1)))] ?_
   refine Qda ?_
   exact (impl_check_Kimpl_writtenSize_c1_Kimpl_isWrittenType_l0_ih _ _ h c hc)
  refine xt 1 ?_
  refine Qd4 ?_
  refine Qdb ?_
  obtain rfl := os h
  exact iv []
theorem Kk8 : ∀ p r,Kk3 p = some r → Kk5 p r := Kk7.1
theorem Kk9 : ∀ p r,Kk4 p = some r → Kk6 p r := Kk7.2
def Kka (t0 : K02) : Option (Int) :=
 (Kk3 (t0,8,0)) >>= fun a0 =>
 some a0
def Kkb (t0 : K02) (r : Int) : Prop :=
 Q75 Tryz.prog 112 [K1e t0] (I r) []
theorem Kkc : ∀ p r,Kka p = some r → Kkb p r := by
 rintro t0 r h
 unfold Kka at h
 refine b0 Tryz.f112 K6e 5 [(0,K1e t0)] fun c hc => ?_
 refine rs hc none [some (.new 1),oN] [(1,.ra 1 0)] [(1,K1d t0)] tv ?_
 obtain ⟨a0,a1,h⟩ := Qds h
 refine rs hc none [oN,oc (I a0),oN] [(2,I a0)] [] (cq (Kk8 _ _ a1) K6d tv) ?_
 refine rt ?_
 obtain rfl := os h
 exact rq [true]
def Kkd (t0 : K02) : Option (Bool) :=
 (Kka t0) >>= fun a0 =>
 some (decide (a0 ≤ 400))
def Kke (t0 : K02) (r : Bool) : Prop :=
 Q75 Tryz.prog 40 [K1e t0] (.bool r) []
theorem Kkf : ∀ p r,Kkd p = some r → Kke p r := by
 rintro t0 r h
 unfold Kkd at h
 refine b0 Tryz.f40 B40 6 [(0,K1e t0)] fun c hc => ?_
 refine rs hc none [some (.new 1),oN] [(1,.ra 1 0)] [(1,K1d t0)] tv ?_
 obtain ⟨a0,a1,h⟩ := Qds h
 refine rs hc none [oN,oc (I a0),oN,oN] [(2,.bool (decide (a0 ≤ 400)))] [] (cq (Kkc _ _ a1) K6f tv) ?_
 refine rt ?_
 obtain rfl := os h
 exact rq [true]
def Kkg (c : Ctx) : (Unit) ⊕ (Bool) → Exit → Q0a → Prop
 | .inl _ => Qde c (.exit 0) (mkS [] [])
 | .inr r => Qdn TIx Tryz.f180 [] (.bool r)
mutual
def Kkh (p : K02 × K02) : Option (Bool) :=
 match p with
 | (a0,b1) =>
  ((
  if (a0.fOp == b1.fOp) = true then
  if (a0.fN == b1.fN) = true then
  (Kiz (a0.fType,b1.fType)) >>= fun a1 =>
  if a1 = true then
  (Kki (a0.fKids,b1.fKids)) >>= fun a2 =>
  some (a2)
  else
  some (false)
  else
  some (false)
  else
  some (false)
  ) : Option (Bool)) >>= fun a3 =>
  some a3
 partial_fixpoint
def Kki (p : (List K02) × (List K02)) : Option (Bool) :=
 match p with
 | (s10,s21) =>
  if ((s10.length : Int) != (s21.length : Int)) = true then
  some false
  else
  (Kkj (s10,s21,0)) >>= fun fl => match fl with
  | .inl () =>
   some true
  | .inr r =>
   some r
 partial_fixpoint
def Kkj (p : (List K02) × (List K02) × Int) : Option ((Unit) ⊕ (Bool)) :=
 match p with
 | (s10,s21,a0) =>
  if (decide (a0 < (s10.length : Int))) = true then
  (idx s10 a0) >>= fun a1 =>
  (idx s21 a0) >>= fun a2 =>
  (Kkh (a1,a2)) >>= fun a3 =>
  if a3 = true then
  Kkj (s10,s21,(wr (a0 + 1)))
  else
  some (.inr false)
  else
  some (.inl ())
 partial_fixpoint
end
def Kkk (p : K02 × K02) (r : Bool) : Prop :=
 match p with
 | (a0,b1) => Q75 Tryz.prog 98 [K1e a0,K1e b1] (.bool r) []
def Kkl (p : (List K02) × (List K02)) (r : Bool) : Prop :=
 match p with
 | (s10,s21) => Q75 Tryz.prog 180 [.sl (List.map K08 s10),.sl (List.map K08 s21),.fn 98 []] (.bool r) []
def Kkm (p : (List K02) × (List K02) × Int) (fl : (Unit) ⊕ (Bool)) : Prop :=
 match p with
 | (s10,s21,a0) => ∀ c : Ctx,c.nt = 32 → WpL Tryz.prog c (cl (cl (cr (cl (cr (cr K6h)))))) (Kkg c fl) (mkS [(1,.sl (List.map K08 s21)),(2,.fn 98 []),(15,.sl (List.map K08 s10)),(16,I (s10.length : Int)),(17,I a0)] [])
theorem Kkn : (∀ p r,Kkh p = some r → Kkk p r) ∧ (∀ p r,Kki p = some r → Kkl p r) ∧ (∀ p r,Kkj p = some r → Kkm p r) := by
 refine Kkh.mutual_partial_correctness Kkk Kkl Kkm ?_ ?_ ?_
 ·rintro slices_EqualFunc_Term_Kimpl_same_f slices_EqualFunc_Term_Kimpl_same_ih ⟨a0,b1⟩ r h
  refine b0 Tryz.f98 B98 31 [(0,K1e a0),(1,K1e b1)] fun c hc => ?_
  refine rs hc none [some (.new 1),some (.new 2),oN] [(2,.ra 1 0),(3,.ra 2 0)] [(1,K1d a0),(2,K1d b1)] tv ?_
  refine sN ?_
  obtain ⟨a1,a2,h⟩ := Qds h
  refine Wp.into (x := .normal) (mkS [(4,.bool a1)] []) ?_ ?_
  ·replace h := a2
   rcases is h with ⟨a3,h⟩ | ⟨a3,h⟩
   ·rcases is h with ⟨a4,h⟩ | ⟨a4,h⟩
    ·obtain ⟨a5,a6,h⟩ := Qds h
     rcases is h with ⟨a7,h⟩ | ⟨a7,h⟩
     ·obtain ⟨a8,a9,h⟩ := Qds h
      refine rg hc none [oN,oN,oN,oN,oN,oN,oN,oN,oN,oN,oN,oT,oN,oN,oN,oN,oN,oc (.bool a5),oT,oN,oN,oN,oN,oN,oc (.bool a8),oT,oN] [(4,.bool a8)] [] (ar 6 a3 (ar 5 a4 (cq (Kj1 _ _ a6) K5z (ai a4 (ar 5 a7 (cq (slices_EqualFunc_Term_Kimpl_same_ih _ _ a9) K6i (ai a7 tv))))))) ?_
      obtain rfl := os h
      exact Qde.mk
     refine rg hc none [oN,oN,oN,oN,oN,oN,oN,oN,oN,oN,oN,oT,oN,oN,oN,oN,oN,oc (.bool a5),oT,oN,o_,o_,o_,o_,o_,oF,oN] [(4,.bool false)] [] (ar 6 a3 (ar 5 a4 (cq (Kj1 _ _ a6) K5z (ai a4 (ar 5 (neT a7) (ai a7 tv)))))) ?_
     obtain rfl := os h
     exact Qde.mk
    refine rg hc none [oN,oN,oN,oN,oN,oN,oN,oN,oN,oN,oN,oT,oN,o_,o_,o_,o_,o_,oF,oN,o_,o_,o_,o_,o_,oF,oN] [(4,.bool false)] [] (ar 6 a3 (ar 5 (neT a4) (ai a4 (ar 5 (neT (rfl : false = false)) (ai (rfl : false = false) tv))))) ?_
    obtain rfl := os h
    exact Qde.mk
   refine rg hc none [oN,oN,oN,oN,oN,oN,o_,o_,o_,o_,o_,oF,oN,o_,o_,o_,o_,o_,oF,oN,o_,o_,o_,o_,o_,oF,oN] [(4,.bool false)] [] (ar 5 (neT a3) (ai a3 (ar 5 (neT (rfl : false = false)) (ai (rfl : false = false) (ar 5 (neT (rfl : false = false)) (ai (rfl : false = false) tv)))))) ?_
   obtain rfl := os h
   exact Qde.mk
  clear a2
  refine rt ?_
  obtain rfl := os h
  exact rq [true]
 ·rintro slices_EqualFunc_Term_Kimpl_same_l0_f slices_EqualFunc_Term_Kimpl_same_l0_ih ⟨s10,s21⟩ r h
  refine b0 Tryz.f180 K6h 32 [(0,.sl (List.map K08 s10)),(1,.sl (List.map K08 s21)),(2,.fn 98 [])] fun c hc => ?_
  refine rs0 hc 1 [(0,.sl (List.map K08 s10)),(1,.sl (List.map K08 s21)),(2,.fn 98 [])] [] ?_
  refine sN ?_
  refine rs hc none [oN,some (.eqv (.no) ⟨[(11,I (s10.length : Int))],[],[]⟩),oN,some (.eqv (.no) ⟨[(13,I (s21.length : Int))],[],[]⟩),oN] [(0,.sl (List.map K08 s10)),(1,.sl (List.map K08 s21)),(2,.fn 98 []),(14,.bool ((s10.length : Int) != (s21.length : Int)))] [] (ab (Qdy (d := 11) K08 s10) (Qdy (d := 13) K08 s21) tv) ?_
  refine ic h (fun b2 h => ?_) fun b2 h => ?_
  ·refine rs0 hc 1 [(6,.bool false)] [] ?_
   refine rt ?_
   obtain rfl := os h
   exact rq [true]
  refine sk ?_
  refine sN ?_
  refine rs hc none [oN,some (.eqv (.no) ⟨[(16,I (s10.length : Int))],[],[]⟩),oN] [(1,.sl (List.map K08 s21)),(2,.fn 98 []),(15,.sl (List.map K08 s10)),(16,I (s10.length : Int)),(17,I 0)] [] (ai (Qdy (d := 16) K08 s10) tv) ?_
  refine bk 0 ?_
  obtain ⟨fl,b3,h⟩ := Qds h
  have hL := slices_EqualFunc_Term_Kimpl_same_l0_ih _ _ b3 c hc
  refine lp ?_
  rcases fl with ⟨⟩ | r
  ·refine WpL.into (e := (.exit 0)) (mkS [] []) hL ?_
   refine Qd6 ?_
   refine rs0 hc 1 [(6,.bool true)] [] ?_
   refine rt ?_
   obtain rfl := os h
   exact rq [true]
  refine WpL.mono hL ?_
  rintro _ _ ⟨rfl,hfin⟩
  obtain rfl := os h
  exact ⟨.inl rfl,hfin⟩
 ·rintro impl_same_f slices_EqualFunc_Term_Kimpl_same_l0_f impl_same_ih slices_EqualFunc_Term_Kimpl_same_l0_ih ⟨s10,s21,b4⟩ r h
  intro c hc
  refine WpL.step ?_
  refine rs0 hc 1 [(1,.sl (List.map K08 s21)),(2,.fn 98 []),(15,.sl (List.map K08 s10)),(16,I (s10.length : Int)),(17,I b4),(18,.bool (decide (b4 < (s10.length : Int))))] [] ?_
  refine sN ?_
  refine ic h (fun b5 h => ?_) fun b5 h => ?_
  ·refine sk ?_
   refine sN ?_
   refine bk 1 ?_
   obtain ⟨b6,b7,h⟩ := Qds h
   refine rs hc none [oN,some (.el (K1e b6)),oN,some (.new 3),oN,oN] [(1,.sl (List.map K08 s21)),(2,.fn 98 []),(7,I b4),(8,.ra 3 0),(15,.sl (List.map K08 s10)),(16,I (s10.length : Int)),(17,I b4)] [(3,K1d b6)] (ai (Qdw b7 (K0f b6)) tv) ?_
   obtain ⟨b8,b9,h⟩ := Qds h
   refine rs hc none [oN,oN,some (.el (K1e b8)),oN,some (.new 4),oN] [(1,.sl (List.map K08 s21)),(2,.fn 98 []),(8,.ra 3 0),(9,.ra 4 0),(15,.sl (List.map K08 s10)),(16,I (s10.length : Int)),(17,I b4)] [(3,K1d b6),(4,K1d b8)] (ai (Qdw b9 (K0f b8)) tv) ?_
   obtain ⟨c0,c1,h⟩ := Qds h
   refine rs hc none [oN,oN,oN,oc (.bool c0),oN] [(1,.sl (List.map K08 s21)),(2,.fn 98 []),(15,.sl (List.map K08 s10)),(16,I (s10.length : Int)),(17,I b4),(30,.bool (!c0))] [] (cq (impl_same_ih _ _ c1) K6j tv) ?_
   rcases is h with ⟨c2,h⟩ | ⟨c2,h⟩
   ·refine cF (!c0) (nF c2) ?_
    refine sk ?_
    refine rg0 hc 2 [(1,.sl (List.map K08 s21)),(2,.fn 98 []),(15,.sl (List.map K08 s10)),(16,I (s10.length : Int)),(17,I (wr (b4 + 1)))] [] ?_
    refine Qda ?_
    exact (slices_EqualFunc_Term_Kimpl_same_l0_ih _ _ h c hc)
   refine cT (!c0) (nT c2) ?_
   refine rs0 hc 1 [(6,.bool false)] [] ?_
   refine rt ?_
   obtain rfl := os h
   exact re [true]
  refine xt 0 ?_
  refine Qd4 ?_
  refine Qdb ?_
  obtain rfl := os h
  exact iv []
theorem Kko : ∀ p r,Kkh p = some r → Kkk p r := Kkn.1
theorem Kkp : ∀ p r,Kki p = some r → Kkl p r := Kkn.2.1
theorem Kkq : ∀ p r,Kkj p = some r → Kkm p r := Kkn.2.2
def Kkr (p : K02 × K02) : Option (Bool) :=
 match p with
 | (a0,b1) =>
  ((
  (Kkd a0) >>= fun a1 =>
  if a1 = true then
  (Kkd b1) >>= fun a2 =>
  if a2 = true then
  (Kkh (a0,b1)) >>= fun a3 =>
  some (a3)
  else
  some (false)
  else
  some (false)
  ) : Option (Bool)) >>= fun a4 =>
  some a4
def Kks (p : K02 × K02) (r : Bool) : Prop :=
 match p with
 | (a0,b1) => Q75 Tryz.prog 31 [K1e a0,K1e b1] (.bool r) []
theorem Kkt : ∀ p r,Kkr p = some r → Kks p r := by
 rintro ⟨a0,b1⟩ r h
 unfold Kkr at h
 refine b0 Tryz.f31 B31 16 [(0,K1e a0),(1,K1e b1)] fun c hc => ?_
 refine rs hc none [some (.new 1),some (.new 2),oN] [(2,.ra 1 0),(3,.ra 2 0)] [(1,K1d a0),(2,K1d b1)] tv ?_
 refine sN ?_
 obtain ⟨a1,a2,h⟩ := Qds h
 refine Wp.into (x := .normal) (mkS [(4,.bool a1)] []) ?_ ?_
 ·replace h := a2
  obtain ⟨a3,a4,h⟩ := Qds h
  rcases is h with ⟨a5,h⟩ | ⟨a5,h⟩
  ·obtain ⟨a6,a7,h⟩ := Qds h
   rcases is h with ⟨a8,h⟩ | ⟨a8,h⟩
   ·obtain ⟨a9,b2,h⟩ := Qds h
    refine rg hc none [oN,oc (.bool a3),oN,oN,oc (.bool a6),oT,oN,oN,oN,oc (.bool a9),oT,oN] [(4,.bool a9)] [] (cq (Kkf _ _ a4) K6g (ar 2 a5 (cq (Kkf _ _ a7) K6g (ai a5 (ar 3 a8 (cq (Kko _ _ b2) K6j (ai a8 tv))))))) ?_
    obtain rfl := os h
    exact Qde.mk
   refine rg hc none [oN,oc (.bool a3),oN,oN,oc (.bool a6),oT,oN,o_,o_,o_,oF,oN] [(4,.bool false)] [] (cq (Kkf _ _ a4) K6g (ar 2 a5 (cq (Kkf _ _ a7) K6g (ai a5 (ar 3 (neT a8) (ai a8 tv)))))) ?_
   obtain rfl := os h
   exact Qde.mk
  refine rg hc none [oN,oc (.bool a3),oN,o_,o_,oF,oN,o_,o_,o_,oF,oN] [(4,.bool false)] [] (cq (Kkf _ _ a4) K6g (ar 2 (neT a5) (ai a5 (ar 3 (neT (rfl : false = false)) (ai (rfl : false = false) tv))))) ?_
  obtain rfl := os h
  exact Qde.mk
 clear a2
 refine rt ?_
 obtain rfl := os h
 exact rq [true]
def Kku (c : Ctx) (a0 : Int) : (Int) ⊕ (Bool) → Exit → Q0a → Prop
 | .inl a1 => Qde c (.exit 0) (mkS [(6,I a0),(7,I a1)] [])
 | .inr r => Qdn TIx Tryz.f4 [] (.bool r)
def Kkv (p : K00 × (List Int) × (List Int) × Int × Int × Int) : Option ((Int) ⊕ (Bool)) :=
 match p with
 | (a0,a1,a2,a3,a4,a5) =>
  (Kg1 (a0,a2)) >>= fun a6 =>
  if (decide (a5 < a6)) = true then
  (Kis (a0,a2,a5)) >>= fun (a7,a8) =>
  (Kjq (a0,a1,a2,a7)) >>= fun (a9,b1) =>
  if b1 = true then
  (Kkr (a9,a7)) >>= fun b2 =>
  ((
  if b2 = true then
  some ((wr (a4 + 1)))
  else
  some (a4)
  ) : Option (Int)) >>= fun b3 =>
  Kkv (a0,a1,a2,a3,b3,(wr (a5 + 1)))
  else
  some (.inr false)
  else
  some (.inl a4)
 partial_fixpoint
def Kkw (p : K00 × (List Int) × (List Int) × Int × Int × Int) (fl : (Int) ⊕ (Bool)) : Prop :=
 match p with
 | (a0,a1,a2,a3,a4,a5) => ∀ c : Ctx,c.nt = 64 → WpL Tryz.prog c (cl (cl (cr (cl (cr (cr (cr (cr (cr (cr B4)))))))))) (Kku c a3 fl) (mkS [(3,.ra 3 0),(4,.rs 1),(5,.rs 2),(6,I a3),(7,I a4),(8,I a5)] [(1,rI a1),(2,rI a2),(3,K19 a0)])
theorem Kkx : ∀ p r,Kkv p = some r → Kkw p r := by
 refine Kkv.partial_correctness Kkw ?_
 rintro laws_FnSeenCounted_l0_f laws_FnSeenCounted_l0_ih ⟨a0,a1,a2,a3,a4,a5⟩ r h
 intro c hc
 refine WpL.step ?_
 refine sN ?_
 obtain ⟨a6,a7,h⟩ := Qds h
 refine rss hc none [oN,oN,oN,oc (I a6),oN] [(3,.ra 3 0),(4,.rs 1),(5,.rs 2),(6,I a3),(7,I a4),(8,I a5),(36,.bool (decide (a5 < a6)))] (ac (Q75.args (A1 := [K1a a0,.sl (Q02 (List.map I a2))]) (A2 := [K1a a0,sI a2]) (by simp only [List.map_nil,Qek]) (Kg3 _ _ a7)) K4w (Or.inr rfl : ([2] : List Nat) = [] ∨ noSh (I a6) = true) tv) ?_
 refine ic h (fun a8 h => ?_) fun a8 h => ?_
 ·refine sk ?_
  refine sN ?_
  refine bk 1 ?_
  obtain ⟨⟨a9,b1⟩,b2,h⟩ := Qds h
  refine rs hc none [oN,oN,oN,some (.call (.tup [K1j a9,.bool b1]) [] 10),oN,oN,oN,some (.new 12),oN,oN] [(3,.ra 3 0),(4,.rs 1),(5,.rs 2),(6,I a3),(7,I a4),(8,I a5),(9,.ra 12 0)] [(1,rI a1),(2,rI a2),(3,K19 a0),(10,rI a9.fType),(11,.arr (List.map K0b a9.fKids)),(12,.box [I a9.fOp,I a9.fN,.rs 10,.rs 11])] (ac (Q75.args (A1 := [K1a a0,.sl (Q02 (List.map I a2)),I a5]) (A2 := [K1a a0,sI a2,I a5]) (by simp only [List.map_nil,Qek]) (Kiu _ _ b2)) K5w (Or.inr (Qeu (Qeu rfl (Qeu rfl (Qeu (Qes Qeo a9.fType) (Qeu (Qes K12 a9.fKids) rfl)))) (Qeu rfl rfl)) : ([2] : List Nat) = [] ∨ noSh (.tup [K1j a9,.bool b1]) = true) tv) ?_
  obtain ⟨⟨b3,b4⟩,b5,h⟩ := Qds h
  refine rs hc none [oN,oN,oN,oN,some (.call (.tup [K1j b3,.bool b4]) [] 13),oN,oN,oN,some (.new 15),oN,oN] [(3,.ra 3 0),(4,.rs 1),(5,.rs 2),(6,I a3),(7,I a4),(8,I a5),(9,.ra 12 0),(11,.ra 15 0),(12,.bool b4)] [(1,rI a1),(2,rI a2),(3,K19 a0),(10,rI a9.fType),(11,.arr (List.map K0b a9.fKids)),(12,.box [I a9.fOp,I a9.fN,.rs 10,.rs 11]),(13,rI b3.fType),(14,.arr (List.map K0b b3.fKids)),(15,.box [I b3.fOp,I b3.fN,.rs 13,.rs 14])] (ac (Q75.args (A1 := [K1a a0,.sl (Q02 (List.map I a1)),.sl (Q02 (List.map I a2)),K1k a9]) (A2 := [K1a a0,sI a1,sI a2,K1e a9]) (by simp only [K1k,List.map_nil,K11,Qek]) (Kjs _ _ b5)) K65 (Or.inr (Qeu (Qeu rfl (Qeu rfl (Qeu (Qes Qeo b3.fType) (Qeu (Qes K12 b3.fKids) rfl)))) (Qeu rfl rfl)) : ([1,2,10,11] : List Nat) = [] ∨ noSh (.tup [K1j b3,.bool b4]) = true) tv) ?_
  refine sN ?_
  refine K6n hc 2 [(3,.ra 3 0),(4,.rs 1),(5,.rs 2),(6,I a3),(7,I a4),(8,I a5),(9,.ra 12 0),(11,.ra 15 0),(55,.bool (!b4))] ?_
  rcases is h with ⟨b6,h⟩ | ⟨b6,h⟩
  ·refine cF (!b4) (nF b6) ?_
   refine sk ?_
   obtain ⟨b7,b8,h⟩ := Qds h
   refine rs hc none [oN,oN,oc (.bool b7)] [(3,.ra 3 0),(4,.rs 1),(5,.rs 2),(6,I a3),(7,I a4),(8,I a5),(58,.bool b7)] [(1,rI a1),(2,rI a2),(3,K19 a0)] (ac (Q75.args (A1 := [K1k b3,K1k a9]) (A2 := [K1e b3,K1e a9]) (by simp only [K1k,List.map_nil,K11,Qek]) (Kkt _ _ b8)) K6k (Or.inr rfl : ([13,14,10,11] : List Nat) = [] ∨ noSh (.bool b7) = true) tv) ?_
   obtain ⟨b9,c0,h⟩ := Qds h
   refine Wp.into (x := .normal) (mkS [(3,.ra 3 0),(4,.rs 1),(5,.rs 2),(6,I a3),(7,I b9),(8,I a5)] [(1,rI a1),(2,rI a2),(3,K19 a0)]) ?_ ?_
   ·replace h := c0
    refine ic h (fun c1 h => ?_) fun c1 h => ?_
    ·refine K6m hc 3 [(3,.ra 3 0),(4,.rs 1),(5,.rs 2),(6,I a3),(7,I (wr (a4 + 1))),(8,I a5)] ?_
     obtain rfl := os h
     exact Qde.mk
    refine sk ?_
    obtain rfl := os h
    exact iv []
   clear c0
   refine K6m hc 3 [(3,.ra 3 0),(4,.rs 1),(5,.rs 2),(6,I a3),(7,I b9),(8,I (wr (a5 + 1)))] ?_
   refine Qda ?_
   exact (laws_FnSeenCounted_l0_ih _ _ h c hc)
  refine cT (!b4) (nT b6) ?_
  refine rs0 hc 1 [(2,.bool false)] [] ?_
  refine rt ?_
  obtain rfl := os h
  exact re [true]
 refine xt 0 ?_
 refine Qd4 ?_
 refine Qdb ?_
 obtain rfl := os h
 exact iv []
def Kky (code0 : (List Int)) : Option (Bool) :=
 (K6p code0) >>= fun a0 =>
 if a0 = true then
 some true
 else
 (Kcn code0) >>= fun (a1,a2,a3) =>
 (Kgj (a1,a2,a3)) >>= fun a4 =>
 if (decide (a4 < 0)) = true then
 (Kij (a1,a2,a3)) >>= fun a5 =>
 some (decide (a5 < 0))
 else
 (Kkv (a1,a2,a3,a4,0,0)) >>= fun fl => match fl with
 | .inl a6 =>
  some (a6 == a4)
 | .inr r =>
  some r
def Kkz (code0 : (List Int)) (r : Bool) : Prop :=
 Q75 Tryz.prog 4 [.sl (List.map U8 code0)] (.bool r) []
theorem Kl0 : ∀ p r,Kky p = some r → Kkz p r := by
 rintro code0 r h
 unfold Kky at h
 refine b0 Tryz.f4 B4 64 [(0,.sl (List.map U8 code0))] fun c hc => ?_
 refine rs0 hc 1 [(0,.sl (List.map U8 code0))] [] ?_
 refine sN ?_
 obtain ⟨a0,a1,h⟩ := Qds h
 refine rs hc none [oN,oc (.bool a0)] [(0,.sl (List.map U8 code0)),(14,.bool a0)] [] (cq (K6r _ _ a1) K21 tv) ?_
 refine ic h (fun a2 h => ?_) fun a2 h => ?_
 ·refine rs0 hc 1 [(2,.bool true)] [] ?_
  refine rt ?_
  obtain rfl := os h
  exact rq [true]
 refine sk ?_
 obtain ⟨⟨a3,a4,a5⟩,a6,h⟩ := Qds h
 refine rs hc none [oN,oc (.tup [K1a a3,oI a4,oI a5]),oN,oN,oN,oN,some (.new 3),oN,oN,oN] [(3,.ra 3 0),(4,.rs 1),(5,.rs 2)] [(1,rI a4),(2,rI a5),(3,K19 a3)] (cq (Kcp _ _ a6) K3x tv) ?_
 obtain ⟨a7,a8,h⟩ := Qds h
 refine rss hc none [oN,oN,oN,oc (I a7),oN] [(3,.ra 3 0),(4,.rs 1),(5,.rs 2),(6,I a7)] (ac (Q75.args (A1 := [K1a a3,.sl (Q02 (List.map I a4)),.sl (Q02 (List.map I a5))]) (A2 := [K1a a3,sI a4,sI a5]) (by simp only [List.map_nil,Qek]) (Kgl _ _ a8)) K52 (Or.inr rfl : ([1,2] : List Nat) = [] ∨ noSh (I a7) = true) tv) ?_
 refine sN ?_
 refine K6n hc 2 [(3,.ra 3 0),(4,.rs 1),(5,.rs 2),(6,I a7),(26,.bool (decide (a7 < 0)))] ?_
 refine ic h (fun a9 h => ?_) fun a9 h => ?_
 ·obtain ⟨b1,b2,h⟩ := Qds h
  refine rs hc none [oN,oN,oN,oc (I b1),oN,oN] [(2,.bool (decide (b1 < 0)))] [] (ac (Q75.args (A1 := [K1a a3,.sl (Q02 (List.map I a4)),.sl (Q02 (List.map I a5))]) (A2 := [K1a a3,sI a4,sI a5]) (by simp only [List.map_nil,Qek]) (Kil _ _ b2)) K5t (Or.inr rfl : ([1,2] : List Nat) = [] ∨ noSh (I b1) = true) tv) ?_
  refine rt ?_
  obtain rfl := os h
  exact rq [true]
 refine sk ?_
 refine K6n hc 1 [(3,.ra 3 0),(4,.rs 1),(5,.rs 2),(6,I a7),(7,I 0)] ?_
 refine sN ?_
 refine K6n hc 1 [(3,.ra 3 0),(4,.rs 1),(5,.rs 2),(6,I a7),(7,I 0),(8,I 0)] ?_
 refine bk 0 ?_
 obtain ⟨fl,b3,h⟩ := Qds h
 have hL := Kkx _ _ b3 c hc
 refine lp ?_
 rcases fl with b4 | r
 ·refine WpL.into (e := (.exit 0)) (mkS [(6,I a7),(7,I b4)] []) hL ?_
  refine Qd6 ?_
  refine rs0 hc 4 [(2,.bool (b4 == a7))] [] ?_
  refine rt ?_
  obtain rfl := os h
  exact rq [true]
 refine WpL.mono hL ?_
 rintro _ _ ⟨rfl,hfin⟩
 obtain rfl := os h
 exact ⟨.inl rfl,hfin⟩
end Go.Am
