/- Walks, printed. -/
import Derived.Test.YtckgdfakjjdodaaGreatGERAF0
set_option linter.unusedVariables false
set_option linter.unusedSimpArgs false
set_option maxRecDepth 100000
namespace Go.Am
open Go Go.Proofs
def Ka6 : Option (List (List Nat)) := rx [[0],[1],[0],[0],[0],[0],[0,3,4,5],[0],[0],[0],[0,3,4,5,6,7,8,9],[0,2,3,4,5,6,7,8,9,10],[0,2,3,4,5,6,7,8,9,10,11],[13],[14],[15]]
def Ka7 : Option (List (List Nat)) := rx [[0],[1],[0],[0],[0],[0,2,3,4],[0,2,3,4,5],[0,2,3,4,5,6],[0,2,3,4,5,6],[0,2,3,4,5,6],[0,2,3,4,5,6,7,8,9],[0,2,3,4,5,6,7,8,9,10],[0,2,3,4,5,6,7,8,9,10,11],[13],[14],[15]]
def Ka8 (p : K00 × Int × Int) : Option ((Unit) ⊕ (Bool)) :=
 match p with
 | (s0,a0,a1) =>
  if (decide (a1 < s0.fSize)) = true then
  (K9v (s0,a0,a1)) >>= fun a2 =>
  if a2 = true then
  (Ka2 (s0,a0,a1,0)) >>= fun fl => match fl with
  | .inl () =>
   Ka8 (s0,a0,(wr (a1 + 1)))
  | .inr r =>
   some (.inr r)
  else
  some (.inr false)
  else
  some (.inl ())
 partial_fixpoint
def Ka9 (p : K00 × Int × Int) (fl : (Unit) ⊕ (Bool)) : Prop :=
 match p with
 | (s0,a0,a1) => ∀ c : Ctx,c.nt = 42 → WpL Tryz.prog c (cl (cl (cr (cr (cl (cl (cr (cl (cl (cr (cl (cr (cr B80))))))))))))) (Ka5 c s0 a0 fl) (mkS [(1,.ra 1 0),(3,I a0),(4,I a1)] [(1,K19 s0)])
theorem Kaa : ∀ p r,Ka8 p = some r → Ka9 p r := by
 refine Ka8.partial_correctness Ka9 ?_
 rintro spec_IsSystem_l1_f spec_IsSystem_l1_ih ⟨s0,a0,a1⟩ r h
 intro c hc
 refine WpL.step ?_
 refine sN ?_
 refine K7e hc 4 [(1,.ra 1 0),(3,I a0),(4,I a1),(22,.bool (decide (a1 < s0.fSize)))] ?_
 refine ic h (fun a2 h => ?_) fun a2 h => ?_
 ·refine sk ?_
  refine sN ?_
  refine bk 3 ?_
  refine sN ?_
  obtain ⟨a3,a4,h⟩ := Qds h
  refine rss hc none [oN,oN,oN,oc (.bool a3),oN] [(1,.ra 1 0),(3,I a0),(4,I a1),(29,.bool (!a3))] (cq (K9x _ _ a4) K2w tv) ?_
  rcases is h with ⟨a5,h⟩ | ⟨a5,h⟩
  ·refine cF (!a3) (nF a5) ?_
   refine sk ?_
   refine K7e hc 1 [(1,.ra 1 0),(3,I a0),(4,I a1),(5,I 0)] ?_
   refine bk 4 ?_
   obtain ⟨fl,a6,h⟩ := Qds h
   have hL := Ka4 _ _ a6 c hc
   refine lp ?_
   rcases fl with ⟨⟩ | r
   ·refine WpL.into (e := (.exit 4)) (mkS [(1,.ra 1 0),(3,I a0),(4,I a1)] [(1,K19 s0)]) hL ?_
    refine Qd6 ?_
    refine K7d hc 3 [(1,.ra 1 0),(3,I a0),(4,I (wr (a1 + 1)))] ?_
    refine Qda ?_
    exact (spec_IsSystem_l1_ih _ _ h c hc)
   refine WpL.mono hL ?_
   rintro _ _ ⟨rfl,hfin⟩
   obtain rfl := os h
   exact ⟨rfl,hfin⟩
  refine cT (!a3) (nT a5) ?_
  refine rs0 hc 1 [(2,.bool false)] [] ?_
  refine rt ?_
  obtain rfl := os h
  exact re [true]
 refine xt 2 ?_
 refine Qd4 ?_
 refine Qdb ?_
 obtain rfl := os h
 exact iv []
def Kab (c : Ctx) : (Unit) ⊕ (Bool) → Exit → Q0a → Prop
 | .inl _ => Qde c (.exit 0) (mkS [] [])
 | .inr r => Qdn TIx Tryz.f80 [] (.bool r)
def Kac (p : K00 × Int) : Option ((Unit) ⊕ (Bool)) :=
 match p with
 | (s0,a0) =>
  if (decide (a0 < s0.fSize)) = true then
  (K9h (s0,a0)) >>= fun a1 =>
  if a1 = true then
  (Ka8 (s0,a0,0)) >>= fun fl => match fl with
  | .inl () =>
   Kac (s0,(wr (a0 + 1)))
  | .inr r =>
   some (.inr r)
  else
  some (.inr false)
  else
  some (.inl ())
 partial_fixpoint
def Kad (p : K00 × Int) (fl : (Unit) ⊕ (Bool)) : Prop :=
 match p with
 | (s0,a0) => ∀ c : Ctx,c.nt = 42 → WpL Tryz.prog c (cl (cl (cr (cl (cr (cr B80)))))) (Kab c fl) (mkS [(1,.ra 1 0),(3,I a0)] [(1,K19 s0)])
theorem Kae : ∀ p r,Kac p = some r → Kad p r := by
 refine Kac.partial_correctness Kad ?_
 rintro spec_IsSystem_l2_f spec_IsSystem_l2_ih ⟨s0,a0⟩ r h
 intro c hc
 refine WpL.step ?_
 refine sN ?_
 refine K7e hc 4 [(1,.ra 1 0),(3,I a0),(12,.bool (decide (a0 < s0.fSize)))] ?_
 refine ic h (fun a1 h => ?_) fun a1 h => ?_
 ·refine sk ?_
  refine sN ?_
  refine bk 1 ?_
  refine sN ?_
  obtain ⟨a2,a3,h⟩ := Qds h
  refine rss hc none [oN,oN,oc (.bool a2),oN] [(1,.ra 1 0),(3,I a0),(18,.bool (!a2))] (cq (K9j _ _ a3) K2s tv) ?_
  rcases is h with ⟨a4,h⟩ | ⟨a4,h⟩
  ·refine cF (!a2) (nF a4) ?_
   refine sk ?_
   refine K7e hc 1 [(1,.ra 1 0),(3,I a0),(4,I 0)] ?_
   refine bk 2 ?_
   obtain ⟨fl,a5,h⟩ := Qds h
   have hL := Kaa _ _ a5 c hc
   refine lp ?_
   rcases fl with ⟨⟩ | r
   ·refine WpL.into (e := (.exit 2)) (mkS [(1,.ra 1 0),(3,I a0)] [(1,K19 s0)]) hL ?_
    refine Qd6 ?_
    refine K7d hc 3 [(1,.ra 1 0),(3,I (wr (a0 + 1)))] ?_
    refine Qda ?_
    exact (spec_IsSystem_l2_ih _ _ h c hc)
   refine WpL.mono hL ?_
   rintro _ _ ⟨rfl,hfin⟩
   obtain rfl := os h
   exact ⟨rfl,hfin⟩
  refine cT (!a2) (nT a4) ?_
  refine rs0 hc 1 [(2,.bool false)] [] ?_
  refine rt ?_
  obtain rfl := os h
  exact re [true]
 refine xt 0 ?_
 refine Qd4 ?_
 refine Qdb ?_
 obtain rfl := os h
 exact iv []
def Kaf (s0 : K00) : Option (Bool) :=
 (K91 s0) >>= fun a0 =>
 if a0 = true then
 (Kac (s0,0)) >>= fun fl => match fl with
 | .inl () =>
  some true
 | .inr r =>
  some r
 else
 some false
def Kag (s0 : K00) (r : Bool) : Prop :=
 Q75 Tryz.prog 80 [K1a s0] (.bool r) []
theorem Kah : ∀ p r,Kaf p = some r → Kag p r := by
 rintro s0 r h
 unfold Kaf at h
 refine b0 Tryz.f80 B80 42 [(0,K1a s0)] fun c hc => ?_
 refine rs hc none [some (.new 1),oN] [(1,.ra 1 0)] [(1,K19 s0)] tv ?_
 refine sN ?_
 obtain ⟨a0,a1,h⟩ := Qds h
 refine rss hc none [oN,oc (.bool a0),oN] [(1,.ra 1 0),(8,.bool (!a0))] (cq (K93 _ _ a1) K2k tv) ?_
 rcases is h with ⟨a2,h⟩ | ⟨a2,h⟩
 ·refine cF (!a0) (nF a2) ?_
  refine sk ?_
  refine sN ?_
  refine K7e hc 1 [(1,.ra 1 0),(3,I 0)] ?_
  refine bk 0 ?_
  obtain ⟨fl,a3,h⟩ := Qds h
  have hL := Kae _ _ a3 c hc
  refine lp ?_
  rcases fl with ⟨⟩ | r
  ·refine WpL.into (e := (.exit 0)) (mkS [] []) hL ?_
   refine Qd6 ?_
   refine rs0 hc 1 [(2,.bool true)] [] ?_
   refine rt ?_
   obtain rfl := os h
   exact rq [true]
  refine WpL.mono hL ?_
  rintro _ _ ⟨rfl,hfin⟩
  obtain rfl := os h
  exact ⟨.inl rfl,hfin⟩
 refine cT (!a0) (nT a2) ?_
 refine rs0 hc 1 [(2,.bool false)] [] ?_
 refine rt ?_
 obtain rfl := os h
 exact rq [true]
def Kai (p : K00 × K00) : Option (Bool) :=
 match p with
 | (a0,b1) =>
  ((
  (Kaf a0) >>= fun a1 =>
  if a1 = true then
  (Kaf b1) >>= fun a2 =>
  if a2 = true then
  some ((decide ((wr (a0.fSize * b1.fSize)) ≤ 16)))
  else
  some (false)
  else
  some (false)
  ) : Option (Bool)) >>= fun a3 =>
  some a3
def Kaj (p : K00 × K00) (r : Bool) : Prop :=
 match p with
 | (a0,b1) => Q75 Tryz.prog 207 [K1a a0,K1a b1] (.bool r) []
theorem Kak : ∀ p r,Kai p = some r → Kaj p r := by
 rintro ⟨a0,b1⟩ r h
 unfold Kai at h
 refine b0 Tryz.f207 K30 19 [(0,K1a a0),(1,K1a b1)] fun c hc => ?_
 refine rs hc none [some (.new 1),some (.new 2),oN] [(2,.ra 1 0),(3,.ra 2 0)] [(1,K19 a0),(2,K19 b1)] tv ?_
 refine sN ?_
 obtain ⟨a1,a2,h⟩ := Qds h
 refine Wp.into (x := .normal) (mkS [(4,.bool a1)] []) ?_ ?_
 ·replace h := a2
  obtain ⟨a3,a4,h⟩ := Qds h
  rcases is h with ⟨a5,h⟩ | ⟨a5,h⟩
  ·obtain ⟨a6,a7,h⟩ := Qds h
   rcases is h with ⟨a8,h⟩ | ⟨a8,h⟩
   ·refine rg hc none [oN,oc (.bool a3),oN,oN,oc (.bool a6),oT,oN,oN,oN,oN,oN,oN,oN,oT,oN] [(4,.bool (decide ((wr (a0.fSize * b1.fSize)) ≤ 16)))] [] (cq (Kah _ _ a4) K2z (ar 2 a5 (cq (Kah _ _ a7) K2z (ai a5 (ar 7 a8 tv))))) ?_
    obtain rfl := os h
    exact Qde.mk
   refine rg hc none [oN,oc (.bool a3),oN,oN,oc (.bool a6),oT,oN,o_,o_,o_,o_,o_,o_,oF,oN] [(4,.bool false)] [] (cq (Kah _ _ a4) K2z (ar 2 a5 (cq (Kah _ _ a7) K2z (ai a5 (ar 6 (neT a8) (ai a8 tv)))))) ?_
   obtain rfl := os h
   exact Qde.mk
  refine rg hc none [oN,oc (.bool a3),oN,o_,o_,oF,oN,o_,o_,o_,o_,o_,o_,oF,oN] [(4,.bool false)] [] (cq (Kah _ _ a4) K2z (ar 2 (neT a5) (ai a5 (ar 6 (neT (rfl : false = false)) (ai (rfl : false = false) tv))))) ?_
  obtain rfl := os h
  exact Qde.mk
 clear a2
 refine rt ?_
 obtain rfl := os h
 exact rq [true]
def Kal (p : Int × Int) : Option (Int) :=
 match p with
 | (n0,g1) =>
  if (g1 == 0) = true then
  some 0
  else
  if (g1 == 1) = true then
  some 1
  else
  if (decide (g1 ≤ (wr (n0 + 1)))) = true then
  (chk (n0 ≠ 0)) >>= fun _ =>
  some (wr (Int.tdiv (wr (g1 - 1)) n0))
  else
  (chk (n0 ≠ 0)) >>= fun _ =>
  some (wr (Int.tdiv g1 n0))
def Kam (p : Int × Int) (r : Int) : Prop :=
 match p with
 | (n0,g1) => Q75 Tryz.prog 208 [I n0,I g1] (I r) []
theorem Kan : ∀ p r,Kal p = some r → Kam p r := by
 rintro ⟨n0,g1⟩ r h
 unfold Kal at h
 refine b0 Tryz.f208 K32 23 [(0,I n0),(1,I g1)] fun c hc => ?_
 refine rs0 hc 1 [(0,I n0),(1,I g1)] [] ?_
 refine sN ?_
 refine bk 0 ?_
 refine rs0 hc 3 [(0,I n0),(1,I g1),(5,.bool (g1 == 0))] [] ?_
 refine ic h (fun a0 h => ?_) fun a0 h => ?_
 ·refine rs0 hc 1 [(4,I 0)] [] ?_
  refine rt ?_
  obtain rfl := os h
  exact rq [true]
 refine rs0 hc 3 [(0,I n0),(1,I g1),(8,.bool (g1 == 1))] [] ?_
 refine ic h (fun a1 h => ?_) fun a1 h => ?_
 ·refine rs0 hc 1 [(4,I 1)] [] ?_
  refine rt ?_
  obtain rfl := os h
  exact rq [true]
 refine rs0 hc 5 [(0,I n0),(1,I g1),(11,.bool (decide (g1 ≤ (wr (n0 + 1)))))] [] ?_
 refine ic h (fun a2 h => ?_) fun a2 h => ?_
 ·obtain ⟨_,a3,h⟩ := Qds h
  refine rs hc none [oN,oN,oN,oN,oN] [(4,I (wr (Int.tdiv (wr (g1 - 1)) n0)))] [] (ai (Qdu a3) tv) ?_
  refine rt ?_
  obtain rfl := os h
  exact rq [true]
 refine sk ?_
 obtain ⟨_,a4,h⟩ := Qds h
 refine rs hc none [oN,oN,oN,oN] [(4,I (wr (Int.tdiv g1 n0)))] [] (ai (Qdu a4) tv) ?_
 refine rt ?_
 obtain rfl := os h
 exact rq [true]
def Kao (p : Int × Int) : Option (Int) :=
 match p with
 | (n0,g1) =>
  if (decide (g1 < 2)) = true then
  some g1
  else
  if (decide (g1 ≤ (wr (n0 + 1)))) = true then
  (chk (n0 ≠ 0)) >>= fun _ =>
  some (Int.tmod (wr (g1 - 1)) n0)
  else
  (chk (n0 ≠ 0)) >>= fun _ =>
  some (Int.tmod g1 n0)
def Kap (p : Int × Int) (r : Int) : Prop :=
 match p with
 | (n0,g1) => Q75 Tryz.prog 209 [I n0,I g1] (I r) []
theorem Kaq : ∀ p r,Kao p = some r → Kap p r := by
 rintro ⟨n0,g1⟩ r h
 unfold Kao at h
 refine b0 Tryz.f209 K34 21 [(0,I n0),(1,I g1)] fun c hc => ?_
 refine rs0 hc 1 [(0,I n0),(1,I g1)] [] ?_
 refine sN ?_
 refine bk 0 ?_
 refine rs0 hc 3 [(0,I n0),(1,I g1),(5,.bool (decide (g1 < 2)))] [] ?_
 refine ic h (fun a0 h => ?_) fun a0 h => ?_
 ·refine rs0 hc 2 [(4,I g1)] [] ?_
  refine rt ?_
  obtain rfl := os h
  exact rq [true]
 refine rs0 hc 5 [(0,I n0),(1,I g1),(9,.bool (decide (g1 ≤ (wr (n0 + 1)))))] [] ?_
 refine ic h (fun a1 h => ?_) fun a1 h => ?_
 ·obtain ⟨_,a2,h⟩ := Qds h
  refine rs hc none [oN,oN,oN,oN,oN] [(4,I (Int.tmod (wr (g1 - 1)) n0))] [] (ai (Qdu a2) tv) ?_
  refine rt ?_
  obtain rfl := os h
  exact rq [true]
 refine sk ?_
 obtain ⟨_,a3,h⟩ := Qds h
 refine rs hc none [oN,oN,oN,oN] [(4,I (Int.tmod g1 n0))] [] (ai (Qdu a3) tv) ?_
 refine rt ?_
 obtain rfl := os h
 exact rq [true]
def Kar (p : Int × Int × Int) : Option (Int) :=
 match p with
 | (n0,x1,y2) =>
  if ((wr ((wr (x1 * n0)) + y2)) == 0) = true then
  some 0
  else
  if ((wr ((wr (x1 * n0)) + y2)) == (wr (n0 + 1))) = true then
  some 1
  else
  if (decide ((wr ((wr (x1 * n0)) + y2)) < (wr (n0 + 1)))) = true then
  some (wr ((wr ((wr (x1 * n0)) + y2)) + 1))
  else
  some (wr ((wr (x1 * n0)) + y2))
def Kas (p : Int × Int × Int) (r : Int) : Prop :=
 match p with
 | (n0,x1,y2) => Q75 Tryz.prog 210 [I n0,I x1,I y2] (I r) []
theorem Kat : ∀ p r,Kar p = some r → Kas p r := by
 rintro ⟨n0,x1,y2⟩ r h
 unfold Kar at h
 refine b0 Tryz.f210 K36 29 [(0,I n0),(1,I x1),(2,I y2)] fun c hc => ?_
 refine rs0 hc 1 [(0,I n0),(1,I x1),(2,I y2)] [] ?_
 refine rs0 hc 6 [(0,I n0),(7,I (wr ((wr (x1 * n0)) + y2)))] [] ?_
 refine sN ?_
 refine bk 0 ?_
 refine rs0 hc 3 [(0,I n0),(7,I (wr ((wr (x1 * n0)) + y2))),(13,.bool ((wr ((wr (x1 * n0)) + y2)) == 0))] [] ?_
 refine ic h (fun a0 h => ?_) fun a0 h => ?_
 ·refine rs0 hc 1 [(6,I 0)] [] ?_
  refine rt ?_
  obtain rfl := os h
  exact rq [true]
 refine rs0 hc 5 [(0,I n0),(7,I (wr ((wr (x1 * n0)) + y2))),(16,.bool ((wr ((wr (x1 * n0)) + y2)) == (wr (n0 + 1))))] [] ?_
 refine ic h (fun a1 h => ?_) fun a1 h => ?_
 ·refine rs0 hc 1 [(6,I 1)] [] ?_
  refine rt ?_
  obtain rfl := os h
  exact rq [true]
 refine rs0 hc 5 [(7,I (wr ((wr (x1 * n0)) + y2))),(21,.bool (decide ((wr ((wr (x1 * n0)) + y2)) < (wr (n0 + 1)))))] [] ?_
 refine ic h (fun a2 h => ?_) fun a2 h => ?_
 ·refine rs0 hc 3 [(6,I (wr ((wr ((wr (x1 * n0)) + y2)) + 1)))] [] ?_
  refine rt ?_
  obtain rfl := os h
  exact rq [true]
 refine sk ?_
 refine rs0 hc 2 [(6,I (wr ((wr (x1 * n0)) + y2)))] [] ?_
 refine rt ?_
 obtain rfl := os h
 exact rq [true]
def Kau (c : Ctx) (a0 : K00) (b1 : K00) (a1 : Int) : (List Int) × (List Int) × (List Bool) → Exit → Q0a → Prop
 | (a2,a3,a4) => Qde c (.exit 2) (mkS [(2,.ra 1 0),(3,.ra 2 0),(4,.ra 3 0),(6,I b1.fSize),(7,.ra 4 0),(8,I a1)] [(1,K19 a0),(2,K19 b1),(3,.box [I 0,.nils,.nils,.nils]),(4,.box [I (wr (a0.fSize * b1.fSize)),.rs 29,.rs 30,.rs 31]),(29,rI a2),(30,rI a3),(31,.arr (List.map AV.bool a4))])
def Kav (p : K00 × K00 × Int × (List Int) × (List Int) × (List Bool) × Int) : Option ((List Int) × (List Int) × (List Bool)) :=
 match p with
 | (a0,b1,a1,a2,a3,a4,a5) =>
  if (decide (a5 < (wr (a0.fSize * b1.fSize)))) = true then
  (Kal (b1.fSize,a1)) >>= fun a6 =>
  (Kao (b1.fSize,a1)) >>= fun a7 =>
  (Kal (b1.fSize,a5)) >>= fun a8 =>
  (Kao (b1.fSize,a5)) >>= fun a9 =>
  (K94 (a0,a6,a8)) >>= fun b2 =>
  (K94 (b1,a7,a9)) >>= fun b3 =>
  (Kar (b1.fSize,b2,b3)) >>= fun b4 =>
  (Qe5 (a2.length + [b4].length) 8) >>= fun _ =>
  (K9b (a0,a6,a8)) >>= fun b5 =>
  (K9b (b1,a7,a9)) >>= fun b6 =>
  (Kar (b1.fSize,b5,b6)) >>= fun b7 =>
  (Qe5 (a3.length + [b7].length) 8) >>= fun _ =>
  ((
  (K9e (a0,a6,a8)) >>= fun b8 =>
  if b8 = true then
  (K9e (b1,a7,a9)) >>= fun b9 =>
  (Qe5 (a4.length + [b9].length) 1) >>= fun _ =>
  some ((a4 ++ [b9]))
  else
  (Qe5 (a4.length + [false].length) 1) >>= fun _ =>
  some ((a4 ++ [false]))
  ) : Option ((List Bool))) >>= fun c0 =>
  Kav (a0,b1,a1,(a2 ++ [b4]),(a3 ++ [b7]),c0,(wr (a5 + 1)))
  else
  some ((a2,a3,a4))
 partial_fixpoint
def Kaw (p : K00 × K00 × Int × (List Int) × (List Int) × (List Bool) × Int) (fl : (List Int) × (List Int) × (List Bool)) : Prop :=
 match p with
 | (a0,b1,a1,a2,a3,a4,a5) => ∀ c : Ctx,c.nt = 96 → WpL Tryz.prog c (cl (cl (cr (cl (cl (cr (cl (cl (cr (cl (cr (cr (cr (cr K38)))))))))))))) (Kau c a0 b1 a1 fl) (mkS [(2,.ra 1 0),(3,.ra 2 0),(4,.ra 3 0),(6,I b1.fSize),(7,.ra 4 0),(8,I a1),(9,I a5)] [(1,K19 a0),(2,K19 b1),(3,.box [I 0,.nils,.nils,.nils]),(4,.box [I (wr (a0.fSize * b1.fSize)),.rs 29,.rs 30,.rs 31]),(29,rI a2),(30,rI a3),(31,.arr (List.map AV.bool a4))])
theorem Kax : ∀ p r,Kav p = some r → Kaw p r := by
 refine Kav.partial_correctness Kaw ?_
 rintro spec_ProductSystem_l0_f spec_ProductSystem_l0_ih ⟨a0,b1,a1,a2,a3,a4,a5⟩ r h
 intro c hc
 refine WpL.step ?_
 refine sN ?_
 refine K7e hc 4 [(2,.ra 1 0),(3,.ra 2 0),(4,.ra 3 0),(6,I b1.fSize),(7,.ra 4 0),(8,I a1),(9,I a5),(35,.bool (decide (a5 < (wr (a0.fSize * b1.fSize)))))] ?_
 refine ic h (fun a6 h => ?_) fun a6 h => ?_
 ·refine sk ?_
  refine sN ?_
  refine bk 3 ?_
  obtain ⟨a7,a8,h⟩ := Qds h
  refine rss hc none [oN,oN,oc (I a7),oN] [(2,.ra 1 0),(3,.ra 2 0),(4,.ra 3 0),(6,I b1.fSize),(7,.ra 4 0),(8,I a1),(9,I a5),(10,I a7)] (cq (Kan _ _ a8) K33 tv) ?_
  obtain ⟨a9,b2,h⟩ := Qds h
  refine rss hc none [oN,oN,oc (I a9),oN] [(2,.ra 1 0),(3,.ra 2 0),(4,.ra 3 0),(6,I b1.fSize),(7,.ra 4 0),(8,I a1),(9,I a5),(10,I a7),(11,I a9)] (cq (Kaq _ _ b2) K35 tv) ?_
  obtain ⟨b3,b4,h⟩ := Qds h
  refine rss hc none [oN,oN,oc (I b3),oN] [(2,.ra 1 0),(3,.ra 2 0),(4,.ra 3 0),(6,I b1.fSize),(7,.ra 4 0),(8,I a1),(9,I a5),(10,I a7),(11,I a9),(12,I b3)] (cq (Kan _ _ b4) K33 tv) ?_
  obtain ⟨b5,b6,h⟩ := Qds h
  refine rss hc none [oN,oN,oc (I b5),oN] [(2,.ra 1 0),(3,.ra 2 0),(4,.ra 3 0),(6,I b1.fSize),(7,.ra 4 0),(8,I a1),(9,I a5),(10,I a7),(11,I a9),(12,I b3),(13,I b5)] (cq (Kaq _ _ b6) K35 tv) ?_
  obtain ⟨b7,b8,b9,c0,c1,c2,_,c3,h⟩ := bq4 h
  refine rs hc Ka6 [oN,oN,oN,oN,oN,oN,oc (I b7),oN,oN,oN,oc (I b9),oc (I c1),some (.mk 50 true),some (.eqv (.mk 51 true) ⟨[(63,.rs 51)],[(51,some (rI (a2 ++ [c1]))),(29,none),(50,none)],[51]⟩),oN,oN] [(2,.ra 1 0),(3,.ra 2 0),(4,.ra 3 0),(6,I b1.fSize),(7,.ra 4 0),(8,I a1),(9,I a5),(10,I a7),(11,I a9),(12,I b3),(13,I b5)] [(1,K19 a0),(2,K19 b1),(3,.box [I 0,.nils,.nils,.nils]),(4,.box [I (wr (a0.fSize * b1.fSize)),.rs 51,.rs 30,.rs 31]),(30,rI a3),(31,.arr (List.map AV.bool a4)),(51,rI (a2 ++ [c1]))] (cq (K96 _ _ b8) K2m (cq (K96 _ _ c0) K2m (cq (Kat _ _ c2) K37 (ab (congrArg (fun z => (⟨[(63,.rs 51)],[(51,some (.arr z)),(29,none),(50,none)],[51]⟩ : Wr)) ((List.map_append).symm : (List.map I a2) ++ (List.map I [c1]) = List.map I (a2 ++ [c1]))) (Qe6 (enc1 := I) (enc2 := I) (e1 := a2) (e2 := [c1]) (sz := 1) Qef Qef c3) tv)))) ?_
  obtain ⟨c4,c5,c6,c7,c8,c9,_,d0,h⟩ := bq4 h
  refine rs hc Ka6 [oN,oN,oN,oN,oN,oN,oc (I c4),oN,oN,oN,oc (I c6),oc (I c8),some (.mk 52 true),some (.eqv (.mk 53 true) ⟨[(78,.rs 53)],[(53,some (rI (a3 ++ [c8]))),(30,none),(52,none)],[53]⟩),oN,oN] [(2,.ra 1 0),(3,.ra 2 0),(4,.ra 3 0),(6,I b1.fSize),(7,.ra 4 0),(8,I a1),(9,I a5),(10,I a7),(11,I a9),(12,I b3),(13,I b5)] [(1,K19 a0),(2,K19 b1),(3,.box [I 0,.nils,.nils,.nils]),(4,.box [I (wr (a0.fSize * b1.fSize)),.rs 51,.rs 53,.rs 31]),(31,.arr (List.map AV.bool a4)),(51,rI (a2 ++ [c1])),(53,rI (a3 ++ [c8]))] (cq (K9d _ _ c5) K2o (cq (K9d _ _ c7) K2o (cq (Kat _ _ c9) K37 (ab (congrArg (fun z => (⟨[(78,.rs 53)],[(53,some (.arr z)),(30,none),(52,none)],[53]⟩ : Wr)) ((List.map_append).symm : (List.map I a3) ++ (List.map I [c8]) = List.map I (a3 ++ [c8]))) (Qe6 (enc1 := I) (enc2 := I) (e1 := a3) (e2 := [c8]) (sz := 1) Qef Qef d0) tv)))) ?_
  obtain ⟨d1,d2,h⟩ := Qds h
  refine Wp.into (x := .normal) (mkS [(2,.ra 1 0),(3,.ra 2 0),(4,.ra 3 0),(6,I b1.fSize),(7,.ra 4 0),(8,I a1),(9,I a5)] [(1,K19 a0),(2,K19 b1),(3,.box [I 0,.nils,.nils,.nils]),(4,.box [I (wr (a0.fSize * b1.fSize)),.rs 51,.rs 53,.rs 55]),(51,rI (a2 ++ [c1])),(53,rI (a3 ++ [c8])),(55,.arr (List.map AV.bool d1))]) ?_ ?_
  ·replace h := d2
   obtain ⟨d3,d4,h⟩ := Qds h
   rcases is h with ⟨d5,h⟩ | ⟨d5,h⟩
   ·obtain ⟨d6,d7,_,d8,h⟩ := bq2 h
    refine rg hc Ka7 [oN,oN,oN,oN,oN,oc (.bool d3),oN,oN,oN,oN,oc (.bool d6),oT,some (.mk 54 true),some (.eqv (.mk 55 true) ⟨[(93,.rs 55)],[(55,some (.arr (List.map AV.bool (a4 ++ [d6])))),(31,none),(54,none)],[55]⟩),oN,oN] [(2,.ra 1 0),(3,.ra 2 0),(4,.ra 3 0),(6,I b1.fSize),(7,.ra 4 0),(8,I a1),(9,I a5)] [(1,K19 a0),(2,K19 b1),(3,.box [I 0,.nils,.nils,.nils]),(4,.box [I (wr (a0.fSize * b1.fSize)),.rs 51,.rs 53,.rs 55]),(51,rI (a2 ++ [c1])),(53,rI (a3 ++ [c8])),(55,.arr (List.map AV.bool (a4 ++ [d6])))] (cq (K9g _ _ d4) K2q (ar 4 d5 (cq (K9g _ _ d7) K2q (ac d5 (congrArg (fun z => (⟨[(93,.rs 55)],[(55,some (.arr z)),(31,none),(54,none)],[55]⟩ : Wr)) ((List.map_append).symm : (List.map AV.bool a4) ++ (List.map AV.bool [d6]) = List.map AV.bool (a4 ++ [d6]))) (Qe6 (enc1 := AV.bool) (enc2 := AV.bool) (e1 := a4) (e2 := [d6]) (sz := 1) Qeh Qeh d8) tv)))) ?_
    obtain rfl := os h
    exact Qde.mk
   obtain ⟨_,d8,h⟩ := Qds h
   refine rg hc Ka7 [oN,oN,oN,oN,oN,oc (.bool d3),oN,o_,o_,o_,o_,oF,some (.mk 54 true),some (.eqv (.mk 55 true) ⟨[(93,.rs 55)],[(55,some (.arr (List.map AV.bool (a4 ++ [false])))),(31,none),(54,none)],[55]⟩),oN,oN] [(2,.ra 1 0),(3,.ra 2 0),(4,.ra 3 0),(6,I b1.fSize),(7,.ra 4 0),(8,I a1),(9,I a5)] [(1,K19 a0),(2,K19 b1),(3,.box [I 0,.nils,.nils,.nils]),(4,.box [I (wr (a0.fSize * b1.fSize)),.rs 51,.rs 53,.rs 55]),(51,rI (a2 ++ [c1])),(53,rI (a3 ++ [c8])),(55,.arr (List.map AV.bool (a4 ++ [false])))] (cq (K9g _ _ d4) K2q (ar 4 (neT d5) (ac d5 (congrArg (fun z => (⟨[(93,.rs 55)],[(55,some (.arr z)),(31,none),(54,none)],[55]⟩ : Wr)) ((List.map_append).symm : (List.map AV.bool a4) ++ (List.map AV.bool [false]) = List.map AV.bool (a4 ++ [false]))) (Qe6 (enc1 := AV.bool) (enc2 := AV.bool) (e1 := a4) (e2 := [false]) (sz := 1) Qeh Qeh d8) tv))) ?_
   obtain rfl := os h
   exact Qde.mk
  clear d2
  refine K7d hc 3 [(2,.ra 1 0),(3,.ra 2 0),(4,.ra 3 0),(6,I b1.fSize),(7,.ra 4 0),(8,I a1),(9,I (wr (a5 + 1)))] ?_
  refine Qda ?_
  exact WpL.view (fun a w hv => SRx.renL [(29,51),(30,53),(31,55)] hv (by kernel_rfl) (by kernel_rfl) (by kernel_rfl)) (spec_ProductSystem_l0_ih _ _ h c hc)
 refine xt 2 ?_
 refine Qd4 ?_
 refine Qdb ?_
 obtain ⟨rfl,hq0⟩ := Prod.mk.inj (Option.some.inj h)
 obtain ⟨rfl,rfl⟩ := Prod.mk.inj (hq0)
 exact iv []
def Kay (c : Ctx) (a0 : K00) (b1 : K00) : (List Int) × (List Int) × (List Bool) → Exit → Q0a → Prop
 | (a1,a2,a3) => Qde c (.exit 0) (mkS [(4,.ra 3 0),(7,.ra 4 0)] [(3,.box [I 0,.nils,.nils,.nils]),(4,.box [I (wr (a0.fSize * b1.fSize)),.rs 29,.rs 30,.rs 31]),(29,rI a1),(30,rI a2),(31,.arr (List.map AV.bool a3))])
def Kaz (p : K00 × K00 × (List Int) × (List Int) × (List Bool) × Int) : Option ((List Int) × (List Int) × (List Bool)) :=
 match p with
 | (a0,b1,a1,a2,a3,a4) =>
  if (decide (a4 < (wr (a0.fSize * b1.fSize)))) = true then
  (Kav (a0,b1,a4,a1,a2,a3,0)) >>= fun (a5,a6,a7) =>
  Kaz (a0,b1,a5,a6,a7,(wr (a4 + 1)))
  else
  some ((a1,a2,a3))
 partial_fixpoint
def Kb0 (p : K00 × K00 × (List Int) × (List Int) × (List Bool) × Int) (fl : (List Int) × (List Int) × (List Bool)) : Prop :=
 match p with
 | (a0,b1,a1,a2,a3,a4) => ∀ c : Ctx,c.nt = 96 → WpL Tryz.prog c (cl (cl (cr (cl (cr (cr (cr (cr K38)))))))) (Kay c a0 b1 fl) (mkS [(2,.ra 1 0),(3,.ra 2 0),(4,.ra 3 0),(6,I b1.fSize),(7,.ra 4 0),(8,I a4)] [(1,K19 a0),(2,K19 b1),(3,.box [I 0,.nils,.nils,.nils]),(4,.box [I (wr (a0.fSize * b1.fSize)),.rs 29,.rs 30,.rs 31]),(29,rI a1),(30,rI a2),(31,.arr (List.map AV.bool a3))])
theorem Kb1 : ∀ p r,Kaz p = some r → Kb0 p r := by
 refine Kaz.partial_correctness Kb0 ?_
 rintro spec_ProductSystem_l1_f spec_ProductSystem_l1_ih ⟨a0,b1,a1,a2,a3,a4⟩ r h
 intro c hc
 refine WpL.step ?_
 refine sN ?_
 refine K7e hc 4 [(2,.ra 1 0),(3,.ra 2 0),(4,.ra 3 0),(6,I b1.fSize),(7,.ra 4 0),(8,I a4),(29,.bool (decide (a4 < (wr (a0.fSize * b1.fSize)))))] ?_
 refine ic h (fun a5 h => ?_) fun a5 h => ?_
 ·refine sk ?_
  refine sN ?_
  refine bk 1 ?_
  refine K7e hc 1 [(2,.ra 1 0),(3,.ra 2 0),(4,.ra 3 0),(6,I b1.fSize),(7,.ra 4 0),(8,I a4),(9,I 0)] ?_
  refine bk 2 ?_
  obtain ⟨⟨a6,a7,a8⟩,a9,h⟩ := Qds h
  have hL := Kax _ _ a9 c hc
  refine lp ?_
  refine WpL.into (e := (.exit 2)) (mkS [(2,.ra 1 0),(3,.ra 2 0),(4,.ra 3 0),(6,I b1.fSize),(7,.ra 4 0),(8,I a4)] [(1,K19 a0),(2,K19 b1),(3,.box [I 0,.nils,.nils,.nils]),(4,.box [I (wr (a0.fSize * b1.fSize)),.rs 29,.rs 30,.rs 31]),(29,rI a6),(30,rI a7),(31,.arr (List.map AV.bool a8))]) hL ?_
  refine Qd6 ?_
  refine K7d hc 3 [(2,.ra 1 0),(3,.ra 2 0),(4,.ra 3 0),(6,I b1.fSize),(7,.ra 4 0),(8,I (wr (a4 + 1)))] ?_
  refine Qda ?_
  exact (spec_ProductSystem_l1_ih _ _ h c hc)
 refine xt 0 ?_
 refine Qd4 ?_
 refine Qdb ?_
 obtain ⟨rfl,hq0⟩ := Prod.mk.inj (Option.some.inj h)
 obtain ⟨rfl,rfl⟩ := Prod.mk.inj (hq0)
 exact iv []
def Kb2 (p : K00 × K00) : Option (K00 × Bool) :=
 match p with
 | (a0,b1) =>
  (Kai (a0,b1)) >>= fun a1 =>
  if a1 = true then
  (Kaz (a0,b1,[],[],[],0)) >>= fun (a2,a3,a4) =>
  some ((K00.mk (wr (a0.fSize * b1.fSize)) a2 a3 a4),true)
  else
  some ((K00.mk 0 [] [] []),false)
def Kb3 (p : K00 × K00) (r : K00 × Bool) : Prop :=
 match p with
 | (a0,b1) => Q75 Tryz.prog 154 [K1a a0,K1a b1] (.tup [.agg [I r.1.fSize,.osl (List.map I r.1.fPlus),.osl (List.map I r.1.fTimes),.osl (List.map AV.bool r.1.fBelow)],.bool r.2]) []
theorem Kb4 : ∀ p r,Kb2 p = some r → Kb3 p r := by
 rintro ⟨a0,b1⟩ r h
 unfold Kb2 at h
 refine b0 Tryz.f154 K38 96 [(0,K1a a0),(1,K1a b1)] fun c hc => ?_
 refine rs hc none [some (.new 1),some (.new 2),some (.new 3),oN] [(2,.ra 1 0),(3,.ra 2 0),(4,.ra 3 0)] [(1,K19 a0),(2,K19 b1),(3,.box [I 0,.nils,.nils,.nils])] tv ?_
 refine sN ?_
 obtain ⟨a1,a2,h⟩ := Qds h
 refine rss hc none [oN,oN,oc (.bool a1),oN] [(2,.ra 1 0),(3,.ra 2 0),(4,.ra 3 0),(17,.bool (!a1))] (cq (Kak _ _ a2) K31 tv) ?_
 rcases is h with ⟨a3,h⟩ | ⟨a3,h⟩
 ·refine cF (!a1) (nF a3) ?_
  refine sk ?_
  refine K7e hc 3 [(2,.ra 1 0),(3,.ra 2 0),(4,.ra 3 0),(6,I b1.fSize)] ?_
  refine rs hc none [oN,oN,oN,oN,oN,some (.new 4),oN] [(2,.ra 1 0),(3,.ra 2 0),(4,.ra 3 0),(6,I b1.fSize),(7,.ra 4 0)] [(1,K19 a0),(2,K19 b1),(3,.box [I 0,.nils,.nils,.nils]),(4,.box [I (wr (a0.fSize * b1.fSize)),.nils,.nils,.nils])] tv ?_
  refine sN ?_
  refine K7e hc 1 [(2,.ra 1 0),(3,.ra 2 0),(4,.ra 3 0),(6,I b1.fSize),(7,.ra 4 0),(8,I 0)] ?_
  refine bk 0 ?_
  obtain ⟨⟨a4,a5,a6⟩,a7,h⟩ := Qds h
  have hL := Kb1 _ _ a7 c hc
  refine Wp.loopN (by kernel_rfl) (WpL.view (fun a w hv => SRx.renL [(29,56),(30,57),(31,58)] (SRx.nilBL 4 3 58 [I (wr (a0.fSize * b1.fSize)),.rs 56,.rs 57,.nils] (SRx.nilBL 4 2 57 [I (wr (a0.fSize * b1.fSize)),.rs 56,.nils,.nils] (SRx.nilBL 4 1 56 [I (wr (a0.fSize * b1.fSize)),.nils,.nils,.nils] hv (by kernel_rfl) (by kernel_rfl) (by kernel_rfl)) (by kernel_rfl) (by kernel_rfl) (by kernel_rfl)) (by kernel_rfl) (by kernel_rfl) (by kernel_rfl)) (by kernel_rfl) (by kernel_rfl) (by kernel_rfl)) (?_ : WpL _ c _ _ (mkS [(2,.ra 1 0),(3,.ra 2 0),(4,.ra 3 0),(6,I b1.fSize),(7,.ra 4 0),(8,I 0)] [(1,K19 a0),(2,K19 b1),(3,.box [I 0,.nils,.nils,.nils]),(4,.box [I (wr (a0.fSize * b1.fSize)),.rs 29,.rs 30,.rs 31]),(29,.arr (List.map I [])),(30,.arr (List.map I [])),(31,.arr (List.map AV.bool []))])))
  refine WpL.into (e := (.exit 0)) (mkS [(4,.ra 3 0),(7,.ra 4 0)] [(3,.box [I 0,.nils,.nils,.nils]),(4,.box [I (wr (a0.fSize * b1.fSize)),.rs 29,.rs 30,.rs 31]),(29,rI a4),(30,rI a5),(31,.arr (List.map AV.bool a6))]) hL ?_
  refine Qd6 ?_
  refine rs0 hc 3 [(4,.ra 3 0),(5,.bool true)] [(3,.box [I (wr (a0.fSize * b1.fSize)),.rs 29,.rs 30,.rs 31]),(29,rI a4),(30,rI a5),(31,.arr (List.map AV.bool a6))] ?_
  refine rt ?_
  obtain rfl := os h
  exact rq [true,true]
 refine cT (!a1) (nT a3) ?_
 refine rs0 hc 3 [(4,.ra 3 0),(5,.bool false)] [(3,.box [I 0,.nils,.nils,.nils])] ?_
 refine rt ?_
 obtain rfl := os h
 exact rq [true,true]
def Kb5 (c0 : K02) : Option (K00 × K02) :=
 (K7t (c0,3)) >>= fun (a0,a1) =>
 (K8d (wr (1 + a0))) >>= fun a2 =>
 (K7t (a1,8)) >>= fun (a3,a4) =>
 ((
 if (a3 == 0) = true then
 some ((a3 == 0))
 else
 ((
 if (a3 == 1) = true then
 some ((a3 == 1))
 else
 some ((a3 == 2))
 ) : Option (Bool)) >>= fun a5 =>
 some (a5)
 ) : Option (Bool)) >>= fun a6 =>
 ((
 if a6 = true then
 (K8g (wr (1 + a0))) >>= fun a7 =>
 some ((a7.fSize,a7.fPlus,a7.fTimes,a7.fBelow,a4.fb,a4.fi,a4.fh))
 else
 ((
 if (a3 == 3) = true then
 some ((a3 == 3))
 else
 some ((a3 == 4))
 ) : Option (Bool)) >>= fun a8 =>
 ((
 if a8 = true then
 (K8u (wr (1 + a0))) >>= fun a9 =>
 some ((a9.fSize,a9.fPlus,a9.fTimes,a9.fBelow,a4.fb,a4.fi,a4.fh))
 else
 ((
 if (a3 == 5) = true then
 (K8g 1) >>= fun b1 =>
 (K7t (a4,2)) >>= fun (b2,b3) =>
 (K8u (wr (1 + b2))) >>= fun b4 =>
 (Kb2 (b1,b4)) >>= fun (b5,b6) =>
 some ((b5.fSize,b5.fPlus,b5.fTimes,b5.fBelow,b3.fb,b3.fi,b3.fh))
 else
 some ((a2.fSize,a2.fPlus,a2.fTimes,a2.fBelow,a4.fb,a4.fi,a4.fh))
 ) : Option (Int × (List Int) × (List Int) × (List Bool) × (List Int) × Int × Int)) >>= fun (b7,b8,b9,c1,c2,c3,c4) =>
 some ((b7,b8,b9,c1,c2,c3,c4))
 ) : Option (Int × (List Int) × (List Int) × (List Bool) × (List Int) × Int × Int)) >>= fun (c5,c6,c7,c8,c9,d0,d1) =>
 some ((c5,c6,c7,c8,c9,d0,d1))
 ) : Option (Int × (List Int) × (List Int) × (List Bool) × (List Int) × Int × Int)) >>= fun (d2,d3,d4,d5,d6,d7,d8) =>
 some ((K00.mk d2 d3 d4 d5),(K02.mk d6 d7 d8))
def Kb6 (c0 : K02) (r : K00 × K02) : Prop :=
 Q75 Tryz.prog 72 [.optr [.sl (List.map U8 c0.fb),I c0.fi,I c0.fh]] (.agg [I r.1.fSize,.osl (List.map I r.1.fPlus),.osl (List.map I r.1.fTimes),.osl (List.map AV.bool r.1.fBelow)]) [.optr [.sl (List.map U8 r.2.fb),I r.2.fi,I r.2.fh]]
theorem Kb7 : ∀ p r,Kb5 p = some r → Kb6 p r := by
 rintro c0 r h
 unfold Kb5 at h
 refine Q75.bodyO K20 (fn := Tryz.f72) (code := B72) (by kernel_rfl) (by kernel_rfl) (by kernel_rfl) (nt := 35) (by kernel_rfl) (by kernel_rfl) (T := [(0,.ra 1000 0)]) (O := [(1000,K1d c0)]) (by kernel_rfl) (by kernel_rfl) (fun c hc => ?_)
 refine rs hc none [some (.new 1)] [(0,.ra 1000 0),(2,.ra 1 0)] [(1,.box [I 0,.nils,.nils,.nils]),(1000,K1d c0)] tv ?_
 obtain ⟨⟨a0,a1⟩,a2,h⟩ := Qds h
 refine rs hc none [oN,some (.call (I a0) [.optr [.sl (List.map U8 a1.fb),I a1.fi,I a1.fh],.undef] 1),oN,oN] [(0,.ra 1000 0),(2,.ra 1 0),(3,I (wr (1 + a0)))] [(1,.box [I 0,.nils,.nils,.nils]),(1000,K1d a1)] (ab (K7v _ _ a2) K25 tv) ?_
 obtain ⟨a3,a4,h⟩ := Qds h
 refine rs hc none [oN,some (.call (K1f a3) [] 2),some (.new 5),oN] [(0,.ra 1000 0),(2,.ra 1 0),(3,I (wr (1 + a0))),(4,.ra 5 0)] [(1,.box [I 0,.nils,.nils,.nils]),(2,rI a3.fPlus),(3,rI a3.fTimes),(4,.arr (List.map AV.bool a3.fBelow)),(5,.box [I a3.fSize,.rs 2,.rs 3,.rs 4]),(1000,K1d a1)] (cq (K8f _ _ a4) K2d tv) ?_
 refine sN ?_
 obtain ⟨⟨a5,a6⟩,a7,h⟩ := Qds h
 refine rs hc none [oN,some (.call (I a5) [.optr [.sl (List.map U8 a6.fb),I a6.fi,I a6.fh],.undef] 1)] [(0,.ra 1000 0),(2,.ra 1 0),(3,I (wr (1 + a0))),(4,.ra 5 0),(11,I a5)] [(1,.box [I 0,.nils,.nils,.nils]),(2,rI a3.fPlus),(3,rI a3.fTimes),(4,.arr (List.map AV.bool a3.fBelow)),(5,.box [I a3.fSize,.rs 2,.rs 3,.rs 4]),(1000,K1d a6)] (ab (K7v _ _ a7) K25 tv) ?_
 refine bk 0 ?_
 refine sN ?_
 refine K7e hc 2 [(0,.ra 1000 0),(2,.ra 1 0),(3,I (wr (1 + a0))),(4,.ra 5 0),(11,I a5),(12,.bool (a5 == 0))] ?_
 obtain ⟨a8,a9,h⟩ := Qds h
 refine Wp.into (x := .normal) (mkS [(0,.ra 1000 0),(2,.ra 1 0),(3,I (wr (1 + a0))),(4,.ra 5 0),(11,I a5),(12,.bool a8)] [(1,.box [I 0,.nils,.nils,.nils]),(2,rI a3.fPlus),(3,rI a3.fTimes),(4,.arr (List.map AV.bool a3.fBelow)),(5,.box [I a3.fSize,.rs 2,.rs 3,.rs 4]),(1000,K1d a6)]) ?_ ?_
 ·replace h := a9
  refine ic h (fun b1 h => ?_) fun b1 h => ?_
  ·refine sk ?_
   obtain rfl := os h
   exact Qde.mk
  refine K7e hc 2 [(0,.ra 1000 0),(2,.ra 1 0),(3,I (wr (1 + a0))),(4,.ra 5 0),(11,I a5),(12,.bool (a5 == 1))] ?_
  obtain ⟨b2,b3,h⟩ := Qds h
  refine Wp.into (x := .normal) (mkS [(0,.ra 1000 0),(2,.ra 1 0),(3,I (wr (1 + a0))),(4,.ra 5 0),(11,I a5),(12,.bool b2)] [(1,.box [I 0,.nils,.nils,.nils]),(2,rI a3.fPlus),(3,rI a3.fTimes),(4,.arr (List.map AV.bool a3.fBelow)),(5,.box [I a3.fSize,.rs 2,.rs 3,.rs 4]),(1000,K1d a6)]) ?_ ?_
  ·replace h := b3
   refine ic h (fun b4 h => ?_) fun b4 h => ?_
   ·refine sk ?_
    obtain rfl := os h
    exact Qde.mk
   refine K7d hc 2 [(0,.ra 1000 0),(2,.ra 1 0),(3,I (wr (1 + a0))),(4,.ra 5 0),(11,I a5),(12,.bool (a5 == 2))] ?_
   obtain rfl := os h
   exact Qde.mk
  clear b3
  obtain rfl := os h
  exact Qde.mk
 clear a9
 obtain ⟨⟨b5,b6,b7,b8,b9,c1,c2⟩,c3,h⟩ := Qds h
 refine Wp.into (x := .normal) (mkS [(2,.ra 1 0),(4,.ra 5 0)] [(1,.box [I 0,.nils,.nils,.nils]),(5,.box [I b5,.rs 6,.rs 7,.rs 8]),(6,rI b6),(7,rI b7),(8,.arr (List.map AV.bool b8)),(1000,.box [.sl (List.map U8 b9),I c1,I c2])]) ?_ ?_
 ·replace h := c3
  refine ic h (fun c4 h => ?_) fun c4 h => ?_
  ·obtain ⟨c5,c6,h⟩ := Qds h
   refine rg hc none [oN,some (.call (K1f c5) [] 6),oN] [(2,.ra 1 0),(4,.ra 5 0)] [(1,.box [I 0,.nils,.nils,.nils]),(5,.box [I c5.fSize,.rs 6,.rs 7,.rs 8]),(6,rI c5.fPlus),(7,rI c5.fTimes),(8,.arr (List.map AV.bool c5.fBelow)),(1000,K1d a6)] (cq (K8i _ _ c6) K2e tv) ?_
   obtain ⟨rfl,hq0⟩ := Prod.mk.inj (Option.some.inj h)
   obtain ⟨rfl,hq1⟩ := Prod.mk.inj (hq0)
   obtain ⟨rfl,hq2⟩ := Prod.mk.inj (hq1)
   obtain ⟨rfl,hq3⟩ := Prod.mk.inj (hq2)
   obtain ⟨rfl,hq4⟩ := Prod.mk.inj (hq3)
   obtain ⟨rfl,rfl⟩ := Prod.mk.inj (hq4)
   exact Qde.mk
  refine sN ?_
  refine K7e hc 2 [(0,.ra 1000 0),(2,.ra 1 0),(3,I (wr (1 + a0))),(4,.ra 5 0),(11,I a5),(18,.bool (a5 == 3))] ?_
  obtain ⟨c7,c8,h⟩ := Qds h
  refine Wp.into (x := .normal) (mkS [(0,.ra 1000 0),(2,.ra 1 0),(3,I (wr (1 + a0))),(4,.ra 5 0),(11,I a5),(18,.bool c7)] [(1,.box [I 0,.nils,.nils,.nils]),(2,rI a3.fPlus),(3,rI a3.fTimes),(4,.arr (List.map AV.bool a3.fBelow)),(5,.box [I a3.fSize,.rs 2,.rs 3,.rs 4]),(1000,K1d a6)]) ?_ ?_
  ·replace h := c8
   refine ic h (fun c9 h => ?_) fun c9 h => ?_
   ·refine sk ?_
    obtain rfl := os h
    exact Qde.mk
   refine K7d hc 2 [(0,.ra 1000 0),(2,.ra 1 0),(3,I (wr (1 + a0))),(4,.ra 5 0),(11,I a5),(18,.bool (a5 == 4))] ?_
   obtain rfl := os h
   exact Qde.mk
  clear c8
  obtain ⟨⟨d0,d1,d2,d3,d4,d5,d6⟩,d7,h⟩ := Qds h
  refine Wp.into (x := .normal) (mkS [(2,.ra 1 0),(4,.ra 5 0)] [(1,.box [I 0,.nils,.nils,.nils]),(5,.box [I d0,.rs 9,.rs 10,.rs 11]),(9,rI d1),(10,rI d2),(11,.arr (List.map AV.bool d3)),(1000,.box [.sl (List.map U8 d4),I d5,I d6])]) ?_ ?_
  ·replace h := d7
   refine ic h (fun d8 h => ?_) fun d8 h => ?_
   ·obtain ⟨d9,e0,h⟩ := Qds h
    refine rg hc none [oN,some (.call (K1f d9) [] 9),oN] [(2,.ra 1 0),(4,.ra 5 0)] [(1,.box [I 0,.nils,.nils,.nils]),(5,.box [I d9.fSize,.rs 9,.rs 10,.rs 11]),(9,rI d9.fPlus),(10,rI d9.fTimes),(11,.arr (List.map AV.bool d9.fBelow)),(1000,K1d a6)] (cq (K8w _ _ e0) K2i tv) ?_
    obtain ⟨rfl,hq0⟩ := Prod.mk.inj (Option.some.inj h)
    obtain ⟨rfl,hq1⟩ := Prod.mk.inj (hq0)
    obtain ⟨rfl,hq2⟩ := Prod.mk.inj (hq1)
    obtain ⟨rfl,hq3⟩ := Prod.mk.inj (hq2)
    obtain ⟨rfl,hq4⟩ := Prod.mk.inj (hq3)
    obtain ⟨rfl,rfl⟩ := Prod.mk.inj (hq4)
    exact Qde.mk
   refine K7e hc 2 [(0,.ra 1000 0),(2,.ra 1 0),(4,.ra 5 0),(23,.bool (a5 == 5))] ?_
   obtain ⟨⟨e1,e2,e3,e4,e5,e6,e7⟩,e8,h⟩ := Qds h
   refine Wp.into (x := .normal) (mkS [(2,.ra 1 0),(4,.ra 5 0)] [(1,.box [I 0,.nils,.nils,.nils]),(5,.box [I e1,.rs 18,.rs 19,.rs 20]),(18,rI e2),(19,rI e3),(20,.arr (List.map AV.bool e4)),(1000,.box [.sl (List.map U8 e5),I e6,I e7])]) ?_ ?_
   ·replace h := e8
    refine ic h (fun e9 h => ?_) fun e9 h => ?_
    ·obtain ⟨f0,f1,⟨f2,f3⟩,f4,h⟩ := bq2 h
     obtain ⟨f5,f6,⟨f7,f8⟩,f9,h⟩ := bq2 h
     refine rg hc none [some (.call (K1f f0) [] 12),oN,some (.call (I f2) [.optr [.sl (List.map U8 f3.fb),I f3.fi,I f3.fh],.undef] 1),oN,some (.call (K1f f5) [] 15),some (.call (.tup [K1f f7,.bool f8]) [] 18),oN,oN,oN,oN] [(2,.ra 1 0),(4,.ra 5 0)] [(1,.box [I 0,.nils,.nils,.nils]),(5,.box [I f7.fSize,.rs 18,.rs 19,.rs 20]),(18,rI f7.fPlus),(19,rI f7.fTimes),(20,.arr (List.map AV.bool f7.fBelow)),(1000,K1d f3)] (cq (K8i _ _ f1) K2e (ab (K7v _ _ f4) K25 (cq (K8w _ _ f6) K2i (ac (Q75.args (A1 := [K1g f0,K1g f5]) (A2 := [K1a f0,K1a f5]) (by simp only [K1g,List.map_nil,Qem,Qek]) (Kb4 _ _ f9)) K39 (Or.inr (Qeu (Qeu rfl (Qeu (Qes Qeo f7.fPlus) (Qeu (Qes Qeo f7.fTimes) (Qeu (Qes Qeq f7.fBelow) rfl)))) (Qeu rfl rfl)) : ([12,13,14,15,16,17] : List Nat) = [] ∨ noSh (.tup [K1f f7,.bool f8]) = true) tv)))) ?_
     obtain ⟨rfl,hq0⟩ := Prod.mk.inj (Option.some.inj h)
     obtain ⟨rfl,hq1⟩ := Prod.mk.inj (hq0)
     obtain ⟨rfl,hq2⟩ := Prod.mk.inj (hq1)
     obtain ⟨rfl,hq3⟩ := Prod.mk.inj (hq2)
     obtain ⟨rfl,hq4⟩ := Prod.mk.inj (hq3)
     obtain ⟨rfl,rfl⟩ := Prod.mk.inj (hq4)
     exact Qde.mk
    refine sk ?_
    obtain ⟨rfl,hq0⟩ := Prod.mk.inj (Option.some.inj h)
    obtain ⟨rfl,hq1⟩ := Prod.mk.inj (hq0)
    obtain ⟨rfl,hq2⟩ := Prod.mk.inj (hq1)
    obtain ⟨rfl,hq3⟩ := Prod.mk.inj (hq2)
    obtain ⟨rfl,hq4⟩ := Prod.mk.inj (hq3)
    obtain ⟨rfl,rfl⟩ := Prod.mk.inj (hq4)
    exact iv [(18,2),(19,3),(20,4)]
   clear e8
   obtain ⟨rfl,hq0⟩ := Prod.mk.inj (Option.some.inj h)
   obtain ⟨rfl,hq1⟩ := Prod.mk.inj (hq0)
   obtain ⟨rfl,hq2⟩ := Prod.mk.inj (hq1)
   obtain ⟨rfl,hq3⟩ := Prod.mk.inj (hq2)
   obtain ⟨rfl,hq4⟩ := Prod.mk.inj (hq3)
   obtain ⟨rfl,rfl⟩ := Prod.mk.inj (hq4)
   exact iv [(9,18),(10,19),(11,20)]
  clear d7
  obtain ⟨rfl,hq0⟩ := Prod.mk.inj (Option.some.inj h)
  obtain ⟨rfl,hq1⟩ := Prod.mk.inj (hq0)
  obtain ⟨rfl,hq2⟩ := Prod.mk.inj (hq1)
  obtain ⟨rfl,hq3⟩ := Prod.mk.inj (hq2)
  obtain ⟨rfl,hq4⟩ := Prod.mk.inj (hq3)
  obtain ⟨rfl,rfl⟩ := Prod.mk.inj (hq4)
  exact iv [(6,9),(7,10),(8,11)]
 clear c3
 refine rs0 hc 2 [(2,.ra 1 0)] [(1,.box [I b5,.rs 6,.rs 7,.rs 8]),(6,rI b6),(7,rI b7),(8,.arr (List.map AV.bool b8)),(1000,.box [.sl (List.map U8 b9),I c1,I c2])] ?_
 refine rt ?_
 obtain rfl := os h
 exact Qdp.ret (fl := [true]) (by kernel_rfl)
def Kb8 (c : Ctx) : (List Int) → Exit → Q0a → Prop
 | a0 => Qde c (.exit 0) (mkS [(5,.rs 1)] [(1,rI a0)])
def Kb9 (p : LL × (List Int) × Int) : Option ((List Int)) :=
 match p with
 | (parts1,a0,a1) =>
  if (decide (a1 < (parts1.length : Int))) = true then
  (idx parts1 a1) >>= fun a2 =>
  (Qe5 (a0.length + a2.length) 8) >>= fun _ =>
  Kb9 (parts1,(a0 ++ a2),(wr (a1 + 1)))
  else
  some (a0)
 partial_fixpoint
def Kba (p : LL × (List Int) × Int) (fl : (List Int)) : Prop :=
 match p with
 | (parts1,a0,a1) => ∀ c : Ctx,c.nt = 22 → WpL Tryz.prog c (cl (cl (cr (cl (cr (cr K3c)))))) (Kb8 c fl) (mkS [(1,sL parts1),(5,.rs 1),(6,I a1)] [(1,rI a0)])
theorem Kbb : ∀ p r,Kb9 p = some r → Kba p r := by
 refine Kb9.partial_correctness Kba ?_
 rintro spec_l3Glue_l0_f spec_l3Glue_l0_ih ⟨parts1,a0,a1⟩ r h
 intro c hc
 refine WpL.step ?_
 refine sN ?_
 refine rss hc none [oN,oN,some (.eqv (.no) ⟨[(11,I (parts1.length : Int))],[],[]⟩),oN] [(1,sL parts1),(5,.rs 1),(6,I a1),(12,.bool (decide (a1 < (parts1.length : Int))))] (ai (Qdy (d := 11) K0n parts1) tv) ?_
 refine ic h (fun a2 h => ?_) fun a2 h => ?_
 ·refine sk ?_
  refine sN ?_
  refine bk 1 ?_
  obtain ⟨a3,a4,_,a5,h⟩ := bq2 h
  refine rg hc none [oN,oN,oN,some (.el (sI a3)),oN,some (.eqv (.mk 3 true) ⟨[(20,.rs 3)],[(3,some (rI (a0 ++ a3))),(1,none)],[3]⟩),oN] [(1,sL parts1),(5,.rs 3),(6,I a1)] [(3,rI (a0 ++ a3))] (ac (xL a4) (congrArg (fun z => (⟨[(20,.rs 3)],[(3,some (.arr z)),(1,none)],[3]⟩ : Wr)) ((List.map_append).symm : (List.map I a0) ++ (List.map I a3) = List.map I (a0 ++ a3))) (Qe6 (enc1 := I) (enc2 := I) (e1 := a0) (e2 := a3) (sz := 1) Qef Qef a5) tv) ?_
  refine K7d hc 3 [(1,sL parts1),(5,.rs 3),(6,I (wr (a1 + 1)))] ?_
  refine Qda ?_
  exact WpL.view (fun a w hv => SRx.renL [(1,3)] hv (by kernel_rfl) (by kernel_rfl) (by kernel_rfl)) (spec_l3Glue_l0_ih _ _ h c hc)
 refine xt 0 ?_
 refine Qd4 ?_
 refine Qdb ?_
 obtain rfl := os h
 exact iv []
def Kbc (p : Int × LL) : Option ((List Int)) :=
 match p with
 | (c0,parts1) =>
  (Kb9 (parts1,[c0],0)) >>= fun a0 =>
  some a0
def Kbd (p : Int × LL) (r : (List Int)) : Prop :=
 match p with
 | (c0,parts1) => Q75 Tryz.prog 155 [I c0,sL parts1] (oI r) []
theorem Kbe : ∀ p r,Kbc p = some r → Kbd p r := by
 rintro ⟨c0,parts1⟩ r h
 unfold Kbc at h
 refine b0 Tryz.f155 K3c 22 [(0,I c0),(1,sL parts1)] fun c hc => ?_
 refine rs0 hc 1 [(0,I c0),(1,sL parts1)] [] ?_
 refine rs hc none [oN,some (.mk 1 true),oN] [(1,sL parts1),(5,.rs 1)] [(1,.arr (List.map I [c0]))] tv ?_
 refine sN ?_
 refine K7e hc 1 [(1,sL parts1),(5,.rs 1),(6,I 0)] ?_
 refine bk 0 ?_
 obtain ⟨a0,a1,h⟩ := Qds h
 have hL := Kbb _ _ a1 c hc
 refine lp ?_
 refine WpL.into (e := (.exit 0)) (mkS [(5,.rs 1)] [(1,rI a0)]) hL ?_
 refine Qd6 ?_
 refine K7e hc 2 [(4,.rs 1)] ?_
 refine rt ?_
 obtain rfl := os h
 exact rq [true]
def Kbf (p : K02 × K00 × Int × Bool) : Option ((List Int) × K02) :=
 match p with
 | (c0,s1,deep2,data3) =>
  (K7t (c0,6)) >>= fun (a0,a1) =>
  ((
  if (decide (deep2 ≤ 0)) = true then
  some (true)
  else
  some ((decide (a0 < 2)))
  ) : Option (Bool)) >>= fun a2 =>
  if a2 = true then
  some ([0],a1)
  else
  (Kbf (a1,s1,(wr (deep2 - 1)),data3)) >>= fun (a3,a4) =>
  if (a0 == 2) = true then
  (K7t (a4,s1.fSize)) >>= fun (a5,a6) =>
  (Kbc ((wr (19 + a5)),[a3])) >>= fun a7 =>
  some (a7,a6)
  else
  ((
  if (a0 == 3) = true then
  some ((!data3))
  else
  some (false)
  ) : Option (Bool)) >>= fun a8 =>
  if a8 = true then
  (K7t (a4,s1.fSize)) >>= fun (a9,b1) =>
  (Kbf (b1,s1,(wr (deep2 - 1)),data3)) >>= fun (b2,b3) =>
  (Kbc ((wr (3 + a9)),[a3,b2])) >>= fun b4 =>
  some (b4,b3)
  else
  if (a0 == 4) = true then
  (Kbf (a4,s1,(wr (deep2 - 1)),data3)) >>= fun (b5,b6) =>
  (Kbc (2,[a3,b5])) >>= fun b7 =>
  some (b7,b6)
  else
  (Kbf (a4,s1,(wr (deep2 - 1)),data3)) >>= fun (b8,b9) =>
  (Kbc (1,[a3,b8])) >>= fun c1 =>
  some (c1,b9)
 partial_fixpoint
def Kbg (p : K02 × K00 × Int × Bool) (r : (List Int) × K02) : Prop :=
 match p with
 | (c0,s1,deep2,data3) => Q75 Tryz.prog 75 [.optr [.sl (List.map U8 c0.fb),I c0.fi,I c0.fh],K1a s1,I deep2,.bool data3] (oI r.1) [.optr [.sl (List.map U8 r.2.fb),I r.2.fi,I r.2.fh],.undef,.undef,.undef]
theorem Kbh : ∀ p r,Kbf p = some r → Kbg p r := by
 refine Kbf.partial_correctness Kbg ?_
 rintro spec_dType_f spec_dType_ih ⟨c0,s1,deep2,data3⟩ r h
 refine Q75.bodyO K20 (fn := Tryz.f75) (code := B75) (by kernel_rfl) (by kernel_rfl) (by kernel_rfl) (nt := 79) (by kernel_rfl) (by kernel_rfl) (T := [(0,.ra 1000 0),(1,K1a s1),(2,I deep2),(3,.bool data3)]) (O := [(1000,K1d c0)]) (by kernel_rfl) (by kernel_rfl) (fun c hc => ?_)
 refine rs hc none [some (.new 1),oN] [(0,.ra 1000 0),(2,I deep2),(3,.bool data3),(5,.ra 1 0)] [(1,K19 s1),(1000,K1d c0)] tv ?_
 obtain ⟨⟨a0,a1⟩,a2,h⟩ := Qds h
 refine rs hc none [oN,some (.call (I a0) [.optr [.sl (List.map U8 a1.fb),I a1.fi,I a1.fh],.undef] 1),oN] [(0,.ra 1000 0),(2,I deep2),(3,.bool data3),(5,.ra 1 0),(9,I a0)] [(1,K19 s1),(1000,K1d a1)] (ab (K7v _ _ a2) K25 tv) ?_
 refine sN ?_
 refine sN ?_
 obtain ⟨a3,a4,h⟩ := Qds h
 refine Wp.into (x := .normal) (mkS [(0,.ra 1000 0),(2,I deep2),(3,.bool data3),(5,.ra 1 0),(9,I a0),(18,.bool a3)] [(1,K19 s1),(1000,K1d a1)]) ?_ ?_
 ·replace h := a4
  rcases is h with ⟨a5,h⟩ | ⟨a5,h⟩
  ·refine rgs hc none [oN,oN,oN,o_,o_,oT] [(0,.ra 1000 0),(2,I deep2),(3,.bool data3),(5,.ra 1 0),(9,I a0),(18,.bool true)] (ar 2 (neF a5) (ai a5 tv)) ?_
   obtain rfl := os h
   exact Qde.mk
  refine rgs hc none [oN,oN,oN,oN,oN,oF] [(0,.ra 1000 0),(2,I deep2),(3,.bool data3),(5,.ra 1 0),(9,I a0),(18,.bool (decide (a0 < 2)))] (ar 3 a5 tv) ?_
  obtain rfl := os h
  exact Qde.mk
 clear a4
 refine ic h (fun a6 h => ?_) fun a6 h => ?_
 ·refine rs hc none [some (.mk 2 true),oN] [(8,.rs 2)] [(2,.arr (List.map I [0])),(1000,K1d a1)] tv ?_
  refine rt ?_
  obtain rfl := os h
  exact Qdp.ret (fl := [true]) (by kernel_rfl)
 refine sk ?_
 obtain ⟨⟨a7,a8⟩,a9,h⟩ := Qds h
 refine rs hc none [oN,oN,oN,oN,oN,some (.call (oI a7) [.optr [.sl (List.map U8 a8.fb),I a8.fi,I a8.fh],.undef,.undef,.undef] 3),oN] [(0,.ra 1000 0),(2,I deep2),(3,.bool data3),(5,.ra 1 0),(9,I a0),(10,.rs 3)] [(1,K19 s1),(3,rI a7),(1000,K1d a8)] (ab (spec_dType_ih _ _ a9) K3b tv) ?_
 refine sN ?_
 refine bk 0 ?_
 refine K7e hc 3 [(0,.ra 1000 0),(2,I deep2),(3,.bool data3),(5,.ra 1 0),(9,I a0),(10,.rs 3),(26,.bool (a0 == 2))] ?_
 refine ic h (fun b1 h => ?_) fun b1 h => ?_
 ·obtain ⟨⟨b2,b3⟩,b4,h⟩ := Qds h
  obtain ⟨b5,b6,h⟩ := Qds h
  refine rs hc none [oN,oN,oN,some (.call (I b2) [.optr [.sl (List.map U8 b3.fb),I b3.fi,I b3.fh],.undef] 1),oN,oN,some (.mk 4 true),some (.call (oI b5) [] 5),oN] [(8,.rs 5)] [(5,rI b5),(1000,K1d b3)] (ad (K7v _ _ b4) K25 (Q75.args (A1 := [I (wr (19 + b2)),.sl (Q02 (List.map K0j [a7]))]) (A2 := [I (wr (19 + b2)),.sl (List.map K0n [a7])]) (by simp only [List.map_nil,K0s]) (Kbe _ _ b6)) K3d (ai (Or.inr (Qes Qeo b5) : ([4] : List Nat) = [] ∨ noSh (oI b5) = true) tv)) ?_
  refine rt ?_
  obtain rfl := os h
  exact Qdp.ret (fl := [true]) (by kernel_rfl)
 refine sN ?_
 obtain ⟨b7,b8,h⟩ := Qds h
 refine Wp.into (x := .normal) (mkS [(0,.ra 1000 0),(2,I deep2),(3,.bool data3),(5,.ra 1 0),(9,I a0),(10,.rs 3),(37,.bool b7)] [(1,K19 s1),(3,rI a7),(1000,K1d a8)]) ?_ ?_
 ·replace h := b8
  rcases is h with ⟨b9,h⟩ | ⟨b9,h⟩
  ·refine rgs hc none [oN,oN,oN,oN,oN,oT,oN] [(0,.ra 1000 0),(2,I deep2),(3,.bool data3),(5,.ra 1 0),(9,I a0),(10,.rs 3),(37,.bool (!data3))] (ar 3 b9 tv) ?_
   obtain rfl := os h
   exact Qde.mk
  refine rgs hc none [oN,oN,oN,o_,o_,oF,oN] [(0,.ra 1000 0),(2,I deep2),(3,.bool data3),(5,.ra 1 0),(9,I a0),(10,.rs 3),(37,.bool false)] (ar 2 (neT b9) (ai b9 tv)) ?_
  obtain rfl := os h
  exact Qde.mk
 clear b8
 refine ic h (fun c1 h => ?_) fun c1 h => ?_
 ·obtain ⟨⟨c2,c3⟩,c4,h⟩ := Qds h
  obtain ⟨⟨c5,c6⟩,c7,h⟩ := Qds h
  obtain ⟨c8,c9,h⟩ := Qds h
  refine rs hc (rx [[0],[0],[0,1],[3],[4],[0],[0],[0],[0],[0,8],[0],[4,6,7,8,9,10],[4,5,6,7,8,9,10,11],[13],[14]]) [oN,oN,oN,some (.call (I c2) [.optr [.sl (List.map U8 c3.fb),I c3.fi,I c3.fh],.undef] 1),oN,oN,oN,oN,oN,oN,oN,some (.call (oI c5) [.optr [.sl (List.map U8 c6.fb),I c6.fi,I c6.fh],.undef,.undef,.undef] 6),some (.mk 7 true),some (.call (oI c8) [] 8),oN] [(8,.rs 8)] [(8,rI c8),(1000,K1d c6)] (ad (K7v _ _ c4) K25 (spec_dType_ih _ _ c7) K3b (ac (Q75.args (A1 := [I (wr (3 + c2)),.sl (Q02 (List.map K0j [a7,c5]))]) (A2 := [I (wr (3 + c2)),.sl (List.map K0n [a7,c5])]) (by simp only [List.map_nil,K0s]) (Kbe _ _ c9)) K3d (Or.inr (Qes Qeo c8) : ([7] : List Nat) = [] ∨ noSh (oI c8) = true) tv)) ?_
  refine rt ?_
  obtain rfl := os h
  exact Qdp.ret (fl := [true]) (by kernel_rfl)
 refine K7e hc 3 [(0,.ra 1000 0),(2,I deep2),(3,.bool data3),(5,.ra 1 0),(10,.rs 3),(58,.bool (a0 == 4))] ?_
 refine ic h (fun d0 h => ?_) fun d0 h => ?_
 ·obtain ⟨⟨d1,d2⟩,d3,h⟩ := Qds h
  obtain ⟨d4,d5,h⟩ := Qds h
  refine rs hc none [oN,oN,oN,oN,oN,oN,some (.call (oI d1) [.optr [.sl (List.map U8 d2.fb),I d2.fi,I d2.fh],.undef,.undef,.undef] 9),some (.mk 10 true),some (.call (oI d4) [] 11),oN] [(8,.rs 11)] [(11,rI d4),(1000,K1d d2)] (ad (spec_dType_ih _ _ d3) K3b (Q75.args (A1 := [I 2,.sl (Q02 (List.map K0j [a7,d1]))]) (A2 := [I 2,.sl (List.map K0n [a7,d1])]) (by simp only [List.map_nil,K0s]) (Kbe _ _ d5)) K3d (ai (Or.inr (Qes Qeo d4) : ([10] : List Nat) = [] ∨ noSh (oI d4) = true) tv)) ?_
  refine rt ?_
  obtain rfl := os h
  exact Qdp.ret (fl := [true]) (by kernel_rfl)
 refine sk ?_
 obtain ⟨⟨d6,d7⟩,d8,h⟩ := Qds h
 obtain ⟨d9,e0,h⟩ := Qds h
 refine rs hc none [oN,oN,oN,oN,oN,oN,some (.call (oI d6) [.optr [.sl (List.map U8 d7.fb),I d7.fi,I d7.fh],.undef,.undef,.undef] 12),some (.mk 13 true),some (.call (oI d9) [] 14),oN] [(8,.rs 14)] [(14,rI d9),(1000,K1d d7)] (ad (spec_dType_ih _ _ d8) K3b (Q75.args (A1 := [I 1,.sl (Q02 (List.map K0j [a7,d6]))]) (A2 := [I 1,.sl (List.map K0n [a7,d6])]) (by simp only [List.map_nil,K0s]) (Kbe _ _ e0)) K3d (ai (Or.inr (Qes Qeo d9) : ([13] : List Nat) = [] ∨ noSh (oI d9) = true) tv)) ?_
 refine rt ?_
 obtain rfl := os h
 exact Qdp.ret (fl := [true]) (by kernel_rfl)
def Kbi (p : Int × Int × (List K01)) : Option (K01) :=
 match p with
 | (op0,n1,Kve) =>
  some (K01.mk op0 n1 [] Kve)
def Kbj (p : Int × Int × (List K01)) (r : K01) : Prop :=
 match p with
 | (op0,n1,Kve) => Q75 Tryz.prog 182 [I op0,I n1,.sl (List.map K06 Kve)] (K1c r) []
theorem Kbk : ∀ p r,Kbi p = some r → Kbj p r := by
 rintro ⟨op0,n1,Kve⟩ r h
 unfold Kbi at h
 refine b0 Tryz.f182 K3e 11 [(0,I op0),(1,I n1),(2,.sl (List.map K06 Kve))] fun c hc => ?_
 refine rs hc none [some (.new 1)] [(0,I op0),(1,I n1),(2,.sl (List.map K06 Kve)),(6,.ra 1 0)] [(1,.box [I 0,I 0,.nils,.nils])] tv ?_
 refine rs0 hc 5 [(6,.ra 1 0)] [(1,.box [I op0,I n1,.nils,.sl (List.map K06 Kve)])] ?_
 refine rt ?_
 obtain rfl := os h
 exact rq [false]
def Kbl (c0 : Int) : Option (Bool) :=
 ((
 (K7w (c0,3,18)) >>= fun a0 =>
 if a0 = true then
 some (true)
 else
 some ((c0 == 35))
 ) : Option (Bool)) >>= fun a1 =>
 some a1
def Kbm (c0 : Int) (r : Bool) : Prop :=
 Q75 Tryz.prog 215 [I c0] (.bool r) []
theorem Kbn : ∀ p r,Kbl p = some r → Kbm p r := by
 rintro c0 r h
 unfold Kbl at h
 refine b0 Tryz.f215 K3g 9 [(0,I c0)] fun c hc => ?_
 refine rs0 hc 1 [(0,I c0)] [] ?_
 refine sN ?_
 obtain ⟨a0,a1,h⟩ := Qds h
 refine Wp.into (x := .normal) (mkS [(2,.bool a0)] []) ?_ ?_
 ·replace h := a1
  obtain ⟨a2,a3,h⟩ := Qds h
  rcases is h with ⟨a4,h⟩ | ⟨a4,h⟩
  ·refine rg hc none [oN,oc (.bool a2),oN,o_,o_,oT,oN] [(2,.bool true)] [] (cq (K7y _ _ a3) K27 (ar 2 (neF a4) (ai a4 tv))) ?_
   obtain rfl := os h
   exact Qde.mk
  refine rg hc none [oN,oc (.bool a2),oN,oN,oN,oF,oN] [(2,.bool (c0 == 35))] [] (cq (K7y _ _ a3) K27 (ar 3 a4 tv)) ?_
  obtain rfl := os h
  exact Qde.mk
 clear a1
 refine rt ?_
 obtain rfl := os h
 exact rq [true]
def Kbo (c0 : Int) : Option (Bool) :=
 ((
 (K7w (c0,19,34)) >>= fun a0 =>
 if a0 = true then
 some (true)
 else
 some ((c0 == 36))
 ) : Option (Bool)) >>= fun a1 =>
 some a1
def Kbp (c0 : Int) (r : Bool) : Prop :=
 Q75 Tryz.prog 185 [I c0] (.bool r) []
theorem Kbq : ∀ p r,Kbo p = some r → Kbp p r := by
 rintro c0 r h
 unfold Kbo at h
 refine b0 Tryz.f185 K3i 9 [(0,I c0)] fun c hc => ?_
 refine rs0 hc 1 [(0,I c0)] [] ?_
 refine sN ?_
 obtain ⟨a0,a1,h⟩ := Qds h
 refine Wp.into (x := .normal) (mkS [(2,.bool a0)] []) ?_ ?_
 ·replace h := a1
  obtain ⟨a2,a3,h⟩ := Qds h
  rcases is h with ⟨a4,h⟩ | ⟨a4,h⟩
  ·refine rg hc none [oN,oc (.bool a2),oN,o_,o_,oT,oN] [(2,.bool true)] [] (cq (K7y _ _ a3) K27 (ar 2 (neF a4) (ai a4 tv))) ?_
   obtain rfl := os h
   exact Qde.mk
  refine rg hc none [oN,oc (.bool a2),oN,oN,oN,oF,oN] [(2,.bool (c0 == 36))] [] (cq (K7y _ _ a3) K27 (ar 3 a4 tv)) ?_
  obtain rfl := os h
  exact Qde.mk
 clear a1
 refine rt ?_
 obtain rfl := os h
 exact rq [true]
def Kbr (c0 : Int) : Option (Int) :=
 if (c0 == 0) = true then
 some 0
 else
 ((
 if (c0 == 1) = true then
 some (true)
 else
 if (c0 == 2) = true then
 some (true)
 else
 (Kbl c0) >>= fun a0 =>
 some (a0)
 ) : Option (Bool)) >>= fun a1 =>
 if a1 = true then
 some 2
 else
 (Kbo c0) >>= fun a2 =>
 if a2 = true then
 some 1
 else
 some (-1)
def Kbs (c0 : Int) (r : Int) : Prop :=
 Q75 Tryz.prog 168 [I c0] (I r) []
theorem Kbt : ∀ p r,Kbr p = some r → Kbs p r := by
 rintro c0 r h
 unfold Kbr at h
 refine b0 Tryz.f168 K3k 20 [(0,I c0)] fun c hc => ?_
 refine rs0 hc 1 [(0,I c0)] [] ?_
 refine sN ?_
 refine bk 0 ?_
 refine rs0 hc 3 [(0,I c0),(3,.bool (c0 == 0))] [] ?_
 refine ic h (fun a0 h => ?_) fun a0 h => ?_
 ·refine rs0 hc 1 [(2,I 0)] [] ?_
  refine rt ?_
  obtain rfl := os h
  exact rq [true]
 refine sN ?_
 obtain ⟨a1,a2,h⟩ := Qds h
 refine Wp.into (x := .normal) (mkS [(0,I c0),(6,.bool a1)] []) ?_ ?_
 ·replace h := a2
  rcases is h with ⟨a3,h⟩ | ⟨a3,h⟩
  ·refine rg hc none [oN,oN,oN,o_,o_,oT,oN,o_,o_,oT,oN] [(0,I c0),(6,.bool true)] [] (ar 2 (neF a3) (ai a3 (ar 2 nf (ai tt tv)))) ?_
   obtain rfl := os h
   exact Qde.mk
  rcases is h with ⟨a4,h⟩ | ⟨a4,h⟩
  ·refine rg hc none [oN,oN,oN,oN,oN,oF,oN,o_,o_,oT,oN] [(0,I c0),(6,.bool true)] [] (ar 3 a3 (ar 2 (neF a4) (ai a4 tv))) ?_
   obtain rfl := os h
   exact Qde.mk
  obtain ⟨a5,a6,h⟩ := Qds h
  refine rg hc none [oN,oN,oN,oN,oN,oF,oN,oN,oc (.bool a5),oF,oN] [(0,I c0),(6,.bool a5)] [] (ar 3 a3 (ar 2 a4 (cq (Kbn _ _ a6) K3h (ai a4 tv)))) ?_
  obtain rfl := os h
  exact Qde.mk
 clear a2
 refine ic h (fun a7 h => ?_) fun a7 h => ?_
 ·refine rs0 hc 1 [(2,I 2)] [] ?_
  refine rt ?_
  obtain rfl := os h
  exact rq [true]
 obtain ⟨a8,a9,h⟩ := Qds h
 refine rs hc none [oN,oc (.bool a8),oN] [(17,.bool a8)] [] (cq (Kbq _ _ a9) K3j tv) ?_
 refine ic h (fun b1 h => ?_) fun b1 h => ?_
 ·refine rs0 hc 1 [(2,I 1)] [] ?_
  refine rt ?_
  obtain rfl := os h
  exact rq [true]
 refine sk ?_
 refine rs0 hc 1 [(2,I (-1))] [] ?_
 refine rt ?_
 obtain rfl := os h
 exact rq [true]
def Kbu (c : Ctx) : (Unit) ⊕ (Int) → Exit → Q0a → Prop
 | .inl _ => Qde c (.exit 0) (mkS [] [])
 | .inr r => Qdn TIx Tryz.f167 [] (I r)
def Kbv (p : (List Int) × Int × Int) : Option ((Unit) ⊕ (Int)) :=
 match p with
 | (ty0,a0,a1) =>
  if (decide (a1 < (ty0.length : Int))) = true then
  (idx ty0 a1) >>= fun a2 =>
  (Kbr a2) >>= fun a3 =>
  if (decide (a3 < 0)) = true then
  some (.inr (-1))
  else
  if ((wr ((wr (a0 - 1)) + a3)) == 0) = true then
  some (.inr (wr (a1 + 1)))
  else
  Kbv (ty0,(wr ((wr (a0 - 1)) + a3)),(wr (a1 + 1)))
  else
  some (.inl ())
 partial_fixpoint
def Kbw (p : (List Int) × Int × Int) (fl : (Unit) ⊕ (Int)) : Prop :=
 match p with
 | (ty0,a0,a1) => ∀ c : Ctx,c.nt = 30 → WpL Tryz.prog c (cl (cl (cr (cl (cr (cr K3m)))))) (Kbu c fl) (mkS [(0,sI ty0),(5,I a0),(6,I a1)] [])
theorem Kbx : ∀ p r,Kbv p = some r → Kbw p r := by
 refine Kbv.partial_correctness Kbw ?_
 rintro spec_l2End_l0_f spec_l2End_l0_ih ⟨ty0,a0,a1⟩ r h
 intro c hc
 refine WpL.step ?_
 refine sN ?_
 refine rs hc none [oN,oN,some (.eqv (.no) ⟨[(11,I (ty0.length : Int))],[],[]⟩),oN] [(0,sI ty0),(5,I a0),(6,I a1),(12,.bool (decide (a1 < (ty0.length : Int))))] [] (ai (Qdy (d := 11) I ty0) tv) ?_
 refine ic h (fun a2 h => ?_) fun a2 h => ?_
 ·refine sk ?_
  refine sN ?_
  refine bk 1 ?_
  obtain ⟨a3,a4,a5,a6,h⟩ := bq2 h
  refine rs hc none [oN,oN,some (.el (I a3)),oN,oc (I a5),oN] [(0,sI ty0),(5,I a0),(6,I a1),(7,I a5)] [] (ai (ix a4) (cq (Kbt _ _ a6) K3l tv)) ?_
  refine sN ?_
  refine rs0 hc 2 [(0,sI ty0),(5,I a0),(6,I a1),(7,I a5),(21,.bool (decide (a5 < 0)))] [] ?_
  refine ic h (fun a7 h => ?_) fun a7 h => ?_
  ·refine rs0 hc 1 [(4,I (-1))] [] ?_
   refine rt ?_
   obtain rfl := os h
   exact re [true]
  refine sk ?_
  refine rs0 hc 5 [(0,sI ty0),(5,I (wr ((wr (a0 - 1)) + a5))),(6,I a1)] [] ?_
  refine rs0 hc 2 [(0,sI ty0),(5,I (wr ((wr (a0 - 1)) + a5))),(6,I a1),(27,.bool ((wr ((wr (a0 - 1)) + a5)) == 0))] [] ?_
  refine ic h (fun a8 h => ?_) fun a8 h => ?_
  ·refine rs0 hc 3 [(4,I (wr (a1 + 1)))] [] ?_
   refine rt ?_
   obtain rfl := os h
   exact re [true]
  refine sk ?_
  refine rg0 hc 3 [(0,sI ty0),(5,I (wr ((wr (a0 - 1)) + a5))),(6,I (wr (a1 + 1)))] [] ?_
  refine Qda ?_
  exact (spec_l2End_l0_ih _ _ h c hc)
 refine xt 0 ?_
 refine Qd4 ?_
 refine Qdb ?_
 obtain rfl := os h
 exact iv []
def Kby (p : (List Int) × Int) : Option (Int) :=
 match p with
 | (ty0,at1) =>
  (Kbv (ty0,1,at1)) >>= fun fl => match fl with
  | .inl () =>
   some (-1)
  | .inr r =>
   some r
def Kbz (p : (List Int) × Int) (r : Int) : Prop :=
 match p with
 | (ty0,at1) => Q75 Tryz.prog 167 [sI ty0,I at1] (I r) []
theorem Kc0 : ∀ p r,Kby p = some r → Kbz p r := by
 rintro ⟨ty0,at1⟩ r h
 unfold Kby at h
 refine b0 Tryz.f167 K3m 30 [(0,sI ty0),(1,I at1)] fun c hc => ?_
 refine rs0 hc 1 [(0,sI ty0),(1,I at1)] [] ?_
 refine rs0 hc 1 [(0,sI ty0),(1,I at1),(5,I 1)] [] ?_
 refine sN ?_
 refine rs0 hc 2 [(0,sI ty0),(5,I 1),(6,I at1)] [] ?_
 refine bk 0 ?_
 obtain ⟨fl,a0,h⟩ := Qds h
 have hL := Kbx _ _ a0 c hc
 refine lp ?_
 rcases fl with ⟨⟩ | r
 ·refine WpL.into (e := (.exit 0)) (mkS [] []) hL ?_
  refine Qd6 ?_
  refine rs0 hc 1 [(4,I (-1))] [] ?_
  refine rt ?_
  obtain rfl := os h
  exact rq [true]
 refine WpL.mono hL ?_
 rintro _ _ ⟨rfl,hfin⟩
 obtain rfl := os h
 exact ⟨.inl rfl,hfin⟩
def Kc1 (l0 : (List Int)) : Option ((List Int)) :=
 (Qe5 (([] : List Int).length + l0.length) 8) >>= fun _ =>
 some l0
def Kc2 (l0 : (List Int)) (r : (List Int)) : Prop :=
 Q75 Tryz.prog 176 [sI l0] (oI r) []
theorem Kc3 : ∀ p r,Kc1 p = some r → Kc2 p r := by
 rintro l0 r h
 unfold Kc1 at h
 refine b0 Tryz.f176 K3o 6 [(0,sI l0)] fun c hc => ?_
 refine rs0 hc 1 [(0,sI l0)] [] ?_
 obtain ⟨_,a0,h⟩ := Qds h
 refine rs hc none [some (.mk 1 true),oN,some (.eqv (.mk 2 true) ⟨[(5,.rs 2)],[(2,some (rI l0)),(1,none)],[2]⟩),oN] [(2,.rs 2)] [(2,rI l0)] (ab (congrArg (fun z => (⟨[(5,.rs 2)],[(2,some (.arr z)),(1,none)],[2]⟩ : Wr)) (List.nil_append _ : [] ++ (List.map I l0) = List.map I l0)) (Qe6 (enc1 := I) (enc2 := I) (e1 := []) (e2 := l0) (sz := 1) Qef Qef a0) tv) ?_
 refine rt ?_
 obtain rfl := os h
 exact rq [true]
def Kc4 (p : (List Int) × Int) : Option ((List Int)) :=
 match p with
 | (ty0,k1) =>
  (Kby (ty0,1)) >>= fun a0 =>
  if (k1 == 0) = true then
  (cut ty0 (some 1) (some a0) none) >>= fun a1 =>
  (Kc1 a1) >>= fun a2 =>
  some a2
  else
  (cut ty0 (some a0) none none) >>= fun a3 =>
  (Kc1 a3) >>= fun a4 =>
  some a4
def Kc5 (p : (List Int) × Int) (r : (List Int)) : Prop :=
 match p with
 | (ty0,k1) => Q75 Tryz.prog 178 [sI ty0,I k1] (oI r) []
theorem Kc6 : ∀ p r,Kc4 p = some r → Kc5 p r := by
 rintro ⟨ty0,k1⟩ r h
 unfold Kc4 at h
 refine b0 Tryz.f178 K3q 18 [(0,sI ty0),(1,I k1)] fun c hc => ?_
 refine rs0 hc 1 [(0,sI ty0),(1,I k1)] [] ?_
 obtain ⟨a0,a1,h⟩ := Qds h
 refine rs hc none [oN,oc (I a0),oN] [(0,sI ty0),(1,I k1),(5,I a0)] [] (cq (Kc0 _ _ a1) K3n tv) ?_
 refine sN ?_
 refine rs0 hc 2 [(0,sI ty0),(5,I a0),(9,.bool (k1 == 0))] [] ?_
 refine ic h (fun a2 h => ?_) fun a2 h => ?_
 ·obtain ⟨a3,a4,a5,a6,h⟩ := bq2 h
  refine rs hc none [oN,oN,some (.eqv (.no) ⟨[(12,sI a3)],[],[]⟩),oc (oI a5),oN] [(4,.rs 1)] [(1,rI a5)] (ab (Qe1 (d := 12) I a4) (Qe0 (enc := I) (sz := 1) Qeb a4) (cq (Kc3 _ _ a6) K3p tv)) ?_
  refine rt ?_
  obtain rfl := os h
  exact rq [true]
 refine sk ?_
 obtain ⟨a7,a8,a9,b1,h⟩ := bq2 h
 refine rs hc none [oN,oN,some (.eqv (.no) ⟨[(16,sI a7)],[],[]⟩),some (.call (oI a9) [] 2),oN] [(4,.rs 2)] [(2,rI a9)] (ab (Qe1 (d := 16) I a8) (Qe0 (enc := I) (sz := 1) Qeb a8) (cq (Kc3 _ _ b1) K3p tv)) ?_
 refine rt ?_
 obtain rfl := os h
 exact rq [true]
def Kc7 (p : K02 × Int) : Option (Bool × K02) :=
 match p with
 | (c0,n1) =>
  (K7t (c0,n1)) >>= fun (a0,a1) =>
  some ((a0 == 0),a1)
def Kc8 (p : K02 × Int) (r : Bool × K02) : Prop :=
 match p with
 | (c0,n1) => Q75 Tryz.prog 73 [.optr [.sl (List.map U8 c0.fb),I c0.fi,I c0.fh],I n1] (.bool r.1) [.optr [.sl (List.map U8 r.2.fb),I r.2.fi,I r.2.fh],.undef]
theorem Kc9 : ∀ p r,Kc7 p = some r → Kc8 p r := by
 rintro ⟨c0,n1⟩ r h
 unfold Kc7 at h
 refine Q75.bodyO K20 (fn := Tryz.f73) (code := B73) (by kernel_rfl) (by kernel_rfl) (by kernel_rfl) (nt := 9) (by kernel_rfl) (by kernel_rfl) (T := [(0,.ra 1000 0),(1,I n1)]) (O := [(1000,K1d c0)]) (by kernel_rfl) (by kernel_rfl) (fun c hc => ?_)
 refine K7e hc 1 [(0,.ra 1000 0),(1,I n1)] ?_
 obtain ⟨⟨a0,a1⟩,a2,h⟩ := Qds h
 refine rs hc none [oN,oN,some (.call (I a0) [.optr [.sl (List.map U8 a1.fb),I a1.fi,I a1.fh],.undef] 1),oN,oN] [(4,.bool (a0 == 0))] [(1000,K1d a1)] (ab (K7v _ _ a2) K25 tv) ?_
 refine rt ?_
 obtain rfl := os h
 exact Qdp.ret (fl := [true]) (by kernel_rfl)
def Kca (c0 : Int) : Option (Int) :=
 if (decide (c0 ≥ 35)) = true then
 some (-1)
 else
 if (decide (c0 ≥ 19)) = true then
 some (wr (c0 - 19))
 else
 some (wr (c0 - 3))
def Kcb (c0 : Int) (r : Int) : Prop :=
 Q75 Tryz.prog 169 [I c0] (I r) []
theorem Kcc : ∀ p r,Kca p = some r → Kcb p r := by
 rintro c0 r h
 unfold Kca at h
 refine b0 Tryz.f169 K3v 13 [(0,I c0)] fun c hc => ?_
 refine rs0 hc 1 [(0,I c0)] [] ?_
 refine sN ?_
 refine bk 0 ?_
 refine rs0 hc 3 [(0,I c0),(3,.bool (decide (c0 ≥ 35)))] [] ?_
 refine ic h (fun a0 h => ?_) fun a0 h => ?_
 ·refine rs0 hc 1 [(2,I (-1))] [] ?_
  refine rt ?_
  obtain rfl := os h
  exact rq [true]
 refine rs0 hc 3 [(0,I c0),(6,.bool (decide (c0 ≥ 19)))] [] ?_
 refine ic h (fun a1 h => ?_) fun a1 h => ?_
 ·refine rs0 hc 3 [(2,I (wr (c0 - 19)))] [] ?_
  refine rt ?_
  obtain rfl := os h
  exact rq [true]
 refine sk ?_
 refine rs0 hc 3 [(2,I (wr (c0 - 3)))] [] ?_
 refine rt ?_
 obtain rfl := os h
 exact rq [true]
def Kcd (p : K02 × (List Int)) : Option (K01 × K02) :=
 match p with
 | (c0,ty1) =>
  (idx ty1 0) >>= fun a0 =>
  if (a0 == 0) = true then
  (K7t (c0,3)) >>= fun (a1,a2) =>
  (Kbi (1,a1,[])) >>= fun a3 =>
  some (a3,a2)
  else
  if (a0 == 1) = true then
  (Kc4 (ty1,0)) >>= fun a4 =>
  (Kcd (c0,a4)) >>= fun (a5,a6) =>
  (Kc4 (ty1,1)) >>= fun a7 =>
  (Kcd (a6,a7)) >>= fun (a8,a9) =>
  (Kbi (4,0,[a5,a8])) >>= fun b1 =>
  some (b1,a9)
  else
  ((
  if (a0 == 2) = true then
  (Kc7 (c0,2)) >>= fun (b2,b3) =>
  some ((b3.fb,b3.fi,b3.fh,b2))
  else
  some ((c0.fb,c0.fi,c0.fh,false))
  ) : Option ((List Int) × Int × Int × Bool)) >>= fun (b4,b5,b6,b7) =>
  if b7 = true then
  (Kc4 (ty1,1)) >>= fun b8 =>
  (Kc4 (ty1,0)) >>= fun b9 =>
  (Kcd ((K02.mk b4 b5 b6),b9)) >>= fun (c1,c2) =>
  some ((K01.mk 6 0 b8 [c1]),c2)
  else
  if (a0 == 2) = true then
  (Kc4 (ty1,0)) >>= fun c3 =>
  (Kc4 (ty1,1)) >>= fun c4 =>
  (Kcd ((K02.mk b4 b5 b6),c4)) >>= fun (c5,c6) =>
  some ((K01.mk 7 0 c3 [c5]),c6)
  else
  (Kca a0) >>= fun c7 =>
  (Kc4 (ty1,0)) >>= fun c8 =>
  (Kcd ((K02.mk b4 b5 b6),c8)) >>= fun (c9,d0) =>
  (Kbi (11,c7,[c9])) >>= fun d1 =>
  some (d1,d0)
 partial_fixpoint
def Kce (p : K02 × (List Int)) (r : K01 × K02) : Prop :=
 match p with
 | (c0,ty1) => Q75 Tryz.prog 104 [.optr [.sl (List.map U8 c0.fb),I c0.fi,I c0.fh],sI ty1] (.agg [I r.1.fOp,I r.1.fN,.sl (List.map I r.1.fType),.sl (List.map K06 r.1.fKids)]) [.optr [.sl (List.map U8 r.2.fb),I r.2.fi,I r.2.fh],.undef]
theorem Kcf : ∀ p r,Kcd p = some r → Kce p r := by
 refine Kcd.partial_correctness Kce ?_
 rintro spec_dValue_f spec_dValue_ih ⟨c0,ty1⟩ r h
 refine Q75.bodyO K20 (fn := Tryz.f104) (code := K3s) (by kernel_rfl) (by kernel_rfl) (by kernel_rfl) (nt := 62) (by kernel_rfl) (by kernel_rfl) (T := [(0,.ra 1000 0),(1,sI ty1)]) (O := [(1000,K1d c0)]) (by kernel_rfl) (by kernel_rfl) (fun c hc => ?_)
 refine rs hc none [some (.new 1)] [(0,.ra 1000 0),(1,sI ty1),(4,.ra 1 0)] [(1,.box [I 0,I 0,.nils,.nils]),(1000,K1d c0)] tv ?_
 obtain ⟨a0,a1,h⟩ := Qds h
 refine rss hc none [oN,some (.el (I a0)),oN,oN] [(0,.ra 1000 0),(1,sI ty1),(4,.ra 1 0),(5,I a0)] (ai (ix a1) tv) ?_
 refine sN ?_
 refine bk 0 ?_
 refine K7e hc 3 [(0,.ra 1000 0),(1,sI ty1),(4,.ra 1 0),(5,I a0),(9,.bool (a0 == 0))] ?_
 refine ic h (fun a2 h => ?_) fun a2 h => ?_
 ·obtain ⟨⟨a3,a4⟩,a5,h⟩ := Qds h
  obtain ⟨a6,a7,h⟩ := Qds h
  refine rs hc none [oN,some (.call (I a3) [.optr [.sl (List.map U8 a4.fb),I a4.fi,I a4.fh],.undef] 1),oc (K1c a6),oN] [(4,.ra 1 0)] [(1,K1b a6),(1000,K1d a4)] (ab (K7v _ _ a5) K25 (cq (Q75.args (A1 := [I 1,I a3,.sl []]) (A2 := [I 1,I a3,.sl (List.map K06 [])]) (by simp only [List.map_nil]) (Kbk _ _ a7)) K3f tv)) ?_
  refine rt ?_
  obtain rfl := os h
  exact Qdp.ret (fl := [false]) (by kernel_rfl)
 refine K7e hc 3 [(0,.ra 1000 0),(1,sI ty1),(4,.ra 1 0),(5,I a0),(15,.bool (a0 == 1))] ?_
 refine ic h (fun a8 h => ?_) fun a8 h => ?_
 ·obtain ⟨a9,b1,⟨b2,b3⟩,b4,h⟩ := bq2 h
  obtain ⟨b5,b6,⟨b7,b8⟩,b9,h⟩ := bq2 h
  obtain ⟨c1,c2,h⟩ := Qds h
  refine rs hc none [oN,oN,oc (sI a9),some (.call (K1c b2) [.optr [.sl (List.map U8 b3.fb),I b3.fi,I b3.fh],.undef] 1),oN,oN,oc (sI b5),some (.call (K1c b7) [.optr [.sl (List.map U8 b8.fb),I b8.fi,I b8.fh],.undef] 1),some (.eqv (.mk 4 false) ⟨[(26,.rs 4)],[(4,some (.arr (List.map K06 [b2,b7])))],[4]⟩),some (.call (K1c c1) [.tup []] 1),oN] [(4,.ra 1 0)] [(1,K1b c1),(1000,K1d b8)] (cq (Q75.res (r2 := sI a9) (by simp only [share,Q02,Qek]) (Q75.shr (Kc6 _ _ b1))) K3r (ab (spec_dValue_ih _ _ b4) K3t (cq (Q75.res (r2 := sI b5) (by simp only [share,Q02,Qek]) (Q75.shr (Kc6 _ _ b6))) K3r (ad (spec_dValue_ih _ _ b9) K3t (congrArg (fun z => (⟨[(26,.rs 4)],[(4,some (.arr z))],[4]⟩ : Wr)) ((Qez (K0d b2) (Qez (K0d b7) Qey)) : [K1c b2,K1c b7] = List.map K06 [b2,b7])) (Q75.args (A1 := [I 4,I 0,.sl (Q02 (List.map K06 [b2,b7]))]) (A2 := [I 4,I 0,.sl (List.map K06 [b2,b7])]) (by simp only [List.map_nil,K0w]) (Kbk _ _ c2)) (ai K3f tv))))) ?_
  refine rt ?_
  obtain rfl := os h
  exact Qdp.ret (fl := [false]) (by kernel_rfl)
 refine sN ?_
 obtain ⟨⟨c3,c4,c5,c6⟩,c7,h⟩ := Qds h
 refine Wp.into (x := .normal) (mkS [(0,.ra 1000 0),(1,sI ty1),(4,.ra 1 0),(5,I a0),(28,.bool c6)] [(1,.box [I 0,I 0,.nils,.nils]),(1000,.box [.sl (List.map U8 c3),I c4,I c5])]) ?_ ?_
 ·replace h := c7
  rcases is h with ⟨c8,h⟩ | ⟨c8,h⟩
  ·obtain ⟨⟨c9,d0⟩,d1,h⟩ := Qds h
   refine rg hc none [oN,oN,oN,oN,some (.call (.bool c9) [.optr [.sl (List.map U8 d0.fb),I d0.fi,I d0.fh],.undef] 1),oT,oN] [(0,.ra 1000 0),(1,sI ty1),(4,.ra 1 0),(5,I a0),(28,.bool c9)] [(1,.box [I 0,I 0,.nils,.nils]),(1000,K1d d0)] (ar 2 c8 (ac (Kc9 _ _ d1) K3u c8 tv)) ?_
   obtain ⟨rfl,hq0⟩ := Prod.mk.inj (Option.some.inj h)
   obtain ⟨rfl,hq1⟩ := Prod.mk.inj (hq0)
   obtain ⟨rfl,rfl⟩ := Prod.mk.inj (hq1)
   exact Qde.mk
  refine rgs hc none [oN,oN,oN,o_,o_,oF,oN] [(0,.ra 1000 0),(1,sI ty1),(4,.ra 1 0),(5,I a0),(28,.bool false)] (ar 2 (neT c8) (ai c8 tv)) ?_
  obtain ⟨rfl,hq0⟩ := Prod.mk.inj (Option.some.inj h)
  obtain ⟨rfl,hq1⟩ := Prod.mk.inj (hq0)
  obtain ⟨rfl,rfl⟩ := Prod.mk.inj (hq1)
  exact Qde.mk
 clear c7
 refine ic h (fun d2 h => ?_) fun d2 h => ?_
 ·obtain ⟨d3,d4,d5,d6,⟨d7,d8⟩,d9,h⟩ := bq3 h
  refine rs hc none [oN,some (.call (oI d3) [] 7),oN,oN,oc (sI d5),some (.call (K1c d7) [.optr [.sl (List.map U8 d8.fb),I d8.fi,I d8.fh],.undef] 1),some (.eqv (.mk 8 false) ⟨[(41,.rs 8)],[(8,some (.arr (List.map K06 [d7])))],[8]⟩),oN,oN] [(4,.ra 1 0)] [(1,.box [I 6,I 0,.rs 7,.rs 8]),(7,rI d3),(8,.arr (List.map K06 [d7])),(1000,K1d d8)] (cq (Kc6 _ _ d4) K3r (cq (Q75.res (r2 := sI d5) (by simp only [share,Q02,Qek]) (Q75.shr (Kc6 _ _ d6))) K3r (ac (spec_dValue_ih _ _ d9) K3t (congrArg (fun z => (⟨[(41,.rs 8)],[(8,some (.arr z))],[8]⟩ : Wr)) ((Qez (K0d d7) Qey) : [K1c d7] = List.map K06 [d7])) tv))) ?_
  refine vz 7 (Qek d3) [(4,.ra 1 0)] [(1,.box [I 6,I 0,sI d3,.rs 8]),(8,.arr (List.map K06 [d7])),(1000,K1d d8)] ?_
  refine vz 8 (K0w [d7]) [(4,.ra 1 0)] [(1,.box [I 6,I 0,sI d3,.sl (List.map K06 [d7])]),(1000,K1d d8)] ?_
  refine rt ?_
  obtain rfl := os h
  exact Qdp.ret (fl := [false]) (by kernel_rfl)
 refine K7e hc 3 [(0,.ra 1000 0),(1,sI ty1),(4,.ra 1 0),(5,I a0),(43,.bool (a0 == 2))] ?_
 refine ic h (fun e0 h => ?_) fun e0 h => ?_
 ·obtain ⟨e1,e2,e3,e4,⟨e5,e6⟩,e7,h⟩ := bq3 h
  refine rs hc none [oN,some (.call (oI e1) [] 11),oN,oN,oc (sI e3),some (.call (K1c e5) [.optr [.sl (List.map U8 e6.fb),I e6.fi,I e6.fh],.undef] 1),some (.eqv (.mk 12 false) ⟨[(52,.rs 12)],[(12,some (.arr (List.map K06 [e5])))],[12]⟩),oN,oN] [(4,.ra 1 0)] [(1,.box [I 7,I 0,.rs 11,.rs 12]),(11,rI e1),(12,.arr (List.map K06 [e5])),(1000,K1d e6)] (cq (Kc6 _ _ e2) K3r (cq (Q75.res (r2 := sI e3) (by simp only [share,Q02,Qek]) (Q75.shr (Kc6 _ _ e4))) K3r (ac (spec_dValue_ih _ _ e7) K3t (congrArg (fun z => (⟨[(52,.rs 12)],[(12,some (.arr z))],[12]⟩ : Wr)) ((Qez (K0d e5) Qey) : [K1c e5] = List.map K06 [e5])) tv))) ?_
  refine vz 11 (Qek e1) [(4,.ra 1 0)] [(1,.box [I 7,I 0,sI e1,.rs 12]),(12,.arr (List.map K06 [e5])),(1000,K1d e6)] ?_
  refine vz 12 (K0w [e5]) [(4,.ra 1 0)] [(1,.box [I 7,I 0,sI e1,.sl (List.map K06 [e5])]),(1000,K1d e6)] ?_
  refine rt ?_
  obtain rfl := os h
  exact Qdp.ret (fl := [false]) (by kernel_rfl)
 refine sk ?_
 obtain ⟨e8,e9,f0,f1,⟨f2,f3⟩,f4,h⟩ := bq3 h
 obtain ⟨f5,f6,h⟩ := Qds h
 refine rs hc none [oN,oc (I e8),oN,oN,oc (sI f0),some (.call (K1c f2) [.optr [.sl (List.map U8 f3.fb),I f3.fi,I f3.fh],.undef] 1),some (.eqv (.mk 14 false) ⟨[(60,.rs 14)],[(14,some (.arr (List.map K06 [f2])))],[14]⟩),some (.call (K1c f5) [.tup []] 1),oN] [(4,.ra 1 0)] [(1,K1b f5),(1000,K1d f3)] (cq (Kcc _ _ e9) K3w (cq (Q75.res (r2 := sI f0) (by simp only [share,Q02,Qek]) (Q75.shr (Kc6 _ _ f1))) K3r (ad (spec_dValue_ih _ _ f4) K3t (congrArg (fun z => (⟨[(60,.rs 14)],[(14,some (.arr z))],[14]⟩ : Wr)) ((Qez (K0d f2) Qey) : [K1c f2] = List.map K06 [f2])) (Q75.args (A1 := [I 11,I e8,.sl (Q02 (List.map K06 [f2]))]) (A2 := [I 11,I e8,.sl (List.map K06 [f2])]) (by simp only [List.map_nil,K0w]) (Kbk _ _ f6)) (ai K3f tv)))) ?_
 refine rt ?_
 obtain rfl := os h
 exact Qdp.ret (fl := [false]) (by kernel_rfl)
def Kcg (p : Int × Int) : Option (Int) :=
 match p with
 | (op0,kid1) =>
  ((
  if (op0 == 5) = true then
  some ((kid1 == 1))
  else
  some (false)
  ) : Option (Bool)) >>= fun a0 =>
  if a0 = true then
  some 2
  else
  ((
  if (op0 == 8) = true then
  if (decide (kid1 > 0)) = true then
  some (true)
  else
  if (op0 == 9) = true then
  some (true)
  else
  if (op0 == 12) = true then
  some ((kid1 == 1))
  else
  some (false)
  else
  if (op0 == 9) = true then
  some (true)
  else
  if (op0 == 12) = true then
  some ((kid1 == 1))
  else
  some (false)
  ) : Option (Bool)) >>= fun a1 =>
  if a1 = true then
  some 1
  else
  some 0
def Kch (p : Int × Int) (r : Int) : Prop :=
 match p with
 | (op0,kid1) => Q75 Tryz.prog 191 [I op0,I kid1] (I r) []
theorem Kci : ∀ p r,Kcg p = some r → Kch p r := by
 rintro ⟨op0,kid1⟩ r h
 unfold Kcg at h
 refine b0 Tryz.f191 K3x 31 [(0,I op0),(1,I kid1)] fun c hc => ?_
 refine rs0 hc 1 [(0,I op0),(1,I kid1)] [] ?_
 refine sN ?_
 refine bk 0 ?_
 refine sN ?_
 obtain ⟨a0,a1,h⟩ := Qds h
 refine Wp.into (x := .normal) (mkS [(0,I op0),(1,I kid1),(5,.bool a0)] []) ?_ ?_
 ·replace h := a1
  rcases is h with ⟨a2,h⟩ | ⟨a2,h⟩
  ·refine rg hc none [oN,oN,oN,oN,oN,oT,oN] [(0,I op0),(1,I kid1),(5,.bool (kid1 == 1))] [] (ar 3 a2 tv) ?_
   obtain rfl := os h
   exact Qde.mk
  refine rg hc none [oN,oN,oN,o_,o_,oF,oN] [(0,I op0),(1,I kid1),(5,.bool false)] [] (ar 2 (neT a2) (ai a2 tv)) ?_
  obtain rfl := os h
  exact Qde.mk
 clear a1
 refine ic h (fun a3 h => ?_) fun a3 h => ?_
 ·refine rs0 hc 1 [(4,I 2)] [] ?_
  refine rt ?_
  obtain rfl := os h
  exact rq [true]
 refine sN ?_
 obtain ⟨a4,a5,h⟩ := Qds h
 refine Wp.into (x := .normal) (mkS [(12,.bool a4)] []) ?_ ?_
 ·replace h := a5
  rcases is h with ⟨a6,h⟩ | ⟨a6,h⟩
  ·rcases is h with ⟨a7,h⟩ | ⟨a7,h⟩
   ·refine rg hc none [oN,oN,oN,oN,oN,oT,oN,o_,o_,oT,oN,o_,o_,o_,o_,o_,o_,oT,oN] [(12,.bool true)] [] (ar 3 a6 (ar 2 (neF a7) (ai a7 (ar 4 nf (ai tt tv))))) ?_
    obtain rfl := os h
    exact Qde.mk
   rcases is h with ⟨a8,h⟩ | ⟨a8,h⟩
   ·refine rg hc none [oN,oN,oN,oN,oN,oT,oN,oN,oN,oF,oN,o_,o_,o_,o_,o_,o_,oT,oN] [(12,.bool true)] [] (ar 3 a6 (ar 3 a7 (ar 4 (neF a8) (ai a8 tv)))) ?_
    obtain rfl := os h
    exact Qde.mk
   rcases is h with ⟨a9,h⟩ | ⟨a9,h⟩
   ·refine rg hc none [oN,oN,oN,oN,oN,oT,oN,oN,oN,oF,oN,oN,oN,oN,oN,oN,oT,oF,oN] [(12,.bool (kid1 == 1))] [] (ar 3 a6 (ar 3 a7 (ar 3 a8 (ar 2 a9 (ac a8 a9 a8 tv))))) ?_
    obtain rfl := os h
    exact Qde.mk
   refine rg hc none [oN,oN,oN,oN,oN,oT,oN,oN,oN,oF,oN,oN,oN,oN,o_,o_,oF,oF,oN] [(12,.bool false)] [] (ar 3 a6 (ar 3 a7 (ar 3 a8 (ar 2 (neT a9) (ac a8 a9 a8 tv))))) ?_
   obtain rfl := os h
   exact Qde.mk
  rcases is h with ⟨a7,h⟩ | ⟨a7,h⟩
  ·refine rg hc none [oN,oN,oN,o_,o_,oF,oN,oN,oN,oF,oN,o_,o_,o_,o_,o_,o_,oT,oN] [(12,.bool true)] [] (ar 2 (neT a6) (ai a6 (ar 3 (rfl : false = false) (ar 4 (neF a7) (ai a7 tv))))) ?_
   obtain rfl := os h
   exact Qde.mk
  rcases is h with ⟨a8,h⟩ | ⟨a8,h⟩
  ·refine rg hc none [oN,oN,oN,o_,o_,oF,oN,oN,oN,oF,oN,oN,oN,oN,oN,oN,oT,oF,oN] [(12,.bool (kid1 == 1))] [] (ar 2 (neT a6) (ai a6 (ar 3 (rfl : false = false) (ar 3 a7 (ar 2 a8 (ac a7 a8 a7 tv)))))) ?_
   obtain rfl := os h
   exact Qde.mk
  refine rg hc none [oN,oN,oN,o_,o_,oF,oN,oN,oN,oF,oN,oN,oN,oN,o_,o_,oF,oF,oN] [(12,.bool false)] [] (ar 2 (neT a6) (ai a6 (ar 3 (rfl : false = false) (ar 3 a7 (ar 2 (neT a8) (ac a7 a8 a7 tv)))))) ?_
  obtain rfl := os h
  exact Qde.mk
 clear a5
 refine ic h (fun b1 h => ?_) fun b1 h => ?_
 ·refine rs0 hc 1 [(4,I 1)] [] ?_
  refine rt ?_
  obtain rfl := os h
  exact rq [true]
 refine sk ?_
 refine rs0 hc 1 [(4,I 0)] [] ?_
 refine rt ?_
 obtain rfl := os h
 exact rq [true]
def Kcj (c : Ctx) (t0 : K01) (a0 : List Int) (a1 : Int) : (List K01) → Exit → Q0a → Prop
 | a2 => Qde c (.exit 0) (mkS [(6,.ra 2 0),(7,.ra 4 0)] [(2,.box [I 0,I 0,.nils,.nils]),(3,rI a0),(4,.box [I t0.fOp,I a1,.rs 3,.rs 9]),(9,.arr (List.map K09 a2))])
mutual
def Kck (p : K01 × Int × Int) : Option (K01) :=
 match p with
 | (t0,by1,from2) =>
  (Kc1 t0.fType) >>= fun a0 =>
  ((
  if (t0.fOp == 0) = true then
  some ((decide (t0.fN ≥ from2)))
  else
  some (false)
  ) : Option (Bool)) >>= fun a1 =>
  ((
  if a1 = true then
  some ((wr (t0.fN + by1)))
  else
  some (t0.fN)
  ) : Option (Int)) >>= fun a2 =>
  (Kcl (t0,by1,from2,a0,a2,[],0)) >>= fun a3 =>
  some (K01.mk t0.fOp a2 a0 a3)
 partial_fixpoint
def Kcl (p : K01 × Int × Int × (List Int) × Int × (List K01) × Int) : Option ((List K01)) :=
 match p with
 | (t0,by1,from2,a0,a1,a2,a3) =>
  if (decide (a3 < (t0.fKids.length : Int))) = true then
  (idx t0.fKids a3) >>= fun a4 =>
  (Kcg (t0.fOp,a3)) >>= fun a5 =>
  (Kck (a4,by1,(wr (from2 + a5)))) >>= fun a6 =>
  (Qe5 (a2.length + [a6].length) 64) >>= fun _ =>
  Kcl (t0,by1,from2,a0,a1,(a2 ++ [a6]),(wr (a3 + 1)))
  else
  some (a2)
 partial_fixpoint
end
def Kcm (p : K01 × Int × Int) (r : K01) : Prop :=
 match p with
 | (t0,by1,from2) => Q75 Tryz.prog 132 [K1c t0,I by1,I from2] (K1h r) []
def Kcn (p : K01 × Int × Int × (List Int) × Int × (List K01) × Int) (fl : (List K01)) : Prop :=
 match p with
 | (t0,by1,from2,a0,a1,a2,a3) => ∀ c : Ctx,c.nt = 57 → WpL Tryz.prog c (cl (cl (cr (cl (cr (cr (cr K3z))))))) (Kcj c t0 a0 a1 fl) (mkS [(1,I by1),(2,I from2),(3,.ra 1 0),(6,.ra 2 0),(7,.ra 4 0),(8,I a3)] [(1,K1b t0),(2,.box [I 0,I 0,.nils,.nils]),(3,rI a0),(4,.box [I t0.fOp,I a1,.rs 3,.rs 9]),(9,.arr (List.map K09 a2))])
theorem Kco : (∀ p r,Kck p = some r → Kcm p r) ∧ (∀ p r,Kcl p = some r → Kcn p r) := by
 refine Kck.mutual_partial_correctness Kcm Kcn ?_ ?_
 ·rintro spec_l2Shift_l0_f spec_l2Shift_l0_ih ⟨t0,by1,from2⟩ r h
  refine b0 Tryz.f132 K3z 57 [(0,K1c t0),(1,I by1),(2,I from2)] fun c hc => ?_
  refine rs hc none [some (.new 1),some (.new 2)] [(1,I by1),(2,I from2),(3,.ra 1 0),(6,.ra 2 0)] [(1,K1b t0),(2,.box [I 0,I 0,.nils,.nils])] tv ?_
  obtain ⟨a0,a1,h⟩ := Qds h
  refine rs hc (rx [[0],[1],[0],[0,2],[0],[0,4],[0,4,5],[7],[0],[9]]) [oN,oN,oN,oN,oN,oN,some (.call (oI a0) [] 3),oN,some (.new 4),oN] [(1,I by1),(2,I from2),(3,.ra 1 0),(6,.ra 2 0),(7,.ra 4 0)] [(1,K1b t0),(2,.box [I 0,I 0,.nils,.nils]),(3,rI a0),(4,.box [I t0.fOp,I t0.fN,.rs 3,.nils])] (cq (Kc3 _ _ a1) K3p tv) ?_
  refine sN ?_
  refine sN ?_
  obtain ⟨a2,a3,h⟩ := Qds h
  refine Wp.into (x := .normal) (mkS [(1,I by1),(2,I from2),(3,.ra 1 0),(6,.ra 2 0),(7,.ra 4 0),(25,.bool a2)] [(1,K1b t0),(2,.box [I 0,I 0,.nils,.nils]),(3,rI a0),(4,.box [I t0.fOp,I t0.fN,.rs 3,.nils])]) ?_ ?_
  ·replace h := a3
   rcases is h with ⟨a4,h⟩ | ⟨a4,h⟩
   ·refine rgs hc none [oN,oN,oN,oN,oN,oN,oN,oN,oT] [(1,I by1),(2,I from2),(3,.ra 1 0),(6,.ra 2 0),(7,.ra 4 0),(25,.bool (decide (t0.fN ≥ from2)))] (ar 5 a4 tv) ?_
    obtain rfl := os h
    exact Qde.mk
   refine rgs hc none [oN,oN,oN,oN,o_,o_,o_,o_,oF] [(1,I by1),(2,I from2),(3,.ra 1 0),(6,.ra 2 0),(7,.ra 4 0),(25,.bool false)] (ar 4 (neT a4) (ai a4 tv)) ?_
   obtain rfl := os h
   exact Qde.mk
  clear a3
  obtain ⟨a5,a6,h⟩ := Qds h
  refine Wp.into (x := .normal) (mkS [(1,I by1),(2,I from2),(3,.ra 1 0),(6,.ra 2 0),(7,.ra 4 0)] [(1,K1b t0),(2,.box [I 0,I 0,.nils,.nils]),(3,rI a0),(4,.box [I t0.fOp,I a5,.rs 3,.nils])]) ?_ ?_
  ·replace h := a6
   refine ic h (fun a7 h => ?_) fun a7 h => ?_
   ·refine rg0 hc 6 [(1,I by1),(2,I from2),(3,.ra 1 0),(6,.ra 2 0),(7,.ra 4 0)] [(1,K1b t0),(2,.box [I 0,I 0,.nils,.nils]),(3,rI a0),(4,.box [I t0.fOp,I (wr (t0.fN + by1)),.rs 3,.nils])] ?_
    obtain rfl := os h
    exact Qde.mk
   refine sk ?_
   obtain rfl := os h
   exact iv []
  clear a6
  refine sN ?_
  refine K7e hc 1 [(1,I by1),(2,I from2),(3,.ra 1 0),(6,.ra 2 0),(7,.ra 4 0),(8,I 0)] ?_
  refine bk 0 ?_
  obtain ⟨a8,a9,h⟩ := Qds h
  have hL := spec_l2Shift_l0_ih _ _ a9 c hc
  refine Wp.loopN (by kernel_rfl) (WpL.view (fun a w hv => SRx.renL [(9,18)] (SRx.nilBL 4 3 18 [I t0.fOp,I a5,.rs 3,.nils] hv (by kernel_rfl) (by kernel_rfl) (by kernel_rfl)) (by kernel_rfl) (by kernel_rfl) (by kernel_rfl)) (?_ : WpL _ c _ _ (mkS [(1,I by1),(2,I from2),(3,.ra 1 0),(6,.ra 2 0),(7,.ra 4 0),(8,I 0)] [(1,K1b t0),(2,.box [I 0,I 0,.nils,.nils]),(3,rI a0),(4,.box [I t0.fOp,I a5,.rs 3,.rs 9]),(9,.arr (List.map K09 []))])))
  refine WpL.into (e := (.exit 0)) (mkS [(6,.ra 2 0),(7,.ra 4 0)] [(2,.box [I 0,I 0,.nils,.nils]),(3,rI a0),(4,.box [I t0.fOp,I a5,.rs 3,.rs 9]),(9,.arr (List.map K09 a8))]) hL ?_
  refine Qd6 ?_
  refine rs0 hc 2 [(6,.ra 2 0)] [(2,.box [I t0.fOp,I a5,.rs 3,.rs 9]),(3,rI a0),(9,.arr (List.map K09 a8))] ?_
  refine rt ?_
  obtain rfl := os h
  exact rq [true]
 ·rintro spec_l2Shift_f spec_l2Shift_l0_f spec_l2Shift_ih spec_l2Shift_l0_ih ⟨t0,by1,from2,a0,a5,b1,b2⟩ r h
  intro c hc
  refine WpL.step ?_
  refine sN ?_
  refine rss hc none [oN,oN,oN,some (.eqv (.no) ⟨[(34,I (t0.fKids.length : Int))],[],[]⟩),oN] [(1,I by1),(2,I from2),(3,.ra 1 0),(6,.ra 2 0),(7,.ra 4 0),(8,I b2),(35,.bool (decide (b2 < (t0.fKids.length : Int))))] (ai (Qdy (d := 34) K06 t0.fKids) tv) ?_
  refine ic h (fun b3 h => ?_) fun b3 h => ?_
  ·refine sk ?_
   refine sN ?_
   refine bk 1 ?_
   obtain ⟨b4,b5,b6,b7,b8,b9,_,c0,h⟩ := bq4 h
   refine rg hc (rx [[0],[1],[0],[0,2],[0],[0,2,3,4],[0,2,3,4,5],[0],[0],[0],[0,9],[0],[0,9,10,11],[0,8,9,10,11,12],[0,2,3,4,5,6,7,8,9,10,11,12,13],[0,2,3,4,5,6,7,8,9,10,11,12,13,14],[16],[17],[18]]) [oN,oN,oN,oN,oN,some (.el (K1c b4)),oN,oN,oN,oN,oN,oN,oc (I b6),oN,some (.call (K1h b8) [] 14),some (.eqv (.mk 16 true) ⟨[(53,.rs 16)],[(16,some (.arr (List.map K09 [b8]))),(14,none),(15,none)],[16]⟩),some (.eqv (.mk 17 true) ⟨[(54,.rs 17)],[(17,some (.arr (List.map K09 (b1 ++ [b8])))),(9,none),(16,none)],[17]⟩),oN,oN] [(1,I by1),(2,I from2),(3,.ra 1 0),(6,.ra 2 0),(7,.ra 4 0),(8,I b2)] [(1,K1b t0),(2,.box [I 0,I 0,.nils,.nils]),(3,rI a0),(4,.box [I t0.fOp,I a5,.rs 3,.rs 17]),(17,.arr (List.map K09 (b1 ++ [b8])))] (ai (Qdw b5 (K0d b4)) (cq (Kci _ _ b7) K3y (cq (spec_l2Shift_ih _ _ b9) K40 (ac (congrArg (fun z => (⟨[(53,.rs 16)],[(16,some (.arr z)),(14,none),(15,none)],[16]⟩ : Wr)) ((Qez (K0f b8) Qey) : [AV.agg [I b8.fOp,I b8.fN,oI b8.fType,AV.osl (List.map K09 b8.fKids)]] = List.map K09 [b8])) (congrArg (fun z => (⟨[(54,.rs 17)],[(17,some (.arr z)),(9,none),(16,none)],[17]⟩ : Wr)) ((List.map_append).symm : (List.map K09 b1) ++ (List.map K09 [b8]) = List.map K09 (b1 ++ [b8]))) (Qe6 (enc1 := K09) (enc2 := K09) (e1 := b1) (e2 := [b8]) (sz := 4) K0y K0y c0) tv)))) ?_
   refine K7d hc 3 [(1,I by1),(2,I from2),(3,.ra 1 0),(6,.ra 2 0),(7,.ra 4 0),(8,I (wr (b2 + 1)))] ?_
   refine Qda ?_
   exact WpL.view (fun a w hv => SRx.renL [(9,17)] hv (by kernel_rfl) (by kernel_rfl) (by kernel_rfl)) (spec_l2Shift_l0_ih _ _ h c hc)
  refine xt 0 ?_
  refine Qd4 ?_
  refine Qdb ?_
  obtain rfl := os h
  exact iv []
theorem Kcp : ∀ p r,Kck p = some r → Kcm p r := Kco.1
theorem Kcq : ∀ p r,Kcl p = some r → Kcn p r := Kco.2
def Kcr (p : K02 × (List Int)) : Option (Int × K02) :=
 match p with
 | (c0,list1) =>
  (K7t (c0,(list1.length : Int))) >>= fun (a0,a1) =>
  (idx list1 a0) >>= fun a2 =>
  some (a2,a1)
def Kcs (p : K02 × (List Int)) (r : Int × K02) : Prop :=
 match p with
 | (c0,list1) => Q75 Tryz.prog 156 [.optr [.sl (List.map U8 c0.fb),I c0.fi,I c0.fh],sI list1] (I r.1) [.optr [.sl (List.map U8 r.2.fb),I r.2.fi,I r.2.fh],.undef]
theorem Kct : ∀ p r,Kcr p = some r → Kcs p r := by
 rintro ⟨c0,list1⟩ r h
 unfold Kcr at h
 refine Q75.bodyO K20 (fn := Tryz.f156) (code := K41) (by kernel_rfl) (by kernel_rfl) (by kernel_rfl) (nt := 12) (by kernel_rfl) (by kernel_rfl) (T := [(0,.ra 1000 0),(1,sI list1)]) (O := [(1000,K1d c0)]) (by kernel_rfl) (by kernel_rfl) (fun c hc => ?_)
 refine K7e hc 1 [(0,.ra 1000 0),(1,sI list1)] ?_
 obtain ⟨⟨a0,a1⟩,a2,h⟩ := Qds h
 obtain ⟨a3,a4,h⟩ := Qds h
 refine rs hc none [oN,oN,oN,some (.eqv (.no) ⟨[(8,I (list1.length : Int))],[],[]⟩),some (.call (I a0) [.optr [.sl (List.map U8 a1.fb),I a1.fi,I a1.fh],.undef] 1),some (.el (I a3)),oN,oN] [(4,I a3)] [(1000,K1d a1)] (ad (Qdy (d := 8) I list1) (K7v _ _ a2) K25 (ix a4) tv) ?_
 refine rt ?_
 obtain rfl := os h
 exact Qdp.ret (fl := [true]) (by kernel_rfl)
theorem Kcu {op N : Int} {ty : List Int} {ks : List K01} {enc : K01 → AV} (h : Q02 (List.map enc ks) = List.map K06 ks) : share (AV.agg [I op,I N,oI ty,.osl (List.map enc ks)]) = K06 (K01.mk op N ty ks) :=
 (show share (AV.agg [I op,I N,oI ty,.osl (List.map enc ks)]) = AV.agg [I op,I N,.sl (Q02 (List.map I ty)),.sl (Q02 (List.map enc ks))] from rfl).trans ((by rw [h,Qek] : AV.agg [I op,I N,.sl (Q02 (List.map I ty)),.sl (Q02 (List.map enc ks))] = AV.agg [I op,I N,sI ty,.sl (List.map K06 ks)]).trans (K0d (K01.mk op N ty ks)).symm)
theorem Kcv (u : K01) : K01.mk u.fOp u.fN u.fType u.fKids = u := by cases u; rfl
end Go.Am
