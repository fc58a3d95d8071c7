/- Functions of the program as pure functions,and that it computes them. Printed by a program of mine (gen.py). -/
import Derived.Test.YtckgdfakjjdodaaGreatGDEFF0
set_option linter.unusedVariables false
set_option linter.unusedSimpArgs false
set_option maxRecDepth 100000
namespace Go.Am
open Go Go.Proofs
def Kac : Option (List (List Nat)) := rx [[0],[1],[0],[0],[0],[0],[0,3,4,5],[0],[0],[0],[0,3,4,5,6,7,8,9],[0,2,3,4,5,6,7,8,9,10],[0,2,3,4,5,6,7,8,9,10,11],[13],[14],[15]]
def Kad : Option (List (List Nat)) := rx [[0],[1],[0],[0],[0],[0,2,3,4],[0,2,3,4,5],[0,2,3,4,5,6],[0,2,3,4,5,6],[0,2,3,4,5,6],[0,2,3,4,5,6,7,8,9],[0,2,3,4,5,6,7,8,9,10],[0,2,3,4,5,6,7,8,9,10,11],[13],[14],[15]]
def Kae (p : K00 × Int × Int) : Option ((Unit) ⊕ (Bool)) :=
 match p with
 | (s0,a0,a1) =>
  if (decide (a1 < s0.fSize)) = true then
  (Ka1 (s0,a0,a1)) >>= fun a2 =>
  if a2 = true then
  (Ka8 (s0,a0,a1,0)) >>= fun fl => match fl with
  | .inl () =>
   Kae (s0,a0,(wr (a1 + 1)))
  | .inr r =>
   some (.inr r)
  else
  some (.inr false)
  else
  some (.inl ())
 partial_fixpoint
def Kaf (p : K00 × Int × Int) (fl : (Unit) ⊕ (Bool)) : Prop :=
 match p with
 | (s0,a0,a1) => ∀ c : Ctx,c.nt = 42 → WpL Tryz.prog c (cl (cl (cr (cr (cl (cl (cr (cl (cl (cr (cl (cr (cr B80))))))))))))) (Kab c s0 a0 fl) (mkS [(1,.ra 1 0),(3,I a0),(4,I a1)] [(1,K1s s0)])
theorem Kag : ∀ p r,Kae p = some r → Kaf p r := by
 refine Kae.partial_correctness Kaf ?_
 rintro spec_IsSystem_l1_f spec_IsSystem_l1_ih ⟨s0,a0,a1⟩ r h
 intro c hc
 refine WpL.step ?_
 refine sN ?_
 refine K7k hc 4 [(1,.ra 1 0),(3,I a0),(4,I a1),(22,.bool (decide (a1 < s0.fSize)))] ?_
 refine ic h (fun a2 h => ?_) fun a2 h => ?_
 ·refine sk ?_
  refine sN ?_
  refine bk 3 ?_
  refine sN ?_
  obtain ⟨a3,a4,h⟩ := Qdd h
  refine rss hc none [oN,oN,oN,oc (.bool a3),oN] [(1,.ra 1 0),(3,I a0),(4,I a1),(29,.bool (!a3))] (cq (Ka3 _ _ a4) K3s tv) ?_
  rcases is h with ⟨a5,h⟩ | ⟨a5,h⟩
  ·refine cF (!a3) (nF a5) ?_
   refine sk ?_
   refine K7k hc 1 [(1,.ra 1 0),(3,I a0),(4,I a1),(5,I 0)] ?_
   refine bk 4 ?_
   obtain ⟨fl,a6,h⟩ := Qdd h
   have hL := Kaa _ _ a6 c hc
   refine lp ?_
   rcases fl with ⟨⟩ | r
   ·refine WpL.into (e := (.exit 4)) (mkS [(1,.ra 1 0),(3,I a0),(4,I a1)] [(1,K1s s0)]) hL ?_
    refine Qcr ?_
    refine K7j hc 3 [(1,.ra 1 0),(3,I a0),(4,I (wr (a1 + 1)))] ?_
    refine Qcv ?_
    exact (spec_IsSystem_l1_ih _ _ h c hc)
   refine WpL.mono hL ?_
   rintro _ _ ⟨rfl,hfin⟩
   obtain rfl := os h
   exact ⟨rfl,hfin⟩
  refine cT (!a3) (nT a5) ?_
  refine rs0 hc 1 [(2,.bool false)] [] ?_
  refine rt ?_
  obtain rfl := os h
  exact re [true]
 refine xt 2 ?_
 refine Qcp ?_
 refine Qcw ?_
 obtain rfl := os h
 exact iv []
def Kah (c : Ctx) : (Unit) ⊕ (Bool) → Exit → Q0a → Prop
 | .inl _ => Qcz c (.exit 0) (mkS [] [])
 | .inr r => Qd8 TIx Tryz.f80 [] (.bool r)
def Kai (p : K00 × Int) : Option ((Unit) ⊕ (Bool)) :=
 match p with
 | (s0,a0) =>
  if (decide (a0 < s0.fSize)) = true then
  (K9n (s0,a0)) >>= fun a1 =>
  if a1 = true then
  (Kae (s0,a0,0)) >>= fun fl => match fl with
  | .inl () =>
   Kai (s0,(wr (a0 + 1)))
  | .inr r =>
   some (.inr r)
  else
  some (.inr false)
  else
  some (.inl ())
 partial_fixpoint
def Kaj (p : K00 × Int) (fl : (Unit) ⊕ (Bool)) : Prop :=
 match p with
 | (s0,a0) => ∀ c : Ctx,c.nt = 42 → WpL Tryz.prog c (cl (cl (cr (cl (cr (cr B80)))))) (Kah c fl) (mkS [(1,.ra 1 0),(3,I a0)] [(1,K1s s0)])
theorem Kak : ∀ p r,Kai p = some r → Kaj p r := by
 refine Kai.partial_correctness Kaj ?_
 rintro spec_IsSystem_l2_f spec_IsSystem_l2_ih ⟨s0,a0⟩ r h
 intro c hc
 refine WpL.step ?_
 refine sN ?_
 refine K7k hc 4 [(1,.ra 1 0),(3,I a0),(12,.bool (decide (a0 < s0.fSize)))] ?_
 refine ic h (fun a1 h => ?_) fun a1 h => ?_
 ·refine sk ?_
  refine sN ?_
  refine bk 1 ?_
  refine sN ?_
  obtain ⟨a2,a3,h⟩ := Qdd h
  refine rss hc none [oN,oN,oc (.bool a2),oN] [(1,.ra 1 0),(3,I a0),(18,.bool (!a2))] (cq (K9p _ _ a3) K3o tv) ?_
  rcases is h with ⟨a4,h⟩ | ⟨a4,h⟩
  ·refine cF (!a2) (nF a4) ?_
   refine sk ?_
   refine K7k hc 1 [(1,.ra 1 0),(3,I a0),(4,I 0)] ?_
   refine bk 2 ?_
   obtain ⟨fl,a5,h⟩ := Qdd h
   have hL := Kag _ _ a5 c hc
   refine lp ?_
   rcases fl with ⟨⟩ | r
   ·refine WpL.into (e := (.exit 2)) (mkS [(1,.ra 1 0),(3,I a0)] [(1,K1s s0)]) hL ?_
    refine Qcr ?_
    refine K7j hc 3 [(1,.ra 1 0),(3,I (wr (a0 + 1)))] ?_
    refine Qcv ?_
    exact (spec_IsSystem_l2_ih _ _ h c hc)
   refine WpL.mono hL ?_
   rintro _ _ ⟨rfl,hfin⟩
   obtain rfl := os h
   exact ⟨rfl,hfin⟩
  refine cT (!a2) (nT a4) ?_
  refine rs0 hc 1 [(2,.bool false)] [] ?_
  refine rt ?_
  obtain rfl := os h
  exact re [true]
 refine xt 0 ?_
 refine Qcp ?_
 refine Qcw ?_
 obtain rfl := os h
 exact iv []
def Kal (s0 : K00) : Option (Bool) :=
 (K97 s0) >>= fun a0 =>
 if a0 = true then
 (Kai (s0,0)) >>= fun fl => match fl with
 | .inl () =>
  some true
 | .inr r =>
  some r
 else
 some false
def Kam (s0 : K00) (r : Bool) : Prop :=
 Q71 Tryz.prog 80 [K1t s0] (.bool r) []
theorem Kan : ∀ p r,Kal p = some r → Kam p r := by
 rintro s0 r h
 unfold Kal at h
 refine b0 Tryz.f80 B80 42 [(0,K1t s0)] fun c hc => ?_
 refine rs hc none [some (.new 1),oN] [(1,.ra 1 0)] [(1,K1s s0)] tv ?_
 refine sN ?_
 obtain ⟨a0,a1,h⟩ := Qdd h
 refine rss hc none [oN,oc (.bool a0),oN] [(1,.ra 1 0),(8,.bool (!a0))] (cq (K99 _ _ a1) K3g tv) ?_
 rcases is h with ⟨a2,h⟩ | ⟨a2,h⟩
 ·refine cF (!a0) (nF a2) ?_
  refine sk ?_
  refine sN ?_
  refine K7k hc 1 [(1,.ra 1 0),(3,I 0)] ?_
  refine bk 0 ?_
  obtain ⟨fl,a3,h⟩ := Qdd h
  have hL := Kak _ _ a3 c hc
  refine lp ?_
  rcases fl with ⟨⟩ | r
  ·refine WpL.into (e := (.exit 0)) (mkS [] []) hL ?_
   refine Qcr ?_
   refine rs0 hc 1 [(2,.bool true)] [] ?_
   refine rt ?_
   obtain rfl := os h
   exact rq [true]
  refine WpL.mono hL ?_
  rintro _ _ ⟨rfl,hfin⟩
  obtain rfl := os h
  exact ⟨.inl rfl,hfin⟩
 refine cT (!a0) (nT a2) ?_
 refine rs0 hc 1 [(2,.bool false)] [] ?_
 refine rt ?_
 obtain rfl := os h
 exact rq [true]
def Kao (p : K00 × K00) : Option (Bool) :=
 match p with
 | (a0,b1) =>
  ((
  (Kal a0) >>= fun a1 =>
  if a1 = true then
  (Kal b1) >>= fun a2 =>
  if a2 = true then
  some ((decide ((wr (a0.fSize * b1.fSize)) ≤ 16)))
  else
  some (false)
  else
  some (false)
  ) : Option (Bool)) >>= fun a3 =>
  some a3
def Kap (p : K00 × K00) (r : Bool) : Prop :=
 match p with
 | (a0,b1) => Q71 Tryz.prog 207 [K1t a0,K1t b1] (.bool r) []
theorem Kaq : ∀ p r,Kao p = some r → Kap p r := by
 rintro ⟨a0,b1⟩ r h
 unfold Kao at h
 refine b0 Tryz.f207 K3w 19 [(0,K1t a0),(1,K1t b1)] fun c hc => ?_
 refine rs hc none [some (.new 1),some (.new 2),oN] [(2,.ra 1 0),(3,.ra 2 0)] [(1,K1s a0),(2,K1s b1)] tv ?_
 refine sN ?_
 obtain ⟨a1,a2,h⟩ := Qdd h
 refine Wp.into (x := .normal) (mkS [(4,.bool a1)] []) ?_ ?_
 ·replace h := a2
  obtain ⟨a3,a4,h⟩ := Qdd h
  rcases is h with ⟨a5,h⟩ | ⟨a5,h⟩
  ·obtain ⟨a6,a7,h⟩ := Qdd h
   rcases is h with ⟨a8,h⟩ | ⟨a8,h⟩
   ·refine rg hc none [oN,oc (.bool a3),oN,oN,oc (.bool a6),oT,oN,oN,oN,oN,oN,oN,oN,oT,oN] [(4,.bool (decide ((wr (a0.fSize * b1.fSize)) ≤ 16)))] [] (cq (Kan _ _ a4) K3v (ar 2 a5 (cq (Kan _ _ a7) K3v (ai a5 (ar 7 a8 tv))))) ?_
    obtain rfl := os h
    exact Qcz.mk
   refine rg hc none [oN,oc (.bool a3),oN,oN,oc (.bool a6),oT,oN,o_,o_,o_,o_,o_,o_,oF,oN] [(4,.bool false)] [] (cq (Kan _ _ a4) K3v (ar 2 a5 (cq (Kan _ _ a7) K3v (ai a5 (ar 6 (neT a8) (ai a8 tv)))))) ?_
   obtain rfl := os h
   exact Qcz.mk
  refine rg hc none [oN,oc (.bool a3),oN,o_,o_,oF,oN,o_,o_,o_,o_,o_,o_,oF,oN] [(4,.bool false)] [] (cq (Kan _ _ a4) K3v (ar 2 (neT a5) (ai a5 (ar 6 (neT (rfl : false = false)) (ai (rfl : false = false) tv))))) ?_
  obtain rfl := os h
  exact Qcz.mk
 clear a2
 refine rt ?_
 obtain rfl := os h
 exact rq [true]
def Kar (p : Int × Int) : Option (Int) :=
 match p with
 | (n0,g1) =>
  if (g1 == 0) = true then
  some 0
  else
  if (g1 == 1) = true then
  some 1
  else
  if (decide (g1 ≤ (wr (n0 + 1)))) = true then
  (chk (n0 ≠ 0)) >>= fun _ =>
  some (wr (Int.tdiv (wr (g1 - 1)) n0))
  else
  (chk (n0 ≠ 0)) >>= fun _ =>
  some (wr (Int.tdiv g1 n0))
def Kas (p : Int × Int) (r : Int) : Prop :=
 match p with
 | (n0,g1) => Q71 Tryz.prog 208 [I n0,I g1] (I r) []
theorem Kat : ∀ p r,Kar p = some r → Kas p r := by
 rintro ⟨n0,g1⟩ r h
 unfold Kar at h
 refine b0 Tryz.f208 K3y 23 [(0,I n0),(1,I g1)] fun c hc => ?_
 refine rs0 hc 1 [(0,I n0),(1,I g1)] [] ?_
 refine sN ?_
 refine bk 0 ?_
 refine rs0 hc 3 [(0,I n0),(1,I g1),(5,.bool (g1 == 0))] [] ?_
 refine ic h (fun a0 h => ?_) fun a0 h => ?_
 ·refine rs0 hc 1 [(4,I 0)] [] ?_
  refine rt ?_
  obtain rfl := os h
  exact rq [true]
 refine rs0 hc 3 [(0,I n0),(1,I g1),(8,.bool (g1 == 1))] [] ?_
 refine ic h (fun a1 h => ?_) fun a1 h => ?_
 ·refine rs0 hc 1 [(4,I 1)] [] ?_
  refine rt ?_
  obtain rfl := os h
  exact rq [true]
 refine rs0 hc 5 [(0,I n0),(1,I g1),(11,.bool (decide (g1 ≤ (wr (n0 + 1)))))] [] ?_
 refine ic h (fun a2 h => ?_) fun a2 h => ?_
 ·obtain ⟨_,a3,h⟩ := Qdd h
  refine rs hc none [oN,oN,oN,oN,oN] [(4,I (wr (Int.tdiv (wr (g1 - 1)) n0)))] [] (ai (Qdf a3) tv) ?_
  refine rt ?_
  obtain rfl := os h
  exact rq [true]
 refine sk ?_
 obtain ⟨_,a4,h⟩ := Qdd h
 refine rs hc none [oN,oN,oN,oN] [(4,I (wr (Int.tdiv g1 n0)))] [] (ai (Qdf a4) tv) ?_
 refine rt ?_
 obtain rfl := os h
 exact rq [true]
def Kau (p : Int × Int) : Option (Int) :=
 match p with
 | (n0,g1) =>
  if (decide (g1 < 2)) = true then
  some g1
  else
  if (decide (g1 ≤ (wr (n0 + 1)))) = true then
  (chk (n0 ≠ 0)) >>= fun _ =>
  some (Int.tmod (wr (g1 - 1)) n0)
  else
  (chk (n0 ≠ 0)) >>= fun _ =>
  some (Int.tmod g1 n0)
def Kav (p : Int × Int) (r : Int) : Prop :=
 match p with
 | (n0,g1) => Q71 Tryz.prog 209 [I n0,I g1] (I r) []
theorem Kaw : ∀ p r,Kau p = some r → Kav p r := by
 rintro ⟨n0,g1⟩ r h
 unfold Kau at h
 refine b0 Tryz.f209 K40 21 [(0,I n0),(1,I g1)] fun c hc => ?_
 refine rs0 hc 1 [(0,I n0),(1,I g1)] [] ?_
 refine sN ?_
 refine bk 0 ?_
 refine rs0 hc 3 [(0,I n0),(1,I g1),(5,.bool (decide (g1 < 2)))] [] ?_
 refine ic h (fun a0 h => ?_) fun a0 h => ?_
 ·refine rs0 hc 2 [(4,I g1)] [] ?_
  refine rt ?_
  obtain rfl := os h
  exact rq [true]
 refine rs0 hc 5 [(0,I n0),(1,I g1),(9,.bool (decide (g1 ≤ (wr (n0 + 1)))))] [] ?_
 refine ic h (fun a1 h => ?_) fun a1 h => ?_
 ·obtain ⟨_,a2,h⟩ := Qdd h
  refine rs hc none [oN,oN,oN,oN,oN] [(4,I (Int.tmod (wr (g1 - 1)) n0))] [] (ai (Qdf a2) tv) ?_
  refine rt ?_
  obtain rfl := os h
  exact rq [true]
 refine sk ?_
 obtain ⟨_,a3,h⟩ := Qdd h
 refine rs hc none [oN,oN,oN,oN] [(4,I (Int.tmod g1 n0))] [] (ai (Qdf a3) tv) ?_
 refine rt ?_
 obtain rfl := os h
 exact rq [true]
def Kax (p : Int × Int × Int) : Option (Int) :=
 match p with
 | (n0,x1,y2) =>
  if ((wr ((wr (x1 * n0)) + y2)) == 0) = true then
  some 0
  else
  if ((wr ((wr (x1 * n0)) + y2)) == (wr (n0 + 1))) = true then
  some 1
  else
  if (decide ((wr ((wr (x1 * n0)) + y2)) < (wr (n0 + 1)))) = true then
  some (wr ((wr ((wr (x1 * n0)) + y2)) + 1))
  else
  some (wr ((wr (x1 * n0)) + y2))
def Kay (p : Int × Int × Int) (r : Int) : Prop :=
 match p with
 | (n0,x1,y2) => Q71 Tryz.prog 210 [I n0,I x1,I y2] (I r) []
theorem Kaz : ∀ p r,Kax p = some r → Kay p r := by
 rintro ⟨n0,x1,y2⟩ r h
 unfold Kax at h
 refine b0 Tryz.f210 K42 29 [(0,I n0),(1,I x1),(2,I y2)] fun c hc => ?_
 refine rs0 hc 1 [(0,I n0),(1,I x1),(2,I y2)] [] ?_
 refine rs0 hc 6 [(0,I n0),(7,I (wr ((wr (x1 * n0)) + y2)))] [] ?_
 refine sN ?_
 refine bk 0 ?_
 refine rs0 hc 3 [(0,I n0),(7,I (wr ((wr (x1 * n0)) + y2))),(13,.bool ((wr ((wr (x1 * n0)) + y2)) == 0))] [] ?_
 refine ic h (fun a0 h => ?_) fun a0 h => ?_
 ·refine rs0 hc 1 [(6,I 0)] [] ?_
  refine rt ?_
  obtain rfl := os h
  exact rq [true]
 refine rs0 hc 5 [(0,I n0),(7,I (wr ((wr (x1 * n0)) + y2))),(16,.bool ((wr ((wr (x1 * n0)) + y2)) == (wr (n0 + 1))))] [] ?_
 refine ic h (fun a1 h => ?_) fun a1 h => ?_
 ·refine rs0 hc 1 [(6,I 1)] [] ?_
  refine rt ?_
  obtain rfl := os h
  exact rq [true]
 refine rs0 hc 5 [(7,I (wr ((wr (x1 * n0)) + y2))),(21,.bool (decide ((wr ((wr (x1 * n0)) + y2)) < (wr (n0 + 1)))))] [] ?_
 refine ic h (fun a2 h => ?_) fun a2 h => ?_
 ·refine rs0 hc 3 [(6,I (wr ((wr ((wr (x1 * n0)) + y2)) + 1)))] [] ?_
  refine rt ?_
  obtain rfl := os h
  exact rq [true]
 refine sk ?_
 refine rs0 hc 2 [(6,I (wr ((wr (x1 * n0)) + y2)))] [] ?_
 refine rt ?_
 obtain rfl := os h
 exact rq [true]
def Kb0 (c : Ctx) (a0 : K00) (b1 : K00) (a1 : Int) : (List Int) × (List Int) × (List Bool) → Exit → Q0a → Prop
 | (a2,a3,a4) => Qcz c (.exit 2) (mkS [(2,.ra 1 0),(3,.ra 2 0),(4,.ra 3 0),(6,I b1.fSize),(7,.ra 4 0),(8,I a1)] [(1,K1s a0),(2,K1s b1),(3,.box [I 0,.nils,.nils,.nils]),(4,.box [I (wr (a0.fSize * b1.fSize)),.rs 29,.rs 30,.rs 31]),(29,rI a2),(30,rI a3),(31,.arr (List.map AV.bool a4))])
def Kb1 (p : K00 × K00 × Int × (List Int) × (List Int) × (List Bool) × Int) : Option ((List Int) × (List Int) × (List Bool)) :=
 match p with
 | (a0,b1,a1,a2,a3,a4,a5) =>
  if (decide (a5 < (wr (a0.fSize * b1.fSize)))) = true then
  (Kar (b1.fSize,a1)) >>= fun a6 =>
  (Kau (b1.fSize,a1)) >>= fun a7 =>
  (Kar (b1.fSize,a5)) >>= fun a8 =>
  (Kau (b1.fSize,a5)) >>= fun a9 =>
  (K9a (a0,a6,a8)) >>= fun b2 =>
  (K9a (b1,a7,a9)) >>= fun b3 =>
  (Kax (b1.fSize,b2,b3)) >>= fun b4 =>
  (Qdq (a2.length + [b4].length) 8) >>= fun _ =>
  (K9h (a0,a6,a8)) >>= fun b5 =>
  (K9h (b1,a7,a9)) >>= fun b6 =>
  (Kax (b1.fSize,b5,b6)) >>= fun b7 =>
  (Qdq (a3.length + [b7].length) 8) >>= fun _ =>
  ((
  (K9k (a0,a6,a8)) >>= fun b8 =>
  if b8 = true then
  (K9k (b1,a7,a9)) >>= fun b9 =>
  (Qdq (a4.length + [b9].length) 1) >>= fun _ =>
  some ((a4 ++ [b9]))
  else
  (Qdq (a4.length + [false].length) 1) >>= fun _ =>
  some ((a4 ++ [false]))
  ) : Option ((List Bool))) >>= fun c0 =>
  Kb1 (a0,b1,a1,(a2 ++ [b4]),(a3 ++ [b7]),c0,(wr (a5 + 1)))
  else
  some ((a2,a3,a4))
 partial_fixpoint
def Kb2 (p : K00 × K00 × Int × (List Int) × (List Int) × (List Bool) × Int) (fl : (List Int) × (List Int) × (List Bool)) : Prop :=
 match p with
 | (a0,b1,a1,a2,a3,a4,a5) => ∀ c : Ctx,c.nt = 96 → WpL Tryz.prog c (cl (cl (cr (cl (cl (cr (cl (cl (cr (cl (cr (cr (cr (cr K44)))))))))))))) (Kb0 c a0 b1 a1 fl) (mkS [(2,.ra 1 0),(3,.ra 2 0),(4,.ra 3 0),(6,I b1.fSize),(7,.ra 4 0),(8,I a1),(9,I a5)] [(1,K1s a0),(2,K1s b1),(3,.box [I 0,.nils,.nils,.nils]),(4,.box [I (wr (a0.fSize * b1.fSize)),.rs 29,.rs 30,.rs 31]),(29,rI a2),(30,rI a3),(31,.arr (List.map AV.bool a4))])
theorem Kb3 : ∀ p r,Kb1 p = some r → Kb2 p r := by
 refine Kb1.partial_correctness Kb2 ?_
 rintro spec_ProductSystem_l0_f spec_ProductSystem_l0_ih ⟨a0,b1,a1,a2,a3,a4,a5⟩ r h
 intro c hc
 refine WpL.step ?_
 refine sN ?_
 refine K7k hc 4 [(2,.ra 1 0),(3,.ra 2 0),(4,.ra 3 0),(6,I b1.fSize),(7,.ra 4 0),(8,I a1),(9,I a5),(35,.bool (decide (a5 < (wr (a0.fSize * b1.fSize)))))] ?_
 refine ic h (fun a6 h => ?_) fun a6 h => ?_
 ·refine sk ?_
  refine sN ?_
  refine bk 3 ?_
  obtain ⟨a7,a8,h⟩ := Qdd h
  refine rss hc none [oN,oN,oc (I a7),oN] [(2,.ra 1 0),(3,.ra 2 0),(4,.ra 3 0),(6,I b1.fSize),(7,.ra 4 0),(8,I a1),(9,I a5),(10,I a7)] (cq (Kat _ _ a8) K3z tv) ?_
  obtain ⟨a9,b2,h⟩ := Qdd h
  refine rss hc none [oN,oN,oc (I a9),oN] [(2,.ra 1 0),(3,.ra 2 0),(4,.ra 3 0),(6,I b1.fSize),(7,.ra 4 0),(8,I a1),(9,I a5),(10,I a7),(11,I a9)] (cq (Kaw _ _ b2) K41 tv) ?_
  obtain ⟨b3,b4,h⟩ := Qdd h
  refine rss hc none [oN,oN,oc (I b3),oN] [(2,.ra 1 0),(3,.ra 2 0),(4,.ra 3 0),(6,I b1.fSize),(7,.ra 4 0),(8,I a1),(9,I a5),(10,I a7),(11,I a9),(12,I b3)] (cq (Kat _ _ b4) K3z tv) ?_
  obtain ⟨b5,b6,h⟩ := Qdd h
  refine rss hc none [oN,oN,oc (I b5),oN] [(2,.ra 1 0),(3,.ra 2 0),(4,.ra 3 0),(6,I b1.fSize),(7,.ra 4 0),(8,I a1),(9,I a5),(10,I a7),(11,I a9),(12,I b3),(13,I b5)] (cq (Kaw _ _ b6) K41 tv) ?_
  obtain ⟨b7,b8,b9,c0,c1,c2,_,c3,h⟩ := bq4 h
  refine rs hc Kac [oN,oN,oN,oN,oN,oN,oc (I b7),oN,oN,oN,oc (I b9),oc (I c1),some (.mk 50 true),some (.eqv (.mk 51 true) ⟨[(63,.rs 51)],[(51,some (rI (a2 ++ [c1]))),(29,none),(50,none)],[51]⟩),oN,oN] [(2,.ra 1 0),(3,.ra 2 0),(4,.ra 3 0),(6,I b1.fSize),(7,.ra 4 0),(8,I a1),(9,I a5),(10,I a7),(11,I a9),(12,I b3),(13,I b5)] [(1,K1s a0),(2,K1s b1),(3,.box [I 0,.nils,.nils,.nils]),(4,.box [I (wr (a0.fSize * b1.fSize)),.rs 51,.rs 30,.rs 31]),(30,rI a3),(31,.arr (List.map AV.bool a4)),(51,rI (a2 ++ [c1]))] (cq (K9c _ _ b8) K3i (cq (K9c _ _ c0) K3i (cq (Kaz _ _ c2) K43 (ab (congrArg (fun z => (⟨[(63,.rs 51)],[(51,some (.arr z)),(29,none),(50,none)],[51]⟩ : Wr)) ((List.map_append).symm : (List.map I a2) ++ (List.map I [c1]) = List.map I (a2 ++ [c1]))) (Qdr (enc1 := I) (enc2 := I) (e1 := a2) (e2 := [c1]) (sz := 1) Qe0 Qe0 c3) tv)))) ?_
  obtain ⟨c4,c5,c6,c7,c8,c9,_,d0,h⟩ := bq4 h
  refine rs hc Kac [oN,oN,oN,oN,oN,oN,oc (I c4),oN,oN,oN,oc (I c6),oc (I c8),some (.mk 52 true),some (.eqv (.mk 53 true) ⟨[(78,.rs 53)],[(53,some (rI (a3 ++ [c8]))),(30,none),(52,none)],[53]⟩),oN,oN] [(2,.ra 1 0),(3,.ra 2 0),(4,.ra 3 0),(6,I b1.fSize),(7,.ra 4 0),(8,I a1),(9,I a5),(10,I a7),(11,I a9),(12,I b3),(13,I b5)] [(1,K1s a0),(2,K1s b1),(3,.box [I 0,.nils,.nils,.nils]),(4,.box [I (wr (a0.fSize * b1.fSize)),.rs 51,.rs 53,.rs 31]),(31,.arr (List.map AV.bool a4)),(51,rI (a2 ++ [c1])),(53,rI (a3 ++ [c8]))] (cq (K9j _ _ c5) K3k (cq (K9j _ _ c7) K3k (cq (Kaz _ _ c9) K43 (ab (congrArg (fun z => (⟨[(78,.rs 53)],[(53,some (.arr z)),(30,none),(52,none)],[53]⟩ : Wr)) ((List.map_append).symm : (List.map I a3) ++ (List.map I [c8]) = List.map I (a3 ++ [c8]))) (Qdr (enc1 := I) (enc2 := I) (e1 := a3) (e2 := [c8]) (sz := 1) Qe0 Qe0 d0) tv)))) ?_
  obtain ⟨d1,d2,h⟩ := Qdd h
  refine Wp.into (x := .normal) (mkS [(2,.ra 1 0),(3,.ra 2 0),(4,.ra 3 0),(6,I b1.fSize),(7,.ra 4 0),(8,I a1),(9,I a5)] [(1,K1s a0),(2,K1s b1),(3,.box [I 0,.nils,.nils,.nils]),(4,.box [I (wr (a0.fSize * b1.fSize)),.rs 51,.rs 53,.rs 55]),(51,rI (a2 ++ [c1])),(53,rI (a3 ++ [c8])),(55,.arr (List.map AV.bool d1))]) ?_ ?_
  ·replace h := d2
   obtain ⟨d3,d4,h⟩ := Qdd h
   rcases is h with ⟨d5,h⟩ | ⟨d5,h⟩
   ·obtain ⟨d6,d7,_,d8,h⟩ := bq2 h
    refine rg hc Kad [oN,oN,oN,oN,oN,oc (.bool d3),oN,oN,oN,oN,oc (.bool d6),oT,some (.mk 54 true),some (.eqv (.mk 55 true) ⟨[(93,.rs 55)],[(55,some (.arr (List.map AV.bool (a4 ++ [d6])))),(31,none),(54,none)],[55]⟩),oN,oN] [(2,.ra 1 0),(3,.ra 2 0),(4,.ra 3 0),(6,I b1.fSize),(7,.ra 4 0),(8,I a1),(9,I a5)] [(1,K1s a0),(2,K1s b1),(3,.box [I 0,.nils,.nils,.nils]),(4,.box [I (wr (a0.fSize * b1.fSize)),.rs 51,.rs 53,.rs 55]),(51,rI (a2 ++ [c1])),(53,rI (a3 ++ [c8])),(55,.arr (List.map AV.bool (a4 ++ [d6])))] (cq (K9m _ _ d4) K3m (ar 4 d5 (cq (K9m _ _ d7) K3m (ac d5 (congrArg (fun z => (⟨[(93,.rs 55)],[(55,some (.arr z)),(31,none),(54,none)],[55]⟩ : Wr)) ((List.map_append).symm : (List.map AV.bool a4) ++ (List.map AV.bool [d6]) = List.map AV.bool (a4 ++ [d6]))) (Qdr (enc1 := AV.bool) (enc2 := AV.bool) (e1 := a4) (e2 := [d6]) (sz := 1) Qe2 Qe2 d8) tv)))) ?_
    obtain rfl := os h
    exact Qcz.mk
   obtain ⟨_,d8,h⟩ := Qdd h
   refine rg hc Kad [oN,oN,oN,oN,oN,oc (.bool d3),oN,o_,o_,o_,o_,oF,some (.mk 54 true),some (.eqv (.mk 55 true) ⟨[(93,.rs 55)],[(55,some (.arr (List.map AV.bool (a4 ++ [false])))),(31,none),(54,none)],[55]⟩),oN,oN] [(2,.ra 1 0),(3,.ra 2 0),(4,.ra 3 0),(6,I b1.fSize),(7,.ra 4 0),(8,I a1),(9,I a5)] [(1,K1s a0),(2,K1s b1),(3,.box [I 0,.nils,.nils,.nils]),(4,.box [I (wr (a0.fSize * b1.fSize)),.rs 51,.rs 53,.rs 55]),(51,rI (a2 ++ [c1])),(53,rI (a3 ++ [c8])),(55,.arr (List.map AV.bool (a4 ++ [false])))] (cq (K9m _ _ d4) K3m (ar 4 (neT d5) (ac d5 (congrArg (fun z => (⟨[(93,.rs 55)],[(55,some (.arr z)),(31,none),(54,none)],[55]⟩ : Wr)) ((List.map_append).symm : (List.map AV.bool a4) ++ (List.map AV.bool [false]) = List.map AV.bool (a4 ++ [false]))) (Qdr (enc1 := AV.bool) (enc2 := AV.bool) (e1 := a4) (e2 := [false]) (sz := 1) Qe2 Qe2 d8) tv))) ?_
   obtain rfl := os h
   exact Qcz.mk
  clear d2
  refine K7j hc 3 [(2,.ra 1 0),(3,.ra 2 0),(4,.ra 3 0),(6,I b1.fSize),(7,.ra 4 0),(8,I a1),(9,I (wr (a5 + 1)))] ?_
  refine Qcv ?_
  exact WpL.view (fun a w hv => SRx.renL [(29,51),(30,53),(31,55)] hv (by kernel_rfl) (by kernel_rfl) (by kernel_rfl)) (spec_ProductSystem_l0_ih _ _ h c hc)
 refine xt 2 ?_
 refine Qcp ?_
 refine Qcw ?_
 obtain ⟨rfl,hq0⟩ := Prod.mk.inj (Option.some.inj h)
 obtain ⟨rfl,rfl⟩ := Prod.mk.inj (hq0)
 exact iv []
def Kb4 (c : Ctx) (a0 : K00) (b1 : K00) : (List Int) × (List Int) × (List Bool) → Exit → Q0a → Prop
 | (a1,a2,a3) => Qcz c (.exit 0) (mkS [(4,.ra 3 0),(7,.ra 4 0)] [(3,.box [I 0,.nils,.nils,.nils]),(4,.box [I (wr (a0.fSize * b1.fSize)),.rs 29,.rs 30,.rs 31]),(29,rI a1),(30,rI a2),(31,.arr (List.map AV.bool a3))])
def Kb5 (p : K00 × K00 × (List Int) × (List Int) × (List Bool) × Int) : Option ((List Int) × (List Int) × (List Bool)) :=
 match p with
 | (a0,b1,a1,a2,a3,a4) =>
  if (decide (a4 < (wr (a0.fSize * b1.fSize)))) = true then
  (Kb1 (a0,b1,a4,a1,a2,a3,0)) >>= fun (a5,a6,a7) =>
  Kb5 (a0,b1,a5,a6,a7,(wr (a4 + 1)))
  else
  some ((a1,a2,a3))
 partial_fixpoint
def Kb6 (p : K00 × K00 × (List Int) × (List Int) × (List Bool) × Int) (fl : (List Int) × (List Int) × (List Bool)) : Prop :=
 match p with
 | (a0,b1,a1,a2,a3,a4) => ∀ c : Ctx,c.nt = 96 → WpL Tryz.prog c (cl (cl (cr (cl (cr (cr (cr (cr K44)))))))) (Kb4 c a0 b1 fl) (mkS [(2,.ra 1 0),(3,.ra 2 0),(4,.ra 3 0),(6,I b1.fSize),(7,.ra 4 0),(8,I a4)] [(1,K1s a0),(2,K1s b1),(3,.box [I 0,.nils,.nils,.nils]),(4,.box [I (wr (a0.fSize * b1.fSize)),.rs 29,.rs 30,.rs 31]),(29,rI a1),(30,rI a2),(31,.arr (List.map AV.bool a3))])
theorem Kb7 : ∀ p r,Kb5 p = some r → Kb6 p r := by
 refine Kb5.partial_correctness Kb6 ?_
 rintro spec_ProductSystem_l1_f spec_ProductSystem_l1_ih ⟨a0,b1,a1,a2,a3,a4⟩ r h
 intro c hc
 refine WpL.step ?_
 refine sN ?_
 refine K7k hc 4 [(2,.ra 1 0),(3,.ra 2 0),(4,.ra 3 0),(6,I b1.fSize),(7,.ra 4 0),(8,I a4),(29,.bool (decide (a4 < (wr (a0.fSize * b1.fSize)))))] ?_
 refine ic h (fun a5 h => ?_) fun a5 h => ?_
 ·refine sk ?_
  refine sN ?_
  refine bk 1 ?_
  refine K7k hc 1 [(2,.ra 1 0),(3,.ra 2 0),(4,.ra 3 0),(6,I b1.fSize),(7,.ra 4 0),(8,I a4),(9,I 0)] ?_
  refine bk 2 ?_
  obtain ⟨⟨a6,a7,a8⟩,a9,h⟩ := Qdd h
  have hL := Kb3 _ _ a9 c hc
  refine lp ?_
  refine WpL.into (e := (.exit 2)) (mkS [(2,.ra 1 0),(3,.ra 2 0),(4,.ra 3 0),(6,I b1.fSize),(7,.ra 4 0),(8,I a4)] [(1,K1s a0),(2,K1s b1),(3,.box [I 0,.nils,.nils,.nils]),(4,.box [I (wr (a0.fSize * b1.fSize)),.rs 29,.rs 30,.rs 31]),(29,rI a6),(30,rI a7),(31,.arr (List.map AV.bool a8))]) hL ?_
  refine Qcr ?_
  refine K7j hc 3 [(2,.ra 1 0),(3,.ra 2 0),(4,.ra 3 0),(6,I b1.fSize),(7,.ra 4 0),(8,I (wr (a4 + 1)))] ?_
  refine Qcv ?_
  exact (spec_ProductSystem_l1_ih _ _ h c hc)
 refine xt 0 ?_
 refine Qcp ?_
 refine Qcw ?_
 obtain ⟨rfl,hq0⟩ := Prod.mk.inj (Option.some.inj h)
 obtain ⟨rfl,rfl⟩ := Prod.mk.inj (hq0)
 exact iv []
def Kb8 (p : K00 × K00) : Option (K00 × Bool) :=
 match p with
 | (a0,b1) =>
  (Kao (a0,b1)) >>= fun a1 =>
  if a1 = true then
  (Kb5 (a0,b1,[],[],[],0)) >>= fun (a2,a3,a4) =>
  some ((K00.mk (wr (a0.fSize * b1.fSize)) a2 a3 a4),true)
  else
  some ((K00.mk 0 [] [] []),false)
def Kb9 (p : K00 × K00) (r : K00 × Bool) : Prop :=
 match p with
 | (a0,b1) => Q71 Tryz.prog 154 [K1t a0,K1t b1] (.tup [.agg [I r.1.fSize,.osl (List.map I r.1.fPlus),.osl (List.map I r.1.fTimes),.osl (List.map AV.bool r.1.fBelow)],.bool r.2]) []
theorem Kba : ∀ p r,Kb8 p = some r → Kb9 p r := by
 rintro ⟨a0,b1⟩ r h
 unfold Kb8 at h
 refine b0 Tryz.f154 K44 96 [(0,K1t a0),(1,K1t b1)] fun c hc => ?_
 refine rs hc none [some (.new 1),some (.new 2),some (.new 3),oN] [(2,.ra 1 0),(3,.ra 2 0),(4,.ra 3 0)] [(1,K1s a0),(2,K1s b1),(3,.box [I 0,.nils,.nils,.nils])] tv ?_
 refine sN ?_
 obtain ⟨a1,a2,h⟩ := Qdd h
 refine rss hc none [oN,oN,oc (.bool a1),oN] [(2,.ra 1 0),(3,.ra 2 0),(4,.ra 3 0),(17,.bool (!a1))] (cq (Kaq _ _ a2) K3x tv) ?_
 rcases is h with ⟨a3,h⟩ | ⟨a3,h⟩
 ·refine cF (!a1) (nF a3) ?_
  refine sk ?_
  refine K7k hc 3 [(2,.ra 1 0),(3,.ra 2 0),(4,.ra 3 0),(6,I b1.fSize)] ?_
  refine rs hc none [oN,oN,oN,oN,oN,some (.new 4),oN] [(2,.ra 1 0),(3,.ra 2 0),(4,.ra 3 0),(6,I b1.fSize),(7,.ra 4 0)] [(1,K1s a0),(2,K1s b1),(3,.box [I 0,.nils,.nils,.nils]),(4,.box [I (wr (a0.fSize * b1.fSize)),.nils,.nils,.nils])] tv ?_
  refine sN ?_
  refine K7k hc 1 [(2,.ra 1 0),(3,.ra 2 0),(4,.ra 3 0),(6,I b1.fSize),(7,.ra 4 0),(8,I 0)] ?_
  refine bk 0 ?_
  obtain ⟨⟨a4,a5,a6⟩,a7,h⟩ := Qdd h
  have hL := Kb7 _ _ a7 c hc
  refine Wp.loopN (by kernel_rfl) (WpL.view (fun a w hv => SRx.renL [(29,56),(30,57),(31,58)] (SRx.nilBL 4 3 58 [I (wr (a0.fSize * b1.fSize)),.rs 56,.rs 57,.nils] (SRx.nilBL 4 2 57 [I (wr (a0.fSize * b1.fSize)),.rs 56,.nils,.nils] (SRx.nilBL 4 1 56 [I (wr (a0.fSize * b1.fSize)),.nils,.nils,.nils] hv (by kernel_rfl) (by kernel_rfl) (by kernel_rfl)) (by kernel_rfl) (by kernel_rfl) (by kernel_rfl)) (by kernel_rfl) (by kernel_rfl) (by kernel_rfl)) (by kernel_rfl) (by kernel_rfl) (by kernel_rfl)) (?_ : WpL _ c _ _ (mkS [(2,.ra 1 0),(3,.ra 2 0),(4,.ra 3 0),(6,I b1.fSize),(7,.ra 4 0),(8,I 0)] [(1,K1s a0),(2,K1s b1),(3,.box [I 0,.nils,.nils,.nils]),(4,.box [I (wr (a0.fSize * b1.fSize)),.rs 29,.rs 30,.rs 31]),(29,.arr (List.map I [])),(30,.arr (List.map I [])),(31,.arr (List.map AV.bool []))])))
  refine WpL.into (e := (.exit 0)) (mkS [(4,.ra 3 0),(7,.ra 4 0)] [(3,.box [I 0,.nils,.nils,.nils]),(4,.box [I (wr (a0.fSize * b1.fSize)),.rs 29,.rs 30,.rs 31]),(29,rI a4),(30,rI a5),(31,.arr (List.map AV.bool a6))]) hL ?_
  refine Qcr ?_
  refine rs0 hc 3 [(4,.ra 3 0),(5,.bool true)] [(3,.box [I (wr (a0.fSize * b1.fSize)),.rs 29,.rs 30,.rs 31]),(29,rI a4),(30,rI a5),(31,.arr (List.map AV.bool a6))] ?_
  refine rt ?_
  obtain rfl := os h
  exact rq [true,true]
 refine cT (!a1) (nT a3) ?_
 refine rs0 hc 3 [(4,.ra 3 0),(5,.bool false)] [(3,.box [I 0,.nils,.nils,.nils])] ?_
 refine rt ?_
 obtain rfl := os h
 exact rq [true,true]
def Kbb (c0 : K01) : Option (K00 × K01) :=
 (K7z (c0,3)) >>= fun (a0,a1) =>
 (K8j (wr (1 + a0))) >>= fun a2 =>
 (K7z (a1,8)) >>= fun (a3,a4) =>
 ((
 if (a3 == 0) = true then
 some ((a3 == 0))
 else
 ((
 if (a3 == 1) = true then
 some ((a3 == 1))
 else
 some ((a3 == 2))
 ) : Option (Bool)) >>= fun a5 =>
 some (a5)
 ) : Option (Bool)) >>= fun a6 =>
 ((
 if a6 = true then
 (K8m (wr (1 + a0))) >>= fun a7 =>
 some ((a7.fSize,a7.fPlus,a7.fTimes,a7.fBelow,a4.fb,a4.fi,a4.fh))
 else
 ((
 if (a3 == 3) = true then
 some ((a3 == 3))
 else
 some ((a3 == 4))
 ) : Option (Bool)) >>= fun a8 =>
 ((
 if a8 = true then
 (K90 (wr (1 + a0))) >>= fun a9 =>
 some ((a9.fSize,a9.fPlus,a9.fTimes,a9.fBelow,a4.fb,a4.fi,a4.fh))
 else
 ((
 if (a3 == 5) = true then
 (K8m 1) >>= fun b1 =>
 (K7z (a4,2)) >>= fun (b2,b3) =>
 (K90 (wr (1 + b2))) >>= fun b4 =>
 (Kb8 (b1,b4)) >>= fun (b5,b6) =>
 some ((b5.fSize,b5.fPlus,b5.fTimes,b5.fBelow,b3.fb,b3.fi,b3.fh))
 else
 some ((a2.fSize,a2.fPlus,a2.fTimes,a2.fBelow,a4.fb,a4.fi,a4.fh))
 ) : Option (Int × (List Int) × (List Int) × (List Bool) × (List Int) × Int × Int)) >>= fun (b7,b8,b9,c1,c2,c3,c4) =>
 some ((b7,b8,b9,c1,c2,c3,c4))
 ) : Option (Int × (List Int) × (List Int) × (List Bool) × (List Int) × Int × Int)) >>= fun (c5,c6,c7,c8,c9,d0,d1) =>
 some ((c5,c6,c7,c8,c9,d0,d1))
 ) : Option (Int × (List Int) × (List Int) × (List Bool) × (List Int) × Int × Int)) >>= fun (d2,d3,d4,d5,d6,d7,d8) =>
 some ((K00.mk d2 d3 d4 d5),(K01.mk d6 d7 d8))
def Kbc (c0 : K01) (r : K00 × K01) : Prop :=
 Q71 Tryz.prog 72 [.optr [.sl (List.map U8 c0.fb),I c0.fi,I c0.fh]] (.agg [I r.1.fSize,.osl (List.map I r.1.fPlus),.osl (List.map I r.1.fTimes),.osl (List.map AV.bool r.1.fBelow)]) [.optr [.sl (List.map U8 r.2.fb),I r.2.fi,I r.2.fh]]
theorem Kbd : ∀ p r,Kbb p = some r → Kbc p r := by
 rintro c0 r h
 unfold Kbb at h
 refine Q71.bodyO K2w (fn := Tryz.f72) (code := B72) (by kernel_rfl) (by kernel_rfl) (by kernel_rfl) (nt := 35) (by kernel_rfl) (by kernel_rfl) (T := [(0,.ra 1000 0)]) (O := [(1000,K1u c0)]) (by kernel_rfl) (by kernel_rfl) (fun c hc => ?_)
 refine rs hc none [some (.new 1)] [(0,.ra 1000 0),(2,.ra 1 0)] [(1,.box [I 0,.nils,.nils,.nils]),(1000,K1u c0)] tv ?_
 obtain ⟨⟨a0,a1⟩,a2,h⟩ := Qdd h
 refine rs hc none [oN,some (.call (I a0) [.optr [.sl (List.map U8 a1.fb),I a1.fi,I a1.fh],.undef] 1),oN,oN] [(0,.ra 1000 0),(2,.ra 1 0),(3,I (wr (1 + a0)))] [(1,.box [I 0,.nils,.nils,.nils]),(1000,K1u a1)] (ab (K81 _ _ a2) K31 tv) ?_
 obtain ⟨a3,a4,h⟩ := Qdd h
 refine rs hc none [oN,some (.call (K22 a3) [] 2),some (.new 5),oN] [(0,.ra 1000 0),(2,.ra 1 0),(3,I (wr (1 + a0))),(4,.ra 5 0)] [(1,.box [I 0,.nils,.nils,.nils]),(2,rI a3.fPlus),(3,rI a3.fTimes),(4,.arr (List.map AV.bool a3.fBelow)),(5,.box [I a3.fSize,.rs 2,.rs 3,.rs 4]),(1000,K1u a1)] (cq (K8l _ _ a4) K39 tv) ?_
 refine sN ?_
 obtain ⟨⟨a5,a6⟩,a7,h⟩ := Qdd h
 refine rs hc none [oN,some (.call (I a5) [.optr [.sl (List.map U8 a6.fb),I a6.fi,I a6.fh],.undef] 1)] [(0,.ra 1000 0),(2,.ra 1 0),(3,I (wr (1 + a0))),(4,.ra 5 0),(11,I a5)] [(1,.box [I 0,.nils,.nils,.nils]),(2,rI a3.fPlus),(3,rI a3.fTimes),(4,.arr (List.map AV.bool a3.fBelow)),(5,.box [I a3.fSize,.rs 2,.rs 3,.rs 4]),(1000,K1u a6)] (ab (K81 _ _ a7) K31 tv) ?_
 refine bk 0 ?_
 refine sN ?_
 refine K7k hc 2 [(0,.ra 1000 0),(2,.ra 1 0),(3,I (wr (1 + a0))),(4,.ra 5 0),(11,I a5),(12,.bool (a5 == 0))] ?_
 obtain ⟨a8,a9,h⟩ := Qdd h
 refine Wp.into (x := .normal) (mkS [(0,.ra 1000 0),(2,.ra 1 0),(3,I (wr (1 + a0))),(4,.ra 5 0),(11,I a5),(12,.bool a8)] [(1,.box [I 0,.nils,.nils,.nils]),(2,rI a3.fPlus),(3,rI a3.fTimes),(4,.arr (List.map AV.bool a3.fBelow)),(5,.box [I a3.fSize,.rs 2,.rs 3,.rs 4]),(1000,K1u a6)]) ?_ ?_
 ·replace h := a9
  refine ic h (fun b1 h => ?_) fun b1 h => ?_
  ·refine sk ?_
   obtain rfl := os h
   exact Qcz.mk
  refine K7k hc 2 [(0,.ra 1000 0),(2,.ra 1 0),(3,I (wr (1 + a0))),(4,.ra 5 0),(11,I a5),(12,.bool (a5 == 1))] ?_
  obtain ⟨b2,b3,h⟩ := Qdd h
  refine Wp.into (x := .normal) (mkS [(0,.ra 1000 0),(2,.ra 1 0),(3,I (wr (1 + a0))),(4,.ra 5 0),(11,I a5),(12,.bool b2)] [(1,.box [I 0,.nils,.nils,.nils]),(2,rI a3.fPlus),(3,rI a3.fTimes),(4,.arr (List.map AV.bool a3.fBelow)),(5,.box [I a3.fSize,.rs 2,.rs 3,.rs 4]),(1000,K1u a6)]) ?_ ?_
  ·replace h := b3
   refine ic h (fun b4 h => ?_) fun b4 h => ?_
   ·refine sk ?_
    obtain rfl := os h
    exact Qcz.mk
   refine K7j hc 2 [(0,.ra 1000 0),(2,.ra 1 0),(3,I (wr (1 + a0))),(4,.ra 5 0),(11,I a5),(12,.bool (a5 == 2))] ?_
   obtain rfl := os h
   exact Qcz.mk
  clear b3
  obtain rfl := os h
  exact Qcz.mk
 clear a9
 obtain ⟨⟨b5,b6,b7,b8,b9,c1,c2⟩,c3,h⟩ := Qdd h
 refine Wp.into (x := .normal) (mkS [(2,.ra 1 0),(4,.ra 5 0)] [(1,.box [I 0,.nils,.nils,.nils]),(5,.box [I b5,.rs 6,.rs 7,.rs 8]),(6,rI b6),(7,rI b7),(8,.arr (List.map AV.bool b8)),(1000,.box [.sl (List.map U8 b9),I c1,I c2])]) ?_ ?_
 ·replace h := c3
  refine ic h (fun c4 h => ?_) fun c4 h => ?_
  ·obtain ⟨c5,c6,h⟩ := Qdd h
   refine rg hc none [oN,some (.call (K22 c5) [] 6),oN] [(2,.ra 1 0),(4,.ra 5 0)] [(1,.box [I 0,.nils,.nils,.nils]),(5,.box [I c5.fSize,.rs 6,.rs 7,.rs 8]),(6,rI c5.fPlus),(7,rI c5.fTimes),(8,.arr (List.map AV.bool c5.fBelow)),(1000,K1u a6)] (cq (K8o _ _ c6) K3a tv) ?_
   obtain ⟨rfl,hq0⟩ := Prod.mk.inj (Option.some.inj h)
   obtain ⟨rfl,hq1⟩ := Prod.mk.inj (hq0)
   obtain ⟨rfl,hq2⟩ := Prod.mk.inj (hq1)
   obtain ⟨rfl,hq3⟩ := Prod.mk.inj (hq2)
   obtain ⟨rfl,hq4⟩ := Prod.mk.inj (hq3)
   obtain ⟨rfl,rfl⟩ := Prod.mk.inj (hq4)
   exact Qcz.mk
  refine sN ?_
  refine K7k hc 2 [(0,.ra 1000 0),(2,.ra 1 0),(3,I (wr (1 + a0))),(4,.ra 5 0),(11,I a5),(18,.bool (a5 == 3))] ?_
  obtain ⟨c7,c8,h⟩ := Qdd h
  refine Wp.into (x := .normal) (mkS [(0,.ra 1000 0),(2,.ra 1 0),(3,I (wr (1 + a0))),(4,.ra 5 0),(11,I a5),(18,.bool c7)] [(1,.box [I 0,.nils,.nils,.nils]),(2,rI a3.fPlus),(3,rI a3.fTimes),(4,.arr (List.map AV.bool a3.fBelow)),(5,.box [I a3.fSize,.rs 2,.rs 3,.rs 4]),(1000,K1u a6)]) ?_ ?_
  ·replace h := c8
   refine ic h (fun c9 h => ?_) fun c9 h => ?_
   ·refine sk ?_
    obtain rfl := os h
    exact Qcz.mk
   refine K7j hc 2 [(0,.ra 1000 0),(2,.ra 1 0),(3,I (wr (1 + a0))),(4,.ra 5 0),(11,I a5),(18,.bool (a5 == 4))] ?_
   obtain rfl := os h
   exact Qcz.mk
  clear c8
  obtain ⟨⟨d0,d1,d2,d3,d4,d5,d6⟩,d7,h⟩ := Qdd h
  refine Wp.into (x := .normal) (mkS [(2,.ra 1 0),(4,.ra 5 0)] [(1,.box [I 0,.nils,.nils,.nils]),(5,.box [I d0,.rs 9,.rs 10,.rs 11]),(9,rI d1),(10,rI d2),(11,.arr (List.map AV.bool d3)),(1000,.box [.sl (List.map U8 d4),I d5,I d6])]) ?_ ?_
  ·replace h := d7
   refine ic h (fun d8 h => ?_) fun d8 h => ?_
   ·obtain ⟨d9,e0,h⟩ := Qdd h
    refine rg hc none [oN,some (.call (K22 d9) [] 9),oN] [(2,.ra 1 0),(4,.ra 5 0)] [(1,.box [I 0,.nils,.nils,.nils]),(5,.box [I d9.fSize,.rs 9,.rs 10,.rs 11]),(9,rI d9.fPlus),(10,rI d9.fTimes),(11,.arr (List.map AV.bool d9.fBelow)),(1000,K1u a6)] (cq (K92 _ _ e0) K3e tv) ?_
    obtain ⟨rfl,hq0⟩ := Prod.mk.inj (Option.some.inj h)
    obtain ⟨rfl,hq1⟩ := Prod.mk.inj (hq0)
    obtain ⟨rfl,hq2⟩ := Prod.mk.inj (hq1)
    obtain ⟨rfl,hq3⟩ := Prod.mk.inj (hq2)
    obtain ⟨rfl,hq4⟩ := Prod.mk.inj (hq3)
    obtain ⟨rfl,rfl⟩ := Prod.mk.inj (hq4)
    exact Qcz.mk
   refine K7k hc 2 [(0,.ra 1000 0),(2,.ra 1 0),(4,.ra 5 0),(23,.bool (a5 == 5))] ?_
   obtain ⟨⟨e1,e2,e3,e4,e5,e6,e7⟩,e8,h⟩ := Qdd h
   refine Wp.into (x := .normal) (mkS [(2,.ra 1 0),(4,.ra 5 0)] [(1,.box [I 0,.nils,.nils,.nils]),(5,.box [I e1,.rs 18,.rs 19,.rs 20]),(18,rI e2),(19,rI e3),(20,.arr (List.map AV.bool e4)),(1000,.box [.sl (List.map U8 e5),I e6,I e7])]) ?_ ?_
   ·replace h := e8
    refine ic h (fun e9 h => ?_) fun e9 h => ?_
    ·obtain ⟨f0,f1,⟨f2,f3⟩,f4,h⟩ := bq2 h
     obtain ⟨f5,f6,⟨f7,f8⟩,f9,h⟩ := bq2 h
     refine rg hc none [some (.call (K22 f0) [] 12),oN,some (.call (I f2) [.optr [.sl (List.map U8 f3.fb),I f3.fi,I f3.fh],.undef] 1),oN,some (.call (K22 f5) [] 15),some (.call (.tup [K22 f7,.bool f8]) [] 18),oN,oN,oN,oN] [(2,.ra 1 0),(4,.ra 5 0)] [(1,.box [I 0,.nils,.nils,.nils]),(5,.box [I f7.fSize,.rs 18,.rs 19,.rs 20]),(18,rI f7.fPlus),(19,rI f7.fTimes),(20,.arr (List.map AV.bool f7.fBelow)),(1000,K1u f3)] (cq (K8o _ _ f1) K3a (ab (K81 _ _ f4) K31 (cq (K92 _ _ f6) K3e (ac (Q71.args (A1 := [K23 f0,K23 f5]) (A2 := [K1t f0,K1t f5]) (by simp only [K23,List.map_nil,Qe7,Qe5]) (Kba _ _ f9)) K45 (Or.inr (Qef (Qef rfl (Qef (Qed Qe9 f7.fPlus) (Qef (Qed Qe9 f7.fTimes) (Qef (Qed Qeb f7.fBelow) rfl)))) (Qef rfl rfl)) : ([12,13,14,15,16,17] : List Nat) = [] ∨ noSh (.tup [K22 f7,.bool f8]) = true) tv)))) ?_
     obtain ⟨rfl,hq0⟩ := Prod.mk.inj (Option.some.inj h)
     obtain ⟨rfl,hq1⟩ := Prod.mk.inj (hq0)
     obtain ⟨rfl,hq2⟩ := Prod.mk.inj (hq1)
     obtain ⟨rfl,hq3⟩ := Prod.mk.inj (hq2)
     obtain ⟨rfl,hq4⟩ := Prod.mk.inj (hq3)
     obtain ⟨rfl,rfl⟩ := Prod.mk.inj (hq4)
     exact Qcz.mk
    refine sk ?_
    obtain ⟨rfl,hq0⟩ := Prod.mk.inj (Option.some.inj h)
    obtain ⟨rfl,hq1⟩ := Prod.mk.inj (hq0)
    obtain ⟨rfl,hq2⟩ := Prod.mk.inj (hq1)
    obtain ⟨rfl,hq3⟩ := Prod.mk.inj (hq2)
    obtain ⟨rfl,hq4⟩ := Prod.mk.inj (hq3)
    obtain ⟨rfl,rfl⟩ := Prod.mk.inj (hq4)
    exact iv [(18,2),(19,3),(20,4)]
   clear e8
   obtain ⟨rfl,hq0⟩ := Prod.mk.inj (Option.some.inj h)
   obtain ⟨rfl,hq1⟩ := Prod.mk.inj (hq0)
   obtain ⟨rfl,hq2⟩ := Prod.mk.inj (hq1)
   obtain ⟨rfl,hq3⟩ := Prod.mk.inj (hq2)
   obtain ⟨rfl,hq4⟩ := Prod.mk.inj (hq3)
   obtain ⟨rfl,rfl⟩ := Prod.mk.inj (hq4)
   exact iv [(9,18),(10,19),(11,20)]
  clear d7
  obtain ⟨rfl,hq0⟩ := Prod.mk.inj (Option.some.inj h)
  obtain ⟨rfl,hq1⟩ := Prod.mk.inj (hq0)
  obtain ⟨rfl,hq2⟩ := Prod.mk.inj (hq1)
  obtain ⟨rfl,hq3⟩ := Prod.mk.inj (hq2)
  obtain ⟨rfl,hq4⟩ := Prod.mk.inj (hq3)
  obtain ⟨rfl,rfl⟩ := Prod.mk.inj (hq4)
  exact iv [(6,9),(7,10),(8,11)]
 clear c3
 refine rs0 hc 2 [(2,.ra 1 0)] [(1,.box [I b5,.rs 6,.rs 7,.rs 8]),(6,rI b6),(7,rI b7),(8,.arr (List.map AV.bool b8)),(1000,.box [.sl (List.map U8 b9),I c1,I c2])] ?_
 refine rt ?_
 obtain rfl := os h
 exact Qda.ret (fl := [true]) (by kernel_rfl)
def Kbe (p : K01 × Int) : Option (Bool × K01) :=
 match p with
 | (c0,n1) =>
  (K7z (c0,n1)) >>= fun (a0,a1) =>
  some ((a0 == 0),a1)
def Kbf (p : K01 × Int) (r : Bool × K01) : Prop :=
 match p with
 | (c0,n1) => Q71 Tryz.prog 73 [.optr [.sl (List.map U8 c0.fb),I c0.fi,I c0.fh],I n1] (.bool r.1) [.optr [.sl (List.map U8 r.2.fb),I r.2.fi,I r.2.fh],.undef]
theorem Kbg : ∀ p r,Kbe p = some r → Kbf p r := by
 rintro ⟨c0,n1⟩ r h
 unfold Kbe at h
 refine Q71.bodyO K2w (fn := Tryz.f73) (code := B73) (by kernel_rfl) (by kernel_rfl) (by kernel_rfl) (nt := 9) (by kernel_rfl) (by kernel_rfl) (T := [(0,.ra 1000 0),(1,I n1)]) (O := [(1000,K1u c0)]) (by kernel_rfl) (by kernel_rfl) (fun c hc => ?_)
 refine K7k hc 1 [(0,.ra 1000 0),(1,I n1)] ?_
 obtain ⟨⟨a0,a1⟩,a2,h⟩ := Qdd h
 refine rs hc none [oN,oN,some (.call (I a0) [.optr [.sl (List.map U8 a1.fb),I a1.fi,I a1.fh],.undef] 1),oN,oN] [(4,.bool (a0 == 0))] [(1000,K1u a1)] (ab (K81 _ _ a2) K31 tv) ?_
 refine rt ?_
 obtain rfl := os h
 exact Qda.ret (fl := [true]) (by kernel_rfl)
def Kbh (p : K01 × (List Int)) : Option (Int × K01) :=
 match p with
 | (c0,list1) =>
  (K7z (c0,(list1.length : Int))) >>= fun (a0,a1) =>
  (idx list1 a0) >>= fun a2 =>
  some (a2,a1)
def Kbi (p : K01 × (List Int)) (r : Int × K01) : Prop :=
 match p with
 | (c0,list1) => Q71 Tryz.prog 156 [.optr [.sl (List.map U8 c0.fb),I c0.fi,I c0.fh],sI list1] (I r.1) [.optr [.sl (List.map U8 r.2.fb),I r.2.fi,I r.2.fh],.undef]
theorem Kbj : ∀ p r,Kbh p = some r → Kbi p r := by
 rintro ⟨c0,list1⟩ r h
 unfold Kbh at h
 refine Q71.bodyO K2w (fn := Tryz.f156) (code := K48) (by kernel_rfl) (by kernel_rfl) (by kernel_rfl) (nt := 12) (by kernel_rfl) (by kernel_rfl) (T := [(0,.ra 1000 0),(1,sI list1)]) (O := [(1000,K1u c0)]) (by kernel_rfl) (by kernel_rfl) (fun c hc => ?_)
 refine K7k hc 1 [(0,.ra 1000 0),(1,sI list1)] ?_
 obtain ⟨⟨a0,a1⟩,a2,h⟩ := Qdd h
 obtain ⟨a3,a4,h⟩ := Qdd h
 refine rs hc none [oN,oN,oN,some (.eqv (.no) ⟨[(8,I (list1.length : Int))],[],[]⟩),some (.call (I a0) [.optr [.sl (List.map U8 a1.fb),I a1.fi,I a1.fh],.undef] 1),some (.el (I a3)),oN,oN] [(4,I a3)] [(1000,K1u a1)] (ad (Qdj (d := 8) I list1) (K81 _ _ a2) K31 (ix a4) tv) ?_
 refine rt ?_
 obtain rfl := os h
 exact Qda.ret (fl := [true]) (by kernel_rfl)
def Kbk (c0 : K01) : Option (Int × K01) :=
 (Kbh (c0,[(-1),0,1,2,3,7,8,15,16,17,40,9223372036854775807,(-9223372036854775808)])) >>= fun (a0,a1) =>
 some (a0,a1)
def Kbl (c0 : K01) (r : Int × K01) : Prop :=
 Q71 Tryz.prog 99 [.optr [.sl (List.map U8 c0.fb),I c0.fi,I c0.fh]] (I r.1) [.optr [.sl (List.map U8 r.2.fb),I r.2.fi,I r.2.fh]]
theorem Kbm : ∀ p r,Kbk p = some r → Kbl p r := by
 rintro c0 r h
 unfold Kbk at h
 refine Q71.bodyO K2w (fn := Tryz.f99) (code := B99) (by kernel_rfl) (by kernel_rfl) (by kernel_rfl) (nt := 6) (by kernel_rfl) (by kernel_rfl) (T := [(0,.ra 1000 0)]) (O := [(1000,K1u c0)]) (by kernel_rfl) (by kernel_rfl) (fun c hc => ?_)
 refine K7k hc 1 [(0,.ra 1000 0)] ?_
 obtain ⟨⟨a0,a1⟩,a2,h⟩ := Qdd h
 refine rs hc none [oN,some (.call .undef [] 2),some (.call (I a0) [.optr [.sl (List.map U8 a1.fb),I a1.fi,I a1.fh],.undef] 1),oN] [(2,I a0)] [(1000,K1u a1)] (ab (Kbj _ _ a2) K49 tv) ?_
 refine rt ?_
 obtain rfl := os h
 exact Qda.ret (fl := [true]) (by kernel_rfl)
def Kbn (c0 : K01) : Option (K00 × K01) :=
 (Kbb c0) >>= fun (a0,a1) =>
 (K7z (a1,9)) >>= fun (a2,a3) =>
 ((
 if (a2 == 0) = true then
 (K7z (a3,(a0.fPlus.length : Int))) >>= fun (a4,a5) =>
 (K7z (a5,(wr (a0.fSize + 1)))) >>= fun (a6,a7) =>
 (idx a0.fPlus a4) >>= fun a8 =>
 some ((a0.fSize,(List.set a0.fPlus (Int.toNat a4) a6),a0.fTimes,a0.fBelow,a7.fb,a7.fi,a7.fh))
 else
 ((
 if (a2 == 1) = true then
 (K7z (a3,(a0.fTimes.length : Int))) >>= fun (a9,b1) =>
 (K7z (b1,a0.fSize)) >>= fun (b2,b3) =>
 (idx a0.fTimes a9) >>= fun b4 =>
 some ((a0.fSize,(List.set a0.fTimes (Int.toNat a9) b2),a0.fBelow,b3.fb,b3.fi,b3.fh))
 else
 ((
 if (a2 == 2) = true then
 (K7z (a3,(a0.fBelow.length : Int))) >>= fun (b5,b6) =>
 (idx a0.fBelow b5) >>= fun b7 =>
 (idx a0.fBelow b5) >>= fun b8 =>
 some ((a0.fSize,(List.set a0.fBelow (Int.toNat b5) (!b7)),b6.fb,b6.fi,b6.fh))
 else
 ((
 if (a2 == 3) = true then
 (Kbk a3) >>= fun (b9,c1) =>
 some ((b9,c1.fb,c1.fi,c1.fh))
 else
 some ((a0.fSize,a3.fb,a3.fi,a3.fh))
 ) : Option (Int × (List Int) × Int × Int)) >>= fun (c2,c3,c4,c5) =>
 some ((c2,a0.fBelow,c3,c4,c5))
 ) : Option (Int × (List Bool) × (List Int) × Int × Int)) >>= fun (c6,c7,c8,c9,d0) =>
 some ((c6,a0.fTimes,c7,c8,c9,d0))
 ) : Option (Int × (List Int) × (List Bool) × (List Int) × Int × Int)) >>= fun (d1,d2,d3,d4,d5,d6) =>
 some ((d1,a0.fPlus,d2,d3,d4,d5,d6))
 ) : Option (Int × (List Int) × (List Int) × (List Bool) × (List Int) × Int × Int)) >>= fun (d7,d8,d9,e0,e1,e2,e3) =>
 some ((K00.mk d7 d8 d9 e0),(K01.mk e1 e2 e3))
def Kbo (c0 : K01) (r : K00 × K01) : Prop :=
 Q71 Tryz.prog 74 [.optr [.sl (List.map U8 c0.fb),I c0.fi,I c0.fh]] (.agg [I r.1.fSize,.osl (List.map I r.1.fPlus),.osl (List.map I r.1.fTimes),.osl (List.map AV.bool r.1.fBelow)]) [.optr [.sl (List.map U8 r.2.fb),I r.2.fi,I r.2.fh]]
theorem Kbp : ∀ p r,Kbn p = some r → Kbo p r := by
 rintro c0 r h
 unfold Kbn at h
 refine Q71.bodyO K2w (fn := Tryz.f74) (code := B74) (by kernel_rfl) (by kernel_rfl) (by kernel_rfl) (nt := 61) (by kernel_rfl) (by kernel_rfl) (T := [(0,.ra 1000 0)]) (O := [(1000,K1u c0)]) (by kernel_rfl) (by kernel_rfl) (fun c hc => ?_)
 refine rs hc none [some (.new 1)] [(0,.ra 1000 0),(2,.ra 1 0)] [(1,.box [I 0,.nils,.nils,.nils]),(1000,K1u c0)] tv ?_
 obtain ⟨⟨a0,a1⟩,a2,h⟩ := Qdd h
 refine rs hc none [oN,some (.call (K22 a0) [.optr [.sl (List.map U8 a1.fb),I a1.fi,I a1.fh]] 2),some (.new 5),oN] [(0,.ra 1000 0),(2,.ra 1 0),(3,.ra 5 0)] [(1,.box [I 0,.nils,.nils,.nils]),(2,rI a0.fPlus),(3,rI a0.fTimes),(4,.arr (List.map AV.bool a0.fBelow)),(5,.box [I a0.fSize,.rs 2,.rs 3,.rs 4]),(1000,K1u a1)] (ab (Kbd _ _ a2) K46 tv) ?_
 refine sN ?_
 obtain ⟨⟨a3,a4⟩,a5,h⟩ := Qdd h
 refine rs hc none [oN,some (.call (I a3) [.optr [.sl (List.map U8 a4.fb),I a4.fi,I a4.fh],.undef] 1)] [(0,.ra 1000 0),(2,.ra 1 0),(3,.ra 5 0),(8,I a3)] [(1,.box [I 0,.nils,.nils,.nils]),(2,rI a0.fPlus),(3,rI a0.fTimes),(4,.arr (List.map AV.bool a0.fBelow)),(5,.box [I a0.fSize,.rs 2,.rs 3,.rs 4]),(1000,K1u a4)] (ab (K81 _ _ a5) K31 tv) ?_
 refine bk 0 ?_
 refine K7k hc 2 [(0,.ra 1000 0),(2,.ra 1 0),(3,.ra 5 0),(8,I a3),(9,.bool (a3 == 0))] ?_
 obtain ⟨⟨a6,a7,a8,a9,b1,b2,b3⟩,b4,h⟩ := Qdd h
 refine Wp.into (x := .normal) (mkS [(2,.ra 1 0),(3,.ra 5 0)] [(1,.box [I 0,.nils,.nils,.nils]),(2,rI a7),(3,rI a8),(4,.arr (List.map AV.bool a9)),(5,.box [I a6,.rs 2,.rs 3,.rs 4]),(1000,.box [.sl (List.map U8 b1),I b2,I b3])]) ?_ ?_
 ·replace h := b4
  refine ic h (fun b5 h => ?_) fun b5 h => ?_
  ·obtain ⟨⟨b6,b7⟩,b8,h⟩ := Qdd h
   obtain ⟨⟨b9,c1⟩,c2,h⟩ := Qdd h
   obtain ⟨c3,c4,h⟩ := Qdd h
   refine rg hc (rx [[0],[1],[0],[0],[0,3],[0,3,4],[0,2,3,4,5],[0],[0],[0,8],[0,8,9],[0,2,3,4,5,6,7,8,9,10],[12],[13]]) [oN,oN,oN,oN,oN,some (.eqv (.no) ⟨[(16,I (a0.fPlus.length : Int))],[],[]⟩),some (.call (I b6) [.optr [.sl (List.map U8 b7.fb),I b7.fi,I b7.fh],.undef] 1),oN,oN,oN,oN,some (.call (I b9) [.optr [.sl (List.map U8 c1.fb),I c1.fi,I c1.fh],.undef] 1),oN,some (.eqv (.mk 0 true) ⟨[],[(2,some (.arr (List.map I (List.set a0.fPlus (Int.toNat b6) b9))))],[]⟩)] [(2,.ra 1 0),(3,.ra 5 0)] [(1,.box [I 0,.nils,.nils,.nils]),(2,.arr (List.map I (List.set a0.fPlus (Int.toNat b6) b9))),(3,rI a0.fTimes),(4,.arr (List.map AV.bool a0.fBelow)),(5,.box [I a0.fSize,.rs 2,.rs 3,.rs 4]),(1000,K1u c1)] (ad (Qdj (d := 16) I a0.fPlus) (K81 _ _ b8) K31 (K81 _ _ c2) (ad K31 (Qdi (enc := I) c4) (congrArg (fun z => (⟨[],[(2,some (.arr z))],[]⟩ : Wr)) (Qeg (enc := I) (i := Int.toNat b6) (l := a0.fPlus) (v := b9) (x := I b9) (Qds b9))) (Qeh (enc := I) (sz := 1) Qdw c4) tv)) ?_
   obtain ⟨rfl,hq0⟩ := Prod.mk.inj (Option.some.inj h)
   obtain ⟨rfl,hq1⟩ := Prod.mk.inj (hq0)
   obtain ⟨rfl,hq2⟩ := Prod.mk.inj (hq1)
   obtain ⟨rfl,hq3⟩ := Prod.mk.inj (hq2)
   obtain ⟨rfl,hq4⟩ := Prod.mk.inj (hq3)
   obtain ⟨rfl,rfl⟩ := Prod.mk.inj (hq4)
   exact Qcz.mk
  refine K7k hc 2 [(0,.ra 1000 0),(2,.ra 1 0),(3,.ra 5 0),(8,I a3),(24,.bool (a3 == 1))] ?_
  obtain ⟨⟨c5,c6,c7,c8,c9,d0⟩,d1,h⟩ := Qdd h
  refine Wp.into (x := .normal) (mkS [(2,.ra 1 0),(3,.ra 5 0)] [(1,.box [I 0,.nils,.nils,.nils]),(2,rI a0.fPlus),(3,rI c6),(4,.arr (List.map AV.bool c7)),(5,.box [I c5,.rs 2,.rs 3,.rs 4]),(1000,.box [.sl (List.map U8 c8),I c9,I d0])]) ?_ ?_
  ·replace h := d1
   refine ic h (fun d2 h => ?_) fun d2 h => ?_
   ·obtain ⟨⟨d3,d4⟩,d5,h⟩ := Qdd h
    obtain ⟨⟨d6,d7⟩,d8,h⟩ := Qdd h
    obtain ⟨d9,e0,h⟩ := Qdd h
    refine rg hc (rx [[0],[1],[0],[0],[0,3],[0,3,4],[0,2,3,4,5],[0],[0],[0,8],[0,2,3,4,5,6,7,8,9],[11],[12]]) [oN,oN,oN,oN,oN,some (.eqv (.no) ⟨[(31,I (a0.fTimes.length : Int))],[],[]⟩),some (.call (I d3) [.optr [.sl (List.map U8 d4.fb),I d4.fi,I d4.fh],.undef] 1),oN,oN,oN,some (.call (I d6) [.optr [.sl (List.map U8 d7.fb),I d7.fi,I d7.fh],.undef] 1),oN,some (.eqv (.mk 0 true) ⟨[],[(3,some (.arr (List.map I (List.set a0.fTimes (Int.toNat d3) d6))))],[]⟩)] [(2,.ra 1 0),(3,.ra 5 0)] [(1,.box [I 0,.nils,.nils,.nils]),(2,rI a0.fPlus),(3,.arr (List.map I (List.set a0.fTimes (Int.toNat d3) d6))),(4,.arr (List.map AV.bool a0.fBelow)),(5,.box [I a0.fSize,.rs 2,.rs 3,.rs 4]),(1000,K1u d7)] (ad (Qdj (d := 31) I a0.fTimes) (K81 _ _ d5) K31 (K81 _ _ d8) (ad K31 (Qdi (enc := I) e0) (congrArg (fun z => (⟨[],[(3,some (.arr z))],[]⟩ : Wr)) (Qeg (enc := I) (i := Int.toNat d3) (l := a0.fTimes) (v := d6) (x := I d6) (Qds d6))) (Qeh (enc := I) (sz := 1) Qdw e0) tv)) ?_
    obtain ⟨rfl,hq0⟩ := Prod.mk.inj (Option.some.inj h)
    obtain ⟨rfl,hq1⟩ := Prod.mk.inj (hq0)
    obtain ⟨rfl,hq2⟩ := Prod.mk.inj (hq1)
    obtain ⟨rfl,hq3⟩ := Prod.mk.inj (hq2)
    obtain ⟨rfl,rfl⟩ := Prod.mk.inj (hq3)
    exact Qcz.mk
   refine K7k hc 2 [(0,.ra 1000 0),(2,.ra 1 0),(3,.ra 5 0),(8,I a3),(38,.bool (a3 == 2))] ?_
   obtain ⟨⟨e1,e2,e3,e4,e5⟩,e6,h⟩ := Qdd h
   refine Wp.into (x := .normal) (mkS [(2,.ra 1 0),(3,.ra 5 0)] [(1,.box [I 0,.nils,.nils,.nils]),(2,rI a0.fPlus),(3,rI a0.fTimes),(4,.arr (List.map AV.bool e2)),(5,.box [I e1,.rs 2,.rs 3,.rs 4]),(1000,.box [.sl (List.map U8 e3),I e4,I e5])]) ?_ ?_
   ·replace h := e6
    refine ic h (fun e7 h => ?_) fun e7 h => ?_
    ·obtain ⟨⟨e8,e9⟩,f0,h⟩ := Qdd h
     refine rs hc none [oN,oN,oN,some (.eqv (.no) ⟨[(43,I (a0.fBelow.length : Int))],[],[]⟩),some (.call (I e8) [.optr [.sl (List.map U8 e9.fb),I e9.fi,I e9.fh],.undef] 1),oN] [(2,.ra 1 0),(3,.ra 5 0),(4,I e8)] [(1,.box [I 0,.nils,.nils,.nils]),(2,rI a0.fPlus),(3,rI a0.fTimes),(4,.arr (List.map AV.bool a0.fBelow)),(5,.box [I a0.fSize,.rs 2,.rs 3,.rs 4]),(1000,K1u e9)] (ac (Qdj (d := 43) AV.bool a0.fBelow) (K81 _ _ f0) K31 tv) ?_
     obtain ⟨f1,f2,f3,f4,h⟩ := bq2 h
     refine rg hc (rx [[0],[1],[0],[0],[0,3],[0],[0,3,4,5],[0,3,4,5,6],[0,3,4,5,6,7],[9],[10]]) [oN,oN,oN,oN,oN,oN,oN,some (.el (.bool f1)),oN,oN,some (.eqv (.mk 0 true) ⟨[],[(4,some (.arr (List.map AV.bool (List.set a0.fBelow (Int.toNat e8) (!f1)))))],[]⟩)] [(2,.ra 1 0),(3,.ra 5 0)] [(1,.box [I 0,.nils,.nils,.nils]),(2,rI a0.fPlus),(3,rI a0.fTimes),(4,.arr (List.map AV.bool (List.set a0.fBelow (Int.toNat e8) (!f1)))),(5,.box [I a0.fSize,.rs 2,.rs 3,.rs 4]),(1000,K1u e9)] (ad (Qdi (enc := AV.bool) f2) (Qdh (enc := AV.bool) (x := .bool f1) f2 (Qdu f1)).2 (Qdi (enc := AV.bool) f4) (congrArg (fun z => (⟨[],[(4,some (.arr z))],[]⟩ : Wr)) (Qeg (enc := AV.bool) (i := Int.toNat e8) (l := a0.fBelow) (v := (!f1)) (x := AV.bool (!f1)) (Qdu (!f1)))) (ai (Qeh (enc := AV.bool) (sz := 1) Qdy f4) tv)) ?_
     obtain ⟨rfl,hq0⟩ := Prod.mk.inj (Option.some.inj h)
     obtain ⟨rfl,hq1⟩ := Prod.mk.inj (hq0)
     obtain ⟨rfl,hq2⟩ := Prod.mk.inj (hq1)
     obtain ⟨rfl,rfl⟩ := Prod.mk.inj (hq2)
     exact Qcz.mk
    refine K7k hc 2 [(0,.ra 1000 0),(2,.ra 1 0),(3,.ra 5 0),(55,.bool (a3 == 3))] ?_
    obtain ⟨⟨f5,f6,f7,f8⟩,f9,h⟩ := Qdd h
    refine Wp.into (x := .normal) (mkS [(2,.ra 1 0),(3,.ra 5 0)] [(1,.box [I 0,.nils,.nils,.nils]),(2,rI a0.fPlus),(3,rI a0.fTimes),(4,.arr (List.map AV.bool a0.fBelow)),(5,.box [I f5,.rs 2,.rs 3,.rs 4]),(1000,.box [.sl (List.map U8 f6),I f7,I f8])]) ?_ ?_
    ·replace h := f9
     refine ic h (fun g0 h => ?_) fun g0 h => ?_
     ·obtain ⟨⟨g1,g2⟩,g3,h⟩ := Qdd h
      refine rg hc none [oN,some (.call (I g1) [.optr [.sl (List.map U8 g2.fb),I g2.fi,I g2.fh]] 1),oN,oN] [(2,.ra 1 0),(3,.ra 5 0)] [(1,.box [I 0,.nils,.nils,.nils]),(2,rI a0.fPlus),(3,rI a0.fTimes),(4,.arr (List.map AV.bool a0.fBelow)),(5,.box [I g1,.rs 2,.rs 3,.rs 4]),(1000,K1u g2)] (ab (Kbm _ _ g3) K4a tv) ?_
      obtain ⟨rfl,hq0⟩ := Prod.mk.inj (Option.some.inj h)
      obtain ⟨rfl,hq1⟩ := Prod.mk.inj (hq0)
      obtain ⟨rfl,rfl⟩ := Prod.mk.inj (hq1)
      exact Qcz.mk
     refine sk ?_
     obtain ⟨rfl,hq0⟩ := Prod.mk.inj (Option.some.inj h)
     obtain ⟨rfl,hq1⟩ := Prod.mk.inj (hq0)
     obtain ⟨rfl,rfl⟩ := Prod.mk.inj (hq1)
     exact iv []
    clear f9
    obtain ⟨rfl,hq0⟩ := Prod.mk.inj (Option.some.inj h)
    obtain ⟨rfl,hq1⟩ := Prod.mk.inj (hq0)
    obtain ⟨rfl,hq2⟩ := Prod.mk.inj (hq1)
    obtain ⟨rfl,rfl⟩ := Prod.mk.inj (hq2)
    exact Qcz.mk
   clear e6
   obtain ⟨rfl,hq0⟩ := Prod.mk.inj (Option.some.inj h)
   obtain ⟨rfl,hq1⟩ := Prod.mk.inj (hq0)
   obtain ⟨rfl,hq2⟩ := Prod.mk.inj (hq1)
   obtain ⟨rfl,hq3⟩ := Prod.mk.inj (hq2)
   obtain ⟨rfl,rfl⟩ := Prod.mk.inj (hq3)
   exact Qcz.mk
  clear d1
  obtain ⟨rfl,hq0⟩ := Prod.mk.inj (Option.some.inj h)
  obtain ⟨rfl,hq1⟩ := Prod.mk.inj (hq0)
  obtain ⟨rfl,hq2⟩ := Prod.mk.inj (hq1)
  obtain ⟨rfl,hq3⟩ := Prod.mk.inj (hq2)
  obtain ⟨rfl,hq4⟩ := Prod.mk.inj (hq3)
  obtain ⟨rfl,rfl⟩ := Prod.mk.inj (hq4)
  exact Qcz.mk
 clear b4
 refine rs0 hc 2 [(2,.ra 1 0)] [(1,.box [I a6,.rs 2,.rs 3,.rs 4]),(2,rI a7),(3,rI a8),(4,.arr (List.map AV.bool a9)),(1000,.box [.sl (List.map U8 b1),I b2,I b3])] ?_
 refine rt ?_
 obtain rfl := os h
 exact Qda.ret (fl := [true]) (by kernel_rfl)
def Kbq (c : Ctx) : (List Int) → Exit → Q0a → Prop
 | a0 => Qcz c (.exit 0) (mkS [(5,.rs 1)] [(1,rI a0)])
def Kbr (p : LL × (List Int) × Int) : Option ((List Int)) :=
 match p with
 | (parts1,a0,a1) =>
  if (decide (a1 < (parts1.length : Int))) = true then
  (idx parts1 a1) >>= fun a2 =>
  (Qdq (a0.length + a2.length) 8) >>= fun _ =>
  Kbr (parts1,(a0 ++ a2),(wr (a1 + 1)))
  else
  some (a0)
 partial_fixpoint
def Kbs (p : LL × (List Int) × Int) (fl : (List Int)) : Prop :=
 match p with
 | (parts1,a0,a1) => ∀ c : Ctx,c.nt = 22 → WpL Tryz.prog c (cl (cl (cr (cl (cr (cr K4d)))))) (Kbq c fl) (mkS [(1,sL parts1),(5,.rs 1),(6,I a1)] [(1,rI a0)])
theorem Kbt : ∀ p r,Kbr p = some r → Kbs p r := by
 refine Kbr.partial_correctness Kbs ?_
 rintro spec_l3Glue_l0_f spec_l3Glue_l0_ih ⟨parts1,a0,a1⟩ r h
 intro c hc
 refine WpL.step ?_
 refine sN ?_
 refine rss hc none [oN,oN,some (.eqv (.no) ⟨[(11,I (parts1.length : Int))],[],[]⟩),oN] [(1,sL parts1),(5,.rs 1),(6,I a1),(12,.bool (decide (a1 < (parts1.length : Int))))] (ai (Qdj (d := 11) K11 parts1) tv) ?_
 refine ic h (fun a2 h => ?_) fun a2 h => ?_
 ·refine sk ?_
  refine sN ?_
  refine bk 1 ?_
  obtain ⟨a3,a4,_,a5,h⟩ := bq2 h
  refine rg hc none [oN,oN,oN,some (.el (sI a3)),oN,some (.eqv (.mk 3 true) ⟨[(20,.rs 3)],[(3,some (rI (a0 ++ a3))),(1,none)],[3]⟩),oN] [(1,sL parts1),(5,.rs 3),(6,I a1)] [(3,rI (a0 ++ a3))] (ac (xL a4) (congrArg (fun z => (⟨[(20,.rs 3)],[(3,some (.arr z)),(1,none)],[3]⟩ : Wr)) ((List.map_append).symm : (List.map I a0) ++ (List.map I a3) = List.map I (a0 ++ a3))) (Qdr (enc1 := I) (enc2 := I) (e1 := a0) (e2 := a3) (sz := 1) Qe0 Qe0 a5) tv) ?_
  refine K7j hc 3 [(1,sL parts1),(5,.rs 3),(6,I (wr (a1 + 1)))] ?_
  refine Qcv ?_
  exact WpL.view (fun a w hv => SRx.renL [(1,3)] hv (by kernel_rfl) (by kernel_rfl) (by kernel_rfl)) (spec_l3Glue_l0_ih _ _ h c hc)
 refine xt 0 ?_
 refine Qcp ?_
 refine Qcw ?_
 obtain rfl := os h
 exact iv []
def Kbu (p : Int × LL) : Option ((List Int)) :=
 match p with
 | (c0,parts1) =>
  (Kbr (parts1,[c0],0)) >>= fun a0 =>
  some a0
def Kbv (p : Int × LL) (r : (List Int)) : Prop :=
 match p with
 | (c0,parts1) => Q71 Tryz.prog 155 [I c0,sL parts1] (oI r) []
theorem Kbw : ∀ p r,Kbu p = some r → Kbv p r := by
 rintro ⟨c0,parts1⟩ r h
 unfold Kbu at h
 refine b0 Tryz.f155 K4d 22 [(0,I c0),(1,sL parts1)] fun c hc => ?_
 refine rs0 hc 1 [(0,I c0),(1,sL parts1)] [] ?_
 refine rs hc none [oN,some (.mk 1 true),oN] [(1,sL parts1),(5,.rs 1)] [(1,.arr (List.map I [c0]))] tv ?_
 refine sN ?_
 refine K7k hc 1 [(1,sL parts1),(5,.rs 1),(6,I 0)] ?_
 refine bk 0 ?_
 obtain ⟨a0,a1,h⟩ := Qdd h
 have hL := Kbt _ _ a1 c hc
 refine lp ?_
 refine WpL.into (e := (.exit 0)) (mkS [(5,.rs 1)] [(1,rI a0)]) hL ?_
 refine Qcr ?_
 refine K7k hc 2 [(4,.rs 1)] ?_
 refine rt ?_
 obtain rfl := os h
 exact rq [true]
def Kbx (p : K01 × K00 × Int × Bool) : Option ((List Int) × K01) :=
 match p with
 | (c0,s1,deep2,data3) =>
  (K7z (c0,6)) >>= fun (a0,a1) =>
  ((
  if (decide (deep2 ≤ 0)) = true then
  some (true)
  else
  some ((decide (a0 < 2)))
  ) : Option (Bool)) >>= fun a2 =>
  if a2 = true then
  some ([0],a1)
  else
  (Kbx (a1,s1,(wr (deep2 - 1)),data3)) >>= fun (a3,a4) =>
  if (a0 == 2) = true then
  (K7z (a4,s1.fSize)) >>= fun (a5,a6) =>
  (Kbu ((wr (19 + a5)),[a3])) >>= fun a7 =>
  some (a7,a6)
  else
  ((
  if (a0 == 3) = true then
  some ((!data3))
  else
  some (false)
  ) : Option (Bool)) >>= fun a8 =>
  if a8 = true then
  (K7z (a4,s1.fSize)) >>= fun (a9,b1) =>
  (Kbx (b1,s1,(wr (deep2 - 1)),data3)) >>= fun (b2,b3) =>
  (Kbu ((wr (3 + a9)),[a3,b2])) >>= fun b4 =>
  some (b4,b3)
  else
  if (a0 == 4) = true then
  (Kbx (a4,s1,(wr (deep2 - 1)),data3)) >>= fun (b5,b6) =>
  (Kbu (2,[a3,b5])) >>= fun b7 =>
  some (b7,b6)
  else
  (Kbx (a4,s1,(wr (deep2 - 1)),data3)) >>= fun (b8,b9) =>
  (Kbu (1,[a3,b8])) >>= fun c1 =>
  some (c1,b9)
 partial_fixpoint
def Kby (p : K01 × K00 × Int × Bool) (r : (List Int) × K01) : Prop :=
 match p with
 | (c0,s1,deep2,data3) => Q71 Tryz.prog 75 [.optr [.sl (List.map U8 c0.fb),I c0.fi,I c0.fh],K1t s1,I deep2,.bool data3] (oI r.1) [.optr [.sl (List.map U8 r.2.fb),I r.2.fi,I r.2.fh],.undef,.undef,.undef]
theorem Kbz : ∀ p r,Kbx p = some r → Kby p r := by
 refine Kbx.partial_correctness Kby ?_
 rintro spec_dType_f spec_dType_ih ⟨c0,s1,deep2,data3⟩ r h
 refine Q71.bodyO K2w (fn := Tryz.f75) (code := B75) (by kernel_rfl) (by kernel_rfl) (by kernel_rfl) (nt := 79) (by kernel_rfl) (by kernel_rfl) (T := [(0,.ra 1000 0),(1,K1t s1),(2,I deep2),(3,.bool data3)]) (O := [(1000,K1u c0)]) (by kernel_rfl) (by kernel_rfl) (fun c hc => ?_)
 refine rs hc none [some (.new 1),oN] [(0,.ra 1000 0),(2,I deep2),(3,.bool data3),(5,.ra 1 0)] [(1,K1s s1),(1000,K1u c0)] tv ?_
 obtain ⟨⟨a0,a1⟩,a2,h⟩ := Qdd h
 refine rs hc none [oN,some (.call (I a0) [.optr [.sl (List.map U8 a1.fb),I a1.fi,I a1.fh],.undef] 1),oN] [(0,.ra 1000 0),(2,I deep2),(3,.bool data3),(5,.ra 1 0),(9,I a0)] [(1,K1s s1),(1000,K1u a1)] (ab (K81 _ _ a2) K31 tv) ?_
 refine sN ?_
 refine sN ?_
 obtain ⟨a3,a4,h⟩ := Qdd h
 refine Wp.into (x := .normal) (mkS [(0,.ra 1000 0),(2,I deep2),(3,.bool data3),(5,.ra 1 0),(9,I a0),(18,.bool a3)] [(1,K1s s1),(1000,K1u a1)]) ?_ ?_
 ·replace h := a4
  rcases is h with ⟨a5,h⟩ | ⟨a5,h⟩
  ·refine rgs hc none [oN,oN,oN,o_,o_,oT] [(0,.ra 1000 0),(2,I deep2),(3,.bool data3),(5,.ra 1 0),(9,I a0),(18,.bool true)] (ar 2 (neF a5) (ai a5 tv)) ?_
   obtain rfl := os h
   exact Qcz.mk
  refine rgs hc none [oN,oN,oN,oN,oN,oF] [(0,.ra 1000 0),(2,I deep2),(3,.bool data3),(5,.ra 1 0),(9,I a0),(18,.bool (decide (a0 < 2)))] (ar 3 a5 tv) ?_
  obtain rfl := os h
  exact Qcz.mk
 clear a4
 refine ic h (fun a6 h => ?_) fun a6 h => ?_
 ·refine rs hc none [some (.mk 2 true),oN] [(8,.rs 2)] [(2,.arr (List.map I [0])),(1000,K1u a1)] tv ?_
  refine rt ?_
  obtain rfl := os h
  exact Qda.ret (fl := [true]) (by kernel_rfl)
 refine sk ?_
 obtain ⟨⟨a7,a8⟩,a9,h⟩ := Qdd h
 refine rs hc none [oN,oN,oN,oN,oN,some (.call (oI a7) [.optr [.sl (List.map U8 a8.fb),I a8.fi,I a8.fh],.undef,.undef,.undef] 3),oN] [(0,.ra 1000 0),(2,I deep2),(3,.bool data3),(5,.ra 1 0),(9,I a0),(10,.rs 3)] [(1,K1s s1),(3,rI a7),(1000,K1u a8)] (ab (spec_dType_ih _ _ a9) K4c tv) ?_
 refine sN ?_
 refine bk 0 ?_
 refine K7k hc 3 [(0,.ra 1000 0),(2,I deep2),(3,.bool data3),(5,.ra 1 0),(9,I a0),(10,.rs 3),(26,.bool (a0 == 2))] ?_
 refine ic h (fun b1 h => ?_) fun b1 h => ?_
 ·obtain ⟨⟨b2,b3⟩,b4,h⟩ := Qdd h
  obtain ⟨b5,b6,h⟩ := Qdd h
  refine rs hc none [oN,oN,oN,some (.call (I b2) [.optr [.sl (List.map U8 b3.fb),I b3.fi,I b3.fh],.undef] 1),oN,oN,some (.mk 4 true),some (.call (oI b5) [] 5),oN] [(8,.rs 5)] [(5,rI b5),(1000,K1u b3)] (ad (K81 _ _ b4) K31 (Q71.args (A1 := [I (wr (19 + b2)),.sl (Q02 (List.map K0x [a7]))]) (A2 := [I (wr (19 + b2)),.sl (List.map K11 [a7])]) (by simp only [List.map_nil,K16]) (Kbw _ _ b6)) K4e (ai (Or.inr (Qed Qe9 b5) : ([4] : List Nat) = [] ∨ noSh (oI b5) = true) tv)) ?_
  refine rt ?_
  obtain rfl := os h
  exact Qda.ret (fl := [true]) (by kernel_rfl)
 refine sN ?_
 obtain ⟨b7,b8,h⟩ := Qdd h
 refine Wp.into (x := .normal) (mkS [(0,.ra 1000 0),(2,I deep2),(3,.bool data3),(5,.ra 1 0),(9,I a0),(10,.rs 3),(37,.bool b7)] [(1,K1s s1),(3,rI a7),(1000,K1u a8)]) ?_ ?_
 ·replace h := b8
  rcases is h with ⟨b9,h⟩ | ⟨b9,h⟩
  ·refine rgs hc none [oN,oN,oN,oN,oN,oT,oN] [(0,.ra 1000 0),(2,I deep2),(3,.bool data3),(5,.ra 1 0),(9,I a0),(10,.rs 3),(37,.bool (!data3))] (ar 3 b9 tv) ?_
   obtain rfl := os h
   exact Qcz.mk
  refine rgs hc none [oN,oN,oN,o_,o_,oF,oN] [(0,.ra 1000 0),(2,I deep2),(3,.bool data3),(5,.ra 1 0),(9,I a0),(10,.rs 3),(37,.bool false)] (ar 2 (neT b9) (ai b9 tv)) ?_
  obtain rfl := os h
  exact Qcz.mk
 clear b8
 refine ic h (fun c1 h => ?_) fun c1 h => ?_
 ·obtain ⟨⟨c2,c3⟩,c4,h⟩ := Qdd h
  obtain ⟨⟨c5,c6⟩,c7,h⟩ := Qdd h
  obtain ⟨c8,c9,h⟩ := Qdd h
  refine rs hc (rx [[0],[0],[0,1],[3],[4],[0],[0],[0],[0],[0,8],[0],[4,6,7,8,9,10],[4,5,6,7,8,9,10,11],[13],[14]]) [oN,oN,oN,some (.call (I c2) [.optr [.sl (List.map U8 c3.fb),I c3.fi,I c3.fh],.undef] 1),oN,oN,oN,oN,oN,oN,oN,some (.call (oI c5) [.optr [.sl (List.map U8 c6.fb),I c6.fi,I c6.fh],.undef,.undef,.undef] 6),some (.mk 7 true),some (.call (oI c8) [] 8),oN] [(8,.rs 8)] [(8,rI c8),(1000,K1u c6)] (ad (K81 _ _ c4) K31 (spec_dType_ih _ _ c7) K4c (ac (Q71.args (A1 := [I (wr (3 + c2)),.sl (Q02 (List.map K0x [a7,c5]))]) (A2 := [I (wr (3 + c2)),.sl (List.map K11 [a7,c5])]) (by simp only [List.map_nil,K16]) (Kbw _ _ c9)) K4e (Or.inr (Qed Qe9 c8) : ([7] : List Nat) = [] ∨ noSh (oI c8) = true) tv)) ?_
  refine rt ?_
  obtain rfl := os h
  exact Qda.ret (fl := [true]) (by kernel_rfl)
 refine K7k hc 3 [(0,.ra 1000 0),(2,I deep2),(3,.bool data3),(5,.ra 1 0),(10,.rs 3),(58,.bool (a0 == 4))] ?_
 refine ic h (fun d0 h => ?_) fun d0 h => ?_
 ·obtain ⟨⟨d1,d2⟩,d3,h⟩ := Qdd h
  obtain ⟨d4,d5,h⟩ := Qdd h
  refine rs hc none [oN,oN,oN,oN,oN,oN,some (.call (oI d1) [.optr [.sl (List.map U8 d2.fb),I d2.fi,I d2.fh],.undef,.undef,.undef] 9),some (.mk 10 true),some (.call (oI d4) [] 11),oN] [(8,.rs 11)] [(11,rI d4),(1000,K1u d2)] (ad (spec_dType_ih _ _ d3) K4c (Q71.args (A1 := [I 2,.sl (Q02 (List.map K0x [a7,d1]))]) (A2 := [I 2,.sl (List.map K11 [a7,d1])]) (by simp only [List.map_nil,K16]) (Kbw _ _ d5)) K4e (ai (Or.inr (Qed Qe9 d4) : ([10] : List Nat) = [] ∨ noSh (oI d4) = true) tv)) ?_
  refine rt ?_
  obtain rfl := os h
  exact Qda.ret (fl := [true]) (by kernel_rfl)
 refine sk ?_
 obtain ⟨⟨d6,d7⟩,d8,h⟩ := Qdd h
 obtain ⟨d9,e0,h⟩ := Qdd h
 refine rs hc none [oN,oN,oN,oN,oN,oN,some (.call (oI d6) [.optr [.sl (List.map U8 d7.fb),I d7.fi,I d7.fh],.undef,.undef,.undef] 12),some (.mk 13 true),some (.call (oI d9) [] 14),oN] [(8,.rs 14)] [(14,rI d9),(1000,K1u d7)] (ad (spec_dType_ih _ _ d8) K4c (Q71.args (A1 := [I 1,.sl (Q02 (List.map K0x [a7,d6]))]) (A2 := [I 1,.sl (List.map K11 [a7,d6])]) (by simp only [List.map_nil,K16]) (Kbw _ _ e0)) K4e (ai (Or.inr (Qed Qe9 d9) : ([13] : List Nat) = [] ∨ noSh (oI d9) = true) tv)) ?_
 refine rt ?_
 obtain rfl := os h
 exact Qda.ret (fl := [true]) (by kernel_rfl)
def Kc0 (c : Ctx) (a0 : K01) : (List Int) → Exit → Q0a → Prop
 | a1 => Qcz c (.exit 1) (mkS [(5,.rs 2)] [(2,rI a1),(1000,K1u a0)])
def Kc1 (p : K01 × (List Int)) : Option ((List Int)) :=
 match p with
 | (a0,a1) =>
  if (decide ((a1.length : Int) < 30)) = true then
  (Kbu (1,[a1,a1])) >>= fun a2 =>
  Kc1 (a0,a2)
  else
  some (a1)
 partial_fixpoint
def Kc2 (p : K01 × (List Int)) (fl : (List Int)) : Prop :=
 match p with
 | (a0,a1) => ∀ c : Ctx,c.nt = 46 → WpL Tryz.prog c (cl (cl (cl (cr (cr (cr (cr (cr (cr (cr (cl (cr (cl (cr (cr B76))))))))))))))) (Kc0 c a0 fl) (mkS [(5,.rs 2)] [(2,rI a1),(1000,K1u a0)])
theorem Kc3 : ∀ p r,Kc1 p = some r → Kc2 p r := by
 refine Kc1.partial_correctness Kc2 ?_
 rintro spec_dSpoiltType_l0_f spec_dSpoiltType_l0_ih ⟨a0,a1⟩ r h
 intro c hc
 refine WpL.step ?_
 refine sN ?_
 refine rss hc none [oN,some (.eqv (.no) ⟨[(39,I (a1.length : Int))],[],[]⟩),oN] [(5,.rs 2),(40,.bool (decide ((a1.length : Int) < 30)))] (ai (Qdj (d := 39) I a1) tv) ?_
 refine ic h (fun a2 h => ?_) fun a2 h => ?_
 ·refine sk ?_
  refine bk 2 ?_
  refine vz 2 (Qe5 a1) [(5,sI a1),(40,.bool (decide ((a1.length : Int) < 30)))] [(1000,K1u a0)] ?_
  obtain ⟨a3,a4,h⟩ := Qdd h
  refine rg hc none [oN,oN,some (.mk 11 false),some (.call (oI a3) [] 12),oN] [(5,.rs 12)] [(12,rI a3),(1000,K1u a0)] (ac (Q71.args (A1 := [I 1,.sl (Q02 (List.map K11 [a1,a1]))]) (A2 := [I 1,.sl (List.map K11 [a1,a1])]) (by simp only [List.map_nil,K15]) (Kbw _ _ a4)) K4e (Or.inr (Qed Qe9 a3) : ([11] : List Nat) = [] ∨ noSh (oI a3) = true) tv) ?_
  refine Qcv ?_
  exact WpL.view (fun a w hv => SRx.renL [(2,12)] hv (by kernel_rfl) (by kernel_rfl) (by kernel_rfl)) (spec_dSpoiltType_l0_ih _ _ h c hc)
 refine xt 1 ?_
 refine Qcp ?_
 refine Qcw ?_
 obtain rfl := os h
 exact iv []
def Kc4 (p : K01 × K00) : Option ((List Int) × K01) :=
 match p with
 | (c0,s1) =>
  (Kbe (c0,2)) >>= fun (a0,a1) =>
  (Kbx (a1,s1,3,a0)) >>= fun (a2,a3) =>
  (K7z (a3,14)) >>= fun (a4,a5) =>
  ((
  if (a4 == 0) = true then
  (K7z (a5,(a2.length : Int))) >>= fun (a6,a7) =>
  (Kbh (a7,[(-1),0,2,18,19,34,35,36,37,1000])) >>= fun (a8,a9) =>
  (idx a2 a6) >>= fun b1 =>
  some (((List.set a2 (Int.toNat a6) a8),a9.fb,a9.fi,a9.fh))
  else
  ((
  if (a4 == 1) = true then
  (cut a2 none (some (wr ((a2.length : Int) - 1))) none) >>= fun b2 =>
  some (b2)
  else
  ((
  if (a4 == 2) = true then
  (Qdq (a2.length + [0].length) 8) >>= fun _ =>
  some ((a2 ++ [0]))
  else
  ((
  if (a4 == 3) = true then
  (Kc1 (a5,a2)) >>= fun b3 =>
  some (b3)
  else
  some (a2)
  ) : Option ((List Int))) >>= fun b4 =>
  some (b4)
  ) : Option ((List Int))) >>= fun b5 =>
  some (b5)
  ) : Option ((List Int))) >>= fun b6 =>
  some ((b6,a5.fb,a5.fi,a5.fh))
  ) : Option ((List Int) × (List Int) × Int × Int)) >>= fun (b7,b8,b9,c1) =>
  some (b7,(K01.mk b8 b9 c1))
def Kc5 (p : K01 × K00) (r : (List Int) × K01) : Prop :=
 match p with
 | (c0,s1) => Q71 Tryz.prog 76 [.optr [.sl (List.map U8 c0.fb),I c0.fi,I c0.fh],K1t s1] (sI r.1) [.optr [.sl (List.map U8 r.2.fb),I r.2.fi,I r.2.fh],.undef]
theorem Kc6 : ∀ p r,Kc4 p = some r → Kc5 p r := by
 rintro ⟨c0,s1⟩ r h
 unfold Kc4 at h
 refine Q71.bodyO K2w (fn := Tryz.f76) (code := B76) (by kernel_rfl) (by kernel_rfl) (by kernel_rfl) (nt := 46) (by kernel_rfl) (by kernel_rfl) (T := [(0,.ra 1000 0),(1,K1t s1)]) (O := [(1000,K1u c0)]) (by kernel_rfl) (by kernel_rfl) (fun c hc => ?_)
 refine rs hc none [some (.new 1),oN] [(0,.ra 1000 0),(3,.ra 1 0)] [(1,K1s s1),(1000,K1u c0)] tv ?_
 obtain ⟨⟨a0,a1⟩,a2,h⟩ := Qdd h
 obtain ⟨⟨a3,a4⟩,a5,h⟩ := Qdd h
 refine rs hc (rx [[0],[0],[0],[0,2],[4],[5]]) [oN,oN,oN,some (.call (.bool a0) [.optr [.sl (List.map U8 a1.fb),I a1.fi,I a1.fh],.undef] 1),some (.call (oI a3) [.optr [.sl (List.map U8 a4.fb),I a4.fi,I a4.fh],.undef,.undef,.undef] 2),oN] [(0,.ra 1000 0),(5,.rs 2)] [(2,rI a3),(1000,K1u a4)] (ad (Kbg _ _ a2) K47 (Kbz _ _ a5) K4c tv) ?_
 refine sN ?_
 obtain ⟨⟨a6,a7⟩,a8,h⟩ := Qdd h
 refine rs hc none [oN,some (.call (I a6) [.optr [.sl (List.map U8 a7.fb),I a7.fi,I a7.fh],.undef] 1)] [(0,.ra 1000 0),(5,.rs 2),(12,I a6)] [(2,rI a3),(1000,K1u a7)] (ab (K81 _ _ a8) K31 tv) ?_
 refine bk 0 ?_
 refine K7k hc 2 [(0,.ra 1000 0),(5,.rs 2),(12,I a6),(13,.bool (a6 == 0))] ?_
 obtain ⟨⟨a9,b1,b2,b3⟩,b4,h⟩ := Qdd h
 refine Wp.into (x := .normal) (mkS [(5,sI a9)] [(1000,.box [.sl (List.map U8 b1),I b2,I b3])]) ?_ ?_
 ·replace h := b4
  refine ic h (fun b5 h => ?_) fun b5 h => ?_
  ·obtain ⟨⟨b6,b7⟩,b8,h⟩ := Qdd h
   obtain ⟨⟨b9,c1⟩,c2,h⟩ := Qdd h
   obtain ⟨c3,c4,h⟩ := Qdd h
   refine rg hc none [oN,oN,oN,some (.eqv (.no) ⟨[(18,I (a3.length : Int))],[],[]⟩),some (.call (I b6) [.optr [.sl (List.map U8 b7.fb),I b7.fi,I b7.fh],.undef] 1),oN,some (.call .undef [] 4),some (.call (I b9) [.optr [.sl (List.map U8 c1.fb),I c1.fi,I c1.fh],.undef] 1),oN,some (.eqv (.mk 0 true) ⟨[],[(2,some (.arr (List.map I (List.set a3 (Int.toNat b6) b9))))],[]⟩)] [(5,.rs 2)] [(2,.arr (List.map I (List.set a3 (Int.toNat b6) b9))),(1000,K1u c1)] (ad (Qdj (d := 18) I a3) (K81 _ _ b8) K31 (Kbj _ _ c2) (ad K49 (Qdi (enc := I) c4) (congrArg (fun z => (⟨[],[(2,some (.arr z))],[]⟩ : Wr)) (Qeg (enc := I) (i := Int.toNat b6) (l := a3) (v := b9) (x := I b9) (Qds b9))) (Qeh (enc := I) (sz := 1) Qdw c4) tv)) ?_
   obtain ⟨rfl,hq0⟩ := Prod.mk.inj (Option.some.inj h)
   obtain ⟨rfl,hq1⟩ := Prod.mk.inj (hq0)
   obtain ⟨rfl,rfl⟩ := Prod.mk.inj (hq1)
   exact Qcz.view (fun a w hv => SRx.renL [] (SRx.frzC 2 (xs := List.map I (List.set a3 (Int.toNat b6) b9)) (xs' := List.map I (List.set a3 (Int.toNat b6) b9)) hv (by kernel_rfl) (Qe5 _)) (by kernel_rfl) (by kernel_rfl) (by kernel_rfl))
  refine K7k hc 2 [(5,.rs 2),(12,I a6),(24,.bool (a6 == 1))] ?_
  obtain ⟨c5,c6,h⟩ := Qdd h
  refine Wp.into (x := .normal) (mkS [(5,sI c5)] [(1000,K1u a7)]) ?_ ?_
  ·replace h := c6
   refine ic h (fun c7 h => ?_) fun c7 h => ?_
   ·refine vz 2 (Qe5 a3) [(5,sI a3),(12,I a6),(24,.bool (a6 == 1))] [(1000,K1u a7)] ?_
    obtain ⟨c8,c9,h⟩ := Qdd h
    refine rgs hc none [oN,oN,some (.eqv (.no) ⟨[(28,I (a3.length : Int))],[],[]⟩),oN,some (.eqv (.no) ⟨[(30,sI c8)],[],[]⟩),oN] [(5,sI c8)] (ac (Qdj (d := 28) I a3) (Qdm (d := 30) I c9) (Qdl (enc := I) (sz := 1) Qdw c9) tv) ?_
    obtain rfl := os h
    exact Qcz.mk
   refine K7k hc 2 [(5,.rs 2),(12,I a6),(31,.bool (a6 == 2))] ?_
   obtain ⟨d0,d1,h⟩ := Qdd h
   refine Wp.into (x := .normal) (mkS [(5,.rs 6)] [(6,rI d0),(1000,K1u a7)]) ?_ ?_
   ·replace h := d1
    refine ic h (fun d2 h => ?_) fun d2 h => ?_
    ·obtain ⟨_,d3,h⟩ := Qdd h
     refine rg hc none [oN,some (.mk 5 true),some (.eqv (.mk 6 true) ⟨[(35,.rs 6)],[(6,some (rI (a3 ++ [0]))),(2,none),(5,none)],[6]⟩),oN] [(5,.rs 6)] [(6,rI (a3 ++ [0])),(1000,K1u a7)] (ab (congrArg (fun z => (⟨[(35,.rs 6)],[(6,some (.arr z)),(2,none),(5,none)],[6]⟩ : Wr)) ((List.map_append).symm : (List.map I a3) ++ (List.map I [0]) = List.map I (a3 ++ [0]))) (Qdr (enc1 := I) (enc2 := I) (e1 := a3) (e2 := [0]) (sz := 1) Qe0 Qe0 d3) tv) ?_
     obtain rfl := os h
     exact Qcz.mk
    refine K7k hc 2 [(5,.rs 2),(36,.bool (a6 == 3))] ?_
    obtain ⟨d4,d5,h⟩ := Qdd h
    refine Wp.into (x := .normal) (mkS [(5,.rs 2)] [(2,rI d4),(1000,K1u a7)]) ?_ ?_
    ·replace h := d5
     refine ic h (fun d6 h => ?_) fun d6 h => ?_
     ·refine bk 1 ?_
      obtain ⟨d7,d8,h⟩ := Qdd h
      have hL := Kc3 _ _ d8 c hc
      refine Wp.loopN (by kernel_rfl) (WpL.view (fun a w hv => SRx.renL [] hv (by kernel_rfl) (by kernel_rfl) (by kernel_rfl)) (?_ : WpL _ c _ _ (mkS [(5,.rs 2)] [(2,rI a3),(1000,K1u a7)])))
      refine WpL.into (e := (.exit 1)) (mkS [(5,.rs 2)] [(2,rI d7),(1000,K1u a7)]) hL ?_
      refine Qcr ?_
      obtain rfl := os h
      exact Qcz.mk
     refine sk ?_
     obtain rfl := os h
     exact iv []
    clear d5
    obtain rfl := os h
    exact iv [(6,2)]
   clear d1
   obtain rfl := os h
   exact Qcz.view (fun a w hv => SRx.renL [] (SRx.frzC 6 (xs := List.map I d0) (xs' := List.map I d0) hv (by kernel_rfl) (Qe5 _)) (by kernel_rfl) (by kernel_rfl) (by kernel_rfl))
  clear c6
  obtain ⟨rfl,hq0⟩ := Prod.mk.inj (Option.some.inj h)
  obtain ⟨rfl,hq1⟩ := Prod.mk.inj (hq0)
  obtain ⟨rfl,rfl⟩ := Prod.mk.inj (hq1)
  exact Qcz.mk
 clear b4
 refine K7k hc 2 [(4,sI a9)] ?_
 refine rt ?_
 obtain rfl := os h
 exact Qda.ret (fl := [false]) (by kernel_rfl)
def Kc7 (code0 : (List Int)) : Option (K00 × (List Int)) :=
 (K7t code0) >>= fun a0 =>
 (Kbb a0) >>= fun (a1,a2) =>
 (Kbe (a2,9)) >>= fun (a3,a4) =>
 if a3 = true then
 (Kbn a4) >>= fun (a5,a6) =>
 (Kbx (a6,a1,2,true)) >>= fun (a7,a8) =>
 some (a5,a7)
 else
 (Kc4 (a4,a1)) >>= fun (a9,b1) =>
 some (a1,a9)
def Kc8 (code0 : (List Int)) (r : K00 × (List Int)) : Prop :=
 Q71 Tryz.prog 15 [.sl (List.map U8 code0)] (.tup [.agg [I r.1.fSize,.sl (List.map I r.1.fPlus),.sl (List.map I r.1.fTimes),.sl (List.map AV.bool r.1.fBelow)],sI r.2]) []
theorem Kc9 : ∀ p r,Kc7 p = some r → Kc8 p r := by
 rintro code0 r h
 unfold Kc7 at h
 refine b0 Tryz.f15 B15 21 [(0,.sl (List.map U8 code0))] fun c hc => ?_
 refine rs hc none [some (.new 1),oN] [(0,.sl (List.map U8 code0)),(2,.ra 1 0)] [(1,.box [I 0,.nils,.nils,.nils])] tv ?_
 obtain ⟨a0,a1,h⟩ := Qdd h
 refine rs hc none [oN,some (.call (.optr [.sl (List.map U8 a0.fb),I a0.fi,I a0.fh]) [.tup []] 2),oN] [(2,.ra 1 0),(4,.ra 2 0)] [(1,.box [I 0,.nils,.nils,.nils]),(2,K1u a0)] (ab (K7v _ _ a1) K2y tv) ?_
 obtain ⟨⟨a2,a3⟩,a4,h⟩ := Qdd h
 refine rs hc none [oN,some (.call (K22 a2) [.optr [.sl (List.map U8 a3.fb),I a3.fi,I a3.fh]] 3),some (.new 6),oN] [(2,.ra 1 0),(4,.ra 2 0),(5,.ra 6 0)] [(1,.box [I 0,.nils,.nils,.nils]),(2,K1u a3),(3,rI a2.fPlus),(4,rI a2.fTimes),(5,.arr (List.map AV.bool a2.fBelow)),(6,.box [I a2.fSize,.rs 3,.rs 4,.rs 5])] (ab (Kbd _ _ a4) K46 tv) ?_
 refine sN ?_
 obtain ⟨⟨a5,a6⟩,a7,h⟩ := Qdd h
 refine rs hc none [oN,some (.call (.bool a5) [.optr [.sl (List.map U8 a6.fb),I a6.fi,I a6.fh],.undef] 1)] [(2,.ra 1 0),(4,.ra 2 0),(5,.ra 6 0),(11,.bool a5)] [(1,.box [I 0,.nils,.nils,.nils]),(2,K1u a6),(3,rI a2.fPlus),(4,rI a2.fTimes),(5,.arr (List.map AV.bool a2.fBelow)),(6,.box [I a2.fSize,.rs 3,.rs 4,.rs 5])] (ab (Kbg _ _ a7) K47 tv) ?_
 refine ic h (fun a8 h => ?_) fun a8 h => ?_
 ·refine sN ?_
  refine vz 3 (Qe5 a2.fPlus) [(2,.ra 1 0),(4,.ra 2 0),(5,.ra 6 0),(11,.bool a5)] [(1,.box [I 0,.nils,.nils,.nils]),(2,K1u a6),(4,rI a2.fTimes),(5,.arr (List.map AV.bool a2.fBelow)),(6,.box [I a2.fSize,sI a2.fPlus,.rs 4,.rs 5])] ?_
  refine vz 4 (Qe5 a2.fTimes) [(2,.ra 1 0),(4,.ra 2 0),(5,.ra 6 0),(11,.bool a5)] [(1,.box [I 0,.nils,.nils,.nils]),(2,K1u a6),(5,.arr (List.map AV.bool a2.fBelow)),(6,.box [I a2.fSize,sI a2.fPlus,sI a2.fTimes,.rs 5])] ?_
  refine vz 5 (Qe7 a2.fBelow) [(2,.ra 1 0),(4,.ra 2 0),(5,.ra 6 0),(11,.bool a5)] [(1,.box [I 0,.nils,.nils,.nils]),(2,K1u a6),(6,K1s a2)] ?_
  obtain ⟨⟨a9,b1⟩,b2,h⟩ := Qdd h
  obtain ⟨⟨b3,b4⟩,b5,h⟩ := Qdd h
  refine rg hc (rh [0,1,0,0,4,5,6]) [oN,some (.call (K22 a9) [.optr [.sl (List.map U8 b1.fb),I b1.fi,I b1.fh]] 16),oN,oN,some (.call (oI b3) [.optr [.sl (List.map U8 b4.fb),I b4.fi,I b4.fh],.undef,.undef,.undef] 19),oN,oN] [(2,.ra 1 0),(3,.rs 19)] [(1,.box [I a9.fSize,.rs 16,.rs 17,.rs 18]),(16,rI a9.fPlus),(17,rI a9.fTimes),(18,.arr (List.map AV.bool a9.fBelow)),(19,rI b3)] (ad (Kbp _ _ b2) K4b (Kbz _ _ b5) K4c tv) ?_
  refine vz 16 (Qe5 a9.fPlus) [(2,.ra 1 0),(3,.rs 19)] [(1,.box [I a9.fSize,sI a9.fPlus,.rs 17,.rs 18]),(17,rI a9.fTimes),(18,.arr (List.map AV.bool a9.fBelow)),(19,rI b3)] ?_
  refine vz 17 (Qe5 a9.fTimes) [(2,.ra 1 0),(3,.rs 19)] [(1,.box [I a9.fSize,sI a9.fPlus,sI a9.fTimes,.rs 18]),(18,.arr (List.map AV.bool a9.fBelow)),(19,rI b3)] ?_
  refine vz 18 (Qe7 a9.fBelow) [(2,.ra 1 0),(3,.rs 19)] [(1,K1s a9),(19,rI b3)] ?_
  refine vz 19 (Qe5 b3) [(2,.ra 1 0),(3,sI b3)] [(1,K1s a9)] ?_
  refine rt ?_
  obtain rfl := os h
  exact rq [false,false]
 refine sk ?_
 refine sN ?_
 refine vz 3 (Qe5 a2.fPlus) [(2,.ra 1 0),(4,.ra 2 0),(5,.ra 6 0),(11,.bool a5)] [(1,.box [I 0,.nils,.nils,.nils]),(2,K1u a6),(4,rI a2.fTimes),(5,.arr (List.map AV.bool a2.fBelow)),(6,.box [I a2.fSize,sI a2.fPlus,.rs 4,.rs 5])] ?_
 refine vz 4 (Qe5 a2.fTimes) [(2,.ra 1 0),(4,.ra 2 0),(5,.ra 6 0),(11,.bool a5)] [(1,.box [I 0,.nils,.nils,.nils]),(2,K1u a6),(5,.arr (List.map AV.bool a2.fBelow)),(6,.box [I a2.fSize,sI a2.fPlus,sI a2.fTimes,.rs 5])] ?_
 refine vz 5 (Qe7 a2.fBelow) [(2,.ra 1 0),(4,.ra 2 0),(5,.ra 6 0),(11,.bool a5)] [(1,.box [I 0,.nils,.nils,.nils]),(2,K1u a6),(6,K1s a2)] ?_
 obtain ⟨⟨b6,b7⟩,b8,h⟩ := Qdd h
 refine rg hc (rx [[0],[0],[0],[0,1,2],[4],[5]]) [oN,oN,oN,some (.call (sI b6) [.optr [.sl (List.map U8 b7.fb),I b7.fi,I b7.fh],.undef] 1),oN,oN] [(2,.ra 1 0),(3,sI b6)] [(1,K1s a2)] (ab (Kc6 _ _ b8) K4f tv) ?_
 refine rt ?_
 obtain rfl := os h
 exact rq [false,false]
def Kca (p : Int × Int × Int) : Option (Bool) :=
 match p with
 | (n0,low1,high2) =>
  ((
  if (decide (n0 ≥ low1)) = true then
  some ((decide (n0 ≤ high2)))
  else
  some (false)
  ) : Option (Bool)) >>= fun a0 =>
  some a0
def Kcb (p : Int × Int × Int) (r : Bool) : Prop :=
 match p with
 | (n0,low1,high2) => Q71 Tryz.prog 95 [I n0,I low1,I high2] (.bool r) []
theorem Kcc : ∀ p r,Kca p = some r → Kcb p r := by
 rintro ⟨n0,low1,high2⟩ r h
 unfold Kca at h
 refine b0 Tryz.f95 B95 15 [(0,I n0),(1,I low1),(2,I high2)] fun c hc => ?_
 refine rs0 hc 1 [(0,I n0),(1,I low1),(2,I high2)] [] ?_
 refine sN ?_
 obtain ⟨a0,a1,h⟩ := Qdd h
 refine Wp.into (x := .normal) (mkS [(6,.bool a0)] []) ?_ ?_
 ·replace h := a1
  rcases is h with ⟨a2,h⟩ | ⟨a2,h⟩
  ·refine rg hc none [oN,oN,oN,oN,oN,oN,oN,oT,oN] [(6,.bool (decide (n0 ≤ high2)))] [] (ar 4 a2 tv) ?_
   obtain rfl := os h
   exact Qcz.mk
  refine rg hc none [oN,oN,oN,oN,o_,o_,o_,oF,oN] [(6,.bool false)] [] (ar 3 (neT a2) (ai a2 tv)) ?_
  obtain rfl := os h
  exact Qcz.mk
 clear a1
 refine rt ?_
 obtain rfl := os h
 exact rq [true]
def Kcd (code0 : Int) : Option (Int × Int) :=
 (Kca (code0,0,2)) >>= fun a0 =>
 if a0 = true then
 some (code0,(-1))
 else
 (Kca (code0,3,18)) >>= fun a1 =>
 if a1 = true then
 some (3,(wr (code0 - 3)))
 else
 (Kca (code0,19,34)) >>= fun a2 =>
 if a2 = true then
 some (4,(wr (code0 - 19)))
 else
 if (code0 == 35) = true then
 some (3,(-1))
 else
 if (code0 == 36) = true then
 some (4,(-1))
 else
 some (5,(-1))
def Kce (code0 : Int) (r : Int × Int) : Prop :=
 Q71 Tryz.prog 157 [I code0] (.tup [I r.1,I r.2]) []
theorem Kcf : ∀ p r,Kcd p = some r → Kce p r := by
 rintro code0 r h
 unfold Kcd at h
 refine b0 Tryz.f157 K4i 24 [(0,I code0)] fun c hc => ?_
 refine rs0 hc 2 [(0,I code0)] [] ?_
 refine sN ?_
 refine bk 0 ?_
 obtain ⟨a0,a1,h⟩ := Qdd h
 refine rs hc none [oN,oc (.bool a0),oN] [(0,I code0),(4,.bool a0)] [] (cq (Kcc _ _ a1) K4h tv) ?_
 refine ic h (fun a2 h => ?_) fun a2 h => ?_
 ·refine rs0 hc 3 [(2,I code0),(3,I (-1))] [] ?_
  refine rt ?_
  obtain rfl := os h
  exact rq [true,true]
 obtain ⟨a3,a4,h⟩ := Qdd h
 refine rs hc none [oN,oc (.bool a3),oN] [(0,I code0),(8,.bool a3)] [] (cq (Kcc _ _ a4) K4h tv) ?_
 refine ic h (fun a5 h => ?_) fun a5 h => ?_
 ·refine rs0 hc 4 [(2,I 3),(3,I (wr (code0 - 3)))] [] ?_
  refine rt ?_
  obtain rfl := os h
  exact rq [true,true]
 obtain ⟨a6,a7,h⟩ := Qdd h
 refine rs hc none [oN,oc (.bool a6),oN] [(0,I code0),(13,.bool a6)] [] (cq (Kcc _ _ a7) K4h tv) ?_
 refine ic h (fun a8 h => ?_) fun a8 h => ?_
 ·refine rs0 hc 4 [(2,I 4),(3,I (wr (code0 - 19)))] [] ?_
  refine rt ?_
  obtain rfl := os h
  exact rq [true,true]
 refine rs0 hc 3 [(0,I code0),(18,.bool (code0 == 35))] [] ?_
 refine ic h (fun a9 h => ?_) fun a9 h => ?_
 ·refine rs0 hc 2 [(2,I 3),(3,I (-1))] [] ?_
  refine rt ?_
  obtain rfl := os h
  exact rq [true,true]
 refine rs0 hc 3 [(21,.bool (code0 == 36))] [] ?_
 refine ic h (fun b1 h => ?_) fun b1 h => ?_
 ·refine rs0 hc 2 [(2,I 4),(3,I (-1))] [] ?_
  refine rt ?_
  obtain rfl := os h
  exact rq [true,true]
 refine sk ?_
 refine rs0 hc 2 [(2,I 5),(3,I (-1))] [] ?_
 refine rt ?_
 obtain rfl := os h
 exact rq [true,true]
def Kcg (p : (List Int) × Int) : Option (Int) :=
 match p with
 | (ty0,at1) =>
  ((
  if (decide (at1 < 0)) = true then
  some (true)
  else
  some ((decide (at1 ≥ (ty0.length : Int))))
  ) : Option (Bool)) >>= fun a0 =>
  if a0 = true then
  some (-1)
  else
  (idx ty0 at1) >>= fun a1 =>
  (Kcd a1) >>= fun (a2,a3) =>
  if (a2 == 0) = true then
  some (wr (at1 + 1))
  else
  if (a2 == 4) = true then
  (Kcg (ty0,(wr (at1 + 1)))) >>= fun a4 =>
  some a4
  else
  if (a2 == 5) = true then
  some (-1)
  else
  (Kcg (ty0,(wr (at1 + 1)))) >>= fun a5 =>
  (Kcg (ty0,a5)) >>= fun a6 =>
  some a6
 partial_fixpoint
def Kch (p : (List Int) × Int) (r : Int) : Prop :=
 match p with
 | (ty0,at1) => Q71 Tryz.prog 213 [sI ty0,I at1] (I r) []
theorem Kci : ∀ p r,Kcg p = some r → Kch p r := by
 refine Kcg.partial_correctness Kch ?_
 rintro impl_typeEnd_f impl_typeEnd_ih ⟨ty0,at1⟩ r h
 refine b0 Tryz.f213 K4k 42 [(0,sI ty0),(1,I at1)] fun c hc => ?_
 refine rs0 hc 1 [(0,sI ty0),(1,I at1)] [] ?_
 refine sN ?_
 refine sN ?_
 obtain ⟨a0,a1,h⟩ := Qdd h
 refine Wp.into (x := .normal) (mkS [(0,sI ty0),(1,I at1),(14,.bool a0)] []) ?_ ?_
 ·replace h := a1
  rcases is h with ⟨a2,h⟩ | ⟨a2,h⟩
  ·refine rg hc none [oN,oN,oN,o_,o_,o_,o_,oT] [(0,sI ty0),(1,I at1),(14,.bool true)] [] (ar 4 (neF a2) (ai a2 tv)) ?_
   obtain rfl := os h
   exact Qcz.mk
  refine rg hc none [oN,oN,oN,oN,oN,some (.eqv (.no) ⟨[(12,I (ty0.length : Int))],[],[]⟩),oN,oF] [(0,sI ty0),(1,I at1),(14,.bool (decide (at1 ≥ (ty0.length : Int))))] [] (ar 3 a2 (ai (Qdj (d := 12) I ty0) (ar 2 a2 tv))) ?_
  obtain rfl := os h
  exact Qcz.mk
 clear a1
 refine ic h (fun a3 h => ?_) fun a3 h => ?_
 ·refine rs0 hc 1 [(4,I (-1))] [] ?_
  refine rt ?_
  obtain rfl := os h
  exact rq [true]
 refine sk ?_
 obtain ⟨a4,a5,⟨a6,a7⟩,a8,h⟩ := bq2 h
 refine rs hc none [oN,oN,some (.el (I a4)),oN,oc (.tup [I a6,I a7]),oN,oN,oN,oN,oN] [(0,sI ty0),(1,I at1),(5,I a6)] [] (ai (ix a5) (cq (Kcf _ _ a8) K4j tv)) ?_
 refine sN ?_
 refine rs0 hc 1 [(0,sI ty0),(1,I at1),(23,I a6)] [] ?_
 refine bk 0 ?_
 refine rs0 hc 2 [(0,sI ty0),(1,I at1),(23,I a6),(24,.bool (a6 == 0))] [] ?_
 refine ic h (fun a9 h => ?_) fun a9 h => ?_
 ·refine rs0 hc 3 [(4,I (wr (at1 + 1)))] [] ?_
  refine rt ?_
  obtain rfl := os h
  exact rq [true]
 refine rs0 hc 2 [(0,sI ty0),(1,I at1),(23,I a6),(28,.bool (a6 == 4))] [] ?_
 refine ic h (fun b1 h => ?_) fun b1 h => ?_
 ·obtain ⟨b2,b3,h⟩ := Qdd h
  refine rs hc none [oN,oN,oN,oc (I b2),oN] [(4,I b2)] [] (cq (impl_typeEnd_ih _ _ b3) K4l tv) ?_
  refine rt ?_
  obtain rfl := os h
  exact rq [true]
 refine rs0 hc 2 [(0,sI ty0),(1,I at1),(34,.bool (a6 == 5))] [] ?_
 refine ic h (fun b4 h => ?_) fun b4 h => ?_
 ·refine rs0 hc 1 [(4,I (-1))] [] ?_
  refine rt ?_
  obtain rfl := os h
  exact rq [true]
 refine sk ?_
 obtain ⟨b5,b6,b7,b8,h⟩ := bq2 h
 refine rs hc none [oN,oN,oN,oN,oc (I b5),oc (I b7),oN] [(4,I b7)] [] (cq (impl_typeEnd_ih _ _ b6) K4l (cq (impl_typeEnd_ih _ _ b8) K4l tv)) ?_
 refine rt ?_
 obtain rfl := os h
 exact rq [true]
def Kcj (ty0 : (List Int)) : Option (Bool) :=
 ((
 (Kca ((ty0.length : Int),1,40)) >>= fun a0 =>
 if a0 = true then
 (Kcg (ty0,0)) >>= fun a1 =>
 some ((a1 == (ty0.length : Int)))
 else
 some (false)
 ) : Option (Bool)) >>= fun a2 =>
 some a2
def Kck (ty0 : (List Int)) (r : Bool) : Prop :=
 Q71 Tryz.prog 159 [sI ty0] (.bool r) []
theorem Kcl : ∀ p r,Kcj p = some r → Kck p r := by
 rintro ty0 r h
 unfold Kcj at h
 refine b0 Tryz.f159 K4m 13 [(0,sI ty0)] fun c hc => ?_
 refine rs0 hc 1 [(0,sI ty0)] [] ?_
 refine sN ?_
 obtain ⟨a0,a1,h⟩ := Qdd h
 refine Wp.into (x := .normal) (mkS [(2,.bool a0)] []) ?_ ?_
 ·replace h := a1
  obtain ⟨a2,a3,h⟩ := Qdd h
  rcases is h with ⟨a4,h⟩ | ⟨a4,h⟩
  ·obtain ⟨a5,a6,h⟩ := Qdd h
   refine rg hc none [oN,some (.eqv (.no) ⟨[(4,I (ty0.length : Int))],[],[]⟩),oc (.bool a2),oN,oN,oc (I a5),oN,some (.eqv (.no) ⟨[(10,I (ty0.length : Int))],[],[]⟩),oN,oT,oN] [(2,.bool (a5 == (ty0.length : Int)))] [] (ai (Qdj (d := 4) I ty0) (cq (Kcc _ _ a3) K4h (ar 2 a4 (cq (Kci _ _ a6) K4l (ar 2 a4 (ai (Qdj (d := 10) I ty0) (ar 2 a4 tv))))))) ?_
   obtain rfl := os h
   exact Qcz.mk
  refine rg hc none [oN,some (.eqv (.no) ⟨[(4,I (ty0.length : Int))],[],[]⟩),oc (.bool a2),oN,o_,o_,o_,o_,o_,oF,oN] [(2,.bool false)] [] (ai (Qdj (d := 4) I ty0) (cq (Kcc _ _ a3) K4h (ar 5 (neT a4) (ai a4 tv)))) ?_
  obtain rfl := os h
  exact Qcz.mk
 clear a1
 refine rt ?_
 obtain rfl := os h
 exact rq [true]
def Kcm (p : K00 × Int) : Option (Bool) :=
 match p with
 | (s0,g1) =>
  (Kca (g1,0,(wr (s0.fSize - 1)))) >>= fun a0 =>
  some a0
def Kcn (p : K00 × Int) (r : Bool) : Prop :=
 match p with
 | (s0,g1) => Q71 Tryz.prog 145 [K1t s0,I g1] (.bool r) []
theorem Kco : ∀ p r,Kcm p = some r → Kcn p r := by
 rintro ⟨s0,g1⟩ r h
 unfold Kcm at h
 refine b0 Tryz.f145 K4o 10 [(0,K1t s0),(1,I g1)] fun c hc => ?_
 refine rs hc none [some (.new 1),oN] [(1,I g1),(2,.ra 1 0)] [(1,K1s s0)] tv ?_
 obtain ⟨a0,a1,h⟩ := Qdd h
 refine rs hc none [oN,oN,oN,oN,oc (.bool a0),oN] [(4,.bool a0)] [] (cq (Kcc _ _ a1) K4h tv) ?_
 refine rt ?_
 obtain rfl := os h
 exact rq [true]
def Kcp (c : Ctx) : (Unit) ⊕ (Bool) → Exit → Q0a → Prop
 | .inl _ => Qcz c (.exit 0) (mkS [] [])
 | .inr r => Qd8 TIx Tryz.f78 [] (.bool r)
def Kcq (p : K00 × (List Int) × Int) : Option ((Unit) ⊕ (Bool)) :=
 match p with
 | (s0,ty1,a0) =>
  if (decide (a0 < (ty1.length : Int))) = true then
  (idx ty1 a0) >>= fun a1 =>
  (Kcd a1) >>= fun (a2,a3) =>
  ((
  if (a2 == 3) = true then
  (Kcm (s0,a3)) >>= fun a4 =>
  some ((!a4))
  else
  if (a2 == 4) = true then
  (Kcm (s0,a3)) >>= fun a4 =>
  some ((!a4))
  else
  some (false)
  ) : Option (Bool)) >>= fun a5 =>
  if a5 = true then
  some (.inr false)
  else
  Kcq (s0,ty1,(wr (a0 + 1)))
  else
  some (.inl ())
 partial_fixpoint
def Kcr (p : K00 × (List Int) × Int) (fl : (Unit) ⊕ (Bool)) : Prop :=
 match p with
 | (s0,ty1,a0) => ∀ c : Ctx,c.nt = 36 → WpL Tryz.prog c (cl (cl (cr (cl (cr (cr B78)))))) (Kcp c fl) (mkS [(2,.ra 1 0),(12,sI ty1),(13,I (ty1.length : Int)),(14,I a0)] [(1,K1s s0)])
theorem Kcs : ∀ p r,Kcq p = some r → Kcr p r := by
 refine Kcq.partial_correctness Kcr ?_
 rintro impl_isTypeOf_l0_f impl_isTypeOf_l0_ih ⟨s0,ty1,a0⟩ r h
 intro c hc
 refine WpL.step ?_
 refine K7k hc 1 [(2,.ra 1 0),(12,sI ty1),(13,I (ty1.length : Int)),(14,I a0),(15,.bool (decide (a0 < (ty1.length : Int))))] ?_
 refine sN ?_
 refine ic h (fun a1 h => ?_) fun a1 h => ?_
 ·refine sk ?_
  refine sN ?_
  refine bk 1 ?_
  obtain ⟨a2,a3,h⟩ := Qdd h
  refine rss hc none [some (.el (I a2)),oN,oN] [(2,.ra 1 0),(6,I a2),(12,sI ty1),(13,I (ty1.length : Int)),(14,I a0)] (ai (ix a3) tv) ?_
  obtain ⟨⟨a4,a5⟩,a6,h⟩ := Qdd h
  refine rss hc none [oN,oc (.tup [I a4,I a5]),oN,oN,oN,oN,oN] [(2,.ra 1 0),(7,I a4),(8,I a5),(12,sI ty1),(13,I (ty1.length : Int)),(14,I a0)] (cq (Kcf _ _ a6) K4j tv) ?_
  refine sN ?_
  obtain ⟨a7,a8,h⟩ := Qdd h
  refine Wp.into (x := .normal) (mkS [(2,.ra 1 0),(12,sI ty1),(13,I (ty1.length : Int)),(14,I a0),(34,.bool a7)] [(1,K1s s0)]) ?_ ?_
  ·replace h := a8
   rcases is h with ⟨a9,h⟩ | ⟨a9,h⟩
   ·obtain ⟨b1,b2,h⟩ := Qdd h
    refine rgs hc none [oN,oN,oN,o_,o_,oT,oN,oN,oN,oc (.bool b1),oN,oT] [(2,.ra 1 0),(12,sI ty1),(13,I (ty1.length : Int)),(14,I a0),(34,.bool (!b1))] (ar 2 (neF a9) (ai a9 (ar 3 tt (cq (Kco _ _ b2) K4p (ar 2 tt tv))))) ?_
    obtain rfl := os h
    exact Qcz.mk
   rcases is h with ⟨b3,h⟩ | ⟨b3,h⟩
   ·obtain ⟨b1,b2,h⟩ := Qdd h
    refine rgs hc none [oN,oN,oN,oN,oN,oF,oN,oN,oN,oc (.bool b1),oN,oT] [(2,.ra 1 0),(12,sI ty1),(13,I (ty1.length : Int)),(14,I a0),(34,.bool (!b1))] (ar 3 a9 (ar 3 b3 (cq (Kco _ _ b2) K4p (ar 2 b3 tv)))) ?_
    obtain rfl := os h
    exact Qcz.mk
   refine rgs hc none [oN,oN,oN,oN,oN,oF,oN,o_,o_,o_,o_,oF] [(2,.ra 1 0),(12,sI ty1),(13,I (ty1.length : Int)),(14,I a0),(34,.bool false)] (ar 3 a9 (ar 4 (neT b3) (ai b3 tv))) ?_
   obtain rfl := os h
   exact Qcz.mk
  clear a8
  refine ic h (fun b4 h => ?_) fun b4 h => ?_
  ·refine rs0 hc 1 [(4,.bool false)] [] ?_
   refine rt ?_
   obtain rfl := os h
   exact re [true]
  refine sk ?_
  refine K7j hc 2 [(2,.ra 1 0),(12,sI ty1),(13,I (ty1.length : Int)),(14,I (wr (a0 + 1)))] ?_
  refine Qcv ?_
  exact (impl_isTypeOf_l0_ih _ _ h c hc)
 refine xt 0 ?_
 refine Qcp ?_
 refine Qcw ?_
 obtain rfl := os h
 exact iv []
def Kct (p : K00 × (List Int)) : Option (Bool) :=
 match p with
 | (s0,ty1) =>
  (Kcj ty1) >>= fun a0 =>
  if a0 = true then
  (Kcq (s0,ty1,0)) >>= fun fl => match fl with
  | .inl () =>
   some true
  | .inr r =>
   some r
  else
  some false
def Kcu (p : K00 × (List Int)) (r : Bool) : Prop :=
 match p with
 | (s0,ty1) => Q71 Tryz.prog 78 [K1t s0,sI ty1] (.bool r) []
theorem Kcv : ∀ p r,Kct p = some r → Kcu p r := by
 rintro ⟨s0,ty1⟩ r h
 unfold Kct at h
 refine b0 Tryz.f78 B78 36 [(0,K1t s0),(1,sI ty1)] fun c hc => ?_
 refine rs hc none [some (.new 1),oN] [(1,sI ty1),(2,.ra 1 0)] [(1,K1s s0)] tv ?_
 refine sN ?_
 obtain ⟨a0,a1,h⟩ := Qdd h
 refine rss hc none [oN,oc (.bool a0),oN] [(1,sI ty1),(2,.ra 1 0),(11,.bool (!a0))] (cq (Kcl _ _ a1) K4n tv) ?_
 rcases is h with ⟨a2,h⟩ | ⟨a2,h⟩
 ·refine cF (!a0) (nF a2) ?_
  refine sk ?_
  refine sN ?_
  refine rss hc none [oN,some (.eqv (.no) ⟨[(13,I (ty1.length : Int))],[],[]⟩),oN] [(2,.ra 1 0),(12,sI ty1),(13,I (ty1.length : Int)),(14,I 0)] (ai (Qdj (d := 13) I ty1) tv) ?_
  refine bk 0 ?_
  obtain ⟨fl,a3,h⟩ := Qdd h
  have hL := Kcs _ _ a3 c hc
  refine lp ?_
  rcases fl with ⟨⟩ | r
  ·refine WpL.into (e := (.exit 0)) (mkS [] []) hL ?_
   refine Qcr ?_
   refine rs0 hc 1 [(4,.bool true)] [] ?_
   refine rt ?_
   obtain rfl := os h
   exact rq [true]
  refine WpL.mono hL ?_
  rintro _ _ ⟨rfl,hfin⟩
  obtain rfl := os h
  exact ⟨.inl rfl,hfin⟩
 refine cT (!a0) (nT a2) ?_
 refine rs0 hc 1 [(4,.bool false)] [] ?_
 refine rt ?_
 obtain rfl := os h
 exact rq [true]
def Kcw (p : K00 × Int × Int) : Option (Int) :=
 match p with
 | (s0,a1,b2) =>
  (idx s0.fPlus (wr ((wr (a1 * s0.fSize)) + b2))) >>= fun a0 =>
  some a0
def Kcx (p : K00 × Int × Int) (r : Int) : Prop :=
 match p with
 | (s0,a1,b2) => Q71 Tryz.prog 160 [K1t s0,I a1,I b2] (I r) []
theorem Kcy : ∀ p r,Kcw p = some r → Kcx p r := by
 rintro ⟨s0,a1,b2⟩ r h
 unfold Kcw at h
 refine b0 Tryz.f160 K4r 17 [(0,K1t s0),(1,I a1),(2,I b2)] fun c hc => ?_
 refine rs hc none [some (.new 1),oN] [(1,I a1),(2,I b2),(3,.ra 1 0)] [(1,K1s s0)] tv ?_
 obtain ⟨a0,a2,h⟩ := Qdd h
 refine rs hc none [oN,oN,oN,oN,oN,oN,oN,oN,some (.el (I a0)),oN,oN] [(6,I a0)] [] (ai (ix a2) tv) ?_
 refine rt ?_
 obtain rfl := os h
 exact rq [true]
end Go.Am
