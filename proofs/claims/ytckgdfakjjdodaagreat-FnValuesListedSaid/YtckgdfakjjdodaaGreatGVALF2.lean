/- Functions of the program as pure functions,and that it computes them. Printed by a program of mine (gen.py). -/
import Derived.Test.YtckgdfakjjdodaaGreatGVALF0
set_option linter.unusedVariables false
set_option linter.unusedSimpArgs false
set_option maxRecDepth 100000
namespace Go.Am
open Go Go.Proofs
def Kau : Option (List (List Nat)) := rx [[0],[1],[0],[0],[0],[0],[0,3,4,5],[0],[0],[0],[0,3,4,5,6,7,8,9],[0,2,3,4,5,6,7,8,9,10],[0,2,3,4,5,6,7,8,9,10,11],[13],[14],[15]]
def Kav : Option (List (List Nat)) := rx [[0],[1],[0],[0],[0],[0,2,3,4],[0,2,3,4,5],[0,2,3,4,5,6],[0,2,3,4,5,6],[0,2,3,4,5,6],[0,2,3,4,5,6,7,8,9],[0,2,3,4,5,6,7,8,9,10],[0,2,3,4,5,6,7,8,9,10,11],[13],[14],[15]]
def Kaw (p : K00 × Int × Int) : Option ((Unit) ⊕ (Bool)) :=
 match p with
 | (s0,a0,a1) =>
  if (decide (a1 < s0.fSize)) = true then
  (Kaj (s0,a0,a1)) >>= fun a2 =>
  if a2 = true then
  (Kaq (s0,a0,a1,0)) >>= fun fl => match fl with
  | .inl () =>
   Kaw (s0,a0,(wr (a1 + 1)))
  | .inr r =>
   some (.inr r)
  else
  some (.inr false)
  else
  some (.inl ())
 partial_fixpoint
def Kax (p : K00 × Int × Int) (fl : (Unit) ⊕ (Bool)) : Prop :=
 match p with
 | (s0,a0,a1) => ∀ c : Ctx,c.nt = 42 → WpL Tryz.prog c (cl (cl (cr (cr (cl (cl (cr (cl (cl (cr (cl (cr (cr B80))))))))))))) (Kat c s0 a0 fl) (mkS [(1,.ra 1 0),(3,I a0),(4,I a1)] [(1,K1s s0)])
theorem Kay : ∀ p r,Kaw p = some r → Kax p r := by
 refine Kaw.partial_correctness Kax ?_
 rintro spec_IsSystem_l1_f spec_IsSystem_l1_ih ⟨s0,a0,a1⟩ r h
 intro c hc
 refine WpL.step ?_
 refine sN ?_
 refine K82 hc 4 [(1,.ra 1 0),(3,I a0),(4,I a1),(22,.bool (decide (a1 < s0.fSize)))] ?_
 refine ic h (fun a2 h => ?_) fun a2 h => ?_
 ·refine sk ?_
  refine sN ?_
  refine bk 3 ?_
  refine sN ?_
  obtain ⟨a3,a4,h⟩ := Qdd h
  refine rss hc none [oN,oN,oN,oc (.bool a3),oN] [(1,.ra 1 0),(3,I a0),(4,I a1),(29,.bool (!a3))] (cq (Kal _ _ a4) K3s tv) ?_
  rcases is h with ⟨a5,h⟩ | ⟨a5,h⟩
  ·refine cF (!a3) (nF a5) ?_
   refine sk ?_
   refine K82 hc 1 [(1,.ra 1 0),(3,I a0),(4,I a1),(5,I 0)] ?_
   refine bk 4 ?_
   obtain ⟨fl,a6,h⟩ := Qdd h
   have hL := Kas _ _ a6 c hc
   refine lp ?_
   rcases fl with ⟨⟩ | r
   ·refine WpL.into (e := (.exit 4)) (mkS [(1,.ra 1 0),(3,I a0),(4,I a1)] [(1,K1s s0)]) hL ?_
    refine Qcr ?_
    refine K81 hc 3 [(1,.ra 1 0),(3,I a0),(4,I (wr (a1 + 1)))] ?_
    refine Qcv ?_
    exact (spec_IsSystem_l1_ih _ _ h c hc)
   refine WpL.mono hL ?_
   rintro _ _ ⟨rfl,hfin⟩
   obtain rfl := os h
   exact ⟨rfl,hfin⟩
  refine cT (!a3) (nT a5) ?_
  refine rs0 hc 1 [(2,.bool false)] [] ?_
  refine rt ?_
  obtain rfl := os h
  exact re [true]
 refine xt 2 ?_
 refine Qcp ?_
 refine Qcw ?_
 obtain rfl := os h
 exact iv []
def Kaz (c : Ctx) : (Unit) ⊕ (Bool) → Exit → Q0a → Prop
 | .inl _ => Qcz c (.exit 0) (mkS [] [])
 | .inr r => Qd8 TIx Tryz.f80 [] (.bool r)
def Kb0 (p : K00 × Int) : Option ((Unit) ⊕ (Bool)) :=
 match p with
 | (s0,a0) =>
  if (decide (a0 < s0.fSize)) = true then
  (Ka5 (s0,a0)) >>= fun a1 =>
  if a1 = true then
  (Kaw (s0,a0,0)) >>= fun fl => match fl with
  | .inl () =>
   Kb0 (s0,(wr (a0 + 1)))
  | .inr r =>
   some (.inr r)
  else
  some (.inr false)
  else
  some (.inl ())
 partial_fixpoint
def Kb1 (p : K00 × Int) (fl : (Unit) ⊕ (Bool)) : Prop :=
 match p with
 | (s0,a0) => ∀ c : Ctx,c.nt = 42 → WpL Tryz.prog c (cl (cl (cr (cl (cr (cr B80)))))) (Kaz c fl) (mkS [(1,.ra 1 0),(3,I a0)] [(1,K1s s0)])
theorem Kb2 : ∀ p r,Kb0 p = some r → Kb1 p r := by
 refine Kb0.partial_correctness Kb1 ?_
 rintro spec_IsSystem_l2_f spec_IsSystem_l2_ih ⟨s0,a0⟩ r h
 intro c hc
 refine WpL.step ?_
 refine sN ?_
 refine K82 hc 4 [(1,.ra 1 0),(3,I a0),(12,.bool (decide (a0 < s0.fSize)))] ?_
 refine ic h (fun a1 h => ?_) fun a1 h => ?_
 ·refine sk ?_
  refine sN ?_
  refine bk 1 ?_
  refine sN ?_
  obtain ⟨a2,a3,h⟩ := Qdd h
  refine rss hc none [oN,oN,oc (.bool a2),oN] [(1,.ra 1 0),(3,I a0),(18,.bool (!a2))] (cq (Ka7 _ _ a3) K3o tv) ?_
  rcases is h with ⟨a4,h⟩ | ⟨a4,h⟩
  ·refine cF (!a2) (nF a4) ?_
   refine sk ?_
   refine K82 hc 1 [(1,.ra 1 0),(3,I a0),(4,I 0)] ?_
   refine bk 2 ?_
   obtain ⟨fl,a5,h⟩ := Qdd h
   have hL := Kay _ _ a5 c hc
   refine lp ?_
   rcases fl with ⟨⟩ | r
   ·refine WpL.into (e := (.exit 2)) (mkS [(1,.ra 1 0),(3,I a0)] [(1,K1s s0)]) hL ?_
    refine Qcr ?_
    refine K81 hc 3 [(1,.ra 1 0),(3,I (wr (a0 + 1)))] ?_
    refine Qcv ?_
    exact (spec_IsSystem_l2_ih _ _ h c hc)
   refine WpL.mono hL ?_
   rintro _ _ ⟨rfl,hfin⟩
   obtain rfl := os h
   exact ⟨rfl,hfin⟩
  refine cT (!a2) (nT a4) ?_
  refine rs0 hc 1 [(2,.bool false)] [] ?_
  refine rt ?_
  obtain rfl := os h
  exact re [true]
 refine xt 0 ?_
 refine Qcp ?_
 refine Qcw ?_
 obtain rfl := os h
 exact iv []
def Kb3 (s0 : K00) : Option (Bool) :=
 (K9p s0) >>= fun a0 =>
 if a0 = true then
 (Kb0 (s0,0)) >>= fun fl => match fl with
 | .inl () =>
  some true
 | .inr r =>
  some r
 else
 some false
def Kb4 (s0 : K00) (r : Bool) : Prop :=
 Q71 Tryz.prog 80 [K1t s0] (.bool r) []
theorem Kb5 : ∀ p r,Kb3 p = some r → Kb4 p r := by
 rintro s0 r h
 unfold Kb3 at h
 refine b0 Tryz.f80 B80 42 [(0,K1t s0)] fun c hc => ?_
 refine rs hc none [some (.new 1),oN] [(1,.ra 1 0)] [(1,K1s s0)] tv ?_
 refine sN ?_
 obtain ⟨a0,a1,h⟩ := Qdd h
 refine rss hc none [oN,oc (.bool a0),oN] [(1,.ra 1 0),(8,.bool (!a0))] (cq (K9r _ _ a1) K3g tv) ?_
 rcases is h with ⟨a2,h⟩ | ⟨a2,h⟩
 ·refine cF (!a0) (nF a2) ?_
  refine sk ?_
  refine sN ?_
  refine K82 hc 1 [(1,.ra 1 0),(3,I 0)] ?_
  refine bk 0 ?_
  obtain ⟨fl,a3,h⟩ := Qdd h
  have hL := Kb2 _ _ a3 c hc
  refine lp ?_
  rcases fl with ⟨⟩ | r
  ·refine WpL.into (e := (.exit 0)) (mkS [] []) hL ?_
   refine Qcr ?_
   refine rs0 hc 1 [(2,.bool true)] [] ?_
   refine rt ?_
   obtain rfl := os h
   exact rq [true]
  refine WpL.mono hL ?_
  rintro _ _ ⟨rfl,hfin⟩
  obtain rfl := os h
  exact ⟨.inl rfl,hfin⟩
 refine cT (!a0) (nT a2) ?_
 refine rs0 hc 1 [(2,.bool false)] [] ?_
 refine rt ?_
 obtain rfl := os h
 exact rq [true]
def Kb6 (p : K00 × K00) : Option (Bool) :=
 match p with
 | (a0,b1) =>
  ((
  (Kb3 a0) >>= fun a1 =>
  if a1 = true then
  (Kb3 b1) >>= fun a2 =>
  if a2 = true then
  some ((decide ((wr (a0.fSize * b1.fSize)) ≤ 16)))
  else
  some (false)
  else
  some (false)
  ) : Option (Bool)) >>= fun a3 =>
  some a3
def Kb7 (p : K00 × K00) (r : Bool) : Prop :=
 match p with
 | (a0,b1) => Q71 Tryz.prog 207 [K1t a0,K1t b1] (.bool r) []
theorem Kb8 : ∀ p r,Kb6 p = some r → Kb7 p r := by
 rintro ⟨a0,b1⟩ r h
 unfold Kb6 at h
 refine b0 Tryz.f207 K3w 19 [(0,K1t a0),(1,K1t b1)] fun c hc => ?_
 refine rs hc none [some (.new 1),some (.new 2),oN] [(2,.ra 1 0),(3,.ra 2 0)] [(1,K1s a0),(2,K1s b1)] tv ?_
 refine sN ?_
 obtain ⟨a1,a2,h⟩ := Qdd h
 refine Wp.into (x := .normal) (mkS [(4,.bool a1)] []) ?_ ?_
 ·replace h := a2
  obtain ⟨a3,a4,h⟩ := Qdd h
  rcases is h with ⟨a5,h⟩ | ⟨a5,h⟩
  ·obtain ⟨a6,a7,h⟩ := Qdd h
   rcases is h with ⟨a8,h⟩ | ⟨a8,h⟩
   ·refine rg hc none [oN,oc (.bool a3),oN,oN,oc (.bool a6),oT,oN,oN,oN,oN,oN,oN,oN,oT,oN] [(4,.bool (decide ((wr (a0.fSize * b1.fSize)) ≤ 16)))] [] (cq (Kb5 _ _ a4) K3v (ar 2 a5 (cq (Kb5 _ _ a7) K3v (ai a5 (ar 7 a8 tv))))) ?_
    obtain rfl := os h
    exact Qcz.mk
   refine rg hc none [oN,oc (.bool a3),oN,oN,oc (.bool a6),oT,oN,o_,o_,o_,o_,o_,o_,oF,oN] [(4,.bool false)] [] (cq (Kb5 _ _ a4) K3v (ar 2 a5 (cq (Kb5 _ _ a7) K3v (ai a5 (ar 6 (neT a8) (ai a8 tv)))))) ?_
   obtain rfl := os h
   exact Qcz.mk
  refine rg hc none [oN,oc (.bool a3),oN,o_,o_,oF,oN,o_,o_,o_,o_,o_,o_,oF,oN] [(4,.bool false)] [] (cq (Kb5 _ _ a4) K3v (ar 2 (neT a5) (ai a5 (ar 6 (neT (rfl : false = false)) (ai (rfl : false = false) tv))))) ?_
  obtain rfl := os h
  exact Qcz.mk
 clear a2
 refine rt ?_
 obtain rfl := os h
 exact rq [true]
def Kb9 (p : Int × Int) : Option (Int) :=
 match p with
 | (n0,g1) =>
  if (g1 == 0) = true then
  some 0
  else
  if (g1 == 1) = true then
  some 1
  else
  if (decide (g1 ≤ (wr (n0 + 1)))) = true then
  (chk (n0 ≠ 0)) >>= fun _ =>
  some (wr (Int.tdiv (wr (g1 - 1)) n0))
  else
  (chk (n0 ≠ 0)) >>= fun _ =>
  some (wr (Int.tdiv g1 n0))
def Kba (p : Int × Int) (r : Int) : Prop :=
 match p with
 | (n0,g1) => Q71 Tryz.prog 208 [I n0,I g1] (I r) []
theorem Kbb : ∀ p r,Kb9 p = some r → Kba p r := by
 rintro ⟨n0,g1⟩ r h
 unfold Kb9 at h
 refine b0 Tryz.f208 K3y 23 [(0,I n0),(1,I g1)] fun c hc => ?_
 refine rs0 hc 1 [(0,I n0),(1,I g1)] [] ?_
 refine sN ?_
 refine bk 0 ?_
 refine rs0 hc 3 [(0,I n0),(1,I g1),(5,.bool (g1 == 0))] [] ?_
 refine ic h (fun a0 h => ?_) fun a0 h => ?_
 ·refine rs0 hc 1 [(4,I 0)] [] ?_
  refine rt ?_
  obtain rfl := os h
  exact rq [true]
 refine rs0 hc 3 [(0,I n0),(1,I g1),(8,.bool (g1 == 1))] [] ?_
 refine ic h (fun a1 h => ?_) fun a1 h => ?_
 ·refine rs0 hc 1 [(4,I 1)] [] ?_
  refine rt ?_
  obtain rfl := os h
  exact rq [true]
 refine rs0 hc 5 [(0,I n0),(1,I g1),(11,.bool (decide (g1 ≤ (wr (n0 + 1)))))] [] ?_
 refine ic h (fun a2 h => ?_) fun a2 h => ?_
 ·obtain ⟨_,a3,h⟩ := Qdd h
  refine rs hc none [oN,oN,oN,oN,oN] [(4,I (wr (Int.tdiv (wr (g1 - 1)) n0)))] [] (ai (Qdf a3) tv) ?_
  refine rt ?_
  obtain rfl := os h
  exact rq [true]
 refine sk ?_
 obtain ⟨_,a4,h⟩ := Qdd h
 refine rs hc none [oN,oN,oN,oN] [(4,I (wr (Int.tdiv g1 n0)))] [] (ai (Qdf a4) tv) ?_
 refine rt ?_
 obtain rfl := os h
 exact rq [true]
def Kbc (p : Int × Int) : Option (Int) :=
 match p with
 | (n0,g1) =>
  if (decide (g1 < 2)) = true then
  some g1
  else
  if (decide (g1 ≤ (wr (n0 + 1)))) = true then
  (chk (n0 ≠ 0)) >>= fun _ =>
  some (Int.tmod (wr (g1 - 1)) n0)
  else
  (chk (n0 ≠ 0)) >>= fun _ =>
  some (Int.tmod g1 n0)
def Kbd (p : Int × Int) (r : Int) : Prop :=
 match p with
 | (n0,g1) => Q71 Tryz.prog 209 [I n0,I g1] (I r) []
theorem Kbe : ∀ p r,Kbc p = some r → Kbd p r := by
 rintro ⟨n0,g1⟩ r h
 unfold Kbc at h
 refine b0 Tryz.f209 K40 21 [(0,I n0),(1,I g1)] fun c hc => ?_
 refine rs0 hc 1 [(0,I n0),(1,I g1)] [] ?_
 refine sN ?_
 refine bk 0 ?_
 refine rs0 hc 3 [(0,I n0),(1,I g1),(5,.bool (decide (g1 < 2)))] [] ?_
 refine ic h (fun a0 h => ?_) fun a0 h => ?_
 ·refine rs0 hc 2 [(4,I g1)] [] ?_
  refine rt ?_
  obtain rfl := os h
  exact rq [true]
 refine rs0 hc 5 [(0,I n0),(1,I g1),(9,.bool (decide (g1 ≤ (wr (n0 + 1)))))] [] ?_
 refine ic h (fun a1 h => ?_) fun a1 h => ?_
 ·obtain ⟨_,a2,h⟩ := Qdd h
  refine rs hc none [oN,oN,oN,oN,oN] [(4,I (Int.tmod (wr (g1 - 1)) n0))] [] (ai (Qdf a2) tv) ?_
  refine rt ?_
  obtain rfl := os h
  exact rq [true]
 refine sk ?_
 obtain ⟨_,a3,h⟩ := Qdd h
 refine rs hc none [oN,oN,oN,oN] [(4,I (Int.tmod g1 n0))] [] (ai (Qdf a3) tv) ?_
 refine rt ?_
 obtain rfl := os h
 exact rq [true]
def Kbf (p : Int × Int × Int) : Option (Int) :=
 match p with
 | (n0,x1,y2) =>
  if ((wr ((wr (x1 * n0)) + y2)) == 0) = true then
  some 0
  else
  if ((wr ((wr (x1 * n0)) + y2)) == (wr (n0 + 1))) = true then
  some 1
  else
  if (decide ((wr ((wr (x1 * n0)) + y2)) < (wr (n0 + 1)))) = true then
  some (wr ((wr ((wr (x1 * n0)) + y2)) + 1))
  else
  some (wr ((wr (x1 * n0)) + y2))
def Kbg (p : Int × Int × Int) (r : Int) : Prop :=
 match p with
 | (n0,x1,y2) => Q71 Tryz.prog 210 [I n0,I x1,I y2] (I r) []
theorem Kbh : ∀ p r,Kbf p = some r → Kbg p r := by
 rintro ⟨n0,x1,y2⟩ r h
 unfold Kbf at h
 refine b0 Tryz.f210 K42 29 [(0,I n0),(1,I x1),(2,I y2)] fun c hc => ?_
 refine rs0 hc 1 [(0,I n0),(1,I x1),(2,I y2)] [] ?_
 refine rs0 hc 6 [(0,I n0),(7,I (wr ((wr (x1 * n0)) + y2)))] [] ?_
 refine sN ?_
 refine bk 0 ?_
 refine rs0 hc 3 [(0,I n0),(7,I (wr ((wr (x1 * n0)) + y2))),(13,.bool ((wr ((wr (x1 * n0)) + y2)) == 0))] [] ?_
 refine ic h (fun a0 h => ?_) fun a0 h => ?_
 ·refine rs0 hc 1 [(6,I 0)] [] ?_
  refine rt ?_
  obtain rfl := os h
  exact rq [true]
 refine rs0 hc 5 [(0,I n0),(7,I (wr ((wr (x1 * n0)) + y2))),(16,.bool ((wr ((wr (x1 * n0)) + y2)) == (wr (n0 + 1))))] [] ?_
 refine ic h (fun a1 h => ?_) fun a1 h => ?_
 ·refine rs0 hc 1 [(6,I 1)] [] ?_
  refine rt ?_
  obtain rfl := os h
  exact rq [true]
 refine rs0 hc 5 [(7,I (wr ((wr (x1 * n0)) + y2))),(21,.bool (decide ((wr ((wr (x1 * n0)) + y2)) < (wr (n0 + 1)))))] [] ?_
 refine ic h (fun a2 h => ?_) fun a2 h => ?_
 ·refine rs0 hc 3 [(6,I (wr ((wr ((wr (x1 * n0)) + y2)) + 1)))] [] ?_
  refine rt ?_
  obtain rfl := os h
  exact rq [true]
 refine sk ?_
 refine rs0 hc 2 [(6,I (wr ((wr (x1 * n0)) + y2)))] [] ?_
 refine rt ?_
 obtain rfl := os h
 exact rq [true]
def Kbi (c : Ctx) (a0 : K00) (b1 : K00) (a1 : Int) : (List Int) × (List Int) × (List Bool) → Exit → Q0a → Prop
 | (a2,a3,a4) => Qcz c (.exit 2) (mkS [(2,.ra 1 0),(3,.ra 2 0),(4,.ra 3 0),(6,I b1.fSize),(7,.ra 4 0),(8,I a1)] [(1,K1s a0),(2,K1s b1),(3,.box [I 0,.nils,.nils,.nils]),(4,.box [I (wr (a0.fSize * b1.fSize)),.rs 29,.rs 30,.rs 31]),(29,rI a2),(30,rI a3),(31,.arr (List.map AV.bool a4))])
def Kbj (p : K00 × K00 × Int × (List Int) × (List Int) × (List Bool) × Int) : Option ((List Int) × (List Int) × (List Bool)) :=
 match p with
 | (a0,b1,a1,a2,a3,a4,a5) =>
  if (decide (a5 < (wr (a0.fSize * b1.fSize)))) = true then
  (Kb9 (b1.fSize,a1)) >>= fun a6 =>
  (Kbc (b1.fSize,a1)) >>= fun a7 =>
  (Kb9 (b1.fSize,a5)) >>= fun a8 =>
  (Kbc (b1.fSize,a5)) >>= fun a9 =>
  (K9s (a0,a6,a8)) >>= fun b2 =>
  (K9s (b1,a7,a9)) >>= fun b3 =>
  (Kbf (b1.fSize,b2,b3)) >>= fun b4 =>
  (Qdq (a2.length + [b4].length) 8) >>= fun _ =>
  (K9z (a0,a6,a8)) >>= fun b5 =>
  (K9z (b1,a7,a9)) >>= fun b6 =>
  (Kbf (b1.fSize,b5,b6)) >>= fun b7 =>
  (Qdq (a3.length + [b7].length) 8) >>= fun _ =>
  ((
  (Ka2 (a0,a6,a8)) >>= fun b8 =>
  if b8 = true then
  (Ka2 (b1,a7,a9)) >>= fun b9 =>
  (Qdq (a4.length + [b9].length) 1) >>= fun _ =>
  some ((a4 ++ [b9]))
  else
  (Qdq (a4.length + [false].length) 1) >>= fun _ =>
  some ((a4 ++ [false]))
  ) : Option ((List Bool))) >>= fun c0 =>
  Kbj (a0,b1,a1,(a2 ++ [b4]),(a3 ++ [b7]),c0,(wr (a5 + 1)))
  else
  some ((a2,a3,a4))
 partial_fixpoint
def Kbk (p : K00 × K00 × Int × (List Int) × (List Int) × (List Bool) × Int) (fl : (List Int) × (List Int) × (List Bool)) : Prop :=
 match p with
 | (a0,b1,a1,a2,a3,a4,a5) => ∀ c : Ctx,c.nt = 96 → WpL Tryz.prog c (cl (cl (cr (cl (cl (cr (cl (cl (cr (cl (cr (cr (cr (cr K44)))))))))))))) (Kbi c a0 b1 a1 fl) (mkS [(2,.ra 1 0),(3,.ra 2 0),(4,.ra 3 0),(6,I b1.fSize),(7,.ra 4 0),(8,I a1),(9,I a5)] [(1,K1s a0),(2,K1s b1),(3,.box [I 0,.nils,.nils,.nils]),(4,.box [I (wr (a0.fSize * b1.fSize)),.rs 29,.rs 30,.rs 31]),(29,rI a2),(30,rI a3),(31,.arr (List.map AV.bool a4))])
theorem Kbl : ∀ p r,Kbj p = some r → Kbk p r := by
 refine Kbj.partial_correctness Kbk ?_
 rintro spec_ProductSystem_l0_f spec_ProductSystem_l0_ih ⟨a0,b1,a1,a2,a3,a4,a5⟩ r h
 intro c hc
 refine WpL.step ?_
 refine sN ?_
 refine K82 hc 4 [(2,.ra 1 0),(3,.ra 2 0),(4,.ra 3 0),(6,I b1.fSize),(7,.ra 4 0),(8,I a1),(9,I a5),(35,.bool (decide (a5 < (wr (a0.fSize * b1.fSize)))))] ?_
 refine ic h (fun a6 h => ?_) fun a6 h => ?_
 ·refine sk ?_
  refine sN ?_
  refine bk 3 ?_
  obtain ⟨a7,a8,h⟩ := Qdd h
  refine rss hc none [oN,oN,oc (I a7),oN] [(2,.ra 1 0),(3,.ra 2 0),(4,.ra 3 0),(6,I b1.fSize),(7,.ra 4 0),(8,I a1),(9,I a5),(10,I a7)] (cq (Kbb _ _ a8) K3z tv) ?_
  obtain ⟨a9,b2,h⟩ := Qdd h
  refine rss hc none [oN,oN,oc (I a9),oN] [(2,.ra 1 0),(3,.ra 2 0),(4,.ra 3 0),(6,I b1.fSize),(7,.ra 4 0),(8,I a1),(9,I a5),(10,I a7),(11,I a9)] (cq (Kbe _ _ b2) K41 tv) ?_
  obtain ⟨b3,b4,h⟩ := Qdd h
  refine rss hc none [oN,oN,oc (I b3),oN] [(2,.ra 1 0),(3,.ra 2 0),(4,.ra 3 0),(6,I b1.fSize),(7,.ra 4 0),(8,I a1),(9,I a5),(10,I a7),(11,I a9),(12,I b3)] (cq (Kbb _ _ b4) K3z tv) ?_
  obtain ⟨b5,b6,h⟩ := Qdd h
  refine rss hc none [oN,oN,oc (I b5),oN] [(2,.ra 1 0),(3,.ra 2 0),(4,.ra 3 0),(6,I b1.fSize),(7,.ra 4 0),(8,I a1),(9,I a5),(10,I a7),(11,I a9),(12,I b3),(13,I b5)] (cq (Kbe _ _ b6) K41 tv) ?_
  obtain ⟨b7,b8,b9,c0,c1,c2,_,c3,h⟩ := bq4 h
  refine rs hc Kau [oN,oN,oN,oN,oN,oN,oc (I b7),oN,oN,oN,oc (I b9),oc (I c1),some (.mk 50 true),some (.eqv (.mk 51 true) ⟨[(63,.rs 51)],[(51,some (rI (a2 ++ [c1]))),(29,none),(50,none)],[51]⟩),oN,oN] [(2,.ra 1 0),(3,.ra 2 0),(4,.ra 3 0),(6,I b1.fSize),(7,.ra 4 0),(8,I a1),(9,I a5),(10,I a7),(11,I a9),(12,I b3),(13,I b5)] [(1,K1s a0),(2,K1s b1),(3,.box [I 0,.nils,.nils,.nils]),(4,.box [I (wr (a0.fSize * b1.fSize)),.rs 51,.rs 30,.rs 31]),(30,rI a3),(31,.arr (List.map AV.bool a4)),(51,rI (a2 ++ [c1]))] (cq (K9u _ _ b8) K3i (cq (K9u _ _ c0) K3i (cq (Kbh _ _ c2) K43 (ab (congrArg (fun z => (⟨[(63,.rs 51)],[(51,some (.arr z)),(29,none),(50,none)],[51]⟩ : Wr)) ((List.map_append).symm : (List.map I a2) ++ (List.map I [c1]) = List.map I (a2 ++ [c1]))) (Qdr (enc1 := I) (enc2 := I) (e1 := a2) (e2 := [c1]) (sz := 1) Qe0 Qe0 c3) tv)))) ?_
  obtain ⟨c4,c5,c6,c7,c8,c9,_,d0,h⟩ := bq4 h
  refine rs hc Kau [oN,oN,oN,oN,oN,oN,oc (I c4),oN,oN,oN,oc (I c6),oc (I c8),some (.mk 52 true),some (.eqv (.mk 53 true) ⟨[(78,.rs 53)],[(53,some (rI (a3 ++ [c8]))),(30,none),(52,none)],[53]⟩),oN,oN] [(2,.ra 1 0),(3,.ra 2 0),(4,.ra 3 0),(6,I b1.fSize),(7,.ra 4 0),(8,I a1),(9,I a5),(10,I a7),(11,I a9),(12,I b3),(13,I b5)] [(1,K1s a0),(2,K1s b1),(3,.box [I 0,.nils,.nils,.nils]),(4,.box [I (wr (a0.fSize * b1.fSize)),.rs 51,.rs 53,.rs 31]),(31,.arr (List.map AV.bool a4)),(51,rI (a2 ++ [c1])),(53,rI (a3 ++ [c8]))] (cq (Ka1 _ _ c5) K3k (cq (Ka1 _ _ c7) K3k (cq (Kbh _ _ c9) K43 (ab (congrArg (fun z => (⟨[(78,.rs 53)],[(53,some (.arr z)),(30,none),(52,none)],[53]⟩ : Wr)) ((List.map_append).symm : (List.map I a3) ++ (List.map I [c8]) = List.map I (a3 ++ [c8]))) (Qdr (enc1 := I) (enc2 := I) (e1 := a3) (e2 := [c8]) (sz := 1) Qe0 Qe0 d0) tv)))) ?_
  obtain ⟨d1,d2,h⟩ := Qdd h
  refine Wp.into (x := .normal) (mkS [(2,.ra 1 0),(3,.ra 2 0),(4,.ra 3 0),(6,I b1.fSize),(7,.ra 4 0),(8,I a1),(9,I a5)] [(1,K1s a0),(2,K1s b1),(3,.box [I 0,.nils,.nils,.nils]),(4,.box [I (wr (a0.fSize * b1.fSize)),.rs 51,.rs 53,.rs 55]),(51,rI (a2 ++ [c1])),(53,rI (a3 ++ [c8])),(55,.arr (List.map AV.bool d1))]) ?_ ?_
  ·replace h := d2
   obtain ⟨d3,d4,h⟩ := Qdd h
   rcases is h with ⟨d5,h⟩ | ⟨d5,h⟩
   ·obtain ⟨d6,d7,_,d8,h⟩ := bq2 h
    refine rg hc Kav [oN,oN,oN,oN,oN,oc (.bool d3),oN,oN,oN,oN,oc (.bool d6),oT,some (.mk 54 true),some (.eqv (.mk 55 true) ⟨[(93,.rs 55)],[(55,some (.arr (List.map AV.bool (a4 ++ [d6])))),(31,none),(54,none)],[55]⟩),oN,oN] [(2,.ra 1 0),(3,.ra 2 0),(4,.ra 3 0),(6,I b1.fSize),(7,.ra 4 0),(8,I a1),(9,I a5)] [(1,K1s a0),(2,K1s b1),(3,.box [I 0,.nils,.nils,.nils]),(4,.box [I (wr (a0.fSize * b1.fSize)),.rs 51,.rs 53,.rs 55]),(51,rI (a2 ++ [c1])),(53,rI (a3 ++ [c8])),(55,.arr (List.map AV.bool (a4 ++ [d6])))] (cq (Ka4 _ _ d4) K3m (ar 4 d5 (cq (Ka4 _ _ d7) K3m (ac d5 (congrArg (fun z => (⟨[(93,.rs 55)],[(55,some (.arr z)),(31,none),(54,none)],[55]⟩ : Wr)) ((List.map_append).symm : (List.map AV.bool a4) ++ (List.map AV.bool [d6]) = List.map AV.bool (a4 ++ [d6]))) (Qdr (enc1 := AV.bool) (enc2 := AV.bool) (e1 := a4) (e2 := [d6]) (sz := 1) Qe2 Qe2 d8) tv)))) ?_
    obtain rfl := os h
    exact Qcz.mk
   obtain ⟨_,d8,h⟩ := Qdd h
   refine rg hc Kav [oN,oN,oN,oN,oN,oc (.bool d3),oN,o_,o_,o_,o_,oF,some (.mk 54 true),some (.eqv (.mk 55 true) ⟨[(93,.rs 55)],[(55,some (.arr (List.map AV.bool (a4 ++ [false])))),(31,none),(54,none)],[55]⟩),oN,oN] [(2,.ra 1 0),(3,.ra 2 0),(4,.ra 3 0),(6,I b1.fSize),(7,.ra 4 0),(8,I a1),(9,I a5)] [(1,K1s a0),(2,K1s b1),(3,.box [I 0,.nils,.nils,.nils]),(4,.box [I (wr (a0.fSize * b1.fSize)),.rs 51,.rs 53,.rs 55]),(51,rI (a2 ++ [c1])),(53,rI (a3 ++ [c8])),(55,.arr (List.map AV.bool (a4 ++ [false])))] (cq (Ka4 _ _ d4) K3m (ar 4 (neT d5) (ac d5 (congrArg (fun z => (⟨[(93,.rs 55)],[(55,some (.arr z)),(31,none),(54,none)],[55]⟩ : Wr)) ((List.map_append).symm : (List.map AV.bool a4) ++ (List.map AV.bool [false]) = List.map AV.bool (a4 ++ [false]))) (Qdr (enc1 := AV.bool) (enc2 := AV.bool) (e1 := a4) (e2 := [false]) (sz := 1) Qe2 Qe2 d8) tv))) ?_
   obtain rfl := os h
   exact Qcz.mk
  clear d2
  refine K81 hc 3 [(2,.ra 1 0),(3,.ra 2 0),(4,.ra 3 0),(6,I b1.fSize),(7,.ra 4 0),(8,I a1),(9,I (wr (a5 + 1)))] ?_
  refine Qcv ?_
  exact WpL.view (fun a w hv => SRx.renL [(29,51),(30,53),(31,55)] hv (by kernel_rfl) (by kernel_rfl) (by kernel_rfl)) (spec_ProductSystem_l0_ih _ _ h c hc)
 refine xt 2 ?_
 refine Qcp ?_
 refine Qcw ?_
 obtain ⟨rfl,hq0⟩ := Prod.mk.inj (Option.some.inj h)
 obtain ⟨rfl,rfl⟩ := Prod.mk.inj (hq0)
 exact iv []
def Kbm (c : Ctx) (a0 : K00) (b1 : K00) : (List Int) × (List Int) × (List Bool) → Exit → Q0a → Prop
 | (a1,a2,a3) => Qcz c (.exit 0) (mkS [(4,.ra 3 0),(7,.ra 4 0)] [(3,.box [I 0,.nils,.nils,.nils]),(4,.box [I (wr (a0.fSize * b1.fSize)),.rs 29,.rs 30,.rs 31]),(29,rI a1),(30,rI a2),(31,.arr (List.map AV.bool a3))])
def Kbn (p : K00 × K00 × (List Int) × (List Int) × (List Bool) × Int) : Option ((List Int) × (List Int) × (List Bool)) :=
 match p with
 | (a0,b1,a1,a2,a3,a4) =>
  if (decide (a4 < (wr (a0.fSize * b1.fSize)))) = true then
  (Kbj (a0,b1,a4,a1,a2,a3,0)) >>= fun (a5,a6,a7) =>
  Kbn (a0,b1,a5,a6,a7,(wr (a4 + 1)))
  else
  some ((a1,a2,a3))
 partial_fixpoint
def Kbo (p : K00 × K00 × (List Int) × (List Int) × (List Bool) × Int) (fl : (List Int) × (List Int) × (List Bool)) : Prop :=
 match p with
 | (a0,b1,a1,a2,a3,a4) => ∀ c : Ctx,c.nt = 96 → WpL Tryz.prog c (cl (cl (cr (cl (cr (cr (cr (cr K44)))))))) (Kbm c a0 b1 fl) (mkS [(2,.ra 1 0),(3,.ra 2 0),(4,.ra 3 0),(6,I b1.fSize),(7,.ra 4 0),(8,I a4)] [(1,K1s a0),(2,K1s b1),(3,.box [I 0,.nils,.nils,.nils]),(4,.box [I (wr (a0.fSize * b1.fSize)),.rs 29,.rs 30,.rs 31]),(29,rI a1),(30,rI a2),(31,.arr (List.map AV.bool a3))])
theorem Kbp : ∀ p r,Kbn p = some r → Kbo p r := by
 refine Kbn.partial_correctness Kbo ?_
 rintro spec_ProductSystem_l1_f spec_ProductSystem_l1_ih ⟨a0,b1,a1,a2,a3,a4⟩ r h
 intro c hc
 refine WpL.step ?_
 refine sN ?_
 refine K82 hc 4 [(2,.ra 1 0),(3,.ra 2 0),(4,.ra 3 0),(6,I b1.fSize),(7,.ra 4 0),(8,I a4),(29,.bool (decide (a4 < (wr (a0.fSize * b1.fSize)))))] ?_
 refine ic h (fun a5 h => ?_) fun a5 h => ?_
 ·refine sk ?_
  refine sN ?_
  refine bk 1 ?_
  refine K82 hc 1 [(2,.ra 1 0),(3,.ra 2 0),(4,.ra 3 0),(6,I b1.fSize),(7,.ra 4 0),(8,I a4),(9,I 0)] ?_
  refine bk 2 ?_
  obtain ⟨⟨a6,a7,a8⟩,a9,h⟩ := Qdd h
  have hL := Kbl _ _ a9 c hc
  refine lp ?_
  refine WpL.into (e := (.exit 2)) (mkS [(2,.ra 1 0),(3,.ra 2 0),(4,.ra 3 0),(6,I b1.fSize),(7,.ra 4 0),(8,I a4)] [(1,K1s a0),(2,K1s b1),(3,.box [I 0,.nils,.nils,.nils]),(4,.box [I (wr (a0.fSize * b1.fSize)),.rs 29,.rs 30,.rs 31]),(29,rI a6),(30,rI a7),(31,.arr (List.map AV.bool a8))]) hL ?_
  refine Qcr ?_
  refine K81 hc 3 [(2,.ra 1 0),(3,.ra 2 0),(4,.ra 3 0),(6,I b1.fSize),(7,.ra 4 0),(8,I (wr (a4 + 1)))] ?_
  refine Qcv ?_
  exact (spec_ProductSystem_l1_ih _ _ h c hc)
 refine xt 0 ?_
 refine Qcp ?_
 refine Qcw ?_
 obtain ⟨rfl,hq0⟩ := Prod.mk.inj (Option.some.inj h)
 obtain ⟨rfl,rfl⟩ := Prod.mk.inj (hq0)
 exact iv []
def Kbq (p : K00 × K00) : Option (K00 × Bool) :=
 match p with
 | (a0,b1) =>
  (Kb6 (a0,b1)) >>= fun a1 =>
  if a1 = true then
  (Kbn (a0,b1,[],[],[],0)) >>= fun (a2,a3,a4) =>
  some ((K00.mk (wr (a0.fSize * b1.fSize)) a2 a3 a4),true)
  else
  some ((K00.mk 0 [] [] []),false)
def Kbr (p : K00 × K00) (r : K00 × Bool) : Prop :=
 match p with
 | (a0,b1) => Q71 Tryz.prog 154 [K1t a0,K1t b1] (.tup [.agg [I r.1.fSize,.osl (List.map I r.1.fPlus),.osl (List.map I r.1.fTimes),.osl (List.map AV.bool r.1.fBelow)],.bool r.2]) []
theorem Kbs : ∀ p r,Kbq p = some r → Kbr p r := by
 rintro ⟨a0,b1⟩ r h
 unfold Kbq at h
 refine b0 Tryz.f154 K44 96 [(0,K1t a0),(1,K1t b1)] fun c hc => ?_
 refine rs hc none [some (.new 1),some (.new 2),some (.new 3),oN] [(2,.ra 1 0),(3,.ra 2 0),(4,.ra 3 0)] [(1,K1s a0),(2,K1s b1),(3,.box [I 0,.nils,.nils,.nils])] tv ?_
 refine sN ?_
 obtain ⟨a1,a2,h⟩ := Qdd h
 refine rss hc none [oN,oN,oc (.bool a1),oN] [(2,.ra 1 0),(3,.ra 2 0),(4,.ra 3 0),(17,.bool (!a1))] (cq (Kb8 _ _ a2) K3x tv) ?_
 rcases is h with ⟨a3,h⟩ | ⟨a3,h⟩
 ·refine cF (!a1) (nF a3) ?_
  refine sk ?_
  refine K82 hc 3 [(2,.ra 1 0),(3,.ra 2 0),(4,.ra 3 0),(6,I b1.fSize)] ?_
  refine rs hc none [oN,oN,oN,oN,oN,some (.new 4),oN] [(2,.ra 1 0),(3,.ra 2 0),(4,.ra 3 0),(6,I b1.fSize),(7,.ra 4 0)] [(1,K1s a0),(2,K1s b1),(3,.box [I 0,.nils,.nils,.nils]),(4,.box [I (wr (a0.fSize * b1.fSize)),.nils,.nils,.nils])] tv ?_
  refine sN ?_
  refine K82 hc 1 [(2,.ra 1 0),(3,.ra 2 0),(4,.ra 3 0),(6,I b1.fSize),(7,.ra 4 0),(8,I 0)] ?_
  refine bk 0 ?_
  obtain ⟨⟨a4,a5,a6⟩,a7,h⟩ := Qdd h
  have hL := Kbp _ _ a7 c hc
  refine Wp.loopN (by kernel_rfl) (WpL.view (fun a w hv => SRx.renL [(29,56),(30,57),(31,58)] (SRx.nilBL 4 3 58 [I (wr (a0.fSize * b1.fSize)),.rs 56,.rs 57,.nils] (SRx.nilBL 4 2 57 [I (wr (a0.fSize * b1.fSize)),.rs 56,.nils,.nils] (SRx.nilBL 4 1 56 [I (wr (a0.fSize * b1.fSize)),.nils,.nils,.nils] hv (by kernel_rfl) (by kernel_rfl) (by kernel_rfl)) (by kernel_rfl) (by kernel_rfl) (by kernel_rfl)) (by kernel_rfl) (by kernel_rfl) (by kernel_rfl)) (by kernel_rfl) (by kernel_rfl) (by kernel_rfl)) (?_ : WpL _ c _ _ (mkS [(2,.ra 1 0),(3,.ra 2 0),(4,.ra 3 0),(6,I b1.fSize),(7,.ra 4 0),(8,I 0)] [(1,K1s a0),(2,K1s b1),(3,.box [I 0,.nils,.nils,.nils]),(4,.box [I (wr (a0.fSize * b1.fSize)),.rs 29,.rs 30,.rs 31]),(29,.arr (List.map I [])),(30,.arr (List.map I [])),(31,.arr (List.map AV.bool []))])))
  refine WpL.into (e := (.exit 0)) (mkS [(4,.ra 3 0),(7,.ra 4 0)] [(3,.box [I 0,.nils,.nils,.nils]),(4,.box [I (wr (a0.fSize * b1.fSize)),.rs 29,.rs 30,.rs 31]),(29,rI a4),(30,rI a5),(31,.arr (List.map AV.bool a6))]) hL ?_
  refine Qcr ?_
  refine rs0 hc 3 [(4,.ra 3 0),(5,.bool true)] [(3,.box [I (wr (a0.fSize * b1.fSize)),.rs 29,.rs 30,.rs 31]),(29,rI a4),(30,rI a5),(31,.arr (List.map AV.bool a6))] ?_
  refine rt ?_
  obtain rfl := os h
  exact rq [true,true]
 refine cT (!a1) (nT a3) ?_
 refine rs0 hc 3 [(4,.ra 3 0),(5,.bool false)] [(3,.box [I 0,.nils,.nils,.nils])] ?_
 refine rt ?_
 obtain rfl := os h
 exact rq [true,true]
def Kbt (c0 : K01) : Option (K00 × K01) :=
 (K8h (c0,3)) >>= fun (a0,a1) =>
 (K91 (wr (1 + a0))) >>= fun a2 =>
 (K8h (a1,8)) >>= fun (a3,a4) =>
 ((
 if (a3 == 0) = true then
 some ((a3 == 0))
 else
 ((
 if (a3 == 1) = true then
 some ((a3 == 1))
 else
 some ((a3 == 2))
 ) : Option (Bool)) >>= fun a5 =>
 some (a5)
 ) : Option (Bool)) >>= fun a6 =>
 ((
 if a6 = true then
 (K94 (wr (1 + a0))) >>= fun a7 =>
 some ((a7.fSize,a7.fPlus,a7.fTimes,a7.fBelow,a4.fb,a4.fi,a4.fh))
 else
 ((
 if (a3 == 3) = true then
 some ((a3 == 3))
 else
 some ((a3 == 4))
 ) : Option (Bool)) >>= fun a8 =>
 ((
 if a8 = true then
 (K9i (wr (1 + a0))) >>= fun a9 =>
 some ((a9.fSize,a9.fPlus,a9.fTimes,a9.fBelow,a4.fb,a4.fi,a4.fh))
 else
 ((
 if (a3 == 5) = true then
 (K94 1) >>= fun b1 =>
 (K8h (a4,2)) >>= fun (b2,b3) =>
 (K9i (wr (1 + b2))) >>= fun b4 =>
 (Kbq (b1,b4)) >>= fun (b5,b6) =>
 some ((b5.fSize,b5.fPlus,b5.fTimes,b5.fBelow,b3.fb,b3.fi,b3.fh))
 else
 some ((a2.fSize,a2.fPlus,a2.fTimes,a2.fBelow,a4.fb,a4.fi,a4.fh))
 ) : Option (Int × (List Int) × (List Int) × (List Bool) × (List Int) × Int × Int)) >>= fun (b7,b8,b9,c1,c2,c3,c4) =>
 some ((b7,b8,b9,c1,c2,c3,c4))
 ) : Option (Int × (List Int) × (List Int) × (List Bool) × (List Int) × Int × Int)) >>= fun (c5,c6,c7,c8,c9,d0,d1) =>
 some ((c5,c6,c7,c8,c9,d0,d1))
 ) : Option (Int × (List Int) × (List Int) × (List Bool) × (List Int) × Int × Int)) >>= fun (d2,d3,d4,d5,d6,d7,d8) =>
 some ((K00.mk d2 d3 d4 d5),(K01.mk d6 d7 d8))
def Kbu (c0 : K01) (r : K00 × K01) : Prop :=
 Q71 Tryz.prog 72 [.optr [.sl (List.map U8 c0.fb),I c0.fi,I c0.fh]] (.agg [I r.1.fSize,.osl (List.map I r.1.fPlus),.osl (List.map I r.1.fTimes),.osl (List.map AV.bool r.1.fBelow)]) [.optr [.sl (List.map U8 r.2.fb),I r.2.fi,I r.2.fh]]
theorem Kbv : ∀ p r,Kbt p = some r → Kbu p r := by
 rintro c0 r h
 unfold Kbt at h
 refine Q71.bodyO K2w (fn := Tryz.f72) (code := B72) (by kernel_rfl) (by kernel_rfl) (by kernel_rfl) (nt := 35) (by kernel_rfl) (by kernel_rfl) (T := [(0,.ra 1000 0)]) (O := [(1000,K1u c0)]) (by kernel_rfl) (by kernel_rfl) (fun c hc => ?_)
 refine rs hc none [some (.new 1)] [(0,.ra 1000 0),(2,.ra 1 0)] [(1,.box [I 0,.nils,.nils,.nils]),(1000,K1u c0)] tv ?_
 obtain ⟨⟨a0,a1⟩,a2,h⟩ := Qdd h
 refine rs hc none [oN,some (.call (I a0) [.optr [.sl (List.map U8 a1.fb),I a1.fi,I a1.fh],.undef] 1),oN,oN] [(0,.ra 1000 0),(2,.ra 1 0),(3,I (wr (1 + a0)))] [(1,.box [I 0,.nils,.nils,.nils]),(1000,K1u a1)] (ab (K8j _ _ a2) K31 tv) ?_
 obtain ⟨a3,a4,h⟩ := Qdd h
 refine rs hc none [oN,some (.call (K22 a3) [] 2),some (.new 5),oN] [(0,.ra 1000 0),(2,.ra 1 0),(3,I (wr (1 + a0))),(4,.ra 5 0)] [(1,.box [I 0,.nils,.nils,.nils]),(2,rI a3.fPlus),(3,rI a3.fTimes),(4,.arr (List.map AV.bool a3.fBelow)),(5,.box [I a3.fSize,.rs 2,.rs 3,.rs 4]),(1000,K1u a1)] (cq (K93 _ _ a4) K39 tv) ?_
 refine sN ?_
 obtain ⟨⟨a5,a6⟩,a7,h⟩ := Qdd h
 refine rs hc none [oN,some (.call (I a5) [.optr [.sl (List.map U8 a6.fb),I a6.fi,I a6.fh],.undef] 1)] [(0,.ra 1000 0),(2,.ra 1 0),(3,I (wr (1 + a0))),(4,.ra 5 0),(11,I a5)] [(1,.box [I 0,.nils,.nils,.nils]),(2,rI a3.fPlus),(3,rI a3.fTimes),(4,.arr (List.map AV.bool a3.fBelow)),(5,.box [I a3.fSize,.rs 2,.rs 3,.rs 4]),(1000,K1u a6)] (ab (K8j _ _ a7) K31 tv) ?_
 refine bk 0 ?_
 refine sN ?_
 refine K82 hc 2 [(0,.ra 1000 0),(2,.ra 1 0),(3,I (wr (1 + a0))),(4,.ra 5 0),(11,I a5),(12,.bool (a5 == 0))] ?_
 obtain ⟨a8,a9,h⟩ := Qdd h
 refine Wp.into (x := .normal) (mkS [(0,.ra 1000 0),(2,.ra 1 0),(3,I (wr (1 + a0))),(4,.ra 5 0),(11,I a5),(12,.bool a8)] [(1,.box [I 0,.nils,.nils,.nils]),(2,rI a3.fPlus),(3,rI a3.fTimes),(4,.arr (List.map AV.bool a3.fBelow)),(5,.box [I a3.fSize,.rs 2,.rs 3,.rs 4]),(1000,K1u a6)]) ?_ ?_
 ·replace h := a9
  refine ic h (fun b1 h => ?_) fun b1 h => ?_
  ·refine sk ?_
   obtain rfl := os h
   exact Qcz.mk
  refine K82 hc 2 [(0,.ra 1000 0),(2,.ra 1 0),(3,I (wr (1 + a0))),(4,.ra 5 0),(11,I a5),(12,.bool (a5 == 1))] ?_
  obtain ⟨b2,b3,h⟩ := Qdd h
  refine Wp.into (x := .normal) (mkS [(0,.ra 1000 0),(2,.ra 1 0),(3,I (wr (1 + a0))),(4,.ra 5 0),(11,I a5),(12,.bool b2)] [(1,.box [I 0,.nils,.nils,.nils]),(2,rI a3.fPlus),(3,rI a3.fTimes),(4,.arr (List.map AV.bool a3.fBelow)),(5,.box [I a3.fSize,.rs 2,.rs 3,.rs 4]),(1000,K1u a6)]) ?_ ?_
  ·replace h := b3
   refine ic h (fun b4 h => ?_) fun b4 h => ?_
   ·refine sk ?_
    obtain rfl := os h
    exact Qcz.mk
   refine K81 hc 2 [(0,.ra 1000 0),(2,.ra 1 0),(3,I (wr (1 + a0))),(4,.ra 5 0),(11,I a5),(12,.bool (a5 == 2))] ?_
   obtain rfl := os h
   exact Qcz.mk
  clear b3
  obtain rfl := os h
  exact Qcz.mk
 clear a9
 obtain ⟨⟨b5,b6,b7,b8,b9,c1,c2⟩,c3,h⟩ := Qdd h
 refine Wp.into (x := .normal) (mkS [(2,.ra 1 0),(4,.ra 5 0)] [(1,.box [I 0,.nils,.nils,.nils]),(5,.box [I b5,.rs 6,.rs 7,.rs 8]),(6,rI b6),(7,rI b7),(8,.arr (List.map AV.bool b8)),(1000,.box [.sl (List.map U8 b9),I c1,I c2])]) ?_ ?_
 ·replace h := c3
  refine ic h (fun c4 h => ?_) fun c4 h => ?_
  ·obtain ⟨c5,c6,h⟩ := Qdd h
   refine rg hc none [oN,some (.call (K22 c5) [] 6),oN] [(2,.ra 1 0),(4,.ra 5 0)] [(1,.box [I 0,.nils,.nils,.nils]),(5,.box [I c5.fSize,.rs 6,.rs 7,.rs 8]),(6,rI c5.fPlus),(7,rI c5.fTimes),(8,.arr (List.map AV.bool c5.fBelow)),(1000,K1u a6)] (cq (K96 _ _ c6) K3a tv) ?_
   obtain ⟨rfl,hq0⟩ := Prod.mk.inj (Option.some.inj h)
   obtain ⟨rfl,hq1⟩ := Prod.mk.inj (hq0)
   obtain ⟨rfl,hq2⟩ := Prod.mk.inj (hq1)
   obtain ⟨rfl,hq3⟩ := Prod.mk.inj (hq2)
   obtain ⟨rfl,hq4⟩ := Prod.mk.inj (hq3)
   obtain ⟨rfl,rfl⟩ := Prod.mk.inj (hq4)
   exact Qcz.mk
  refine sN ?_
  refine K82 hc 2 [(0,.ra 1000 0),(2,.ra 1 0),(3,I (wr (1 + a0))),(4,.ra 5 0),(11,I a5),(18,.bool (a5 == 3))] ?_
  obtain ⟨c7,c8,h⟩ := Qdd h
  refine Wp.into (x := .normal) (mkS [(0,.ra 1000 0),(2,.ra 1 0),(3,I (wr (1 + a0))),(4,.ra 5 0),(11,I a5),(18,.bool c7)] [(1,.box [I 0,.nils,.nils,.nils]),(2,rI a3.fPlus),(3,rI a3.fTimes),(4,.arr (List.map AV.bool a3.fBelow)),(5,.box [I a3.fSize,.rs 2,.rs 3,.rs 4]),(1000,K1u a6)]) ?_ ?_
  ·replace h := c8
   refine ic h (fun c9 h => ?_) fun c9 h => ?_
   ·refine sk ?_
    obtain rfl := os h
    exact Qcz.mk
   refine K81 hc 2 [(0,.ra 1000 0),(2,.ra 1 0),(3,I (wr (1 + a0))),(4,.ra 5 0),(11,I a5),(18,.bool (a5 == 4))] ?_
   obtain rfl := os h
   exact Qcz.mk
  clear c8
  obtain ⟨⟨d0,d1,d2,d3,d4,d5,d6⟩,d7,h⟩ := Qdd h
  refine Wp.into (x := .normal) (mkS [(2,.ra 1 0),(4,.ra 5 0)] [(1,.box [I 0,.nils,.nils,.nils]),(5,.box [I d0,.rs 9,.rs 10,.rs 11]),(9,rI d1),(10,rI d2),(11,.arr (List.map AV.bool d3)),(1000,.box [.sl (List.map U8 d4),I d5,I d6])]) ?_ ?_
  ·replace h := d7
   refine ic h (fun d8 h => ?_) fun d8 h => ?_
   ·obtain ⟨d9,e0,h⟩ := Qdd h
    refine rg hc none [oN,some (.call (K22 d9) [] 9),oN] [(2,.ra 1 0),(4,.ra 5 0)] [(1,.box [I 0,.nils,.nils,.nils]),(5,.box [I d9.fSize,.rs 9,.rs 10,.rs 11]),(9,rI d9.fPlus),(10,rI d9.fTimes),(11,.arr (List.map AV.bool d9.fBelow)),(1000,K1u a6)] (cq (K9k _ _ e0) K3e tv) ?_
    obtain ⟨rfl,hq0⟩ := Prod.mk.inj (Option.some.inj h)
    obtain ⟨rfl,hq1⟩ := Prod.mk.inj (hq0)
    obtain ⟨rfl,hq2⟩ := Prod.mk.inj (hq1)
    obtain ⟨rfl,hq3⟩ := Prod.mk.inj (hq2)
    obtain ⟨rfl,hq4⟩ := Prod.mk.inj (hq3)
    obtain ⟨rfl,rfl⟩ := Prod.mk.inj (hq4)
    exact Qcz.mk
   refine K82 hc 2 [(0,.ra 1000 0),(2,.ra 1 0),(4,.ra 5 0),(23,.bool (a5 == 5))] ?_
   obtain ⟨⟨e1,e2,e3,e4,e5,e6,e7⟩,e8,h⟩ := Qdd h
   refine Wp.into (x := .normal) (mkS [(2,.ra 1 0),(4,.ra 5 0)] [(1,.box [I 0,.nils,.nils,.nils]),(5,.box [I e1,.rs 18,.rs 19,.rs 20]),(18,rI e2),(19,rI e3),(20,.arr (List.map AV.bool e4)),(1000,.box [.sl (List.map U8 e5),I e6,I e7])]) ?_ ?_
   ·replace h := e8
    refine ic h (fun e9 h => ?_) fun e9 h => ?_
    ·obtain ⟨f0,f1,⟨f2,f3⟩,f4,h⟩ := bq2 h
     obtain ⟨f5,f6,⟨f7,f8⟩,f9,h⟩ := bq2 h
     refine rg hc none [some (.call (K22 f0) [] 12),oN,some (.call (I f2) [.optr [.sl (List.map U8 f3.fb),I f3.fi,I f3.fh],.undef] 1),oN,some (.call (K22 f5) [] 15),some (.call (.tup [K22 f7,.bool f8]) [] 18),oN,oN,oN,oN] [(2,.ra 1 0),(4,.ra 5 0)] [(1,.box [I 0,.nils,.nils,.nils]),(5,.box [I f7.fSize,.rs 18,.rs 19,.rs 20]),(18,rI f7.fPlus),(19,rI f7.fTimes),(20,.arr (List.map AV.bool f7.fBelow)),(1000,K1u f3)] (cq (K96 _ _ f1) K3a (ab (K8j _ _ f4) K31 (cq (K9k _ _ f6) K3e (ac (Q71.args (A1 := [K23 f0,K23 f5]) (A2 := [K1t f0,K1t f5]) (by simp only [K23,List.map_nil,Qe7,Qe5]) (Kbs _ _ f9)) K45 (Or.inr (Qef (Qef rfl (Qef (Qed Qe9 f7.fPlus) (Qef (Qed Qe9 f7.fTimes) (Qef (Qed Qeb f7.fBelow) rfl)))) (Qef rfl rfl)) : ([12,13,14,15,16,17] : List Nat) = [] ∨ noSh (.tup [K22 f7,.bool f8]) = true) tv)))) ?_
     obtain ⟨rfl,hq0⟩ := Prod.mk.inj (Option.some.inj h)
     obtain ⟨rfl,hq1⟩ := Prod.mk.inj (hq0)
     obtain ⟨rfl,hq2⟩ := Prod.mk.inj (hq1)
     obtain ⟨rfl,hq3⟩ := Prod.mk.inj (hq2)
     obtain ⟨rfl,hq4⟩ := Prod.mk.inj (hq3)
     obtain ⟨rfl,rfl⟩ := Prod.mk.inj (hq4)
     exact Qcz.mk
    refine sk ?_
    obtain ⟨rfl,hq0⟩ := Prod.mk.inj (Option.some.inj h)
    obtain ⟨rfl,hq1⟩ := Prod.mk.inj (hq0)
    obtain ⟨rfl,hq2⟩ := Prod.mk.inj (hq1)
    obtain ⟨rfl,hq3⟩ := Prod.mk.inj (hq2)
    obtain ⟨rfl,hq4⟩ := Prod.mk.inj (hq3)
    obtain ⟨rfl,rfl⟩ := Prod.mk.inj (hq4)
    exact iv [(18,2),(19,3),(20,4)]
   clear e8
   obtain ⟨rfl,hq0⟩ := Prod.mk.inj (Option.some.inj h)
   obtain ⟨rfl,hq1⟩ := Prod.mk.inj (hq0)
   obtain ⟨rfl,hq2⟩ := Prod.mk.inj (hq1)
   obtain ⟨rfl,hq3⟩ := Prod.mk.inj (hq2)
   obtain ⟨rfl,hq4⟩ := Prod.mk.inj (hq3)
   obtain ⟨rfl,rfl⟩ := Prod.mk.inj (hq4)
   exact iv [(9,18),(10,19),(11,20)]
  clear d7
  obtain ⟨rfl,hq0⟩ := Prod.mk.inj (Option.some.inj h)
  obtain ⟨rfl,hq1⟩ := Prod.mk.inj (hq0)
  obtain ⟨rfl,hq2⟩ := Prod.mk.inj (hq1)
  obtain ⟨rfl,hq3⟩ := Prod.mk.inj (hq2)
  obtain ⟨rfl,hq4⟩ := Prod.mk.inj (hq3)
  obtain ⟨rfl,rfl⟩ := Prod.mk.inj (hq4)
  exact iv [(6,9),(7,10),(8,11)]
 clear c3
 refine rs0 hc 2 [(2,.ra 1 0)] [(1,.box [I b5,.rs 6,.rs 7,.rs 8]),(6,rI b6),(7,rI b7),(8,.arr (List.map AV.bool b8)),(1000,.box [.sl (List.map U8 b9),I c1,I c2])] ?_
 refine rt ?_
 obtain rfl := os h
 exact Qda.ret (fl := [true]) (by kernel_rfl)
def Kbw (c : Ctx) : (List Int) → Exit → Q0a → Prop
 | a0 => Qcz c (.exit 0) (mkS [(5,.rs 1)] [(1,rI a0)])
def Kbx (p : LL × (List Int) × Int) : Option ((List Int)) :=
 match p with
 | (parts1,a0,a1) =>
  if (decide (a1 < (parts1.length : Int))) = true then
  (idx parts1 a1) >>= fun a2 =>
  (Qdq (a0.length + a2.length) 8) >>= fun _ =>
  Kbx (parts1,(a0 ++ a2),(wr (a1 + 1)))
  else
  some (a0)
 partial_fixpoint
def Kby (p : LL × (List Int) × Int) (fl : (List Int)) : Prop :=
 match p with
 | (parts1,a0,a1) => ∀ c : Ctx,c.nt = 22 → WpL Tryz.prog c (cl (cl (cr (cl (cr (cr K48)))))) (Kbw c fl) (mkS [(1,sL parts1),(5,.rs 1),(6,I a1)] [(1,rI a0)])
theorem Kbz : ∀ p r,Kbx p = some r → Kby p r := by
 refine Kbx.partial_correctness Kby ?_
 rintro spec_l3Glue_l0_f spec_l3Glue_l0_ih ⟨parts1,a0,a1⟩ r h
 intro c hc
 refine WpL.step ?_
 refine sN ?_
 refine rss hc none [oN,oN,some (.eqv (.no) ⟨[(11,I (parts1.length : Int))],[],[]⟩),oN] [(1,sL parts1),(5,.rs 1),(6,I a1),(12,.bool (decide (a1 < (parts1.length : Int))))] (ai (Qdj (d := 11) K11 parts1) tv) ?_
 refine ic h (fun a2 h => ?_) fun a2 h => ?_
 ·refine sk ?_
  refine sN ?_
  refine bk 1 ?_
  obtain ⟨a3,a4,_,a5,h⟩ := bq2 h
  refine rg hc none [oN,oN,oN,some (.el (sI a3)),oN,some (.eqv (.mk 3 true) ⟨[(20,.rs 3)],[(3,some (rI (a0 ++ a3))),(1,none)],[3]⟩),oN] [(1,sL parts1),(5,.rs 3),(6,I a1)] [(3,rI (a0 ++ a3))] (ac (xL a4) (congrArg (fun z => (⟨[(20,.rs 3)],[(3,some (.arr z)),(1,none)],[3]⟩ : Wr)) ((List.map_append).symm : (List.map I a0) ++ (List.map I a3) = List.map I (a0 ++ a3))) (Qdr (enc1 := I) (enc2 := I) (e1 := a0) (e2 := a3) (sz := 1) Qe0 Qe0 a5) tv) ?_
  refine K81 hc 3 [(1,sL parts1),(5,.rs 3),(6,I (wr (a1 + 1)))] ?_
  refine Qcv ?_
  exact WpL.view (fun a w hv => SRx.renL [(1,3)] hv (by kernel_rfl) (by kernel_rfl) (by kernel_rfl)) (spec_l3Glue_l0_ih _ _ h c hc)
 refine xt 0 ?_
 refine Qcp ?_
 refine Qcw ?_
 obtain rfl := os h
 exact iv []
def Kc0 (p : Int × LL) : Option ((List Int)) :=
 match p with
 | (c0,parts1) =>
  (Kbx (parts1,[c0],0)) >>= fun a0 =>
  some a0
def Kc1 (p : Int × LL) (r : (List Int)) : Prop :=
 match p with
 | (c0,parts1) => Q71 Tryz.prog 155 [I c0,sL parts1] (oI r) []
theorem Kc2 : ∀ p r,Kc0 p = some r → Kc1 p r := by
 rintro ⟨c0,parts1⟩ r h
 unfold Kc0 at h
 refine b0 Tryz.f155 K48 22 [(0,I c0),(1,sL parts1)] fun c hc => ?_
 refine rs0 hc 1 [(0,I c0),(1,sL parts1)] [] ?_
 refine rs hc none [oN,some (.mk 1 true),oN] [(1,sL parts1),(5,.rs 1)] [(1,.arr (List.map I [c0]))] tv ?_
 refine sN ?_
 refine K82 hc 1 [(1,sL parts1),(5,.rs 1),(6,I 0)] ?_
 refine bk 0 ?_
 obtain ⟨a0,a1,h⟩ := Qdd h
 have hL := Kbz _ _ a1 c hc
 refine lp ?_
 refine WpL.into (e := (.exit 0)) (mkS [(5,.rs 1)] [(1,rI a0)]) hL ?_
 refine Qcr ?_
 refine K82 hc 2 [(4,.rs 1)] ?_
 refine rt ?_
 obtain rfl := os h
 exact rq [true]
def Kc3 (p : K01 × K00 × Int × Bool) : Option ((List Int) × K01) :=
 match p with
 | (c0,s1,deep2,data3) =>
  (K8h (c0,6)) >>= fun (a0,a1) =>
  ((
  if (decide (deep2 ≤ 0)) = true then
  some (true)
  else
  some ((decide (a0 < 2)))
  ) : Option (Bool)) >>= fun a2 =>
  if a2 = true then
  some ([0],a1)
  else
  (Kc3 (a1,s1,(wr (deep2 - 1)),data3)) >>= fun (a3,a4) =>
  if (a0 == 2) = true then
  (K8h (a4,s1.fSize)) >>= fun (a5,a6) =>
  (Kc0 ((wr (19 + a5)),[a3])) >>= fun a7 =>
  some (a7,a6)
  else
  ((
  if (a0 == 3) = true then
  some ((!data3))
  else
  some (false)
  ) : Option (Bool)) >>= fun a8 =>
  if a8 = true then
  (K8h (a4,s1.fSize)) >>= fun (a9,b1) =>
  (Kc3 (b1,s1,(wr (deep2 - 1)),data3)) >>= fun (b2,b3) =>
  (Kc0 ((wr (3 + a9)),[a3,b2])) >>= fun b4 =>
  some (b4,b3)
  else
  if (a0 == 4) = true then
  (Kc3 (a4,s1,(wr (deep2 - 1)),data3)) >>= fun (b5,b6) =>
  (Kc0 (2,[a3,b5])) >>= fun b7 =>
  some (b7,b6)
  else
  (Kc3 (a4,s1,(wr (deep2 - 1)),data3)) >>= fun (b8,b9) =>
  (Kc0 (1,[a3,b8])) >>= fun c1 =>
  some (c1,b9)
 partial_fixpoint
def Kc4 (p : K01 × K00 × Int × Bool) (r : (List Int) × K01) : Prop :=
 match p with
 | (c0,s1,deep2,data3) => Q71 Tryz.prog 75 [.optr [.sl (List.map U8 c0.fb),I c0.fi,I c0.fh],K1t s1,I deep2,.bool data3] (oI r.1) [.optr [.sl (List.map U8 r.2.fb),I r.2.fi,I r.2.fh],.undef,.undef,.undef]
theorem Kc5 : ∀ p r,Kc3 p = some r → Kc4 p r := by
 refine Kc3.partial_correctness Kc4 ?_
 rintro spec_dType_f spec_dType_ih ⟨c0,s1,deep2,data3⟩ r h
 refine Q71.bodyO K2w (fn := Tryz.f75) (code := B75) (by kernel_rfl) (by kernel_rfl) (by kernel_rfl) (nt := 79) (by kernel_rfl) (by kernel_rfl) (T := [(0,.ra 1000 0),(1,K1t s1),(2,I deep2),(3,.bool data3)]) (O := [(1000,K1u c0)]) (by kernel_rfl) (by kernel_rfl) (fun c hc => ?_)
 refine rs hc none [some (.new 1),oN] [(0,.ra 1000 0),(2,I deep2),(3,.bool data3),(5,.ra 1 0)] [(1,K1s s1),(1000,K1u c0)] tv ?_
 obtain ⟨⟨a0,a1⟩,a2,h⟩ := Qdd h
 refine rs hc none [oN,some (.call (I a0) [.optr [.sl (List.map U8 a1.fb),I a1.fi,I a1.fh],.undef] 1),oN] [(0,.ra 1000 0),(2,I deep2),(3,.bool data3),(5,.ra 1 0),(9,I a0)] [(1,K1s s1),(1000,K1u a1)] (ab (K8j _ _ a2) K31 tv) ?_
 refine sN ?_
 refine sN ?_
 obtain ⟨a3,a4,h⟩ := Qdd h
 refine Wp.into (x := .normal) (mkS [(0,.ra 1000 0),(2,I deep2),(3,.bool data3),(5,.ra 1 0),(9,I a0),(18,.bool a3)] [(1,K1s s1),(1000,K1u a1)]) ?_ ?_
 ·replace h := a4
  rcases is h with ⟨a5,h⟩ | ⟨a5,h⟩
  ·refine rgs hc none [oN,oN,oN,o_,o_,oT] [(0,.ra 1000 0),(2,I deep2),(3,.bool data3),(5,.ra 1 0),(9,I a0),(18,.bool true)] (ar 2 (neF a5) (ai a5 tv)) ?_
   obtain rfl := os h
   exact Qcz.mk
  refine rgs hc none [oN,oN,oN,oN,oN,oF] [(0,.ra 1000 0),(2,I deep2),(3,.bool data3),(5,.ra 1 0),(9,I a0),(18,.bool (decide (a0 < 2)))] (ar 3 a5 tv) ?_
  obtain rfl := os h
  exact Qcz.mk
 clear a4
 refine ic h (fun a6 h => ?_) fun a6 h => ?_
 ·refine rs hc none [some (.mk 2 true),oN] [(8,.rs 2)] [(2,.arr (List.map I [0])),(1000,K1u a1)] tv ?_
  refine rt ?_
  obtain rfl := os h
  exact Qda.ret (fl := [true]) (by kernel_rfl)
 refine sk ?_
 obtain ⟨⟨a7,a8⟩,a9,h⟩ := Qdd h
 refine rs hc none [oN,oN,oN,oN,oN,some (.call (oI a7) [.optr [.sl (List.map U8 a8.fb),I a8.fi,I a8.fh],.undef,.undef,.undef] 3),oN] [(0,.ra 1000 0),(2,I deep2),(3,.bool data3),(5,.ra 1 0),(9,I a0),(10,.rs 3)] [(1,K1s s1),(3,rI a7),(1000,K1u a8)] (ab (spec_dType_ih _ _ a9) K47 tv) ?_
 refine sN ?_
 refine bk 0 ?_
 refine K82 hc 3 [(0,.ra 1000 0),(2,I deep2),(3,.bool data3),(5,.ra 1 0),(9,I a0),(10,.rs 3),(26,.bool (a0 == 2))] ?_
 refine ic h (fun b1 h => ?_) fun b1 h => ?_
 ·obtain ⟨⟨b2,b3⟩,b4,h⟩ := Qdd h
  obtain ⟨b5,b6,h⟩ := Qdd h
  refine rs hc none [oN,oN,oN,some (.call (I b2) [.optr [.sl (List.map U8 b3.fb),I b3.fi,I b3.fh],.undef] 1),oN,oN,some (.mk 4 true),some (.call (oI b5) [] 5),oN] [(8,.rs 5)] [(5,rI b5),(1000,K1u b3)] (ad (K8j _ _ b4) K31 (Q71.args (A1 := [I (wr (19 + b2)),.sl (Q02 (List.map K0x [a7]))]) (A2 := [I (wr (19 + b2)),.sl (List.map K11 [a7])]) (by simp only [List.map_nil,K16]) (Kc2 _ _ b6)) K49 (ai (Or.inr (Qed Qe9 b5) : ([4] : List Nat) = [] ∨ noSh (oI b5) = true) tv)) ?_
  refine rt ?_
  obtain rfl := os h
  exact Qda.ret (fl := [true]) (by kernel_rfl)
 refine sN ?_
 obtain ⟨b7,b8,h⟩ := Qdd h
 refine Wp.into (x := .normal) (mkS [(0,.ra 1000 0),(2,I deep2),(3,.bool data3),(5,.ra 1 0),(9,I a0),(10,.rs 3),(37,.bool b7)] [(1,K1s s1),(3,rI a7),(1000,K1u a8)]) ?_ ?_
 ·replace h := b8
  rcases is h with ⟨b9,h⟩ | ⟨b9,h⟩
  ·refine rgs hc none [oN,oN,oN,oN,oN,oT,oN] [(0,.ra 1000 0),(2,I deep2),(3,.bool data3),(5,.ra 1 0),(9,I a0),(10,.rs 3),(37,.bool (!data3))] (ar 3 b9 tv) ?_
   obtain rfl := os h
   exact Qcz.mk
  refine rgs hc none [oN,oN,oN,o_,o_,oF,oN] [(0,.ra 1000 0),(2,I deep2),(3,.bool data3),(5,.ra 1 0),(9,I a0),(10,.rs 3),(37,.bool false)] (ar 2 (neT b9) (ai b9 tv)) ?_
  obtain rfl := os h
  exact Qcz.mk
 clear b8
 refine ic h (fun c1 h => ?_) fun c1 h => ?_
 ·obtain ⟨⟨c2,c3⟩,c4,h⟩ := Qdd h
  obtain ⟨⟨c5,c6⟩,c7,h⟩ := Qdd h
  obtain ⟨c8,c9,h⟩ := Qdd h
  refine rs hc (rx [[0],[0],[0,1],[3],[4],[0],[0],[0],[0],[0,8],[0],[4,6,7,8,9,10],[4,5,6,7,8,9,10,11],[13],[14]]) [oN,oN,oN,some (.call (I c2) [.optr [.sl (List.map U8 c3.fb),I c3.fi,I c3.fh],.undef] 1),oN,oN,oN,oN,oN,oN,oN,some (.call (oI c5) [.optr [.sl (List.map U8 c6.fb),I c6.fi,I c6.fh],.undef,.undef,.undef] 6),some (.mk 7 true),some (.call (oI c8) [] 8),oN] [(8,.rs 8)] [(8,rI c8),(1000,K1u c6)] (ad (K8j _ _ c4) K31 (spec_dType_ih _ _ c7) K47 (ac (Q71.args (A1 := [I (wr (3 + c2)),.sl (Q02 (List.map K0x [a7,c5]))]) (A2 := [I (wr (3 + c2)),.sl (List.map K11 [a7,c5])]) (by simp only [List.map_nil,K16]) (Kc2 _ _ c9)) K49 (Or.inr (Qed Qe9 c8) : ([7] : List Nat) = [] ∨ noSh (oI c8) = true) tv)) ?_
  refine rt ?_
  obtain rfl := os h
  exact Qda.ret (fl := [true]) (by kernel_rfl)
 refine K82 hc 3 [(0,.ra 1000 0),(2,I deep2),(3,.bool data3),(5,.ra 1 0),(10,.rs 3),(58,.bool (a0 == 4))] ?_
 refine ic h (fun d0 h => ?_) fun d0 h => ?_
 ·obtain ⟨⟨d1,d2⟩,d3,h⟩ := Qdd h
  obtain ⟨d4,d5,h⟩ := Qdd h
  refine rs hc none [oN,oN,oN,oN,oN,oN,some (.call (oI d1) [.optr [.sl (List.map U8 d2.fb),I d2.fi,I d2.fh],.undef,.undef,.undef] 9),some (.mk 10 true),some (.call (oI d4) [] 11),oN] [(8,.rs 11)] [(11,rI d4),(1000,K1u d2)] (ad (spec_dType_ih _ _ d3) K47 (Q71.args (A1 := [I 2,.sl (Q02 (List.map K0x [a7,d1]))]) (A2 := [I 2,.sl (List.map K11 [a7,d1])]) (by simp only [List.map_nil,K16]) (Kc2 _ _ d5)) K49 (ai (Or.inr (Qed Qe9 d4) : ([10] : List Nat) = [] ∨ noSh (oI d4) = true) tv)) ?_
  refine rt ?_
  obtain rfl := os h
  exact Qda.ret (fl := [true]) (by kernel_rfl)
 refine sk ?_
 obtain ⟨⟨d6,d7⟩,d8,h⟩ := Qdd h
 obtain ⟨d9,e0,h⟩ := Qdd h
 refine rs hc none [oN,oN,oN,oN,oN,oN,some (.call (oI d6) [.optr [.sl (List.map U8 d7.fb),I d7.fi,I d7.fh],.undef,.undef,.undef] 12),some (.mk 13 true),some (.call (oI d9) [] 14),oN] [(8,.rs 14)] [(14,rI d9),(1000,K1u d7)] (ad (spec_dType_ih _ _ d8) K47 (Q71.args (A1 := [I 1,.sl (Q02 (List.map K0x [a7,d6]))]) (A2 := [I 1,.sl (List.map K11 [a7,d6])]) (by simp only [List.map_nil,K16]) (Kc2 _ _ e0)) K49 (ai (Or.inr (Qed Qe9 d9) : ([13] : List Nat) = [] ∨ noSh (oI d9) = true) tv)) ?_
 refine rt ?_
 obtain rfl := os h
 exact Qda.ret (fl := [true]) (by kernel_rfl)
def Kc6 (p : K01 × Int) : Option (Bool × K01) :=
 match p with
 | (c0,n1) =>
  (K8h (c0,n1)) >>= fun (a0,a1) =>
  some ((a0 == 0),a1)
def Kc7 (p : K01 × Int) (r : Bool × K01) : Prop :=
 match p with
 | (c0,n1) => Q71 Tryz.prog 73 [.optr [.sl (List.map U8 c0.fb),I c0.fi,I c0.fh],I n1] (.bool r.1) [.optr [.sl (List.map U8 r.2.fb),I r.2.fi,I r.2.fh],.undef]
theorem Kc8 : ∀ p r,Kc6 p = some r → Kc7 p r := by
 rintro ⟨c0,n1⟩ r h
 unfold Kc6 at h
 refine Q71.bodyO K2w (fn := Tryz.f73) (code := B73) (by kernel_rfl) (by kernel_rfl) (by kernel_rfl) (nt := 9) (by kernel_rfl) (by kernel_rfl) (T := [(0,.ra 1000 0),(1,I n1)]) (O := [(1000,K1u c0)]) (by kernel_rfl) (by kernel_rfl) (fun c hc => ?_)
 refine K82 hc 1 [(0,.ra 1000 0),(1,I n1)] ?_
 obtain ⟨⟨a0,a1⟩,a2,h⟩ := Qdd h
 refine rs hc none [oN,oN,some (.call (I a0) [.optr [.sl (List.map U8 a1.fb),I a1.fi,I a1.fh],.undef] 1),oN,oN] [(4,.bool (a0 == 0))] [(1000,K1u a1)] (ab (K8j _ _ a2) K31 tv) ?_
 refine rt ?_
 obtain rfl := os h
 exact Qda.ret (fl := [true]) (by kernel_rfl)
def Kc9 (p : K01 × (List Int)) : Option (Int × K01) :=
 match p with
 | (c0,list1) =>
  (K8h (c0,(list1.length : Int))) >>= fun (a0,a1) =>
  (idx list1 a0) >>= fun a2 =>
  some (a2,a1)
def Kca (p : K01 × (List Int)) (r : Int × K01) : Prop :=
 match p with
 | (c0,list1) => Q71 Tryz.prog 156 [.optr [.sl (List.map U8 c0.fb),I c0.fi,I c0.fh],sI list1] (I r.1) [.optr [.sl (List.map U8 r.2.fb),I r.2.fi,I r.2.fh],.undef]
theorem Kcb : ∀ p r,Kc9 p = some r → Kca p r := by
 rintro ⟨c0,list1⟩ r h
 unfold Kc9 at h
 refine Q71.bodyO K2w (fn := Tryz.f156) (code := K4b) (by kernel_rfl) (by kernel_rfl) (by kernel_rfl) (nt := 12) (by kernel_rfl) (by kernel_rfl) (T := [(0,.ra 1000 0),(1,sI list1)]) (O := [(1000,K1u c0)]) (by kernel_rfl) (by kernel_rfl) (fun c hc => ?_)
 refine K82 hc 1 [(0,.ra 1000 0),(1,sI list1)] ?_
 obtain ⟨⟨a0,a1⟩,a2,h⟩ := Qdd h
 obtain ⟨a3,a4,h⟩ := Qdd h
 refine rs hc none [oN,oN,oN,some (.eqv (.no) ⟨[(8,I (list1.length : Int))],[],[]⟩),some (.call (I a0) [.optr [.sl (List.map U8 a1.fb),I a1.fi,I a1.fh],.undef] 1),some (.el (I a3)),oN,oN] [(4,I a3)] [(1000,K1u a1)] (ad (Qdj (d := 8) I list1) (K8j _ _ a2) K31 (ix a4) tv) ?_
 refine rt ?_
 obtain rfl := os h
 exact Qda.ret (fl := [true]) (by kernel_rfl)
def Kcc (c : Ctx) (a0 : K01) : (List Int) → Exit → Q0a → Prop
 | a1 => Qcz c (.exit 1) (mkS [(5,.rs 2)] [(2,rI a1),(1000,K1u a0)])
def Kcd (p : K01 × (List Int)) : Option ((List Int)) :=
 match p with
 | (a0,a1) =>
  if (decide ((a1.length : Int) < 30)) = true then
  (Kc0 (1,[a1,a1])) >>= fun a2 =>
  Kcd (a0,a2)
  else
  some (a1)
 partial_fixpoint
def Kce (p : K01 × (List Int)) (fl : (List Int)) : Prop :=
 match p with
 | (a0,a1) => ∀ c : Ctx,c.nt = 46 → WpL Tryz.prog c (cl (cl (cl (cr (cr (cr (cr (cr (cr (cr (cl (cr (cl (cr (cr B76))))))))))))))) (Kcc c a0 fl) (mkS [(5,.rs 2)] [(2,rI a1),(1000,K1u a0)])
theorem Kcf : ∀ p r,Kcd p = some r → Kce p r := by
 refine Kcd.partial_correctness Kce ?_
 rintro spec_dSpoiltType_l0_f spec_dSpoiltType_l0_ih ⟨a0,a1⟩ r h
 intro c hc
 refine WpL.step ?_
 refine sN ?_
 refine rss hc none [oN,some (.eqv (.no) ⟨[(39,I (a1.length : Int))],[],[]⟩),oN] [(5,.rs 2),(40,.bool (decide ((a1.length : Int) < 30)))] (ai (Qdj (d := 39) I a1) tv) ?_
 refine ic h (fun a2 h => ?_) fun a2 h => ?_
 ·refine sk ?_
  refine bk 2 ?_
  refine vz 2 (Qe5 a1) [(5,sI a1),(40,.bool (decide ((a1.length : Int) < 30)))] [(1000,K1u a0)] ?_
  obtain ⟨a3,a4,h⟩ := Qdd h
  refine rg hc none [oN,oN,some (.mk 11 false),some (.call (oI a3) [] 12),oN] [(5,.rs 12)] [(12,rI a3),(1000,K1u a0)] (ac (Q71.args (A1 := [I 1,.sl (Q02 (List.map K11 [a1,a1]))]) (A2 := [I 1,.sl (List.map K11 [a1,a1])]) (by simp only [List.map_nil,K15]) (Kc2 _ _ a4)) K49 (Or.inr (Qed Qe9 a3) : ([11] : List Nat) = [] ∨ noSh (oI a3) = true) tv) ?_
  refine Qcv ?_
  exact WpL.view (fun a w hv => SRx.renL [(2,12)] hv (by kernel_rfl) (by kernel_rfl) (by kernel_rfl)) (spec_dSpoiltType_l0_ih _ _ h c hc)
 refine xt 1 ?_
 refine Qcp ?_
 refine Qcw ?_
 obtain rfl := os h
 exact iv []
def Kcg (p : K01 × K00) : Option ((List Int) × K01) :=
 match p with
 | (c0,s1) =>
  (Kc6 (c0,2)) >>= fun (a0,a1) =>
  (Kc3 (a1,s1,3,a0)) >>= fun (a2,a3) =>
  (K8h (a3,14)) >>= fun (a4,a5) =>
  ((
  if (a4 == 0) = true then
  (K8h (a5,(a2.length : Int))) >>= fun (a6,a7) =>
  (Kc9 (a7,[(-1),0,2,18,19,34,35,36,37,1000])) >>= fun (a8,a9) =>
  (idx a2 a6) >>= fun b1 =>
  some (((List.set a2 (Int.toNat a6) a8),a9.fb,a9.fi,a9.fh))
  else
  ((
  if (a4 == 1) = true then
  (cut a2 none (some (wr ((a2.length : Int) - 1))) none) >>= fun b2 =>
  some (b2)
  else
  ((
  if (a4 == 2) = true then
  (Qdq (a2.length + [0].length) 8) >>= fun _ =>
  some ((a2 ++ [0]))
  else
  ((
  if (a4 == 3) = true then
  (Kcd (a5,a2)) >>= fun b3 =>
  some (b3)
  else
  some (a2)
  ) : Option ((List Int))) >>= fun b4 =>
  some (b4)
  ) : Option ((List Int))) >>= fun b5 =>
  some (b5)
  ) : Option ((List Int))) >>= fun b6 =>
  some ((b6,a5.fb,a5.fi,a5.fh))
  ) : Option ((List Int) × (List Int) × Int × Int)) >>= fun (b7,b8,b9,c1) =>
  some (b7,(K01.mk b8 b9 c1))
def Kch (p : K01 × K00) (r : (List Int) × K01) : Prop :=
 match p with
 | (c0,s1) => Q71 Tryz.prog 76 [.optr [.sl (List.map U8 c0.fb),I c0.fi,I c0.fh],K1t s1] (sI r.1) [.optr [.sl (List.map U8 r.2.fb),I r.2.fi,I r.2.fh],.undef]
theorem Kci : ∀ p r,Kcg p = some r → Kch p r := by
 rintro ⟨c0,s1⟩ r h
 unfold Kcg at h
 refine Q71.bodyO K2w (fn := Tryz.f76) (code := B76) (by kernel_rfl) (by kernel_rfl) (by kernel_rfl) (nt := 46) (by kernel_rfl) (by kernel_rfl) (T := [(0,.ra 1000 0),(1,K1t s1)]) (O := [(1000,K1u c0)]) (by kernel_rfl) (by kernel_rfl) (fun c hc => ?_)
 refine rs hc none [some (.new 1),oN] [(0,.ra 1000 0),(3,.ra 1 0)] [(1,K1s s1),(1000,K1u c0)] tv ?_
 obtain ⟨⟨a0,a1⟩,a2,h⟩ := Qdd h
 obtain ⟨⟨a3,a4⟩,a5,h⟩ := Qdd h
 refine rs hc (rx [[0],[0],[0],[0,2],[4],[5]]) [oN,oN,oN,some (.call (.bool a0) [.optr [.sl (List.map U8 a1.fb),I a1.fi,I a1.fh],.undef] 1),some (.call (oI a3) [.optr [.sl (List.map U8 a4.fb),I a4.fi,I a4.fh],.undef,.undef,.undef] 2),oN] [(0,.ra 1000 0),(5,.rs 2)] [(2,rI a3),(1000,K1u a4)] (ad (Kc8 _ _ a2) K4a (Kc5 _ _ a5) K47 tv) ?_
 refine sN ?_
 obtain ⟨⟨a6,a7⟩,a8,h⟩ := Qdd h
 refine rs hc none [oN,some (.call (I a6) [.optr [.sl (List.map U8 a7.fb),I a7.fi,I a7.fh],.undef] 1)] [(0,.ra 1000 0),(5,.rs 2),(12,I a6)] [(2,rI a3),(1000,K1u a7)] (ab (K8j _ _ a8) K31 tv) ?_
 refine bk 0 ?_
 refine K82 hc 2 [(0,.ra 1000 0),(5,.rs 2),(12,I a6),(13,.bool (a6 == 0))] ?_
 obtain ⟨⟨a9,b1,b2,b3⟩,b4,h⟩ := Qdd h
 refine Wp.into (x := .normal) (mkS [(5,sI a9)] [(1000,.box [.sl (List.map U8 b1),I b2,I b3])]) ?_ ?_
 ·replace h := b4
  refine ic h (fun b5 h => ?_) fun b5 h => ?_
  ·obtain ⟨⟨b6,b7⟩,b8,h⟩ := Qdd h
   obtain ⟨⟨b9,c1⟩,c2,h⟩ := Qdd h
   obtain ⟨c3,c4,h⟩ := Qdd h
   refine rg hc none [oN,oN,oN,some (.eqv (.no) ⟨[(18,I (a3.length : Int))],[],[]⟩),some (.call (I b6) [.optr [.sl (List.map U8 b7.fb),I b7.fi,I b7.fh],.undef] 1),oN,some (.call .undef [] 4),some (.call (I b9) [.optr [.sl (List.map U8 c1.fb),I c1.fi,I c1.fh],.undef] 1),oN,some (.eqv (.mk 0 true) ⟨[],[(2,some (.arr (List.map I (List.set a3 (Int.toNat b6) b9))))],[]⟩)] [(5,.rs 2)] [(2,.arr (List.map I (List.set a3 (Int.toNat b6) b9))),(1000,K1u c1)] (ad (Qdj (d := 18) I a3) (K8j _ _ b8) K31 (Kcb _ _ c2) (ad K4c (Qdi (enc := I) c4) (congrArg (fun z => (⟨[],[(2,some (.arr z))],[]⟩ : Wr)) (Qeg (enc := I) (i := Int.toNat b6) (l := a3) (v := b9) (x := I b9) (Qds b9))) (Qeh (enc := I) (sz := 1) Qdw c4) tv)) ?_
   obtain ⟨rfl,hq0⟩ := Prod.mk.inj (Option.some.inj h)
   obtain ⟨rfl,hq1⟩ := Prod.mk.inj (hq0)
   obtain ⟨rfl,rfl⟩ := Prod.mk.inj (hq1)
   exact Qcz.view (fun a w hv => SRx.renL [] (SRx.frzC 2 (xs := List.map I (List.set a3 (Int.toNat b6) b9)) (xs' := List.map I (List.set a3 (Int.toNat b6) b9)) hv (by kernel_rfl) (Qe5 _)) (by kernel_rfl) (by kernel_rfl) (by kernel_rfl))
  refine K82 hc 2 [(5,.rs 2),(12,I a6),(24,.bool (a6 == 1))] ?_
  obtain ⟨c5,c6,h⟩ := Qdd h
  refine Wp.into (x := .normal) (mkS [(5,sI c5)] [(1000,K1u a7)]) ?_ ?_
  ·replace h := c6
   refine ic h (fun c7 h => ?_) fun c7 h => ?_
   ·refine vz 2 (Qe5 a3) [(5,sI a3),(12,I a6),(24,.bool (a6 == 1))] [(1000,K1u a7)] ?_
    obtain ⟨c8,c9,h⟩ := Qdd h
    refine rgs hc none [oN,oN,some (.eqv (.no) ⟨[(28,I (a3.length : Int))],[],[]⟩),oN,some (.eqv (.no) ⟨[(30,sI c8)],[],[]⟩),oN] [(5,sI c8)] (ac (Qdj (d := 28) I a3) (Qdm (d := 30) I c9) (Qdl (enc := I) (sz := 1) Qdw c9) tv) ?_
    obtain rfl := os h
    exact Qcz.mk
   refine K82 hc 2 [(5,.rs 2),(12,I a6),(31,.bool (a6 == 2))] ?_
   obtain ⟨d0,d1,h⟩ := Qdd h
   refine Wp.into (x := .normal) (mkS [(5,.rs 6)] [(6,rI d0),(1000,K1u a7)]) ?_ ?_
   ·replace h := d1
    refine ic h (fun d2 h => ?_) fun d2 h => ?_
    ·obtain ⟨_,d3,h⟩ := Qdd h
     refine rg hc none [oN,some (.mk 5 true),some (.eqv (.mk 6 true) ⟨[(35,.rs 6)],[(6,some (rI (a3 ++ [0]))),(2,none),(5,none)],[6]⟩),oN] [(5,.rs 6)] [(6,rI (a3 ++ [0])),(1000,K1u a7)] (ab (congrArg (fun z => (⟨[(35,.rs 6)],[(6,some (.arr z)),(2,none),(5,none)],[6]⟩ : Wr)) ((List.map_append).symm : (List.map I a3) ++ (List.map I [0]) = List.map I (a3 ++ [0]))) (Qdr (enc1 := I) (enc2 := I) (e1 := a3) (e2 := [0]) (sz := 1) Qe0 Qe0 d3) tv) ?_
     obtain rfl := os h
     exact Qcz.mk
    refine K82 hc 2 [(5,.rs 2),(36,.bool (a6 == 3))] ?_
    obtain ⟨d4,d5,h⟩ := Qdd h
    refine Wp.into (x := .normal) (mkS [(5,.rs 2)] [(2,rI d4),(1000,K1u a7)]) ?_ ?_
    ·replace h := d5
     refine ic h (fun d6 h => ?_) fun d6 h => ?_
     ·refine bk 1 ?_
      obtain ⟨d7,d8,h⟩ := Qdd h
      have hL := Kcf _ _ d8 c hc
      refine Wp.loopN (by kernel_rfl) (WpL.view (fun a w hv => SRx.renL [] hv (by kernel_rfl) (by kernel_rfl) (by kernel_rfl)) (?_ : WpL _ c _ _ (mkS [(5,.rs 2)] [(2,rI a3),(1000,K1u a7)])))
      refine WpL.into (e := (.exit 1)) (mkS [(5,.rs 2)] [(2,rI d7),(1000,K1u a7)]) hL ?_
      refine Qcr ?_
      obtain rfl := os h
      exact Qcz.mk
     refine sk ?_
     obtain rfl := os h
     exact iv []
    clear d5
    obtain rfl := os h
    exact iv [(6,2)]
   clear d1
   obtain rfl := os h
   exact Qcz.view (fun a w hv => SRx.renL [] (SRx.frzC 6 (xs := List.map I d0) (xs' := List.map I d0) hv (by kernel_rfl) (Qe5 _)) (by kernel_rfl) (by kernel_rfl) (by kernel_rfl))
  clear c6
  obtain ⟨rfl,hq0⟩ := Prod.mk.inj (Option.some.inj h)
  obtain ⟨rfl,hq1⟩ := Prod.mk.inj (hq0)
  obtain ⟨rfl,rfl⟩ := Prod.mk.inj (hq1)
  exact Qcz.mk
 clear b4
 refine K82 hc 2 [(4,sI a9)] ?_
 refine rt ?_
 obtain rfl := os h
 exact Qda.ret (fl := [false]) (by kernel_rfl)
def Kcj (c0 : K01) : Option (Int × K01) :=
 (Kc9 (c0,[(-1),0,1,2,3,7,8,15,16,17,40,9223372036854775807,(-9223372036854775808)])) >>= fun (a0,a1) =>
 some (a0,a1)
def Kck (c0 : K01) (r : Int × K01) : Prop :=
 Q71 Tryz.prog 99 [.optr [.sl (List.map U8 c0.fb),I c0.fi,I c0.fh]] (I r.1) [.optr [.sl (List.map U8 r.2.fb),I r.2.fi,I r.2.fh]]
theorem Kcl : ∀ p r,Kcj p = some r → Kck p r := by
 rintro c0 r h
 unfold Kcj at h
 refine Q71.bodyO K2w (fn := Tryz.f99) (code := B99) (by kernel_rfl) (by kernel_rfl) (by kernel_rfl) (nt := 6) (by kernel_rfl) (by kernel_rfl) (T := [(0,.ra 1000 0)]) (O := [(1000,K1u c0)]) (by kernel_rfl) (by kernel_rfl) (fun c hc => ?_)
 refine K82 hc 1 [(0,.ra 1000 0)] ?_
 obtain ⟨⟨a0,a1⟩,a2,h⟩ := Qdd h
 refine rs hc none [oN,some (.call .undef [] 2),some (.call (I a0) [.optr [.sl (List.map U8 a1.fb),I a1.fi,I a1.fh],.undef] 1),oN] [(2,I a0)] [(1000,K1u a1)] (ab (Kcb _ _ a2) K4c tv) ?_
 refine rt ?_
 obtain rfl := os h
 exact Qda.ret (fl := [true]) (by kernel_rfl)
def Kcm (c0 : Int) : Option (Bool) :=
 ((
 (K8k (c0,3,18)) >>= fun a0 =>
 if a0 = true then
 some (true)
 else
 some ((c0 == 35))
 ) : Option (Bool)) >>= fun a1 =>
 some a1
def Kcn (c0 : Int) (r : Bool) : Prop :=
 Q71 Tryz.prog 215 [I c0] (.bool r) []
theorem Kco : ∀ p r,Kcm p = some r → Kcn p r := by
 rintro c0 r h
 unfold Kcm at h
 refine b0 Tryz.f215 K4f 9 [(0,I c0)] fun c hc => ?_
 refine rs0 hc 1 [(0,I c0)] [] ?_
 refine sN ?_
 obtain ⟨a0,a1,h⟩ := Qdd h
 refine Wp.into (x := .normal) (mkS [(2,.bool a0)] []) ?_ ?_
 ·replace h := a1
  obtain ⟨a2,a3,h⟩ := Qdd h
  rcases is h with ⟨a4,h⟩ | ⟨a4,h⟩
  ·refine rg hc none [oN,oc (.bool a2),oN,o_,o_,oT,oN] [(2,.bool true)] [] (cq (K8m _ _ a3) K33 (ar 2 (neF a4) (ai a4 tv))) ?_
   obtain rfl := os h
   exact Qcz.mk
  refine rg hc none [oN,oc (.bool a2),oN,oN,oN,oF,oN] [(2,.bool (c0 == 35))] [] (cq (K8m _ _ a3) K33 (ar 3 a4 tv)) ?_
  obtain rfl := os h
  exact Qcz.mk
 clear a1
 refine rt ?_
 obtain rfl := os h
 exact rq [true]
def Kcp (c0 : Int) : Option (Bool) :=
 ((
 (K8k (c0,19,34)) >>= fun a0 =>
 if a0 = true then
 some (true)
 else
 some ((c0 == 36))
 ) : Option (Bool)) >>= fun a1 =>
 some a1
def Kcq (c0 : Int) (r : Bool) : Prop :=
 Q71 Tryz.prog 185 [I c0] (.bool r) []
theorem Kcr : ∀ p r,Kcp p = some r → Kcq p r := by
 rintro c0 r h
 unfold Kcp at h
 refine b0 Tryz.f185 K4h 9 [(0,I c0)] fun c hc => ?_
 refine rs0 hc 1 [(0,I c0)] [] ?_
 refine sN ?_
 obtain ⟨a0,a1,h⟩ := Qdd h
 refine Wp.into (x := .normal) (mkS [(2,.bool a0)] []) ?_ ?_
 ·replace h := a1
  obtain ⟨a2,a3,h⟩ := Qdd h
  rcases is h with ⟨a4,h⟩ | ⟨a4,h⟩
  ·refine rg hc none [oN,oc (.bool a2),oN,o_,o_,oT,oN] [(2,.bool true)] [] (cq (K8m _ _ a3) K33 (ar 2 (neF a4) (ai a4 tv))) ?_
   obtain rfl := os h
   exact Qcz.mk
  refine rg hc none [oN,oc (.bool a2),oN,oN,oN,oF,oN] [(2,.bool (c0 == 36))] [] (cq (K8m _ _ a3) K33 (ar 3 a4 tv)) ?_
  obtain rfl := os h
  exact Qcz.mk
 clear a1
 refine rt ?_
 obtain rfl := os h
 exact rq [true]
def Kcs (c0 : Int) : Option (Int) :=
 if (c0 == 0) = true then
 some 0
 else
 ((
 if (c0 == 1) = true then
 some (true)
 else
 if (c0 == 2) = true then
 some (true)
 else
 (Kcm c0) >>= fun a0 =>
 some (a0)
 ) : Option (Bool)) >>= fun a1 =>
 if a1 = true then
 some 2
 else
 (Kcp c0) >>= fun a2 =>
 if a2 = true then
 some 1
 else
 some (-1)
def Kct (c0 : Int) (r : Int) : Prop :=
 Q71 Tryz.prog 168 [I c0] (I r) []
theorem Kcu : ∀ p r,Kcs p = some r → Kct p r := by
 rintro c0 r h
 unfold Kcs at h
 refine b0 Tryz.f168 K4j 20 [(0,I c0)] fun c hc => ?_
 refine rs0 hc 1 [(0,I c0)] [] ?_
 refine sN ?_
 refine bk 0 ?_
 refine rs0 hc 3 [(0,I c0),(3,.bool (c0 == 0))] [] ?_
 refine ic h (fun a0 h => ?_) fun a0 h => ?_
 ·refine rs0 hc 1 [(2,I 0)] [] ?_
  refine rt ?_
  obtain rfl := os h
  exact rq [true]
 refine sN ?_
 obtain ⟨a1,a2,h⟩ := Qdd h
 refine Wp.into (x := .normal) (mkS [(0,I c0),(6,.bool a1)] []) ?_ ?_
 ·replace h := a2
  rcases is h with ⟨a3,h⟩ | ⟨a3,h⟩
  ·refine rg hc none [oN,oN,oN,o_,o_,oT,oN,o_,o_,oT,oN] [(0,I c0),(6,.bool true)] [] (ar 2 (neF a3) (ai a3 (ar 2 nf (ai tt tv)))) ?_
   obtain rfl := os h
   exact Qcz.mk
  rcases is h with ⟨a4,h⟩ | ⟨a4,h⟩
  ·refine rg hc none [oN,oN,oN,oN,oN,oF,oN,o_,o_,oT,oN] [(0,I c0),(6,.bool true)] [] (ar 3 a3 (ar 2 (neF a4) (ai a4 tv))) ?_
   obtain rfl := os h
   exact Qcz.mk
  obtain ⟨a5,a6,h⟩ := Qdd h
  refine rg hc none [oN,oN,oN,oN,oN,oF,oN,oN,oc (.bool a5),oF,oN] [(0,I c0),(6,.bool a5)] [] (ar 3 a3 (ar 2 a4 (cq (Kco _ _ a6) K4g (ai a4 tv)))) ?_
  obtain rfl := os h
  exact Qcz.mk
 clear a2
 refine ic h (fun a7 h => ?_) fun a7 h => ?_
 ·refine rs0 hc 1 [(2,I 2)] [] ?_
  refine rt ?_
  obtain rfl := os h
  exact rq [true]
 obtain ⟨a8,a9,h⟩ := Qdd h
 refine rs hc none [oN,oc (.bool a8),oN] [(17,.bool a8)] [] (cq (Kcr _ _ a9) K4i tv) ?_
 refine ic h (fun b1 h => ?_) fun b1 h => ?_
 ·refine rs0 hc 1 [(2,I 1)] [] ?_
  refine rt ?_
  obtain rfl := os h
  exact rq [true]
 refine sk ?_
 refine rs0 hc 1 [(2,I (-1))] [] ?_
 refine rt ?_
 obtain rfl := os h
 exact rq [true]
def Kcv (c : Ctx) : (Unit) ⊕ (Int) → Exit → Q0a → Prop
 | .inl _ => Qcz c (.exit 0) (mkS [] [])
 | .inr r => Qd8 TIx Tryz.f167 [] (I r)
def Kcw (p : (List Int) × Int × Int) : Option ((Unit) ⊕ (Int)) :=
 match p with
 | (ty0,a0,a1) =>
  if (decide (a1 < (ty0.length : Int))) = true then
  (idx ty0 a1) >>= fun a2 =>
  (Kcs a2) >>= fun a3 =>
  if (decide (a3 < 0)) = true then
  some (.inr (-1))
  else
  if ((wr ((wr (a0 - 1)) + a3)) == 0) = true then
  some (.inr (wr (a1 + 1)))
  else
  Kcw (ty0,(wr ((wr (a0 - 1)) + a3)),(wr (a1 + 1)))
  else
  some (.inl ())
 partial_fixpoint
def Kcx (p : (List Int) × Int × Int) (fl : (Unit) ⊕ (Int)) : Prop :=
 match p with
 | (ty0,a0,a1) => ∀ c : Ctx,c.nt = 30 → WpL Tryz.prog c (cl (cl (cr (cl (cr (cr K4l)))))) (Kcv c fl) (mkS [(0,sI ty0),(5,I a0),(6,I a1)] [])
theorem Kcy : ∀ p r,Kcw p = some r → Kcx p r := by
 refine Kcw.partial_correctness Kcx ?_
 rintro spec_l2End_l0_f spec_l2End_l0_ih ⟨ty0,a0,a1⟩ r h
 intro c hc
 refine WpL.step ?_
 refine sN ?_
 refine rs hc none [oN,oN,some (.eqv (.no) ⟨[(11,I (ty0.length : Int))],[],[]⟩),oN] [(0,sI ty0),(5,I a0),(6,I a1),(12,.bool (decide (a1 < (ty0.length : Int))))] [] (ai (Qdj (d := 11) I ty0) tv) ?_
 refine ic h (fun a2 h => ?_) fun a2 h => ?_
 ·refine sk ?_
  refine sN ?_
  refine bk 1 ?_
  obtain ⟨a3,a4,a5,a6,h⟩ := bq2 h
  refine rs hc none [oN,oN,some (.el (I a3)),oN,oc (I a5),oN] [(0,sI ty0),(5,I a0),(6,I a1),(7,I a5)] [] (ai (ix a4) (cq (Kcu _ _ a6) K4k tv)) ?_
  refine sN ?_
  refine rs0 hc 2 [(0,sI ty0),(5,I a0),(6,I a1),(7,I a5),(21,.bool (decide (a5 < 0)))] [] ?_
  refine ic h (fun a7 h => ?_) fun a7 h => ?_
  ·refine rs0 hc 1 [(4,I (-1))] [] ?_
   refine rt ?_
   obtain rfl := os h
   exact re [true]
  refine sk ?_
  refine rs0 hc 5 [(0,sI ty0),(5,I (wr ((wr (a0 - 1)) + a5))),(6,I a1)] [] ?_
  refine rs0 hc 2 [(0,sI ty0),(5,I (wr ((wr (a0 - 1)) + a5))),(6,I a1),(27,.bool ((wr ((wr (a0 - 1)) + a5)) == 0))] [] ?_
  refine ic h (fun a8 h => ?_) fun a8 h => ?_
  ·refine rs0 hc 3 [(4,I (wr (a1 + 1)))] [] ?_
   refine rt ?_
   obtain rfl := os h
   exact re [true]
  refine sk ?_
  refine rg0 hc 3 [(0,sI ty0),(5,I (wr ((wr (a0 - 1)) + a5))),(6,I (wr (a1 + 1)))] [] ?_
  refine Qcv ?_
  exact (spec_l2End_l0_ih _ _ h c hc)
 refine xt 0 ?_
 refine Qcp ?_
 refine Qcw ?_
 obtain rfl := os h
 exact iv []
def Kcz (p : (List Int) × Int) : Option (Int) :=
 match p with
 | (ty0,at1) =>
  (Kcw (ty0,1,at1)) >>= fun fl => match fl with
  | .inl () =>
   some (-1)
  | .inr r =>
   some r
def Kd0 (p : (List Int) × Int) (r : Int) : Prop :=
 match p with
 | (ty0,at1) => Q71 Tryz.prog 167 [sI ty0,I at1] (I r) []
theorem Kd1 : ∀ p r,Kcz p = some r → Kd0 p r := by
 rintro ⟨ty0,at1⟩ r h
 unfold Kcz at h
 refine b0 Tryz.f167 K4l 30 [(0,sI ty0),(1,I at1)] fun c hc => ?_
 refine rs0 hc 1 [(0,sI ty0),(1,I at1)] [] ?_
 refine rs0 hc 1 [(0,sI ty0),(1,I at1),(5,I 1)] [] ?_
 refine sN ?_
 refine rs0 hc 2 [(0,sI ty0),(5,I 1),(6,I at1)] [] ?_
 refine bk 0 ?_
 obtain ⟨fl,a0,h⟩ := Qdd h
 have hL := Kcy _ _ a0 c hc
 refine lp ?_
 rcases fl with ⟨⟩ | r
 ·refine WpL.into (e := (.exit 0)) (mkS [] []) hL ?_
  refine Qcr ?_
  refine rs0 hc 1 [(4,I (-1))] [] ?_
  refine rt ?_
  obtain rfl := os h
  exact rq [true]
 refine WpL.mono hL ?_
 rintro _ _ ⟨rfl,hfin⟩
 obtain rfl := os h
 exact ⟨.inl rfl,hfin⟩
def Kd2 (ty0 : (List Int)) : Option (Bool) :=
 ((
 if (decide ((ty0.length : Int) ≤ 40)) = true then
 (Kcz (ty0,0)) >>= fun a0 =>
 if (a0 == (ty0.length : Int)) = true then
 some ((decide ((ty0.length : Int) > 0)))
 else
 some (false)
 else
 some (false)
 ) : Option (Bool)) >>= fun a1 =>
 some a1
def Kd3 (ty0 : (List Int)) (r : Bool) : Prop :=
 Q71 Tryz.prog 81 [sI ty0] (.bool r) []
theorem Kd4 : ∀ p r,Kd2 p = some r → Kd3 p r := by
 rintro ty0 r h
 unfold Kd2 at h
 refine b0 Tryz.f81 B81 18 [(0,sI ty0)] fun c hc => ?_
 refine rs0 hc 1 [(0,sI ty0)] [] ?_
 refine sN ?_
 obtain ⟨a0,a1,h⟩ := Qdd h
 refine Wp.into (x := .normal) (mkS [(2,.bool a0)] []) ?_ ?_
 ·replace h := a1
  rcases is h with ⟨a2,h⟩ | ⟨a2,h⟩
  ·obtain ⟨a3,a4,h⟩ := Qdd h
   rcases is h with ⟨a5,h⟩ | ⟨a5,h⟩
   ·refine rg hc none [oN,some (.eqv (.no) ⟨[(4,I (ty0.length : Int))],[],[]⟩),oN,oN,oN,oc (I a3),oN,some (.eqv (.no) ⟨[(10,I (ty0.length : Int))],[],[]⟩),oN,oT,oN,oN,some (.eqv (.no) ⟨[(15,I (ty0.length : Int))],[],[]⟩),oN,oT,oN] [(2,.bool (decide ((ty0.length : Int) > 0)))] [] (ai (Qdj (d := 4) I ty0) (ar 2 a2 (cq (Kd1 _ _ a4) K4m (ar 2 a2 (ai (Qdj (d := 10) I ty0) (ar 2 a2 (ar 2 a5 (ai (Qdj (d := 15) I ty0) (ar 2 a5 tv))))))))) ?_
    obtain rfl := os h
    exact Qcz.mk
   refine rg hc none [oN,some (.eqv (.no) ⟨[(4,I (ty0.length : Int))],[],[]⟩),oN,oN,oN,oc (I a3),oN,some (.eqv (.no) ⟨[(10,I (ty0.length : Int))],[],[]⟩),oN,oT,oN,o_,o_,o_,oF,oN] [(2,.bool false)] [] (ai (Qdj (d := 4) I ty0) (ar 2 a2 (cq (Kd1 _ _ a4) K4m (ar 2 a2 (ai (Qdj (d := 10) I ty0) (ar 2 a2 (ar 3 (neT a5) (ai a5 tv)))))))) ?_
   obtain rfl := os h
   exact Qcz.mk
  refine rg hc none [oN,some (.eqv (.no) ⟨[(4,I (ty0.length : Int))],[],[]⟩),oN,oN,o_,o_,o_,o_,o_,oF,oN,o_,o_,o_,oF,oN] [(2,.bool false)] [] (ai (Qdj (d := 4) I ty0) (ar 5 (neT a2) (ai a2 (ar 3 (neT (rfl : false = false)) (ai (rfl : false = false) tv))))) ?_
  obtain rfl := os h
  exact Qcz.mk
 clear a1
 refine rt ?_
 obtain rfl := os h
 exact rq [true]
def Kd5 (c0 : Int) : Option (Int) :=
 if (decide (c0 ≥ 35)) = true then
 some (-1)
 else
 if (decide (c0 ≥ 19)) = true then
 some (wr (c0 - 19))
 else
 some (wr (c0 - 3))
def Kd6 (c0 : Int) (r : Int) : Prop :=
 Q71 Tryz.prog 169 [I c0] (I r) []
theorem Kd7 : ∀ p r,Kd5 p = some r → Kd6 p r := by
 rintro c0 r h
 unfold Kd5 at h
 refine b0 Tryz.f169 K4o 13 [(0,I c0)] fun c hc => ?_
 refine rs0 hc 1 [(0,I c0)] [] ?_
 refine sN ?_
 refine bk 0 ?_
 refine rs0 hc 3 [(0,I c0),(3,.bool (decide (c0 ≥ 35)))] [] ?_
 refine ic h (fun a0 h => ?_) fun a0 h => ?_
 ·refine rs0 hc 1 [(2,I (-1))] [] ?_
  refine rt ?_
  obtain rfl := os h
  exact rq [true]
 refine rs0 hc 3 [(0,I c0),(6,.bool (decide (c0 ≥ 19)))] [] ?_
 refine ic h (fun a1 h => ?_) fun a1 h => ?_
 ·refine rs0 hc 3 [(2,I (wr (c0 - 19)))] [] ?_
  refine rt ?_
  obtain rfl := os h
  exact rq [true]
 refine sk ?_
 refine rs0 hc 3 [(2,I (wr (c0 - 3)))] [] ?_
 refine rt ?_
 obtain rfl := os h
 exact rq [true]
def Kd8 (c : Ctx) (ty0 : List Int) (size1 : Int) (closed2 : Bool) (a0 : Int) : (Unit) ⊕ (Bool) → Exit → Q0a → Prop
 | .inl _ => Qcz c .normal (mkS [(0,sI ty0),(1,I size1),(2,.bool closed2),(7,I a0)] [])
 | .inr r => Qd8 TIx Tryz.f82 [] (.bool r)
def Kd9 (c : Ctx) : (Unit) ⊕ (Bool) → Exit → Q0a → Prop
 | .inl _ => Qcz c (.exit 0) (mkS [] [])
 | .inr r => Qd8 TIx Tryz.f82 [] (.bool r)
def Kda (p : (List Int) × Int × Bool × Int) : Option ((Unit) ⊕ (Bool)) :=
 match p with
 | (ty0,size1,closed2,a0) =>
  if (decide (a0 < (ty0.length : Int))) = true then
  ((
   (idx ty0 a0) >>= fun a1 =>
   (Kcs a1) >>= fun a2 =>
   if (decide (a2 > 0)) = true then
   (idx ty0 a0) >>= fun a3 =>
   some ((decide (a3 > 2)))
   else
   some (false)
  ) : Option (Bool)) >>= fun a4 =>
  ((
   if a4 = true then
   (idx ty0 a0) >>= fun a5 =>
   (Kd5 a5) >>= fun a6 =>
   ((
   if (decide (a6 ≥ size1)) = true then
   some (true)
   else
   if closed2 = true then
   some ((decide (a6 < 0)))
   else
   some (false)
   ) : Option (Bool)) >>= fun a7 =>
   if a7 = true then
   some (.inr false)
   else
   some (.inl ())
   else
   some (.inl ())) : Option ((Unit) ⊕ (Bool))) >>= fun fl => match fl with
  | .inl () =>
   Kda (ty0,size1,closed2,(wr (a0 + 1)))
  | .inr r =>
   some (.inr r)
  else
  some (.inl ())
 partial_fixpoint
def Kdb (p : (List Int) × Int × Bool × Int) (fl : (Unit) ⊕ (Bool)) : Prop :=
 match p with
 | (ty0,size1,closed2,a0) => ∀ c : Ctx,c.nt = 43 → WpL Tryz.prog c (cl (cl (cr (cl (cr B82))))) (Kd9 c fl) (mkS [(0,sI ty0),(1,I size1),(2,.bool closed2),(7,I a0)] [])
theorem Kdc : ∀ p r,Kda p = some r → Kdb p r := by
 refine Kda.partial_correctness Kdb ?_
 rintro spec_l2Graded_l0_f spec_l2Graded_l0_ih ⟨ty0,size1,closed2,a0⟩ r h
 intro c hc
 refine WpL.step ?_
 refine sN ?_
 refine rs hc none [oN,oN,some (.eqv (.no) ⟨[(11,I (ty0.length : Int))],[],[]⟩),oN] [(0,sI ty0),(1,I size1),(2,.bool closed2),(7,I a0),(12,.bool (decide (a0 < (ty0.length : Int))))] [] (ai (Qdj (d := 11) I ty0) tv) ?_
 refine ic h (fun a1 h => ?_) fun a1 h => ?_
 ·refine sk ?_
  refine sN ?_
  refine bk 1 ?_
  refine sN ?_
  obtain ⟨a2,a3,h⟩ := Qdd h
  refine Wp.into (x := .normal) (mkS [(0,sI ty0),(1,I size1),(2,.bool closed2),(7,I a0),(27,.bool a2)] []) ?_ ?_
  ·replace h := a3
   obtain ⟨a4,a5,a6,a7,h⟩ := bq2 h
   rcases is h with ⟨a8,h⟩ | ⟨a8,h⟩
   ·obtain ⟨a9,b1,h⟩ := Qdd h
    refine rg hc none [oN,oN,some (.el (I a4)),oN,oc (I a6),oN,oN,oN,oN,some (.el (I a9)),oN,oN,oT] [(0,sI ty0),(1,I size1),(2,.bool closed2),(7,I a0),(27,.bool (decide (a9 > 2)))] [] (ai (ix a5) (cq (Kcu _ _ a7) K4k (ar 3 a8 (ai (ix b1) (ar 3 a8 tv))))) ?_
    obtain rfl := os h
    exact Qcz.mk
   refine rg hc none [oN,oN,some (.el (I a4)),oN,oc (I a6),oN,oN,o_,o_,o_,o_,o_,oF] [(0,sI ty0),(1,I size1),(2,.bool closed2),(7,I a0),(27,.bool false)] [] (ai (ix a5) (cq (Kcu _ _ a7) K4k (ar 5 (neT a8) (ai a8 tv)))) ?_
   obtain rfl := os h
   exact Qcz.mk
  clear a3
  obtain ⟨fl,b2,h⟩ := Qdd h
  refine flw (Kd8 c ty0 size1 closed2 a0 fl) ?_ (fun hF => ?_)
  ·replace h := b2
   refine ic h (fun b3 h => ?_) fun b3 h => ?_
   ·obtain ⟨b4,b5,b6,b7,h⟩ := bq2 h
    refine rs hc none [oN,oN,some (.el (I b4)),oN,oc (I b6),oN] [(0,sI ty0),(1,I size1),(2,.bool closed2),(7,I a0),(8,I b6)] [] (ai (ix b5) (cq (Kd7 _ _ b7) K4p tv)) ?_
    refine sN ?_
    obtain ⟨b8,b9,h⟩ := Qdd h
    refine Wp.into (x := .normal) (mkS [(0,sI ty0),(1,I size1),(2,.bool closed2),(7,I a0),(42,.bool b8)] []) ?_ ?_
    ·replace h := b9
     rcases is h with ⟨c0,h⟩ | ⟨c0,h⟩
     ·refine rg hc none [oN,oN,oN,oN,o_,o_,o_,o_,o_,oT] [(0,sI ty0),(1,I size1),(2,.bool closed2),(7,I a0),(42,.bool true)] [] (ar 3 (neF c0) (ai c0 tv)) ?_
      obtain rfl := os h
      exact Qcz.mk
     rcases is h with ⟨c1,h⟩ | ⟨c1,h⟩
     ·refine rg hc none [oN,oN,oN,oN,oN,oN,oN,oN,oT,oF] [(0,sI ty0),(1,I size1),(2,.bool closed2),(7,I a0),(42,.bool (decide (b6 < 0)))] [] (ar 2 c0 (ar 2 c1 (ac c0 c1 c0 tv))) ?_
      obtain rfl := os h
      exact Qcz.mk
     refine rg hc none [oN,oN,oN,oN,oN,oN,o_,o_,oF,oF] [(0,sI ty0),(1,I size1),(2,.bool closed2),(7,I a0),(42,.bool false)] [] (ar 2 c0 (ar 2 (neT c1) (ac c0 c1 c0 tv))) ?_
     obtain rfl := os h
     exact Qcz.mk
    clear b9
    refine ic h (fun c2 h => ?_) fun c2 h => ?_
    ·refine rs0 hc 1 [(6,.bool false)] [] ?_
     refine rt ?_
     obtain rfl := os h
     exact re [true]
    refine sk ?_
    obtain rfl := os h
    exact iv []
   refine sk ?_
   obtain rfl := os h
   exact iv []
  rcases fl with ⟨⟩ | r
  ·refine Wp.into (x := .normal) (mkS [(0,sI ty0),(1,I size1),(2,.bool closed2),(7,I a0)] []) hF ?_
   refine rg0 hc 3 [(0,sI ty0),(1,I size1),(2,.bool closed2),(7,I (wr (a0 + 1)))] [] ?_
   refine Qcv ?_
   exact (spec_l2Graded_l0_ih _ _ h c hc)
  refine Wp.mono hF ?_
  rintro _ _ ⟨rfl,hfin⟩
  obtain rfl := os h
  exact ⟨rfl,hfin⟩
 refine xt 0 ?_
 refine Qcp ?_
 refine Qcw ?_
 obtain rfl := os h
 exact iv []
def Kdd (p : (List Int) × Int × Bool) : Option (Bool) :=
 match p with
 | (ty0,size1,closed2) =>
  (Kda (ty0,size1,closed2,0)) >>= fun fl => match fl with
  | .inl () =>
   some true
  | .inr r =>
   some r
def Kde (p : (List Int) × Int × Bool) (r : Bool) : Prop :=
 match p with
 | (ty0,size1,closed2) => Q71 Tryz.prog 82 [sI ty0,I size1,.bool closed2] (.bool r) []
theorem Kdf : ∀ p r,Kdd p = some r → Kde p r := by
 rintro ⟨ty0,size1,closed2⟩ r h
 unfold Kdd at h
 refine b0 Tryz.f82 B82 43 [(0,sI ty0),(1,I size1),(2,.bool closed2)] fun c hc => ?_
 refine rs0 hc 1 [(0,sI ty0),(1,I size1),(2,.bool closed2)] [] ?_
 refine sN ?_
 refine rs0 hc 1 [(0,sI ty0),(1,I size1),(2,.bool closed2),(7,I 0)] [] ?_
 refine bk 0 ?_
 obtain ⟨fl,a0,h⟩ := Qdd h
 have hL := Kdc _ _ a0 c hc
 refine lp ?_
 rcases fl with ⟨⟩ | r
 ·refine WpL.into (e := (.exit 0)) (mkS [] []) hL ?_
  refine Qcr ?_
  refine rs0 hc 1 [(6,.bool true)] [] ?_
  refine rt ?_
  obtain rfl := os h
  exact rq [true]
 refine WpL.mono hL ?_
 rintro _ _ ⟨rfl,hfin⟩
 obtain rfl := os h
 exact ⟨.inl rfl,hfin⟩
def Kdg (p : K00 × (List Int)) : Option (Bool) :=
 match p with
 | (s0,ty1) =>
  ((
  (Kb3 s0) >>= fun a0 =>
  if a0 = true then
  (Kd2 ty1) >>= fun a1 =>
  if a1 = true then
  (Kdd (ty1,s0.fSize,true)) >>= fun a2 =>
  some (a2)
  else
  some (false)
  else
  some (false)
  ) : Option (Bool)) >>= fun a3 =>
  some a3
def Kdh (p : K00 × (List Int)) (r : Bool) : Prop :=
 match p with
 | (s0,ty1) => Q71 Tryz.prog 18 [K1t s0,sI ty1] (.bool r) []
theorem Kdi : ∀ p r,Kdg p = some r → Kdh p r := by
 rintro ⟨s0,ty1⟩ r h
 unfold Kdg at h
 refine b0 Tryz.f18 B18 17 [(0,K1t s0),(1,sI ty1)] fun c hc => ?_
 refine rs hc none [some (.new 1),oN] [(1,sI ty1),(2,.ra 1 0)] [(1,K1s s0)] tv ?_
 refine sN ?_
 obtain ⟨a0,a1,h⟩ := Qdd h
 refine Wp.into (x := .normal) (mkS [(4,.bool a0)] []) ?_ ?_
 ·replace h := a1
  obtain ⟨a2,a3,h⟩ := Qdd h
  rcases is h with ⟨a4,h⟩ | ⟨a4,h⟩
  ·obtain ⟨a5,a6,h⟩ := Qdd h
   rcases is h with ⟨a7,h⟩ | ⟨a7,h⟩
   ·obtain ⟨a8,a9,h⟩ := Qdd h
    refine rg hc none [oN,oc (.bool a2),oN,oN,oc (.bool a5),oT,oN,oN,oN,oN,oc (.bool a8),oT,oN] [(4,.bool a8)] [] (cq (Kb5 _ _ a3) K3v (ar 2 a4 (cq (Kd4 _ _ a6) K4n (ai a4 (ar 4 a7 (cq (Kdf _ _ a9) K4q (ai a7 tv))))))) ?_
    obtain rfl := os h
    exact Qcz.mk
   refine rg hc none [oN,oc (.bool a2),oN,oN,oc (.bool a5),oT,oN,o_,o_,o_,o_,oF,oN] [(4,.bool false)] [] (cq (Kb5 _ _ a3) K3v (ar 2 a4 (cq (Kd4 _ _ a6) K4n (ai a4 (ar 4 (neT a7) (ai a7 tv)))))) ?_
   obtain rfl := os h
   exact Qcz.mk
  refine rg hc none [oN,oc (.bool a2),oN,o_,o_,oF,oN,o_,o_,o_,o_,oF,oN] [(4,.bool false)] [] (cq (Kb5 _ _ a3) K3v (ar 2 (neT a4) (ai a4 (ar 4 (neT (rfl : false = false)) (ai (rfl : false = false) tv))))) ?_
  obtain rfl := os h
  exact Qcz.mk
 clear a1
 refine rt ?_
 obtain rfl := os h
 exact rq [true]
def Kdj (c : Ctx) : (Unit) ⊕ (Bool) → Exit → Q0a → Prop
 | .inl _ => Qcz c (.exit 0) (mkS [] [])
 | .inr r => Qd8 TIx Tryz.f181 [] (.bool r)
def Kdk (p : (List Int) × Int) : Option ((Unit) ⊕ (Bool)) :=
 match p with
 | (ty0,a0) =>
  if (decide (a0 < (ty0.length : Int))) = true then
  (idx ty0 a0) >>= fun a1 =>
  (Kcm a1) >>= fun a2 =>
  if a2 = true then
  some (.inr false)
  else
  Kdk (ty0,(wr (a0 + 1)))
  else
  some (.inl ())
 partial_fixpoint
def Kdl (p : (List Int) × Int) (fl : (Unit) ⊕ (Bool)) : Prop :=
 match p with
 | (ty0,a0) => ∀ c : Ctx,c.nt = 15 → WpL Tryz.prog c (cl (cl (cr (cl (cr K4s))))) (Kdj c fl) (mkS [(0,sI ty0),(3,I a0)] [])
theorem Kdm : ∀ p r,Kdk p = some r → Kdl p r := by
 refine Kdk.partial_correctness Kdl ?_
 rintro spec_l2Data_l0_f spec_l2Data_l0_ih ⟨ty0,a0⟩ r h
 intro c hc
 refine WpL.step ?_
 refine sN ?_
 refine rs hc none [oN,oN,some (.eqv (.no) ⟨[(6,I (ty0.length : Int))],[],[]⟩),oN] [(0,sI ty0),(3,I a0),(7,.bool (decide (a0 < (ty0.length : Int))))] [] (ai (Qdj (d := 6) I ty0) tv) ?_
 refine ic h (fun a1 h => ?_) fun a1 h => ?_
 ·refine sk ?_
  refine sN ?_
  refine bk 1 ?_
  obtain ⟨a2,a3,a4,a5,h⟩ := bq2 h
  refine rs hc none [oN,oN,some (.el (I a2)),oN,oc (.bool a4)] [(0,sI ty0),(3,I a0),(14,.bool a4)] [] (ai (ix a3) (cq (Kco _ _ a5) K4g tv)) ?_
  refine ic h (fun a6 h => ?_) fun a6 h => ?_
  ·refine rs0 hc 1 [(2,.bool false)] [] ?_
   refine rt ?_
   obtain rfl := os h
   exact re [true]
  refine sk ?_
  refine rg0 hc 3 [(0,sI ty0),(3,I (wr (a0 + 1)))] [] ?_
  refine Qcv ?_
  exact (spec_l2Data_l0_ih _ _ h c hc)
 refine xt 0 ?_
 refine Qcp ?_
 refine Qcw ?_
 obtain rfl := os h
 exact iv []
def Kdn (ty0 : (List Int)) : Option (Bool) :=
 (Kdk (ty0,0)) >>= fun fl => match fl with
 | .inl () =>
  some true
 | .inr r =>
  some r
def Kdo (ty0 : (List Int)) (r : Bool) : Prop :=
 Q71 Tryz.prog 181 [sI ty0] (.bool r) []
theorem Kdp : ∀ p r,Kdn p = some r → Kdo p r := by
 rintro ty0 r h
 unfold Kdn at h
 refine b0 Tryz.f181 K4s 15 [(0,sI ty0)] fun c hc => ?_
 refine rs0 hc 1 [(0,sI ty0)] [] ?_
 refine sN ?_
 refine rs0 hc 1 [(0,sI ty0),(3,I 0)] [] ?_
 refine bk 0 ?_
 obtain ⟨fl,a0,h⟩ := Qdd h
 have hL := Kdm _ _ a0 c hc
 refine lp ?_
 rcases fl with ⟨⟩ | r
 ·refine WpL.into (e := (.exit 0)) (mkS [] []) hL ?_
  refine Qcr ?_
  refine rs0 hc 1 [(2,.bool true)] [] ?_
  refine rt ?_
  obtain rfl := os h
  exact rq [true]
 refine WpL.mono hL ?_
 rintro _ _ ⟨rfl,hfin⟩
 obtain rfl := os h
 exact ⟨.inl rfl,hfin⟩
def Kdq (p : K00 × (List Int)) : Option (Bool) :=
 match p with
 | (s0,ty1) =>
  ((
  (Kdg (s0,ty1)) >>= fun a0 =>
  if a0 = true then
  (Kdn ty1) >>= fun a1 =>
  some (a1)
  else
  some (false)
  ) : Option (Bool)) >>= fun a2 =>
  some a2
def Kdr (p : K00 × (List Int)) (r : Bool) : Prop :=
 match p with
 | (s0,ty1) => Q71 Tryz.prog 101 [K1t s0,sI ty1] (.bool r) []
theorem Kds : ∀ p r,Kdq p = some r → Kdr p r := by
 rintro ⟨s0,ty1⟩ r h
 unfold Kdq at h
 refine b0 Tryz.f101 K4u 12 [(0,K1t s0),(1,sI ty1)] fun c hc => ?_
 refine rs hc none [some (.new 1),oN] [(1,sI ty1),(2,.ra 1 0)] [(1,K1s s0)] tv ?_
 refine sN ?_
 obtain ⟨a0,a1,h⟩ := Qdd h
 refine Wp.into (x := .normal) (mkS [(4,.bool a0)] []) ?_ ?_
 ·replace h := a1
  obtain ⟨a2,a3,h⟩ := Qdd h
  rcases is h with ⟨a4,h⟩ | ⟨a4,h⟩
  ·obtain ⟨a5,a6,h⟩ := Qdd h
   refine rg hc none [oN,oN,oc (.bool a2),oN,oN,oc (.bool a5),oT,oN] [(4,.bool a5)] [] (cq (Kdi _ _ a3) K4r (ar 2 a4 (cq (Kdp _ _ a6) K4t (ai a4 tv)))) ?_
   obtain rfl := os h
   exact Qcz.mk
  refine rg hc none [oN,oN,oc (.bool a2),oN,o_,o_,oF,oN] [(4,.bool false)] [] (cq (Kdi _ _ a3) K4r (ar 2 (neT a4) (ai a4 tv))) ?_
  obtain rfl := os h
  exact Qcz.mk
 clear a1
 refine rt ?_
 obtain rfl := os h
 exact rq [true]
def Kdt (l0 : (List Int)) : Option ((List Int)) :=
 (Qdq (([] : List Int).length + l0.length) 8) >>= fun _ =>
 some l0
def Kdu (l0 : (List Int)) (r : (List Int)) : Prop :=
 Q71 Tryz.prog 176 [sI l0] (oI r) []
theorem Kdv : ∀ p r,Kdt p = some r → Kdu p r := by
 rintro l0 r h
 unfold Kdt at h
 refine b0 Tryz.f176 K4w 6 [(0,sI l0)] fun c hc => ?_
 refine rs0 hc 1 [(0,sI l0)] [] ?_
 obtain ⟨_,a0,h⟩ := Qdd h
 refine rs hc none [some (.mk 1 true),oN,some (.eqv (.mk 2 true) ⟨[(5,.rs 2)],[(2,some (rI l0)),(1,none)],[2]⟩),oN] [(2,.rs 2)] [(2,rI l0)] (ab (congrArg (fun z => (⟨[(5,.rs 2)],[(2,some (.arr z)),(1,none)],[2]⟩ : Wr)) (List.nil_append _ : [] ++ (List.map I l0) = List.map I l0)) (Qdr (enc1 := I) (enc2 := I) (e1 := []) (e2 := l0) (sz := 1) Qe0 Qe0 a0) tv) ?_
 refine rt ?_
 obtain rfl := os h
 exact rq [true]
def Kdw (p : (List Int) × Int) : Option ((List Int)) :=
 match p with
 | (ty0,k1) =>
  (Kcz (ty0,1)) >>= fun a0 =>
  if (k1 == 0) = true then
  (cut ty0 (some 1) (some a0) none) >>= fun a1 =>
  (Kdt a1) >>= fun a2 =>
  some a2
  else
  (cut ty0 (some a0) none none) >>= fun a3 =>
  (Kdt a3) >>= fun a4 =>
  some a4
def Kdx (p : (List Int) × Int) (r : (List Int)) : Prop :=
 match p with
 | (ty0,k1) => Q71 Tryz.prog 178 [sI ty0,I k1] (oI r) []
theorem Kdy : ∀ p r,Kdw p = some r → Kdx p r := by
 rintro ⟨ty0,k1⟩ r h
 unfold Kdw at h
 refine b0 Tryz.f178 K4y 18 [(0,sI ty0),(1,I k1)] fun c hc => ?_
 refine rs0 hc 1 [(0,sI ty0),(1,I k1)] [] ?_
 obtain ⟨a0,a1,h⟩ := Qdd h
 refine rs hc none [oN,oc (I a0),oN] [(0,sI ty0),(1,I k1),(5,I a0)] [] (cq (Kd1 _ _ a1) K4m tv) ?_
 refine sN ?_
 refine rs0 hc 2 [(0,sI ty0),(5,I a0),(9,.bool (k1 == 0))] [] ?_
 refine ic h (fun a2 h => ?_) fun a2 h => ?_
 ·obtain ⟨a3,a4,a5,a6,h⟩ := bq2 h
  refine rs hc none [oN,oN,some (.eqv (.no) ⟨[(12,sI a3)],[],[]⟩),oc (oI a5),oN] [(4,.rs 1)] [(1,rI a5)] (ab (Qdm (d := 12) I a4) (Qdl (enc := I) (sz := 1) Qdw a4) (cq (Kdv _ _ a6) K4x tv)) ?_
  refine rt ?_
  obtain rfl := os h
  exact rq [true]
 refine sk ?_
 obtain ⟨a7,a8,a9,b1,h⟩ := bq2 h
 refine rs hc none [oN,oN,some (.eqv (.no) ⟨[(16,sI a7)],[],[]⟩),some (.call (oI a9) [] 2),oN] [(4,.rs 2)] [(2,rI a9)] (ab (Qdm (d := 16) I a8) (Qdl (enc := I) (sz := 1) Qdw a8) (cq (Kdv _ _ b1) K4x tv)) ?_
 refine rt ?_
 obtain rfl := os h
 exact rq [true]
def Kdz (ty0 : (List Int)) : Option (Int) :=
 (idx ty0 0) >>= fun a0 =>
 if (a0 == 0) = true then
 some 3
 else
 if (a0 == 1) = true then
 (Kdw (ty0,0)) >>= fun a1 =>
 (Kdz a1) >>= fun a2 =>
 (Kdw (ty0,1)) >>= fun a3 =>
 (Kdz a3) >>= fun a4 =>
 (K8n ((wr (a2 * a4)),301)) >>= fun a5 =>
 some a5
 else
 if (a0 == 2) = true then
 (Kdw (ty0,0)) >>= fun a6 =>
 (Kdz a6) >>= fun a7 =>
 (Kdw (ty0,1)) >>= fun a8 =>
 (Kdz a8) >>= fun a9 =>
 (K8n ((wr (a7 + a9)),301)) >>= fun b1 =>
 some b1
 else
 (Kdw (ty0,0)) >>= fun b2 =>
 (Kdz b2) >>= fun b3 =>
 some b3
 partial_fixpoint
def Ke0 (ty0 : (List Int)) (r : Int) : Prop :=
 Q71 Tryz.prog 102 [sI ty0] (I r) []
theorem Ke1 : ∀ p r,Kdz p = some r → Ke0 p r := by
 refine Kdz.partial_correctness Ke0 ?_
 rintro spec_l5Count_f spec_l5Count_ih ty0 r h
 refine b0 Tryz.f102 K50 35 [(0,sI ty0)] fun c hc => ?_
 refine rs0 hc 1 [(0,sI ty0)] [] ?_
 obtain ⟨a0,a1,h⟩ := Qdd h
 refine rs hc none [oN,some (.el (I a0)),oN,oN] [(0,sI ty0),(3,I a0)] [] (ai (ix a1) tv) ?_
 refine sN ?_
 refine bk 0 ?_
 refine rs0 hc 3 [(0,sI ty0),(3,I a0),(7,.bool (a0 == 0))] [] ?_
 refine ic h (fun a2 h => ?_) fun a2 h => ?_
 ·refine rs0 hc 1 [(2,I 3)] [] ?_
  refine rt ?_
  obtain rfl := os h
  exact rq [true]
 refine rs0 hc 3 [(0,sI ty0),(3,I a0),(10,.bool (a0 == 1))] [] ?_
 refine ic h (fun a3 h => ?_) fun a3 h => ?_
 ·obtain ⟨a4,a5,a6,a7,a8,a9,b1,b2,h⟩ := bq4 h
  obtain ⟨b3,b4,h⟩ := Qdd h
  refine rs hc none [oN,oc (oI a4),oc (I a6),oN,some (.call (oI a8) [] 2),oc (I b1),oN,oc (I b3),oN] [(2,I b3)] [] (cq (Kdy _ _ a5) K4z (ac (Q71.args (A1 := [.sl (Q02 (List.map I a4))]) (A2 := [sI a4]) (by simp only [List.map_nil,Qe5]) (spec_l5Count_ih _ _ a7)) K51 (Or.inr rfl : ([1] : List Nat) = [] ∨ noSh (I a6) = true) (cq (Kdy _ _ a9) K4z (ac (Q71.args (A1 := [.sl (Q02 (List.map I a8))]) (A2 := [sI a8]) (by simp only [List.map_nil,Qe5]) (spec_l5Count_ih _ _ b2)) K51 (Or.inr rfl : ([2] : List Nat) = [] ∨ noSh (I b1) = true) (cq (K8p _ _ b4) K35 tv))))) ?_
  refine rt ?_
  obtain rfl := os h
  exact rq [true]
 refine rs0 hc 3 [(0,sI ty0),(21,.bool (a0 == 2))] [] ?_
 refine ic h (fun b5 h => ?_) fun b5 h => ?_
 ·obtain ⟨b6,b7,b8,b9,c0,c1,c2,c3,h⟩ := bq4 h
  obtain ⟨c4,c5,h⟩ := Qdd h
  refine rs hc none [oN,some (.call (oI b6) [] 3),oc (I b8),oN,some (.call (oI c0) [] 4),oc (I c2),oN,oc (I c4),oN] [(2,I c4)] [] (cq (Kdy _ _ b7) K4z (ac (Q71.args (A1 := [.sl (Q02 (List.map I b6))]) (A2 := [sI b6]) (by simp only [List.map_nil,Qe5]) (spec_l5Count_ih _ _ b9)) K51 (Or.inr rfl : ([3] : List Nat) = [] ∨ noSh (I b8) = true) (cq (Kdy _ _ c1) K4z (ac (Q71.args (A1 := [.sl (Q02 (List.map I c0))]) (A2 := [sI c0]) (by simp only [List.map_nil,Qe5]) (spec_l5Count_ih _ _ c3)) K51 (Or.inr rfl : ([4] : List Nat) = [] ∨ noSh (I c2) = true) (cq (K8p _ _ c5) K35 tv))))) ?_
  refine rt ?_
  obtain rfl := os h
  exact rq [true]
 refine sk ?_
 obtain ⟨c6,c7,c8,c9,h⟩ := bq2 h
 refine rs hc none [oN,some (.call (oI c6) [] 5),oc (I c8),oN] [(2,I c8)] [] (cq (Kdy _ _ c7) K4z (ac (Q71.args (A1 := [.sl (Q02 (List.map I c6))]) (A2 := [sI c6]) (by simp only [List.map_nil,Qe5]) (spec_l5Count_ih _ _ c9)) K51 (Or.inr rfl : ([5] : List Nat) = [] ∨ noSh (I c8) = true) tv)) ?_
 refine rt ?_
 obtain rfl := os h
 exact rq [true]
end Go.Am
