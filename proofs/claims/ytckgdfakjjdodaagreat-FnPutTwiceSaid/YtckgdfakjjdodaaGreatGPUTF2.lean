/- Walks, printed. -/
import Derived.Test.YtckgdfakjjdodaaGreatGPUTF0
set_option linter.unusedVariables false
set_option linter.unusedSimpArgs false
set_option maxRecDepth 100000
namespace Go.Am
open Go Go.Proofs
def Kan : Option (List (List Nat)) := rx [[0],[1],[0],[0],[0],[0],[0,3,4,5],[0],[0],[0],[0,3,4,5,6,7,8,9],[0,2,3,4,5,6,7,8,9,10],[0,2,3,4,5,6,7,8,9,10,11],[13],[14],[15]]
def Kao : Option (List (List Nat)) := rx [[0],[1],[0],[0],[0],[0,2,3,4],[0,2,3,4,5],[0,2,3,4,5,6],[0,2,3,4,5,6],[0,2,3,4,5,6],[0,2,3,4,5,6,7,8,9],[0,2,3,4,5,6,7,8,9,10],[0,2,3,4,5,6,7,8,9,10,11],[13],[14],[15]]
def Kap (p : K02 × Int × Int) : Option ((Unit) ⊕ (Bool)) :=
 match p with
 | (s0,a0,a1) =>
  if (decide (a1 < s0.fSize)) = true then
  (Kac (s0,a0,a1)) >>= fun a2 =>
  if a2 = true then
  (Kaj (s0,a0,a1,0)) >>= fun fl => match fl with
  | .inl () =>
   Kap (s0,a0,(wr (a1 + 1)))
  | .inr r =>
   some (.inr r)
  else
  some (.inr false)
  else
  some (.inl ())
 partial_fixpoint
def Kaq (p : K02 × Int × Int) (fl : (Unit) ⊕ (Bool)) : Prop :=
 match p with
 | (s0,a0,a1) => ∀ c : Ctx,c.nt = 42 → WpL Tryz.prog c (cl (cl (cr (cr (cl (cl (cr (cl (cl (cr (cl (cr (cr B80))))))))))))) (Kam c s0 a0 fl) (mkS [(1,.ra 1 0),(3,I a0),(4,I a1)] [(1,K1g s0)])
theorem Kar : ∀ p r,Kap p = some r → Kaq p r := by
 refine Kap.partial_correctness Kaq ?_
 rintro spec_IsSystem_l1_f spec_IsSystem_l1_ih ⟨s0,a0,a1⟩ r h
 intro c hc
 refine WpL.step ?_
 refine sN ?_
 refine K7p hc 4 [(1,.ra 1 0),(3,I a0),(4,I a1),(22,.bool (decide (a1 < s0.fSize)))] ?_
 refine ic h (fun a2 h => ?_) fun a2 h => ?_
 ·refine sk ?_
  refine sN ?_
  refine bk 3 ?_
  refine sN ?_
  obtain ⟨a3,a4,h⟩ := Qdj h
  refine rss hc none [oN,oN,oN,oc (.bool a3),oN] [(1,.ra 1 0),(3,I a0),(4,I a1),(29,.bool (!a3))] (cq (Kae _ _ a4) K37 tv) ?_
  rcases is h with ⟨a5,h⟩ | ⟨a5,h⟩
  ·refine cF (!a3) (nF a5) ?_
   refine sk ?_
   refine K7p hc 1 [(1,.ra 1 0),(3,I a0),(4,I a1),(5,I 0)] ?_
   refine bk 4 ?_
   obtain ⟨fl,a6,h⟩ := Qdj h
   have hL := Kal _ _ a6 c hc
   refine lp ?_
   rcases fl with ⟨⟩ | r
   ·refine WpL.into (e := (.exit 4)) (mkS [(1,.ra 1 0),(3,I a0),(4,I a1)] [(1,K1g s0)]) hL ?_
    refine Qcx ?_
    refine K7o hc 3 [(1,.ra 1 0),(3,I a0),(4,I (wr (a1 + 1)))] ?_
    refine Qd1 ?_
    exact (spec_IsSystem_l1_ih _ _ h c hc)
   refine WpL.mono hL ?_
   rintro _ _ ⟨rfl,hfin⟩
   obtain rfl := os h
   exact ⟨rfl,hfin⟩
  refine cT (!a3) (nT a5) ?_
  refine rs0 hc 1 [(2,.bool false)] [] ?_
  refine rt ?_
  obtain rfl := os h
  exact re [true]
 refine xt 2 ?_
 refine Qcv ?_
 refine Qd2 ?_
 obtain rfl := os h
 exact iv []
def Kas (c : Ctx) : (Unit) ⊕ (Bool) → Exit → Q0a → Prop
 | .inl _ => Qd5 c (.exit 0) (mkS [] [])
 | .inr r => Qde TIx Tryz.f80 [] (.bool r)
def Kat (p : K02 × Int) : Option ((Unit) ⊕ (Bool)) :=
 match p with
 | (s0,a0) =>
  if (decide (a0 < s0.fSize)) = true then
  (K9y (s0,a0)) >>= fun a1 =>
  if a1 = true then
  (Kap (s0,a0,0)) >>= fun fl => match fl with
  | .inl () =>
   Kat (s0,(wr (a0 + 1)))
  | .inr r =>
   some (.inr r)
  else
  some (.inr false)
  else
  some (.inl ())
 partial_fixpoint
def Kau (p : K02 × Int) (fl : (Unit) ⊕ (Bool)) : Prop :=
 match p with
 | (s0,a0) => ∀ c : Ctx,c.nt = 42 → WpL Tryz.prog c (cl (cl (cr (cl (cr (cr B80)))))) (Kas c fl) (mkS [(1,.ra 1 0),(3,I a0)] [(1,K1g s0)])
theorem Kav : ∀ p r,Kat p = some r → Kau p r := by
 refine Kat.partial_correctness Kau ?_
 rintro spec_IsSystem_l2_f spec_IsSystem_l2_ih ⟨s0,a0⟩ r h
 intro c hc
 refine WpL.step ?_
 refine sN ?_
 refine K7p hc 4 [(1,.ra 1 0),(3,I a0),(12,.bool (decide (a0 < s0.fSize)))] ?_
 refine ic h (fun a1 h => ?_) fun a1 h => ?_
 ·refine sk ?_
  refine sN ?_
  refine bk 1 ?_
  refine sN ?_
  obtain ⟨a2,a3,h⟩ := Qdj h
  refine rss hc none [oN,oN,oc (.bool a2),oN] [(1,.ra 1 0),(3,I a0),(18,.bool (!a2))] (cq (Ka0 _ _ a3) K33 tv) ?_
  rcases is h with ⟨a4,h⟩ | ⟨a4,h⟩
  ·refine cF (!a2) (nF a4) ?_
   refine sk ?_
   refine K7p hc 1 [(1,.ra 1 0),(3,I a0),(4,I 0)] ?_
   refine bk 2 ?_
   obtain ⟨fl,a5,h⟩ := Qdj h
   have hL := Kar _ _ a5 c hc
   refine lp ?_
   rcases fl with ⟨⟩ | r
   ·refine WpL.into (e := (.exit 2)) (mkS [(1,.ra 1 0),(3,I a0)] [(1,K1g s0)]) hL ?_
    refine Qcx ?_
    refine K7o hc 3 [(1,.ra 1 0),(3,I (wr (a0 + 1)))] ?_
    refine Qd1 ?_
    exact (spec_IsSystem_l2_ih _ _ h c hc)
   refine WpL.mono hL ?_
   rintro _ _ ⟨rfl,hfin⟩
   obtain rfl := os h
   exact ⟨rfl,hfin⟩
  refine cT (!a2) (nT a4) ?_
  refine rs0 hc 1 [(2,.bool false)] [] ?_
  refine rt ?_
  obtain rfl := os h
  exact re [true]
 refine xt 0 ?_
 refine Qcv ?_
 refine Qd2 ?_
 obtain rfl := os h
 exact iv []
def Kaw (s0 : K02) : Option (Bool) :=
 (K9i s0) >>= fun a0 =>
 if a0 = true then
 (Kat (s0,0)) >>= fun fl => match fl with
 | .inl () =>
  some true
 | .inr r =>
  some r
 else
 some false
def Kax (s0 : K02) (r : Bool) : Prop :=
 Q75 Tryz.prog 80 [K1h s0] (.bool r) []
theorem Kay : ∀ p r,Kaw p = some r → Kax p r := by
 rintro s0 r h
 unfold Kaw at h
 refine b0 Tryz.f80 B80 42 [(0,K1h s0)] fun c hc => ?_
 refine rs hc none [some (.new 1),oN] [(1,.ra 1 0)] [(1,K1g s0)] tv ?_
 refine sN ?_
 obtain ⟨a0,a1,h⟩ := Qdj h
 refine rss hc none [oN,oc (.bool a0),oN] [(1,.ra 1 0),(8,.bool (!a0))] (cq (K9k _ _ a1) K2v tv) ?_
 rcases is h with ⟨a2,h⟩ | ⟨a2,h⟩
 ·refine cF (!a0) (nF a2) ?_
  refine sk ?_
  refine sN ?_
  refine K7p hc 1 [(1,.ra 1 0),(3,I 0)] ?_
  refine bk 0 ?_
  obtain ⟨fl,a3,h⟩ := Qdj h
  have hL := Kav _ _ a3 c hc
  refine lp ?_
  rcases fl with ⟨⟩ | r
  ·refine WpL.into (e := (.exit 0)) (mkS [] []) hL ?_
   refine Qcx ?_
   refine rs0 hc 1 [(2,.bool true)] [] ?_
   refine rt ?_
   obtain rfl := os h
   exact rq [true]
  refine WpL.mono hL ?_
  rintro _ _ ⟨rfl,hfin⟩
  obtain rfl := os h
  exact ⟨.inl rfl,hfin⟩
 refine cT (!a0) (nT a2) ?_
 refine rs0 hc 1 [(2,.bool false)] [] ?_
 refine rt ?_
 obtain rfl := os h
 exact rq [true]
def Kaz (p : K02 × K02) : Option (Bool) :=
 match p with
 | (a0,b1) =>
  ((
  (Kaw a0) >>= fun a1 =>
  if a1 = true then
  (Kaw b1) >>= fun a2 =>
  if a2 = true then
  some ((decide ((wr (a0.fSize * b1.fSize)) ≤ 16)))
  else
  some (false)
  else
  some (false)
  ) : Option (Bool)) >>= fun a3 =>
  some a3
def Kb0 (p : K02 × K02) (r : Bool) : Prop :=
 match p with
 | (a0,b1) => Q75 Tryz.prog 207 [K1h a0,K1h b1] (.bool r) []
theorem Kb1 : ∀ p r,Kaz p = some r → Kb0 p r := by
 rintro ⟨a0,b1⟩ r h
 unfold Kaz at h
 refine b0 Tryz.f207 K3b 19 [(0,K1h a0),(1,K1h b1)] fun c hc => ?_
 refine rs hc none [some (.new 1),some (.new 2),oN] [(2,.ra 1 0),(3,.ra 2 0)] [(1,K1g a0),(2,K1g b1)] tv ?_
 refine sN ?_
 obtain ⟨a1,a2,h⟩ := Qdj h
 refine Wp.into (x := .normal) (mkS [(4,.bool a1)] []) ?_ ?_
 ·replace h := a2
  obtain ⟨a3,a4,h⟩ := Qdj h
  rcases is h with ⟨a5,h⟩ | ⟨a5,h⟩
  ·obtain ⟨a6,a7,h⟩ := Qdj h
   rcases is h with ⟨a8,h⟩ | ⟨a8,h⟩
   ·refine rg hc none [oN,oc (.bool a3),oN,oN,oc (.bool a6),oT,oN,oN,oN,oN,oN,oN,oN,oT,oN] [(4,.bool (decide ((wr (a0.fSize * b1.fSize)) ≤ 16)))] [] (cq (Kay _ _ a4) K3a (ar 2 a5 (cq (Kay _ _ a7) K3a (ai a5 (ar 7 a8 tv))))) ?_
    obtain rfl := os h
    exact Qd5.mk
   refine rg hc none [oN,oc (.bool a3),oN,oN,oc (.bool a6),oT,oN,o_,o_,o_,o_,o_,o_,oF,oN] [(4,.bool false)] [] (cq (Kay _ _ a4) K3a (ar 2 a5 (cq (Kay _ _ a7) K3a (ai a5 (ar 6 (neT a8) (ai a8 tv)))))) ?_
   obtain rfl := os h
   exact Qd5.mk
  refine rg hc none [oN,oc (.bool a3),oN,o_,o_,oF,oN,o_,o_,o_,o_,o_,o_,oF,oN] [(4,.bool false)] [] (cq (Kay _ _ a4) K3a (ar 2 (neT a5) (ai a5 (ar 6 (neT (rfl : false = false)) (ai (rfl : false = false) tv))))) ?_
  obtain rfl := os h
  exact Qd5.mk
 clear a2
 refine rt ?_
 obtain rfl := os h
 exact rq [true]
def Kb2 (p : Int × Int) : Option (Int) :=
 match p with
 | (n0,g1) =>
  if (g1 == 0) = true then
  some 0
  else
  if (g1 == 1) = true then
  some 1
  else
  if (decide (g1 ≤ (wr (n0 + 1)))) = true then
  (chk (n0 ≠ 0)) >>= fun _ =>
  some (wr (Int.tdiv (wr (g1 - 1)) n0))
  else
  (chk (n0 ≠ 0)) >>= fun _ =>
  some (wr (Int.tdiv g1 n0))
def Kb3 (p : Int × Int) (r : Int) : Prop :=
 match p with
 | (n0,g1) => Q75 Tryz.prog 208 [I n0,I g1] (I r) []
theorem Kb4 : ∀ p r,Kb2 p = some r → Kb3 p r := by
 rintro ⟨n0,g1⟩ r h
 unfold Kb2 at h
 refine b0 Tryz.f208 K3d 23 [(0,I n0),(1,I g1)] fun c hc => ?_
 refine rs0 hc 1 [(0,I n0),(1,I g1)] [] ?_
 refine sN ?_
 refine bk 0 ?_
 refine rs0 hc 3 [(0,I n0),(1,I g1),(5,.bool (g1 == 0))] [] ?_
 refine ic h (fun a0 h => ?_) fun a0 h => ?_
 ·refine rs0 hc 1 [(4,I 0)] [] ?_
  refine rt ?_
  obtain rfl := os h
  exact rq [true]
 refine rs0 hc 3 [(0,I n0),(1,I g1),(8,.bool (g1 == 1))] [] ?_
 refine ic h (fun a1 h => ?_) fun a1 h => ?_
 ·refine rs0 hc 1 [(4,I 1)] [] ?_
  refine rt ?_
  obtain rfl := os h
  exact rq [true]
 refine rs0 hc 5 [(0,I n0),(1,I g1),(11,.bool (decide (g1 ≤ (wr (n0 + 1)))))] [] ?_
 refine ic h (fun a2 h => ?_) fun a2 h => ?_
 ·obtain ⟨_,a3,h⟩ := Qdj h
  refine rs hc none [oN,oN,oN,oN,oN] [(4,I (wr (Int.tdiv (wr (g1 - 1)) n0)))] [] (ai (Qdl a3) tv) ?_
  refine rt ?_
  obtain rfl := os h
  exact rq [true]
 refine sk ?_
 obtain ⟨_,a4,h⟩ := Qdj h
 refine rs hc none [oN,oN,oN,oN] [(4,I (wr (Int.tdiv g1 n0)))] [] (ai (Qdl a4) tv) ?_
 refine rt ?_
 obtain rfl := os h
 exact rq [true]
def Kb5 (p : Int × Int) : Option (Int) :=
 match p with
 | (n0,g1) =>
  if (decide (g1 < 2)) = true then
  some g1
  else
  if (decide (g1 ≤ (wr (n0 + 1)))) = true then
  (chk (n0 ≠ 0)) >>= fun _ =>
  some (Int.tmod (wr (g1 - 1)) n0)
  else
  (chk (n0 ≠ 0)) >>= fun _ =>
  some (Int.tmod g1 n0)
def Kb6 (p : Int × Int) (r : Int) : Prop :=
 match p with
 | (n0,g1) => Q75 Tryz.prog 209 [I n0,I g1] (I r) []
theorem Kb7 : ∀ p r,Kb5 p = some r → Kb6 p r := by
 rintro ⟨n0,g1⟩ r h
 unfold Kb5 at h
 refine b0 Tryz.f209 K3f 21 [(0,I n0),(1,I g1)] fun c hc => ?_
 refine rs0 hc 1 [(0,I n0),(1,I g1)] [] ?_
 refine sN ?_
 refine bk 0 ?_
 refine rs0 hc 3 [(0,I n0),(1,I g1),(5,.bool (decide (g1 < 2)))] [] ?_
 refine ic h (fun a0 h => ?_) fun a0 h => ?_
 ·refine rs0 hc 2 [(4,I g1)] [] ?_
  refine rt ?_
  obtain rfl := os h
  exact rq [true]
 refine rs0 hc 5 [(0,I n0),(1,I g1),(9,.bool (decide (g1 ≤ (wr (n0 + 1)))))] [] ?_
 refine ic h (fun a1 h => ?_) fun a1 h => ?_
 ·obtain ⟨_,a2,h⟩ := Qdj h
  refine rs hc none [oN,oN,oN,oN,oN] [(4,I (Int.tmod (wr (g1 - 1)) n0))] [] (ai (Qdl a2) tv) ?_
  refine rt ?_
  obtain rfl := os h
  exact rq [true]
 refine sk ?_
 obtain ⟨_,a3,h⟩ := Qdj h
 refine rs hc none [oN,oN,oN,oN] [(4,I (Int.tmod g1 n0))] [] (ai (Qdl a3) tv) ?_
 refine rt ?_
 obtain rfl := os h
 exact rq [true]
def Kb8 (p : Int × Int × Int) : Option (Int) :=
 match p with
 | (n0,x1,y2) =>
  if ((wr ((wr (x1 * n0)) + y2)) == 0) = true then
  some 0
  else
  if ((wr ((wr (x1 * n0)) + y2)) == (wr (n0 + 1))) = true then
  some 1
  else
  if (decide ((wr ((wr (x1 * n0)) + y2)) < (wr (n0 + 1)))) = true then
  some (wr ((wr ((wr (x1 * n0)) + y2)) + 1))
  else
  some (wr ((wr (x1 * n0)) + y2))
def Kb9 (p : Int × Int × Int) (r : Int) : Prop :=
 match p with
 | (n0,x1,y2) => Q75 Tryz.prog 210 [I n0,I x1,I y2] (I r) []
theorem Kba : ∀ p r,Kb8 p = some r → Kb9 p r := by
 rintro ⟨n0,x1,y2⟩ r h
 unfold Kb8 at h
 refine b0 Tryz.f210 K3h 29 [(0,I n0),(1,I x1),(2,I y2)] fun c hc => ?_
 refine rs0 hc 1 [(0,I n0),(1,I x1),(2,I y2)] [] ?_
 refine rs0 hc 6 [(0,I n0),(7,I (wr ((wr (x1 * n0)) + y2)))] [] ?_
 refine sN ?_
 refine bk 0 ?_
 refine rs0 hc 3 [(0,I n0),(7,I (wr ((wr (x1 * n0)) + y2))),(13,.bool ((wr ((wr (x1 * n0)) + y2)) == 0))] [] ?_
 refine ic h (fun a0 h => ?_) fun a0 h => ?_
 ·refine rs0 hc 1 [(6,I 0)] [] ?_
  refine rt ?_
  obtain rfl := os h
  exact rq [true]
 refine rs0 hc 5 [(0,I n0),(7,I (wr ((wr (x1 * n0)) + y2))),(16,.bool ((wr ((wr (x1 * n0)) + y2)) == (wr (n0 + 1))))] [] ?_
 refine ic h (fun a1 h => ?_) fun a1 h => ?_
 ·refine rs0 hc 1 [(6,I 1)] [] ?_
  refine rt ?_
  obtain rfl := os h
  exact rq [true]
 refine rs0 hc 5 [(7,I (wr ((wr (x1 * n0)) + y2))),(21,.bool (decide ((wr ((wr (x1 * n0)) + y2)) < (wr (n0 + 1)))))] [] ?_
 refine ic h (fun a2 h => ?_) fun a2 h => ?_
 ·refine rs0 hc 3 [(6,I (wr ((wr ((wr (x1 * n0)) + y2)) + 1)))] [] ?_
  refine rt ?_
  obtain rfl := os h
  exact rq [true]
 refine sk ?_
 refine rs0 hc 2 [(6,I (wr ((wr (x1 * n0)) + y2)))] [] ?_
 refine rt ?_
 obtain rfl := os h
 exact rq [true]
def Kbb (c : Ctx) (a0 : K02) (b1 : K02) (a1 : Int) : (List Int) × (List Int) × (List Bool) → Exit → Q0a → Prop
 | (a2,a3,a4) => Qd5 c (.exit 2) (mkS [(2,.ra 1 0),(3,.ra 2 0),(4,.ra 3 0),(6,I b1.fSize),(7,.ra 4 0),(8,I a1)] [(1,K1g a0),(2,K1g b1),(3,.box [I 0,.nils,.nils,.nils]),(4,.box [I (wr (a0.fSize * b1.fSize)),.rs 29,.rs 30,.rs 31]),(29,rI a2),(30,rI a3),(31,.arr (List.map AV.bool a4))])
def Kbc (p : K02 × K02 × Int × (List Int) × (List Int) × (List Bool) × Int) : Option ((List Int) × (List Int) × (List Bool)) :=
 match p with
 | (a0,b1,a1,a2,a3,a4,a5) =>
  if (decide (a5 < (wr (a0.fSize * b1.fSize)))) = true then
  (Kb2 (b1.fSize,a1)) >>= fun a6 =>
  (Kb5 (b1.fSize,a1)) >>= fun a7 =>
  (Kb2 (b1.fSize,a5)) >>= fun a8 =>
  (Kb5 (b1.fSize,a5)) >>= fun a9 =>
  (K9p (a0,a6,a8)) >>= fun b2 =>
  (K9p (b1,a7,a9)) >>= fun b3 =>
  (Kb8 (b1.fSize,b2,b3)) >>= fun b4 =>
  (Qdw (a2.length + [b4].length) 8) >>= fun _ =>
  (K9s (a0,a6,a8)) >>= fun b5 =>
  (K9s (b1,a7,a9)) >>= fun b6 =>
  (Kb8 (b1.fSize,b5,b6)) >>= fun b7 =>
  (Qdw (a3.length + [b7].length) 8) >>= fun _ =>
  ((
  (K9v (a0,a6,a8)) >>= fun b8 =>
  if b8 = true then
  (K9v (b1,a7,a9)) >>= fun b9 =>
  (Qdw (a4.length + [b9].length) 1) >>= fun _ =>
  some ((a4 ++ [b9]))
  else
  (Qdw (a4.length + [false].length) 1) >>= fun _ =>
  some ((a4 ++ [false]))
  ) : Option ((List Bool))) >>= fun c0 =>
  Kbc (a0,b1,a1,(a2 ++ [b4]),(a3 ++ [b7]),c0,(wr (a5 + 1)))
  else
  some ((a2,a3,a4))
 partial_fixpoint
def Kbd (p : K02 × K02 × Int × (List Int) × (List Int) × (List Bool) × Int) (fl : (List Int) × (List Int) × (List Bool)) : Prop :=
 match p with
 | (a0,b1,a1,a2,a3,a4,a5) => ∀ c : Ctx,c.nt = 96 → WpL Tryz.prog c (cl (cl (cr (cl (cl (cr (cl (cl (cr (cl (cr (cr (cr (cr K3j)))))))))))))) (Kbb c a0 b1 a1 fl) (mkS [(2,.ra 1 0),(3,.ra 2 0),(4,.ra 3 0),(6,I b1.fSize),(7,.ra 4 0),(8,I a1),(9,I a5)] [(1,K1g a0),(2,K1g b1),(3,.box [I 0,.nils,.nils,.nils]),(4,.box [I (wr (a0.fSize * b1.fSize)),.rs 29,.rs 30,.rs 31]),(29,rI a2),(30,rI a3),(31,.arr (List.map AV.bool a4))])
theorem Kbe : ∀ p r,Kbc p = some r → Kbd p r := by
 refine Kbc.partial_correctness Kbd ?_
 rintro spec_ProductSystem_l0_f spec_ProductSystem_l0_ih ⟨a0,b1,a1,a2,a3,a4,a5⟩ r h
 intro c hc
 refine WpL.step ?_
 refine sN ?_
 refine K7p hc 4 [(2,.ra 1 0),(3,.ra 2 0),(4,.ra 3 0),(6,I b1.fSize),(7,.ra 4 0),(8,I a1),(9,I a5),(35,.bool (decide (a5 < (wr (a0.fSize * b1.fSize)))))] ?_
 refine ic h (fun a6 h => ?_) fun a6 h => ?_
 ·refine sk ?_
  refine sN ?_
  refine bk 3 ?_
  obtain ⟨a7,a8,h⟩ := Qdj h
  refine rss hc none [oN,oN,oc (I a7),oN] [(2,.ra 1 0),(3,.ra 2 0),(4,.ra 3 0),(6,I b1.fSize),(7,.ra 4 0),(8,I a1),(9,I a5),(10,I a7)] (cq (Kb4 _ _ a8) K3e tv) ?_
  obtain ⟨a9,b2,h⟩ := Qdj h
  refine rss hc none [oN,oN,oc (I a9),oN] [(2,.ra 1 0),(3,.ra 2 0),(4,.ra 3 0),(6,I b1.fSize),(7,.ra 4 0),(8,I a1),(9,I a5),(10,I a7),(11,I a9)] (cq (Kb7 _ _ b2) K3g tv) ?_
  obtain ⟨b3,b4,h⟩ := Qdj h
  refine rss hc none [oN,oN,oc (I b3),oN] [(2,.ra 1 0),(3,.ra 2 0),(4,.ra 3 0),(6,I b1.fSize),(7,.ra 4 0),(8,I a1),(9,I a5),(10,I a7),(11,I a9),(12,I b3)] (cq (Kb4 _ _ b4) K3e tv) ?_
  obtain ⟨b5,b6,h⟩ := Qdj h
  refine rss hc none [oN,oN,oc (I b5),oN] [(2,.ra 1 0),(3,.ra 2 0),(4,.ra 3 0),(6,I b1.fSize),(7,.ra 4 0),(8,I a1),(9,I a5),(10,I a7),(11,I a9),(12,I b3),(13,I b5)] (cq (Kb7 _ _ b6) K3g tv) ?_
  obtain ⟨b7,b8,b9,c0,c1,c2,_,c3,h⟩ := bq4 h
  refine rs hc Kan [oN,oN,oN,oN,oN,oN,oc (I b7),oN,oN,oN,oc (I b9),oc (I c1),some (.mk 50 true),some (.eqv (.mk 51 true) ⟨[(63,.rs 51)],[(51,some (rI (a2 ++ [c1]))),(29,none),(50,none)],[51]⟩),oN,oN] [(2,.ra 1 0),(3,.ra 2 0),(4,.ra 3 0),(6,I b1.fSize),(7,.ra 4 0),(8,I a1),(9,I a5),(10,I a7),(11,I a9),(12,I b3),(13,I b5)] [(1,K1g a0),(2,K1g b1),(3,.box [I 0,.nils,.nils,.nils]),(4,.box [I (wr (a0.fSize * b1.fSize)),.rs 51,.rs 30,.rs 31]),(30,rI a3),(31,.arr (List.map AV.bool a4)),(51,rI (a2 ++ [c1]))] (cq (K9r _ _ b8) K2x (cq (K9r _ _ c0) K2x (cq (Kba _ _ c2) K3i (ab (congrArg (fun z => (⟨[(63,.rs 51)],[(51,some (.arr z)),(29,none),(50,none)],[51]⟩ : Wr)) ((List.map_append).symm : (List.map I a2) ++ (List.map I [c1]) = List.map I (a2 ++ [c1]))) (Qdx (enc1 := I) (enc2 := I) (e1 := a2) (e2 := [c1]) (sz := 1) Qe6 Qe6 c3) tv)))) ?_
  obtain ⟨c4,c5,c6,c7,c8,c9,_,d0,h⟩ := bq4 h
  refine rs hc Kan [oN,oN,oN,oN,oN,oN,oc (I c4),oN,oN,oN,oc (I c6),oc (I c8),some (.mk 52 true),some (.eqv (.mk 53 true) ⟨[(78,.rs 53)],[(53,some (rI (a3 ++ [c8]))),(30,none),(52,none)],[53]⟩),oN,oN] [(2,.ra 1 0),(3,.ra 2 0),(4,.ra 3 0),(6,I b1.fSize),(7,.ra 4 0),(8,I a1),(9,I a5),(10,I a7),(11,I a9),(12,I b3),(13,I b5)] [(1,K1g a0),(2,K1g b1),(3,.box [I 0,.nils,.nils,.nils]),(4,.box [I (wr (a0.fSize * b1.fSize)),.rs 51,.rs 53,.rs 31]),(31,.arr (List.map AV.bool a4)),(51,rI (a2 ++ [c1])),(53,rI (a3 ++ [c8]))] (cq (K9u _ _ c5) K2z (cq (K9u _ _ c7) K2z (cq (Kba _ _ c9) K3i (ab (congrArg (fun z => (⟨[(78,.rs 53)],[(53,some (.arr z)),(30,none),(52,none)],[53]⟩ : Wr)) ((List.map_append).symm : (List.map I a3) ++ (List.map I [c8]) = List.map I (a3 ++ [c8]))) (Qdx (enc1 := I) (enc2 := I) (e1 := a3) (e2 := [c8]) (sz := 1) Qe6 Qe6 d0) tv)))) ?_
  obtain ⟨d1,d2,h⟩ := Qdj h
  refine Wp.into (x := .normal) (mkS [(2,.ra 1 0),(3,.ra 2 0),(4,.ra 3 0),(6,I b1.fSize),(7,.ra 4 0),(8,I a1),(9,I a5)] [(1,K1g a0),(2,K1g b1),(3,.box [I 0,.nils,.nils,.nils]),(4,.box [I (wr (a0.fSize * b1.fSize)),.rs 51,.rs 53,.rs 55]),(51,rI (a2 ++ [c1])),(53,rI (a3 ++ [c8])),(55,.arr (List.map AV.bool d1))]) ?_ ?_
  ·replace h := d2
   obtain ⟨d3,d4,h⟩ := Qdj h
   rcases is h with ⟨d5,h⟩ | ⟨d5,h⟩
   ·obtain ⟨d6,d7,_,d8,h⟩ := bq2 h
    refine rg hc Kao [oN,oN,oN,oN,oN,oc (.bool d3),oN,oN,oN,oN,oc (.bool d6),oT,some (.mk 54 true),some (.eqv (.mk 55 true) ⟨[(93,.rs 55)],[(55,some (.arr (List.map AV.bool (a4 ++ [d6])))),(31,none),(54,none)],[55]⟩),oN,oN] [(2,.ra 1 0),(3,.ra 2 0),(4,.ra 3 0),(6,I b1.fSize),(7,.ra 4 0),(8,I a1),(9,I a5)] [(1,K1g a0),(2,K1g b1),(3,.box [I 0,.nils,.nils,.nils]),(4,.box [I (wr (a0.fSize * b1.fSize)),.rs 51,.rs 53,.rs 55]),(51,rI (a2 ++ [c1])),(53,rI (a3 ++ [c8])),(55,.arr (List.map AV.bool (a4 ++ [d6])))] (cq (K9x _ _ d4) K31 (ar 4 d5 (cq (K9x _ _ d7) K31 (ac d5 (congrArg (fun z => (⟨[(93,.rs 55)],[(55,some (.arr z)),(31,none),(54,none)],[55]⟩ : Wr)) ((List.map_append).symm : (List.map AV.bool a4) ++ (List.map AV.bool [d6]) = List.map AV.bool (a4 ++ [d6]))) (Qdx (enc1 := AV.bool) (enc2 := AV.bool) (e1 := a4) (e2 := [d6]) (sz := 1) Qe8 Qe8 d8) tv)))) ?_
    obtain rfl := os h
    exact Qd5.mk
   obtain ⟨_,d8,h⟩ := Qdj h
   refine rg hc Kao [oN,oN,oN,oN,oN,oc (.bool d3),oN,o_,o_,o_,o_,oF,some (.mk 54 true),some (.eqv (.mk 55 true) ⟨[(93,.rs 55)],[(55,some (.arr (List.map AV.bool (a4 ++ [false])))),(31,none),(54,none)],[55]⟩),oN,oN] [(2,.ra 1 0),(3,.ra 2 0),(4,.ra 3 0),(6,I b1.fSize),(7,.ra 4 0),(8,I a1),(9,I a5)] [(1,K1g a0),(2,K1g b1),(3,.box [I 0,.nils,.nils,.nils]),(4,.box [I (wr (a0.fSize * b1.fSize)),.rs 51,.rs 53,.rs 55]),(51,rI (a2 ++ [c1])),(53,rI (a3 ++ [c8])),(55,.arr (List.map AV.bool (a4 ++ [false])))] (cq (K9x _ _ d4) K31 (ar 4 (neT d5) (ac d5 (congrArg (fun z => (⟨[(93,.rs 55)],[(55,some (.arr z)),(31,none),(54,none)],[55]⟩ : Wr)) ((List.map_append).symm : (List.map AV.bool a4) ++ (List.map AV.bool [false]) = List.map AV.bool (a4 ++ [false]))) (Qdx (enc1 := AV.bool) (enc2 := AV.bool) (e1 := a4) (e2 := [false]) (sz := 1) Qe8 Qe8 d8) tv))) ?_
   obtain rfl := os h
   exact Qd5.mk
  clear d2
  refine K7o hc 3 [(2,.ra 1 0),(3,.ra 2 0),(4,.ra 3 0),(6,I b1.fSize),(7,.ra 4 0),(8,I a1),(9,I (wr (a5 + 1)))] ?_
  refine Qd1 ?_
  exact WpL.view (fun a w hv => SRx.renL [(29,51),(30,53),(31,55)] hv (by kernel_rfl) (by kernel_rfl) (by kernel_rfl)) (spec_ProductSystem_l0_ih _ _ h c hc)
 refine xt 2 ?_
 refine Qcv ?_
 refine Qd2 ?_
 obtain ⟨rfl,hq0⟩ := Prod.mk.inj (Option.some.inj h)
 obtain ⟨rfl,rfl⟩ := Prod.mk.inj (hq0)
 exact iv []
def Kbf (c : Ctx) (a0 : K02) (b1 : K02) : (List Int) × (List Int) × (List Bool) → Exit → Q0a → Prop
 | (a1,a2,a3) => Qd5 c (.exit 0) (mkS [(4,.ra 3 0),(7,.ra 4 0)] [(3,.box [I 0,.nils,.nils,.nils]),(4,.box [I (wr (a0.fSize * b1.fSize)),.rs 29,.rs 30,.rs 31]),(29,rI a1),(30,rI a2),(31,.arr (List.map AV.bool a3))])
def Kbg (p : K02 × K02 × (List Int) × (List Int) × (List Bool) × Int) : Option ((List Int) × (List Int) × (List Bool)) :=
 match p with
 | (a0,b1,a1,a2,a3,a4) =>
  if (decide (a4 < (wr (a0.fSize * b1.fSize)))) = true then
  (Kbc (a0,b1,a4,a1,a2,a3,0)) >>= fun (a5,a6,a7) =>
  Kbg (a0,b1,a5,a6,a7,(wr (a4 + 1)))
  else
  some ((a1,a2,a3))
 partial_fixpoint
def Kbh (p : K02 × K02 × (List Int) × (List Int) × (List Bool) × Int) (fl : (List Int) × (List Int) × (List Bool)) : Prop :=
 match p with
 | (a0,b1,a1,a2,a3,a4) => ∀ c : Ctx,c.nt = 96 → WpL Tryz.prog c (cl (cl (cr (cl (cr (cr (cr (cr K3j)))))))) (Kbf c a0 b1 fl) (mkS [(2,.ra 1 0),(3,.ra 2 0),(4,.ra 3 0),(6,I b1.fSize),(7,.ra 4 0),(8,I a4)] [(1,K1g a0),(2,K1g b1),(3,.box [I 0,.nils,.nils,.nils]),(4,.box [I (wr (a0.fSize * b1.fSize)),.rs 29,.rs 30,.rs 31]),(29,rI a1),(30,rI a2),(31,.arr (List.map AV.bool a3))])
theorem Kbi : ∀ p r,Kbg p = some r → Kbh p r := by
 refine Kbg.partial_correctness Kbh ?_
 rintro spec_ProductSystem_l1_f spec_ProductSystem_l1_ih ⟨a0,b1,a1,a2,a3,a4⟩ r h
 intro c hc
 refine WpL.step ?_
 refine sN ?_
 refine K7p hc 4 [(2,.ra 1 0),(3,.ra 2 0),(4,.ra 3 0),(6,I b1.fSize),(7,.ra 4 0),(8,I a4),(29,.bool (decide (a4 < (wr (a0.fSize * b1.fSize)))))] ?_
 refine ic h (fun a5 h => ?_) fun a5 h => ?_
 ·refine sk ?_
  refine sN ?_
  refine bk 1 ?_
  refine K7p hc 1 [(2,.ra 1 0),(3,.ra 2 0),(4,.ra 3 0),(6,I b1.fSize),(7,.ra 4 0),(8,I a4),(9,I 0)] ?_
  refine bk 2 ?_
  obtain ⟨⟨a6,a7,a8⟩,a9,h⟩ := Qdj h
  have hL := Kbe _ _ a9 c hc
  refine lp ?_
  refine WpL.into (e := (.exit 2)) (mkS [(2,.ra 1 0),(3,.ra 2 0),(4,.ra 3 0),(6,I b1.fSize),(7,.ra 4 0),(8,I a4)] [(1,K1g a0),(2,K1g b1),(3,.box [I 0,.nils,.nils,.nils]),(4,.box [I (wr (a0.fSize * b1.fSize)),.rs 29,.rs 30,.rs 31]),(29,rI a6),(30,rI a7),(31,.arr (List.map AV.bool a8))]) hL ?_
  refine Qcx ?_
  refine K7o hc 3 [(2,.ra 1 0),(3,.ra 2 0),(4,.ra 3 0),(6,I b1.fSize),(7,.ra 4 0),(8,I (wr (a4 + 1)))] ?_
  refine Qd1 ?_
  exact (spec_ProductSystem_l1_ih _ _ h c hc)
 refine xt 0 ?_
 refine Qcv ?_
 refine Qd2 ?_
 obtain ⟨rfl,hq0⟩ := Prod.mk.inj (Option.some.inj h)
 obtain ⟨rfl,rfl⟩ := Prod.mk.inj (hq0)
 exact iv []
def Kbj (p : K02 × K02) : Option (K02 × Bool) :=
 match p with
 | (a0,b1) =>
  (Kaz (a0,b1)) >>= fun a1 =>
  if a1 = true then
  (Kbg (a0,b1,[],[],[],0)) >>= fun (a2,a3,a4) =>
  some ((K02.mk (wr (a0.fSize * b1.fSize)) a2 a3 a4),true)
  else
  some ((K02.mk 0 [] [] []),false)
def Kbk (p : K02 × K02) (r : K02 × Bool) : Prop :=
 match p with
 | (a0,b1) => Q75 Tryz.prog 154 [K1h a0,K1h b1] (.tup [.agg [I r.1.fSize,.osl (List.map I r.1.fPlus),.osl (List.map I r.1.fTimes),.osl (List.map AV.bool r.1.fBelow)],.bool r.2]) []
theorem Kbl : ∀ p r,Kbj p = some r → Kbk p r := by
 rintro ⟨a0,b1⟩ r h
 unfold Kbj at h
 refine b0 Tryz.f154 K3j 96 [(0,K1h a0),(1,K1h b1)] fun c hc => ?_
 refine rs hc none [some (.new 1),some (.new 2),some (.new 3),oN] [(2,.ra 1 0),(3,.ra 2 0),(4,.ra 3 0)] [(1,K1g a0),(2,K1g b1),(3,.box [I 0,.nils,.nils,.nils])] tv ?_
 refine sN ?_
 obtain ⟨a1,a2,h⟩ := Qdj h
 refine rss hc none [oN,oN,oc (.bool a1),oN] [(2,.ra 1 0),(3,.ra 2 0),(4,.ra 3 0),(17,.bool (!a1))] (cq (Kb1 _ _ a2) K3c tv) ?_
 rcases is h with ⟨a3,h⟩ | ⟨a3,h⟩
 ·refine cF (!a1) (nF a3) ?_
  refine sk ?_
  refine K7p hc 3 [(2,.ra 1 0),(3,.ra 2 0),(4,.ra 3 0),(6,I b1.fSize)] ?_
  refine rs hc none [oN,oN,oN,oN,oN,some (.new 4),oN] [(2,.ra 1 0),(3,.ra 2 0),(4,.ra 3 0),(6,I b1.fSize),(7,.ra 4 0)] [(1,K1g a0),(2,K1g b1),(3,.box [I 0,.nils,.nils,.nils]),(4,.box [I (wr (a0.fSize * b1.fSize)),.nils,.nils,.nils])] tv ?_
  refine sN ?_
  refine K7p hc 1 [(2,.ra 1 0),(3,.ra 2 0),(4,.ra 3 0),(6,I b1.fSize),(7,.ra 4 0),(8,I 0)] ?_
  refine bk 0 ?_
  obtain ⟨⟨a4,a5,a6⟩,a7,h⟩ := Qdj h
  have hL := Kbi _ _ a7 c hc
  refine Wp.loopN (by kernel_rfl) (WpL.view (fun a w hv => SRx.renL [(29,56),(30,57),(31,58)] (SRx.nilBL 4 3 58 [I (wr (a0.fSize * b1.fSize)),.rs 56,.rs 57,.nils] (SRx.nilBL 4 2 57 [I (wr (a0.fSize * b1.fSize)),.rs 56,.nils,.nils] (SRx.nilBL 4 1 56 [I (wr (a0.fSize * b1.fSize)),.nils,.nils,.nils] hv (by kernel_rfl) (by kernel_rfl) (by kernel_rfl)) (by kernel_rfl) (by kernel_rfl) (by kernel_rfl)) (by kernel_rfl) (by kernel_rfl) (by kernel_rfl)) (by kernel_rfl) (by kernel_rfl) (by kernel_rfl)) (?_ : WpL _ c _ _ (mkS [(2,.ra 1 0),(3,.ra 2 0),(4,.ra 3 0),(6,I b1.fSize),(7,.ra 4 0),(8,I 0)] [(1,K1g a0),(2,K1g b1),(3,.box [I 0,.nils,.nils,.nils]),(4,.box [I (wr (a0.fSize * b1.fSize)),.rs 29,.rs 30,.rs 31]),(29,.arr (List.map I [])),(30,.arr (List.map I [])),(31,.arr (List.map AV.bool []))])))
  refine WpL.into (e := (.exit 0)) (mkS [(4,.ra 3 0),(7,.ra 4 0)] [(3,.box [I 0,.nils,.nils,.nils]),(4,.box [I (wr (a0.fSize * b1.fSize)),.rs 29,.rs 30,.rs 31]),(29,rI a4),(30,rI a5),(31,.arr (List.map AV.bool a6))]) hL ?_
  refine Qcx ?_
  refine rs0 hc 3 [(4,.ra 3 0),(5,.bool true)] [(3,.box [I (wr (a0.fSize * b1.fSize)),.rs 29,.rs 30,.rs 31]),(29,rI a4),(30,rI a5),(31,.arr (List.map AV.bool a6))] ?_
  refine rt ?_
  obtain rfl := os h
  exact rq [true,true]
 refine cT (!a1) (nT a3) ?_
 refine rs0 hc 3 [(4,.ra 3 0),(5,.bool false)] [(3,.box [I 0,.nils,.nils,.nils])] ?_
 refine rt ?_
 obtain rfl := os h
 exact rq [true,true]
def Kbm (c0 : K01) : Option (K02 × K01) :=
 (K8a (c0,3)) >>= fun (a0,a1) =>
 (K8u (wr (1 + a0))) >>= fun a2 =>
 (K8a (a1,8)) >>= fun (a3,a4) =>
 ((
 if (a3 == 0) = true then
 some ((a3 == 0))
 else
 ((
 if (a3 == 1) = true then
 some ((a3 == 1))
 else
 some ((a3 == 2))
 ) : Option (Bool)) >>= fun a5 =>
 some (a5)
 ) : Option (Bool)) >>= fun a6 =>
 ((
 if a6 = true then
 (K8x (wr (1 + a0))) >>= fun a7 =>
 some ((a7.fSize,a7.fPlus,a7.fTimes,a7.fBelow,a4.fb,a4.fi,a4.fh))
 else
 ((
 if (a3 == 3) = true then
 some ((a3 == 3))
 else
 some ((a3 == 4))
 ) : Option (Bool)) >>= fun a8 =>
 ((
 if a8 = true then
 (K9b (wr (1 + a0))) >>= fun a9 =>
 some ((a9.fSize,a9.fPlus,a9.fTimes,a9.fBelow,a4.fb,a4.fi,a4.fh))
 else
 ((
 if (a3 == 5) = true then
 (K8x 1) >>= fun b1 =>
 (K8a (a4,2)) >>= fun (b2,b3) =>
 (K9b (wr (1 + b2))) >>= fun b4 =>
 (Kbj (b1,b4)) >>= fun (b5,b6) =>
 some ((b5.fSize,b5.fPlus,b5.fTimes,b5.fBelow,b3.fb,b3.fi,b3.fh))
 else
 some ((a2.fSize,a2.fPlus,a2.fTimes,a2.fBelow,a4.fb,a4.fi,a4.fh))
 ) : Option (Int × (List Int) × (List Int) × (List Bool) × (List Int) × Int × Int)) >>= fun (b7,b8,b9,c1,c2,c3,c4) =>
 some ((b7,b8,b9,c1,c2,c3,c4))
 ) : Option (Int × (List Int) × (List Int) × (List Bool) × (List Int) × Int × Int)) >>= fun (c5,c6,c7,c8,c9,d0,d1) =>
 some ((c5,c6,c7,c8,c9,d0,d1))
 ) : Option (Int × (List Int) × (List Int) × (List Bool) × (List Int) × Int × Int)) >>= fun (d2,d3,d4,d5,d6,d7,d8) =>
 some ((K02.mk d2 d3 d4 d5),(K01.mk d6 d7 d8))
def Kbn (c0 : K01) (r : K02 × K01) : Prop :=
 Q75 Tryz.prog 72 [.optr [.sl (List.map U8 c0.fb),I c0.fi,I c0.fh]] (.agg [I r.1.fSize,.osl (List.map I r.1.fPlus),.osl (List.map I r.1.fTimes),.osl (List.map AV.bool r.1.fBelow)]) [.optr [.sl (List.map U8 r.2.fb),I r.2.fi,I r.2.fh]]
theorem Kbo : ∀ p r,Kbm p = some r → Kbn p r := by
 rintro c0 r h
 unfold Kbm at h
 refine Q75.bodyO K28 (fn := Tryz.f72) (code := B72) (by kernel_rfl) (by kernel_rfl) (by kernel_rfl) (nt := 35) (by kernel_rfl) (by kernel_rfl) (T := [(0,.ra 1000 0)]) (O := [(1000,K1e c0)]) (by kernel_rfl) (by kernel_rfl) (fun c hc => ?_)
 refine rs hc none [some (.new 1)] [(0,.ra 1000 0),(2,.ra 1 0)] [(1,.box [I 0,.nils,.nils,.nils]),(1000,K1e c0)] tv ?_
 obtain ⟨⟨a0,a1⟩,a2,h⟩ := Qdj h
 refine rs hc none [oN,some (.call (I a0) [.optr [.sl (List.map U8 a1.fb),I a1.fi,I a1.fh],.undef] 1),oN,oN] [(0,.ra 1000 0),(2,.ra 1 0),(3,I (wr (1 + a0)))] [(1,.box [I 0,.nils,.nils,.nils]),(1000,K1e a1)] (ab (K8c _ _ a2) K2h tv) ?_
 obtain ⟨a3,a4,h⟩ := Qdj h
 refine rs hc none [oN,some (.call (K1o a3) [] 2),some (.new 5),oN] [(0,.ra 1000 0),(2,.ra 1 0),(3,I (wr (1 + a0))),(4,.ra 5 0)] [(1,.box [I 0,.nils,.nils,.nils]),(2,rI a3.fPlus),(3,rI a3.fTimes),(4,.arr (List.map AV.bool a3.fBelow)),(5,.box [I a3.fSize,.rs 2,.rs 3,.rs 4]),(1000,K1e a1)] (cq (K8w _ _ a4) K2o tv) ?_
 refine sN ?_
 obtain ⟨⟨a5,a6⟩,a7,h⟩ := Qdj h
 refine rs hc none [oN,some (.call (I a5) [.optr [.sl (List.map U8 a6.fb),I a6.fi,I a6.fh],.undef] 1)] [(0,.ra 1000 0),(2,.ra 1 0),(3,I (wr (1 + a0))),(4,.ra 5 0),(11,I a5)] [(1,.box [I 0,.nils,.nils,.nils]),(2,rI a3.fPlus),(3,rI a3.fTimes),(4,.arr (List.map AV.bool a3.fBelow)),(5,.box [I a3.fSize,.rs 2,.rs 3,.rs 4]),(1000,K1e a6)] (ab (K8c _ _ a7) K2h tv) ?_
 refine bk 0 ?_
 refine sN ?_
 refine K7p hc 2 [(0,.ra 1000 0),(2,.ra 1 0),(3,I (wr (1 + a0))),(4,.ra 5 0),(11,I a5),(12,.bool (a5 == 0))] ?_
 obtain ⟨a8,a9,h⟩ := Qdj h
 refine Wp.into (x := .normal) (mkS [(0,.ra 1000 0),(2,.ra 1 0),(3,I (wr (1 + a0))),(4,.ra 5 0),(11,I a5),(12,.bool a8)] [(1,.box [I 0,.nils,.nils,.nils]),(2,rI a3.fPlus),(3,rI a3.fTimes),(4,.arr (List.map AV.bool a3.fBelow)),(5,.box [I a3.fSize,.rs 2,.rs 3,.rs 4]),(1000,K1e a6)]) ?_ ?_
 ·replace h := a9
  refine ic h (fun b1 h => ?_) fun b1 h => ?_
  ·refine sk ?_
   obtain rfl := os h
   exact Qd5.mk
  refine K7p hc 2 [(0,.ra 1000 0),(2,.ra 1 0),(3,I (wr (1 + a0))),(4,.ra 5 0),(11,I a5),(12,.bool (a5 == 1))] ?_
  obtain ⟨b2,b3,h⟩ := Qdj h
  refine Wp.into (x := .normal) (mkS [(0,.ra 1000 0),(2,.ra 1 0),(3,I (wr (1 + a0))),(4,.ra 5 0),(11,I a5),(12,.bool b2)] [(1,.box [I 0,.nils,.nils,.nils]),(2,rI a3.fPlus),(3,rI a3.fTimes),(4,.arr (List.map AV.bool a3.fBelow)),(5,.box [I a3.fSize,.rs 2,.rs 3,.rs 4]),(1000,K1e a6)]) ?_ ?_
  ·replace h := b3
   refine ic h (fun b4 h => ?_) fun b4 h => ?_
   ·refine sk ?_
    obtain rfl := os h
    exact Qd5.mk
   refine K7o hc 2 [(0,.ra 1000 0),(2,.ra 1 0),(3,I (wr (1 + a0))),(4,.ra 5 0),(11,I a5),(12,.bool (a5 == 2))] ?_
   obtain rfl := os h
   exact Qd5.mk
  clear b3
  obtain rfl := os h
  exact Qd5.mk
 clear a9
 obtain ⟨⟨b5,b6,b7,b8,b9,c1,c2⟩,c3,h⟩ := Qdj h
 refine Wp.into (x := .normal) (mkS [(2,.ra 1 0),(4,.ra 5 0)] [(1,.box [I 0,.nils,.nils,.nils]),(5,.box [I b5,.rs 6,.rs 7,.rs 8]),(6,rI b6),(7,rI b7),(8,.arr (List.map AV.bool b8)),(1000,.box [.sl (List.map U8 b9),I c1,I c2])]) ?_ ?_
 ·replace h := c3
  refine ic h (fun c4 h => ?_) fun c4 h => ?_
  ·obtain ⟨c5,c6,h⟩ := Qdj h
   refine rg hc none [oN,some (.call (K1o c5) [] 6),oN] [(2,.ra 1 0),(4,.ra 5 0)] [(1,.box [I 0,.nils,.nils,.nils]),(5,.box [I c5.fSize,.rs 6,.rs 7,.rs 8]),(6,rI c5.fPlus),(7,rI c5.fTimes),(8,.arr (List.map AV.bool c5.fBelow)),(1000,K1e a6)] (cq (K8z _ _ c6) K2p tv) ?_
   obtain ⟨rfl,hq0⟩ := Prod.mk.inj (Option.some.inj h)
   obtain ⟨rfl,hq1⟩ := Prod.mk.inj (hq0)
   obtain ⟨rfl,hq2⟩ := Prod.mk.inj (hq1)
   obtain ⟨rfl,hq3⟩ := Prod.mk.inj (hq2)
   obtain ⟨rfl,hq4⟩ := Prod.mk.inj (hq3)
   obtain ⟨rfl,rfl⟩ := Prod.mk.inj (hq4)
   exact Qd5.mk
  refine sN ?_
  refine K7p hc 2 [(0,.ra 1000 0),(2,.ra 1 0),(3,I (wr (1 + a0))),(4,.ra 5 0),(11,I a5),(18,.bool (a5 == 3))] ?_
  obtain ⟨c7,c8,h⟩ := Qdj h
  refine Wp.into (x := .normal) (mkS [(0,.ra 1000 0),(2,.ra 1 0),(3,I (wr (1 + a0))),(4,.ra 5 0),(11,I a5),(18,.bool c7)] [(1,.box [I 0,.nils,.nils,.nils]),(2,rI a3.fPlus),(3,rI a3.fTimes),(4,.arr (List.map AV.bool a3.fBelow)),(5,.box [I a3.fSize,.rs 2,.rs 3,.rs 4]),(1000,K1e a6)]) ?_ ?_
  ·replace h := c8
   refine ic h (fun c9 h => ?_) fun c9 h => ?_
   ·refine sk ?_
    obtain rfl := os h
    exact Qd5.mk
   refine K7o hc 2 [(0,.ra 1000 0),(2,.ra 1 0),(3,I (wr (1 + a0))),(4,.ra 5 0),(11,I a5),(18,.bool (a5 == 4))] ?_
   obtain rfl := os h
   exact Qd5.mk
  clear c8
  obtain ⟨⟨d0,d1,d2,d3,d4,d5,d6⟩,d7,h⟩ := Qdj h
  refine Wp.into (x := .normal) (mkS [(2,.ra 1 0),(4,.ra 5 0)] [(1,.box [I 0,.nils,.nils,.nils]),(5,.box [I d0,.rs 9,.rs 10,.rs 11]),(9,rI d1),(10,rI d2),(11,.arr (List.map AV.bool d3)),(1000,.box [.sl (List.map U8 d4),I d5,I d6])]) ?_ ?_
  ·replace h := d7
   refine ic h (fun d8 h => ?_) fun d8 h => ?_
   ·obtain ⟨d9,e0,h⟩ := Qdj h
    refine rg hc none [oN,some (.call (K1o d9) [] 9),oN] [(2,.ra 1 0),(4,.ra 5 0)] [(1,.box [I 0,.nils,.nils,.nils]),(5,.box [I d9.fSize,.rs 9,.rs 10,.rs 11]),(9,rI d9.fPlus),(10,rI d9.fTimes),(11,.arr (List.map AV.bool d9.fBelow)),(1000,K1e a6)] (cq (K9d _ _ e0) K2t tv) ?_
    obtain ⟨rfl,hq0⟩ := Prod.mk.inj (Option.some.inj h)
    obtain ⟨rfl,hq1⟩ := Prod.mk.inj (hq0)
    obtain ⟨rfl,hq2⟩ := Prod.mk.inj (hq1)
    obtain ⟨rfl,hq3⟩ := Prod.mk.inj (hq2)
    obtain ⟨rfl,hq4⟩ := Prod.mk.inj (hq3)
    obtain ⟨rfl,rfl⟩ := Prod.mk.inj (hq4)
    exact Qd5.mk
   refine K7p hc 2 [(0,.ra 1000 0),(2,.ra 1 0),(4,.ra 5 0),(23,.bool (a5 == 5))] ?_
   obtain ⟨⟨e1,e2,e3,e4,e5,e6,e7⟩,e8,h⟩ := Qdj h
   refine Wp.into (x := .normal) (mkS [(2,.ra 1 0),(4,.ra 5 0)] [(1,.box [I 0,.nils,.nils,.nils]),(5,.box [I e1,.rs 18,.rs 19,.rs 20]),(18,rI e2),(19,rI e3),(20,.arr (List.map AV.bool e4)),(1000,.box [.sl (List.map U8 e5),I e6,I e7])]) ?_ ?_
   ·replace h := e8
    refine ic h (fun e9 h => ?_) fun e9 h => ?_
    ·obtain ⟨f0,f1,⟨f2,f3⟩,f4,h⟩ := bq2 h
     obtain ⟨f5,f6,⟨f7,f8⟩,f9,h⟩ := bq2 h
     refine rg hc none [some (.call (K1o f0) [] 12),oN,some (.call (I f2) [.optr [.sl (List.map U8 f3.fb),I f3.fi,I f3.fh],.undef] 1),oN,some (.call (K1o f5) [] 15),some (.call (.tup [K1o f7,.bool f8]) [] 18),oN,oN,oN,oN] [(2,.ra 1 0),(4,.ra 5 0)] [(1,.box [I 0,.nils,.nils,.nils]),(5,.box [I f7.fSize,.rs 18,.rs 19,.rs 20]),(18,rI f7.fPlus),(19,rI f7.fTimes),(20,.arr (List.map AV.bool f7.fBelow)),(1000,K1e f3)] (cq (K8z _ _ f1) K2p (ab (K8c _ _ f4) K2h (cq (K9d _ _ f6) K2t (ac (Q75.args (A1 := [K1p f0,K1p f5]) (A2 := [K1h f0,K1h f5]) (by simp only [K1p,List.map_nil,Qed,Qeb]) (Kbl _ _ f9)) K3k (Or.inr (Qel (Qel rfl (Qel (Qej Qef f7.fPlus) (Qel (Qej Qef f7.fTimes) (Qel (Qej Qeh f7.fBelow) rfl)))) (Qel rfl rfl)) : ([12,13,14,15,16,17] : List Nat) = [] ∨ noSh (.tup [K1o f7,.bool f8]) = true) tv)))) ?_
     obtain ⟨rfl,hq0⟩ := Prod.mk.inj (Option.some.inj h)
     obtain ⟨rfl,hq1⟩ := Prod.mk.inj (hq0)
     obtain ⟨rfl,hq2⟩ := Prod.mk.inj (hq1)
     obtain ⟨rfl,hq3⟩ := Prod.mk.inj (hq2)
     obtain ⟨rfl,hq4⟩ := Prod.mk.inj (hq3)
     obtain ⟨rfl,rfl⟩ := Prod.mk.inj (hq4)
     exact Qd5.mk
    refine sk ?_
    obtain ⟨rfl,hq0⟩ := Prod.mk.inj (Option.some.inj h)
    obtain ⟨rfl,hq1⟩ := Prod.mk.inj (hq0)
    obtain ⟨rfl,hq2⟩ := Prod.mk.inj (hq1)
    obtain ⟨rfl,hq3⟩ := Prod.mk.inj (hq2)
    obtain ⟨rfl,hq4⟩ := Prod.mk.inj (hq3)
    obtain ⟨rfl,rfl⟩ := Prod.mk.inj (hq4)
    exact iv [(18,2),(19,3),(20,4)]
   clear e8
   obtain ⟨rfl,hq0⟩ := Prod.mk.inj (Option.some.inj h)
   obtain ⟨rfl,hq1⟩ := Prod.mk.inj (hq0)
   obtain ⟨rfl,hq2⟩ := Prod.mk.inj (hq1)
   obtain ⟨rfl,hq3⟩ := Prod.mk.inj (hq2)
   obtain ⟨rfl,hq4⟩ := Prod.mk.inj (hq3)
   obtain ⟨rfl,rfl⟩ := Prod.mk.inj (hq4)
   exact iv [(9,18),(10,19),(11,20)]
  clear d7
  obtain ⟨rfl,hq0⟩ := Prod.mk.inj (Option.some.inj h)
  obtain ⟨rfl,hq1⟩ := Prod.mk.inj (hq0)
  obtain ⟨rfl,hq2⟩ := Prod.mk.inj (hq1)
  obtain ⟨rfl,hq3⟩ := Prod.mk.inj (hq2)
  obtain ⟨rfl,hq4⟩ := Prod.mk.inj (hq3)
  obtain ⟨rfl,rfl⟩ := Prod.mk.inj (hq4)
  exact iv [(6,9),(7,10),(8,11)]
 clear c3
 refine rs0 hc 2 [(2,.ra 1 0)] [(1,.box [I b5,.rs 6,.rs 7,.rs 8]),(6,rI b6),(7,rI b7),(8,.arr (List.map AV.bool b8)),(1000,.box [.sl (List.map U8 b9),I c1,I c2])] ?_
 refine rt ?_
 obtain rfl := os h
 exact Qdg.ret (fl := [true]) (by kernel_rfl)
def Kbp (c : Ctx) : (List Int) → Exit → Q0a → Prop
 | a0 => Qd5 c (.exit 0) (mkS [(5,.rs 1)] [(1,rI a0)])
def Kbq (p : LL × (List Int) × Int) : Option ((List Int)) :=
 match p with
 | (parts1,a0,a1) =>
  if (decide (a1 < (parts1.length : Int))) = true then
  (idx parts1 a1) >>= fun a2 =>
  (Qdw (a0.length + a2.length) 8) >>= fun _ =>
  Kbq (parts1,(a0 ++ a2),(wr (a1 + 1)))
  else
  some (a0)
 partial_fixpoint
def Kbr (p : LL × (List Int) × Int) (fl : (List Int)) : Prop :=
 match p with
 | (parts1,a0,a1) => ∀ c : Ctx,c.nt = 22 → WpL Tryz.prog c (cl (cl (cr (cl (cr (cr K3n)))))) (Kbp c fl) (mkS [(1,sL parts1),(5,.rs 1),(6,I a1)] [(1,rI a0)])
theorem Kbs : ∀ p r,Kbq p = some r → Kbr p r := by
 refine Kbq.partial_correctness Kbr ?_
 rintro spec_l3Glue_l0_f spec_l3Glue_l0_ih ⟨parts1,a0,a1⟩ r h
 intro c hc
 refine WpL.step ?_
 refine sN ?_
 refine rss hc none [oN,oN,some (.eqv (.no) ⟨[(11,I (parts1.length : Int))],[],[]⟩),oN] [(1,sL parts1),(5,.rs 1),(6,I a1),(12,.bool (decide (a1 < (parts1.length : Int))))] (ai (Qdp (d := 11) K0q parts1) tv) ?_
 refine ic h (fun a2 h => ?_) fun a2 h => ?_
 ·refine sk ?_
  refine sN ?_
  refine bk 1 ?_
  obtain ⟨a3,a4,_,a5,h⟩ := bq2 h
  refine rg hc none [oN,oN,oN,some (.el (sI a3)),oN,some (.eqv (.mk 3 true) ⟨[(20,.rs 3)],[(3,some (rI (a0 ++ a3))),(1,none)],[3]⟩),oN] [(1,sL parts1),(5,.rs 3),(6,I a1)] [(3,rI (a0 ++ a3))] (ac (xL a4) (congrArg (fun z => (⟨[(20,.rs 3)],[(3,some (.arr z)),(1,none)],[3]⟩ : Wr)) ((List.map_append).symm : (List.map I a0) ++ (List.map I a3) = List.map I (a0 ++ a3))) (Qdx (enc1 := I) (enc2 := I) (e1 := a0) (e2 := a3) (sz := 1) Qe6 Qe6 a5) tv) ?_
  refine K7o hc 3 [(1,sL parts1),(5,.rs 3),(6,I (wr (a1 + 1)))] ?_
  refine Qd1 ?_
  exact WpL.view (fun a w hv => SRx.renL [(1,3)] hv (by kernel_rfl) (by kernel_rfl) (by kernel_rfl)) (spec_l3Glue_l0_ih _ _ h c hc)
 refine xt 0 ?_
 refine Qcv ?_
 refine Qd2 ?_
 obtain rfl := os h
 exact iv []
def Kbt (p : Int × LL) : Option ((List Int)) :=
 match p with
 | (c0,parts1) =>
  (Kbq (parts1,[c0],0)) >>= fun a0 =>
  some a0
def Kbu (p : Int × LL) (r : (List Int)) : Prop :=
 match p with
 | (c0,parts1) => Q75 Tryz.prog 155 [I c0,sL parts1] (oI r) []
theorem Kbv : ∀ p r,Kbt p = some r → Kbu p r := by
 rintro ⟨c0,parts1⟩ r h
 unfold Kbt at h
 refine b0 Tryz.f155 K3n 22 [(0,I c0),(1,sL parts1)] fun c hc => ?_
 refine rs0 hc 1 [(0,I c0),(1,sL parts1)] [] ?_
 refine rs hc none [oN,some (.mk 1 true),oN] [(1,sL parts1),(5,.rs 1)] [(1,.arr (List.map I [c0]))] tv ?_
 refine sN ?_
 refine K7p hc 1 [(1,sL parts1),(5,.rs 1),(6,I 0)] ?_
 refine bk 0 ?_
 obtain ⟨a0,a1,h⟩ := Qdj h
 have hL := Kbs _ _ a1 c hc
 refine lp ?_
 refine WpL.into (e := (.exit 0)) (mkS [(5,.rs 1)] [(1,rI a0)]) hL ?_
 refine Qcx ?_
 refine K7p hc 2 [(4,.rs 1)] ?_
 refine rt ?_
 obtain rfl := os h
 exact rq [true]
def Kbw (p : K01 × K02 × Int × Bool) : Option ((List Int) × K01) :=
 match p with
 | (c0,s1,deep2,data3) =>
  (K8a (c0,6)) >>= fun (a0,a1) =>
  ((
  if (decide (deep2 ≤ 0)) = true then
  some (true)
  else
  some ((decide (a0 < 2)))
  ) : Option (Bool)) >>= fun a2 =>
  if a2 = true then
  some ([0],a1)
  else
  (Kbw (a1,s1,(wr (deep2 - 1)),data3)) >>= fun (a3,a4) =>
  if (a0 == 2) = true then
  (K8a (a4,s1.fSize)) >>= fun (a5,a6) =>
  (Kbt ((wr (19 + a5)),[a3])) >>= fun a7 =>
  some (a7,a6)
  else
  ((
  if (a0 == 3) = true then
  some ((!data3))
  else
  some (false)
  ) : Option (Bool)) >>= fun a8 =>
  if a8 = true then
  (K8a (a4,s1.fSize)) >>= fun (a9,b1) =>
  (Kbw (b1,s1,(wr (deep2 - 1)),data3)) >>= fun (b2,b3) =>
  (Kbt ((wr (3 + a9)),[a3,b2])) >>= fun b4 =>
  some (b4,b3)
  else
  if (a0 == 4) = true then
  (Kbw (a4,s1,(wr (deep2 - 1)),data3)) >>= fun (b5,b6) =>
  (Kbt (2,[a3,b5])) >>= fun b7 =>
  some (b7,b6)
  else
  (Kbw (a4,s1,(wr (deep2 - 1)),data3)) >>= fun (b8,b9) =>
  (Kbt (1,[a3,b8])) >>= fun c1 =>
  some (c1,b9)
 partial_fixpoint
def Kbx (p : K01 × K02 × Int × Bool) (r : (List Int) × K01) : Prop :=
 match p with
 | (c0,s1,deep2,data3) => Q75 Tryz.prog 75 [.optr [.sl (List.map U8 c0.fb),I c0.fi,I c0.fh],K1h s1,I deep2,.bool data3] (oI r.1) [.optr [.sl (List.map U8 r.2.fb),I r.2.fi,I r.2.fh],.undef,.undef,.undef]
theorem Kby : ∀ p r,Kbw p = some r → Kbx p r := by
 refine Kbw.partial_correctness Kbx ?_
 rintro spec_dType_f spec_dType_ih ⟨c0,s1,deep2,data3⟩ r h
 refine Q75.bodyO K28 (fn := Tryz.f75) (code := B75) (by kernel_rfl) (by kernel_rfl) (by kernel_rfl) (nt := 79) (by kernel_rfl) (by kernel_rfl) (T := [(0,.ra 1000 0),(1,K1h s1),(2,I deep2),(3,.bool data3)]) (O := [(1000,K1e c0)]) (by kernel_rfl) (by kernel_rfl) (fun c hc => ?_)
 refine rs hc none [some (.new 1),oN] [(0,.ra 1000 0),(2,I deep2),(3,.bool data3),(5,.ra 1 0)] [(1,K1g s1),(1000,K1e c0)] tv ?_
 obtain ⟨⟨a0,a1⟩,a2,h⟩ := Qdj h
 refine rs hc none [oN,some (.call (I a0) [.optr [.sl (List.map U8 a1.fb),I a1.fi,I a1.fh],.undef] 1),oN] [(0,.ra 1000 0),(2,I deep2),(3,.bool data3),(5,.ra 1 0),(9,I a0)] [(1,K1g s1),(1000,K1e a1)] (ab (K8c _ _ a2) K2h tv) ?_
 refine sN ?_
 refine sN ?_
 obtain ⟨a3,a4,h⟩ := Qdj h
 refine Wp.into (x := .normal) (mkS [(0,.ra 1000 0),(2,I deep2),(3,.bool data3),(5,.ra 1 0),(9,I a0),(18,.bool a3)] [(1,K1g s1),(1000,K1e a1)]) ?_ ?_
 ·replace h := a4
  rcases is h with ⟨a5,h⟩ | ⟨a5,h⟩
  ·refine rgs hc none [oN,oN,oN,o_,o_,oT] [(0,.ra 1000 0),(2,I deep2),(3,.bool data3),(5,.ra 1 0),(9,I a0),(18,.bool true)] (ar 2 (neF a5) (ai a5 tv)) ?_
   obtain rfl := os h
   exact Qd5.mk
  refine rgs hc none [oN,oN,oN,oN,oN,oF] [(0,.ra 1000 0),(2,I deep2),(3,.bool data3),(5,.ra 1 0),(9,I a0),(18,.bool (decide (a0 < 2)))] (ar 3 a5 tv) ?_
  obtain rfl := os h
  exact Qd5.mk
 clear a4
 refine ic h (fun a6 h => ?_) fun a6 h => ?_
 ·refine rs hc none [some (.mk 2 true),oN] [(8,.rs 2)] [(2,.arr (List.map I [0])),(1000,K1e a1)] tv ?_
  refine rt ?_
  obtain rfl := os h
  exact Qdg.ret (fl := [true]) (by kernel_rfl)
 refine sk ?_
 obtain ⟨⟨a7,a8⟩,a9,h⟩ := Qdj h
 refine rs hc none [oN,oN,oN,oN,oN,some (.call (oI a7) [.optr [.sl (List.map U8 a8.fb),I a8.fi,I a8.fh],.undef,.undef,.undef] 3),oN] [(0,.ra 1000 0),(2,I deep2),(3,.bool data3),(5,.ra 1 0),(9,I a0),(10,.rs 3)] [(1,K1g s1),(3,rI a7),(1000,K1e a8)] (ab (spec_dType_ih _ _ a9) K3m tv) ?_
 refine sN ?_
 refine bk 0 ?_
 refine K7p hc 3 [(0,.ra 1000 0),(2,I deep2),(3,.bool data3),(5,.ra 1 0),(9,I a0),(10,.rs 3),(26,.bool (a0 == 2))] ?_
 refine ic h (fun b1 h => ?_) fun b1 h => ?_
 ·obtain ⟨⟨b2,b3⟩,b4,h⟩ := Qdj h
  obtain ⟨b5,b6,h⟩ := Qdj h
  refine rs hc none [oN,oN,oN,some (.call (I b2) [.optr [.sl (List.map U8 b3.fb),I b3.fi,I b3.fh],.undef] 1),oN,oN,some (.mk 4 true),some (.call (oI b5) [] 5),oN] [(8,.rs 5)] [(5,rI b5),(1000,K1e b3)] (ad (K8c _ _ b4) K2h (Q75.args (A1 := [I (wr (19 + b2)),.sl (Q02 (List.map K0m [a7]))]) (A2 := [I (wr (19 + b2)),.sl (List.map K0q [a7])]) (by simp only [List.map_nil,K0v]) (Kbv _ _ b6)) K3o (ai (Or.inr (Qej Qef b5) : ([4] : List Nat) = [] ∨ noSh (oI b5) = true) tv)) ?_
  refine rt ?_
  obtain rfl := os h
  exact Qdg.ret (fl := [true]) (by kernel_rfl)
 refine sN ?_
 obtain ⟨b7,b8,h⟩ := Qdj h
 refine Wp.into (x := .normal) (mkS [(0,.ra 1000 0),(2,I deep2),(3,.bool data3),(5,.ra 1 0),(9,I a0),(10,.rs 3),(37,.bool b7)] [(1,K1g s1),(3,rI a7),(1000,K1e a8)]) ?_ ?_
 ·replace h := b8
  rcases is h with ⟨b9,h⟩ | ⟨b9,h⟩
  ·refine rgs hc none [oN,oN,oN,oN,oN,oT,oN] [(0,.ra 1000 0),(2,I deep2),(3,.bool data3),(5,.ra 1 0),(9,I a0),(10,.rs 3),(37,.bool (!data3))] (ar 3 b9 tv) ?_
   obtain rfl := os h
   exact Qd5.mk
  refine rgs hc none [oN,oN,oN,o_,o_,oF,oN] [(0,.ra 1000 0),(2,I deep2),(3,.bool data3),(5,.ra 1 0),(9,I a0),(10,.rs 3),(37,.bool false)] (ar 2 (neT b9) (ai b9 tv)) ?_
  obtain rfl := os h
  exact Qd5.mk
 clear b8
 refine ic h (fun c1 h => ?_) fun c1 h => ?_
 ·obtain ⟨⟨c2,c3⟩,c4,h⟩ := Qdj h
  obtain ⟨⟨c5,c6⟩,c7,h⟩ := Qdj h
  obtain ⟨c8,c9,h⟩ := Qdj h
  refine rs hc (rx [[0],[0],[0,1],[3],[4],[0],[0],[0],[0],[0,8],[0],[4,6,7,8,9,10],[4,5,6,7,8,9,10,11],[13],[14]]) [oN,oN,oN,some (.call (I c2) [.optr [.sl (List.map U8 c3.fb),I c3.fi,I c3.fh],.undef] 1),oN,oN,oN,oN,oN,oN,oN,some (.call (oI c5) [.optr [.sl (List.map U8 c6.fb),I c6.fi,I c6.fh],.undef,.undef,.undef] 6),some (.mk 7 true),some (.call (oI c8) [] 8),oN] [(8,.rs 8)] [(8,rI c8),(1000,K1e c6)] (ad (K8c _ _ c4) K2h (spec_dType_ih _ _ c7) K3m (ac (Q75.args (A1 := [I (wr (3 + c2)),.sl (Q02 (List.map K0m [a7,c5]))]) (A2 := [I (wr (3 + c2)),.sl (List.map K0q [a7,c5])]) (by simp only [List.map_nil,K0v]) (Kbv _ _ c9)) K3o (Or.inr (Qej Qef c8) : ([7] : List Nat) = [] ∨ noSh (oI c8) = true) tv)) ?_
  refine rt ?_
  obtain rfl := os h
  exact Qdg.ret (fl := [true]) (by kernel_rfl)
 refine K7p hc 3 [(0,.ra 1000 0),(2,I deep2),(3,.bool data3),(5,.ra 1 0),(10,.rs 3),(58,.bool (a0 == 4))] ?_
 refine ic h (fun d0 h => ?_) fun d0 h => ?_
 ·obtain ⟨⟨d1,d2⟩,d3,h⟩ := Qdj h
  obtain ⟨d4,d5,h⟩ := Qdj h
  refine rs hc none [oN,oN,oN,oN,oN,oN,some (.call (oI d1) [.optr [.sl (List.map U8 d2.fb),I d2.fi,I d2.fh],.undef,.undef,.undef] 9),some (.mk 10 true),some (.call (oI d4) [] 11),oN] [(8,.rs 11)] [(11,rI d4),(1000,K1e d2)] (ad (spec_dType_ih _ _ d3) K3m (Q75.args (A1 := [I 2,.sl (Q02 (List.map K0m [a7,d1]))]) (A2 := [I 2,.sl (List.map K0q [a7,d1])]) (by simp only [List.map_nil,K0v]) (Kbv _ _ d5)) K3o (ai (Or.inr (Qej Qef d4) : ([10] : List Nat) = [] ∨ noSh (oI d4) = true) tv)) ?_
  refine rt ?_
  obtain rfl := os h
  exact Qdg.ret (fl := [true]) (by kernel_rfl)
 refine sk ?_
 obtain ⟨⟨d6,d7⟩,d8,h⟩ := Qdj h
 obtain ⟨d9,e0,h⟩ := Qdj h
 refine rs hc none [oN,oN,oN,oN,oN,oN,some (.call (oI d6) [.optr [.sl (List.map U8 d7.fb),I d7.fi,I d7.fh],.undef,.undef,.undef] 12),some (.mk 13 true),some (.call (oI d9) [] 14),oN] [(8,.rs 14)] [(14,rI d9),(1000,K1e d7)] (ad (spec_dType_ih _ _ d8) K3m (Q75.args (A1 := [I 1,.sl (Q02 (List.map K0m [a7,d6]))]) (A2 := [I 1,.sl (List.map K0q [a7,d6])]) (by simp only [List.map_nil,K0v]) (Kbv _ _ e0)) K3o (ai (Or.inr (Qej Qef d9) : ([13] : List Nat) = [] ∨ noSh (oI d9) = true) tv)) ?_
 refine rt ?_
 obtain rfl := os h
 exact Qdg.ret (fl := [true]) (by kernel_rfl)
def Kbz (c : Ctx) : LL × (List Int) × Int × Int → Exit → Q0a → Prop
 | (a0,a1,a2,a3) => Qd5 c (.exit 0) (mkS [(9,.rs 2)] [(2,.arr (List.map K0m a0)),(1000,.box [.sl (List.map U8 a1),I a2,I a3])])
def Kc0 (p : K02 × Bool × (List Int) × Int × Int × LL × Int) : Option (LL × (List Int) × Int × Int) :=
 match p with
 | (s1,data3,a0,a1,a2,a3,a4) =>
  if (decide (a4 > 0)) = true then
  (Kbw ((K01.mk a0 a1 a2),s1,2,data3)) >>= fun (a5,a6) =>
  (Qdw (a3.length + [a5].length) 24) >>= fun _ =>
  Kc0 (s1,data3,a6.fb,a6.fi,a6.fh,(a3 ++ [a5]),(wr (a4 - 1)))
  else
  some ((a3,a0,a1,a2))
 partial_fixpoint
def Kc1 (p : K02 × Bool × (List Int) × Int × Int × LL × Int) (fl : LL × (List Int) × Int × Int) : Prop :=
 match p with
 | (s1,data3,a0,a1,a2,a3,a4) => ∀ c : Ctx,c.nt = 28 → WpL Tryz.prog c (cl (cl (cr (cl (cr (cr K3p)))))) (Kbz c fl) (mkS [(0,.ra 1000 0),(3,.bool data3),(5,.ra 1 0),(9,.rs 2),(10,I a4)] [(1,K1g s1),(2,.arr (List.map K0m a3)),(1000,.box [.sl (List.map U8 a0),I a1,I a2])])
theorem Kc2 : ∀ p r,Kc0 p = some r → Kc1 p r := by
 refine Kc0.partial_correctness Kc1 ?_
 rintro spec_dContext_l0_f spec_dContext_l0_ih ⟨s1,data3,a0,a1,a2,a3,a4⟩ r h
 intro c hc
 refine WpL.step ?_
 refine sN ?_
 refine K7p hc 2 [(0,.ra 1000 0),(3,.bool data3),(5,.ra 1 0),(9,.rs 2),(10,I a4),(17,.bool (decide (a4 > 0)))] ?_
 refine ic h (fun a5 h => ?_) fun a5 h => ?_
 ·refine sk ?_
  refine sN ?_
  refine bk 1 ?_
  obtain ⟨⟨a6,a7⟩,a8,h⟩ := Qdj h
  obtain ⟨_,a9,h⟩ := Qdj h
  refine rg hc none [oN,oN,oN,oN,some (.call (oI a6) [.optr [.sl (List.map U8 a7.fb),I a7.fi,I a7.fh],.undef,.undef,.undef] 6),some (.mk 7 true),some (.eqv (.mk 8 true) ⟨[(26,.rs 8)],[(8,some (.arr (List.map K0m (a3 ++ [a6])))),(2,none),(7,none)],[8]⟩),oN] [(0,.ra 1000 0),(3,.bool data3),(5,.ra 1 0),(9,.rs 8),(10,I a4)] [(1,K1g s1),(8,.arr (List.map K0m (a3 ++ [a6]))),(1000,K1e a7)] (ad (Kby _ _ a8) K3m (congrArg (fun z => (⟨[(26,.rs 8)],[(8,some (.arr z)),(2,none),(7,none)],[8]⟩ : Wr)) ((List.map_append).symm : (List.map K0m a3) ++ (List.map K0m [a6]) = List.map K0m (a3 ++ [a6]))) (Qdx (enc1 := K0m) (enc2 := K0m) (e1 := a3) (e2 := [a6]) (sz := 1) K0p K0p a9) tv) ?_
  refine K7o hc 3 [(0,.ra 1000 0),(3,.bool data3),(5,.ra 1 0),(9,.rs 8),(10,I (wr (a4 - 1)))] ?_
  refine Qd1 ?_
  exact WpL.view (fun a w hv => SRx.renL [(2,8)] hv (by kernel_rfl) (by kernel_rfl) (by kernel_rfl)) (spec_dContext_l0_ih _ _ h c hc)
 refine xt 0 ?_
 refine Qcv ?_
 refine Qd2 ?_
 obtain ⟨rfl,hq0⟩ := Prod.mk.inj (Option.some.inj h)
 obtain ⟨rfl,hq1⟩ := Prod.mk.inj (hq0)
 obtain ⟨rfl,rfl⟩ := Prod.mk.inj (hq1)
 exact iv []
def Kc3 (p : K01 × K02 × Int × Bool) : Option (LL × K01) :=
 match p with
 | (c0,s1,most2,data3) =>
  (K8a (c0,(wr (most2 + 1)))) >>= fun (a0,a1) =>
  (Kc0 (s1,data3,a1.fb,a1.fi,a1.fh,[],a0)) >>= fun (a2,a3,a4,a5) =>
  some (a2,(K01.mk a3 a4 a5))
def Kc4 (p : K01 × K02 × Int × Bool) (r : LL × K01) : Prop :=
 match p with
 | (c0,s1,most2,data3) => Q75 Tryz.prog 200 [.optr [.sl (List.map U8 c0.fb),I c0.fi,I c0.fh],K1h s1,I most2,.bool data3] (.osl (List.map K0m r.1)) [.optr [.sl (List.map U8 r.2.fb),I r.2.fi,I r.2.fh],.undef,.undef,.undef]
theorem Kc5 : ∀ p r,Kc3 p = some r → Kc4 p r := by
 rintro ⟨c0,s1,most2,data3⟩ r h
 unfold Kc3 at h
 refine Q75.bodyO K28 (fn := Tryz.f200) (code := K3p) (by kernel_rfl) (by kernel_rfl) (by kernel_rfl) (nt := 28) (by kernel_rfl) (by kernel_rfl) (T := [(0,.ra 1000 0),(1,K1h s1),(2,I most2),(3,.bool data3)]) (O := [(1000,K1e c0)]) (by kernel_rfl) (by kernel_rfl) (fun c hc => ?_)
 refine rs hc none [some (.new 1),oN] [(0,.ra 1000 0),(2,I most2),(3,.bool data3),(5,.ra 1 0)] [(1,K1g s1),(1000,K1e c0)] tv ?_
 refine rs hc none [some (.mk 2 true),oN] [(0,.ra 1000 0),(2,I most2),(3,.bool data3),(5,.ra 1 0),(9,.rs 2)] [(1,K1g s1),(2,.arr (List.map K0m [])),(1000,K1e c0)] tv ?_
 refine sN ?_
 obtain ⟨⟨a0,a1⟩,a2,h⟩ := Qdj h
 refine rs hc none [oN,oN,oN,some (.call (I a0) [.optr [.sl (List.map U8 a1.fb),I a1.fi,I a1.fh],.undef] 1),oN] [(0,.ra 1000 0),(3,.bool data3),(5,.ra 1 0),(9,.rs 2),(10,I a0)] [(1,K1g s1),(2,.arr (List.map K0m [])),(1000,K1e a1)] (ab (K8c _ _ a2) K2h tv) ?_
 refine bk 0 ?_
 obtain ⟨⟨a3,a4,a5,a6⟩,a7,h⟩ := Qdj h
 have hL := Kc2 _ _ a7 c hc
 refine lp ?_
 refine WpL.into (e := (.exit 0)) (mkS [(9,.rs 2)] [(2,.arr (List.map K0m a3)),(1000,.box [.sl (List.map U8 a4),I a5,I a6])]) hL ?_
 refine Qcx ?_
 refine K7p hc 2 [(8,.rs 2)] ?_
 refine rt ?_
 obtain rfl := os h
 exact Qdg.ret (fl := [true]) (by kernel_rfl)
def Kc6 (c : Ctx) : (Unit) ⊕ (Bool) → Exit → Q0a → Prop
 | .inl _ => Qd5 c (.exit 0) (mkS [] [])
 | .inr r => Qde TIx Tryz.f147 [] (.bool r)
def Kc7 (p : (List Int) × (List Int) × Int) : Option ((Unit) ⊕ (Bool)) :=
 match p with
 | (a0,b1,a1) =>
  if (decide (a1 < (a0.length : Int))) = true then
  (idx a0 a1) >>= fun a2 =>
  (idx b1 a1) >>= fun a3 =>
  if (a2 != a3) = true then
  some (.inr false)
  else
  Kc7 (a0,b1,(wr (a1 + 1)))
  else
  some (.inl ())
 partial_fixpoint
def Kc8 (p : (List Int) × (List Int) × Int) (fl : (Unit) ⊕ (Bool)) : Prop :=
 match p with
 | (a0,b1,a1) => ∀ c : Ctx,c.nt = 26 → WpL Tryz.prog c (cl (cl (cr (cl (cr (cr K3r)))))) (Kc6 c fl) (mkS [(0,sI a0),(1,sI b1),(5,I a1)] [])
theorem Kc9 : ∀ p r,Kc7 p = some r → Kc8 p r := by
 refine Kc7.partial_correctness Kc8 ?_
 rintro spec_l1Same_l0_f spec_l1Same_l0_ih ⟨a0,b1,a1⟩ r h
 intro c hc
 refine WpL.step ?_
 refine sN ?_
 refine rs hc none [oN,oN,some (.eqv (.no) ⟨[(13,I (a0.length : Int))],[],[]⟩),oN] [(0,sI a0),(1,sI b1),(5,I a1),(14,.bool (decide (a1 < (a0.length : Int))))] [] (ai (Qdp (d := 13) I a0) tv) ?_
 refine ic h (fun a2 h => ?_) fun a2 h => ?_
 ·refine sk ?_
  refine sN ?_
  refine bk 1 ?_
  obtain ⟨a3,a4,a5,a6,h⟩ := bq2 h
  refine rs hc (rx [[0],[0],[2],[3],[0],[0],[0,4,5],[0,4,5,6],[8]]) [oN,oN,some (.el (I a3)),oN,oN,oN,some (.el (I a5)),oN,oN] [(0,sI a0),(1,sI b1),(5,I a1),(25,.bool (a3 != a5))] [] (ab (ix a4) (ix a6) tv) ?_
  refine ic h (fun a7 h => ?_) fun a7 h => ?_
  ·refine rs0 hc 1 [(4,.bool false)] [] ?_
   refine rt ?_
   obtain rfl := os h
   exact re [true]
  refine sk ?_
  refine rg0 hc 3 [(0,sI a0),(1,sI b1),(5,I (wr (a1 + 1)))] [] ?_
  refine Qd1 ?_
  exact (spec_l1Same_l0_ih _ _ h c hc)
 refine xt 0 ?_
 refine Qcv ?_
 refine Qd2 ?_
 obtain rfl := os h
 exact iv []
def Kca (p : (List Int) × (List Int)) : Option (Bool) :=
 match p with
 | (a0,b1) =>
  if ((a0.length : Int) != (b1.length : Int)) = true then
  some false
  else
  (Kc7 (a0,b1,0)) >>= fun fl => match fl with
  | .inl () =>
   some true
  | .inr r =>
   some r
def Kcb (p : (List Int) × (List Int)) (r : Bool) : Prop :=
 match p with
 | (a0,b1) => Q75 Tryz.prog 147 [sI a0,sI b1] (.bool r) []
theorem Kcc : ∀ p r,Kca p = some r → Kcb p r := by
 rintro ⟨a0,b1⟩ r h
 unfold Kca at h
 refine b0 Tryz.f147 K3r 26 [(0,sI a0),(1,sI b1)] fun c hc => ?_
 refine rs0 hc 1 [(0,sI a0),(1,sI b1)] [] ?_
 refine sN ?_
 refine rs hc none [oN,some (.eqv (.no) ⟨[(7,I (a0.length : Int))],[],[]⟩),oN,some (.eqv (.no) ⟨[(9,I (b1.length : Int))],[],[]⟩),oN] [(0,sI a0),(1,sI b1),(10,.bool ((a0.length : Int) != (b1.length : Int)))] [] (ab (Qdp (d := 7) I a0) (Qdp (d := 9) I b1) tv) ?_
 refine ic h (fun a1 h => ?_) fun a1 h => ?_
 ·refine rs0 hc 1 [(4,.bool false)] [] ?_
  refine rt ?_
  obtain rfl := os h
  exact rq [true]
 refine sk ?_
 refine sN ?_
 refine rs0 hc 1 [(0,sI a0),(1,sI b1),(5,I 0)] [] ?_
 refine bk 0 ?_
 obtain ⟨fl,a2,h⟩ := Qdj h
 have hL := Kc9 _ _ a2 c hc
 refine lp ?_
 rcases fl with ⟨⟩ | r
 ·refine WpL.into (e := (.exit 0)) (mkS [] []) hL ?_
  refine Qcx ?_
  refine rs0 hc 1 [(4,.bool true)] [] ?_
  refine rt ?_
  obtain rfl := os h
  exact rq [true]
 refine WpL.mono hL ?_
 rintro _ _ ⟨rfl,hfin⟩
 obtain rfl := os h
 exact ⟨.inl rfl,hfin⟩
def Kcd (p : Int × Int × (List K00)) : Option (K00) :=
 match p with
 | (op0,n1,Kud) =>
  some (K00.mk op0 n1 [] Kud)
def Kce (p : Int × Int × (List K00)) (r : K00) : Prop :=
 match p with
 | (op0,n1,Kud) => Q75 Tryz.prog 182 [I op0,I n1,.sl (List.map K05 Kud)] (K1d r) []
theorem Kcf : ∀ p r,Kcd p = some r → Kce p r := by
 rintro ⟨op0,n1,Kud⟩ r h
 unfold Kcd at h
 refine b0 Tryz.f182 K3t 11 [(0,I op0),(1,I n1),(2,.sl (List.map K05 Kud))] fun c hc => ?_
 refine rs hc none [some (.new 1)] [(0,I op0),(1,I n1),(2,.sl (List.map K05 Kud)),(6,.ra 1 0)] [(1,.box [I 0,I 0,.nils,.nils])] tv ?_
 refine rs0 hc 5 [(6,.ra 1 0)] [(1,.box [I op0,I n1,.nils,.sl (List.map K05 Kud)])] ?_
 refine rt ?_
 obtain rfl := os h
 exact rq [false]
def Kcg (c0 : Int) : Option (Bool) :=
 ((
 (K8g (c0,3,18)) >>= fun a0 =>
 if a0 = true then
 some (true)
 else
 some ((c0 == 35))
 ) : Option (Bool)) >>= fun a1 =>
 some a1
def Kch (c0 : Int) (r : Bool) : Prop :=
 Q75 Tryz.prog 215 [I c0] (.bool r) []
theorem Kci : ∀ p r,Kcg p = some r → Kch p r := by
 rintro c0 r h
 unfold Kcg at h
 refine b0 Tryz.f215 K3z 9 [(0,I c0)] fun c hc => ?_
 refine rs0 hc 1 [(0,I c0)] [] ?_
 refine sN ?_
 obtain ⟨a0,a1,h⟩ := Qdj h
 refine Wp.into (x := .normal) (mkS [(2,.bool a0)] []) ?_ ?_
 ·replace h := a1
  obtain ⟨a2,a3,h⟩ := Qdj h
  rcases is h with ⟨a4,h⟩ | ⟨a4,h⟩
  ·refine rg hc none [oN,oc (.bool a2),oN,o_,o_,oT,oN] [(2,.bool true)] [] (cq (K8i _ _ a3) K2k (ar 2 (neF a4) (ai a4 tv))) ?_
   obtain rfl := os h
   exact Qd5.mk
  refine rg hc none [oN,oc (.bool a2),oN,oN,oN,oF,oN] [(2,.bool (c0 == 35))] [] (cq (K8i _ _ a3) K2k (ar 3 a4 tv)) ?_
  obtain rfl := os h
  exact Qd5.mk
 clear a1
 refine rt ?_
 obtain rfl := os h
 exact rq [true]
def Kcj (c0 : Int) : Option (Bool) :=
 ((
 (K8g (c0,19,34)) >>= fun a0 =>
 if a0 = true then
 some (true)
 else
 some ((c0 == 36))
 ) : Option (Bool)) >>= fun a1 =>
 some a1
def Kck (c0 : Int) (r : Bool) : Prop :=
 Q75 Tryz.prog 185 [I c0] (.bool r) []
theorem Kcl : ∀ p r,Kcj p = some r → Kck p r := by
 rintro c0 r h
 unfold Kcj at h
 refine b0 Tryz.f185 K41 9 [(0,I c0)] fun c hc => ?_
 refine rs0 hc 1 [(0,I c0)] [] ?_
 refine sN ?_
 obtain ⟨a0,a1,h⟩ := Qdj h
 refine Wp.into (x := .normal) (mkS [(2,.bool a0)] []) ?_ ?_
 ·replace h := a1
  obtain ⟨a2,a3,h⟩ := Qdj h
  rcases is h with ⟨a4,h⟩ | ⟨a4,h⟩
  ·refine rg hc none [oN,oc (.bool a2),oN,o_,o_,oT,oN] [(2,.bool true)] [] (cq (K8i _ _ a3) K2k (ar 2 (neF a4) (ai a4 tv))) ?_
   obtain rfl := os h
   exact Qd5.mk
  refine rg hc none [oN,oc (.bool a2),oN,oN,oN,oF,oN] [(2,.bool (c0 == 36))] [] (cq (K8i _ _ a3) K2k (ar 3 a4 tv)) ?_
  obtain rfl := os h
  exact Qd5.mk
 clear a1
 refine rt ?_
 obtain rfl := os h
 exact rq [true]
def Kcm (c0 : Int) : Option (Int) :=
 if (c0 == 0) = true then
 some 0
 else
 ((
 if (c0 == 1) = true then
 some (true)
 else
 if (c0 == 2) = true then
 some (true)
 else
 (Kcg c0) >>= fun a0 =>
 some (a0)
 ) : Option (Bool)) >>= fun a1 =>
 if a1 = true then
 some 2
 else
 (Kcj c0) >>= fun a2 =>
 if a2 = true then
 some 1
 else
 some (-1)
def Kcn (c0 : Int) (r : Int) : Prop :=
 Q75 Tryz.prog 168 [I c0] (I r) []
theorem Kco : ∀ p r,Kcm p = some r → Kcn p r := by
 rintro c0 r h
 unfold Kcm at h
 refine b0 Tryz.f168 K43 20 [(0,I c0)] fun c hc => ?_
 refine rs0 hc 1 [(0,I c0)] [] ?_
 refine sN ?_
 refine bk 0 ?_
 refine rs0 hc 3 [(0,I c0),(3,.bool (c0 == 0))] [] ?_
 refine ic h (fun a0 h => ?_) fun a0 h => ?_
 ·refine rs0 hc 1 [(2,I 0)] [] ?_
  refine rt ?_
  obtain rfl := os h
  exact rq [true]
 refine sN ?_
 obtain ⟨a1,a2,h⟩ := Qdj h
 refine Wp.into (x := .normal) (mkS [(0,I c0),(6,.bool a1)] []) ?_ ?_
 ·replace h := a2
  rcases is h with ⟨a3,h⟩ | ⟨a3,h⟩
  ·refine rg hc none [oN,oN,oN,o_,o_,oT,oN,o_,o_,oT,oN] [(0,I c0),(6,.bool true)] [] (ar 2 (neF a3) (ai a3 (ar 2 nf (ai tt tv)))) ?_
   obtain rfl := os h
   exact Qd5.mk
  rcases is h with ⟨a4,h⟩ | ⟨a4,h⟩
  ·refine rg hc none [oN,oN,oN,oN,oN,oF,oN,o_,o_,oT,oN] [(0,I c0),(6,.bool true)] [] (ar 3 a3 (ar 2 (neF a4) (ai a4 tv))) ?_
   obtain rfl := os h
   exact Qd5.mk
  obtain ⟨a5,a6,h⟩ := Qdj h
  refine rg hc none [oN,oN,oN,oN,oN,oF,oN,oN,oc (.bool a5),oF,oN] [(0,I c0),(6,.bool a5)] [] (ar 3 a3 (ar 2 a4 (cq (Kci _ _ a6) K40 (ai a4 tv)))) ?_
  obtain rfl := os h
  exact Qd5.mk
 clear a2
 refine ic h (fun a7 h => ?_) fun a7 h => ?_
 ·refine rs0 hc 1 [(2,I 2)] [] ?_
  refine rt ?_
  obtain rfl := os h
  exact rq [true]
 obtain ⟨a8,a9,h⟩ := Qdj h
 refine rs hc none [oN,oc (.bool a8),oN] [(17,.bool a8)] [] (cq (Kcl _ _ a9) K42 tv) ?_
 refine ic h (fun b1 h => ?_) fun b1 h => ?_
 ·refine rs0 hc 1 [(2,I 1)] [] ?_
  refine rt ?_
  obtain rfl := os h
  exact rq [true]
 refine sk ?_
 refine rs0 hc 1 [(2,I (-1))] [] ?_
 refine rt ?_
 obtain rfl := os h
 exact rq [true]
def Kcp (c : Ctx) : (Unit) ⊕ (Int) → Exit → Q0a → Prop
 | .inl _ => Qd5 c (.exit 0) (mkS [] [])
 | .inr r => Qde TIx Tryz.f167 [] (I r)
def Kcq (p : (List Int) × Int × Int) : Option ((Unit) ⊕ (Int)) :=
 match p with
 | (ty0,a0,a1) =>
  if (decide (a1 < (ty0.length : Int))) = true then
  (idx ty0 a1) >>= fun a2 =>
  (Kcm a2) >>= fun a3 =>
  if (decide (a3 < 0)) = true then
  some (.inr (-1))
  else
  if ((wr ((wr (a0 - 1)) + a3)) == 0) = true then
  some (.inr (wr (a1 + 1)))
  else
  Kcq (ty0,(wr ((wr (a0 - 1)) + a3)),(wr (a1 + 1)))
  else
  some (.inl ())
 partial_fixpoint
def Kcr (p : (List Int) × Int × Int) (fl : (Unit) ⊕ (Int)) : Prop :=
 match p with
 | (ty0,a0,a1) => ∀ c : Ctx,c.nt = 30 → WpL Tryz.prog c (cl (cl (cr (cl (cr (cr K45)))))) (Kcp c fl) (mkS [(0,sI ty0),(5,I a0),(6,I a1)] [])
theorem Kcs : ∀ p r,Kcq p = some r → Kcr p r := by
 refine Kcq.partial_correctness Kcr ?_
 rintro spec_l2End_l0_f spec_l2End_l0_ih ⟨ty0,a0,a1⟩ r h
 intro c hc
 refine WpL.step ?_
 refine sN ?_
 refine rs hc none [oN,oN,some (.eqv (.no) ⟨[(11,I (ty0.length : Int))],[],[]⟩),oN] [(0,sI ty0),(5,I a0),(6,I a1),(12,.bool (decide (a1 < (ty0.length : Int))))] [] (ai (Qdp (d := 11) I ty0) tv) ?_
 refine ic h (fun a2 h => ?_) fun a2 h => ?_
 ·refine sk ?_
  refine sN ?_
  refine bk 1 ?_
  obtain ⟨a3,a4,a5,a6,h⟩ := bq2 h
  refine rs hc none [oN,oN,some (.el (I a3)),oN,oc (I a5),oN] [(0,sI ty0),(5,I a0),(6,I a1),(7,I a5)] [] (ai (ix a4) (cq (Kco _ _ a6) K44 tv)) ?_
  refine sN ?_
  refine rs0 hc 2 [(0,sI ty0),(5,I a0),(6,I a1),(7,I a5),(21,.bool (decide (a5 < 0)))] [] ?_
  refine ic h (fun a7 h => ?_) fun a7 h => ?_
  ·refine rs0 hc 1 [(4,I (-1))] [] ?_
   refine rt ?_
   obtain rfl := os h
   exact re [true]
  refine sk ?_
  refine rs0 hc 5 [(0,sI ty0),(5,I (wr ((wr (a0 - 1)) + a5))),(6,I a1)] [] ?_
  refine rs0 hc 2 [(0,sI ty0),(5,I (wr ((wr (a0 - 1)) + a5))),(6,I a1),(27,.bool ((wr ((wr (a0 - 1)) + a5)) == 0))] [] ?_
  refine ic h (fun a8 h => ?_) fun a8 h => ?_
  ·refine rs0 hc 3 [(4,I (wr (a1 + 1)))] [] ?_
   refine rt ?_
   obtain rfl := os h
   exact re [true]
  refine sk ?_
  refine rg0 hc 3 [(0,sI ty0),(5,I (wr ((wr (a0 - 1)) + a5))),(6,I (wr (a1 + 1)))] [] ?_
  refine Qd1 ?_
  exact (spec_l2End_l0_ih _ _ h c hc)
 refine xt 0 ?_
 refine Qcv ?_
 refine Qd2 ?_
 obtain rfl := os h
 exact iv []
def Kct (p : (List Int) × Int) : Option (Int) :=
 match p with
 | (ty0,at1) =>
  (Kcq (ty0,1,at1)) >>= fun fl => match fl with
  | .inl () =>
   some (-1)
  | .inr r =>
   some r
def Kcu (p : (List Int) × Int) (r : Int) : Prop :=
 match p with
 | (ty0,at1) => Q75 Tryz.prog 167 [sI ty0,I at1] (I r) []
theorem Kcv : ∀ p r,Kct p = some r → Kcu p r := by
 rintro ⟨ty0,at1⟩ r h
 unfold Kct at h
 refine b0 Tryz.f167 K45 30 [(0,sI ty0),(1,I at1)] fun c hc => ?_
 refine rs0 hc 1 [(0,sI ty0),(1,I at1)] [] ?_
 refine rs0 hc 1 [(0,sI ty0),(1,I at1),(5,I 1)] [] ?_
 refine sN ?_
 refine rs0 hc 2 [(0,sI ty0),(5,I 1),(6,I at1)] [] ?_
 refine bk 0 ?_
 obtain ⟨fl,a0,h⟩ := Qdj h
 have hL := Kcs _ _ a0 c hc
 refine lp ?_
 rcases fl with ⟨⟩ | r
 ·refine WpL.into (e := (.exit 0)) (mkS [] []) hL ?_
  refine Qcx ?_
  refine rs0 hc 1 [(4,I (-1))] [] ?_
  refine rt ?_
  obtain rfl := os h
  exact rq [true]
 refine WpL.mono hL ?_
 rintro _ _ ⟨rfl,hfin⟩
 obtain rfl := os h
 exact ⟨.inl rfl,hfin⟩
def Kcw (l0 : (List Int)) : Option ((List Int)) :=
 (Qdw (([] : List Int).length + l0.length) 8) >>= fun _ =>
 some l0
def Kcx (l0 : (List Int)) (r : (List Int)) : Prop :=
 Q75 Tryz.prog 176 [sI l0] (oI r) []
theorem Kcy : ∀ p r,Kcw p = some r → Kcx p r := by
 rintro l0 r h
 unfold Kcw at h
 refine b0 Tryz.f176 K47 6 [(0,sI l0)] fun c hc => ?_
 refine rs0 hc 1 [(0,sI l0)] [] ?_
 obtain ⟨_,a0,h⟩ := Qdj h
 refine rs hc none [some (.mk 1 true),oN,some (.eqv (.mk 2 true) ⟨[(5,.rs 2)],[(2,some (rI l0)),(1,none)],[2]⟩),oN] [(2,.rs 2)] [(2,rI l0)] (ab (congrArg (fun z => (⟨[(5,.rs 2)],[(2,some (.arr z)),(1,none)],[2]⟩ : Wr)) (List.nil_append _ : [] ++ (List.map I l0) = List.map I l0)) (Qdx (enc1 := I) (enc2 := I) (e1 := []) (e2 := l0) (sz := 1) Qe6 Qe6 a0) tv) ?_
 refine rt ?_
 obtain rfl := os h
 exact rq [true]
def Kcz (p : (List Int) × Int) : Option ((List Int)) :=
 match p with
 | (ty0,k1) =>
  (Kct (ty0,1)) >>= fun a0 =>
  if (k1 == 0) = true then
  (cut ty0 (some 1) (some a0) none) >>= fun a1 =>
  (Kcw a1) >>= fun a2 =>
  some a2
  else
  (cut ty0 (some a0) none none) >>= fun a3 =>
  (Kcw a3) >>= fun a4 =>
  some a4
def Kd0 (p : (List Int) × Int) (r : (List Int)) : Prop :=
 match p with
 | (ty0,k1) => Q75 Tryz.prog 178 [sI ty0,I k1] (oI r) []
theorem Kd1 : ∀ p r,Kcz p = some r → Kd0 p r := by
 rintro ⟨ty0,k1⟩ r h
 unfold Kcz at h
 refine b0 Tryz.f178 K49 18 [(0,sI ty0),(1,I k1)] fun c hc => ?_
 refine rs0 hc 1 [(0,sI ty0),(1,I k1)] [] ?_
 obtain ⟨a0,a1,h⟩ := Qdj h
 refine rs hc none [oN,oc (I a0),oN] [(0,sI ty0),(1,I k1),(5,I a0)] [] (cq (Kcv _ _ a1) K46 tv) ?_
 refine sN ?_
 refine rs0 hc 2 [(0,sI ty0),(5,I a0),(9,.bool (k1 == 0))] [] ?_
 refine ic h (fun a2 h => ?_) fun a2 h => ?_
 ·obtain ⟨a3,a4,a5,a6,h⟩ := bq2 h
  refine rs hc none [oN,oN,some (.eqv (.no) ⟨[(12,sI a3)],[],[]⟩),oc (oI a5),oN] [(4,.rs 1)] [(1,rI a5)] (ab (Qds (d := 12) I a4) (Qdr (enc := I) (sz := 1) Qe2 a4) (cq (Kcy _ _ a6) K48 tv)) ?_
  refine rt ?_
  obtain rfl := os h
  exact rq [true]
 refine sk ?_
 obtain ⟨a7,a8,a9,b1,h⟩ := bq2 h
 refine rs hc none [oN,oN,some (.eqv (.no) ⟨[(16,sI a7)],[],[]⟩),some (.call (oI a9) [] 2),oN] [(4,.rs 2)] [(2,rI a9)] (ab (Qds (d := 16) I a8) (Qdr (enc := I) (sz := 1) Qe2 a8) (cq (Kcy _ _ b1) K48 tv)) ?_
 refine rt ?_
 obtain rfl := os h
 exact rq [true]
def Kd2 (c0 : Int) : Option (Int) :=
 if (decide (c0 ≥ 35)) = true then
 some (-1)
 else
 if (decide (c0 ≥ 19)) = true then
 some (wr (c0 - 19))
 else
 some (wr (c0 - 3))
def Kd3 (c0 : Int) (r : Int) : Prop :=
 Q75 Tryz.prog 169 [I c0] (I r) []
theorem Kd4 : ∀ p r,Kd2 p = some r → Kd3 p r := by
 rintro c0 r h
 unfold Kd2 at h
 refine b0 Tryz.f169 K4b 13 [(0,I c0)] fun c hc => ?_
 refine rs0 hc 1 [(0,I c0)] [] ?_
 refine sN ?_
 refine bk 0 ?_
 refine rs0 hc 3 [(0,I c0),(3,.bool (decide (c0 ≥ 35)))] [] ?_
 refine ic h (fun a0 h => ?_) fun a0 h => ?_
 ·refine rs0 hc 1 [(2,I (-1))] [] ?_
  refine rt ?_
  obtain rfl := os h
  exact rq [true]
 refine rs0 hc 3 [(0,I c0),(6,.bool (decide (c0 ≥ 19)))] [] ?_
 refine ic h (fun a1 h => ?_) fun a1 h => ?_
 ·refine rs0 hc 3 [(2,I (wr (c0 - 19)))] [] ?_
  refine rt ?_
  obtain rfl := os h
  exact rq [true]
 refine sk ?_
 refine rs0 hc 3 [(2,I (wr (c0 - 3)))] [] ?_
 refine rt ?_
 obtain rfl := os h
 exact rq [true]
def Kd5 (p : LL × LL) : Option (LL) :=
 match p with
 | (ctx0,front1) =>
  (Qdw (([] : LL).length + front1.length) 24) >>= fun _ =>
  (Qdw (front1.length + ctx0.length) 24) >>= fun _ =>
  some (front1 ++ ctx0)
def Kd6 (p : LL × LL) (r : LL) : Prop :=
 match p with
 | (ctx0,front1) => Q75 Tryz.prog 233 [sL ctx0,sL front1] (.osl (List.map K0q r)) []
theorem Kd7 : ∀ p r,Kd5 p = some r → Kd6 p r := by
 rintro ⟨ctx0,front1⟩ r h
 unfold Kd5 at h
 refine b0 Tryz.f233 K4f 10 [(0,sL ctx0),(1,sL front1)] fun c hc => ?_
 refine rs0 hc 1 [(0,sL ctx0),(1,sL front1)] [] ?_
 obtain ⟨_,a0,_,a1,h⟩ := bq2 h
 refine rs hc none [some (.mk 1 true),oN,some (.eqv (.mk 2 true) ⟨[(7,.rs 2)],[(2,some (.arr (List.map K0q front1))),(1,none)],[2]⟩),oN,some (.eqv (.mk 3 true) ⟨[(9,.rs 3)],[(3,some (.arr (List.map K0q (front1 ++ ctx0)))),(2,none)],[3]⟩),oN] [(4,.rs 3)] [(3,.arr (List.map K0q (front1 ++ ctx0)))] (ad (congrArg (fun z => (⟨[(7,.rs 2)],[(2,some (.arr z)),(1,none)],[2]⟩ : Wr)) (List.nil_append _ : [] ++ (List.map K0q front1) = List.map K0q front1)) (Qdx (enc1 := K0m) (enc2 := K0q) (e1 := []) (e2 := front1) (sz := 1) K0p K0t a0) (congrArg (fun z => (⟨[(9,.rs 3)],[(3,some (.arr z)),(2,none)],[3]⟩ : Wr)) ((List.map_append).symm : (List.map K0q front1) ++ (List.map K0q ctx0) = List.map K0q (front1 ++ ctx0))) (Qdx (enc1 := K0q) (enc2 := K0q) (e1 := front1) (e2 := ctx0) (sz := 1) K0t K0t a1) tv) ?_
 refine rt ?_
 obtain rfl := os h
 exact rq [true]
def Kd8 (n0 : Int) : Option ((List Int)) :=
 (chk (0 ≤ n0 ∧ (Int.toNat n0) * 8 ≤ 140737488355328)) >>= fun _ =>
 some (List.replicate (Int.toNat n0) 0)
def Kd9 (n0 : Int) (r : (List Int)) : Prop :=
 Q75 Tryz.prog 232 [I n0] (oI r) []
theorem Kda : ∀ p r,Kd8 p = some r → Kd9 p r := by
 rintro n0 r h
 unfold Kd8 at h
 refine b0 Tryz.f232 K4h 5 [(0,I n0)] fun c hc => ?_
 refine rs0 hc 1 [(0,I n0)] [] ?_
 obtain ⟨_,a0,h⟩ := Qdj h
 refine rs hc none [oN,some (.eqv (.mk 1 true) ⟨[(4,.rs 1)],[(1,some (.arr (List.map I (List.replicate (Int.toNat n0) 0))))],[1]⟩),oN] [(2,.rs 1)] [(1,.arr (List.map I (List.replicate (Int.toNat n0) 0)))] (ab (congrArg (fun z => (⟨[(4,.rs 1)],[(1,some (.arr z))],[1]⟩ : Wr)) (Qeo (enc := I) (n := Int.toNat n0) (x := I 0) (Qdy 0))) (And.intro (Eq.refl n0) (Qdl a0)) tv) ?_
 refine rt ?_
 obtain rfl := os h
 exact rq [true]
def Kdb (fault0 : Int) : Option (K03) :=
 some (K03.mk [] [] fault0 [])
def Kdc (fault0 : Int) (r : K03) : Prop :=
 Q75 Tryz.prog 235 [I fault0] (K1q r) []
theorem Kdd : ∀ p r,Kdb p = some r → Kdc p r := by
 rintro fault0 r h
 unfold Kdb at h
 refine b0 Tryz.f235 K4l 5 [(0,I fault0)] fun c hc => ?_
 refine rs hc none [some (.new 1)] [(0,I fault0),(2,.ra 1 0)] [(1,.box [.nils,.nils,I 0,.nils])] tv ?_
 refine rs0 hc 3 [(2,.ra 1 0)] [(1,.box [.nils,.nils,I fault0,.nils])] ?_
 refine rt ?_
 obtain rfl := os h
 exact rq [true]
def Kde (c : Ctx) : (List Int) → Exit → Q0a → Prop
 | a0 => Qd5 c (.exit 0) (mkS [(9,.rs 2)] [(2,rI a0)])
def Kdf (p : K02 × (List Int) × Int × (List Int) × (List Int) × Int) : Option ((List Int)) :=
 match p with
 | (s0,a1,g2,b3,a0,a2) =>
  if (decide (a2 < (a1.length : Int))) = true then
  (idx a1 a2) >>= fun a3 =>
  (idx b3 a2) >>= fun a4 =>
  (K9s (s0,g2,a4)) >>= fun a5 =>
  (K9p (s0,a3,a5)) >>= fun a6 =>
  (Qdw (a0.length + [a6].length) 8) >>= fun _ =>
  Kdf (s0,a1,g2,b3,(a0 ++ [a6]),(wr (a2 + 1)))
  else
  some (a0)
 partial_fixpoint
def Kdg (p : K02 × (List Int) × Int × (List Int) × (List Int) × Int) (fl : (List Int)) : Prop :=
 match p with
 | (s0,a1,g2,b3,a0,a2) => ∀ c : Ctx,c.nt = 35 → WpL Tryz.prog c (cl (cl (cr (cl (cr (cr K4p)))))) (Kde c fl) (mkS [(1,sI a1),(2,I g2),(3,sI b3),(4,.ra 1 0),(9,.rs 2),(10,I a2)] [(1,K1g s0),(2,rI a0)])
theorem Kdh : ∀ p r,Kdf p = some r → Kdg p r := by
 refine Kdf.partial_correctness Kdg ?_
 rintro spec_l3Sum_l0_f spec_l3Sum_l0_ih ⟨s0,a1,g2,b3,a0,a2⟩ r h
 intro c hc
 refine WpL.step ?_
 refine sN ?_
 refine rss hc none [oN,oN,some (.eqv (.no) ⟨[(14,I (a1.length : Int))],[],[]⟩),oN] [(1,sI a1),(2,I g2),(3,sI b3),(4,.ra 1 0),(9,.rs 2),(10,I a2),(15,.bool (decide (a2 < (a1.length : Int))))] (ai (Qdp (d := 14) I a1) tv) ?_
 refine ic h (fun a3 h => ?_) fun a3 h => ?_
 ·refine sk ?_
  refine sN ?_
  refine bk 1 ?_
  obtain ⟨a4,a5,a6,a7,a8,a9,b1,b2,h⟩ := bq4 h
  obtain ⟨_,b4,h⟩ := Qdj h
  refine rg hc (rx [[0],[0],[0],[0],[0,2,3],[0,2,3,4],[0],[0],[0],[0],[0,8,9],[0,8,9,10],[0,6,7,8,9,10,11],[0,1,2,3,4,5,6,7,8,9,10,11,12],[0,1,2,3,4,5,6,7,8,9,10,11,12,13],[15],[16]]) [oN,oN,oN,oN,some (.el (I a4)),oN,oN,oN,oN,oN,some (.el (I a6)),oN,oc (I a8),oc (I b1),some (.mk 5 true),some (.eqv (.mk 6 true) ⟨[(33,.rs 6)],[(6,some (rI (a0 ++ [b1]))),(2,none),(5,none)],[6]⟩),oN] [(1,sI a1),(2,I g2),(3,sI b3),(4,.ra 1 0),(9,.rs 6),(10,I a2)] [(1,K1g s0),(6,rI (a0 ++ [b1]))] (ab (ix a5) (ix a7) (cq (K9u _ _ a9) K2z (cq (K9r _ _ b2) K2x (ab (congrArg (fun z => (⟨[(33,.rs 6)],[(6,some (.arr z)),(2,none),(5,none)],[6]⟩ : Wr)) ((List.map_append).symm : (List.map I a0) ++ (List.map I [b1]) = List.map I (a0 ++ [b1]))) (Qdx (enc1 := I) (enc2 := I) (e1 := a0) (e2 := [b1]) (sz := 1) Qe6 Qe6 b4) tv)))) ?_
  refine K7o hc 3 [(1,sI a1),(2,I g2),(3,sI b3),(4,.ra 1 0),(9,.rs 6),(10,I (wr (a2 + 1)))] ?_
  refine Qd1 ?_
  exact WpL.view (fun a w hv => SRx.renL [(2,6)] hv (by kernel_rfl) (by kernel_rfl) (by kernel_rfl)) (spec_l3Sum_l0_ih _ _ h c hc)
 refine xt 0 ?_
 refine Qcv ?_
 refine Qd2 ?_
 obtain rfl := os h
 exact iv []
def Kdi (p : K02 × (List Int) × Int × (List Int)) : Option ((List Int)) :=
 match p with
 | (s0,a1,g2,b3) =>
  (Kdf (s0,a1,g2,b3,[],0)) >>= fun a0 =>
  some a0
def Kdj (p : K02 × (List Int) × Int × (List Int)) (r : (List Int)) : Prop :=
 match p with
 | (s0,a1,g2,b3) => Q75 Tryz.prog 238 [K1h s0,sI a1,I g2,sI b3] (oI r) []
theorem Kdk : ∀ p r,Kdi p = some r → Kdj p r := by
 rintro ⟨s0,a1,g2,b3⟩ r h
 unfold Kdi at h
 refine b0 Tryz.f238 K4p 35 [(0,K1h s0),(1,sI a1),(2,I g2),(3,sI b3)] fun c hc => ?_
 refine rs hc none [some (.new 1),oN] [(1,sI a1),(2,I g2),(3,sI b3),(4,.ra 1 0)] [(1,K1g s0)] tv ?_
 refine rs hc none [some (.mk 2 true),oN] [(1,sI a1),(2,I g2),(3,sI b3),(4,.ra 1 0),(9,.rs 2)] [(1,K1g s0),(2,.arr (List.map I []))] tv ?_
 refine sN ?_
 refine K7p hc 1 [(1,sI a1),(2,I g2),(3,sI b3),(4,.ra 1 0),(9,.rs 2),(10,I 0)] ?_
 refine bk 0 ?_
 obtain ⟨a0,a2,h⟩ := Qdj h
 have hL := Kdh _ _ a2 c hc
 refine lp ?_
 refine WpL.into (e := (.exit 0)) (mkS [(9,.rs 2)] [(2,rI a0)]) hL ?_
 refine Qcx ?_
 refine K7p hc 2 [(8,.rs 2)] ?_
 refine rt ?_
 obtain rfl := os h
 exact rq [true]
def Kdl (p : (List Int) × (List Int)) : Option (K03) :=
 match p with
 | (ty0,needs1) =>
  if (decide ((ty0.length : Int) > 40)) = true then
  (Kdb 3) >>= fun a0 =>
  some a0
  else
  some (K03.mk ty0 needs1 0 [])
def Kdm (p : (List Int) × (List Int)) (r : K03) : Prop :=
 match p with
 | (ty0,needs1) => Q75 Tryz.prog 237 [sI ty0,sI needs1] (K1j r) []
theorem Kdn : ∀ p r,Kdl p = some r → Kdm p r := by
 rintro ⟨ty0,needs1⟩ r h
 unfold Kdl at h
 refine b0 Tryz.f237 K4r 12 [(0,sI ty0),(1,sI needs1)] fun c hc => ?_
 refine rs hc none [some (.new 1)] [(0,sI ty0),(1,sI needs1),(4,.ra 1 0)] [(1,.box [.nils,.nils,I 0,.nils])] tv ?_
 refine sN ?_
 refine rss hc none [oN,some (.eqv (.no) ⟨[(6,I (ty0.length : Int))],[],[]⟩),oN] [(0,sI ty0),(1,sI needs1),(4,.ra 1 0),(7,.bool (decide ((ty0.length : Int) > 40)))] (ai (Qdp (d := 6) I ty0) tv) ?_
 refine ic h (fun a0 h => ?_) fun a0 h => ?_
 ·obtain ⟨a1,a2,h⟩ := Qdj h
  refine rs hc none [some (.call (K1q a1) [] 2),oN] [(4,.ra 1 0)] [(1,.box [.rs 2,.rs 3,I a1.ffault,.rs 4]),(2,rI a1.fty),(3,rI a1.fneeds),(4,rI a1.fpath)] (cq (Kdd _ _ a2) K4m tv) ?_
  refine vz 2 (Qeb a1.fty) [(4,.ra 1 0)] [(1,.box [sI a1.fty,.rs 3,I a1.ffault,.rs 4]),(3,rI a1.fneeds),(4,rI a1.fpath)] ?_
  refine vz 3 (Qeb a1.fneeds) [(4,.ra 1 0)] [(1,.box [sI a1.fty,sI a1.fneeds,I a1.ffault,.rs 4]),(4,rI a1.fpath)] ?_
  refine vz 4 (Qeb a1.fpath) [(4,.ra 1 0)] [(1,K1i a1)] ?_
  refine rt ?_
  obtain rfl := os h
  exact rq [false]
 refine sk ?_
 refine rs0 hc 4 [(4,.ra 1 0)] [(1,.box [sI ty0,sI needs1,I 0,.nils])] ?_
 refine rt ?_
 obtain rfl := os h
 exact rq [false]
def Kdo (c : Ctx) : (List Int) → Exit → Q0a → Prop
 | a0 => Qd5 c (.exit 0) (mkS [(7,.rs 2)] [(2,rI a0)])
def Kdp (p : K02 × (List Int) × (List Int) × (List Int) × Int) : Option ((List Int)) :=
 match p with
 | (s0,a1,b2,a0,a2) =>
  if (decide (a2 < (a1.length : Int))) = true then
  (idx a1 a2) >>= fun a3 =>
  (idx b2 a2) >>= fun a4 =>
  (Ka9 (s0,a3,a4)) >>= fun a5 =>
  (Qdw (a0.length + [a5].length) 8) >>= fun _ =>
  Kdp (s0,a1,b2,(a0 ++ [a5]),(wr (a2 + 1)))
  else
  some (a0)
 partial_fixpoint
def Kdq (p : K02 × (List Int) × (List Int) × (List Int) × Int) (fl : (List Int)) : Prop :=
 match p with
 | (s0,a1,b2,a0,a2) => ∀ c : Ctx,c.nt = 30 → WpL Tryz.prog c (cl (cl (cr (cl (cr (cr K4x)))))) (Kdo c fl) (mkS [(1,sI a1),(2,sI b2),(3,.ra 1 0),(7,.rs 2),(8,I a2)] [(1,K1g s0),(2,rI a0)])
theorem Kdr : ∀ p r,Kdp p = some r → Kdq p r := by
 refine Kdp.partial_correctness Kdq ?_
 rintro spec_l3Join_l0_f spec_l3Join_l0_ih ⟨s0,a1,b2,a0,a2⟩ r h
 intro c hc
 refine WpL.step ?_
 refine sN ?_
 refine rss hc none [oN,oN,some (.eqv (.no) ⟨[(12,I (a1.length : Int))],[],[]⟩),oN] [(1,sI a1),(2,sI b2),(3,.ra 1 0),(7,.rs 2),(8,I a2),(13,.bool (decide (a2 < (a1.length : Int))))] (ai (Qdp (d := 12) I a1) tv) ?_
 refine ic h (fun a3 h => ?_) fun a3 h => ?_
 ·refine sk ?_
  refine sN ?_
  refine bk 1 ?_
  obtain ⟨a4,a5,a6,a7,a8,a9,_,b1,h⟩ := bq4 h
  refine rg hc (rx [[0],[0],[0],[0],[0,2,3],[0,2,3,4],[0],[0],[0,6,7],[0,6,7,8],[0,1,2,3,4,5,6,7,8,9],[0,1,2,3,4,5,6,7,8,9,10],[12],[13]]) [oN,oN,oN,oN,some (.el (I a4)),oN,oN,oN,some (.el (I a6)),oN,oc (I a8),some (.mk 5 true),some (.eqv (.mk 6 true) ⟨[(28,.rs 6)],[(6,some (rI (a0 ++ [a8]))),(2,none),(5,none)],[6]⟩),oN] [(1,sI a1),(2,sI b2),(3,.ra 1 0),(7,.rs 6),(8,I a2)] [(1,K1g s0),(6,rI (a0 ++ [a8]))] (ab (ix a5) (ix a7) (cq (Kab _ _ a9) K35 (ab (congrArg (fun z => (⟨[(28,.rs 6)],[(6,some (.arr z)),(2,none),(5,none)],[6]⟩ : Wr)) ((List.map_append).symm : (List.map I a0) ++ (List.map I [a8]) = List.map I (a0 ++ [a8]))) (Qdx (enc1 := I) (enc2 := I) (e1 := a0) (e2 := [a8]) (sz := 1) Qe6 Qe6 b1) tv))) ?_
  refine K7o hc 3 [(1,sI a1),(2,sI b2),(3,.ra 1 0),(7,.rs 6),(8,I (wr (a2 + 1)))] ?_
  refine Qd1 ?_
  exact WpL.view (fun a w hv => SRx.renL [(2,6)] hv (by kernel_rfl) (by kernel_rfl) (by kernel_rfl)) (spec_l3Join_l0_ih _ _ h c hc)
 refine xt 0 ?_
 refine Qcv ?_
 refine Qd2 ?_
 obtain rfl := os h
 exact iv []
def Kds (p : K02 × (List Int) × (List Int)) : Option ((List Int)) :=
 match p with
 | (s0,a1,b2) =>
  (Kdp (s0,a1,b2,[],0)) >>= fun a0 =>
  some a0
def Kdt (p : K02 × (List Int) × (List Int)) (r : (List Int)) : Prop :=
 match p with
 | (s0,a1,b2) => Q75 Tryz.prog 253 [K1h s0,sI a1,sI b2] (oI r) []
theorem Kdu : ∀ p r,Kds p = some r → Kdt p r := by
 rintro ⟨s0,a1,b2⟩ r h
 unfold Kds at h
 refine b0 Tryz.f253 K4x 30 [(0,K1h s0),(1,sI a1),(2,sI b2)] fun c hc => ?_
 refine rs hc none [some (.new 1),oN] [(1,sI a1),(2,sI b2),(3,.ra 1 0)] [(1,K1g s0)] tv ?_
 refine rs hc none [some (.mk 2 true),oN] [(1,sI a1),(2,sI b2),(3,.ra 1 0),(7,.rs 2)] [(1,K1g s0),(2,.arr (List.map I []))] tv ?_
 refine sN ?_
 refine K7p hc 1 [(1,sI a1),(2,sI b2),(3,.ra 1 0),(7,.rs 2),(8,I 0)] ?_
 refine bk 0 ?_
 obtain ⟨a0,a2,h⟩ := Qdj h
 have hL := Kdr _ _ a2 c hc
 refine lp ?_
 refine WpL.into (e := (.exit 0)) (mkS [(7,.rs 2)] [(2,rI a0)]) hL ?_
 refine Qcx ?_
 refine K7p hc 2 [(6,.rs 2)] ?_
 refine rt ?_
 obtain rfl := os h
 exact rq [true]
def Kdv (c : Ctx) (s0 : K02) (ctx1 : LL) (t2 : K00) (a3 : K03) (a0 : K03) : ((List Int) × Bool) ⊕ (K03) → Exit → Q0a → Prop
 | .inl (a1,a2) => Qd5 c .normal (mkS [(1,sL ctx1),(4,.ra 1 0),(6,.ra 2 0),(7,.ra 3 0),(8,.ra 4 0),(11,.ra 21 0),(13,I t2.fN),(14,.rs 27),(15,.bool a2)] [(1,K1g s0),(2,K1c t2),(3,K1i a3),(4,.box [.nils,.nils,I 0,.nils]),(21,K1i a0),(27,rI a1)])
 | .inr r => Qde TIx Tryz.f239 [] (K1j r)
def Kdw (c : Ctx) (s0 : K02) (ctx1 : LL) (t2 : K00) (a3 : K03) (a0 : K03) : ((List Int) × Bool) ⊕ (K03) → Exit → Q0a → Prop
 | .inl (a1,a2) => Qd5 c .normal (mkS [(1,sL ctx1),(4,.ra 1 0),(6,.ra 2 0),(7,.ra 3 0),(8,.ra 4 0),(11,.ra 21 0),(13,I t2.fN),(14,.rs 22),(15,.bool a2)] [(1,K1g s0),(2,K1c t2),(3,K1i a3),(4,.box [.nils,.nils,I 0,.nils]),(21,K1i a0),(22,rI a1)])
 | .inr r => Qde TIx Tryz.f239 [] (K1j r)
def Kdx (c : Ctx) (s0 : K02) (ctx1 : LL) (t2 : K00) (a3 : K03) (a0 : K03) : (Int × (List Int) × Bool) ⊕ (K03) → Exit → Q0a → Prop
 | .inl (a1,a2,a4) => Qd5 c .normal (mkS [(1,sL ctx1),(4,.ra 1 0),(6,.ra 2 0),(7,.ra 3 0),(8,.ra 4 0),(11,.ra 21 0),(13,I a1),(14,.rs 22),(15,.bool a4)] [(1,K1g s0),(2,K1c t2),(3,K1i a3),(4,.box [.nils,.nils,I 0,.nils]),(21,K1i a0),(22,rI a2)])
 | .inr r => Qde TIx Tryz.f239 [] (K1j r)
end Go.Am
