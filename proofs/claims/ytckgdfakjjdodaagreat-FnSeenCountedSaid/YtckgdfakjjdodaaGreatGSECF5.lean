/- Walks, printed. -/
import Derived.Test.YtckgdfakjjdodaaGreatGSECF2
set_option linter.unusedVariables false
set_option linter.unusedSimpArgs false
set_option maxRecDepth 100000
namespace Go.Am
open Go Go.Proofs
def Kaw : Option (List (List Nat)) := rx [[0],[1],[2],[3],[3],[5],[6],[3],[3],[3,8],[3,7,8,9],[3,7,8,9,10],[12],[13]]
def Kax (c : Ctx) : (Unit) ⊕ (Bool) → Exit → Q0a → Prop
 | .inl _ => Qde c (.exit 0) (mkS [] [])
 | .inr r => Qdn TIx Tryz.f177 [] (.bool r)
def Kay (p : K00 × (List Bool) × Int) : Option ((Unit) ⊕ (Bool)) :=
 match p with
 | (s0,in1,a0) =>
  if (decide (a0 < s0.fSize)) = true then
  (Kat (s0,in1,a0,0)) >>= fun fl => match fl with
  | .inl () =>
   Kay (s0,in1,(wr (a0 + 1)))
  | .inr r =>
   some (.inr r)
  else
  some (.inl ())
 partial_fixpoint
def Kaz (p : K00 × (List Bool) × Int) (fl : (Unit) ⊕ (Bool)) : Prop :=
 match p with
 | (s0,in1,a0) => ∀ c : Ctx,c.nt = 85 → WpL Tryz.prog c (cl (cl (cr (cl (cr (cr K3e)))))) (Kax c fl) (mkS [(1,sB in1),(2,.ra 1 0),(5,I a0)] [(1,K19 s0)])
theorem Kb0 : ∀ p r,Kay p = some r → Kaz p r := by
 refine Kay.partial_correctness Kaz ?_
 rintro spec_l1View_l1_f spec_l1View_l1_ih ⟨s0,in1,a0⟩ r h
 intro c hc
 refine WpL.step ?_
 refine sN ?_
 refine K6n hc 4 [(1,sB in1),(2,.ra 1 0),(5,I a0),(19,.bool (decide (a0 < s0.fSize)))] ?_
 refine ic h (fun a1 h => ?_) fun a1 h => ?_
 ·refine sk ?_
  refine sN ?_
  refine bk 1 ?_
  refine K6n hc 1 [(1,sB in1),(2,.ra 1 0),(5,I a0),(6,I 0)] ?_
  refine bk 2 ?_
  obtain ⟨fl,a2,h⟩ := Qds h
  have hL := Kav _ _ a2 c hc
  refine lp ?_
  rcases fl with ⟨⟩ | r
  ·refine WpL.into (e := (.exit 2)) (mkS [(1,sB in1),(2,.ra 1 0),(5,I a0)] [(1,K19 s0)]) hL ?_
   refine Qd6 ?_
   refine K6m hc 3 [(1,sB in1),(2,.ra 1 0),(5,I (wr (a0 + 1)))] ?_
   refine Qda ?_
   exact (spec_l1View_l1_ih _ _ h c hc)
  refine WpL.mono hL ?_
  rintro _ _ ⟨rfl,hfin⟩
  obtain rfl := os h
  exact ⟨rfl,hfin⟩
 refine xt 0 ?_
 refine Qd4 ?_
 refine Qdb ?_
 obtain rfl := os h
 exact iv []
def Kb1 (p : K00 × (List Bool)) : Option (Bool) :=
 match p with
 | (s0,in1) =>
  ((
  (idx in1 0) >>= fun a0 =>
  if a0 = true then
   some (true)
  else
   (idx in1 1) >>= fun a1 =>
   some ((!a1))
  ) : Option (Bool)) >>= fun a2 =>
  if a2 = true then
  some false
  else
  (Kay (s0,in1,0)) >>= fun fl => match fl with
  | .inl () =>
   some true
  | .inr r =>
   some r
def Kb2 (p : K00 × (List Bool)) (r : Bool) : Prop :=
 match p with
 | (s0,in1) => Q75 Tryz.prog 177 [K1a s0,sB in1] (.bool r) []
theorem Kb3 : ∀ p r,Kb1 p = some r → Kb2 p r := by
 rintro ⟨s0,in1⟩ r h
 unfold Kb1 at h
 refine b0 Tryz.f177 K3e 85 [(0,K1a s0),(1,sB in1)] fun c hc => ?_
 refine rs hc none [some (.new 1),oN] [(1,sB in1),(2,.ra 1 0)] [(1,K19 s0)] tv ?_
 refine sN ?_
 refine sN ?_
 obtain ⟨a0,a1,h⟩ := Qds h
 refine Wp.into (x := .normal) (mkS [(1,sB in1),(2,.ra 1 0),(15,.bool a0)] [(1,K19 s0)]) ?_ ?_
 ·replace h := a1
  obtain ⟨a2,a3,h⟩ := Qds h
  rcases is h with ⟨a4,h⟩ | ⟨a4,h⟩
  ·refine rgs hc none [oN,some (.el (.bool a2)),oN,oN,o_,o_,o_,o_,oT] [(1,sB in1),(2,.ra 1 0),(15,.bool true)] (ai (Qdw (enc := AV.bool) (x := .bool a2) a3 (Qe9 a2)) (ar 4 (neF a4) (ai a4 tv))) ?_
   obtain rfl := os h
   exact Qde.mk
  obtain ⟨a5,a6,h⟩ := Qds h
  refine rgs hc none [oN,some (.el (.bool a2)),oN,oN,oN,some (.el (.bool a5)),oN,oN,oF] [(1,sB in1),(2,.ra 1 0),(15,.bool (!a5))] (ai (Qdw (enc := AV.bool) (x := .bool a2) a3 (Qe9 a2)) (ar 2 a4 (ai (Qdw (enc := AV.bool) (x := .bool a5) a6 (Qe9 a5)) (ar 3 a4 tv)))) ?_
  obtain rfl := os h
  exact Qde.mk
 clear a1
 refine ic h (fun a7 h => ?_) fun a7 h => ?_
 ·refine rs0 hc 1 [(4,.bool false)] [] ?_
  refine rt ?_
  obtain rfl := os h
  exact rq [true]
 refine sk ?_
 refine sN ?_
 refine K6n hc 1 [(1,sB in1),(2,.ra 1 0),(5,I 0)] ?_
 refine bk 0 ?_
 obtain ⟨fl,a8,h⟩ := Qds h
 have hL := Kb0 _ _ a8 c hc
 refine lp ?_
 rcases fl with ⟨⟩ | r
 ·refine WpL.into (e := (.exit 0)) (mkS [] []) hL ?_
  refine Qd6 ?_
  refine rs0 hc 1 [(4,.bool true)] [] ?_
  refine rt ?_
  obtain rfl := os h
  exact rq [true]
 refine WpL.mono hL ?_
 rintro _ _ ⟨rfl,hfin⟩
 obtain rfl := os h
 exact ⟨.inl rfl,hfin⟩
def Kb4 (c : Ctx) : (List Int) → Exit → Q0a → Prop
 | a0 => Qde c (.exit 0) (mkS [(7,.rs 2)] [(2,rI a0)])
def Kb5 (c : Ctx) : LL → Exit → Q0a → Prop
 | a0 => Qde c (.exit 2) (mkS [(9,.rs 8)] [(8,.arr (List.map K0j a0))])
def Kb6 (p : K00 × (List Bool) × (List Int) × Int) : Option ((List Int)) :=
 match p with
 | (s0,in1,a0,a1) =>
  if (decide (a1 < s0.fSize)) = true then
  (idx in1 a1) >>= fun a2 =>
  ((
  if a2 = true then
  (Qe5 (a0.length + [a1].length) 8) >>= fun _ =>
  some ((a0 ++ [a1]))
  else
  some (a0)
  ) : Option ((List Int))) >>= fun a3 =>
  Kb6 (s0,in1,a3,(wr (a1 + 1)))
  else
  some (a0)
 partial_fixpoint
def Kb7 (p : K00 × (List Bool) × (List Int) × Int) (fl : (List Int)) : Prop :=
 match p with
 | (s0,in1,a0,a1) => ∀ c : Ctx,c.nt = 58 → WpL Tryz.prog c (cl (cl (cr (cl (cr (cr (cl (cr (cl (cr K3g)))))))))) (Kb4 c fl) (mkS [(1,sB in1),(3,.ra 1 0),(7,.rs 2),(8,I a1)] [(1,K19 s0),(2,rI a0)])
theorem Kb8 : ∀ p r,Kb6 p = some r → Kb7 p r := by
 refine Kb6.partial_correctness Kb7 ?_
 rintro spec_l1Views_l0_f spec_l1Views_l0_ih ⟨s0,in1,a0,a1⟩ r h
 intro c hc
 refine WpL.step ?_
 refine sN ?_
 refine K6n hc 4 [(1,sB in1),(3,.ra 1 0),(7,.rs 2),(8,I a1),(24,.bool (decide (a1 < s0.fSize)))] ?_
 refine ic h (fun a2 h => ?_) fun a2 h => ?_
 ·refine sk ?_
  refine sN ?_
  refine bk 1 ?_
  obtain ⟨a3,a4,h⟩ := Qds h
  refine rss hc none [oN,oN,some (.el (.bool a3)),oN] [(1,sB in1),(3,.ra 1 0),(7,.rs 2),(8,I a1),(30,.bool a3)] (ai (Qdw (enc := AV.bool) (x := .bool a3) a4 (Qe9 a3)) tv) ?_
  obtain ⟨a5,a6,h⟩ := Qds h
  refine Wp.into (x := .normal) (mkS [(1,sB in1),(3,.ra 1 0),(7,.rs 6),(8,I a1)] [(1,K19 s0),(6,rI a5)]) ?_ ?_
  ·replace h := a6
   refine ic h (fun a7 h => ?_) fun a7 h => ?_
   ·obtain ⟨_,a8,h⟩ := Qds h
    refine rg hc none [oN,oN,some (.mk 5 true),some (.eqv (.mk 6 true) ⟨[(34,.rs 6)],[(6,some (rI (a0 ++ [a1]))),(2,none),(5,none)],[6]⟩),oN] [(1,sB in1),(3,.ra 1 0),(7,.rs 6),(8,I a1)] [(1,K19 s0),(6,rI (a0 ++ [a1]))] (ab (congrArg (fun z => (⟨[(34,.rs 6)],[(6,some (.arr z)),(2,none),(5,none)],[6]⟩ : Wr)) ((List.map_append).symm : (List.map I a0) ++ (List.map I [a1]) = List.map I (a0 ++ [a1]))) (Qe6 (enc1 := I) (enc2 := I) (e1 := a0) (e2 := [a1]) (sz := 1) Qef Qef a8) tv) ?_
    obtain rfl := os h
    exact Qde.mk
   refine sk ?_
   obtain rfl := os h
   exact iv [(6,2)]
  clear a6
  refine K6m hc 3 [(1,sB in1),(3,.ra 1 0),(7,.rs 6),(8,I (wr (a1 + 1)))] ?_
  refine Qda ?_
  exact WpL.view (fun a w hv => SRx.renL [(2,6)] hv (by kernel_rfl) (by kernel_rfl) (by kernel_rfl)) (spec_l1Views_l0_ih _ _ h c hc)
 refine xt 0 ?_
 refine Qd4 ?_
 refine Qdb ?_
 obtain rfl := os h
 exact iv []
mutual
def Kb9 (p : K00 × (List Bool) × Int) : Option (LL) :=
 match p with
 | (s0,in1,g2) =>
  if (g2 == s0.fSize) = true then
  (Kb1 (s0,in1)) >>= fun a0 =>
  if a0 = true then
  (Kb6 (s0,in1,[],0)) >>= fun a1 =>
  some [a1]
  else
  some []
  else
  (Kba (s0,in1,g2,[],0)) >>= fun a2 =>
  some a2
 partial_fixpoint
def Kba (p : K00 × (List Bool) × Int × LL × Int) : Option (LL) :=
 match p with
 | (s0,in1,g2,a0,a1) =>
  if (decide (a1 < 2)) = true then
  (Qe5 (([] : List Bool).length + in1.length) 1) >>= fun _ =>
  (idx in1 g2) >>= fun a2 =>
  (Kb9 (s0,(List.set in1 (Int.toNat g2) (a1 == 0)),(wr (g2 + 1)))) >>= fun a3 =>
  (Qe5 (a0.length + a3.length) 24) >>= fun _ =>
  Kba (s0,in1,g2,(a0 ++ a3),(wr (a1 + 1)))
  else
  some (a0)
 partial_fixpoint
end
def Kbb (p : K00 × (List Bool) × Int) (r : LL) : Prop :=
 match p with
 | (s0,in1,g2) => Q75 Tryz.prog 223 [K1a s0,sB in1,I g2] (.osl (List.map K0j r)) []
def Kbc (p : K00 × (List Bool) × Int × LL × Int) (fl : LL) : Prop :=
 match p with
 | (s0,in1,g2,a0,a1) => ∀ c : Ctx,c.nt = 58 → WpL Tryz.prog c (cl (cl (cr (cl (cr (cr (cr K3g))))))) (Kb5 c fl) (mkS [(1,sB in1),(2,I g2),(3,.ra 1 0),(9,.rs 8),(10,I a1)] [(1,K19 s0),(8,.arr (List.map K0j a0))])
theorem Kbd : (∀ p r,Kb9 p = some r → Kbb p r) ∧ (∀ p r,Kba p = some r → Kbc p r) := by
 refine Kb9.mutual_partial_correctness Kbb Kbc ?_ ?_
 ·rintro spec_l1Views_l1_f spec_l1Views_l1_ih ⟨s0,in1,g2⟩ r h
  refine b0 Tryz.f223 K3g 58 [(0,K1a s0),(1,sB in1),(2,I g2)] fun c hc => ?_
  refine rs hc none [some (.new 1),oN] [(1,sB in1),(2,I g2),(3,.ra 1 0)] [(1,K19 s0)] tv ?_
  refine sN ?_
  refine K6n hc 4 [(1,sB in1),(2,I g2),(3,.ra 1 0),(15,.bool (g2 == s0.fSize))] ?_
  refine ic h (fun a0 h => ?_) fun a0 h => ?_
  ·refine sN ?_
   obtain ⟨a1,a2,h⟩ := Qds h
   refine rss hc none [oN,oN,oc (.bool a1),oN] [(1,sB in1),(3,.ra 1 0),(19,.bool (!a1))] (cq (Kb3 _ _ a2) K3f tv) ?_
   rcases is h with ⟨a3,h⟩ | ⟨a3,h⟩
   ·refine cF (!a1) (nF a3) ?_
    refine sk ?_
    refine rs hc none [some (.mk 2 true),oN] [(1,sB in1),(3,.ra 1 0),(7,.rs 2)] [(1,K19 s0),(2,.arr (List.map I []))] tv ?_
    refine sN ?_
    refine K6n hc 1 [(1,sB in1),(3,.ra 1 0),(7,.rs 2),(8,I 0)] ?_
    refine bk 0 ?_
    obtain ⟨a4,a5,h⟩ := Qds h
    have hL := Kb8 _ _ a5 c hc
    refine lp ?_
    refine WpL.into (e := (.exit 0)) (mkS [(7,.rs 2)] [(2,rI a4)]) hL ?_
    refine Qd6 ?_
    refine rs hc none [oN,some (.mk 7 true),oN] [(6,.rs 7)] [(7,.arr (List.map K0j [a4]))] tv ?_
    refine rt ?_
    obtain rfl := os h
    exact rq [true]
   refine cT (!a1) (nT a3) ?_
   refine rs0 hc 1 [(6,.nils)] [] ?_
   refine rt ?_
   obtain rfl := os h
   exact rq [true]
  refine sk ?_
  refine rs hc none [some (.mk 8 true),oN] [(1,sB in1),(2,I g2),(3,.ra 1 0),(9,.rs 8)] [(1,K19 s0),(8,.arr (List.map K0j []))] tv ?_
  refine sN ?_
  refine K6n hc 1 [(1,sB in1),(2,I g2),(3,.ra 1 0),(9,.rs 8),(10,I 0)] ?_
  refine bk 2 ?_
  obtain ⟨a6,a7,h⟩ := Qds h
  have hL := spec_l1Views_l1_ih _ _ a7 c hc
  refine lp ?_
  refine WpL.into (e := (.exit 2)) (mkS [(9,.rs 8)] [(8,.arr (List.map K0j a6))]) hL ?_
  refine Qd6 ?_
  refine K6n hc 2 [(6,.rs 8)] ?_
  refine rt ?_
  obtain rfl := os h
  exact rq [true]
 ·rintro spec_l1Views_f spec_l1Views_l1_f spec_l1Views_ih spec_l1Views_l1_ih ⟨s0,in1,g2,a8,a9⟩ r h
  intro c hc
  refine WpL.step ?_
  refine sN ?_
  refine K6n hc 2 [(1,sB in1),(2,I g2),(3,.ra 1 0),(9,.rs 8),(10,I a9),(39,.bool (decide (a9 < 2)))] ?_
  refine ic h (fun b1 h => ?_) fun b1 h => ?_
  ·refine sk ?_
   refine sN ?_
   refine bk 3 ?_
   obtain ⟨_,b2,h⟩ := Qds h
   refine rs hc none [some (.mk 13 true),oN,some (.eqv (.mk 14 true) ⟨[(44,.rs 14)],[(14,some (.arr (List.map AV.bool in1))),(13,none)],[14]⟩),oN] [(1,sB in1),(2,I g2),(3,.ra 1 0),(9,.rs 8),(10,I a9),(11,.rs 14)] [(1,K19 s0),(8,.arr (List.map K0j a8)),(14,.arr (List.map AV.bool in1))] (ab (congrArg (fun z => (⟨[(44,.rs 14)],[(14,some (.arr z)),(13,none)],[14]⟩ : Wr)) (List.nil_append _ : [] ++ (List.map AV.bool in1) = List.map AV.bool in1)) (Qe6 (enc1 := AV.bool) (enc2 := AV.bool) (e1 := []) (e2 := in1) (sz := 1) Qeh Qeh b2) tv) ?_
   obtain ⟨b3,b4,h⟩ := Qds h
   refine rs hc none [oN,oN,oN,oN,oN,some (.eqv (.mk 0 true) ⟨[],[(14,some (.arr (List.map AV.bool (List.set in1 (Int.toNat g2) (a9 == 0)))))],[]⟩)] [(1,sB in1),(2,I g2),(3,.ra 1 0),(9,.rs 8),(10,I a9),(11,.rs 14)] [(1,K19 s0),(8,.arr (List.map K0j a8)),(14,.arr (List.map AV.bool (List.set in1 (Int.toNat g2) (a9 == 0))))] (ac (Qdx (enc := AV.bool) b4) (congrArg (fun z => (⟨[],[(14,some (.arr z))],[]⟩ : Wr)) (Qev (enc := AV.bool) (i := Int.toNat g2) (l := in1) (v := (a9 == 0)) (x := AV.bool (a9 == 0)) (Qe9 (a9 == 0)))) (Qew (enc := AV.bool) (sz := 1) Qed b4) tv) ?_
   obtain ⟨b5,b6,_,b7,h⟩ := bq2 h
   refine rg hc none [oN,oN,oN,oN,oN,some (.call (.osl (List.map K0j b5)) [] 15),some (.eqv (.mk 16 true) ⟨[(56,.rs 16)],[(16,some (.arr (List.map K0j (a8 ++ b5)))),(8,none),(15,none)],[16]⟩),oN] [(1,sB in1),(2,I g2),(3,.ra 1 0),(9,.rs 16),(10,I a9)] [(1,K19 s0),(16,.arr (List.map K0j (a8 ++ b5)))] (ad (Q75.args (A1 := [K1a s0,.sl (Q02 (List.map AV.bool (List.set in1 (Int.toNat g2) (a9 == 0)))),I (wr (g2 + 1))]) (A2 := [K1a s0,.sl (List.map AV.bool (List.set in1 (Int.toNat g2) (a9 == 0))),I (wr (g2 + 1))]) (by simp only [List.map_nil,Qem]) (spec_l1Views_ih _ _ b6)) K3h (Or.inr (Qes K0t b5) : ([14] : List Nat) = [] ∨ noSh (.osl (List.map K0j b5)) = true) (congrArg (fun z => (⟨[(56,.rs 16)],[(16,some (.arr z)),(8,none),(15,none)],[16]⟩ : Wr)) ((List.map_append).symm : (List.map K0j a8) ++ (List.map K0j b5) = List.map K0j (a8 ++ b5))) (ai (Qe6 (enc1 := K0j) (enc2 := K0j) (e1 := a8) (e2 := b5) (sz := 1) K0m K0m b7) tv)) ?_
   refine K6m hc 3 [(1,sB in1),(2,I g2),(3,.ra 1 0),(9,.rs 16),(10,I (wr (a9 + 1)))] ?_
   refine Qda ?_
   exact WpL.view (fun a w hv => SRx.renL [(8,16)] hv (by kernel_rfl) (by kernel_rfl) (by kernel_rfl)) (spec_l1Views_l1_ih _ _ h c hc)
  refine xt 2 ?_
  refine Qd4 ?_
  refine Qdb ?_
  obtain rfl := os h
  exact iv []
theorem Kbe : ∀ p r,Kb9 p = some r → Kbb p r := Kbd.1
theorem Kbf : ∀ p r,Kba p = some r → Kbc p r := Kbd.2
def Kbg (c : Ctx) (a0 : List Int) (b1 : List Int) : (Unit) ⊕ (Bool) → Exit → Q0a → Prop
 | .inl _ => Qde c (.exit 0) (mkS [(0,sI a0),(1,sI b1)] [])
 | .inr r => Qdn TIx Tryz.f224 [] (.bool r)
def Kbh (p : (List Int) × (List Int) × Int) : Option ((Unit) ⊕ (Bool)) :=
 match p with
 | (a0,b1,a1) =>
  ((
  if (decide (a1 < (a0.length : Int))) = true then
  some ((decide (a1 < (b1.length : Int))))
  else
  some (false)
  ) : Option (Bool)) >>= fun a2 =>
  if a2 = true then
  (idx a0 a1) >>= fun a3 =>
  (idx b1 a1) >>= fun a4 =>
  if (a3 != a4) = true then
  (idx a0 a1) >>= fun a5 =>
  (idx b1 a1) >>= fun a6 =>
  some (.inr (decide (a5 < a6)))
  else
  Kbh (a0,b1,(wr (a1 + 1)))
  else
  some (.inl ())
 partial_fixpoint
def Kbi (p : (List Int) × (List Int) × Int) (fl : (Unit) ⊕ (Bool)) : Prop :=
 match p with
 | (a0,b1,a1) => ∀ c : Ctx,c.nt = 41 → WpL Tryz.prog c (cl (cl (cr (cl (cr K3i))))) (Kbg c a0 b1 fl) (mkS [(0,sI a0),(1,sI b1),(5,I a1)] [])
theorem Kbj : ∀ p r,Kbh p = some r → Kbi p r := by
 refine Kbh.partial_correctness Kbi ?_
 rintro spec_l1Less_l0_f spec_l1Less_l0_ih ⟨a0,b1,a1⟩ r h
 intro c hc
 refine WpL.step ?_
 refine sN ?_
 refine sN ?_
 obtain ⟨a2,a3,h⟩ := Qds h
 refine Wp.into (x := .normal) (mkS [(0,sI a0),(1,sI b1),(5,I a1),(15,.bool a2)] []) ?_ ?_
 ·replace h := a3
  rcases is h with ⟨a4,h⟩ | ⟨a4,h⟩
  ·refine rg hc none [oN,oN,some (.eqv (.no) ⟨[(8,I (a0.length : Int))],[],[]⟩),oN,oN,oN,oN,some (.eqv (.no) ⟨[(13,I (b1.length : Int))],[],[]⟩),oN,oT] [(0,sI a0),(1,sI b1),(5,I a1),(15,.bool (decide (a1 < (b1.length : Int))))] [] (ai (Qdy (d := 8) I a0) (ar 3 a4 (ai (Qdy (d := 13) I b1) (ar 2 a4 tv)))) ?_
   obtain rfl := os h
   exact Qde.mk
  refine rg hc none [oN,oN,some (.eqv (.no) ⟨[(8,I (a0.length : Int))],[],[]⟩),oN,oN,o_,o_,o_,o_,oF] [(0,sI a0),(1,sI b1),(5,I a1),(15,.bool false)] [] (ai (Qdy (d := 8) I a0) (ar 4 (neT a4) (ai a4 tv))) ?_
  obtain rfl := os h
  exact Qde.mk
 clear a3
 refine ic h (fun a5 h => ?_) fun a5 h => ?_
 ·refine sk ?_
  refine sN ?_
  refine bk 1 ?_
  obtain ⟨a6,a7,a8,a9,h⟩ := bq2 h
  refine rs hc (rx [[0],[0],[2],[3],[0],[0],[0,4,5],[0,4,5,6],[8]]) [oN,oN,some (.el (I a6)),oN,oN,oN,some (.el (I a8)),oN,oN] [(0,sI a0),(1,sI b1),(5,I a1),(26,.bool (a6 != a8))] [] (ab (ix a7) (ix a9) tv) ?_
  refine ic h (fun b2 h => ?_) fun b2 h => ?_
  ·obtain ⟨b3,b4,b5,b6,h⟩ := bq2 h
   refine rs hc (rx [[0],[0],[2],[3],[0],[0],[0,4,5],[0,4,5,6],[8],[9]]) [oN,oN,some (.el (I b3)),oN,oN,oN,some (.el (I b5)),oN,oN,oN] [(4,.bool (decide (b3 < b5)))] [] (ab (ix b4) (ix b6) tv) ?_
   refine rt ?_
   obtain rfl := os h
   exact re [true]
  refine sk ?_
  refine rg0 hc 3 [(0,sI a0),(1,sI b1),(5,I (wr (a1 + 1)))] [] ?_
  refine Qda ?_
  exact (spec_l1Less_l0_ih _ _ h c hc)
 refine xt 0 ?_
 refine Qd4 ?_
 refine Qdb ?_
 obtain rfl := os h
 exact iv []
def Kbk (p : (List Int) × (List Int)) : Option (Bool) :=
 match p with
 | (a0,b1) =>
  (Kbh (a0,b1,0)) >>= fun fl => match fl with
  | .inl () =>
   some (decide ((a0.length : Int) < (b1.length : Int)))
  | .inr r =>
   some r
def Kbl (p : (List Int) × (List Int)) (r : Bool) : Prop :=
 match p with
 | (a0,b1) => Q75 Tryz.prog 224 [sI a0,sI b1] (.bool r) []
theorem Kbm : ∀ p r,Kbk p = some r → Kbl p r := by
 rintro ⟨a0,b1⟩ r h
 unfold Kbk at h
 refine b0 Tryz.f224 K3i 41 [(0,sI a0),(1,sI b1)] fun c hc => ?_
 refine rs0 hc 1 [(0,sI a0),(1,sI b1)] [] ?_
 refine sN ?_
 refine rs0 hc 1 [(0,sI a0),(1,sI b1),(5,I 0)] [] ?_
 refine bk 0 ?_
 obtain ⟨fl,a1,h⟩ := Qds h
 have hL := Kbj _ _ a1 c hc
 refine lp ?_
 rcases fl with ⟨⟩ | r
 ·refine WpL.into (e := (.exit 0)) (mkS [(0,sI a0),(1,sI b1)] []) hL ?_
  refine Qd6 ?_
  refine rs hc none [oN,some (.eqv (.no) ⟨[(37,I (a0.length : Int))],[],[]⟩),oN,some (.eqv (.no) ⟨[(39,I (b1.length : Int))],[],[]⟩),oN,oN] [(4,.bool (decide ((a0.length : Int) < (b1.length : Int))))] [] (ab (Qdy (d := 37) I a0) (Qdy (d := 39) I b1) tv) ?_
  refine rt ?_
  obtain rfl := os h
  exact rq [true]
 refine WpL.mono hL ?_
 rintro _ _ ⟨rfl,hfin⟩
 obtain rfl := os h
 exact ⟨.inl rfl,hfin⟩
def Kbn (c : Ctx) (a0 : LL) (a1 : LL) (a2 : Int) : Int → Exit → Q0a → Prop
 | a3 => Qde c (.exit 2) (mkS [(4,sL a0),(5,.rs 3),(6,I a2),(7,I a3)] [(3,.arr (List.map K0n a1))])
def Kbo (p : LL × LL × Int × Int) : Option (Int) :=
 match p with
 | (a0,a1,a2,a3) =>
  ((
  if (decide (a3 > 0)) = true then
  (idx a0 a2) >>= fun a4 =>
  (idx a1 (wr (a3 - 1))) >>= fun a5 =>
  (Kbk (a4,a5)) >>= fun a6 =>
  some (a6)
  else
  some (false)
  ) : Option (Bool)) >>= fun a7 =>
  if a7 = true then
  Kbo (a0,a1,a2,(wr (a3 - 1)))
  else
  some (a3)
 partial_fixpoint
def Kbp (p : LL × LL × Int × Int) (fl : Int) : Prop :=
 match p with
 | (a0,a1,a2,a3) => ∀ c : Ctx,c.nt = 63 → WpL Tryz.prog c (cl (cl (cl (cr (cl (cl (cr (cl (cl (cr (cl (cr (cr (cr (cr (cr (cr K3k))))))))))))))))) (Kbn c a0 a1 a2 fl) (mkS [(4,sL a0),(5,.rs 3),(6,I a2),(7,I a3)] [(3,.arr (List.map K0n a1))])
theorem Kbq : ∀ p r,Kbo p = some r → Kbp p r := by
 refine Kbo.partial_correctness Kbp ?_
 rintro spec_ViewsOf_l0_f spec_ViewsOf_l0_ih ⟨a0,a1,a2,a3⟩ r h
 intro c hc
 refine WpL.step ?_
 refine sN ?_
 refine sN ?_
 obtain ⟨a4,a5,h⟩ := Qds h
 refine Wp.into (x := .normal) (mkS [(4,sL a0),(5,.rs 3),(6,I a2),(7,I a3),(41,.bool a4)] [(3,.arr (List.map K0n a1))]) ?_ ?_
 ·replace h := a5
  rcases is h with ⟨a6,h⟩ | ⟨a6,h⟩
  ·obtain ⟨a7,a8,a9,b1,b2,b3,h⟩ := bq3 h
   refine rgs hc Kaw [oN,oN,oN,oN,oN,some (.el (sI a7)),oN,oN,oN,oN,oN,some (.el (sI a9)),oc (.bool b2),oT] [(4,sL a0),(5,.rs 3),(6,I a2),(7,I a3),(41,.bool b2)] (ar 3 a6 (ai (xL a8) (ar 5 a6 (ad (Qdx (enc := K0n) b1) a6 (xL b1).2 a6 (cq (Kbm _ _ b3) K3j (ai a6 tv)))))) ?_
   obtain rfl := os h
   exact Qde.mk
  refine rgs hc Kaw [oN,oN,oN,o_,o_,o_,o_,o_,o_,o_,o_,o_,o_,oF] [(4,sL a0),(5,.rs 3),(6,I a2),(7,I a3),(41,.bool false)] (ar 10 (neT a6) (ai a6 tv)) ?_
  obtain rfl := os h
  exact Qde.mk
 clear a5
 refine ic h (fun b4 h => ?_) fun b4 h => ?_
 ·refine sk ?_
  refine bk 3 ?_
  refine K6m hc 3 [(4,sL a0),(5,.rs 3),(6,I a2),(7,I (wr (a3 - 1)))] ?_
  refine Qda ?_
  exact (spec_ViewsOf_l0_ih _ _ h c hc)
 refine xt 2 ?_
 refine Qd4 ?_
 refine Qdb ?_
 obtain rfl := os h
 exact iv []
def Kbr (c : Ctx) : LL → Exit → Q0a → Prop
 | a0 => Qde c (.exit 0) (mkS [(5,.rs 3)] [(3,.arr (List.map K0n a0))])
def Kbs (p : LL × LL × Int) : Option (LL) :=
 match p with
 | (a0,a1,a2) =>
  if (decide (a2 < (a0.length : Int))) = true then
  (Kbo (a0,a1,a2,(a1.length : Int))) >>= fun a3 =>
  (Qe5 (a1.length + ([[]] : LL).length) 24) >>= fun _ =>
  (chk (0 < (a1 ++ ([[]] : LL)).length ∧ 0 ≤ (wr (a3 + 1)) ∧ (wr (a3 + 1)) ≤ ((a1 ++ ([[]] : LL)).length : Int))) >>= fun _ =>
  (chk (0 < (a1 ++ ([[]] : LL)).length ∧ 0 ≤ a3 ∧ a3 ≤ ((a1 ++ ([[]] : LL)).length : Int))) >>= fun _ =>
  (idx a0 a2) >>= fun a4 =>
  (idx (cpy (a1 ++ ([[]] : LL)) (Int.toNat (wr (a3 + 1))) (Int.toNat a3)) a3) >>= fun a5 =>
  Kbs (a0,(List.set (cpy (a1 ++ ([[]] : LL)) (Int.toNat (wr (a3 + 1))) (Int.toNat a3)) (Int.toNat a3) a4),(wr (a2 + 1)))
  else
  some (a1)
 partial_fixpoint
def Kbt (p : LL × LL × Int) (fl : LL) : Prop :=
 match p with
 | (a0,a1,a2) => ∀ c : Ctx,c.nt = 63 → WpL Tryz.prog c (cl (cl (cr (cl (cr (cr (cr (cr (cr (cr K3k)))))))))) (Kbr c fl) (mkS [(4,sL a0),(5,.rs 3),(6,I a2)] [(3,.arr (List.map K0n a1))])
theorem Kbu : ∀ p r,Kbs p = some r → Kbt p r := by
 refine Kbs.partial_correctness Kbt ?_
 rintro spec_ViewsOf_l1_f spec_ViewsOf_l1_ih ⟨a0,a1,a2⟩ r h
 intro c hc
 refine WpL.step ?_
 refine sN ?_
 refine rss hc none [oN,oN,some (.eqv (.no) ⟨[(22,I (a0.length : Int))],[],[]⟩),oN] [(4,sL a0),(5,.rs 3),(6,I a2),(23,.bool (decide (a2 < (a0.length : Int))))] (ai (Qdy (d := 22) K0n a0) tv) ?_
 refine ic h (fun a3 h => ?_) fun a3 h => ?_
 ·refine sk ?_
  refine sN ?_
  refine bk 1 ?_
  refine rss hc none [oN,some (.eqv (.no) ⟨[(27,I (a1.length : Int))],[],[]⟩),oN] [(4,sL a0),(5,.rs 3),(6,I a2),(7,I (a1.length : Int))] (ai (Qdy (d := 27) K0n a1) tv) ?_
  refine sN ?_
  refine bk 2 ?_
  obtain ⟨a4,a5,h⟩ := Qds h
  have hL := Kbq _ _ a5 c hc
  refine lp ?_
  refine WpL.into (e := (.exit 2)) (mkS [(4,sL a0),(5,.rs 3),(6,I a2),(7,I a4)] [(3,.arr (List.map K0n a1))]) hL ?_
  refine Qd6 ?_
  obtain ⟨_,a6,h⟩ := Qds h
  refine rs hc none [oN,some (.call .undef [] 6),some (.eqv (.mk 7 true) ⟨[(46,.rs 7)],[(7,some (.arr (List.map K0n (a1 ++ ([[]] : LL))))),(3,none)],[7]⟩),oN] [(4,sL a0),(5,.rs 7),(6,I a2),(7,I a4)] [(7,.arr (List.map K0n (a1 ++ ([[]] : LL))))] (ab (congrArg (fun z => (⟨[(46,.rs 7)],[(7,some (.arr z)),(3,none)],[7]⟩ : Wr)) ((List.map_append).symm : (List.map K0n a1) ++ (List.map K0n ([[]] : LL)) = List.map K0n (a1 ++ ([[]] : LL)))) (Qe6 (enc1 := K0n) (enc2 := K0n) (e1 := a1) (e2 := ([[]] : LL)) (sz := 1) K0q K0q a6) tv) ?_
  obtain ⟨_,a7,_,a8,h⟩ := bq2 h
  refine rs hc (rx [[0],[0],[0,1],[3],[0],[0],[0,4,5],[7]]) [oN,oN,oN,oT,oN,oN,oT,some (.eqv (.no) ⟨[(54,I ((min ((List.map K0n (a1 ++ ([[]] : LL))).length - Int.toNat a4) ((List.map K0n (a1 ++ ([[]] : LL))).length - Int.toNat (wr (a4 + 1))) : Nat) : Int))],[(7,some (.arr (List.map K0n (cpy (a1 ++ ([[]] : LL)) (Int.toNat (wr (a4 + 1))) (Int.toNat a4)))))],[]⟩)] [(4,sL a0),(5,.rs 7),(6,I a2),(7,I a4)] [(7,.arr (List.map K0n (cpy (a1 ++ ([[]] : LL)) (Int.toNat (wr (a4 + 1))) (Int.toNat a4))))] (ad (Qfm (enc := K0n) (xs := (a1 ++ ([[]] : LL))) a7) (Qfm (enc := K0n) (xs := (a1 ++ ([[]] : LL))) a8) (congrArg (fun z => (⟨[(54,I ((min ((List.map K0n (a1 ++ ([[]] : LL))).length - Int.toNat a4) ((List.map K0n (a1 ++ ([[]] : LL))).length - Int.toNat (wr (a4 + 1))) : Nat) : Int))],[(7,some (.arr z))],[]⟩ : Wr)) (Qfn K0n (a1 ++ ([[]] : LL)) (Int.toNat (wr (a4 + 1))) (Int.toNat a4))) (Qfo (enc := K0n) (xs := (a1 ++ ([[]] : LL))) (fun _ => rfl) a7 a8) tv) ?_
  obtain ⟨a9,b1,b2,b3,h⟩ := bq2 h
  refine rg hc none [oN,oN,oN,oN,some (.el (sI a9)),oN,oN,some (.eqv (.mk 0 false) ⟨[],[(7,some (.arr (List.map K0n (List.set (cpy (a1 ++ ([[]] : LL)) (Int.toNat (wr (a4 + 1))) (Int.toNat a4)) (Int.toNat a4) a9))))],[]⟩)] [(4,sL a0),(5,.rs 7),(6,I a2)] [(7,.arr (List.map K0n (List.set (cpy (a1 ++ ([[]] : LL)) (Int.toNat (wr (a4 + 1))) (Int.toNat a4)) (Int.toNat a4) a9)))] (ad (xL b1) (Qdx (enc := K0n) b3) (congrArg (fun z => (⟨[],[(7,some (.arr z))],[]⟩ : Wr)) (Qev (enc := K0n) (i := Int.toNat a4) (l := (cpy (a1 ++ ([[]] : LL)) (Int.toNat (wr (a4 + 1))) (Int.toNat a4))) (v := a9) (x := sI a9) (K0o a9))) (Qew (enc := K0n) (sz := 1) K0p b3) tv) ?_
  refine K6m hc 3 [(4,sL a0),(5,.rs 7),(6,I (wr (a2 + 1)))] ?_
  refine Qda ?_
  exact WpL.view (fun a w hv => SRx.renL [(3,7)] hv (by kernel_rfl) (by kernel_rfl) (by kernel_rfl)) (spec_ViewsOf_l1_ih _ _ h c hc)
 refine xt 0 ?_
 refine Qd4 ?_
 refine Qdb ?_
 obtain rfl := os h
 exact iv []
def Kbv (s0 : K00) : Option (LL) :=
 (K9o s0) >>= fun a0 =>
 if a0 = true then
 (chk (0 ≤ s0.fSize ∧ (Int.toNat s0.fSize) * 1 ≤ 140737488355328)) >>= fun _ =>
 (idx (List.replicate (Int.toNat s0.fSize) false) 1) >>= fun a1 =>
 (Kb9 (s0,(List.set (List.replicate (Int.toNat s0.fSize) false) (Int.toNat 1) true),2)) >>= fun a2 =>
 (Kbs (a2,[],0)) >>= fun a3 =>
 some a3
 else
 some []
def Kbw (s0 : K00) (r : LL) : Prop :=
 Q75 Tryz.prog 175 [K1a s0] (.osl (List.map K0n r)) []
theorem Kbx : ∀ p r,Kbv p = some r → Kbw p r := by
 rintro s0 r h
 unfold Kbv at h
 refine b0 Tryz.f175 K3k 63 [(0,K1a s0)] fun c hc => ?_
 refine rs hc none [some (.new 1),oN] [(1,.ra 1 0)] [(1,K19 s0)] tv ?_
 refine sN ?_
 obtain ⟨a0,a1,h⟩ := Qds h
 refine rss hc none [oN,oc (.bool a0),oN] [(1,.ra 1 0),(10,.bool (!a0))] (cq (K9q _ _ a1) K2z tv) ?_
 rcases is h with ⟨a2,h⟩ | ⟨a2,h⟩
 ·refine cF (!a0) (nF a2) ?_
  refine sk ?_
  obtain ⟨_,a3,h⟩ := Qds h
  refine rs hc none [oN,oN,some (.eqv (.mk 2 true) ⟨[(13,.rs 2)],[(2,some (.arr (List.map AV.bool (List.replicate (Int.toNat s0.fSize) false))))],[2]⟩),oN] [(1,.ra 1 0),(3,.rs 2)] [(1,K19 s0),(2,.arr (List.map AV.bool (List.replicate (Int.toNat s0.fSize) false)))] (ab (congrArg (fun z => (⟨[(13,.rs 2)],[(2,some (.arr z))],[2]⟩ : Wr)) (Qex (enc := AV.bool) (n := Int.toNat s0.fSize) (x := AV.bool false) (Qe9 false))) (And.intro (Eq.refl s0.fSize) (Qdu a3)) tv) ?_
  obtain ⟨a4,a5,h⟩ := Qds h
  refine rs hc none [oN,oN,some (.eqv (.mk 0 true) ⟨[],[(2,some (.arr (List.map AV.bool (List.set (List.replicate (Int.toNat s0.fSize) false) (Int.toNat 1) true))))],[]⟩)] [(1,.ra 1 0),(3,.rs 2)] [(1,K19 s0),(2,.arr (List.map AV.bool (List.set (List.replicate (Int.toNat s0.fSize) false) (Int.toNat 1) true)))] (ac (Qdx (enc := AV.bool) a5) (congrArg (fun z => (⟨[],[(2,some (.arr z))],[]⟩ : Wr)) (Qev (enc := AV.bool) (i := Int.toNat 1) (l := (List.replicate (Int.toNat s0.fSize) false)) (v := true) (x := AV.bool true) (Qe9 true))) (Qew (enc := AV.bool) (sz := 1) Qed a5) tv) ?_
  refine sN ?_
  refine vz 2 (Qem (List.set (List.replicate (Int.toNat s0.fSize) false) (Int.toNat 1) true)) [(1,.ra 1 0),(3,.sl (List.map AV.bool (List.set (List.replicate (Int.toNat s0.fSize) false) (Int.toNat 1) true)))] [(1,K19 s0)] ?_
  obtain ⟨a6,a7,h⟩ := Qds h
  refine rg hc none [oN,oN,oc (sL a6),oN] [(4,sL a6)] [] (cq (Q75.res (r2 := sL a6) (by simp only [share,Q02,K0s]) (Q75.shr (Kbe _ _ a7))) K3h tv) ?_
  refine rs hc none [some (.mk 3 false),oN] [(4,sL a6),(5,.rs 3)] [(3,.arr (List.map K0n []))] tv ?_
  refine sN ?_
  refine K6n hc 1 [(4,sL a6),(5,.rs 3),(6,I 0)] ?_
  refine bk 0 ?_
  obtain ⟨a8,a9,h⟩ := Qds h
  have hL := Kbu _ _ a9 c hc
  refine lp ?_
  refine WpL.into (e := (.exit 0)) (mkS [(5,.rs 3)] [(3,.arr (List.map K0n a8))]) hL ?_
  refine Qd6 ?_
  refine K6n hc 2 [(2,.rs 3)] ?_
  refine rt ?_
  obtain rfl := os h
  exact rq [true]
 refine cT (!a0) (nT a2) ?_
 refine rs0 hc 1 [(2,.nils)] [] ?_
 refine rt ?_
 obtain rfl := os h
 exact rq [true]
def Kby (p : K01 × Int) : Option (Bool × K01) :=
 match p with
 | (c0,n1) =>
  (K72 (c0,n1)) >>= fun (a0,a1) =>
  some ((a0 == 0),a1)
def Kbz (p : K01 × Int) (r : Bool × K01) : Prop :=
 match p with
 | (c0,n1) => Q75 Tryz.prog 73 [.optr [.sl (List.map U8 c0.fb),I c0.fi,I c0.fh],I n1] (.bool r.1) [.optr [.sl (List.map U8 r.2.fb),I r.2.fi,I r.2.fh],.undef]
theorem Kc0 : ∀ p r,Kby p = some r → Kbz p r := by
 rintro ⟨c0,n1⟩ r h
 unfold Kby at h
 refine Q75.bodyO K20 (fn := Tryz.f73) (code := B73) (by kernel_rfl) (by kernel_rfl) (by kernel_rfl) (nt := 9) (by kernel_rfl) (by kernel_rfl) (T := [(0,.ra 1000 0),(1,I n1)]) (O := [(1000,K1b c0)]) (by kernel_rfl) (by kernel_rfl) (fun c hc => ?_)
 refine K6n hc 1 [(0,.ra 1000 0),(1,I n1)] ?_
 obtain ⟨⟨a0,a1⟩,a2,h⟩ := Qds h
 refine rs hc none [oN,oN,some (.call (I a0) [.optr [.sl (List.map U8 a1.fb),I a1.fi,I a1.fh],.undef] 1),oN,oN] [(4,.bool (a0 == 0))] [(1000,K1b a1)] (ab (K74 _ _ a2) K25 tv) ?_
 refine rt ?_
 obtain rfl := os h
 exact Qdp.ret (fl := [true]) (by kernel_rfl)
def Kc1 (p : K01 × (List Int)) : Option (Int × K01) :=
 match p with
 | (c0,list1) =>
  (K72 (c0,(list1.length : Int))) >>= fun (a0,a1) =>
  (idx list1 a0) >>= fun a2 =>
  some (a2,a1)
def Kc2 (p : K01 × (List Int)) (r : Int × K01) : Prop :=
 match p with
 | (c0,list1) => Q75 Tryz.prog 156 [.optr [.sl (List.map U8 c0.fb),I c0.fi,I c0.fh],sI list1] (I r.1) [.optr [.sl (List.map U8 r.2.fb),I r.2.fi,I r.2.fh],.undef]
theorem Kc3 : ∀ p r,Kc1 p = some r → Kc2 p r := by
 rintro ⟨c0,list1⟩ r h
 unfold Kc1 at h
 refine Q75.bodyO K20 (fn := Tryz.f156) (code := K3n) (by kernel_rfl) (by kernel_rfl) (by kernel_rfl) (nt := 12) (by kernel_rfl) (by kernel_rfl) (T := [(0,.ra 1000 0),(1,sI list1)]) (O := [(1000,K1b c0)]) (by kernel_rfl) (by kernel_rfl) (fun c hc => ?_)
 refine K6n hc 1 [(0,.ra 1000 0),(1,sI list1)] ?_
 obtain ⟨⟨a0,a1⟩,a2,h⟩ := Qds h
 obtain ⟨a3,a4,h⟩ := Qds h
 refine rs hc none [oN,oN,oN,some (.eqv (.no) ⟨[(8,I (list1.length : Int))],[],[]⟩),some (.call (I a0) [.optr [.sl (List.map U8 a1.fb),I a1.fi,I a1.fh],.undef] 1),some (.el (I a3)),oN,oN] [(4,I a3)] [(1000,K1b a1)] (ad (Qdy (d := 8) I list1) (K74 _ _ a2) K25 (ix a4) tv) ?_
 refine rt ?_
 obtain rfl := os h
 exact Qdp.ret (fl := [true]) (by kernel_rfl)
def Kc4 (c0 : K01) : Option (Int × K01) :=
 (Kc1 (c0,[(-1),0,1,2,3,7,8,15,16,17,40,9223372036854775807,(-9223372036854775808)])) >>= fun (a0,a1) =>
 some (a0,a1)
def Kc5 (c0 : K01) (r : Int × K01) : Prop :=
 Q75 Tryz.prog 99 [.optr [.sl (List.map U8 c0.fb),I c0.fi,I c0.fh]] (I r.1) [.optr [.sl (List.map U8 r.2.fb),I r.2.fi,I r.2.fh]]
theorem Kc6 : ∀ p r,Kc4 p = some r → Kc5 p r := by
 rintro c0 r h
 unfold Kc4 at h
 refine Q75.bodyO K20 (fn := Tryz.f99) (code := B99) (by kernel_rfl) (by kernel_rfl) (by kernel_rfl) (nt := 6) (by kernel_rfl) (by kernel_rfl) (T := [(0,.ra 1000 0)]) (O := [(1000,K1b c0)]) (by kernel_rfl) (by kernel_rfl) (fun c hc => ?_)
 refine K6n hc 1 [(0,.ra 1000 0)] ?_
 obtain ⟨⟨a0,a1⟩,a2,h⟩ := Qds h
 refine rs hc none [oN,some (.call .undef [] 2),some (.call (I a0) [.optr [.sl (List.map U8 a1.fb),I a1.fi,I a1.fh],.undef] 1),oN] [(2,I a0)] [(1000,K1b a1)] (ab (Kc3 _ _ a2) K3o tv) ?_
 refine rt ?_
 obtain rfl := os h
 exact Qdp.ret (fl := [true]) (by kernel_rfl)
def Kc7 (p : K01 × K00) : Option (Int × K01) :=
 match p with
 | (c0,s1) =>
  (Kby (c0,30)) >>= fun (a0,a1) =>
  if a0 = true then
  (Kc4 a1) >>= fun (a2,a3) =>
  some (a2,a3)
  else
  (K72 (a1,s1.fSize)) >>= fun (a4,a5) =>
  some (a4,a5)
def Kc8 (p : K01 × K00) (r : Int × K01) : Prop :=
 match p with
 | (c0,s1) => Q75 Tryz.prog 204 [.optr [.sl (List.map U8 c0.fb),I c0.fi,I c0.fh],K1a s1] (I r.1) [.optr [.sl (List.map U8 r.2.fb),I r.2.fi,I r.2.fh],.undef]
theorem Kc9 : ∀ p r,Kc7 p = some r → Kc8 p r := by
 rintro ⟨c0,s1⟩ r h
 unfold Kc7 at h
 refine Q75.bodyO K20 (fn := Tryz.f204) (code := K3q) (by kernel_rfl) (by kernel_rfl) (by kernel_rfl) (nt := 13) (by kernel_rfl) (by kernel_rfl) (T := [(0,.ra 1000 0),(1,K1a s1)]) (O := [(1000,K1b c0)]) (by kernel_rfl) (by kernel_rfl) (fun c hc => ?_)
 refine rs hc none [some (.new 1),oN] [(0,.ra 1000 0),(3,.ra 1 0)] [(1,K19 s1),(1000,K1b c0)] tv ?_
 refine sN ?_
 obtain ⟨⟨a0,a1⟩,a2,h⟩ := Qds h
 refine rs hc none [oN,some (.call (.bool a0) [.optr [.sl (List.map U8 a1.fb),I a1.fi,I a1.fh],.undef] 1)] [(0,.ra 1000 0),(3,.ra 1 0),(6,.bool a0)] [(1,K19 s1),(1000,K1b a1)] (ab (Kc0 _ _ a2) K3m tv) ?_
 refine ic h (fun a3 h => ?_) fun a3 h => ?_
 ·obtain ⟨⟨a4,a5⟩,a6,h⟩ := Qds h
  refine rs hc none [oN,some (.call (I a4) [.optr [.sl (List.map U8 a5.fb),I a5.fi,I a5.fh]] 1),oN] [(4,I a4)] [(1000,K1b a5)] (ab (Kc6 _ _ a6) K3p tv) ?_
  refine rt ?_
  obtain rfl := os h
  exact Qdp.ret (fl := [true]) (by kernel_rfl)
 refine sk ?_
 obtain ⟨⟨a7,a8⟩,a9,h⟩ := Qds h
 refine rs hc none [oN,oN,oN,some (.call (I a7) [.optr [.sl (List.map U8 a8.fb),I a8.fi,I a8.fh],.undef] 1),oN] [(4,I a7)] [(1000,K1b a8)] (ab (K74 _ _ a9) K25 tv) ?_
 refine rt ?_
 obtain rfl := os h
 exact Qdp.ret (fl := [true]) (by kernel_rfl)
def Kca (c : Ctx) : (List Int) × (List Int) × Int × Int → Exit → Q0a → Prop
 | (a0,a1,a2,a3) => Qde c (.exit 0) (mkS [(7,.rs 2)] [(2,rI a0),(1000,.box [.sl (List.map U8 a1),I a2,I a3])])
def Kcb (p : K00 × Int × (List Int) × Int × Int × (List Int) × Int) : Option ((List Int) × (List Int) × Int × Int) :=
 match p with
 | (s1,n2,a0,a1,a2,a3,a4) =>
  if (decide (a4 < n2)) = true then
  (Kc7 ((K01.mk a0 a1 a2),s1)) >>= fun (a5,a6) =>
  (Qe5 (a3.length + [a5].length) 8) >>= fun _ =>
  Kcb (s1,n2,a6.fb,a6.fi,a6.fh,(a3 ++ [a5]),(wr (a4 + 1)))
  else
  some ((a3,a0,a1,a2))
 partial_fixpoint
def Kcc (p : K00 × Int × (List Int) × Int × Int × (List Int) × Int) (fl : (List Int) × (List Int) × Int × Int) : Prop :=
 match p with
 | (s1,n2,a0,a1,a2,a3,a4) => ∀ c : Ctx,c.nt = 22 → WpL Tryz.prog c (cl (cl (cr (cl (cr (cr K3s)))))) (Kca c fl) (mkS [(0,.ra 1000 0),(2,I n2),(4,.ra 1 0),(7,.rs 2),(8,I a4)] [(1,K19 s1),(2,rI a3),(1000,.box [.sl (List.map U8 a0),I a1,I a2])])
theorem Kcd : ∀ p r,Kcb p = some r → Kcc p r := by
 refine Kcb.partial_correctness Kcc ?_
 rintro spec_dGrades_l0_f spec_dGrades_l0_ih ⟨s1,n2,a0,a1,a2,a3,a4⟩ r h
 intro c hc
 refine WpL.step ?_
 refine sN ?_
 refine K6n hc 3 [(0,.ra 1000 0),(2,I n2),(4,.ra 1 0),(7,.rs 2),(8,I a4),(12,.bool (decide (a4 < n2)))] ?_
 refine ic h (fun a5 h => ?_) fun a5 h => ?_
 ·refine sk ?_
  refine sN ?_
  refine bk 1 ?_
  obtain ⟨⟨a6,a7⟩,a8,h⟩ := Qds h
  obtain ⟨_,a9,h⟩ := Qds h
  refine rg hc none [oN,oN,oN,some (.call (I a6) [.optr [.sl (List.map U8 a7.fb),I a7.fi,I a7.fh],.undef] 1),some (.mk 5 true),some (.eqv (.mk 6 true) ⟨[(20,.rs 6)],[(6,some (rI (a3 ++ [a6]))),(2,none),(5,none)],[6]⟩),oN] [(0,.ra 1000 0),(2,I n2),(4,.ra 1 0),(7,.rs 6),(8,I a4)] [(1,K19 s1),(6,rI (a3 ++ [a6])),(1000,K1b a7)] (ad (Kc9 _ _ a8) K3r (congrArg (fun z => (⟨[(20,.rs 6)],[(6,some (.arr z)),(2,none),(5,none)],[6]⟩ : Wr)) ((List.map_append).symm : (List.map I a3) ++ (List.map I [a6]) = List.map I (a3 ++ [a6]))) (Qe6 (enc1 := I) (enc2 := I) (e1 := a3) (e2 := [a6]) (sz := 1) Qef Qef a9) tv) ?_
  refine K6m hc 3 [(0,.ra 1000 0),(2,I n2),(4,.ra 1 0),(7,.rs 6),(8,I (wr (a4 + 1)))] ?_
  refine Qda ?_
  exact WpL.view (fun a w hv => SRx.renL [(2,6)] hv (by kernel_rfl) (by kernel_rfl) (by kernel_rfl)) (spec_dGrades_l0_ih _ _ h c hc)
 refine xt 0 ?_
 refine Qd4 ?_
 refine Qdb ?_
 obtain ⟨rfl,hq0⟩ := Prod.mk.inj (Option.some.inj h)
 obtain ⟨rfl,hq1⟩ := Prod.mk.inj (hq0)
 obtain ⟨rfl,rfl⟩ := Prod.mk.inj (hq1)
 exact iv []
def Kce (p : K01 × K00 × Int) : Option ((List Int) × K01) :=
 match p with
 | (c0,s1,n2) =>
  (Kcb (s1,n2,c0.fb,c0.fi,c0.fh,[],0)) >>= fun (a0,a1,a2,a3) =>
  some (a0,(K01.mk a1 a2 a3))
def Kcf (p : K01 × K00 × Int) (r : (List Int) × K01) : Prop :=
 match p with
 | (c0,s1,n2) => Q75 Tryz.prog 143 [.optr [.sl (List.map U8 c0.fb),I c0.fi,I c0.fh],K1a s1,I n2] (oI r.1) [.optr [.sl (List.map U8 r.2.fb),I r.2.fi,I r.2.fh],.undef,.undef]
theorem Kcg : ∀ p r,Kce p = some r → Kcf p r := by
 rintro ⟨c0,s1,n2⟩ r h
 unfold Kce at h
 refine Q75.bodyO K20 (fn := Tryz.f143) (code := K3s) (by kernel_rfl) (by kernel_rfl) (by kernel_rfl) (nt := 22) (by kernel_rfl) (by kernel_rfl) (T := [(0,.ra 1000 0),(1,K1a s1),(2,I n2)]) (O := [(1000,K1b c0)]) (by kernel_rfl) (by kernel_rfl) (fun c hc => ?_)
 refine rs hc none [some (.new 1),oN] [(0,.ra 1000 0),(2,I n2),(4,.ra 1 0)] [(1,K19 s1),(1000,K1b c0)] tv ?_
 refine rs hc none [some (.mk 2 true),oN] [(0,.ra 1000 0),(2,I n2),(4,.ra 1 0),(7,.rs 2)] [(1,K19 s1),(2,.arr (List.map I [])),(1000,K1b c0)] tv ?_
 refine sN ?_
 refine K6n hc 1 [(0,.ra 1000 0),(2,I n2),(4,.ra 1 0),(7,.rs 2),(8,I 0)] ?_
 refine bk 0 ?_
 obtain ⟨⟨a0,a1,a2,a3⟩,a4,h⟩ := Qds h
 have hL := Kcd _ _ a4 c hc
 refine lp ?_
 refine WpL.into (e := (.exit 0)) (mkS [(7,.rs 2)] [(2,rI a0),(1000,.box [.sl (List.map U8 a1),I a2,I a3])]) hL ?_
 refine Qd6 ?_
 refine K6n hc 2 [(6,.rs 2)] ?_
 refine rt ?_
 obtain rfl := os h
 exact Qdp.ret (fl := [true]) (by kernel_rfl)
def Kch (l0 : (List Int)) : Option ((List Int)) :=
 (Qe5 (([] : List Int).length + l0.length) 8) >>= fun _ =>
 some l0
def Kci (l0 : (List Int)) (r : (List Int)) : Prop :=
 Q75 Tryz.prog 176 [sI l0] (oI r) []
theorem Kcj : ∀ p r,Kch p = some r → Kci p r := by
 rintro l0 r h
 unfold Kch at h
 refine b0 Tryz.f176 K3u 6 [(0,sI l0)] fun c hc => ?_
 refine rs0 hc 1 [(0,sI l0)] [] ?_
 obtain ⟨_,a0,h⟩ := Qds h
 refine rs hc none [some (.mk 1 true),oN,some (.eqv (.mk 2 true) ⟨[(5,.rs 2)],[(2,some (rI l0)),(1,none)],[2]⟩),oN] [(2,.rs 2)] [(2,rI l0)] (ab (congrArg (fun z => (⟨[(5,.rs 2)],[(2,some (.arr z)),(1,none)],[2]⟩ : Wr)) (List.nil_append _ : [] ++ (List.map I l0) = List.map I l0)) (Qe6 (enc1 := I) (enc2 := I) (e1 := []) (e2 := l0) (sz := 1) Qef Qef a0) tv) ?_
 refine rt ?_
 obtain rfl := os h
 exact rq [true]
def Kck (p : K01 × K00) : Option ((List Int) × K01) :=
 match p with
 | (c0,s1) =>
  (Kbv s1) >>= fun a0 =>
  ((
  if ((a0.length : Int) == 0) = true then
  some ((c0.fb,c0.fi,c0.fh,true))
  else
  (Kby (c0,12)) >>= fun (a1,a2) =>
  some ((a2.fb,a2.fi,a2.fh,a1))
  ) : Option ((List Int) × Int × Int × Bool)) >>= fun (a3,a4,a5,a6) =>
  if a6 = true then
  (K72 ((K01.mk a3 a4 a5),3)) >>= fun (a7,a8) =>
  (Kce (a8,s1,a7)) >>= fun (a9,b1) =>
  some (a9,b1)
  else
  (K72 ((K01.mk a3 a4 a5),(a0.length : Int))) >>= fun (b2,b3) =>
  (idx a0 b2) >>= fun b4 =>
  (Kch b4) >>= fun b5 =>
  some (b5,b3)
def Kcl (p : K01 × K00) (r : (List Int) × K01) : Prop :=
 match p with
 | (c0,s1) => Q75 Tryz.prog 91 [.optr [.sl (List.map U8 c0.fb),I c0.fi,I c0.fh],K1a s1] (oI r.1) [.optr [.sl (List.map U8 r.2.fb),I r.2.fi,I r.2.fh],.undef]
theorem Kcm : ∀ p r,Kck p = some r → Kcl p r := by
 rintro ⟨c0,s1⟩ r h
 unfold Kck at h
 refine Q75.bodyO K20 (fn := Tryz.f91) (code := B91) (by kernel_rfl) (by kernel_rfl) (by kernel_rfl) (nt := 28) (by kernel_rfl) (by kernel_rfl) (T := [(0,.ra 1000 0),(1,K1a s1)]) (O := [(1000,K1b c0)]) (by kernel_rfl) (by kernel_rfl) (fun c hc => ?_)
 refine rs hc none [some (.new 1),oN] [(0,.ra 1000 0),(3,.ra 1 0)] [(1,K19 s1),(1000,K1b c0)] tv ?_
 obtain ⟨a0,a1,h⟩ := Qds h
 refine rs hc none [oN,some (.call (.osl (List.map K0n a0)) [] 2),oN] [(0,.ra 1000 0),(3,.ra 1 0),(5,.rs 2)] [(1,K19 s1),(2,.arr (List.map K0n a0)),(1000,K1b c0)] (cq (Kbx _ _ a1) K3l tv) ?_
 refine sN ?_
 refine sN ?_
 obtain ⟨⟨a2,a3,a4,a5⟩,a6,h⟩ := Qds h
 refine Wp.into (x := .normal) (mkS [(0,.ra 1000 0),(3,.ra 1 0),(5,.rs 2),(14,.bool a5)] [(1,K19 s1),(2,.arr (List.map K0n a0)),(1000,.box [.sl (List.map U8 a2),I a3,I a4])]) ?_ ?_
 ·replace h := a6
  rcases is h with ⟨a7,h⟩ | ⟨a7,h⟩
  ·refine rgs hc none [oN,some (.eqv (.no) ⟨[(9,I (a0.length : Int))],[],[]⟩),oN,oN,o_,o_,oT] [(0,.ra 1000 0),(3,.ra 1 0),(5,.rs 2),(14,.bool true)] (ai (Qdy (d := 9) K0n a0) (ar 2 (neF a7) (ai a7 tv))) ?_
   obtain ⟨rfl,hq0⟩ := Prod.mk.inj (Option.some.inj h)
   obtain ⟨rfl,hq1⟩ := Prod.mk.inj (hq0)
   obtain ⟨rfl,rfl⟩ := Prod.mk.inj (hq1)
   exact Qde.mk
  obtain ⟨⟨a8,a9⟩,b1,h⟩ := Qds h
  refine rg hc none [oN,some (.eqv (.no) ⟨[(9,I (a0.length : Int))],[],[]⟩),oN,oN,oN,some (.call (.bool a8) [.optr [.sl (List.map U8 a9.fb),I a9.fi,I a9.fh],.undef] 1),oF] [(0,.ra 1000 0),(3,.ra 1 0),(5,.rs 2),(14,.bool a8)] [(1,K19 s1),(2,.arr (List.map K0n a0)),(1000,K1b a9)] (ai (Qdy (d := 9) K0n a0) (ar 2 a7 (ac (Kc0 _ _ b1) K3m a7 tv))) ?_
  obtain ⟨rfl,hq0⟩ := Prod.mk.inj (Option.some.inj h)
  obtain ⟨rfl,hq1⟩ := Prod.mk.inj (hq0)
  obtain ⟨rfl,rfl⟩ := Prod.mk.inj (hq1)
  exact Qde.mk
 clear a6
 refine ic h (fun b2 h => ?_) fun b2 h => ?_
 ·obtain ⟨⟨b3,b4⟩,b5,h⟩ := Qds h
  obtain ⟨⟨b6,b7⟩,b8,h⟩ := Qds h
  refine rs hc (rx [[0],[0],[0],[0,2],[4],[5]]) [oN,oN,oN,some (.call (I b3) [.optr [.sl (List.map U8 b4.fb),I b4.fi,I b4.fh],.undef] 1),some (.call (oI b6) [.optr [.sl (List.map U8 b7.fb),I b7.fi,I b7.fh],.undef,.undef] 3),oN] [(4,.rs 3)] [(3,rI b6),(1000,K1b b7)] (ad (K74 _ _ b5) K25 (Kcg _ _ b8) K3t tv) ?_
  refine rt ?_
  obtain rfl := os h
  exact Qdp.ret (fl := [true]) (by kernel_rfl)
 refine sk ?_
 obtain ⟨⟨b9,c1⟩,c2,h⟩ := Qds h
 obtain ⟨c3,c4,c5,c6,h⟩ := bq2 h
 refine rs hc none [oN,oN,oN,some (.eqv (.no) ⟨[(23,I (a0.length : Int))],[],[]⟩),some (.call (I b9) [.optr [.sl (List.map U8 c1.fb),I c1.fi,I c1.fh],.undef] 1),oN,some (.el (sI c3)),some (.call (oI c5) [] 4),oN] [(4,.rs 4)] [(4,rI c5),(1000,K1b c1)] (ad (Qdy (d := 23) K0n a0) (K74 _ _ c2) K25 (Qdx (enc := K0n) c4) (ai (xL c4).2 (cq (Kcj _ _ c6) K3v tv))) ?_
 refine rt ?_
 obtain rfl := os h
 exact Qdp.ret (fl := [true]) (by kernel_rfl)
def Kcn (code0 : (List Int)) : Option (K00 × (List Int) × (List Int)) :=
 (K6w code0) >>= fun a0 =>
 (Kae a0) >>= fun (a1,a2) =>
 (K72 (a2,8)) >>= fun (a3,a4) =>
 (Kao (a4,a1,3,(decide (a3 > 0)))) >>= fun (a5,a6) =>
 (Kck (a6,a1)) >>= fun (a7,a8) =>
 some (a1,a7,a5)
def Kco (code0 : (List Int)) (r : K00 × (List Int) × (List Int)) : Prop :=
 Q75 Tryz.prog 26 [.sl (List.map U8 code0)] (.tup [.agg [I r.1.fSize,.sl (List.map I r.1.fPlus),.sl (List.map I r.1.fTimes),.sl (List.map AV.bool r.1.fBelow)],.osl (List.map I r.2.1),.osl (List.map I r.2.2)]) []
theorem Kcp : ∀ p r,Kcn p = some r → Kco p r := by
 rintro code0 r h
 unfold Kcn at h
 refine b0 Tryz.f26 B26 23 [(0,.sl (List.map U8 code0))] fun c hc => ?_
 refine rs hc none [some (.new 1),oN,oN] [(0,.sl (List.map U8 code0)),(2,.ra 1 0)] [(1,.box [I 0,.nils,.nils,.nils])] tv ?_
 obtain ⟨a0,a1,h⟩ := Qds h
 refine rs hc none [oN,some (.call (.optr [.sl (List.map U8 a0.fb),I a0.fi,I a0.fh]) [.tup []] 2),oN] [(2,.ra 1 0),(5,.ra 2 0)] [(1,.box [I 0,.nils,.nils,.nils]),(2,K1b a0)] (ab (K6y _ _ a1) K22 tv) ?_
 obtain ⟨⟨a2,a3⟩,a4,h⟩ := Qds h
 refine rs hc none [oN,some (.call (K1f a2) [.optr [.sl (List.map U8 a3.fb),I a3.fi,I a3.fh]] 3),some (.new 6),oN] [(2,.ra 1 0),(5,.ra 2 0),(6,.ra 6 0)] [(1,.box [I 0,.nils,.nils,.nils]),(2,K1b a3),(3,rI a2.fPlus),(4,rI a2.fTimes),(5,.arr (List.map AV.bool a2.fBelow)),(6,.box [I a2.fSize,.rs 3,.rs 4,.rs 5])] (ab (Kag _ _ a4) K3a tv) ?_
 refine sN ?_
 refine vz 3 (Qek a2.fPlus) [(2,.ra 1 0),(5,.ra 2 0),(6,.ra 6 0)] [(1,.box [I 0,.nils,.nils,.nils]),(2,K1b a3),(4,rI a2.fTimes),(5,.arr (List.map AV.bool a2.fBelow)),(6,.box [I a2.fSize,sI a2.fPlus,.rs 4,.rs 5])] ?_
 refine vz 4 (Qek a2.fTimes) [(2,.ra 1 0),(5,.ra 2 0),(6,.ra 6 0)] [(1,.box [I 0,.nils,.nils,.nils]),(2,K1b a3),(5,.arr (List.map AV.bool a2.fBelow)),(6,.box [I a2.fSize,sI a2.fPlus,sI a2.fTimes,.rs 5])] ?_
 refine vz 5 (Qem a2.fBelow) [(2,.ra 1 0),(5,.ra 2 0),(6,.ra 6 0)] [(1,.box [I 0,.nils,.nils,.nils]),(2,K1b a3),(6,K19 a2)] ?_
 obtain ⟨⟨a5,a6⟩,a7,h⟩ := Qds h
 obtain ⟨⟨a8,a9⟩,b1,h⟩ := Qds h
 refine rg hc (rx [[0],[0],[0],[0,2],[0,2,3],[5],[6]]) [oN,oN,oN,some (.call (I a5) [.optr [.sl (List.map U8 a6.fb),I a6.fi,I a6.fh],.undef] 1),oN,some (.call (oI a8) [.optr [.sl (List.map U8 a9.fb),I a9.fi,I a9.fh],.undef,.undef,.undef] 7),oN] [(2,.ra 1 0),(5,.ra 2 0),(6,.ra 6 0),(7,.rs 7)] [(1,.box [I 0,.nils,.nils,.nils]),(2,K1b a9),(6,K19 a2),(7,rI a8)] (ad (K74 _ _ a7) K25 (Kaq _ _ b1) K3b tv) ?_
 obtain ⟨⟨b2,b3⟩,b4,h⟩ := Qds h
 refine rs hc (rx [[0],[0],[0],[0,1,2],[0],[4],[4,5],[7]]) [oN,oN,oN,some (.call (oI b2) [.optr [.sl (List.map U8 b3.fb),I b3.fi,I b3.fh],.undef] 8),oN,oN,oN,oN] [(2,.ra 1 0),(3,.rs 8),(4,.rs 7)] [(1,K19 a2),(7,rI a8),(8,rI b2)] (ab (Kcm _ _ b4) K3w tv) ?_
 refine rt ?_
 obtain rfl := os h
 exact rq [false,true,true]
def Kcq (p : Int × Int × Int) : Option (Bool) :=
 match p with
 | (n0,low1,high2) =>
  ((
  if (decide (n0 ≥ low1)) = true then
  some ((decide (n0 ≤ high2)))
  else
  some (false)
  ) : Option (Bool)) >>= fun a0 =>
  some a0
def Kcr (p : Int × Int × Int) (r : Bool) : Prop :=
 match p with
 | (n0,low1,high2) => Q75 Tryz.prog 95 [I n0,I low1,I high2] (.bool r) []
theorem Kcs : ∀ p r,Kcq p = some r → Kcr p r := by
 rintro ⟨n0,low1,high2⟩ r h
 unfold Kcq at h
 refine b0 Tryz.f95 B95 15 [(0,I n0),(1,I low1),(2,I high2)] fun c hc => ?_
 refine rs0 hc 1 [(0,I n0),(1,I low1),(2,I high2)] [] ?_
 refine sN ?_
 obtain ⟨a0,a1,h⟩ := Qds h
 refine Wp.into (x := .normal) (mkS [(6,.bool a0)] []) ?_ ?_
 ·replace h := a1
  rcases is h with ⟨a2,h⟩ | ⟨a2,h⟩
  ·refine rg hc none [oN,oN,oN,oN,oN,oN,oN,oT,oN] [(6,.bool (decide (n0 ≤ high2)))] [] (ar 4 a2 tv) ?_
   obtain rfl := os h
   exact Qde.mk
  refine rg hc none [oN,oN,oN,oN,o_,o_,o_,oF,oN] [(6,.bool false)] [] (ar 3 (neT a2) (ai a2 tv)) ?_
  obtain rfl := os h
  exact Qde.mk
 clear a1
 refine rt ?_
 obtain rfl := os h
 exact rq [true]
def Kct (p : K00 × Int) : Option (Bool) :=
 match p with
 | (s0,g1) =>
  (Kcq (g1,0,(wr (s0.fSize - 1)))) >>= fun a0 =>
  some a0
def Kcu (p : K00 × Int) (r : Bool) : Prop :=
 match p with
 | (s0,g1) => Q75 Tryz.prog 145 [K1a s0,I g1] (.bool r) []
theorem Kcv : ∀ p r,Kct p = some r → Kcu p r := by
 rintro ⟨s0,g1⟩ r h
 unfold Kct at h
 refine b0 Tryz.f145 K3z 10 [(0,K1a s0),(1,I g1)] fun c hc => ?_
 refine rs hc none [some (.new 1),oN] [(1,I g1),(2,.ra 1 0)] [(1,K19 s0)] tv ?_
 obtain ⟨a0,a1,h⟩ := Qds h
 refine rs hc none [oN,oN,oN,oN,oc (.bool a0),oN] [(4,.bool a0)] [] (cq (Kcs _ _ a1) K3y tv) ?_
 refine rt ?_
 obtain rfl := os h
 exact rq [true]
def Kcw (p : K00 × Int × Int) : Option (Int) :=
 match p with
 | (s0,a1,b2) =>
  (idx s0.fPlus (wr ((wr (a1 * s0.fSize)) + b2))) >>= fun a0 =>
  some a0
def Kcx (p : K00 × Int × Int) (r : Int) : Prop :=
 match p with
 | (s0,a1,b2) => Q75 Tryz.prog 160 [K1a s0,I a1,I b2] (I r) []
theorem Kcy : ∀ p r,Kcw p = some r → Kcx p r := by
 rintro ⟨s0,a1,b2⟩ r h
 unfold Kcw at h
 refine b0 Tryz.f160 K41 17 [(0,K1a s0),(1,I a1),(2,I b2)] fun c hc => ?_
 refine rs hc none [some (.new 1),oN] [(1,I a1),(2,I b2),(3,.ra 1 0)] [(1,K19 s0)] tv ?_
 obtain ⟨a0,a2,h⟩ := Qds h
 refine rs hc none [oN,oN,oN,oN,oN,oN,oN,oN,some (.el (I a0)),oN,oN] [(6,I a0)] [] (ai (ix a2) tv) ?_
 refine rt ?_
 obtain rfl := os h
 exact rq [true]
def Kcz (p : K00 × Int × Int) : Option (Int) :=
 match p with
 | (s0,a1,b2) =>
  (idx s0.fTimes (wr ((wr (a1 * s0.fSize)) + b2))) >>= fun a0 =>
  some a0
def Kd0 (p : K00 × Int × Int) (r : Int) : Prop :=
 match p with
 | (s0,a1,b2) => Q75 Tryz.prog 161 [K1a s0,I a1,I b2] (I r) []
theorem Kd1 : ∀ p r,Kcz p = some r → Kd0 p r := by
 rintro ⟨s0,a1,b2⟩ r h
 unfold Kcz at h
 refine b0 Tryz.f161 K43 17 [(0,K1a s0),(1,I a1),(2,I b2)] fun c hc => ?_
 refine rs hc none [some (.new 1),oN] [(1,I a1),(2,I b2),(3,.ra 1 0)] [(1,K19 s0)] tv ?_
 obtain ⟨a0,a2,h⟩ := Qds h
 refine rs hc none [oN,oN,oN,oN,oN,oN,oN,oN,some (.el (I a0)),oN,oN] [(6,I a0)] [] (ai (ix a2) tv) ?_
 refine rt ?_
 obtain rfl := os h
 exact rq [true]
def Kd2 (p : K00 × Int × Int) : Option (Bool) :=
 match p with
 | (s0,a1,b2) =>
  (idx s0.fBelow (wr ((wr (a1 * s0.fSize)) + b2))) >>= fun a0 =>
  some a0
def Kd3 (p : K00 × Int × Int) (r : Bool) : Prop :=
 match p with
 | (s0,a1,b2) => Q75 Tryz.prog 89 [K1a s0,I a1,I b2] (.bool r) []
theorem Kd4 : ∀ p r,Kd2 p = some r → Kd3 p r := by
 rintro ⟨s0,a1,b2⟩ r h
 unfold Kd2 at h
 refine b0 Tryz.f89 B89 17 [(0,K1a s0),(1,I a1),(2,I b2)] fun c hc => ?_
 refine rs hc none [some (.new 1),oN] [(1,I a1),(2,I b2),(3,.ra 1 0)] [(1,K19 s0)] tv ?_
 obtain ⟨a0,a2,h⟩ := Qds h
 refine rs hc none [oN,oN,oN,oN,oN,oN,oN,oN,some (.el (.bool a0)),oN,oN] [(6,.bool a0)] [] (ai (Qdw (enc := AV.bool) (x := .bool a0) a2 (Qe9 a0)) tv) ?_
 refine rt ?_
 obtain rfl := os h
 exact rq [true]
def Kd5 (c : Ctx) (s0 : K00) (a1 : Int) (b2 : Int) (a0 : Int) : Bool → Exit → Q0a → Prop
 | a2 => Qde c (.exit 2) (mkS [(1,I a1),(2,I b2),(3,.ra 1 0),(7,I a0),(8,.bool a2)] [(1,K19 s0)])
def Kd6 : Option (List (List Nat)) := rx [[0],[0],[0],[0],[0,1,2,3],[0],[6],[0],[0],[0],[0],[0],[7,9,10,11],[13],[14],[15],[16],[16],[16],[16],[16,17,18,19],[16],[22],[16],[16],[16],[16],[16],[23,25,26,27],[29],[30],[31]]
def Kd7 : Option (List (List Nat)) := rx [[0],[0],[0],[0],[0],[0,2,3,4],[6],[0],[0],[0],[0],[7,8,9,10],[0],[0],[0],[7,8,9,10,11,12,13,14],[16],[17],[18],[19],[19],[19],[19],[19,20,21,22],[19],[25],[19],[19],[19],[19],[26,27,28,29],[19],[19],[19],[26,27,28,29,30,31,32,33],[35],[36],[37]]
def Kd8 : Option (List (List Nat)) := rx [[0],[0],[0],[3],[4],[5],[6],[6],[6],[6],[6,7,8,9],[6],[6],[6],[6,7,8,9,10,11,12,13],[15],[16],[17],[17],[17],[17],[17,18,19,20],[17],[17],[17],[17,18,19,20,21,22,23,24],[26],[27],[28],[29],[29],[29],[29],[29,30,31,32],[29],[29],[29],[29,30,31,32,33,34,35,36],[38],[39],[40],[41]]
def Kd9 : Option (List (List Nat)) := rx [[0],[0],[0,1],[0],[0,1,2,3],[0,1,2,3,4],[6],[7],[8],[9],[9],[9,10],[9],[9,10,11,12],[9,10,11,12,13],[15],[16],[17]]
def Kda (p : K00 × Int × Int × Int × Bool × Int) : Option (Bool) :=
 match p with
 | (s0,a1,b2,a0,a2,a3) =>
  if (decide (a3 < s0.fSize)) = true then
  ((
  if a2 = true then
  (Kd2 (s0,a1,a3)) >>= fun a4 =>
  if a4 = true then
  (Kd2 (s0,b2,a3)) >>= fun a5 =>
  if a5 = true then
  (Kd2 (s0,a0,a3)) >>= fun a6 =>
  some (a6)
  else
  some (true)
  else
  some (true)
  else
  some (false)
  ) : Option (Bool)) >>= fun a7 =>
  Kda (s0,a1,b2,a0,a7,(wr (a3 + 1)))
  else
  some (a2)
 partial_fixpoint
def Kdb (p : K00 × Int × Int × Int × Bool × Int) (fl : Bool) : Prop :=
 match p with
 | (s0,a1,b2,a0,a2,a3) => ∀ c : Ctx,c.nt = 57 → WpL Tryz.prog c (cl (cl (cr (cl (cr (cr (cl (cl (cr (cl (cl (cr (cl (cr K46)))))))))))))) (Kd5 c s0 a1 b2 a0 fl) (mkS [(1,I a1),(2,I b2),(3,.ra 1 0),(7,I a0),(8,.bool a2),(9,I a3)] [(1,K19 s0)])
theorem Kdc : ∀ p r,Kda p = some r → Kdb p r := by
 refine Kda.partial_correctness Kdb ?_
 rintro impl_Systemjoin_l0_f impl_Systemjoin_l0_ih ⟨s0,a1,b2,a0,a2,a3⟩ r h
 intro c hc
 refine WpL.step ?_
 refine sN ?_
 refine K6n hc 4 [(1,I a1),(2,I b2),(3,.ra 1 0),(7,I a0),(8,.bool a2),(9,I a3),(31,.bool (decide (a3 < s0.fSize)))] ?_
 refine ic h (fun a4 h => ?_) fun a4 h => ?_
 ·refine sk ?_
  refine sN ?_
  refine bk 3 ?_
  obtain ⟨a5,a6,h⟩ := Qds h
  refine Wp.into (x := .normal) (mkS [(1,I a1),(2,I b2),(3,.ra 1 0),(7,I a0),(8,.bool a5),(9,I a3)] [(1,K19 s0)]) ?_ ?_
  ·replace h := a6
   rcases is h with ⟨a7,h⟩ | ⟨a7,h⟩
   ·obtain ⟨a8,a9,h⟩ := Qds h
    rcases is h with ⟨b1,h⟩ | ⟨b1,h⟩
    ·obtain ⟨b3,b4,h⟩ := Qds h
     rcases is h with ⟨b5,h⟩ | ⟨b5,h⟩
     ·obtain ⟨b6,b7,h⟩ := Qds h
      refine rgs hc none [oN,oN,oN,oN,oN,oc (.bool a8),oN,oN,oN,oN,oN,oc (.bool b3),oN,oF,oN,oN,oN,oN,oc (.bool b6),oF,oT,oN] [(1,I a1),(2,I b2),(3,.ra 1 0),(7,I a0),(8,.bool b6),(9,I a3)] (ar 4 a7 (cq (Kd4 _ _ a9) K45 (ar 2 a7 (ar 4 (nF b1) (cq (Kd4 _ _ b4) K45 (ad (nF b1) a7 (nF b1) a7 (ar 4 (nF b5) (cq (Kd4 _ _ b7) K45 (ac a7 (nF b5) a7 tv))))))))) ?_
      obtain rfl := os h
      exact Qde.mk
     refine rgs hc none [oN,oN,oN,oN,oN,oc (.bool a8),oN,oN,oN,oN,oN,oc (.bool b3),oN,oF,oN,o_,o_,o_,o_,oT,oT,oN] [(1,I a1),(2,I b2),(3,.ra 1 0),(7,I a0),(8,.bool true),(9,I a3)] (ar 4 a7 (cq (Kd4 _ _ a9) K45 (ar 2 a7 (ar 4 (nF b1) (cq (Kd4 _ _ b4) K45 (ad (nF b1) a7 (nF b1) a7 (ar 4 (neF (nT b5)) (ac a7 (nT b5) a7 tv)))))))) ?_
     obtain rfl := os h
     exact Qde.mk
    refine rgs hc none [oN,oN,oN,oN,oN,oc (.bool a8),oN,oN,o_,o_,o_,o_,o_,oT,oN,o_,o_,o_,o_,oT,oT,oN] [(1,I a1),(2,I b2),(3,.ra 1 0),(7,I a0),(8,.bool true),(9,I a3)] (ar 4 a7 (cq (Kd4 _ _ a9) K45 (ar 2 a7 (ar 5 (neF (nT b1)) (ac a7 (nT b1) a7 (ar 4 nf (ac a7 tt a7 tv))))))) ?_
    obtain rfl := os h
    exact Qde.mk
   refine rgs hc none [oN,oN,o_,o_,o_,o_,o_,o_,o_,o_,o_,o_,o_,o_,o_,o_,o_,o_,o_,o_,oF,oN] [(1,I a1),(2,I b2),(3,.ra 1 0),(7,I a0),(8,.bool false),(9,I a3)] (ar 9 (neT a7) (ai a7 tv)) ?_
   obtain rfl := os h
   exact Qde.mk
  clear a6
  refine K6m hc 3 [(1,I a1),(2,I b2),(3,.ra 1 0),(7,I a0),(8,.bool a5),(9,I (wr (a3 + 1)))] ?_
  refine Qda ?_
  exact (impl_Systemjoin_l0_ih _ _ h c hc)
 refine xt 2 ?_
 refine Qd4 ?_
 refine Qdb ?_
 obtain rfl := os h
 exact iv []
def Kdd (c : Ctx) (s0 : K00) (a1 : Int) (b2 : Int) (a0 : Int) : (Unit) ⊕ (Int) → Exit → Q0a → Prop
 | .inl _ => Qde c .normal (mkS [(1,I a1),(2,I b2),(3,.ra 1 0),(7,I a0)] [(1,K19 s0)])
 | .inr r => Qdn TIx Tryz.f149 [] (I r)
def Kde (c : Ctx) : (Unit) ⊕ (Int) → Exit → Q0a → Prop
 | .inl _ => Qde c (.exit 0) (mkS [] [])
 | .inr r => Qdn TIx Tryz.f149 [] (I r)
def Kdf (p : K00 × Int × Int × Int) : Option ((Unit) ⊕ (Int)) :=
 match p with
 | (s0,a1,b2,a0) =>
  if (decide (a0 < s0.fSize)) = true then
  ((
   ((
   (Kd2 (s0,a1,a0)) >>= fun a2 =>
   if a2 = true then
   (Kd2 (s0,b2,a0)) >>= fun a3 =>
   some ((!a3))
   else
   some (true)
   ) : Option (Bool)) >>= fun a4 =>
   if a4 = true then
   some (.inl ())
   else
   (Kda (s0,a1,b2,a0,true,0)) >>= fun a5 =>
   if a5 = true then
   some (.inr a0)
   else
   some (.inl ())) : Option ((Unit) ⊕ (Int))) >>= fun fl => match fl with
  | .inl () =>
   Kdf (s0,a1,b2,(wr (a0 + 1)))
  | .inr r =>
   some (.inr r)
  else
  some (.inl ())
 partial_fixpoint
def Kdg (p : K00 × Int × Int × Int) (fl : (Unit) ⊕ (Int)) : Prop :=
 match p with
 | (s0,a1,b2,a0) => ∀ c : Ctx,c.nt = 57 → WpL Tryz.prog c (cl (cl (cr (cl (cr K46))))) (Kde c fl) (mkS [(1,I a1),(2,I b2),(3,.ra 1 0),(7,I a0)] [(1,K19 s0)])
theorem Kdh : ∀ p r,Kdf p = some r → Kdg p r := by
 refine Kdf.partial_correctness Kdg ?_
 rintro impl_Systemjoin_l1_f impl_Systemjoin_l1_ih ⟨s0,a1,b2,a0⟩ r h
 intro c hc
 refine WpL.step ?_
 refine sN ?_
 refine K6n hc 4 [(1,I a1),(2,I b2),(3,.ra 1 0),(7,I a0),(13,.bool (decide (a0 < s0.fSize)))] ?_
 refine ic h (fun a2 h => ?_) fun a2 h => ?_
 ·refine sk ?_
  refine sN ?_
  obtain ⟨fl,a3,h⟩ := Qds h
  refine flw (Kdd c s0 a1 b2 a0 fl) ?_ (fun hF => ?_)
  ·replace h := a3
   refine bk 1 ?_
   refine sN ?_
   refine sN ?_
   obtain ⟨a4,a5,h⟩ := Qds h
   refine Wp.into (x := .normal) (mkS [(1,I a1),(2,I b2),(3,.ra 1 0),(7,I a0),(27,.bool a4)] [(1,K19 s0)]) ?_ ?_
   ·replace h := a5
    obtain ⟨a6,a7,h⟩ := Qds h
    rcases is h with ⟨a8,h⟩ | ⟨a8,h⟩
    ·obtain ⟨a9,b1,h⟩ := Qds h
     refine rgs hc none [oN,oN,oN,oc (.bool a6),oN,oN,oN,oN,oN,oc (.bool a9),oN,oF] [(1,I a1),(2,I b2),(3,.ra 1 0),(7,I a0),(27,.bool (!a9))] (cq (Kd4 _ _ a7) K45 (ar 4 (nF a8) (cq (Kd4 _ _ b1) K45 (ar 2 (nF a8) tv)))) ?_
     obtain rfl := os h
     exact Qde.mk
    refine rgs hc none [oN,oN,oN,oc (.bool a6),oN,oN,o_,o_,o_,o_,o_,oT] [(1,I a1),(2,I b2),(3,.ra 1 0),(7,I a0),(27,.bool true)] (cq (Kd4 _ _ a7) K45 (ar 5 (neF (nT a8)) (ai (nT a8) tv))) ?_
    obtain rfl := os h
    exact Qde.mk
   clear a5
   refine ic h (fun b3 h => ?_) fun b3 h => ?_
   ·refine xt 1 ?_
    refine Qd4 ?_
    refine Qd6 ?_
    obtain rfl := os h
    exact iv []
   refine sk ?_
   refine K6n hc 1 [(1,I a1),(2,I b2),(3,.ra 1 0),(7,I a0),(8,.bool true)] ?_
   refine sN ?_
   refine K6n hc 1 [(1,I a1),(2,I b2),(3,.ra 1 0),(7,I a0),(8,.bool true),(9,I 0)] ?_
   refine bk 2 ?_
   obtain ⟨b4,b5,h⟩ := Qds h
   have hL := Kdc _ _ b5 c hc
   refine lp ?_
   refine WpL.into (e := (.exit 2)) (mkS [(1,I a1),(2,I b2),(3,.ra 1 0),(7,I a0),(8,.bool b4)] [(1,K19 s0)]) hL ?_
   refine Qd6 ?_
   refine K6n hc 1 [(1,I a1),(2,I b2),(3,.ra 1 0),(7,I a0),(55,.bool b4)] ?_
   refine ic h (fun b6 h => ?_) fun b6 h => ?_
   ·refine rs0 hc 2 [(6,I a0)] [] ?_
    refine rt ?_
    obtain rfl := os h
    exact re [true]
   refine sk ?_
   obtain rfl := os h
   exact iv []
  rcases fl with ⟨⟩ | r
  ·refine Wp.into (x := .normal) (mkS [(1,I a1),(2,I b2),(3,.ra 1 0),(7,I a0)] [(1,K19 s0)]) hF ?_
   refine K6m hc 3 [(1,I a1),(2,I b2),(3,.ra 1 0),(7,I (wr (a0 + 1)))] ?_
   refine Qda ?_
   exact (impl_Systemjoin_l1_ih _ _ h c hc)
  refine Wp.mono hF ?_
  rintro _ _ ⟨rfl,hfin⟩
  obtain rfl := os h
  exact ⟨rfl,hfin⟩
 refine xt 0 ?_
 refine Qd4 ?_
 refine Qdb ?_
 obtain rfl := os h
 exact iv []
def Kdi (p : K00 × Int × Int) : Option (Int) :=
 match p with
 | (s0,a1,b2) =>
  (Kdf (s0,a1,b2,0)) >>= fun fl => match fl with
  | .inl () =>
   some (-1)
  | .inr r =>
   some r
def Kdj (p : K00 × Int × Int) (r : Int) : Prop :=
 match p with
 | (s0,a1,b2) => Q75 Tryz.prog 149 [K1a s0,I a1,I b2] (I r) []
theorem Kdk : ∀ p r,Kdi p = some r → Kdj p r := by
 rintro ⟨s0,a1,b2⟩ r h
 unfold Kdi at h
 refine b0 Tryz.f149 K46 57 [(0,K1a s0),(1,I a1),(2,I b2)] fun c hc => ?_
 refine rs hc none [some (.new 1),oN] [(1,I a1),(2,I b2),(3,.ra 1 0)] [(1,K19 s0)] tv ?_
 refine sN ?_
 refine K6n hc 1 [(1,I a1),(2,I b2),(3,.ra 1 0),(7,I 0)] ?_
 refine bk 0 ?_
 obtain ⟨fl,a0,h⟩ := Qds h
 have hL := Kdh _ _ a0 c hc
 refine lp ?_
 rcases fl with ⟨⟩ | r
 ·refine WpL.into (e := (.exit 0)) (mkS [] []) hL ?_
  refine Qd6 ?_
  refine rs0 hc 1 [(6,I (-1))] [] ?_
  refine rt ?_
  obtain rfl := os h
  exact rq [true]
 refine WpL.mono hL ?_
 rintro _ _ ⟨rfl,hfin⟩
 obtain rfl := os h
 exact ⟨.inl rfl,hfin⟩
def Kdl (p : K00 × Int × Int × Int) : Option (Bool) :=
 match p with
 | (s0,a1,b2,c3) =>
  ((
  (Kcw (s0,a1,b2)) >>= fun a0 =>
  (Kcw (s0,a0,c3)) >>= fun a2 =>
  (Kcw (s0,b2,c3)) >>= fun a3 =>
  (Kcw (s0,a1,a3)) >>= fun a4 =>
  if (a2 != a4) = true then
  some (true)
  else
  (Kcz (s0,a1,b2)) >>= fun a5 =>
  (Kcz (s0,a5,c3)) >>= fun a6 =>
  (Kcz (s0,b2,c3)) >>= fun a7 =>
  (Kcz (s0,a1,a7)) >>= fun a8 =>
  some ((a6 != a8))
  ) : Option (Bool)) >>= fun a9 =>
  if a9 = true then
  some false
  else
  ((
  (Kcw (s0,b2,c3)) >>= fun b1 =>
  (Kcz (s0,a1,b1)) >>= fun b3 =>
  (Kcz (s0,a1,b2)) >>= fun b4 =>
  (Kcz (s0,a1,c3)) >>= fun b5 =>
  (Kcw (s0,b4,b5)) >>= fun b6 =>
  if (b3 != b6) = true then
  some (true)
  else
  (Kcw (s0,a1,b2)) >>= fun b7 =>
  (Kcz (s0,b7,c3)) >>= fun b8 =>
  (Kcz (s0,a1,c3)) >>= fun b9 =>
  (Kcz (s0,b2,c3)) >>= fun c0 =>
  (Kcw (s0,b9,c0)) >>= fun c1 =>
  some ((b8 != c1))
  ) : Option (Bool)) >>= fun c2 =>
  if c2 = true then
  some false
  else
  ((
  (Kd2 (s0,a1,b2)) >>= fun c4 =>
  if c4 = true then
  (Kd2 (s0,b2,c3)) >>= fun c5 =>
  if c5 = true then
  (Kd2 (s0,a1,c3)) >>= fun c6 =>
  some ((!c6))
  else
  some (false)
  else
  some (false)
  ) : Option (Bool)) >>= fun c7 =>
  if c7 = true then
  some false
  else
  ((
  (Kd2 (s0,a1,b2)) >>= fun c8 =>
  if c8 = true then
  (Kcw (s0,a1,c3)) >>= fun c9 =>
  (Kcw (s0,b2,c3)) >>= fun d0 =>
  (Kd2 (s0,c9,d0)) >>= fun d1 =>
  if d1 = true then
  (Kcz (s0,a1,c3)) >>= fun d2 =>
  (Kcz (s0,b2,c3)) >>= fun d3 =>
  (Kd2 (s0,d2,d3)) >>= fun d4 =>
  if d4 = true then
  (Kcz (s0,c3,a1)) >>= fun d5 =>
  (Kcz (s0,c3,b2)) >>= fun d6 =>
  (Kd2 (s0,d5,d6)) >>= fun d7 =>
  some (d7)
  else
  some (false)
  else
  some (false)
  else
  some (true)
  ) : Option (Bool)) >>= fun d8 =>
  some d8
def Kdm (p : K00 × Int × Int × Int) (r : Bool) : Prop :=
 match p with
 | (s0,a1,b2,c3) => Q75 Tryz.prog 162 [K1a s0,I a1,I b2,I c3] (.bool r) []
theorem Kdn : ∀ p r,Kdl p = some r → Kdm p r := by
 rintro ⟨s0,a1,b2,c3⟩ r h
 unfold Kdl at h
 refine b0 Tryz.f162 K48 137 [(0,K1a s0),(1,I a1),(2,I b2),(3,I c3)] fun c hc => ?_
 refine rs hc none [some (.new 1),oN] [(1,I a1),(2,I b2),(3,I c3),(4,.ra 1 0)] [(1,K19 s0)] tv ?_
 refine sN ?_
 refine sN ?_
 obtain ⟨a0,a2,h⟩ := Qds h
 refine Wp.into (x := .normal) (mkS [(1,I a1),(2,I b2),(3,I c3),(4,.ra 1 0),(40,.bool a0)] [(1,K19 s0)]) ?_ ?_
 ·replace h := a2
  obtain ⟨a3,a4,a5,a6,a7,a8,a9,b1,h⟩ := bq4 h
  rcases is h with ⟨b3,h⟩ | ⟨b3,h⟩
  ·refine rgs hc Kd6 [oN,oN,oN,oN,oc (I a3),oN,oc (I a5),oN,oN,oN,oN,oN,oc (I a7),oc (I a9),oN,oN,o_,o_,o_,o_,o_,o_,o_,o_,o_,o_,o_,o_,o_,o_,o_,oT] [(1,I a1),(2,I b2),(3,I c3),(4,.ra 1 0),(40,.bool true)] (cq (Kcy _ _ a4) K42 (cq (Kcy _ _ a6) K42 (cq (Kcy _ _ a8) K42 (cq (Kcy _ _ b1) K42 (ar 15 (neF b3) (ai b3 tv)))))) ?_
   obtain rfl := os h
   exact Qde.mk
  obtain ⟨b4,b5,b6,b7,b8,b9,c0,c1,h⟩ := bq4 h
  refine rgs hc Kd6 [oN,oN,oN,oN,oc (I a3),oN,oc (I a5),oN,oN,oN,oN,oN,oc (I a7),oc (I a9),oN,oN,oN,oN,oN,oN,oc (I b4),oN,oc (I b6),oN,oN,oN,oN,oN,oc (I b8),oc (I c0),oN,oF] [(1,I a1),(2,I b2),(3,I c3),(4,.ra 1 0),(40,.bool (b6 != c0))] (cq (Kcy _ _ a4) K42 (cq (Kcy _ _ a6) K42 (cq (Kcy _ _ a8) K42 (cq (Kcy _ _ b1) K42 (ar 5 b3 (cq (Kd1 _ _ b5) K44 (ar 2 b3 (cq (Kd1 _ _ b7) K44 (ar 6 b3 (cq (Kd1 _ _ b9) K44 (ai b3 (cq (Kd1 _ _ c1) K44 (ar 2 b3 tv))))))))))))) ?_
  obtain rfl := os h
  exact Qde.mk
 clear a2
 refine ic h (fun c2 h => ?_) fun c2 h => ?_
 ·refine rs0 hc 1 [(8,.bool false)] [] ?_
  refine rt ?_
  obtain rfl := os h
  exact rq [true]
 refine sk ?_
 refine sN ?_
 refine sN ?_
 obtain ⟨c4,c5,h⟩ := Qds h
 refine Wp.into (x := .normal) (mkS [(1,I a1),(2,I b2),(3,I c3),(4,.ra 1 0),(78,.bool c4)] [(1,K19 s0)]) ?_ ?_
 ·replace h := c5
  obtain ⟨c6,c7,c8,c9,d0,d1,d2,d3,h⟩ := bq4 h
  obtain ⟨d4,d5,h⟩ := Qds h
  rcases is h with ⟨d6,h⟩ | ⟨d6,h⟩
  ·refine rgs hc Kd7 [oN,oN,oN,oN,oN,oc (I c6),oc (I c8),oN,oN,oN,oN,oc (I d0),oN,oN,oN,oc (I d2),oc (I d4),oN,oN,o_,o_,o_,o_,o_,o_,o_,o_,o_,o_,o_,o_,o_,o_,o_,o_,o_,o_,oT] [(1,I a1),(2,I b2),(3,I c3),(4,.ra 1 0),(78,.bool true)] (cq (Kcy _ _ c7) K42 (cq (Kd1 _ _ c9) K44 (cq (Kd1 _ _ d1) K44 (cq (Kd1 _ _ d3) K44 (cq (Kcy _ _ d5) K42 (ar 18 (neF d6) (ai d6 tv))))))) ?_
   obtain rfl := os h
   exact Qde.mk
  obtain ⟨d7,d8,d9,e0,e1,e2,e3,e4,h⟩ := bq4 h
  obtain ⟨e5,e6,h⟩ := Qds h
  refine rgs hc Kd7 [oN,oN,oN,oN,oN,oc (I c6),oc (I c8),oN,oN,oN,oN,oc (I d0),oN,oN,oN,oc (I d2),oc (I d4),oN,oN,oN,oN,oN,oN,oc (I d7),oN,oc (I d9),oN,oN,oN,oN,oc (I e1),oN,oN,oN,oc (I e3),oc (I e5),oN,oF] [(1,I a1),(2,I b2),(3,I c3),(4,.ra 1 0),(78,.bool (d9 != e5))] (cq (Kcy _ _ c7) K42 (cq (Kd1 _ _ c9) K44 (cq (Kd1 _ _ d1) K44 (cq (Kd1 _ _ d3) K44 (cq (Kcy _ _ d5) K42 (ar 5 d6 (cq (Kcy _ _ d8) K42 (ar 2 d6 (cq (Kd1 _ _ e0) K44 (ar 5 d6 (cq (Kd1 _ _ e2) K44 (ar 4 d6 (cq (Kd1 _ _ e4) K44 (ai d6 (cq (Kcy _ _ e6) K42 (ar 2 d6 tv)))))))))))))))) ?_
  obtain rfl := os h
  exact Qde.mk
 clear c5
 refine ic h (fun e7 h => ?_) fun e7 h => ?_
 ·refine rs0 hc 1 [(8,.bool false)] [] ?_
  refine rt ?_
  obtain rfl := os h
  exact rq [true]
 refine sk ?_
 refine sN ?_
 refine sN ?_
 obtain ⟨e8,e9,h⟩ := Qds h
 refine Wp.into (x := .normal) (mkS [(1,I a1),(2,I b2),(3,I c3),(4,.ra 1 0),(95,.bool e8)] [(1,K19 s0)]) ?_ ?_
 ·replace h := e9
  obtain ⟨f0,f1,h⟩ := Qds h
  rcases is h with ⟨f2,h⟩ | ⟨f2,h⟩
  ·obtain ⟨f3,f4,h⟩ := Qds h
   rcases is h with ⟨f5,h⟩ | ⟨f5,h⟩
   ·obtain ⟨f6,f7,h⟩ := Qds h
    refine rgs hc none [oN,oN,oN,oc (.bool f0),oN,oN,oN,oN,oc (.bool f3),oT,oN,oN,oN,oN,oc (.bool f6),oN,oT] [(1,I a1),(2,I b2),(3,I c3),(4,.ra 1 0),(95,.bool (!f6))] (cq (Kd4 _ _ f1) K45 (ar 4 f2 (cq (Kd4 _ _ f4) K45 (ai f2 (ar 4 f5 (cq (Kd4 _ _ f7) K45 (ar 2 f5 tv))))))) ?_
    obtain rfl := os h
    exact Qde.mk
   refine rgs hc none [oN,oN,oN,oc (.bool f0),oN,oN,oN,oN,oc (.bool f3),oT,oN,o_,o_,o_,o_,o_,oF] [(1,I a1),(2,I b2),(3,I c3),(4,.ra 1 0),(95,.bool false)] (cq (Kd4 _ _ f1) K45 (ar 4 f2 (cq (Kd4 _ _ f4) K45 (ai f2 (ar 5 (neT f5) (ai f5 tv)))))) ?_
   obtain rfl := os h
   exact Qde.mk
  refine rgs hc none [oN,oN,oN,oc (.bool f0),oN,o_,o_,o_,o_,oF,oN,o_,o_,o_,o_,o_,oF] [(1,I a1),(2,I b2),(3,I c3),(4,.ra 1 0),(95,.bool false)] (cq (Kd4 _ _ f1) K45 (ar 4 (neT f2) (ai f2 (ar 5 (neT (rfl : false = false)) (ai (rfl : false = false) tv))))) ?_
  obtain rfl := os h
  exact Qde.mk
 clear e9
 refine ic h (fun f8 h => ?_) fun f8 h => ?_
 ·refine rs0 hc 1 [(8,.bool false)] [] ?_
  refine rt ?_
  obtain rfl := os h
  exact rq [true]
 refine sk ?_
 refine sN ?_
 obtain ⟨f9,g0,h⟩ := Qds h
 refine Wp.into (x := .normal) (mkS [(8,.bool f9)] []) ?_ ?_
 ·replace h := g0
  obtain ⟨g1,g2,h⟩ := Qds h
  rcases is h with ⟨g3,h⟩ | ⟨g3,h⟩
  ·obtain ⟨g4,g5,g6,g7,g8,g9,h⟩ := bq3 h
   rcases is h with ⟨i0,h⟩ | ⟨i0,h⟩
   ·obtain ⟨i1,i2,i3,i4,i5,i6,h⟩ := bq3 h
    rcases is h with ⟨i7,h⟩ | ⟨i7,h⟩
    ·obtain ⟨i8,i9,j0,j8,j9,k0,h⟩ := bq3 h
     refine rg hc Kd8 [oN,oN,oN,oc (.bool g1),oN,oN,oN,oN,oN,oN,oc (I g4),oN,oN,oN,oc (I g6),oc (.bool g8),oN,oN,oN,oN,oN,oc (I i1),oN,oN,oN,oc (I i3),oc (.bool i5),oT,oN,oN,oN,oN,oN,oc (I i8),oN,oN,oN,oc (I j0),oc (.bool j9),oT,oF,oN] [(8,.bool j9)] [] (cq (Kd4 _ _ g2) K45 (ar 5 (nF g3) (cq (Kcy _ _ g5) K42 (ar 4 (nF g3) (cq (Kcy _ _ g7) K42 (ai (nF g3) (cq (Kd4 _ _ g9) K45 (ai (nF g3) (ar 5 i0 (cq (Kd1 _ _ i2) K44 (ar 4 i0 (cq (Kd1 _ _ i4) K44 (ai i0 (cq (Kd4 _ _ i6) K45 (ac (nF g3) i0 (nF g3) (ar 5 i7 (cq (Kd1 _ _ i9) K44 (ar 4 i7 (cq (Kd1 _ _ j8) K44 (ai i7 (cq (Kd4 _ _ k0) K45 (ac (nF g3) i7 (nF g3) tv)))))))))))))))))))))) ?_
     obtain rfl := os h
     exact Qde.mk
    refine rg hc Kd8 [oN,oN,oN,oc (.bool g1),oN,oN,oN,oN,oN,oN,oc (I g4),oN,oN,oN,oc (I g6),oc (.bool g8),oN,oN,oN,oN,oN,oc (I i1),oN,oN,oN,oc (I i3),oc (.bool i5),oT,oN,o_,o_,o_,o_,o_,o_,o_,o_,o_,o_,oF,oF,oN] [(8,.bool false)] [] (cq (Kd4 _ _ g2) K45 (ar 5 (nF g3) (cq (Kcy _ _ g5) K42 (ar 4 (nF g3) (cq (Kcy _ _ g7) K42 (ai (nF g3) (cq (Kd4 _ _ g9) K45 (ai (nF g3) (ar 5 i0 (cq (Kd1 _ _ i2) K44 (ar 4 i0 (cq (Kd1 _ _ i4) K44 (ai i0 (cq (Kd4 _ _ i6) K45 (ac (nF g3) i0 (nF g3) (ar 10 (neT i7) (ac (nF g3) i7 (nF g3) tv))))))))))))))))) ?_
    obtain rfl := os h
    exact Qde.mk
   refine rg hc Kd8 [oN,oN,oN,oc (.bool g1),oN,oN,oN,oN,oN,oN,oc (I g4),oN,oN,oN,oc (I g6),oc (.bool g8),oN,o_,o_,o_,o_,o_,o_,o_,o_,o_,o_,oF,oN,o_,o_,o_,o_,o_,o_,o_,o_,o_,o_,oF,oF,oN] [(8,.bool false)] [] (cq (Kd4 _ _ g2) K45 (ar 5 (nF g3) (cq (Kcy _ _ g5) K42 (ar 4 (nF g3) (cq (Kcy _ _ g7) K42 (ai (nF g3) (cq (Kd4 _ _ g9) K45 (ai (nF g3) (ar 10 (neT i0) (ac (nF g3) i0 (nF g3) (ar 10 (neT (rfl : false = false)) (ac (nF g3) (rfl : false = false) (nF g3) tv)))))))))))) ?_
   obtain rfl := os h
   exact Qde.mk
  refine rg hc Kd8 [oN,oN,oN,oc (.bool g1),oN,oN,o_,o_,o_,o_,o_,o_,o_,o_,o_,o_,o_,o_,o_,o_,o_,o_,o_,o_,o_,o_,o_,o_,o_,o_,o_,o_,o_,o_,o_,o_,o_,o_,o_,o_,oT,oN] [(8,.bool true)] [] (cq (Kd4 _ _ g2) K45 (ar 14 (neF (nT g3)) (ai (nT g3) tv))) ?_
  obtain rfl := os h
  exact Qde.mk
 clear g0
 refine rt ?_
 obtain rfl := os h
 exact rq [true]
def Kdo (c : Ctx) (s0 : K00) : (Unit) ⊕ (Bool) → Exit → Q0a → Prop
 | .inl _ => Qde c (.exit 0) (mkS [(1,.ra 1 0),(3,I s0.fSize)] [(1,K19 s0)])
 | .inr r => Qdn TIx Tryz.f79 [] (.bool r)
def Kdp (p : K00 × Int) : Option ((Unit) ⊕ (Bool)) :=
 match p with
 | (s0,a0) =>
  if (decide (a0 < (s0.fPlus.length : Int))) = true then
  ((
  (idx s0.fPlus a0) >>= fun a1 =>
  (Kct (s0,a1)) >>= fun a2 =>
  if a2 = true then
  (idx s0.fTimes a0) >>= fun a3 =>
  (Kct (s0,a3)) >>= fun a4 =>
  some ((!a4))
  else
  some (true)
  ) : Option (Bool)) >>= fun a5 =>
  if a5 = true then
  some (.inr false)
  else
  Kdp (s0,(wr (a0 + 1)))
  else
  some (.inl ())
 partial_fixpoint
def Kdq (p : K00 × Int) (fl : (Unit) ⊕ (Bool)) : Prop :=
 match p with
 | (s0,a0) => ∀ c : Ctx,c.nt = 157 → WpL Tryz.prog c (cl (cl (cr (cl (cr (cr (cr B79))))))) (Kdo c s0 fl) (mkS [(1,.ra 1 0),(3,I s0.fSize),(42,I (s0.fPlus.length : Int)),(43,I a0)] [(1,K19 s0)])
theorem Kdr : ∀ p r,Kdp p = some r → Kdq p r := by
 refine Kdp.partial_correctness Kdq ?_
 rintro impl_IsSystem_l0_f impl_IsSystem_l0_ih ⟨s0,a0⟩ r h
 intro c hc
 refine WpL.step ?_
 refine K6n hc 1 [(1,.ra 1 0),(3,I s0.fSize),(42,I (s0.fPlus.length : Int)),(43,I a0),(44,.bool (decide (a0 < (s0.fPlus.length : Int))))] ?_
 refine sN ?_
 refine ic h (fun a1 h => ?_) fun a1 h => ?_
 ·refine sk ?_
  refine sN ?_
  refine bk 1 ?_
  refine K6n hc 2 [(1,.ra 1 0),(3,I s0.fSize),(4,I a0),(42,I (s0.fPlus.length : Int)),(43,I a0)] ?_
  refine sN ?_
  obtain ⟨a2,a3,h⟩ := Qds h
  refine Wp.into (x := .normal) (mkS [(1,.ra 1 0),(3,I s0.fSize),(42,I (s0.fPlus.length : Int)),(43,I a0),(63,.bool a2)] [(1,K19 s0)]) ?_ ?_
  ·replace h := a3
   obtain ⟨a4,a5,a6,a7,h⟩ := bq2 h
   rcases is h with ⟨a8,h⟩ | ⟨a8,h⟩
   ·obtain ⟨a9,b1,b2,b3,h⟩ := bq2 h
    refine rgs hc Kd9 [oN,oN,oN,oN,some (.el (I a4)),oN,oc (.bool a6),oN,oN,oN,oN,oN,oN,some (.el (I a9)),oN,oc (.bool b2),oN,oF] [(1,.ra 1 0),(3,I s0.fSize),(42,I (s0.fPlus.length : Int)),(43,I a0),(63,.bool (!b2))] (ai (ix a5) (cq (Kcv _ _ a7) K40 (ar 5 (nF a8) (ai (ix b1) (ar 2 (nF a8) (cq (Kcv _ _ b3) K40 (ar 2 (nF a8) tv))))))) ?_
    obtain rfl := os h
    exact Qde.mk
   refine rgs hc Kd9 [oN,oN,oN,oN,some (.el (I a4)),oN,oc (.bool a6),oN,oN,o_,o_,o_,o_,o_,o_,o_,o_,oT] [(1,.ra 1 0),(3,I s0.fSize),(42,I (s0.fPlus.length : Int)),(43,I a0),(63,.bool true)] (ai (ix a5) (cq (Kcv _ _ a7) K40 (ar 8 (neF (nT a8)) (ai (nT a8) tv)))) ?_
   obtain rfl := os h
   exact Qde.mk
  clear a3
  refine ic h (fun b4 h => ?_) fun b4 h => ?_
  ·refine rs0 hc 1 [(2,.bool false)] [] ?_
   refine rt ?_
   obtain rfl := os h
   exact re [true]
  refine sk ?_
  refine K6m hc 2 [(1,.ra 1 0),(3,I s0.fSize),(42,I (s0.fPlus.length : Int)),(43,I (wr (a0 + 1)))] ?_
  refine Qda ?_
  exact (impl_IsSystem_l0_ih _ _ h c hc)
 refine xt 0 ?_
 refine Qd4 ?_
 refine Qdb ?_
 obtain rfl := os h
 exact iv []
def Kds (c : Ctx) (s0 : K00) (a0 : Int) (a1 : Int) : (Unit) ⊕ (Bool) → Exit → Q0a → Prop
 | .inl _ => Qde c (.exit 6) (mkS [(1,.ra 1 0),(3,I s0.fSize),(5,I a0),(6,I a1)] [(1,K19 s0)])
 | .inr r => Qdn TIx Tryz.f79 [] (.bool r)
def Kdt (p : K00 × Int × Int × Int) : Option ((Unit) ⊕ (Bool)) :=
 match p with
 | (s0,a0,a1,a2) =>
  if (decide (a2 < s0.fSize)) = true then
  (Kdl (s0,a0,a1,a2)) >>= fun a3 =>
  if a3 = true then
  Kdt (s0,a0,a1,(wr (a2 + 1)))
  else
  some (.inr false)
  else
  some (.inl ())
 partial_fixpoint
def Kdu (p : K00 × Int × Int × Int) (fl : (Unit) ⊕ (Bool)) : Prop :=
 match p with
 | (s0,a0,a1,a2) => ∀ c : Ctx,c.nt = 157 → WpL Tryz.prog c (cl (cl (cr (cr (cl (cl (cr (cl (cl (cr (cr (cl (cl (cr (cl (cl (cr (cl (cr (cr (cr (cr B79)))))))))))))))))))))) (Kds c s0 a0 a1 fl) (mkS [(1,.ra 1 0),(3,I s0.fSize),(5,I a0),(6,I a1),(7,I a2)] [(1,K19 s0)])
theorem Kdv : ∀ p r,Kdt p = some r → Kdu p r := by
 refine Kdt.partial_correctness Kdu ?_
 rintro impl_IsSystem_l1_f impl_IsSystem_l1_ih ⟨s0,a0,a1,a2⟩ r h
 intro c hc
 refine WpL.step ?_
 refine sN ?_
 refine K6n hc 3 [(1,.ra 1 0),(3,I s0.fSize),(5,I a0),(6,I a1),(7,I a2),(148,.bool (decide (a2 < s0.fSize)))] ?_
 refine ic h (fun a3 h => ?_) fun a3 h => ?_
 ·refine sk ?_
  refine sN ?_
  refine bk 7 ?_
  obtain ⟨a4,a5,h⟩ := Qds h
  refine rss hc none [oN,oN,oN,oN,oc (.bool a4),oN] [(1,.ra 1 0),(3,I s0.fSize),(5,I a0),(6,I a1),(7,I a2),(156,.bool (!a4))] (cq (Kdn _ _ a5) K49 tv) ?_
  rcases is h with ⟨a6,h⟩ | ⟨a6,h⟩
  ·refine cF (!a4) (nF a6) ?_
   refine sk ?_
   refine K6m hc 3 [(1,.ra 1 0),(3,I s0.fSize),(5,I a0),(6,I a1),(7,I (wr (a2 + 1)))] ?_
   refine Qda ?_
   exact (impl_IsSystem_l1_ih _ _ h c hc)
  refine cT (!a4) (nT a6) ?_
  refine rs0 hc 1 [(2,.bool false)] [] ?_
  refine rt ?_
  obtain rfl := os h
  exact re [true]
 refine xt 6 ?_
 refine Qd4 ?_
 refine Qdb ?_
 obtain rfl := os h
 exact iv []
def Kdw (c : Ctx) (s0 : K00) (a0 : Int) : (Unit) ⊕ (Bool) → Exit → Q0a → Prop
 | .inl _ => Qde c (.exit 4) (mkS [(1,.ra 1 0),(3,I s0.fSize),(5,I a0)] [(1,K19 s0)])
 | .inr r => Qdn TIx Tryz.f79 [] (.bool r)
def Kdx : Option (List (List Nat)) := rh [0,0,0,3,0,0,0,7,8,9,10,10,12,13,14,14,14,17,18,19,20,20,20,23,24,25,26,27,27,27,30,31,32]
def Kdy (p : K00 × Int × Int) : Option ((Unit) ⊕ (Bool)) :=
 match p with
 | (s0,a0,a1) =>
  if (decide (a1 < s0.fSize)) = true then
  ((
  (Kcw (s0,a0,a1)) >>= fun a2 =>
  (Kcw (s0,a1,a0)) >>= fun a3 =>
  if (a2 != a3) = true then
   some (true)
  else
   if (a0 != a1) = true then
   (Kd2 (s0,a0,a1)) >>= fun a4 =>
   if a4 = true then
   (Kd2 (s0,a1,a0)) >>= fun a5 =>
   if a5 = true then
   some (true)
   else
   (Kdi (s0,a0,a1)) >>= fun a6 =>
   some ((decide (a6 < 0)))
   else
   (Kdi (s0,a0,a1)) >>= fun a6 =>
   some ((decide (a6 < 0)))
   else
   (Kdi (s0,a0,a1)) >>= fun a6 =>
   some ((decide (a6 < 0)))
  ) : Option (Bool)) >>= fun a7 =>
  if a7 = true then
  some (.inr false)
  else
  (Kdt (s0,a0,a1,0)) >>= fun fl => match fl with
  | .inl () =>
   Kdy (s0,a0,(wr (a1 + 1)))
  | .inr r =>
   some (.inr r)
  else
  some (.inl ())
 partial_fixpoint
def Kdz (p : K00 × Int × Int) (fl : (Unit) ⊕ (Bool)) : Prop :=
 match p with
 | (s0,a0,a1) => ∀ c : Ctx,c.nt = 157 → WpL Tryz.prog c (cl (cl (cr (cr (cl (cl (cr (cl (cl (cr (cl (cr (cr (cr (cr B79))))))))))))))) (Kdw c s0 a0 fl) (mkS [(1,.ra 1 0),(3,I s0.fSize),(5,I a0),(6,I a1)] [(1,K19 s0)])
theorem Ke0 : ∀ p r,Kdy p = some r → Kdz p r := by
 refine Kdy.partial_correctness Kdz ?_
 rintro impl_IsSystem_l2_f impl_IsSystem_l2_ih ⟨s0,a0,a1⟩ r h
 intro c hc
 refine WpL.step ?_
 refine sN ?_
 refine K6n hc 3 [(1,.ra 1 0),(3,I s0.fSize),(5,I a0),(6,I a1),(110,.bool (decide (a1 < s0.fSize)))] ?_
 refine ic h (fun a2 h => ?_) fun a2 h => ?_
 ·refine sk ?_
  refine sN ?_
  refine bk 5 ?_
  refine sN ?_
  refine sN ?_
  obtain ⟨a3,a4,h⟩ := Qds h
  refine Wp.into (x := .normal) (mkS [(1,.ra 1 0),(3,I s0.fSize),(5,I a0),(6,I a1),(145,.bool a3)] [(1,K19 s0)]) ?_ ?_
  ·replace h := a4
   obtain ⟨a5,a6,a7,a8,h⟩ := bq2 h
   rcases is h with ⟨a9,h⟩ | ⟨a9,h⟩
   ·refine rgs hc Kdx [oN,oN,oN,oc (I a5),oN,oN,oN,oc (I a7),oN,oN,o_,o_,o_,o_,o_,o_,o_,o_,o_,o_,o_,o_,o_,o_,o_,oT,oN,o_,o_,o_,o_,o_,oT] [(1,.ra 1 0),(3,I s0.fSize),(5,I a0),(6,I a1),(145,.bool true)] (cq (Kcy _ _ a6) K42 (cq (Kcy _ _ a8) K42 (ar 7 (neF a9) (ai a9 (ar 5 nf (ai tt tv)))))) ?_
    obtain rfl := os h
    exact Qde.mk
   rcases is h with ⟨b1,h⟩ | ⟨b1,h⟩
   ·obtain ⟨b2,b3,h⟩ := Qds h
    rcases is h with ⟨b4,h⟩ | ⟨b4,h⟩
    ·obtain ⟨b5,b6,h⟩ := Qds h
     rcases is h with ⟨b7,h⟩ | ⟨b7,h⟩
     ·refine rgs hc Kdx [oN,oN,oN,oc (I a5),oN,oN,oN,oc (I a7),oN,oN,oN,oN,oN,oN,oN,oN,oN,oc (.bool b2),oT,oN,oN,oN,oN,oc (.bool b5),oT,oF,oN,o_,o_,o_,o_,o_,oT] [(1,.ra 1 0),(3,I s0.fSize),(5,I a0),(6,I a1),(145,.bool true)] (cq (Kcy _ _ a6) K42 (cq (Kcy _ _ a8) K42 (ar 4 a9 (ar 4 b1 (cq (Kd4 _ _ b3) K45 (ac a9 b1 a9 (ar 4 b4 (cq (Kd4 _ _ b6) K45 (ac a9 b4 a9 (ar 5 (neF b7) (ai b7 tv))))))))))) ?_
      obtain rfl := os h
      exact Qde.mk
     obtain ⟨b8,b9,h⟩ := Qds h
     refine rgs hc Kdx [oN,oN,oN,oc (I a5),oN,oN,oN,oc (I a7),oN,oN,oN,oN,oN,oN,oN,oN,oN,oc (.bool b2),oT,oN,oN,oN,oN,oc (.bool b5),oT,oF,oN,oN,oN,oN,oc (I b8),oN,oF] [(1,.ra 1 0),(3,I s0.fSize),(5,I a0),(6,I a1),(145,.bool (decide (b8 < 0)))] (cq (Kcy _ _ a6) K42 (cq (Kcy _ _ a8) K42 (ar 4 a9 (ar 4 b1 (cq (Kd4 _ _ b3) K45 (ac a9 b1 a9 (ar 4 b4 (cq (Kd4 _ _ b6) K45 (ac a9 b4 a9 (ar 4 b7 (cq (Kdk _ _ b9) K47 (ar 2 b7 tv)))))))))))) ?_
     obtain rfl := os h
     exact Qde.mk
    obtain ⟨b8,b9,h⟩ := Qds h
    refine rgs hc Kdx [oN,oN,oN,oc (I a5),oN,oN,oN,oc (I a7),oN,oN,oN,oN,oN,oN,oN,oN,oN,oc (.bool b2),oT,oN,o_,o_,o_,o_,oF,oF,oN,oN,oN,oN,oc (I b8),oN,oF] [(1,.ra 1 0),(3,I s0.fSize),(5,I a0),(6,I a1),(145,.bool (decide (b8 < 0)))] (cq (Kcy _ _ a6) K42 (cq (Kcy _ _ a8) K42 (ar 4 a9 (ar 4 b1 (cq (Kd4 _ _ b3) K45 (ac a9 b1 a9 (ar 4 (neT b4) (ac a9 b4 a9 (ar 4 (rfl : false = false) (cq (Kdk _ _ b9) K47 (ar 2 (rfl : false = false) tv))))))))))) ?_
    obtain rfl := os h
    exact Qde.mk
   obtain ⟨b8,b9,h⟩ := Qds h
   refine rgs hc Kdx [oN,oN,oN,oc (I a5),oN,oN,oN,oc (I a7),oN,oN,oN,oN,oN,oN,o_,o_,o_,o_,oF,oN,o_,o_,o_,o_,oF,oF,oN,oN,oN,oN,oc (I b8),oN,oF] [(1,.ra 1 0),(3,I s0.fSize),(5,I a0),(6,I a1),(145,.bool (decide (b8 < 0)))] (cq (Kcy _ _ a6) K42 (cq (Kcy _ _ a8) K42 (ar 4 a9 (ar 4 (neT b1) (ac a9 b1 a9 (ar 4 (neT (rfl : false = false)) (ac a9 (rfl : false = false) a9 (ar 4 (rfl : false = false) (cq (Kdk _ _ b9) K47 (ar 2 (rfl : false = false) tv)))))))))) ?_
   obtain rfl := os h
   exact Qde.mk
  clear a4
  refine ic h (fun c0 h => ?_) fun c0 h => ?_
  ·refine rs0 hc 1 [(2,.bool false)] [] ?_
   refine rt ?_
   obtain rfl := os h
   exact re [true]
  refine sk ?_
  refine K6n hc 1 [(1,.ra 1 0),(3,I s0.fSize),(5,I a0),(6,I a1),(7,I 0)] ?_
  refine bk 6 ?_
  obtain ⟨fl,c1,h⟩ := Qds h
  have hL := Kdv _ _ c1 c hc
  refine lp ?_
  rcases fl with ⟨⟩ | r
  ·refine WpL.into (e := (.exit 6)) (mkS [(1,.ra 1 0),(3,I s0.fSize),(5,I a0),(6,I a1)] [(1,K19 s0)]) hL ?_
   refine Qd6 ?_
   refine K6m hc 3 [(1,.ra 1 0),(3,I s0.fSize),(5,I a0),(6,I (wr (a1 + 1)))] ?_
   refine Qda ?_
   exact (impl_IsSystem_l2_ih _ _ h c hc)
  refine WpL.mono hL ?_
  rintro _ _ ⟨rfl,hfin⟩
  obtain rfl := os h
  exact ⟨rfl,hfin⟩
 refine xt 4 ?_
 refine Qd4 ?_
 refine Qdb ?_
 obtain rfl := os h
 exact iv []
def Ke1 (c : Ctx) : (Unit) ⊕ (Bool) → Exit → Q0a → Prop
 | .inl _ => Qde c (.exit 2) (mkS [] [])
 | .inr r => Qdn TIx Tryz.f79 [] (.bool r)
def Ke2 (p : K00 × Int) : Option ((Unit) ⊕ (Bool)) :=
 match p with
 | (s0,a0) =>
  if (decide (a0 < s0.fSize)) = true then
  ((
  (Kcw (s0,0,a0)) >>= fun a1 =>
  if (a1 != a0) = true then
   some (true)
  else
   (Kcz (s0,1,a0)) >>= fun a2 =>
   if (a2 != a0) = true then
   some (true)
   else
   (Kcz (s0,a0,1)) >>= fun a3 =>
   if (a3 != a0) = true then
   some (true)
   else
   (Kcz (s0,0,a0)) >>= fun a4 =>
   if (a4 != 0) = true then
   some (true)
   else
   (Kcz (s0,a0,0)) >>= fun a5 =>
   if (a5 != 0) = true then
   some (true)
   else
   (Kd2 (s0,a0,a0)) >>= fun a6 =>
   some ((!a6))
  ) : Option (Bool)) >>= fun a7 =>
  if a7 = true then
  some (.inr false)
  else
  (Kdy (s0,a0,0)) >>= fun fl => match fl with
  | .inl () =>
   Ke2 (s0,(wr (a0 + 1)))
  | .inr r =>
   some (.inr r)
  else
  some (.inl ())
 partial_fixpoint
def Ke3 (p : K00 × Int) (fl : (Unit) ⊕ (Bool)) : Prop :=
 match p with
 | (s0,a0) => ∀ c : Ctx,c.nt = 157 → WpL Tryz.prog c (cl (cl (cr (cl (cr (cr (cr (cr B79)))))))) (Ke1 c fl) (mkS [(1,.ra 1 0),(3,I s0.fSize),(5,I a0)] [(1,K19 s0)])
theorem Ke4 : ∀ p r,Ke2 p = some r → Ke3 p r := by
 refine Ke2.partial_correctness Ke3 ?_
 rintro impl_IsSystem_l3_f impl_IsSystem_l3_ih ⟨s0,a0⟩ r h
 intro c hc
 refine WpL.step ?_
 refine sN ?_
 refine K6n hc 3 [(1,.ra 1 0),(3,I s0.fSize),(5,I a0),(67,.bool (decide (a0 < s0.fSize)))] ?_
 refine ic h (fun a1 h => ?_) fun a1 h => ?_
 ·refine sk ?_
  refine sN ?_
  refine bk 3 ?_
  refine sN ?_
  refine sN ?_
  obtain ⟨a2,a3,h⟩ := Qds h
  refine Wp.into (x := .normal) (mkS [(1,.ra 1 0),(3,I s0.fSize),(5,I a0),(107,.bool a2)] [(1,K19 s0)]) ?_ ?_
  ·replace h := a3
   obtain ⟨a4,a5,h⟩ := Qds h
   rcases is h with ⟨a6,h⟩ | ⟨a6,h⟩
   ·refine rgs hc none [oN,oN,oc (I a4),oN,oN,oN,o_,o_,o_,o_,o_,oT,oN,o_,o_,o_,o_,o_,oT,oN,o_,o_,o_,o_,oT,oN,o_,o_,o_,o_,oT,oN,o_,o_,o_,o_,o_,oT] [(1,.ra 1 0),(3,I s0.fSize),(5,I a0),(107,.bool true)] (cq (Kcy _ _ a5) K42 (ar 5 (neF a6) (ai a6 (ar 5 nf (ai tt (ar 4 nf (ai tt (ar 4 nf (ai tt (ar 5 nf (ai tt tv))))))))))) ?_
    obtain rfl := os h
    exact Qde.mk
   obtain ⟨a7,a8,h⟩ := Qds h
   rcases is h with ⟨a9,h⟩ | ⟨a9,h⟩
   ·refine rgs hc none [oN,oN,oc (I a4),oN,oN,oN,oN,oN,oc (I a7),oN,oN,oF,oN,o_,o_,o_,o_,o_,oT,oN,o_,o_,o_,o_,oT,oN,o_,o_,o_,o_,oT,oN,o_,o_,o_,o_,o_,oT] [(1,.ra 1 0),(3,I s0.fSize),(5,I a0),(107,.bool true)] (cq (Kcy _ _ a5) K42 (ar 3 a6 (cq (Kd1 _ _ a8) K44 (ar 3 a6 (ar 5 (neF a9) (ai a9 (ar 4 nf (ai tt (ar 4 nf (ai tt (ar 5 nf (ai tt tv)))))))))))) ?_
    obtain rfl := os h
    exact Qde.mk
   obtain ⟨b1,b2,h⟩ := Qds h
   rcases is h with ⟨b3,h⟩ | ⟨b3,h⟩
   ·refine rgs hc none [oN,oN,oc (I a4),oN,oN,oN,oN,oN,oc (I a7),oN,oN,oF,oN,oN,oN,oc (I b1),oN,oN,oF,oN,o_,o_,o_,o_,oT,oN,o_,o_,o_,o_,oT,oN,o_,o_,o_,o_,o_,oT] [(1,.ra 1 0),(3,I s0.fSize),(5,I a0),(107,.bool true)] (cq (Kcy _ _ a5) K42 (ar 3 a6 (cq (Kd1 _ _ a8) K44 (ar 3 a6 (ar 3 a9 (cq (Kd1 _ _ b2) K44 (ar 3 a9 (ar 4 (neF b3) (ai b3 (ar 4 nf (ai tt (ar 5 nf (ai tt tv))))))))))))) ?_
    obtain rfl := os h
    exact Qde.mk
   obtain ⟨b4,b5,h⟩ := Qds h
   rcases is h with ⟨b6,h⟩ | ⟨b6,h⟩
   ·refine rgs hc none [oN,oN,oc (I a4),oN,oN,oN,oN,oN,oc (I a7),oN,oN,oF,oN,oN,oN,oc (I b1),oN,oN,oF,oN,oN,oN,oc (I b4),oN,oF,oN,o_,o_,o_,o_,oT,oN,o_,o_,o_,o_,o_,oT] [(1,.ra 1 0),(3,I s0.fSize),(5,I a0),(107,.bool true)] (cq (Kcy _ _ a5) K42 (ar 3 a6 (cq (Kd1 _ _ a8) K44 (ar 3 a6 (ar 3 a9 (cq (Kd1 _ _ b2) K44 (ar 3 a9 (ar 3 b3 (cq (Kd1 _ _ b5) K44 (ar 2 b3 (ar 4 (neF b6) (ai b6 (ar 5 nf (ai tt tv)))))))))))))) ?_
    obtain rfl := os h
    exact Qde.mk
   obtain ⟨b7,b8,h⟩ := Qds h
   rcases is h with ⟨b9,h⟩ | ⟨b9,h⟩
   ·refine rgs hc none [oN,oN,oc (I a4),oN,oN,oN,oN,oN,oc (I a7),oN,oN,oF,oN,oN,oN,oc (I b1),oN,oN,oF,oN,oN,oN,oc (I b4),oN,oF,oN,oN,oN,oc (I b7),oN,oF,oN,o_,o_,o_,o_,o_,oT] [(1,.ra 1 0),(3,I s0.fSize),(5,I a0),(107,.bool true)] (cq (Kcy _ _ a5) K42 (ar 3 a6 (cq (Kd1 _ _ a8) K44 (ar 3 a6 (ar 3 a9 (cq (Kd1 _ _ b2) K44 (ar 3 a9 (ar 3 b3 (cq (Kd1 _ _ b5) K44 (ar 2 b3 (ar 3 b6 (cq (Kd1 _ _ b8) K44 (ar 2 b6 (ar 5 (neF b9) (ai b9 tv))))))))))))))) ?_
    obtain rfl := os h
    exact Qde.mk
   obtain ⟨c0,c1,h⟩ := Qds h
   refine rgs hc none [oN,oN,oc (I a4),oN,oN,oN,oN,oN,oc (I a7),oN,oN,oF,oN,oN,oN,oc (I b1),oN,oN,oF,oN,oN,oN,oc (I b4),oN,oF,oN,oN,oN,oc (I b7),oN,oF,oN,oN,oN,oN,oc (.bool c0),oN,oF] [(1,.ra 1 0),(3,I s0.fSize),(5,I a0),(107,.bool (!c0))] (cq (Kcy _ _ a5) K42 (ar 3 a6 (cq (Kd1 _ _ a8) K44 (ar 3 a6 (ar 3 a9 (cq (Kd1 _ _ b2) K44 (ar 3 a9 (ar 3 b3 (cq (Kd1 _ _ b5) K44 (ar 2 b3 (ar 3 b6 (cq (Kd1 _ _ b8) K44 (ar 2 b6 (ar 4 b9 (cq (Kd4 _ _ c1) K45 (ar 2 b9 tv)))))))))))))))) ?_
   obtain rfl := os h
   exact Qde.mk
  clear a3
  refine ic h (fun c2 h => ?_) fun c2 h => ?_
  ·refine rs0 hc 1 [(2,.bool false)] [] ?_
   refine rt ?_
   obtain rfl := os h
   exact re [true]
  refine sk ?_
  refine K6n hc 1 [(1,.ra 1 0),(3,I s0.fSize),(5,I a0),(6,I 0)] ?_
  refine bk 4 ?_
  obtain ⟨fl,c3,h⟩ := Qds h
  have hL := Ke0 _ _ c3 c hc
  refine lp ?_
  rcases fl with ⟨⟩ | r
  ·refine WpL.into (e := (.exit 4)) (mkS [(1,.ra 1 0),(3,I s0.fSize),(5,I a0)] [(1,K19 s0)]) hL ?_
   refine Qd6 ?_
   refine K6m hc 3 [(1,.ra 1 0),(3,I s0.fSize),(5,I (wr (a0 + 1)))] ?_
   refine Qda ?_
   exact (impl_IsSystem_l3_ih _ _ h c hc)
  refine WpL.mono hL ?_
  rintro _ _ ⟨rfl,hfin⟩
  obtain rfl := os h
  exact ⟨rfl,hfin⟩
 refine xt 2 ?_
 refine Qd4 ?_
 refine Qdb ?_
 obtain rfl := os h
 exact iv []
def Ke5 (s0 : K00) : Option (Bool) :=
 ((
 (Kcq (s0.fSize,2,16)) >>= fun a0 =>
 if a0 = true then
  if ((s0.fPlus.length : Int) != (wr (s0.fSize * s0.fSize))) = true then
   some (true)
  else
   if ((s0.fTimes.length : Int) != (wr (s0.fSize * s0.fSize))) = true then
   some (true)
   else
   some (((s0.fBelow.length : Int) != (wr (s0.fSize * s0.fSize))))
 else
  some (true)
 ) : Option (Bool)) >>= fun a1 =>
 if a1 = true then
 some false
 else
 (Kdp (s0,0)) >>= fun fl => match fl with
 | .inl () =>
  (Ke2 (s0,0)) >>= fun fl => match fl with
  | .inl () =>
   some true
  | .inr r =>
   some r
 | .inr r =>
  some r
def Ke6 (s0 : K00) (r : Bool) : Prop :=
 Q75 Tryz.prog 79 [K1a s0] (.bool r) []
theorem Ke7 : ∀ p r,Ke5 p = some r → Ke6 p r := by
 rintro s0 r h
 unfold Ke5 at h
 refine b0 Tryz.f79 B79 157 [(0,K1a s0)] fun c hc => ?_
 refine rs hc none [some (.new 1),oN] [(1,.ra 1 0)] [(1,K19 s0)] tv ?_
 refine K6n hc 3 [(1,.ra 1 0),(3,I s0.fSize)] ?_
 refine sN ?_
 refine sN ?_
 obtain ⟨a0,a1,h⟩ := Qds h
 refine Wp.into (x := .normal) (mkS [(1,.ra 1 0),(3,I s0.fSize),(39,.bool a0)] [(1,K19 s0)]) ?_ ?_
 ·replace h := a1
  obtain ⟨a2,a3,h⟩ := Qds h
  rcases is h with ⟨a4,h⟩ | ⟨a4,h⟩
  ·rcases is h with ⟨a5,h⟩ | ⟨a5,h⟩
   ·refine rgs hc none [oN,oc (.bool a2),oN,oN,oN,oN,some (.eqv (.no) ⟨[(16,I (s0.fPlus.length : Int))],[],[]⟩),oN,oN,oN,oN,oF,oN,o_,o_,o_,o_,o_,o_,o_,oT,oN,o_,o_,o_,o_,o_,o_,o_,oT] [(1,.ra 1 0),(3,I s0.fSize),(39,.bool true)] (cq (Kcs _ _ a3) K3y (ar 3 (nF a4) (ai (Qdy (d := 16) I s0.fPlus) (ar 5 (nF a4) (ar 7 (neF a5) (ai a5 (ar 7 nf (ai tt tv)))))))) ?_
    obtain rfl := os h
    exact Qde.mk
   rcases is h with ⟨a6,h⟩ | ⟨a6,h⟩
   ·refine rgs hc none [oN,oc (.bool a2),oN,oN,oN,oN,some (.eqv (.no) ⟨[(16,I (s0.fPlus.length : Int))],[],[]⟩),oN,oN,oN,oN,oF,oN,oN,oN,some (.eqv (.no) ⟨[(25,I (s0.fTimes.length : Int))],[],[]⟩),oN,oN,oN,oN,oF,oN,o_,o_,o_,o_,o_,o_,o_,oT] [(1,.ra 1 0),(3,I s0.fSize),(39,.bool true)] (cq (Kcs _ _ a3) K3y (ar 3 (nF a4) (ai (Qdy (d := 16) I s0.fPlus) (ar 5 (nF a4) (ar 3 a5 (ai (Qdy (d := 25) I s0.fTimes) (ar 5 a5 (ar 7 (neF a6) (ai a6 tv))))))))) ?_
    obtain rfl := os h
    exact Qde.mk
   refine rgs hc none [oN,oc (.bool a2),oN,oN,oN,oN,some (.eqv (.no) ⟨[(16,I (s0.fPlus.length : Int))],[],[]⟩),oN,oN,oN,oN,oF,oN,oN,oN,some (.eqv (.no) ⟨[(25,I (s0.fTimes.length : Int))],[],[]⟩),oN,oN,oN,oN,oF,oN,oN,oN,some (.eqv (.no) ⟨[(34,I (s0.fBelow.length : Int))],[],[]⟩),oN,oN,oN,oN,oF] [(1,.ra 1 0),(3,I s0.fSize),(39,.bool ((s0.fBelow.length : Int) != (wr (s0.fSize * s0.fSize))))] (cq (Kcs _ _ a3) K3y (ar 3 (nF a4) (ai (Qdy (d := 16) I s0.fPlus) (ar 5 (nF a4) (ar 3 a5 (ai (Qdy (d := 25) I s0.fTimes) (ar 5 a5 (ar 3 a6 (ai (Qdy (d := 34) AV.bool s0.fBelow) (ar 5 a6 tv)))))))))) ?_
   obtain rfl := os h
   exact Qde.mk
  refine rgs hc none [oN,oc (.bool a2),oN,oN,o_,o_,o_,o_,o_,o_,o_,oT,oN,o_,o_,o_,o_,o_,o_,o_,oT,oN,o_,o_,o_,o_,o_,o_,o_,oT] [(1,.ra 1 0),(3,I s0.fSize),(39,.bool true)] (cq (Kcs _ _ a3) K3y (ar 7 (neF (nT a4)) (ai (nT a4) (ar 7 nf (ai tt (ar 7 nf (ai tt tv))))))) ?_
  obtain rfl := os h
  exact Qde.mk
 clear a1
 refine ic h (fun a7 h => ?_) fun a7 h => ?_
 ·refine rs0 hc 1 [(2,.bool false)] [] ?_
  refine rt ?_
  obtain rfl := os h
  exact rq [true]
 refine sk ?_
 refine sN ?_
 refine rss hc none [oN,oN,some (.eqv (.no) ⟨[(42,I (s0.fPlus.length : Int))],[],[]⟩),oN] [(1,.ra 1 0),(3,I s0.fSize),(42,I (s0.fPlus.length : Int)),(43,I 0)] (ai (Qdy (d := 42) I s0.fPlus) tv) ?_
 refine bk 0 ?_
 obtain ⟨fl,a8,h⟩ := Qds h
 have hL := Kdr _ _ a8 c hc
 refine lp ?_
 rcases fl with ⟨⟩ | r
 ·refine WpL.into (e := (.exit 0)) (mkS [(1,.ra 1 0),(3,I s0.fSize)] [(1,K19 s0)]) hL ?_
  refine Qd6 ?_
  refine sN ?_
  refine K6n hc 1 [(1,.ra 1 0),(3,I s0.fSize),(5,I 0)] ?_
  refine bk 2 ?_
  obtain ⟨fl,a9,h⟩ := Qds h
  have hL := Ke4 _ _ a9 c hc
  refine lp ?_
  rcases fl with ⟨⟩ | r
  ·refine WpL.into (e := (.exit 2)) (mkS [] []) hL ?_
   refine Qd6 ?_
   refine rs0 hc 1 [(2,.bool true)] [] ?_
   refine rt ?_
   obtain rfl := os h
   exact rq [true]
  refine WpL.mono hL ?_
  rintro _ _ ⟨rfl,hfin⟩
  obtain rfl := os h
  exact ⟨.inl rfl,hfin⟩
 refine WpL.mono hL ?_
 rintro _ _ ⟨rfl,hfin⟩
 obtain rfl := os h
 exact ⟨.inl rfl,hfin⟩
def Ke8 (c : Ctx) (s0 : K00) (in1 : List Bool) (a0 : Int) : (Unit) ⊕ (Bool) → Exit → Q0a → Prop
 | .inl _ => Qde c (.exit 2) (mkS [(1,sB in1),(2,.ra 1 0),(5,I a0)] [(1,K19 s0)])
 | .inr r => Qdn TIx Tryz.f151 [] (.bool r)
end Go.Am
