/- Walks, printed. -/
import Derived.Test.YtckgdfakjjdodaaGreatGSNF6
set_option linter.unusedVariables false
set_option linter.unusedSimpArgs false
set_option maxRecDepth 100000
namespace Go.Am
open Go Go.Proofs
def Kil : Option (List (List Nat)) := rx [[0],[1],[2],[3],[3],[5],[6],[3],[3],[3,8],[3,7,8,9],[3,7,8,9,10],[12],[13]]
def Kim (c : Ctx) : (Unit) ⊕ (Bool) → Exit → Q0a → Prop
 | .inl _ => Qdf c (.exit 0) (mkS [] [])
 | .inr r => Qdo TIx Tryz.f177 [] (.bool r)
def Kin (p : K00 × (List Bool) × Int) : Option ((Unit) ⊕ (Bool)) :=
 match p with
 | (s0,in1,a0) =>
  if (decide (a0 < s0.fSize)) = true then
  (Kii (s0,in1,a0,0)) >>= fun fl => match fl with
  | .inl () =>
   Kin (s0,in1,(wr (a0 + 1)))
  | .inr r =>
   some (.inr r)
  else
  some (.inl ())
 partial_fixpoint
def Kio (p : K00 × (List Bool) × Int) (fl : (Unit) ⊕ (Bool)) : Prop :=
 match p with
 | (s0,in1,a0) => ∀ c : Ctx,c.nt = 85 → WpL Tryz.prog c (cl (cl (cr (cl (cr (cr K6j)))))) (Kim c fl) (mkS [(1,sB in1),(2,.ra 1 0),(5,I a0)] [(1,K1v s0)])
theorem Kip : ∀ p r,Kin p = some r → Kio p r := by
 refine Kin.partial_correctness Kio ?_
 rintro spec_l1View_l1_f spec_l1View_l1_ih ⟨s0,in1,a0⟩ r h
 intro c hc
 refine WpL.step (sN (K9o hc 4 [] [(19,.bool (decide (a0 < s0.fSize)))] (ic h (fun a1 h => ?_) fun a1 h => ?_)))
 ·refine sk (sN (bk 1 (K9l hc 1 [(1,sB in1),(2,.ra 1 0),(5,I a0),(6,I 0)] (bk 2 ?_))))
  obtain ⟨fl,a2,h⟩ := Qdt h
  have hL := Kik _ _ a2 c hc
  refine lp ?_
  rcases fl with ⟨⟩ | r
  ·exact wl hL (Qd7 (ri0 hc 3 (Qdb (spec_l1View_l1_ih _ _ h c hc))))
  refine WpL.mono hL ?_
  rintro _ _ ⟨rfl,hfin⟩
  obtain rfl := os h
  exact ⟨rfl,hfin⟩
 obtain rfl := os h
 exact xt 0 (Qd5 (Qdc (iv [])))
def Kiq (p : K00 × (List Bool)) : Option (Bool) :=
 match p with
 | (s0,in1) =>
  ((
  (idx in1 0) >>= fun a0 =>
  if a0 = true then
   some (true)
  else
   (idx in1 1) >>= fun a1 =>
   some ((!a1))
  ) : Option (Bool)) >>= fun a2 =>
  if a2 = true then
  some false
  else
  (Kin (s0,in1,0)) >>= fun fl => match fl with
  | .inl () =>
   some true
  | .inr r =>
   some r
def Kir (p : K00 × (List Bool)) (r : Bool) : Prop :=
 match p with
 | (s0,in1) => Q75 Tryz.prog 177 [K1w s0,sB in1] (.bool r) []
theorem Kis : ∀ p r,Kiq p = some r → Kir p r := by
 rintro ⟨s0,in1⟩ r h
 unfold Kiq at h
 refine b0 Tryz.f177 K6j 85 [(0,K1w s0),(1,sB in1)] fun c hc => (rsd hc none [nW 1,oN] [0] [(2,.ra 1 0)] [(1,K1v s0)] tv (sN (sN ?_)))
 obtain ⟨a0,a1,h⟩ := Qdt h
 refine wi [] [(15,.bool a0)] ?_ ?_
 ·replace h := a1
  obtain ⟨a2,a3,h⟩ := Qdt h
  rcases is h with ⟨a4,h⟩ | ⟨a4,h⟩
  ·obtain rfl := os h
   exact rj hc none ([oN,eB a2,oN,oN]++n_ 4 [oT]) (ai (xB a3) (ar 4 (neF a4) (ai a4 tv)))
  obtain ⟨a5,a6,h⟩ := Qdt h
  obtain rfl := os h
  exact rj hc none [oN,eB a2,oN,oN,oN,eB a5,oN,oN,oF] (ai (xB a3) (ar 2 a4 (ai (xB a6) (ar 3 a4 tv))))
 clear a1
 refine ic h (fun a7 h => ?_) fun a7 h => ?_
 ·obtain rfl := os h
  exact rs0 hc 1 [(4,.bool false)] [] (rt (rq [true]))
 refine sk (sN (K9l hc 1 [(1,sB in1),(2,.ra 1 0),(5,I 0)] (bk 0 ?_)))
 obtain ⟨fl,a8,h⟩ := Qdt h
 have hL := Kip _ _ a8 c hc
 refine lp ?_
 rcases fl with ⟨⟩ | r
 ·refine wl hL ?_
  obtain rfl := os h
  exact Qd7 (rs0 hc 1 [(4,.bool true)] [] (rt (rq [true])))
 refine WpL.mono hL ?_
 rintro _ _ ⟨rfl,hfin⟩
 obtain rfl := os h
 exact ⟨.inl rfl,hfin⟩
def Kit (c : Ctx) : (List Int) → Exit → Q0a → Prop
 | a0 => Qdf c (.exit 0) (mkS [(7,.rs 2)] [(2,rI a0)])
def Kiu (c : Ctx) : LL → Exit → Q0a → Prop
 | a0 => Qdf c (.exit 2) (mkS [(9,.rs 8)] [(8,rM K10 a0)])
def Kiv (p : K00 × (List Bool) × (List Int) × Int) : Option ((List Int)) :=
 match p with
 | (s0,in1,a0,a1) =>
  if (decide (a1 < s0.fSize)) = true then
  (idx in1 a1) >>= fun a2 =>
  ((
  if a2 = true then
  (Qe6 (a0.length + [a1].length) 8) >>= fun _ =>
  some ((a0 ++ [a1]))
  else
  some (a0)
  ) : Option ((List Int))) >>= fun a3 =>
  Kiv (s0,in1,a3,(wr (a1 + 1)))
  else
  some (a0)
 partial_fixpoint
def Kiw (p : K00 × (List Bool) × (List Int) × Int) (fl : (List Int)) : Prop :=
 match p with
 | (s0,in1,a0,a1) => ∀ c : Ctx,c.nt = 58 → WpL Tryz.prog c (cl (cl (cr (cl (cr (cr (cl (cr (cl (cr K6l)))))))))) (Kit c fl) (mkS [(1,sB in1),(3,.ra 1 0),(7,.rs 2),(8,I a1)] [(1,K1v s0),(2,rI a0)])
theorem Kix : ∀ p r,Kiv p = some r → Kiw p r := by
 refine Kiv.partial_correctness Kiw ?_
 rintro spec_l1Views_l0_f spec_l1Views_l0_ih ⟨s0,in1,a0,a1⟩ r h
 intro c hc
 refine WpL.step (sN (K9o hc 4 [] [(24,.bool (decide (a1 < s0.fSize)))] (ic h (fun a2 h => ?_) fun a2 h => ?_)))
 ·refine sk (sN (bk 1 ?_))
  obtain ⟨a3,a4,h⟩ := Qdt h
  refine K9n hc none [oN,oN,eB a3,oN] [24] [(30,.bool a3)] (ai (xB a4) tv) ?_
  obtain ⟨a5,a6,h⟩ := Qdt h
  refine Wp.into (x := .normal) (mkS [(1,sB in1),(3,.ra 1 0),(7,.rs 6),(8,I a1)] [(1,K1v s0),(6,rI a5)]) ?_ ?_
  ·replace h := a6
   refine ic h (fun a7 h => ?_) fun a7 h => ?_
   ·obtain ⟨_,a8,h⟩ := Qdt h
    obtain rfl := os h
    exact rj hc none [oN,oN,mK 5,some (.eqv (.mk 6 true) ⟨[(34,.rs 6)],[(6,some (rI (a0 ++ [a1]))),(2,none),(5,none)],[6]⟩),oN] (ab (congrArg (fun z => (⟨[(34,.rs 6)],[(6,some (.arr z)),(2,none),(5,none)],[6]⟩ : Wr)) ((List.map_append).symm : (List.map I a0) ++ (List.map I [a1]) = List.map I (a0 ++ [a1]))) (Qe7 (enc1 := I) (enc2 := I) (e1 := a0) (e2 := [a1]) (sz := 1) Qeg Qeg a8) tv)
   obtain rfl := os h
   exact sk (iv [(6,2)])
  clear a6
  exact K9h hc 3 [(1,sB in1),(3,.ra 1 0),(7,.rs 6),(8,I (wr (a1 + 1)))] (Qdb (WpL.view (fun a w hv => SRx.renL [(2,6)] hv (by kernel_rfl) (by kernel_rfl) (by kernel_rfl)) (spec_l1Views_l0_ih _ _ h c hc)))
 obtain rfl := os h
 exact xt 0 (Qd5 (Qdc (iv [])))
mutual
def Kiy (p : K00 × (List Bool) × Int) : Option (LL) :=
 match p with
 | (s0,in1,g2) =>
  if (g2 == s0.fSize) = true then
  (Kiq (s0,in1)) >>= fun a0 =>
  if a0 = true then
  (Kiv (s0,in1,[],0)) >>= fun a1 =>
  some [a1]
  else
  some []
  else
  (Kiz (s0,in1,g2,[],0)) >>= fun a2 =>
  some a2
 partial_fixpoint
def Kiz (p : K00 × (List Bool) × Int × LL × Int) : Option (LL) :=
 match p with
 | (s0,in1,g2,a0,a1) =>
  if (decide (a1 < 2)) = true then
  (Qe6 (([] : List Bool).length + in1.length) 1) >>= fun _ =>
  (idx in1 g2) >>= fun a2 =>
  (Kiy (s0,(List.set in1 (Int.toNat g2) (a1 == 0)),(wr (g2 + 1)))) >>= fun a3 =>
  (Qe6 (a0.length + a3.length) 24) >>= fun _ =>
  Kiz (s0,in1,g2,(a0 ++ a3),(wr (a1 + 1)))
  else
  some (a0)
 partial_fixpoint
end
def Kj0 (p : K00 × (List Bool) × Int) (r : LL) : Prop :=
 match p with
 | (s0,in1,g2) => Q75 Tryz.prog 223 [K1w s0,sB in1,I g2] (oM K10 r) []
def Kj1 (p : K00 × (List Bool) × Int × LL × Int) (fl : LL) : Prop :=
 match p with
 | (s0,in1,g2,a0,a1) => ∀ c : Ctx,c.nt = 58 → WpL Tryz.prog c (cl (cl (cr (cl (cr (cr (cr K6l))))))) (Kiu c fl) (mkS [(1,sB in1),(2,I g2),(3,.ra 1 0),(9,.rs 8),(10,I a1)] [(1,K1v s0),(8,rM K10 a0)])
theorem Kj2 : (∀ p r,Kiy p = some r → Kj0 p r) ∧ (∀ p r,Kiz p = some r → Kj1 p r) := by
 refine Kiy.mutual_partial_correctness Kj0 Kj1 ?_ ?_
 ·rintro spec_l1Views_l1_f spec_l1Views_l1_ih ⟨s0,in1,g2⟩ r h
  refine b0 Tryz.f223 K6l 58 [(0,K1w s0),(1,sB in1),(2,I g2)] fun c hc => (rsd hc none [nW 1,oN] [0] [(3,.ra 1 0)] [(1,K1v s0)] tv (sN (K9o hc 4 [] [(15,.bool (g2 == s0.fSize))] (ic h (fun a0 h => ?_) fun a0 h => ?_))))
  ·refine sN ?_
   obtain ⟨a1,a2,h⟩ := Qdt h
   refine K9n hc none [oN,oN,oc (.bool a1),oN] [15,2] [(19,.bool (!a1))] (cq (Kis _ _ a2) K6k tv) ?_
   rcases is h with ⟨a3,h⟩ | ⟨a3,h⟩
   ·refine cF (!a1) (nF a3) (sk (rsd hc none [mK 2,oN] [19] [(7,.rs 2)] [(1,K1v s0),(2,.arr (List.map I []))] tv (sN (K9l hc 1 [(1,sB in1),(3,.ra 1 0),(7,.rs 2),(8,I 0)] (bk 0 ?_)))))
    obtain ⟨a4,a5,h⟩ := Qdt h
    have hL := Kix _ _ a5 c hc
    refine lp (wl hL ?_)
    obtain rfl := os h
    exact Qd7 (rs hc none [oN,mK 7,oN] [(6,.rs 7)] [(7,.arr (List.map K10 [a4]))] tv (rt (rq [true])))
   refine cT (!a1) (nT a3) ?_
   obtain rfl := os h
   exact rs0 hc 1 [(6,.nils)] [] (rt (rq [true]))
  refine sk (rsd hc none [mK 8,oN] [15] [(9,.rs 8)] [(1,K1v s0),(8,.arr (List.map K10 []))] tv (sN (K9l hc 1 [(1,sB in1),(2,I g2),(3,.ra 1 0),(9,.rs 8),(10,I 0)] (bk 2 ?_))))
  obtain ⟨a6,a7,h⟩ := Qdt h
  have hL := spec_l1Views_l1_ih _ _ a7 c hc
  refine lp (wl hL ?_)
  obtain rfl := os h
  exact Qd7 (K9l hc 2 [(6,.rs 8)] (rt (rq [true])))
 ·rintro spec_l1Views_f spec_l1Views_l1_f spec_l1Views_ih spec_l1Views_l1_ih ⟨s0,in1,g2,a8,a9⟩ r h
  intro c hc
  refine WpL.step (sN (K9o hc 2 [] [(39,.bool (decide (a9 < 2)))] (ic h (fun b1 h => ?_) fun b1 h => ?_)))
  ·refine sk (sN (bk 3 ?_))
   obtain ⟨_,b2,h⟩ := Qdt h
   refine rsd hc none [mK 13,oN,some (.eqv (.mk 14 true) ⟨[(44,.rs 14)],[(14,some (rM AV.bool in1)),(13,none)],[14]⟩),oN] [39] [(11,.rs 14)] [(1,K1v s0),(8,rM K10 a8),(14,rM AV.bool in1)] (ab (congrArg (fun z => (⟨[(44,.rs 14)],[(14,some (.arr z)),(13,none)],[14]⟩ : Wr)) (List.nil_append _ : [] ++ (List.map AV.bool in1) = List.map AV.bool in1)) (Qe7 (enc1 := AV.bool) (enc2 := AV.bool) (e1 := []) (e2 := in1) (sz := 1) Qei Qei b2) tv) ?_
   obtain ⟨b3,b4,h⟩ := Qdt h
   refine rsd hc none (nN 5 [some (.eqv (.mk 0 true) ⟨[],[(14,some (rM AV.bool (List.set in1 (Int.toNat g2) (a9 == 0))))],[]⟩)]) [] [] [(1,K1v s0),(8,rM K10 a8),(14,rM AV.bool (List.set in1 (Int.toNat g2) (a9 == 0)))] (ac (Qdy (enc := AV.bool) b4) (congrArg (fun z => (⟨[],[(14,some (.arr z))],[]⟩ : Wr)) (Qew (enc := AV.bool) (i := Int.toNat g2) (l := in1) (v := (a9 == 0)) (x := AV.bool (a9 == 0)) (Qea (a9 == 0)))) (Qex (enc := AV.bool) (sz := 1) Qee b4) tv) ?_
   obtain ⟨b5,b6,_,b7,h⟩ := bq2 h
   exact rgd hc none (nN 5 [some (.call (oM K10 b5) [] 15),some (.eqv (.mk 16 true) ⟨[(56,.rs 16)],[(16,some (rM K10 (a8 ++ b5))),(8,none),(15,none)],[16]⟩),oN]) [11,9] [(9,.rs 16)] [(1,K1v s0),(16,rM K10 (a8 ++ b5))] (ad (Q75.args (A1 := [K1w s0,.sl (Q02 (List.map AV.bool (List.set in1 (Int.toNat g2) (a9 == 0)))),I (wr (g2 + 1))]) (A2 := [K1w s0,.sl (List.map AV.bool (List.set in1 (Int.toNat g2) (a9 == 0))),I (wr (g2 + 1))]) (by simp only [List.map_nil,Qen]) (spec_l1Views_ih _ _ b6)) K6m (Or.inr (Qet K1a b5) : ([14] : List Nat) = [] ∨ noSh (oM K10 b5) = true) (congrArg (fun z => (⟨[(56,.rs 16)],[(16,some (.arr z)),(8,none),(15,none)],[16]⟩ : Wr)) ((List.map_append).symm : (List.map K10 a8) ++ (List.map K10 b5) = List.map K10 (a8 ++ b5))) (ai (Qe7 (enc1 := K10) (enc2 := K10) (e1 := a8) (e2 := b5) (sz := 1) K13 K13 b7) tv)) (K9h hc 3 [(1,sB in1),(2,I g2),(3,.ra 1 0),(9,.rs 16),(10,I (wr (a9 + 1)))] (Qdb (WpL.view (fun a w hv => SRx.renL [(8,16)] hv (by kernel_rfl) (by kernel_rfl) (by kernel_rfl)) (spec_l1Views_l1_ih _ _ h c hc))))
  obtain rfl := os h
  exact xt 2 (Qd5 (Qdc (iv [])))
theorem Kj3 : ∀ p r,Kiy p = some r → Kj0 p r := Kj2.1
theorem Kj4 : ∀ p r,Kiz p = some r → Kj1 p r := Kj2.2
def Kj5 (c : Ctx) (a0 : List Int) (b1 : List Int) : (Unit) ⊕ (Bool) → Exit → Q0a → Prop
 | .inl _ => Qdf c (.exit 0) (mkS [(0,sI a0),(1,sI b1)] [])
 | .inr r => Qdo TIx Tryz.f224 [] (.bool r)
def Kj6 (p : (List Int) × (List Int) × Int) : Option ((Unit) ⊕ (Bool)) :=
 match p with
 | (a0,b1,a1) =>
  ((
  if (decide (a1 < (a0.length : Int))) = true then
  some ((decide (a1 < (b1.length : Int))))
  else
  some (false)
  ) : Option (Bool)) >>= fun a2 =>
  if a2 = true then
  (idx a0 a1) >>= fun a3 =>
  (idx b1 a1) >>= fun a4 =>
  if (a3 != a4) = true then
  (idx a0 a1) >>= fun a5 =>
  (idx b1 a1) >>= fun a6 =>
  some (.inr (decide (a5 < a6)))
  else
  Kj6 (a0,b1,(wr (a1 + 1)))
  else
  some (.inl ())
 partial_fixpoint
def Kj7 (p : (List Int) × (List Int) × Int) (fl : (Unit) ⊕ (Bool)) : Prop :=
 match p with
 | (a0,b1,a1) => ∀ c : Ctx,c.nt = 41 → WpL Tryz.prog c (cl (cl (cr (cl (cr K6n))))) (Kj5 c a0 b1 fl) (mkS [(0,sI a0),(1,sI b1),(5,I a1)] [])
theorem Kj8 : ∀ p r,Kj6 p = some r → Kj7 p r := by
 refine Kj6.partial_correctness Kj7 ?_
 rintro spec_l1Less_l0_f spec_l1Less_l0_ih ⟨a0,b1,a1⟩ r h
 intro c hc
 refine WpL.step (sN (sN ?_))
 obtain ⟨a2,a3,h⟩ := Qdt h
 refine wi [] [(15,.bool a2)] ?_ ?_
 ·replace h := a3
  rcases is h with ⟨a4,h⟩ | ⟨a4,h⟩
  ·obtain rfl := os h
   exact rj hc none ([oN,oN,nQ ⟨[(8,I (a0.length : Int))],[],[]⟩]++nN 4 [nQ ⟨[(13,I (b1.length : Int))],[],[]⟩,oN,oT]) (ai (Qdz (d := 8) I a0) (ar 3 a4 (ai (Qdz (d := 13) I b1) (ar 2 a4 tv))))
  obtain rfl := os h
  exact rj hc none ([oN,oN,nQ ⟨[(8,I (a0.length : Int))],[],[]⟩,oN,oN]++n_ 4 [oF]) (ai (Qdz (d := 8) I a0) (ar 4 (neT a4) (ai a4 tv)))
 clear a3
 refine ic h (fun a5 h => ?_) fun a5 h => ?_
 ·refine sk (sN (bk 1 ?_))
  obtain ⟨a6,a7,a8,a9,h⟩ := bq2 h
  refine rsd hc (rx [[0],[0],[2],[3],[0],[0],[0,4,5],[0,4,5,6],[8]]) [oN,oN,eL (I a6),oN,oN,oN,eL (I a8),oN,oN] [15] [(26,.bool (a6 != a8))] [] (ab (ix a7) (ix a9) tv) (ic h (fun b2 h => ?_) fun b2 h => ?_)
  ·obtain ⟨b3,b4,b5,b6,h⟩ := bq2 h
   obtain rfl := os h
   exact rs hc (rx [[0],[0],[2],[3],[0],[0],[0,4,5],[0,4,5,6],[8],[9]]) [oN,oN,eL (I b3),oN,oN,oN,eL (I b5),oN,oN,oN] [(4,.bool (decide (b3 < b5)))] [] (ab (ix b4) (ix b6) tv) (rt (re [true]))
  exact sk (ri0 hc 3 (Qdb (spec_l1Less_l0_ih _ _ h c hc)))
 obtain rfl := os h
 exact xt 0 (Qd5 (Qdc (iv [])))
def Kj9 (p : (List Int) × (List Int)) : Option (Bool) :=
 match p with
 | (a0,b1) =>
  (Kj6 (a0,b1,0)) >>= fun fl => match fl with
  | .inl () =>
   some (decide ((a0.length : Int) < (b1.length : Int)))
  | .inr r =>
   some r
def Kja (p : (List Int) × (List Int)) (r : Bool) : Prop :=
 match p with
 | (a0,b1) => Q75 Tryz.prog 224 [sI a0,sI b1] (.bool r) []
theorem Kjb : ∀ p r,Kj9 p = some r → Kja p r := by
 rintro ⟨a0,b1⟩ r h
 unfold Kj9 at h
 refine b0 Tryz.f224 K6n 41 [(0,sI a0),(1,sI b1)] fun c hc => (K9m hc 1 [] [] [] (sN (rs0 hc 1 [(0,sI a0),(1,sI b1),(5,I 0)] [] (bk 0 ?_))))
 obtain ⟨fl,a1,h⟩ := Qdt h
 have hL := Kj8 _ _ a1 c hc
 refine lp ?_
 rcases fl with ⟨⟩ | r
 ·refine wl hL ?_
  obtain rfl := os h
  exact Qd7 (rs hc none [oN,nQ ⟨[(37,I (a0.length : Int))],[],[]⟩,oN,nQ ⟨[(39,I (b1.length : Int))],[],[]⟩,oN,oN] [(4,.bool (decide ((a0.length : Int) < (b1.length : Int))))] [] (ab (Qdz (d := 37) I a0) (Qdz (d := 39) I b1) tv) (rt (rq [true])))
 refine WpL.mono hL ?_
 rintro _ _ ⟨rfl,hfin⟩
 obtain rfl := os h
 exact ⟨.inl rfl,hfin⟩
def Kjc (c : Ctx) (a0 : LL) (a1 : LL) (a2 : Int) : Int → Exit → Q0a → Prop
 | a3 => Qdf c (.exit 2) (mkS [(4,sL a0),(5,.rs 3),(6,I a2),(7,I a3)] [(3,rM K14 a1)])
def Kjd (p : LL × LL × Int × Int) : Option (Int) :=
 match p with
 | (a0,a1,a2,a3) =>
  ((
  if (decide (a3 > 0)) = true then
  (idx a0 a2) >>= fun a4 =>
  (idx a1 (wr (a3 - 1))) >>= fun a5 =>
  (Kj9 (a4,a5)) >>= fun a6 =>
  some (a6)
  else
  some (false)
  ) : Option (Bool)) >>= fun a7 =>
  if a7 = true then
  Kjd (a0,a1,a2,(wr (a3 - 1)))
  else
  some (a3)
 partial_fixpoint
def Kje (p : LL × LL × Int × Int) (fl : Int) : Prop :=
 match p with
 | (a0,a1,a2,a3) => ∀ c : Ctx,c.nt = 63 → WpL Tryz.prog c (cl (cl (cl (cr (cl (cl (cr (cl (cl (cr (cl (cr (cr (cr (cr (cr (cr K6p))))))))))))))))) (Kjc c a0 a1 a2 fl) (mkS [(4,sL a0),(5,.rs 3),(6,I a2),(7,I a3)] [(3,rM K14 a1)])
theorem Kjf : ∀ p r,Kjd p = some r → Kje p r := by
 refine Kjd.partial_correctness Kje ?_
 rintro spec_ViewsOf_l0_f spec_ViewsOf_l0_ih ⟨a0,a1,a2,a3⟩ r h
 intro c hc
 refine WpL.step (sN (sN ?_))
 obtain ⟨a4,a5,h⟩ := Qdt h
 refine wi [] [(41,.bool a4)] ?_ ?_
 ·replace h := a5
  rcases is h with ⟨a6,h⟩ | ⟨a6,h⟩
  ·obtain ⟨a7,a8,a9,b1,b2,b3,h⟩ := bq3 h
   obtain rfl := os h
   exact rj hc Kil (nN 5 ([eL (sI a7)]++nN 5 [eL (sI a9),oc (.bool b2),oT])) (ar 3 a6 (ai (xL a8) (ar 5 a6 (ad (Qdy (enc := K14) b1) a6 (xL b1).2 a6 (cq (Kjb _ _ b3) K6o (ai a6 tv))))))
  obtain rfl := os h
  exact rj hc Kil ([oN,oN,oN]++n_ 10 [oF]) (ar 10 (neT a6) (ai a6 tv))
 clear a5
 refine ic h (fun b4 h => ?_) fun b4 h => ?_
 ·exact sk (bk 3 (ri0 hc 3 (Qdb (spec_ViewsOf_l0_ih _ _ h c hc))))
 obtain rfl := os h
 exact xt 2 (Qd5 (Qdc (iv [])))
def Kjg (c : Ctx) : LL → Exit → Q0a → Prop
 | a0 => Qdf c (.exit 0) (mkS [(5,.rs 3)] [(3,rM K14 a0)])
def Kjh (p : LL × LL × Int) : Option (LL) :=
 match p with
 | (a0,a1,a2) =>
  if (decide (a2 < (a0.length : Int))) = true then
  (Kjd (a0,a1,a2,(a1.length : Int))) >>= fun a3 =>
  (Qe6 (a1.length + ([[]] : LL).length) 24) >>= fun _ =>
  (chk (0 < (a1 ++ ([[]] : LL)).length ∧ 0 ≤ (wr (a3 + 1)) ∧ (wr (a3 + 1)) ≤ ((a1 ++ ([[]] : LL)).length : Int))) >>= fun _ =>
  (chk (0 < (a1 ++ ([[]] : LL)).length ∧ 0 ≤ a3 ∧ a3 ≤ ((a1 ++ ([[]] : LL)).length : Int))) >>= fun _ =>
  (idx a0 a2) >>= fun a4 =>
  (idx (cpy (a1 ++ ([[]] : LL)) (Int.toNat (wr (a3 + 1))) (Int.toNat a3)) a3) >>= fun a5 =>
  Kjh (a0,(List.set (cpy (a1 ++ ([[]] : LL)) (Int.toNat (wr (a3 + 1))) (Int.toNat a3)) (Int.toNat a3) a4),(wr (a2 + 1)))
  else
  some (a1)
 partial_fixpoint
def Kji (p : LL × LL × Int) (fl : LL) : Prop :=
 match p with
 | (a0,a1,a2) => ∀ c : Ctx,c.nt = 63 → WpL Tryz.prog c (cl (cl (cr (cl (cr (cr (cr (cr (cr (cr K6p)))))))))) (Kjg c fl) (mkS [(4,sL a0),(5,.rs 3),(6,I a2)] [(3,rM K14 a1)])
theorem Kjj : ∀ p r,Kjh p = some r → Kji p r := by
 refine Kjh.partial_correctness Kji ?_
 rintro spec_ViewsOf_l1_f spec_ViewsOf_l1_ih ⟨a0,a1,a2⟩ r h
 intro c hc
 refine WpL.step (sN (K9n hc none [oN,oN,nQ ⟨[(22,I (a0.length : Int))],[],[]⟩,oN] [] [(23,.bool (decide (a2 < (a0.length : Int))))] (ai (Qdz (d := 22) K14 a0) tv) (ic h (fun a3 h => ?_) fun a3 h => ?_)))
 ·refine sk (sN (bk 1 (rss hc none [oN,nQ ⟨[(27,I (a1.length : Int))],[],[]⟩,oN] [(4,sL a0),(5,.rs 3),(6,I a2),(7,I (a1.length : Int))] (ai (Qdz (d := 27) K14 a1) tv) (sN (bk 2 ?_)))))
  obtain ⟨a4,a5,h⟩ := Qdt h
  have hL := Kjf _ _ a5 c hc
  refine lp (wl hL (Qd7 ?_))
  obtain ⟨_,a6,h⟩ := Qdt h
  refine rsd hc none [oN,some (.call .undef [] 6),some (.eqv (.mk 7 true) ⟨[(46,.rs 7)],[(7,some (.arr (List.map K14 (a1 ++ ([[]] : LL))))),(3,none)],[7]⟩),oN] [5] [(5,.rs 7)] [(7,.arr (List.map K14 (a1 ++ ([[]] : LL))))] (ab (congrArg (fun z => (⟨[(46,.rs 7)],[(7,some (.arr z)),(3,none)],[7]⟩ : Wr)) ((List.map_append).symm : (List.map K14 a1) ++ (List.map K14 ([[]] : LL)) = List.map K14 (a1 ++ ([[]] : LL)))) (Qe7 (enc1 := K14) (enc2 := K14) (e1 := a1) (e2 := ([[]] : LL)) (sz := 1) K17 K17 a6) tv) ?_
  obtain ⟨_,a7,_,a8,h⟩ := bq2 h
  refine rsd hc (rx [[0],[0],[0,1],[3],[0],[0],[0,4,5],[7]]) [oN,oN,oN,oT,oN,oN,oT,nQ ⟨[(54,I ((min ((List.map K14 (a1 ++ ([[]] : LL))).length - Int.toNat a4) ((List.map K14 (a1 ++ ([[]] : LL))).length - Int.toNat (wr (a4 + 1))) : Nat) : Int))],[(7,some (.arr (List.map K14 (cpy (a1 ++ ([[]] : LL)) (Int.toNat (wr (a4 + 1))) (Int.toNat a4)))))],[]⟩] [] [] [(7,.arr (List.map K14 (cpy (a1 ++ ([[]] : LL)) (Int.toNat (wr (a4 + 1))) (Int.toNat a4))))] (ad (Qfn (enc := K14) (xs := (a1 ++ ([[]] : LL))) a7) (Qfn (enc := K14) (xs := (a1 ++ ([[]] : LL))) a8) (congrArg (fun z => (⟨[(54,I ((min ((List.map K14 (a1 ++ ([[]] : LL))).length - Int.toNat a4) ((List.map K14 (a1 ++ ([[]] : LL))).length - Int.toNat (wr (a4 + 1))) : Nat) : Int))],[(7,some (.arr z))],[]⟩ : Wr)) (Qfo K14 (a1 ++ ([[]] : LL)) (Int.toNat (wr (a4 + 1))) (Int.toNat a4))) (Qfp (enc := K14) (xs := (a1 ++ ([[]] : LL))) (fun _ => rfl) a7 a8) tv) ?_
  obtain ⟨a9,b1,b2,b3,h⟩ := bq2 h
  exact rgd hc none (nN 4 [eL (sI a9),oN,oN,some (.eqv (.mk 0 false) ⟨[],[(7,some (.arr (List.map K14 (List.set (cpy (a1 ++ ([[]] : LL)) (Int.toNat (wr (a4 + 1))) (Int.toNat a4)) (Int.toNat a4) a9))))],[]⟩)]) [7] [] [(7,.arr (List.map K14 (List.set (cpy (a1 ++ ([[]] : LL)) (Int.toNat (wr (a4 + 1))) (Int.toNat a4)) (Int.toNat a4) a9)))] (ad (xL b1) (Qdy (enc := K14) b3) (congrArg (fun z => (⟨[],[(7,some (.arr z))],[]⟩ : Wr)) (Qew (enc := K14) (i := Int.toNat a4) (l := (cpy (a1 ++ ([[]] : LL)) (Int.toNat (wr (a4 + 1))) (Int.toNat a4))) (v := a9) (x := sI a9) (K15 a9))) (Qex (enc := K14) (sz := 1) K16 b3) tv) (K9h hc 3 [(4,sL a0),(5,.rs 7),(6,I (wr (a2 + 1)))] (Qdb (WpL.view (fun a w hv => SRx.renL [(3,7)] hv (by kernel_rfl) (by kernel_rfl) (by kernel_rfl)) (spec_ViewsOf_l1_ih _ _ h c hc))))
 obtain rfl := os h
 exact xt 0 (Qd5 (Qdc (iv [])))
def Kjk (s0 : K00) : Option (LL) :=
 (Kcv s0) >>= fun a0 =>
 if a0 = true then
 (chk (0 ≤ s0.fSize ∧ (Int.toNat s0.fSize) * 1 ≤ 140737488355328)) >>= fun _ =>
 (idx (List.replicate (Int.toNat s0.fSize) false) 1) >>= fun a1 =>
 (Kiy (s0,(List.set (List.replicate (Int.toNat s0.fSize) false) (Int.toNat 1) true),2)) >>= fun a2 =>
 (Kjh (a2,[],0)) >>= fun a3 =>
 some a3
 else
 some []
def Kjl (s0 : K00) (r : LL) : Prop :=
 Q75 Tryz.prog 175 [K1w s0] (.osl (List.map K14 r)) []
theorem Kjm : ∀ p r,Kjk p = some r → Kjl p r := by
 rintro s0 r h
 unfold Kjk at h
 refine b0 Tryz.f175 K6p 63 [(0,K1w s0)] fun c hc => (rs hc none [nW 1,oN] [(1,.ra 1 0)] [(1,K1v s0)] tv (sN ?_))
 obtain ⟨a0,a1,h⟩ := Qdt h
 refine K9n hc none [oN,oc (.bool a0),oN] [] [(10,.bool (!a0))] (cq (Kcx _ _ a1) K4c tv) ?_
 rcases is h with ⟨a2,h⟩ | ⟨a2,h⟩
 ·refine cF (!a0) (nF a2) (sk ?_)
  obtain ⟨_,a3,h⟩ := Qdt h
  refine rsd hc none [oN,oN,some (.eqv (.mk 2 true) ⟨[(13,.rs 2)],[(2,some (rM AV.bool (List.replicate (Int.toNat s0.fSize) false)))],[2]⟩),oN] [10] [(3,.rs 2)] [(1,K1v s0),(2,rM AV.bool (List.replicate (Int.toNat s0.fSize) false))] (ab (congrArg (fun z => (⟨[(13,.rs 2)],[(2,some (.arr z))],[2]⟩ : Wr)) (Qey (enc := AV.bool) (n := Int.toNat s0.fSize) (x := AV.bool false) (Qea false))) (And.intro (Eq.refl s0.fSize) (Qdv a3)) tv) ?_
  obtain ⟨a4,a5,h⟩ := Qdt h
  refine rs hc none [oN,oN,some (.eqv (.mk 0 true) ⟨[],[(2,some (.arr (List.map AV.bool (List.set (List.replicate (Int.toNat s0.fSize) false) (Int.toNat 1) true))))],[]⟩)] [(1,.ra 1 0),(3,.rs 2)] [(1,K1v s0),(2,.arr (List.map AV.bool (List.set (List.replicate (Int.toNat s0.fSize) false) (Int.toNat 1) true)))] (ac (Qdy (enc := AV.bool) a5) (congrArg (fun z => (⟨[],[(2,some (.arr z))],[]⟩ : Wr)) (Qew (enc := AV.bool) (i := Int.toNat 1) (l := (List.replicate (Int.toNat s0.fSize) false)) (v := true) (x := AV.bool true) (Qea true))) (Qex (enc := AV.bool) (sz := 1) Qee a5) tv) (sN (vz 2 (Qen (List.set (List.replicate (Int.toNat s0.fSize) false) (Int.toNat 1) true)) [(1,.ra 1 0),(3,.sl (List.map AV.bool (List.set (List.replicate (Int.toNat s0.fSize) false) (Int.toNat 1) true)))] [(1,K1v s0)] ?_))
  obtain ⟨a6,a7,h⟩ := Qdt h
  refine rg hc none [oN,oN,oc (sL a6),oN] [(4,sL a6)] [] (cq (Q75.res (r2 := sL a6) (by simp only [share,Q02,K19]) (Q75.shr (Kj3 _ _ a7))) K6m tv) (rsd hc none [some (.mk 3 false),oN] [] [(5,.rs 3)] [(3,.arr (List.map K14 []))] tv (sN (K9l hc 1 [(4,sL a6),(5,.rs 3),(6,I 0)] (bk 0 ?_))))
  obtain ⟨a8,a9,h⟩ := Qdt h
  have hL := Kjj _ _ a9 c hc
  refine lp (wl hL ?_)
  obtain rfl := os h
  exact Qd7 (K9l hc 2 [(2,.rs 3)] (rt (rq [true])))
 refine cT (!a0) (nT a2) ?_
 obtain rfl := os h
 exact rs0 hc 1 [(2,.nils)] [] (rt (rq [true]))
def Kjn (c0 : K02) : Option (Int × K02) :=
 (Ki5 (c0,[(-1),0,1,2,3,7,8,15,16,17,40,9223372036854775807,(-9223372036854775808)])) >>= fun (a0,a1) =>
 some (a0,a1)
def Kjo (c0 : K02) (r : Int × K02) : Prop :=
 Q75 Tryz.prog 99 [K23 c0] (I r.1) [K23 r.2]
theorem Kjp : ∀ p r,Kjn p = some r → Kjo p r := by
 rintro c0 r h
 unfold Kjn at h
 refine Q75.bodyO K3a (fn := Tryz.f99) (code := B99) (by kernel_rfl) (by kernel_rfl) (by kernel_rfl) (nt := 6) (by kernel_rfl) (by kernel_rfl) (T := [(0,.ra 1000 0)]) (O := [(1000,K21 c0)]) (by kernel_rfl) (by kernel_rfl) (fun c hc => ?_)
 refine K9l hc 1 [(0,.ra 1000 0)] ?_
 obtain ⟨⟨a0,a1⟩,a2,h⟩ := Qdt h
 obtain rfl := os h
 exact rs hc none [oN,some (.call .undef [] 2),some (.call (I a0) [K23 a1,.undef] 1),oN] [(2,I a0)] [(1000,K21 a1)] (ab (Ki7 _ _ a2) K6g tv) (rt (rr [true]))
def Kjq (p : K02 × K00) : Option (Int × K02) :=
 match p with
 | (c0,s1) =>
  (Kac (c0,30)) >>= fun (a0,a1) =>
  if a0 = true then
  (Kjn a1) >>= fun (a2,a3) =>
  some (a2,a3)
  else
  (Ka9 (a1,s1.fSize)) >>= fun (a4,a5) =>
  some (a4,a5)
def Kjr (p : K02 × K00) (r : Int × K02) : Prop :=
 match p with
 | (c0,s1) => Q75 Tryz.prog 204 [K23 c0,K1w s1] (I r.1) [K23 r.2,.undef]
theorem Kjs : ∀ p r,Kjq p = some r → Kjr p r := by
 rintro ⟨c0,s1⟩ r h
 unfold Kjq at h
 refine Q75.bodyO K3a (fn := Tryz.f204) (code := K6s) (by kernel_rfl) (by kernel_rfl) (by kernel_rfl) (nt := 13) (by kernel_rfl) (by kernel_rfl) (T := [(0,.ra 1000 0),(1,K1w s1)]) (O := [(1000,K21 c0)]) (by kernel_rfl) (by kernel_rfl) (fun c hc => ?_)
 refine rs hc none [nW 1,oN] [(0,.ra 1000 0),(3,.ra 1 0)] [(1,K1v s1),(1000,K21 c0)] tv (sN ?_)
 obtain ⟨⟨a0,a1⟩,a2,h⟩ := Qdt h
 refine rsd hc none [oN,some (.call (.bool a0) [K23 a1,.undef] 1)] [] [(6,.bool a0)] [(1,K1v s1),(1000,K21 a1)] (ab (Kae _ _ a2) K3k tv) (ic h (fun a3 h => ?_) fun a3 h => ?_)
 ·obtain ⟨⟨a4,a5⟩,a6,h⟩ := Qdt h
  obtain rfl := os h
  exact rs hc none [oN,some (.call (I a4) [K23 a5] 1),oN] [(4,I a4)] [(1000,K21 a5)] (ab (Kjp _ _ a6) K6r tv) (rt (rr [true]))
 refine sk ?_
 obtain ⟨⟨a7,a8⟩,a9,h⟩ := Qdt h
 obtain rfl := os h
 exact rs hc none [oN,oN,oN,some (.call (I a7) [K23 a8,.undef] 1),oN] [(4,I a7)] [(1000,K21 a8)] (ab (Kab _ _ a9) K3j tv) (rt (rr [true]))
def Kjt (c : Ctx) : (List Int) × (List Int) × Int × Int → Exit → Q0a → Prop
 | (a0,a1,a2,a3) => Qdf c (.exit 0) (mkS [(7,.rs 2)] [(2,rI a0),(1000,.box [sM U8 a1,I a2,I a3])])
def Kju (p : K00 × Int × (List Int) × Int × Int × (List Int) × Int) : Option ((List Int) × (List Int) × Int × Int) :=
 match p with
 | (s1,n2,a0,a1,a2,a3,a4) =>
  if (decide (a4 < n2)) = true then
  (Kjq ((K02.mk a0 a1 a2),s1)) >>= fun (a5,a6) =>
  (Qe6 (a3.length + [a5].length) 8) >>= fun _ =>
  Kju (s1,n2,a6.fb,a6.fi,a6.fh,(a3 ++ [a5]),(wr (a4 + 1)))
  else
  some ((a3,a0,a1,a2))
 partial_fixpoint
def Kjv (p : K00 × Int × (List Int) × Int × Int × (List Int) × Int) (fl : (List Int) × (List Int) × Int × Int) : Prop :=
 match p with
 | (s1,n2,a0,a1,a2,a3,a4) => ∀ c : Ctx,c.nt = 22 → WpL Tryz.prog c (cl (cl (cr (cl (cr (cr K6u)))))) (Kjt c fl) (mkS [(0,.ra 1000 0),(2,I n2),(4,.ra 1 0),(7,.rs 2),(8,I a4)] [(1,K1v s1),(2,rI a3),(1000,.box [sM U8 a0,I a1,I a2])])
theorem Kjw : ∀ p r,Kju p = some r → Kjv p r := by
 refine Kju.partial_correctness Kjv ?_
 rintro spec_dGrades_l0_f spec_dGrades_l0_ih ⟨s1,n2,a0,a1,a2,a3,a4⟩ r h
 intro c hc
 refine WpL.step (sN (K9o hc 3 [] [(12,.bool (decide (a4 < n2)))] (ic h (fun a5 h => ?_) fun a5 h => ?_)))
 ·refine sk (sN (bk 1 ?_))
  obtain ⟨⟨a6,a7⟩,a8,h⟩ := Qdt h
  obtain ⟨_,a9,h⟩ := Qdt h
  exact rgd hc none [oN,oN,oN,some (.call (I a6) [K23 a7,.undef] 1),mK 5,some (.eqv (.mk 6 true) ⟨[(20,.rs 6)],[(6,some (rI (a3 ++ [a6]))),(2,none),(5,none)],[6]⟩),oN] [12,7] [(7,.rs 6)] [(1,K1v s1),(6,rI (a3 ++ [a6])),(1000,K21 a7)] (ad (Kjs _ _ a8) K6t (congrArg (fun z => (⟨[(20,.rs 6)],[(6,some (.arr z)),(2,none),(5,none)],[6]⟩ : Wr)) ((List.map_append).symm : (List.map I a3) ++ (List.map I [a6]) = List.map I (a3 ++ [a6]))) (Qe7 (enc1 := I) (enc2 := I) (e1 := a3) (e2 := [a6]) (sz := 1) Qeg Qeg a9) tv) (K9h hc 3 [(0,.ra 1000 0),(2,I n2),(4,.ra 1 0),(7,.rs 6),(8,I (wr (a4 + 1)))] (Qdb (WpL.view (fun a w hv => SRx.renL [(2,6)] hv (by kernel_rfl) (by kernel_rfl) (by kernel_rfl)) (spec_dGrades_l0_ih _ _ h c hc))))
 refine xt 0 (Qd5 (Qdc ?_))
 obtain ⟨rfl,hq0⟩ := Prod.mk.inj (os h)
 obtain ⟨rfl,hq1⟩ := Prod.mk.inj (hq0)
 obtain ⟨rfl,rfl⟩ := Prod.mk.inj (hq1)
 exact iv []
def Kjx (p : K02 × K00 × Int) : Option ((List Int) × K02) :=
 match p with
 | (c0,s1,n2) =>
  (Kju (s1,n2,c0.fb,c0.fi,c0.fh,[],0)) >>= fun (a0,a1,a2,a3) =>
  some (a0,(K02.mk a1 a2 a3))
def Kjy (p : K02 × K00 × Int) (r : (List Int) × K02) : Prop :=
 match p with
 | (c0,s1,n2) => Q75 Tryz.prog 143 [K23 c0,K1w s1,I n2] (oI r.1) [K23 r.2,.undef,.undef]
theorem Kjz : ∀ p r,Kjx p = some r → Kjy p r := by
 rintro ⟨c0,s1,n2⟩ r h
 unfold Kjx at h
 refine Q75.bodyO K3a (fn := Tryz.f143) (code := K6u) (by kernel_rfl) (by kernel_rfl) (by kernel_rfl) (nt := 22) (by kernel_rfl) (by kernel_rfl) (T := [(0,.ra 1000 0),(1,K1w s1),(2,I n2)]) (O := [(1000,K21 c0)]) (by kernel_rfl) (by kernel_rfl) (fun c hc => ?_)
 refine rs hc none [nW 1,oN] [(0,.ra 1000 0),(2,I n2),(4,.ra 1 0)] [(1,K1v s1),(1000,K21 c0)] tv (rsd hc none [mK 2,oN] [] [(7,.rs 2)] [(1,K1v s1),(2,.arr (List.map I [])),(1000,K21 c0)] tv (sN (K9l hc 1 [(0,.ra 1000 0),(2,I n2),(4,.ra 1 0),(7,.rs 2),(8,I 0)] (bk 0 ?_))))
 obtain ⟨⟨a0,a1,a2,a3⟩,a4,h⟩ := Qdt h
 have hL := Kjw _ _ a4 c hc
 refine lp (wl hL ?_)
 obtain rfl := os h
 exact Qd7 (K9l hc 2 [(6,.rs 2)] (rt (rr [true])))
def Kk0 (p : K02 × K00) : Option ((List Int) × K02) :=
 match p with
 | (c0,s1) =>
  (Kjk s1) >>= fun a0 =>
  ((
  if ((a0.length : Int) == 0) = true then
  some ((c0.fb,c0.fi,c0.fh,true))
  else
  (Kac (c0,12)) >>= fun (a1,a2) =>
  some ((a2.fb,a2.fi,a2.fh,a1))
  ) : Option ((List Int) × Int × Int × Bool)) >>= fun (a3,a4,a5,a6) =>
  if a6 = true then
  (Ka9 ((K02.mk a3 a4 a5),3)) >>= fun (a7,a8) =>
  (Kjx (a8,s1,a7)) >>= fun (a9,b1) =>
  some (a9,b1)
  else
  (Ka9 ((K02.mk a3 a4 a5),(a0.length : Int))) >>= fun (b2,b3) =>
  (idx a0 b2) >>= fun b4 =>
  (Kev b4) >>= fun b5 =>
  some (b5,b3)
def Kk1 (p : K02 × K00) (r : (List Int) × K02) : Prop :=
 match p with
 | (c0,s1) => Q75 Tryz.prog 91 [K23 c0,K1w s1] (oI r.1) [K23 r.2,.undef]
theorem Kk2 : ∀ p r,Kk0 p = some r → Kk1 p r := by
 rintro ⟨c0,s1⟩ r h
 unfold Kk0 at h
 refine Q75.bodyO K3a (fn := Tryz.f91) (code := B91) (by kernel_rfl) (by kernel_rfl) (by kernel_rfl) (nt := 28) (by kernel_rfl) (by kernel_rfl) (T := [(0,.ra 1000 0),(1,K1w s1)]) (O := [(1000,K21 c0)]) (by kernel_rfl) (by kernel_rfl) (fun c hc => ?_)
 refine rs hc none [nW 1,oN] [(0,.ra 1000 0),(3,.ra 1 0)] [(1,K1v s1),(1000,K21 c0)] tv ?_
 obtain ⟨a0,a1,h⟩ := Qdt h
 refine rsd hc none [oN,some (.call (.osl (List.map K14 a0)) [] 2),oN] [] [(5,.rs 2)] [(1,K1v s1),(2,rM K14 a0),(1000,K21 c0)] (cq (Kjm _ _ a1) K6q tv) (sN (sN ?_))
 obtain ⟨⟨a2,a3,a4,a5⟩,a6,h⟩ := Qdt h
 refine Wp.into (x := .normal) (mkS [(0,.ra 1000 0),(3,.ra 1 0),(5,.rs 2),(14,.bool a5)] [(1,K1v s1),(2,rM K14 a0),(1000,.box [sM U8 a2,I a3,I a4])]) ?_ ?_
 ·replace h := a6
  rcases is h with ⟨a7,h⟩ | ⟨a7,h⟩
  ·obtain ⟨rfl,hq0⟩ := Prod.mk.inj (os h)
   obtain ⟨rfl,hq1⟩ := Prod.mk.inj (hq0)
   obtain ⟨rfl,rfl⟩ := Prod.mk.inj (hq1)
   exact rj hc none [oN,nQ ⟨[(9,I (a0.length : Int))],[],[]⟩,oN,oN,o_,o_,oT] (ai (Qdz (d := 9) K14 a0) (ar 2 (neF a7) (ai a7 tv)))
  obtain ⟨⟨a8,a9⟩,b1,h⟩ := Qdt h
  obtain ⟨rfl,hq0⟩ := Prod.mk.inj (os h)
  obtain ⟨rfl,hq1⟩ := Prod.mk.inj (hq0)
  obtain ⟨rfl,rfl⟩ := Prod.mk.inj (hq1)
  exact rj hc none [oN,nQ ⟨[(9,I (a0.length : Int))],[],[]⟩,oN,oN,oN,some (.call (.bool a8) [K23 a9,.undef] 1),oF] (ai (Qdz (d := 9) K14 a0) (ar 2 a7 (ac (Kae _ _ b1) K3k a7 tv)))
 clear a6
 refine ic h (fun b2 h => ?_) fun b2 h => ?_
 ·obtain ⟨⟨b3,b4⟩,b5,h⟩ := Qdt h
  obtain ⟨⟨b6,b7⟩,b8,h⟩ := Qdt h
  obtain rfl := os h
  exact rs hc (rx [[0],[0],[0],[0,2],[4],[5]]) [oN,oN,oN,some (.call (I b3) [K23 b4,.undef] 1),some (.call (oI b6) [K23 b7,.undef,.undef] 3),oN] [(4,.rs 3)] [(3,rI b6),(1000,K21 b7)] (ad (Kab _ _ b5) K3j (Kjz _ _ b8) K6v tv) (rt (rr [true]))
 refine sk ?_
 obtain ⟨⟨b9,c1⟩,c2,h⟩ := Qdt h
 obtain ⟨c3,c4,c5,c6,h⟩ := bq2 h
 obtain rfl := os h
 exact rs hc none [oN,oN,oN,nQ ⟨[(23,I (a0.length : Int))],[],[]⟩,some (.call (I b9) [K23 c1,.undef] 1),oN,eL (sI c3),some (.call (oI c5) [] 4),oN] [(4,.rs 4)] [(4,rI c5),(1000,K21 c1)] (ad (Qdz (d := 23) K14 a0) (Kab _ _ c2) K3j (Qdy (enc := K14) c4) (ai (xL c4).2 (cq (Kex _ _ c6) K5a tv))) (rt (rr [true]))
def Kk3 (code0 : (List Int)) : Option (K00 × (List Int) × LL × K01) :=
 (K9x code0) >>= fun a0 =>
 (Ka3 code0) >>= fun a1 =>
 (Kac (a0,2)) >>= fun (a2,a3) =>
 (Ki2 (a3,a1,3,a2)) >>= fun (a4,a5,a6,a7) =>
 (Kac (a7,12)) >>= fun (a8,a9) =>
 ((
 if a8 = true then
 (Kid (a9,a6)) >>= fun (b1,b2) =>
 some ((b2.fb,b2.fi,b2.fh,b1.fOp,b1.fN,b1.fType,b1.fKids))
 else
 some ((a9.fb,a9.fi,a9.fh,a6.fOp,a6.fN,a6.fType,a6.fKids))
 ) : Option ((List Int) × Int × Int × Int × Int × (List Int) × (List K01))) >>= fun (b3,b4,b5,b6,b7,b8,b9) =>
 (Kk0 ((K02.mk b3 b4 b5),a4)) >>= fun (c0,c1) =>
 some (a4,c0,a5,(K01.mk b6 b7 b8 b9))
def Kk4 (code0 : (List Int)) (r : K00 × (List Int) × LL × K01) : Prop :=
 Q75 Tryz.prog 67 [sM U8 code0] (.tup [K1w r.1,.osl (List.map I r.2.1),.sl (List.map K14 r.2.2.1),K1z r.2.2.2]) []
theorem Kk5 : ∀ p r,Kk3 p = some r → Kk4 p r := by
 rintro code0 r h
 unfold Kk3 at h
 refine b0 Tryz.f67 B67 33 [(0,sM U8 code0)] fun c hc => (rsd hc none [nW 1,oN,oN,nW 2] [] [(2,.ra 1 0),(5,.ra 2 0)] [(1,zS),(2,zT)] tv ?_)
 obtain ⟨a0,a1,h⟩ := Qdt h
 refine rsd hc none [oN,some (.call (K23 a0) [.tup []] 3),oN] [] [(6,.ra 3 0)] [(1,zS),(2,zT),(3,K21 a0)] (ab (K9z _ _ a1) K3c tv) ?_
 obtain ⟨a2,a3,⟨a4,a5⟩,a6,h⟩ := bq2 h
 obtain ⟨⟨a7,a8,a9,b1⟩,b2,h⟩ := Qdt h
 refine rsd hc none ([oN,oN,oc (I a2),oN,some (.call (.bool a4) [K23 a5,.undef] 1),some (.call (.tup [K1w a7,sL a8,K1z a9]) [K23 b1,.undef,.undef,.undef] 1)]++nN 4 [nW 4,nW 5,oN,oN,oN]) [0] [(7,.ra 4 0),(8,sL a8),(9,.ra 5 0)] [(1,zS),(2,zT),(3,K21 b1),(4,K1v a7),(5,K1y a9)] (cq (Ka5 _ _ a3) K3g (ad (Kae _ _ a6) K3k (Ki4 _ _ b2) K6e tv)) (sN ?_)
 obtain ⟨⟨b3,b4⟩,b5,h⟩ := Qdt h
 refine rsd hc none [oN,some (.call (.bool b3) [K23 b4,.undef] 1)] [] [(23,.bool b3)] [(1,zS),(2,zT),(3,K21 b4),(4,K1v a7),(5,K1y a9)] (ab (Kae _ _ b5) K3k tv) ?_
 obtain ⟨⟨b6,b7,b8,b9,c0,c1,c2⟩,c3,h⟩ := Qdt h
 refine Wp.into (x := .normal) (mkS [(2,.ra 1 0),(5,.ra 2 0),(6,.ra 3 0),(7,.ra 4 0),(8,sL a8),(9,.ra 5 0)] [(1,zS),(2,zT),(3,.box [sM U8 b6,I b7,I b8]),(4,K1v a7),(5,.box [I b9,I c0,sI c1,sM K0h c2])]) ?_ ?_
 ·replace h := c3
  refine ic h (fun c4 h => ?_) fun c4 h => ?_
  ·obtain ⟨⟨c5,c6⟩,c7,h⟩ := Qdt h
   obtain ⟨rfl,hq0⟩ := Prod.mk.inj (os h)
   obtain ⟨rfl,hq1⟩ := Prod.mk.inj (hq0)
   obtain ⟨rfl,hq2⟩ := Prod.mk.inj (hq1)
   obtain ⟨rfl,hq3⟩ := Prod.mk.inj (hq2)
   obtain ⟨rfl,hq4⟩ := Prod.mk.inj (hq3)
   obtain ⟨rfl,rfl⟩ := Prod.mk.inj (hq4)
   exact rj hc none [oN,oN,some (.call (K1z c5) [K23 c6,.undef] 1),oN] (ab (Kif _ _ c7) K6i tv)
  refine sk ?_
  obtain ⟨rfl,hq0⟩ := Prod.mk.inj (os h)
  obtain ⟨rfl,hq1⟩ := Prod.mk.inj (hq0)
  obtain ⟨rfl,hq2⟩ := Prod.mk.inj (hq1)
  obtain ⟨rfl,hq3⟩ := Prod.mk.inj (hq2)
  obtain ⟨rfl,hq4⟩ := Prod.mk.inj (hq3)
  obtain ⟨rfl,rfl⟩ := Prod.mk.inj (hq4)
  exact iv []
 clear c3
 obtain ⟨⟨c8,c9⟩,d0,h⟩ := Qdt h
 obtain rfl := os h
 exact rsd hc (rx [[0],[0],[0],[0,1,2],[0],[0],[4],[4,6],[5,6,7],[9]]) ([oN,oN,oN,some (.call (oI c8) [K23 c9,.undef] 6)]++nN 6 []) [6,7,8,9] [(3,.rs 6),(4,sL a8)] [(1,K1v a7),(2,.box [I b9,I c0,sI c1,sM K0h c2]),(6,rI c8)] (ab (Kk2 _ _ d0) K6w tv) (rt (rq [false,true,false,false]))
def Kk6 (p : Int × Int × Int) : Option (Bool) :=
 match p with
 | (n0,low1,high2) =>
  ((
  if (decide (n0 ≥ low1)) = true then
  some ((decide (n0 ≤ high2)))
  else
  some (false)
  ) : Option (Bool)) >>= fun a0 =>
  some a0
def Kk7 (p : Int × Int × Int) (r : Bool) : Prop :=
 match p with
 | (n0,low1,high2) => Q75 Tryz.prog 95 [I n0,I low1,I high2] (.bool r) []
theorem Kk8 : ∀ p r,Kk6 p = some r → Kk7 p r := by
 rintro ⟨n0,low1,high2⟩ r h
 unfold Kk6 at h
 refine b0 Tryz.f95 B95 15 [(0,I n0),(1,I low1),(2,I high2)] fun c hc => (K9m hc 1 [] [] [] (sN ?_))
 obtain ⟨a0,a1,h⟩ := Qdt h
 refine Wp.into (x := .normal) (mkS [(6,.bool a0)] []) ?_ ?_
 ·replace h := a1
  rcases is h with ⟨a2,h⟩ | ⟨a2,h⟩
  ·obtain rfl := os h
   exact rj hc none (nN 7 [oT,oN]) (ar 4 a2 tv)
  obtain rfl := os h
  exact rj hc none (nN 4 [o_,o_,o_,oF,oN]) (ar 3 (neT a2) (ai a2 tv))
 clear a1
 obtain rfl := os h
 exact rt (rq [true])
def Kk9 (p : K00 × Int) : Option (Bool) :=
 match p with
 | (s0,g1) =>
  (Kk6 (g1,0,(wr (s0.fSize - 1)))) >>= fun a0 =>
  some a0
def Kka (p : K00 × Int) (r : Bool) : Prop :=
 match p with
 | (s0,g1) => Q75 Tryz.prog 145 [K1w s0,I g1] (.bool r) []
theorem Kkb : ∀ p r,Kk9 p = some r → Kka p r := by
 rintro ⟨s0,g1⟩ r h
 unfold Kk9 at h
 refine b0 Tryz.f145 K6z 10 [(0,K1w s0),(1,I g1)] fun c hc => (rsd hc none [nW 1,oN] [0] [(2,.ra 1 0)] [(1,K1v s0)] tv ?_)
 obtain ⟨a0,a1,h⟩ := Qdt h
 obtain rfl := os h
 exact rs hc none (nN 4 [oc (.bool a0),oN]) [(4,.bool a0)] [] (cq (Kk8 _ _ a1) K6y tv) (rt (rq [true]))
def Kkc (p : K00 × Int × Int) : Option (Int) :=
 match p with
 | (s0,a1,b2) =>
  (idx s0.fPlus (wr ((wr (a1 * s0.fSize)) + b2))) >>= fun a0 =>
  some a0
def Kkd (p : K00 × Int × Int) (r : Int) : Prop :=
 match p with
 | (s0,a1,b2) => Q75 Tryz.prog 160 [K1w s0,I a1,I b2] (I r) []
theorem Kke : ∀ p r,Kkc p = some r → Kkd p r := by
 rintro ⟨s0,a1,b2⟩ r h
 unfold Kkc at h
 refine b0 Tryz.f160 K71 17 [(0,K1w s0),(1,I a1),(2,I b2)] fun c hc => (rsd hc none [nW 1,oN] [0] [(3,.ra 1 0)] [(1,K1v s0)] tv ?_)
 obtain ⟨a0,a2,h⟩ := Qdt h
 obtain rfl := os h
 exact rs hc none (nN 8 [eL (I a0),oN,oN]) [(6,I a0)] [] (ai (ix a2) tv) (rt (rq [true]))
def Kkf (p : K00 × Int × Int) : Option (Int) :=
 match p with
 | (s0,a1,b2) =>
  (idx s0.fTimes (wr ((wr (a1 * s0.fSize)) + b2))) >>= fun a0 =>
  some a0
def Kkg (p : K00 × Int × Int) (r : Int) : Prop :=
 match p with
 | (s0,a1,b2) => Q75 Tryz.prog 161 [K1w s0,I a1,I b2] (I r) []
theorem Kkh : ∀ p r,Kkf p = some r → Kkg p r := by
 rintro ⟨s0,a1,b2⟩ r h
 unfold Kkf at h
 refine b0 Tryz.f161 K73 17 [(0,K1w s0),(1,I a1),(2,I b2)] fun c hc => (rsd hc none [nW 1,oN] [0] [(3,.ra 1 0)] [(1,K1v s0)] tv ?_)
 obtain ⟨a0,a2,h⟩ := Qdt h
 obtain rfl := os h
 exact rs hc none (nN 8 [eL (I a0),oN,oN]) [(6,I a0)] [] (ai (ix a2) tv) (rt (rq [true]))
def Kki (p : K00 × Int × Int) : Option (Bool) :=
 match p with
 | (s0,a1,b2) =>
  (idx s0.fBelow (wr ((wr (a1 * s0.fSize)) + b2))) >>= fun a0 =>
  some a0
def Kkj (p : K00 × Int × Int) (r : Bool) : Prop :=
 match p with
 | (s0,a1,b2) => Q75 Tryz.prog 89 [K1w s0,I a1,I b2] (.bool r) []
theorem Kkk : ∀ p r,Kki p = some r → Kkj p r := by
 rintro ⟨s0,a1,b2⟩ r h
 unfold Kki at h
 refine b0 Tryz.f89 B89 17 [(0,K1w s0),(1,I a1),(2,I b2)] fun c hc => (rsd hc none [nW 1,oN] [0] [(3,.ra 1 0)] [(1,K1v s0)] tv ?_)
 obtain ⟨a0,a2,h⟩ := Qdt h
 obtain rfl := os h
 exact rs hc none (nN 8 [eB a0,oN,oN]) [(6,.bool a0)] [] (ai (xB a2) tv) (rt (rq [true]))
def Kkl (c : Ctx) (s0 : K00) (a1 : Int) (b2 : Int) (a0 : Int) : Bool → Exit → Q0a → Prop
 | a2 => Qdf c (.exit 2) (mkS [(1,I a1),(2,I b2),(3,.ra 1 0),(7,I a0),(8,.bool a2)] [(1,K1v s0)])
def Kkm : Option (List (List Nat)) := rx [[0],[0],[0],[0],[0,1,2,3],[0],[6],[0],[0],[0],[0],[0],[7,9,10,11],[13],[14],[15],[16],[16],[16],[16],[16,17,18,19],[16],[22],[16],[16],[16],[16],[16],[23,25,26,27],[29],[30],[31]]
def Kkn : Option (List (List Nat)) := rx [[0],[0],[0],[0],[0],[0,2,3,4],[6],[0],[0],[0],[0],[7,8,9,10],[0],[0],[0],[7,8,9,10,11,12,13,14],[16],[17],[18],[19],[19],[19],[19],[19,20,21,22],[19],[25],[19],[19],[19],[19],[26,27,28,29],[19],[19],[19],[26,27,28,29,30,31,32,33],[35],[36],[37]]
def Kko : Option (List (List Nat)) := rx [[0],[0],[0],[3],[4],[5],[6],[6],[6],[6],[6,7,8,9],[6],[6],[6],[6,7,8,9,10,11,12,13],[15],[16],[17],[17],[17],[17],[17,18,19,20],[17],[17],[17],[17,18,19,20,21,22,23,24],[26],[27],[28],[29],[29],[29],[29],[29,30,31,32],[29],[29],[29],[29,30,31,32,33,34,35,36],[38],[39],[40],[41]]
def Kkp : Option (List (List Nat)) := rx [[0],[0],[0,1],[0],[0,1,2,3],[0,1,2,3,4],[6],[7],[8],[9],[9],[9,10],[9],[9,10,11,12],[9,10,11,12,13],[15],[16],[17]]
def Kkq (p : K00 × Int × Int × Int × Bool × Int) : Option (Bool) :=
 match p with
 | (s0,a1,b2,a0,a2,a3) =>
  if (decide (a3 < s0.fSize)) = true then
  ((
  if a2 = true then
  (Kki (s0,a1,a3)) >>= fun a4 =>
  if a4 = true then
  (Kki (s0,b2,a3)) >>= fun a5 =>
  if a5 = true then
  (Kki (s0,a0,a3)) >>= fun a6 =>
  some (a6)
  else
  some (true)
  else
  some (true)
  else
  some (false)
  ) : Option (Bool)) >>= fun a7 =>
  Kkq (s0,a1,b2,a0,a7,(wr (a3 + 1)))
  else
  some (a2)
 partial_fixpoint
def Kkr (p : K00 × Int × Int × Int × Bool × Int) (fl : Bool) : Prop :=
 match p with
 | (s0,a1,b2,a0,a2,a3) => ∀ c : Ctx,c.nt = 57 → WpL Tryz.prog c (cl (cl (cr (cl (cr (cr (cl (cl (cr (cl (cl (cr (cl (cr K76)))))))))))))) (Kkl c s0 a1 b2 a0 fl) (mkS [(1,I a1),(2,I b2),(3,.ra 1 0),(7,I a0),(8,.bool a2),(9,I a3)] [(1,K1v s0)])
theorem Kks : ∀ p r,Kkq p = some r → Kkr p r := by
 refine Kkq.partial_correctness Kkr ?_
 rintro impl_Systemjoin_l0_f impl_Systemjoin_l0_ih ⟨s0,a1,b2,a0,a2,a3⟩ r h
 intro c hc
 refine WpL.step (sN (K9o hc 4 [] [(31,.bool (decide (a3 < s0.fSize)))] (ic h (fun a4 h => ?_) fun a4 h => ?_)))
 ·refine sk (sN (bk 3 ?_))
  obtain ⟨a5,a6,h⟩ := Qdt h
  refine wi [31,8] [(8,.bool a5)] ?_ ?_
  ·replace h := a6
   rcases is h with ⟨a7,h⟩ | ⟨a7,h⟩
   ·obtain ⟨a8,a9,h⟩ := Qdt h
    rcases is h with ⟨b1,h⟩ | ⟨b1,h⟩
    ·obtain ⟨b3,b4,h⟩ := Qdt h
     rcases is h with ⟨b5,h⟩ | ⟨b5,h⟩
     ·obtain ⟨b6,b7,h⟩ := Qdt h
      obtain rfl := os h
      exact rj hc none (nN 5 ([oc (.bool a8)]++nN 5 ([oc (.bool b3),oN,oF]++nN 4 [oc (.bool b6),oF,oT,oN]))) (ar 4 a7 (cq (Kkk _ _ a9) K75 (ar 2 a7 (ar 4 (nF b1) (cq (Kkk _ _ b4) K75 (ad (nF b1) a7 (nF b1) a7 (ar 4 (nF b5) (cq (Kkk _ _ b7) K75 (ac a7 (nF b5) a7 tv)))))))))
     obtain rfl := os h
     exact rj hc none (nN 5 ([oc (.bool a8)]++nN 5 ([oc (.bool b3),oN,oF,oN]++n_ 4 [oT,oT,oN]))) (ar 4 a7 (cq (Kkk _ _ a9) K75 (ar 2 a7 (ar 4 (nF b1) (cq (Kkk _ _ b4) K75 (ad (nF b1) a7 (nF b1) a7 (ar 4 (neF (nT b5)) (ac a7 (nT b5) a7 tv))))))))
    obtain rfl := os h
    exact rj hc none (nN 5 ([oc (.bool a8),oN,oN]++n_ 5 ([oT,oN]++n_ 4 [oT,oT,oN]))) (ar 4 a7 (cq (Kkk _ _ a9) K75 (ar 2 a7 (ar 5 (neF (nT b1)) (ac a7 (nT b1) a7 (ar 4 nf (ac a7 tt a7 tv)))))))
   obtain rfl := os h
   exact rj hc none ([oN,oN]++n_ 18 [oF,oN]) (ar 9 (neT a7) (ai a7 tv))
  clear a6
  exact ri0 hc 3 (Qdb (impl_Systemjoin_l0_ih _ _ h c hc))
 obtain rfl := os h
 exact xt 2 (Qd5 (Qdc (iv [])))
def Kkt (c : Ctx) (s0 : K00) (a1 : Int) (b2 : Int) (a0 : Int) : (Unit) ⊕ (Int) → Exit → Q0a → Prop
 | .inl _ => Qdf c .normal (mkS [(1,I a1),(2,I b2),(3,.ra 1 0),(7,I a0)] [(1,K1v s0)])
 | .inr r => Qdo TIx Tryz.f149 [] (I r)
def Kku (c : Ctx) : (Unit) ⊕ (Int) → Exit → Q0a → Prop
 | .inl _ => Qdf c (.exit 0) (mkS [] [])
 | .inr r => Qdo TIx Tryz.f149 [] (I r)
def Kkv (p : K00 × Int × Int × Int) : Option ((Unit) ⊕ (Int)) :=
 match p with
 | (s0,a1,b2,a0) =>
  if (decide (a0 < s0.fSize)) = true then
  ((
   ((
   (Kki (s0,a1,a0)) >>= fun a2 =>
   if a2 = true then
   (Kki (s0,b2,a0)) >>= fun a3 =>
   some ((!a3))
   else
   some (true)
   ) : Option (Bool)) >>= fun a4 =>
   if a4 = true then
   some (.inl ())
   else
   (Kkq (s0,a1,b2,a0,true,0)) >>= fun a5 =>
   if a5 = true then
   some (.inr a0)
   else
   some (.inl ())) : Option ((Unit) ⊕ (Int))) >>= fun fl => match fl with
  | .inl () =>
   Kkv (s0,a1,b2,(wr (a0 + 1)))
  | .inr r =>
   some (.inr r)
  else
  some (.inl ())
 partial_fixpoint
def Kkw (p : K00 × Int × Int × Int) (fl : (Unit) ⊕ (Int)) : Prop :=
 match p with
 | (s0,a1,b2,a0) => ∀ c : Ctx,c.nt = 57 → WpL Tryz.prog c (cl (cl (cr (cl (cr K76))))) (Kku c fl) (mkS [(1,I a1),(2,I b2),(3,.ra 1 0),(7,I a0)] [(1,K1v s0)])
theorem Kkx : ∀ p r,Kkv p = some r → Kkw p r := by
 refine Kkv.partial_correctness Kkw ?_
 rintro impl_Systemjoin_l1_f impl_Systemjoin_l1_ih ⟨s0,a1,b2,a0⟩ r h
 intro c hc
 refine WpL.step (sN (K9l hc 4 [(1,I a1),(2,I b2),(3,.ra 1 0),(7,I a0),(13,.bool (decide (a0 < s0.fSize)))] (ic h (fun a2 h => ?_) fun a2 h => ?_)))
 ·refine sk (sN ?_)
  obtain ⟨fl,a3,h⟩ := Qdt h
  refine flw (Kkt c s0 a1 b2 a0 fl) ?_ (fun hF => ?_)
  ·replace h := a3
   refine bk 1 (sN (sN ?_))
   obtain ⟨a4,a5,h⟩ := Qdt h
   refine wi [13] [(27,.bool a4)] ?_ ?_
   ·replace h := a5
    obtain ⟨a6,a7,h⟩ := Qdt h
    rcases is h with ⟨a8,h⟩ | ⟨a8,h⟩
    ·obtain ⟨a9,b1,h⟩ := Qdt h
     obtain rfl := os h
     exact rj hc none ([oN,oN,oN,oc (.bool a6)]++nN 5 [oc (.bool a9),oN,oF]) (cq (Kkk _ _ a7) K75 (ar 4 (nF a8) (cq (Kkk _ _ b1) K75 (ar 2 (nF a8) tv))))
    obtain rfl := os h
    exact rj hc none ([oN,oN,oN,oc (.bool a6),oN,oN]++n_ 5 [oT]) (cq (Kkk _ _ a7) K75 (ar 5 (neF (nT a8)) (ai (nT a8) tv)))
   clear a5
   refine ic h (fun b3 h => ?_) fun b3 h => ?_
   ·obtain rfl := os h
    exact xt 1 (Qd5 (Qd7 (iv [])))
   refine sk (K9o hc 1 [27] [(8,.bool true)] (sN (K9l hc 1 [(1,I a1),(2,I b2),(3,.ra 1 0),(7,I a0),(8,.bool true),(9,I 0)] (bk 2 ?_))))
   obtain ⟨b4,b5,h⟩ := Qdt h
   have hL := Kks _ _ b5 c hc
   refine lp (wl hL (Qd7 (K9o hc 1 [8] [(55,.bool b4)] (ic h (fun b6 h => ?_) fun b6 h => ?_))))
   ·obtain rfl := os h
    exact rs0 hc 2 [(6,I a0)] [] (rt (re [true]))
   obtain rfl := os h
   exact sk (iv [])
  rcases fl with ⟨⟩ | r
  ·exact wf hF (ri0 hc 3 (Qdb (impl_Systemjoin_l1_ih _ _ h c hc)))
  refine Wp.mono hF ?_
  rintro _ _ ⟨rfl,hfin⟩
  obtain rfl := os h
  exact ⟨rfl,hfin⟩
 obtain rfl := os h
 exact xt 0 (Qd5 (Qdc (iv [])))
def Kky (p : K00 × Int × Int) : Option (Int) :=
 match p with
 | (s0,a1,b2) =>
  (Kkv (s0,a1,b2,0)) >>= fun fl => match fl with
  | .inl () =>
   some (-1)
  | .inr r =>
   some r
def Kkz (p : K00 × Int × Int) (r : Int) : Prop :=
 match p with
 | (s0,a1,b2) => Q75 Tryz.prog 149 [K1w s0,I a1,I b2] (I r) []
theorem Kl0 : ∀ p r,Kky p = some r → Kkz p r := by
 rintro ⟨s0,a1,b2⟩ r h
 unfold Kky at h
 refine b0 Tryz.f149 K76 57 [(0,K1w s0),(1,I a1),(2,I b2)] fun c hc => (rsd hc none [nW 1,oN] [0] [(3,.ra 1 0)] [(1,K1v s0)] tv (sN (K9l hc 1 [(1,I a1),(2,I b2),(3,.ra 1 0),(7,I 0)] (bk 0 ?_))))
 obtain ⟨fl,a0,h⟩ := Qdt h
 have hL := Kkx _ _ a0 c hc
 refine lp ?_
 rcases fl with ⟨⟩ | r
 ·refine wl hL ?_
  obtain rfl := os h
  exact Qd7 (rs0 hc 1 [(6,I (-1))] [] (rt (rq [true])))
 refine WpL.mono hL ?_
 rintro _ _ ⟨rfl,hfin⟩
 obtain rfl := os h
 exact ⟨.inl rfl,hfin⟩
def Kl1 (p : K00 × Int × Int × Int) : Option (Bool) :=
 match p with
 | (s0,a1,b2,c3) =>
  ((
  (Kkc (s0,a1,b2)) >>= fun a0 =>
  (Kkc (s0,a0,c3)) >>= fun a2 =>
  (Kkc (s0,b2,c3)) >>= fun a3 =>
  (Kkc (s0,a1,a3)) >>= fun a4 =>
  if (a2 != a4) = true then
  some (true)
  else
  (Kkf (s0,a1,b2)) >>= fun a5 =>
  (Kkf (s0,a5,c3)) >>= fun a6 =>
  (Kkf (s0,b2,c3)) >>= fun a7 =>
  (Kkf (s0,a1,a7)) >>= fun a8 =>
  some ((a6 != a8))
  ) : Option (Bool)) >>= fun a9 =>
  if a9 = true then
  some false
  else
  ((
  (Kkc (s0,b2,c3)) >>= fun b1 =>
  (Kkf (s0,a1,b1)) >>= fun b3 =>
  (Kkf (s0,a1,b2)) >>= fun b4 =>
  (Kkf (s0,a1,c3)) >>= fun b5 =>
  (Kkc (s0,b4,b5)) >>= fun b6 =>
  if (b3 != b6) = true then
  some (true)
  else
  (Kkc (s0,a1,b2)) >>= fun b7 =>
  (Kkf (s0,b7,c3)) >>= fun b8 =>
  (Kkf (s0,a1,c3)) >>= fun b9 =>
  (Kkf (s0,b2,c3)) >>= fun c0 =>
  (Kkc (s0,b9,c0)) >>= fun c1 =>
  some ((b8 != c1))
  ) : Option (Bool)) >>= fun c2 =>
  if c2 = true then
  some false
  else
  ((
  (Kki (s0,a1,b2)) >>= fun c4 =>
  if c4 = true then
  (Kki (s0,b2,c3)) >>= fun c5 =>
  if c5 = true then
  (Kki (s0,a1,c3)) >>= fun c6 =>
  some ((!c6))
  else
  some (false)
  else
  some (false)
  ) : Option (Bool)) >>= fun c7 =>
  if c7 = true then
  some false
  else
  ((
  (Kki (s0,a1,b2)) >>= fun c8 =>
  if c8 = true then
  (Kkc (s0,a1,c3)) >>= fun c9 =>
  (Kkc (s0,b2,c3)) >>= fun d0 =>
  (Kki (s0,c9,d0)) >>= fun d1 =>
  if d1 = true then
  (Kkf (s0,a1,c3)) >>= fun d2 =>
  (Kkf (s0,b2,c3)) >>= fun d3 =>
  (Kki (s0,d2,d3)) >>= fun d4 =>
  if d4 = true then
  (Kkf (s0,c3,a1)) >>= fun d5 =>
  (Kkf (s0,c3,b2)) >>= fun d6 =>
  (Kki (s0,d5,d6)) >>= fun d7 =>
  some (d7)
  else
  some (false)
  else
  some (false)
  else
  some (true)
  ) : Option (Bool)) >>= fun d8 =>
  some d8
def Kl2 (p : K00 × Int × Int × Int) (r : Bool) : Prop :=
 match p with
 | (s0,a1,b2,c3) => Q75 Tryz.prog 162 [K1w s0,I a1,I b2,I c3] (.bool r) []
theorem Kl3 : ∀ p r,Kl1 p = some r → Kl2 p r := by
 rintro ⟨s0,a1,b2,c3⟩ r h
 unfold Kl1 at h
 refine b0 Tryz.f162 K78 137 [(0,K1w s0),(1,I a1),(2,I b2),(3,I c3)] fun c hc => (rsd hc none [nW 1,oN] [0] [(4,.ra 1 0)] [(1,K1v s0)] tv (sN (sN ?_)))
 obtain ⟨a0,a2,h⟩ := Qdt h
 refine wi [] [(40,.bool a0)] ?_ ?_
 ·replace h := a2
  obtain ⟨a3,a4,a5,a6,a7,a8,a9,b1,h⟩ := bq4 h
  rcases is h with ⟨b3,h⟩ | ⟨b3,h⟩
  ·obtain rfl := os h
   exact rj hc Kkm (nN 4 ([oc (I a3),oN,oc (I a5)]++nN 5 ([oc (I a7),oc (I a9),oN,oN]++n_ 15 [oT]))) (cq (Kke _ _ a4) K72 (cq (Kke _ _ a6) K72 (cq (Kke _ _ a8) K72 (cq (Kke _ _ b1) K72 (ar 15 (neF b3) (ai b3 tv))))))
  obtain ⟨b4,b5,b6,b7,b8,b9,c0,c1,h⟩ := bq4 h
  obtain rfl := os h
  exact rj hc Kkm (nN 4 ([oc (I a3),oN,oc (I a5)]++nN 5 ([oc (I a7),oc (I a9)]++nN 6 ([oc (I b4),oN,oc (I b6)]++nN 5 [oc (I b8),oc (I c0),oN,oF])))) (cq (Kke _ _ a4) K72 (cq (Kke _ _ a6) K72 (cq (Kke _ _ a8) K72 (cq (Kke _ _ b1) K72 (ar 5 b3 (cq (Kkh _ _ b5) K74 (ar 2 b3 (cq (Kkh _ _ b7) K74 (ar 6 b3 (cq (Kkh _ _ b9) K74 (ai b3 (cq (Kkh _ _ c1) K74 (ar 2 b3 tv)))))))))))))
 clear a2
 refine ic h (fun c2 h => ?_) fun c2 h => ?_
 ·obtain rfl := os h
  exact rs0 hc 1 [(8,.bool false)] [] (rt (rq [true]))
 refine sk (sN (sN ?_))
 obtain ⟨c4,c5,h⟩ := Qdt h
 refine wi [40] [(78,.bool c4)] ?_ ?_
 ·replace h := c5
  obtain ⟨c6,c7,c8,c9,d0,d1,d2,d3,h⟩ := bq4 h
  obtain ⟨d4,d5,h⟩ := Qdt h
  rcases is h with ⟨d6,h⟩ | ⟨d6,h⟩
  ·obtain rfl := os h
   exact rj hc Kkn (nN 5 ([oc (I c6),oc (I c8)]++nN 4 ([oc (I d0),oN,oN,oN,oc (I d2),oc (I d4),oN,oN]++n_ 18 [oT]))) (cq (Kke _ _ c7) K72 (cq (Kkh _ _ c9) K74 (cq (Kkh _ _ d1) K74 (cq (Kkh _ _ d3) K74 (cq (Kke _ _ d5) K72 (ar 18 (neF d6) (ai d6 tv)))))))
  obtain ⟨d7,d8,d9,e0,e1,e2,e3,e4,h⟩ := bq4 h
  obtain ⟨e5,e6,h⟩ := Qdt h
  obtain rfl := os h
  exact rj hc Kkn (nN 5 ([oc (I c6),oc (I c8)]++nN 4 ([oc (I d0),oN,oN,oN,oc (I d2),oc (I d4)]++nN 6 ([oc (I d7),oN,oc (I d9)]++nN 4 [oc (I e1),oN,oN,oN,oc (I e3),oc (I e5),oN,oF])))) (cq (Kke _ _ c7) K72 (cq (Kkh _ _ c9) K74 (cq (Kkh _ _ d1) K74 (cq (Kkh _ _ d3) K74 (cq (Kke _ _ d5) K72 (ar 5 d6 (cq (Kke _ _ d8) K72 (ar 2 d6 (cq (Kkh _ _ e0) K74 (ar 5 d6 (cq (Kkh _ _ e2) K74 (ar 4 d6 (cq (Kkh _ _ e4) K74 (ai d6 (cq (Kke _ _ e6) K72 (ar 2 d6 tv))))))))))))))))
 clear c5
 refine ic h (fun e7 h => ?_) fun e7 h => ?_
 ·obtain rfl := os h
  exact rs0 hc 1 [(8,.bool false)] [] (rt (rq [true]))
 refine sk (sN (sN ?_))
 obtain ⟨e8,e9,h⟩ := Qdt h
 refine wi [78] [(95,.bool e8)] ?_ ?_
 ·replace h := e9
  obtain ⟨f0,f1,h⟩ := Qdt h
  rcases is h with ⟨f2,h⟩ | ⟨f2,h⟩
  ·obtain ⟨f3,f4,h⟩ := Qdt h
   rcases is h with ⟨f5,h⟩ | ⟨f5,h⟩
   ·obtain ⟨f6,f7,h⟩ := Qdt h
    obtain rfl := os h
    exact rj hc none ([oN,oN,oN,oc (.bool f0)]++nN 4 ([oc (.bool f3),oT]++nN 4 [oc (.bool f6),oN,oT])) (cq (Kkk _ _ f1) K75 (ar 4 f2 (cq (Kkk _ _ f4) K75 (ai f2 (ar 4 f5 (cq (Kkk _ _ f7) K75 (ar 2 f5 tv)))))))
   obtain rfl := os h
   exact rj hc none ([oN,oN,oN,oc (.bool f0)]++nN 4 ([oc (.bool f3),oT,oN]++n_ 5 [oF])) (cq (Kkk _ _ f1) K75 (ar 4 f2 (cq (Kkk _ _ f4) K75 (ai f2 (ar 5 (neT f5) (ai f5 tv))))))
  obtain rfl := os h
  exact rj hc none ([oN,oN,oN,oc (.bool f0),oN]++n_ 4 ([oF,oN]++n_ 5 [oF])) (cq (Kkk _ _ f1) K75 (ar 4 (neT f2) (ai f2 (ar 5 (neT fF) (ai fF tv)))))
 clear e9
 refine ic h (fun f8 h => ?_) fun f8 h => ?_
 ·obtain rfl := os h
  exact rs0 hc 1 [(8,.bool false)] [] (rt (rq [true]))
 refine sk (sN ?_)
 obtain ⟨f9,g0,h⟩ := Qdt h
 refine Wp.into (x := .normal) (mkS [(8,.bool f9)] []) ?_ ?_
 ·replace h := g0
  obtain ⟨g1,g2,h⟩ := Qdt h
  rcases is h with ⟨g3,h⟩ | ⟨g3,h⟩
  ·obtain ⟨g4,g5,g6,g7,g8,g9,h⟩ := bq3 h
   rcases is h with ⟨i0,h⟩ | ⟨i0,h⟩
   ·obtain ⟨i1,i2,i3,i4,i5,i6,h⟩ := bq3 h
    rcases is h with ⟨i7,h⟩ | ⟨i7,h⟩
    ·obtain ⟨i8,i9,j0,j8,j9,k0,h⟩ := bq3 h
     obtain rfl := os h
     exact rj hc Kko ([oN,oN,oN,oc (.bool g1)]++nN 6 ([oc (I g4),oN,oN,oN,oc (I g6),oc (.bool g8)]++nN 5 ([oc (I i1),oN,oN,oN,oc (I i3),oc (.bool i5),oT]++nN 5 [oc (I i8),oN,oN,oN,oc (I j0),oc (.bool j9),oT,oF,oN]))) (cq (Kkk _ _ g2) K75 (ar 5 (nF g3) (cq (Kke _ _ g5) K72 (ar 4 (nF g3) (cq (Kke _ _ g7) K72 (ai (nF g3) (cq (Kkk _ _ g9) K75 (ai (nF g3) (ar 5 i0 (cq (Kkh _ _ i2) K74 (ar 4 i0 (cq (Kkh _ _ i4) K74 (ai i0 (cq (Kkk _ _ i6) K75 (ac (nF g3) i0 (nF g3) (ar 5 i7 (cq (Kkh _ _ i9) K74 (ar 4 i7 (cq (Kkh _ _ j8) K74 (ai i7 (cq (Kkk _ _ k0) K75 (ac (nF g3) i7 (nF g3) tv))))))))))))))))))))))
    obtain rfl := os h
    exact rj hc Kko ([oN,oN,oN,oc (.bool g1)]++nN 6 ([oc (I g4),oN,oN,oN,oc (I g6),oc (.bool g8)]++nN 5 ([oc (I i1),oN,oN,oN,oc (I i3),oc (.bool i5),oT,oN]++n_ 10 [oF,oF,oN]))) (cq (Kkk _ _ g2) K75 (ar 5 (nF g3) (cq (Kke _ _ g5) K72 (ar 4 (nF g3) (cq (Kke _ _ g7) K72 (ai (nF g3) (cq (Kkk _ _ g9) K75 (ai (nF g3) (ar 5 i0 (cq (Kkh _ _ i2) K74 (ar 4 i0 (cq (Kkh _ _ i4) K74 (ai i0 (cq (Kkk _ _ i6) K75 (ac (nF g3) i0 (nF g3) (ar 10 (neT i7) (ac (nF g3) i7 (nF g3) tv)))))))))))))))))
   obtain rfl := os h
   exact rj hc Kko ([oN,oN,oN,oc (.bool g1)]++nN 6 ([oc (I g4),oN,oN,oN,oc (I g6),oc (.bool g8),oN]++n_ 10 ([oF,oN]++n_ 10 [oF,oF,oN]))) (cq (Kkk _ _ g2) K75 (ar 5 (nF g3) (cq (Kke _ _ g5) K72 (ar 4 (nF g3) (cq (Kke _ _ g7) K72 (ai (nF g3) (cq (Kkk _ _ g9) K75 (ai (nF g3) (ar 10 (neT i0) (ac (nF g3) i0 (nF g3) (ar 10 (neT fF) (ac (nF g3) fF (nF g3) tv))))))))))))
  obtain rfl := os h
  exact rj hc Kko ([oN,oN,oN,oc (.bool g1),oN,oN]++n_ 34 [oT,oN]) (cq (Kkk _ _ g2) K75 (ar 14 (neF (nT g3)) (ai (nT g3) tv)))
 clear g0
 obtain rfl := os h
 exact rt (rq [true])
def Kl4 (c : Ctx) (s0 : K00) : (Unit) ⊕ (Bool) → Exit → Q0a → Prop
 | .inl _ => Qdf c (.exit 0) (mkS [(1,.ra 1 0),(3,I s0.fSize)] [(1,K1v s0)])
 | .inr r => Qdo TIx Tryz.f79 [] (.bool r)
def Kl5 (p : K00 × Int) : Option ((Unit) ⊕ (Bool)) :=
 match p with
 | (s0,a0) =>
  if (decide (a0 < (s0.fPlus.length : Int))) = true then
  ((
  (idx s0.fPlus a0) >>= fun a1 =>
  (Kk9 (s0,a1)) >>= fun a2 =>
  if a2 = true then
  (idx s0.fTimes a0) >>= fun a3 =>
  (Kk9 (s0,a3)) >>= fun a4 =>
  some ((!a4))
  else
  some (true)
  ) : Option (Bool)) >>= fun a5 =>
  if a5 = true then
  some (.inr false)
  else
  Kl5 (s0,(wr (a0 + 1)))
  else
  some (.inl ())
 partial_fixpoint
def Kl6 (p : K00 × Int) (fl : (Unit) ⊕ (Bool)) : Prop :=
 match p with
 | (s0,a0) => ∀ c : Ctx,c.nt = 157 → WpL Tryz.prog c (cl (cl (cr (cl (cr (cr (cr B79))))))) (Kl4 c s0 fl) (mkS [(1,.ra 1 0),(3,I s0.fSize),(42,I (s0.fPlus.length : Int)),(43,I a0)] [(1,K1v s0)])
theorem Kl7 : ∀ p r,Kl5 p = some r → Kl6 p r := by
 refine Kl5.partial_correctness Kl6 ?_
 rintro impl_IsSystem_l0_f impl_IsSystem_l0_ih ⟨s0,a0⟩ r h
 intro c hc
 refine WpL.step (K9o hc 1 [] [(44,.bool (decide (a0 < (s0.fPlus.length : Int))))] (sN (ic h (fun a1 h => ?_) fun a1 h => ?_)))
 ·refine sk (sN (bk 1 (K9o hc 2 [44] [(4,I a0)] (sN ?_))))
  obtain ⟨a2,a3,h⟩ := Qdt h
  refine wi [4] [(63,.bool a2)] ?_ ?_
  ·replace h := a3
   obtain ⟨a4,a5,a6,a7,h⟩ := bq2 h
   rcases is h with ⟨a8,h⟩ | ⟨a8,h⟩
   ·obtain ⟨a9,b1,b2,b3,h⟩ := bq2 h
    obtain rfl := os h
    exact rj hc Kkp (nN 4 ([eL (I a4),oN,oc (.bool a6)]++nN 6 [eL (I a9),oN,oc (.bool b2),oN,oF])) (ai (ix a5) (cq (Kkb _ _ a7) K70 (ar 5 (nF a8) (ai (ix b1) (ar 2 (nF a8) (cq (Kkb _ _ b3) K70 (ar 2 (nF a8) tv)))))))
   obtain rfl := os h
   exact rj hc Kkp (nN 4 ([eL (I a4),oN,oc (.bool a6),oN,oN]++n_ 8 [oT])) (ai (ix a5) (cq (Kkb _ _ a7) K70 (ar 8 (neF (nT a8)) (ai (nT a8) tv))))
  clear a3
  refine ic h (fun b4 h => ?_) fun b4 h => ?_
  ·obtain rfl := os h
   exact rs0 hc 1 [(2,.bool false)] [] (rt (re [true]))
  exact sk (ri0 hc 2 (Qdb (impl_IsSystem_l0_ih _ _ h c hc)))
 obtain rfl := os h
 exact xt 0 (Qd5 (Qdc (iv [])))
def Kl8 (c : Ctx) (s0 : K00) (a0 : Int) (a1 : Int) : (Unit) ⊕ (Bool) → Exit → Q0a → Prop
 | .inl _ => Qdf c (.exit 6) (mkS [(1,.ra 1 0),(3,I s0.fSize),(5,I a0),(6,I a1)] [(1,K1v s0)])
 | .inr r => Qdo TIx Tryz.f79 [] (.bool r)
def Kl9 (p : K00 × Int × Int × Int) : Option ((Unit) ⊕ (Bool)) :=
 match p with
 | (s0,a0,a1,a2) =>
  if (decide (a2 < s0.fSize)) = true then
  (Kl1 (s0,a0,a1,a2)) >>= fun a3 =>
  if a3 = true then
  Kl9 (s0,a0,a1,(wr (a2 + 1)))
  else
  some (.inr false)
  else
  some (.inl ())
 partial_fixpoint
def Kla (p : K00 × Int × Int × Int) (fl : (Unit) ⊕ (Bool)) : Prop :=
 match p with
 | (s0,a0,a1,a2) => ∀ c : Ctx,c.nt = 157 → WpL Tryz.prog c (cl (cl (cr (cr (cl (cl (cr (cl (cl (cr (cr (cl (cl (cr (cl (cl (cr (cl (cr (cr (cr (cr B79)))))))))))))))))))))) (Kl8 c s0 a0 a1 fl) (mkS [(1,.ra 1 0),(3,I s0.fSize),(5,I a0),(6,I a1),(7,I a2)] [(1,K1v s0)])
theorem Klb : ∀ p r,Kl9 p = some r → Kla p r := by
 refine Kl9.partial_correctness Kla ?_
 rintro impl_IsSystem_l1_f impl_IsSystem_l1_ih ⟨s0,a0,a1,a2⟩ r h
 intro c hc
 refine WpL.step (sN (K9o hc 3 [] [(148,.bool (decide (a2 < s0.fSize)))] (ic h (fun a3 h => ?_) fun a3 h => ?_)))
 ·refine sk (sN (bk 7 ?_))
  obtain ⟨a4,a5,h⟩ := Qdt h
  refine K9n hc none (nN 4 [oc (.bool a4),oN]) [148] [(156,.bool (!a4))] (cq (Kl3 _ _ a5) K79 tv) ?_
  rcases is h with ⟨a6,h⟩ | ⟨a6,h⟩
  ·exact cF (!a4) (nF a6) (sk (ri0 hc 3 (Qdb (impl_IsSystem_l1_ih _ _ h c hc))))
  refine cT (!a4) (nT a6) ?_
  obtain rfl := os h
  exact rs0 hc 1 [(2,.bool false)] [] (rt (re [true]))
 obtain rfl := os h
 exact xt 6 (Qd5 (Qdc (iv [])))
def Klc (c : Ctx) (s0 : K00) (a0 : Int) : (Unit) ⊕ (Bool) → Exit → Q0a → Prop
 | .inl _ => Qdf c (.exit 4) (mkS [(1,.ra 1 0),(3,I s0.fSize),(5,I a0)] [(1,K1v s0)])
 | .inr r => Qdo TIx Tryz.f79 [] (.bool r)
def Kld : Option (List (List Nat)) := rh [0,0,0,3,0,0,0,7,8,9,10,10,12,13,14,14,14,17,18,19,20,20,20,23,24,25,26,27,27,27,30,31,32]
def Kle (p : K00 × Int × Int) : Option ((Unit) ⊕ (Bool)) :=
 match p with
 | (s0,a0,a1) =>
  if (decide (a1 < s0.fSize)) = true then
  ((
  (Kkc (s0,a0,a1)) >>= fun a2 =>
  (Kkc (s0,a1,a0)) >>= fun a3 =>
  if (a2 != a3) = true then
   some (true)
  else
   if (a0 != a1) = true then
   (Kki (s0,a0,a1)) >>= fun a4 =>
   if a4 = true then
   (Kki (s0,a1,a0)) >>= fun a5 =>
   if a5 = true then
   some (true)
   else
   (Kky (s0,a0,a1)) >>= fun a6 =>
   some ((decide (a6 < 0)))
   else
   (Kky (s0,a0,a1)) >>= fun a6 =>
   some ((decide (a6 < 0)))
   else
   (Kky (s0,a0,a1)) >>= fun a6 =>
   some ((decide (a6 < 0)))
  ) : Option (Bool)) >>= fun a7 =>
  if a7 = true then
  some (.inr false)
  else
  (Kl9 (s0,a0,a1,0)) >>= fun fl => match fl with
  | .inl () =>
   Kle (s0,a0,(wr (a1 + 1)))
  | .inr r =>
   some (.inr r)
  else
  some (.inl ())
 partial_fixpoint
def Klf (p : K00 × Int × Int) (fl : (Unit) ⊕ (Bool)) : Prop :=
 match p with
 | (s0,a0,a1) => ∀ c : Ctx,c.nt = 157 → WpL Tryz.prog c (cl (cl (cr (cr (cl (cl (cr (cl (cl (cr (cl (cr (cr (cr (cr B79))))))))))))))) (Klc c s0 a0 fl) (mkS [(1,.ra 1 0),(3,I s0.fSize),(5,I a0),(6,I a1)] [(1,K1v s0)])
theorem Klg : ∀ p r,Kle p = some r → Klf p r := by
 refine Kle.partial_correctness Klf ?_
 rintro impl_IsSystem_l2_f impl_IsSystem_l2_ih ⟨s0,a0,a1⟩ r h
 intro c hc
 refine WpL.step (sN (K9o hc 3 [] [(110,.bool (decide (a1 < s0.fSize)))] (ic h (fun a2 h => ?_) fun a2 h => ?_)))
 ·refine sk (sN (bk 5 (sN (sN ?_))))
  obtain ⟨a3,a4,h⟩ := Qdt h
  refine wi [110] [(145,.bool a3)] ?_ ?_
  ·replace h := a4
   obtain ⟨a5,a6,a7,a8,h⟩ := bq2 h
   rcases is h with ⟨a9,h⟩ | ⟨a9,h⟩
   ·obtain rfl := os h
    exact rj hc Kld ([oN,oN,oN,oc (I a5),oN,oN,oN,oc (I a7),oN,oN]++n_ 15 ([oT,oN]++n_ 5 [oT])) (cq (Kke _ _ a6) K72 (cq (Kke _ _ a8) K72 (ar 7 (neF a9) (ai a9 (ar 5 nf (ai tt tv))))))
   rcases is h with ⟨b1,h⟩ | ⟨b1,h⟩
   ·obtain ⟨b2,b3,h⟩ := Qdt h
    rcases is h with ⟨b4,h⟩ | ⟨b4,h⟩
    ·obtain ⟨b5,b6,h⟩ := Qdt h
     rcases is h with ⟨b7,h⟩ | ⟨b7,h⟩
     ·obtain rfl := os h
      exact rj hc Kld ([oN,oN,oN,oc (I a5),oN,oN,oN,oc (I a7)]++nN 9 ([oc (.bool b2),oT]++nN 4 ([oc (.bool b5),oT,oF,oN]++n_ 5 [oT]))) (cq (Kke _ _ a6) K72 (cq (Kke _ _ a8) K72 (ar 4 a9 (ar 4 b1 (cq (Kkk _ _ b3) K75 (ac a9 b1 a9 (ar 4 b4 (cq (Kkk _ _ b6) K75 (ac a9 b4 a9 (ar 5 (neF b7) (ai b7 tv)))))))))))
     obtain ⟨b8,b9,h⟩ := Qdt h
     obtain rfl := os h
     exact rj hc Kld ([oN,oN,oN,oc (I a5),oN,oN,oN,oc (I a7)]++nN 9 ([oc (.bool b2),oT]++nN 4 ([oc (.bool b5),oT,oF]++nN 4 [oc (I b8),oN,oF]))) (cq (Kke _ _ a6) K72 (cq (Kke _ _ a8) K72 (ar 4 a9 (ar 4 b1 (cq (Kkk _ _ b3) K75 (ac a9 b1 a9 (ar 4 b4 (cq (Kkk _ _ b6) K75 (ac a9 b4 a9 (ar 4 b7 (cq (Kl0 _ _ b9) K77 (ar 2 b7 tv))))))))))))
    obtain ⟨b8,b9,h⟩ := Qdt h
    obtain rfl := os h
    exact rj hc Kld ([oN,oN,oN,oc (I a5),oN,oN,oN,oc (I a7)]++nN 9 ([oc (.bool b2),oT,oN]++n_ 4 ([oF,oF]++nN 4 [oc (I b8),oN,oF]))) (cq (Kke _ _ a6) K72 (cq (Kke _ _ a8) K72 (ar 4 a9 (ar 4 b1 (cq (Kkk _ _ b3) K75 (ac a9 b1 a9 (ar 4 (neT b4) (ac a9 b4 a9 (ar 4 fF (cq (Kl0 _ _ b9) K77 (ar 2 fF tv)))))))))))
   obtain ⟨b8,b9,h⟩ := Qdt h
   obtain rfl := os h
   exact rj hc Kld ([oN,oN,oN,oc (I a5),oN,oN,oN,oc (I a7)]++nN 6 (n_ 4 ([oF,oN]++n_ 4 ([oF,oF]++nN 4 [oc (I b8),oN,oF])))) (cq (Kke _ _ a6) K72 (cq (Kke _ _ a8) K72 (ar 4 a9 (ar 4 (neT b1) (ac a9 b1 a9 (ar 4 (neT fF) (ac a9 fF a9 (ar 4 fF (cq (Kl0 _ _ b9) K77 (ar 2 fF tv))))))))))
  clear a4
  refine ic h (fun c0 h => ?_) fun c0 h => ?_
  ·obtain rfl := os h
   exact rs0 hc 1 [(2,.bool false)] [] (rt (re [true]))
  refine sk (K9l hc 1 [(1,.ra 1 0),(3,I s0.fSize),(5,I a0),(6,I a1),(7,I 0)] (bk 6 ?_))
  obtain ⟨fl,c1,h⟩ := Qdt h
  have hL := Klb _ _ c1 c hc
  refine lp ?_
  rcases fl with ⟨⟩ | r
  ·exact wl hL (Qd7 (ri0 hc 3 (Qdb (impl_IsSystem_l2_ih _ _ h c hc))))
  refine WpL.mono hL ?_
  rintro _ _ ⟨rfl,hfin⟩
  obtain rfl := os h
  exact ⟨rfl,hfin⟩
 obtain rfl := os h
 exact xt 4 (Qd5 (Qdc (iv [])))
def Klh (c : Ctx) : (Unit) ⊕ (Bool) → Exit → Q0a → Prop
 | .inl _ => Qdf c (.exit 2) (mkS [] [])
 | .inr r => Qdo TIx Tryz.f79 [] (.bool r)
def Kli (p : K00 × Int) : Option ((Unit) ⊕ (Bool)) :=
 match p with
 | (s0,a0) =>
  if (decide (a0 < s0.fSize)) = true then
  ((
  (Kkc (s0,0,a0)) >>= fun a1 =>
  if (a1 != a0) = true then
   some (true)
  else
   (Kkf (s0,1,a0)) >>= fun a2 =>
   if (a2 != a0) = true then
   some (true)
   else
   (Kkf (s0,a0,1)) >>= fun a3 =>
   if (a3 != a0) = true then
   some (true)
   else
   (Kkf (s0,0,a0)) >>= fun a4 =>
   if (a4 != 0) = true then
   some (true)
   else
   (Kkf (s0,a0,0)) >>= fun a5 =>
   if (a5 != 0) = true then
   some (true)
   else
   (Kki (s0,a0,a0)) >>= fun a6 =>
   some ((!a6))
  ) : Option (Bool)) >>= fun a7 =>
  if a7 = true then
  some (.inr false)
  else
  (Kle (s0,a0,0)) >>= fun fl => match fl with
  | .inl () =>
   Kli (s0,(wr (a0 + 1)))
  | .inr r =>
   some (.inr r)
  else
  some (.inl ())
 partial_fixpoint
def Klj (p : K00 × Int) (fl : (Unit) ⊕ (Bool)) : Prop :=
 match p with
 | (s0,a0) => ∀ c : Ctx,c.nt = 157 → WpL Tryz.prog c (cl (cl (cr (cl (cr (cr (cr (cr B79)))))))) (Klh c fl) (mkS [(1,.ra 1 0),(3,I s0.fSize),(5,I a0)] [(1,K1v s0)])
theorem Klk : ∀ p r,Kli p = some r → Klj p r := by
 refine Kli.partial_correctness Klj ?_
 rintro impl_IsSystem_l3_f impl_IsSystem_l3_ih ⟨s0,a0⟩ r h
 intro c hc
 refine WpL.step (sN (K9o hc 3 [] [(67,.bool (decide (a0 < s0.fSize)))] (ic h (fun a1 h => ?_) fun a1 h => ?_)))
 ·refine sk (sN (bk 3 (sN (sN ?_))))
  obtain ⟨a2,a3,h⟩ := Qdt h
  refine wi [67] [(107,.bool a2)] ?_ ?_
  ·replace h := a3
   obtain ⟨a4,a5,h⟩ := Qdt h
   rcases is h with ⟨a6,h⟩ | ⟨a6,h⟩
   ·obtain rfl := os h
    exact rj hc none ([oN,oN,oc (I a4),oN,oN,oN]++n_ 5 ([oT,oN]++n_ 5 ([oT,oN]++n_ 4 ([oT,oN]++n_ 4 ([oT,oN]++n_ 5 [oT]))))) (cq (Kke _ _ a5) K72 (ar 5 (neF a6) (ai a6 (ar 5 nf (ai tt (ar 4 nf (ai tt (ar 4 nf (ai tt (ar 5 nf (ai tt tv)))))))))))
   obtain ⟨a7,a8,h⟩ := Qdt h
   rcases is h with ⟨a9,h⟩ | ⟨a9,h⟩
   ·obtain rfl := os h
    exact rj hc none ([oN,oN,oc (I a4)]++nN 5 ([oc (I a7),oN,oN,oF,oN]++n_ 5 ([oT,oN]++n_ 4 ([oT,oN]++n_ 4 ([oT,oN]++n_ 5 [oT]))))) (cq (Kke _ _ a5) K72 (ar 3 a6 (cq (Kkh _ _ a8) K74 (ar 3 a6 (ar 5 (neF a9) (ai a9 (ar 4 nf (ai tt (ar 4 nf (ai tt (ar 5 nf (ai tt tv))))))))))))
   obtain ⟨b1,b2,h⟩ := Qdt h
   rcases is h with ⟨b3,h⟩ | ⟨b3,h⟩
   ·obtain rfl := os h
    exact rj hc none ([oN,oN,oc (I a4)]++nN 5 ([oc (I a7),oN,oN,oF,oN,oN,oN,oc (I b1),oN,oN,oF,oN]++n_ 4 ([oT,oN]++n_ 4 ([oT,oN]++n_ 5 [oT])))) (cq (Kke _ _ a5) K72 (ar 3 a6 (cq (Kkh _ _ a8) K74 (ar 3 a6 (ar 3 a9 (cq (Kkh _ _ b2) K74 (ar 3 a9 (ar 4 (neF b3) (ai b3 (ar 4 nf (ai tt (ar 5 nf (ai tt tv)))))))))))))
   obtain ⟨b4,b5,h⟩ := Qdt h
   rcases is h with ⟨b6,h⟩ | ⟨b6,h⟩
   ·obtain rfl := os h
    exact rj hc none ([oN,oN,oc (I a4)]++nN 5 ([oc (I a7),oN,oN,oF,oN,oN,oN,oc (I b1),oN,oN,oF,oN,oN,oN,oc (I b4),oN,oF,oN]++n_ 4 ([oT,oN]++n_ 5 [oT]))) (cq (Kke _ _ a5) K72 (ar 3 a6 (cq (Kkh _ _ a8) K74 (ar 3 a6 (ar 3 a9 (cq (Kkh _ _ b2) K74 (ar 3 a9 (ar 3 b3 (cq (Kkh _ _ b5) K74 (ar 2 b3 (ar 4 (neF b6) (ai b6 (ar 5 nf (ai tt tv))))))))))))))
   obtain ⟨b7,b8,h⟩ := Qdt h
   rcases is h with ⟨b9,h⟩ | ⟨b9,h⟩
   ·obtain rfl := os h
    exact rj hc none ([oN,oN,oc (I a4)]++nN 5 ([oc (I a7),oN,oN,oF,oN,oN,oN,oc (I b1),oN,oN,oF,oN,oN,oN,oc (I b4),oN,oF,oN,oN,oN,oc (I b7),oN,oF,oN]++n_ 5 [oT])) (cq (Kke _ _ a5) K72 (ar 3 a6 (cq (Kkh _ _ a8) K74 (ar 3 a6 (ar 3 a9 (cq (Kkh _ _ b2) K74 (ar 3 a9 (ar 3 b3 (cq (Kkh _ _ b5) K74 (ar 2 b3 (ar 3 b6 (cq (Kkh _ _ b8) K74 (ar 2 b6 (ar 5 (neF b9) (ai b9 tv)))))))))))))))
   obtain ⟨c0,c1,h⟩ := Qdt h
   obtain rfl := os h
   exact rj hc none ([oN,oN,oc (I a4)]++nN 5 ([oc (I a7),oN,oN,oF,oN,oN,oN,oc (I b1),oN,oN,oF,oN,oN,oN,oc (I b4),oN,oF,oN,oN,oN,oc (I b7),oN,oF]++nN 4 [oc (.bool c0),oN,oF])) (cq (Kke _ _ a5) K72 (ar 3 a6 (cq (Kkh _ _ a8) K74 (ar 3 a6 (ar 3 a9 (cq (Kkh _ _ b2) K74 (ar 3 a9 (ar 3 b3 (cq (Kkh _ _ b5) K74 (ar 2 b3 (ar 3 b6 (cq (Kkh _ _ b8) K74 (ar 2 b6 (ar 4 b9 (cq (Kkk _ _ c1) K75 (ar 2 b9 tv))))))))))))))))
  clear a3
  refine ic h (fun c2 h => ?_) fun c2 h => ?_
  ·obtain rfl := os h
   exact rs0 hc 1 [(2,.bool false)] [] (rt (re [true]))
  refine sk (K9l hc 1 [(1,.ra 1 0),(3,I s0.fSize),(5,I a0),(6,I 0)] (bk 4 ?_))
  obtain ⟨fl,c3,h⟩ := Qdt h
  have hL := Klg _ _ c3 c hc
  refine lp ?_
  rcases fl with ⟨⟩ | r
  ·exact wl hL (Qd7 (ri0 hc 3 (Qdb (impl_IsSystem_l3_ih _ _ h c hc))))
  refine WpL.mono hL ?_
  rintro _ _ ⟨rfl,hfin⟩
  obtain rfl := os h
  exact ⟨rfl,hfin⟩
 obtain rfl := os h
 exact xt 2 (Qd5 (Qdc (iv [])))
def Kll (s0 : K00) : Option (Bool) :=
 ((
 (Kk6 (s0.fSize,2,16)) >>= fun a0 =>
 if a0 = true then
  if ((s0.fPlus.length : Int) != (wr (s0.fSize * s0.fSize))) = true then
   some (true)
  else
   if ((s0.fTimes.length : Int) != (wr (s0.fSize * s0.fSize))) = true then
   some (true)
   else
   some (((s0.fBelow.length : Int) != (wr (s0.fSize * s0.fSize))))
 else
  some (true)
 ) : Option (Bool)) >>= fun a1 =>
 if a1 = true then
 some false
 else
 (Kl5 (s0,0)) >>= fun fl => match fl with
 | .inl () =>
  (Kli (s0,0)) >>= fun fl => match fl with
  | .inl () =>
   some true
  | .inr r =>
   some r
 | .inr r =>
  some r
def Klm (s0 : K00) (r : Bool) : Prop :=
 Q75 Tryz.prog 79 [K1w s0] (.bool r) []
theorem Kln : ∀ p r,Kll p = some r → Klm p r := by
 rintro s0 r h
 unfold Kll at h
 refine b0 Tryz.f79 B79 157 [(0,K1w s0)] fun c hc => (rs hc none [nW 1,oN] [(1,.ra 1 0)] [(1,K1v s0)] tv (K9o hc 3 [] [(3,I s0.fSize)] (sN (sN ?_))))
 obtain ⟨a0,a1,h⟩ := Qdt h
 refine wi [] [(39,.bool a0)] ?_ ?_
 ·replace h := a1
  obtain ⟨a2,a3,h⟩ := Qdt h
  rcases is h with ⟨a4,h⟩ | ⟨a4,h⟩
  ·rcases is h with ⟨a5,h⟩ | ⟨a5,h⟩
   ·obtain rfl := os h
    exact rj hc none ([oN,oc (.bool a2)]++nN 4 ([nQ ⟨[(16,I (s0.fPlus.length : Int))],[],[]⟩]++nN 4 ([oF,oN]++n_ 7 ([oT,oN]++n_ 7 [oT])))) (cq (Kk8 _ _ a3) K6y (ar 3 (nF a4) (ai (Qdz (d := 16) I s0.fPlus) (ar 5 (nF a4) (ar 7 (neF a5) (ai a5 (ar 7 nf (ai tt tv))))))))
   rcases is h with ⟨a6,h⟩ | ⟨a6,h⟩
   ·obtain rfl := os h
    exact rj hc none ([oN,oc (.bool a2)]++nN 4 ([nQ ⟨[(16,I (s0.fPlus.length : Int))],[],[]⟩]++nN 4 ([oF,oN,oN,oN,nQ ⟨[(25,I (s0.fTimes.length : Int))],[],[]⟩]++nN 4 ([oF,oN]++n_ 7 [oT])))) (cq (Kk8 _ _ a3) K6y (ar 3 (nF a4) (ai (Qdz (d := 16) I s0.fPlus) (ar 5 (nF a4) (ar 3 a5 (ai (Qdz (d := 25) I s0.fTimes) (ar 5 a5 (ar 7 (neF a6) (ai a6 tv)))))))))
   obtain rfl := os h
   exact rj hc none ([oN,oc (.bool a2)]++nN 4 ([nQ ⟨[(16,I (s0.fPlus.length : Int))],[],[]⟩]++nN 4 ([oF,oN,oN,oN,nQ ⟨[(25,I (s0.fTimes.length : Int))],[],[]⟩]++nN 4 ([oF,oN,oN,oN,nQ ⟨[(34,I (s0.fBelow.length : Int))],[],[]⟩]++nN 4 [oF])))) (cq (Kk8 _ _ a3) K6y (ar 3 (nF a4) (ai (Qdz (d := 16) I s0.fPlus) (ar 5 (nF a4) (ar 3 a5 (ai (Qdz (d := 25) I s0.fTimes) (ar 5 a5 (ar 3 a6 (ai (Qdz (d := 34) AV.bool s0.fBelow) (ar 5 a6 tv))))))))))
  obtain rfl := os h
  exact rj hc none ([oN,oc (.bool a2),oN,oN]++n_ 7 ([oT,oN]++n_ 7 ([oT,oN]++n_ 7 [oT]))) (cq (Kk8 _ _ a3) K6y (ar 7 (neF (nT a4)) (ai (nT a4) (ar 7 nf (ai tt (ar 7 nf (ai tt tv)))))))
 clear a1
 refine ic h (fun a7 h => ?_) fun a7 h => ?_
 ·obtain rfl := os h
  exact rs0 hc 1 [(2,.bool false)] [] (rt (rq [true]))
 refine sk (sN (rss hc none [oN,oN,nQ ⟨[(42,I (s0.fPlus.length : Int))],[],[]⟩,oN] [(1,.ra 1 0),(3,I s0.fSize),(42,I (s0.fPlus.length : Int)),(43,I 0)] (ai (Qdz (d := 42) I s0.fPlus) tv) (bk 0 ?_)))
 obtain ⟨fl,a8,h⟩ := Qdt h
 have hL := Kl7 _ _ a8 c hc
 refine lp ?_
 rcases fl with ⟨⟩ | r
 ·refine wl hL (Qd7 (sN (K9l hc 1 [(1,.ra 1 0),(3,I s0.fSize),(5,I 0)] (bk 2 ?_))))
  obtain ⟨fl,a9,h⟩ := Qdt h
  have hL := Klk _ _ a9 c hc
  refine lp ?_
  rcases fl with ⟨⟩ | r
  ·refine wl hL ?_
   obtain rfl := os h
   exact Qd7 (rs0 hc 1 [(2,.bool true)] [] (rt (rq [true])))
  refine WpL.mono hL ?_
  rintro _ _ ⟨rfl,hfin⟩
  obtain rfl := os h
  exact ⟨.inl rfl,hfin⟩
 refine WpL.mono hL ?_
 rintro _ _ ⟨rfl,hfin⟩
 obtain rfl := os h
 exact ⟨.inl rfl,hfin⟩
def Klo (code0 : Int) : Option (Int × Int) :=
 (Kk6 (code0,0,2)) >>= fun a0 =>
 if a0 = true then
 some (code0,(-1))
 else
 (Kk6 (code0,3,18)) >>= fun a1 =>
 if a1 = true then
 some (3,(wr (code0 - 3)))
 else
 (Kk6 (code0,19,34)) >>= fun a2 =>
 if a2 = true then
 some (4,(wr (code0 - 19)))
 else
 if (code0 == 35) = true then
 some (3,(-1))
 else
 if (code0 == 36) = true then
 some (4,(-1))
 else
 some (5,(-1))
def Klp (code0 : Int) (r : Int × Int) : Prop :=
 Q75 Tryz.prog 157 [I code0] (.tup [I r.1,I r.2]) []
theorem Klq : ∀ p r,Klo p = some r → Klp p r := by
 rintro code0 r h
 unfold Klo at h
 refine b0 Tryz.f157 K7b 24 [(0,I code0)] fun c hc => (K9m hc 2 [] [] [] (sN (bk 0 ?_)))
 obtain ⟨a0,a1,h⟩ := Qdt h
 refine rsd hc none [oN,oc (.bool a0),oN] [] [(4,.bool a0)] [] (cq (Kk8 _ _ a1) K6y tv) (ic h (fun a2 h => ?_) fun a2 h => ?_)
 ·obtain rfl := os h
  exact rs0 hc 3 [(2,I code0),(3,I (-1))] [] (rt (rq [true,true]))
 obtain ⟨a3,a4,h⟩ := Qdt h
 refine rsd hc none [oN,oc (.bool a3),oN] [4] [(8,.bool a3)] [] (cq (Kk8 _ _ a4) K6y tv) (ic h (fun a5 h => ?_) fun a5 h => ?_)
 ·obtain rfl := os h
  exact rs0 hc 4 [(2,I 3),(3,I (wr (code0 - 3)))] [] (rt (rq [true,true]))
 obtain ⟨a6,a7,h⟩ := Qdt h
 refine rsd hc none [oN,oc (.bool a6),oN] [8] [(13,.bool a6)] [] (cq (Kk8 _ _ a7) K6y tv) (ic h (fun a8 h => ?_) fun a8 h => ?_)
 ·obtain rfl := os h
  exact rs0 hc 4 [(2,I 4),(3,I (wr (code0 - 19)))] [] (rt (rq [true,true]))
 refine K9m hc 3 [13] [(18,.bool (code0 == 35))] [] (ic h (fun a9 h => ?_) fun a9 h => ?_)
 ·obtain rfl := os h
  exact rs0 hc 2 [(2,I 3),(3,I (-1))] [] (rt (rq [true,true]))
 refine rs0 hc 3 [(21,.bool (code0 == 36))] [] (ic h (fun b1 h => ?_) fun b1 h => ?_)
 ·obtain rfl := os h
  exact rs0 hc 2 [(2,I 4),(3,I (-1))] [] (rt (rq [true,true]))
 obtain rfl := os h
 exact sk (rs0 hc 2 [(2,I 5),(3,I (-1))] [] (rt (rq [true,true])))
def Klr (p : (List Int) × Int) : Option (Int) :=
 match p with
 | (ty0,at1) =>
  ((
  if (decide (at1 < 0)) = true then
  some (true)
  else
  some ((decide (at1 ≥ (ty0.length : Int))))
  ) : Option (Bool)) >>= fun a0 =>
  if a0 = true then
  some (-1)
  else
  (idx ty0 at1) >>= fun a1 =>
  (Klo a1) >>= fun (a2,a3) =>
  if (a2 == 0) = true then
  some (wr (at1 + 1))
  else
  if (a2 == 4) = true then
  (Klr (ty0,(wr (at1 + 1)))) >>= fun a4 =>
  some a4
  else
  if (a2 == 5) = true then
  some (-1)
  else
  (Klr (ty0,(wr (at1 + 1)))) >>= fun a5 =>
  (Klr (ty0,a5)) >>= fun a6 =>
  some a6
 partial_fixpoint
def Kls (p : (List Int) × Int) (r : Int) : Prop :=
 match p with
 | (ty0,at1) => Q75 Tryz.prog 213 [sI ty0,I at1] (I r) []
theorem Klt : ∀ p r,Klr p = some r → Kls p r := by
 refine Klr.partial_correctness Kls ?_
 rintro impl_typeEnd_f impl_typeEnd_ih ⟨ty0,at1⟩ r h
 refine b0 Tryz.f213 K7d 42 [(0,sI ty0),(1,I at1)] fun c hc => (K9m hc 1 [] [] [] (sN (sN ?_)))
 obtain ⟨a0,a1,h⟩ := Qdt h
 refine wi [] [(14,.bool a0)] ?_ ?_
 ·replace h := a1
  rcases is h with ⟨a2,h⟩ | ⟨a2,h⟩
  ·obtain rfl := os h
   exact rj hc none ([oN,oN,oN]++n_ 4 [oT]) (ar 4 (neF a2) (ai a2 tv))
  obtain rfl := os h
  exact rj hc none (nN 5 [nQ ⟨[(12,I (ty0.length : Int))],[],[]⟩,oN,oF]) (ar 3 a2 (ai (Qdz (d := 12) I ty0) (ar 2 a2 tv)))
 clear a1
 refine ic h (fun a3 h => ?_) fun a3 h => ?_
 ·obtain rfl := os h
  exact rs0 hc 1 [(4,I (-1))] [] (rt (rq [true]))
 refine sk ?_
 obtain ⟨a4,a5,⟨a6,a7⟩,a8,h⟩ := bq2 h
 refine rsd hc none ([oN,oN,eL (I a4),oN,oc (.tup [I a6,I a7])]++nN 5 []) [14] [(5,I a6)] [] (ai (ix a5) (cq (Klq _ _ a8) K7c tv)) (sN (K9m hc 1 [5] [(23,I a6)] [] (bk 0 (K9m hc 2 [] [(24,.bool (a6 == 0))] [] (ic h (fun a9 h => ?_) fun a9 h => ?_)))))
 ·obtain rfl := os h
  exact rs0 hc 3 [(4,I (wr (at1 + 1)))] [] (rt (rq [true]))
 refine rs0 hc 2 [(0,sI ty0),(1,I at1),(23,I a6),(28,.bool (a6 == 4))] [] (ic h (fun b1 h => ?_) fun b1 h => ?_)
 ·obtain ⟨b2,b3,h⟩ := Qdt h
  obtain rfl := os h
  exact rs hc none [oN,oN,oN,oc (I b2),oN] [(4,I b2)] [] (cq (impl_typeEnd_ih _ _ b3) K7e tv) (rt (rq [true]))
 refine K9m hc 2 [23,28] [(34,.bool (a6 == 5))] [] (ic h (fun b4 h => ?_) fun b4 h => ?_)
 ·obtain rfl := os h
  exact rs0 hc 1 [(4,I (-1))] [] (rt (rq [true]))
 refine sk ?_
 obtain ⟨b5,b6,b7,b8,h⟩ := bq2 h
 obtain rfl := os h
 exact rs hc none (nN 4 [oc (I b5),oc (I b7),oN]) [(4,I b7)] [] (cq (impl_typeEnd_ih _ _ b6) K7e (cq (impl_typeEnd_ih _ _ b8) K7e tv)) (rt (rq [true]))
def Klu (ty0 : (List Int)) : Option (Bool) :=
 ((
 (Kk6 ((ty0.length : Int),1,40)) >>= fun a0 =>
 if a0 = true then
 (Klr (ty0,0)) >>= fun a1 =>
 some ((a1 == (ty0.length : Int)))
 else
 some (false)
 ) : Option (Bool)) >>= fun a2 =>
 some a2
def Klv (ty0 : (List Int)) (r : Bool) : Prop :=
 Q75 Tryz.prog 159 [sI ty0] (.bool r) []
theorem Klw : ∀ p r,Klu p = some r → Klv p r := by
 rintro ty0 r h
 unfold Klu at h
 refine b0 Tryz.f159 K7f 13 [(0,sI ty0)] fun c hc => (K9m hc 1 [] [] [] (sN ?_))
 obtain ⟨a0,a1,h⟩ := Qdt h
 refine Wp.into (x := .normal) (mkS [(2,.bool a0)] []) ?_ ?_
 ·replace h := a1
  obtain ⟨a2,a3,h⟩ := Qdt h
  rcases is h with ⟨a4,h⟩ | ⟨a4,h⟩
  ·obtain ⟨a5,a6,h⟩ := Qdt h
   obtain rfl := os h
   exact rj hc none [oN,nQ ⟨[(4,I (ty0.length : Int))],[],[]⟩,oc (.bool a2),oN,oN,oc (I a5),oN,nQ ⟨[(10,I (ty0.length : Int))],[],[]⟩,oN,oT,oN] (ai (Qdz (d := 4) I ty0) (cq (Kk8 _ _ a3) K6y (ar 2 a4 (cq (Klt _ _ a6) K7e (ar 2 a4 (ai (Qdz (d := 10) I ty0) (ar 2 a4 tv)))))))
  obtain rfl := os h
  exact rj hc none ([oN,nQ ⟨[(4,I (ty0.length : Int))],[],[]⟩,oc (.bool a2),oN]++n_ 5 [oF,oN]) (ai (Qdz (d := 4) I ty0) (cq (Kk8 _ _ a3) K6y (ar 5 (neT a4) (ai a4 tv))))
 clear a1
 obtain rfl := os h
 exact rt (rq [true])
def Klx (c : Ctx) : (Unit) ⊕ (Bool) → Exit → Q0a → Prop
 | .inl _ => Qdf c (.exit 0) (mkS [] [])
 | .inr r => Qdo TIx Tryz.f78 [] (.bool r)
def Kly (p : K00 × (List Int) × Int) : Option ((Unit) ⊕ (Bool)) :=
 match p with
 | (s0,ty1,a0) =>
  if (decide (a0 < (ty1.length : Int))) = true then
  (idx ty1 a0) >>= fun a1 =>
  (Klo a1) >>= fun (a2,a3) =>
  ((
  if (a2 == 3) = true then
  (Kk9 (s0,a3)) >>= fun a4 =>
  some ((!a4))
  else
  if (a2 == 4) = true then
  (Kk9 (s0,a3)) >>= fun a4 =>
  some ((!a4))
  else
  some (false)
  ) : Option (Bool)) >>= fun a5 =>
  if a5 = true then
  some (.inr false)
  else
  Kly (s0,ty1,(wr (a0 + 1)))
  else
  some (.inl ())
 partial_fixpoint
def Klz (p : K00 × (List Int) × Int) (fl : (Unit) ⊕ (Bool)) : Prop :=
 match p with
 | (s0,ty1,a0) => ∀ c : Ctx,c.nt = 36 → WpL Tryz.prog c (cl (cl (cr (cl (cr (cr B78)))))) (Klx c fl) (mkS [(2,.ra 1 0),(12,sI ty1),(13,I (ty1.length : Int)),(14,I a0)] [(1,K1v s0)])
theorem Km0 : ∀ p r,Kly p = some r → Klz p r := by
 refine Kly.partial_correctness Klz ?_
 rintro impl_isTypeOf_l0_f impl_isTypeOf_l0_ih ⟨s0,ty1,a0⟩ r h
 intro c hc
 refine WpL.step (K9o hc 1 [] [(15,.bool (decide (a0 < (ty1.length : Int))))] (sN (ic h (fun a1 h => ?_) fun a1 h => ?_)))
 ·refine sk (sN (bk 1 ?_))
  obtain ⟨a2,a3,h⟩ := Qdt h
  refine K9n hc none [eL (I a2),oN,oN] [15] [(6,I a2)] (ai (ix a3) tv) ?_
  obtain ⟨⟨a4,a5⟩,a6,h⟩ := Qdt h
  refine K9n hc none ([oN,oc (.tup [I a4,I a5])]++nN 5 []) [6] [(7,I a4),(8,I a5)] (cq (Klq _ _ a6) K7c tv) (sN ?_)
  obtain ⟨a7,a8,h⟩ := Qdt h
  refine wi [7,8] [(34,.bool a7)] ?_ ?_
  ·replace h := a8
   rcases is h with ⟨a9,h⟩ | ⟨a9,h⟩
   ·obtain ⟨b1,b2,h⟩ := Qdt h
    obtain rfl := os h
    exact rj hc none [oN,oN,oN,o_,o_,oT,oN,oN,oN,oc (.bool b1),oN,oT] (ar 2 (neF a9) (ai a9 (ar 3 tt (cq (Kkb _ _ b2) K70 (ar 2 tt tv)))))
   rcases is h with ⟨b3,h⟩ | ⟨b3,h⟩
   ·obtain ⟨b1,b2,h⟩ := Qdt h
    obtain rfl := os h
    exact rj hc none (nN 5 [oF,oN,oN,oN,oc (.bool b1),oN,oT]) (ar 3 a9 (ar 3 b3 (cq (Kkb _ _ b2) K70 (ar 2 b3 tv))))
   obtain rfl := os h
   exact rj hc none (nN 5 ([oF,oN]++n_ 4 [oF])) (ar 3 a9 (ar 4 (neT b3) (ai b3 tv)))
  clear a8
  refine ic h (fun b4 h => ?_) fun b4 h => ?_
  ·obtain rfl := os h
   exact rs0 hc 1 [(4,.bool false)] [] (rt (re [true]))
  exact sk (ri0 hc 2 (Qdb (impl_isTypeOf_l0_ih _ _ h c hc)))
 obtain rfl := os h
 exact xt 0 (Qd5 (Qdc (iv [])))
def Km1 (p : K00 × (List Int)) : Option (Bool) :=
 match p with
 | (s0,ty1) =>
  (Klu ty1) >>= fun a0 =>
  if a0 = true then
  (Kly (s0,ty1,0)) >>= fun fl => match fl with
  | .inl () =>
   some true
  | .inr r =>
   some r
  else
  some false
def Km2 (p : K00 × (List Int)) (r : Bool) : Prop :=
 match p with
 | (s0,ty1) => Q75 Tryz.prog 78 [K1w s0,sI ty1] (.bool r) []
theorem Km3 : ∀ p r,Km1 p = some r → Km2 p r := by
 rintro ⟨s0,ty1⟩ r h
 unfold Km1 at h
 refine b0 Tryz.f78 B78 36 [(0,K1w s0),(1,sI ty1)] fun c hc => (rsd hc none [nW 1,oN] [0] [(2,.ra 1 0)] [(1,K1v s0)] tv (sN ?_))
 obtain ⟨a0,a1,h⟩ := Qdt h
 refine K9n hc none [oN,oc (.bool a0),oN] [] [(11,.bool (!a0))] (cq (Klw _ _ a1) K7g tv) ?_
 rcases is h with ⟨a2,h⟩ | ⟨a2,h⟩
 ·refine cF (!a0) (nF a2) (sk (sN (rss hc none [oN,nQ ⟨[(13,I (ty1.length : Int))],[],[]⟩,oN] [(2,.ra 1 0),(12,sI ty1),(13,I (ty1.length : Int)),(14,I 0)] (ai (Qdz (d := 13) I ty1) tv) (bk 0 ?_))))
  obtain ⟨fl,a3,h⟩ := Qdt h
  have hL := Km0 _ _ a3 c hc
  refine lp ?_
  rcases fl with ⟨⟩ | r
  ·refine wl hL ?_
   obtain rfl := os h
   exact Qd7 (rs0 hc 1 [(4,.bool true)] [] (rt (rq [true])))
  refine WpL.mono hL ?_
  rintro _ _ ⟨rfl,hfin⟩
  obtain rfl := os h
  exact ⟨.inl rfl,hfin⟩
 refine cT (!a0) (nT a2) ?_
 obtain rfl := os h
 exact rs0 hc 1 [(4,.bool false)] [] (rt (rq [true]))
def Km4 (p : (List Int) × K00) : Option (Bool) :=
 match p with
 | (ty0,cap0) =>
  (Km1 (cap0,ty0)) >>= fun a0 =>
  some (!a0)
def Km5 (p : (List Int) × K00) (r : Bool) : Prop :=
 match p with
 | (ty0,cap0) => Q75 Tryz.prog 217 [sI ty0,.ptr [I cap0.fSize,sI cap0.fPlus,sI cap0.fTimes,sB cap0.fBelow] 0] (.bool r) []
theorem Km6 : ∀ p r,Km4 p = some r → Km5 p r := by
 rintro ⟨ty0,cap0⟩ r h
 unfold Km4 at h
 refine b0 Tryz.f217 K7i 8 [(0,sI ty0),(1,.ptr [I cap0.fSize,sI cap0.fPlus,sI cap0.fTimes,sB cap0.fBelow] 0)] fun c hc => (K9m hc 1 [] [] [] ?_)
 obtain ⟨a0,a1,h⟩ := Qdt h
 obtain rfl := os h
 exact rs hc none [oN,oN,oc (.bool a0),oN,oN] [(3,.bool (!a0))] [] (cq (Km3 _ _ a1) K7h tv) (rt (rq [true]))
def Km7 (c : Ctx) : (Unit) ⊕ (Int) → Exit → Q0a → Prop
 | .inl _ => Qdf c (.exit 0) (mkS [] [])
 | .inr r => Qdo TIx Tryz.f241 [] (I r)
def Km8 (p : LL × K00 × Int) : Option ((Unit) ⊕ (Int)) :=
 match p with
 | (s0,clo1_0,a0) =>
  if (decide (a0 < (s0.length : Int))) = true then
  (idx s0 a0) >>= fun a1 =>
  (Km4 (a1,clo1_0)) >>= fun a2 =>
  if a2 = true then
  some (.inr a0)
  else
  Km8 (s0,clo1_0,(wr (a0 + 1)))
  else
  some (.inl ())
 partial_fixpoint
def Km9 (p : LL × K00 × Int) (fl : (Unit) ⊕ (Int)) : Prop :=
 match p with
 | (s0,clo1_0,a0) => ∀ c : Ctx,c.nt = 19 → WpL Tryz.prog c (cl (cl (cr (cl (cr K7k))))) (Km7 c fl) (mkS [(0,sL s0),(1,.fn 217 [.ptr [I clo1_0.fSize,sI clo1_0.fPlus,sI clo1_0.fTimes,sB clo1_0.fBelow] 0]),(7,I (s0.length : Int)),(8,I a0)] [])
theorem Kma : ∀ p r,Km8 p = some r → Km9 p r := by
 refine Km8.partial_correctness Km9 ?_
 rintro slices_IndexFunc_Lint_Kimpl_isContext_c1_l0_f slices_IndexFunc_Lint_Kimpl_isContext_c1_l0_ih ⟨s0,clo1_0,a0⟩ r h
 intro c hc
 refine WpL.step (K9m hc 1 [] [(9,.bool (decide (a0 < (s0.length : Int))))] [] (sN (ic h (fun a1 h => ?_) fun a1 h => ?_)))
 ·refine sk (sN (bk 1 (K9m hc 2 [9] [(5,I a0)] [] ?_)))
  obtain ⟨a2,a3,a4,a5,h⟩ := bq2 h
  refine rsd hc none [oN,oN,oN,eL (sI a2),oN,oc (.bool a4)] [] [(16,.bool a4)] [] (ai (xL a3) (cq (Km6 _ _ a5) K7j tv)) (ic h (fun a6 h => ?_) fun a6 h => ?_)
  ·obtain rfl := os h
   exact rs0 hc 2 [(4,I a0)] [] (rt (re [true]))
  exact sk (ri0 hc 2 (Qdb (slices_IndexFunc_Lint_Kimpl_isContext_c1_l0_ih _ _ h c hc)))
 obtain rfl := os h
 exact xt 0 (Qd5 (Qdc (iv [])))
def Kmb (p : LL × K00) : Option (Int) :=
 match p with
 | (s0,clo1_0) =>
  (Km8 (s0,clo1_0,0)) >>= fun fl => match fl with
  | .inl () =>
   some (-1)
  | .inr r =>
   some r
def Kmc (p : LL × K00) (r : Int) : Prop :=
 match p with
 | (s0,clo1_0) => Q75 Tryz.prog 241 [sL s0,.fn 217 [.ptr [I clo1_0.fSize,sI clo1_0.fPlus,sI clo1_0.fTimes,sB clo1_0.fBelow] 0]] (I r) []
theorem Kmd : ∀ p r,Kmb p = some r → Kmc p r := by
 rintro ⟨s0,clo1_0⟩ r h
 unfold Kmb at h
 refine b0 Tryz.f241 K7k 19 [(0,sL s0),(1,.fn 217 [.ptr [I clo1_0.fSize,sI clo1_0.fPlus,sI clo1_0.fTimes,sB clo1_0.fBelow] 0])] fun c hc => (K9m hc 1 [] [] [] (sN (rs hc none [oN,nQ ⟨[(7,I (s0.length : Int))],[],[]⟩,oN] [(0,sL s0),(1,.fn 217 [.ptr [I clo1_0.fSize,sI clo1_0.fPlus,sI clo1_0.fTimes,sB clo1_0.fBelow] 0]),(7,I (s0.length : Int)),(8,I 0)] [] (ai (Qdz (d := 7) K14 s0) tv) (bk 0 ?_))))
 obtain ⟨fl,a0,h⟩ := Qdt h
 have hL := Kma _ _ a0 c hc
 refine lp ?_
 rcases fl with ⟨⟩ | r
 ·refine wl hL ?_
  obtain rfl := os h
  exact Qd7 (rs0 hc 1 [(4,I (-1))] [] (rt (rq [true])))
 refine WpL.mono hL ?_
 rintro _ _ ⟨rfl,hfin⟩
 obtain rfl := os h
 exact ⟨.inl rfl,hfin⟩
def Kme (p : LL × K00) : Option (Bool) :=
 match p with
 | (s0,clo1_0) =>
  (Kmb (s0,clo1_0)) >>= fun a0 =>
  some (decide (a0 ≥ 0))
def Kmf (p : LL × K00) (r : Bool) : Prop :=
 match p with
 | (s0,clo1_0) => Q75 Tryz.prog 216 [sL s0,.fn 217 [.ptr [I clo1_0.fSize,sI clo1_0.fPlus,sI clo1_0.fTimes,sB clo1_0.fBelow] 0]] (.bool r) []
theorem Kmg : ∀ p r,Kme p = some r → Kmf p r := by
 rintro ⟨s0,clo1_0⟩ r h
 unfold Kme at h
 refine b0 Tryz.f216 K7m 9 [(0,sL s0),(1,.fn 217 [.ptr [I clo1_0.fSize,sI clo1_0.fPlus,sI clo1_0.fTimes,sB clo1_0.fBelow] 0])] fun c hc => (K9m hc 1 [] [] [] ?_)
 obtain ⟨a0,a1,h⟩ := Qdt h
 obtain rfl := os h
 exact rs hc none [oN,oN,oc (I a0),oN,oN] [(4,.bool (decide (a0 ≥ 0)))] [] (cq (Kmd _ _ a1) K7l tv) (rt (rq [true]))
def Kmh (p : K00 × LL) : Option (Bool) :=
 match p with
 | (s0,ctx1) =>
  ((
  if (decide ((ctx1.length : Int) ≤ 8)) = true then
  (Kme (ctx1,s0)) >>= fun a0 =>
  some ((!a0))
  else
  some (false)
  ) : Option (Bool)) >>= fun a1 =>
  some a1
def Kmi (p : K00 × LL) (r : Bool) : Prop :=
 match p with
 | (s0,ctx1) => Q75 Tryz.prog 171 [K1w s0,sL ctx1] (.bool r) []
theorem Kmj : ∀ p r,Kmh p = some r → Kmi p r := by
 rintro ⟨s0,ctx1⟩ r h
 unfold Kmh at h
 refine b0 Tryz.f171 K7o 14 [(0,K1w s0),(1,sL ctx1)] fun c hc => (rsd hc none [nW 1,oN] [0] [(2,.ra 1 0)] [(1,K1v s0)] tv (sN ?_))
 obtain ⟨a0,a1,h⟩ := Qdt h
 refine Wp.into (x := .normal) (mkS [(4,.bool a0)] []) ?_ ?_
 ·replace h := a1
  rcases is h with ⟨a2,h⟩ | ⟨a2,h⟩
  ·obtain ⟨a3,a4,h⟩ := Qdt h
   obtain rfl := os h
   exact rj hc none ([oN,nQ ⟨[(6,I (ctx1.length : Int))],[],[]⟩]++nN 4 [oc (.bool a3),oN,oT,oN]) (ai (Qdz (d := 6) K14 ctx1) (ar 3 a2 (ac (Kmg _ _ a4) K7n (Or.inr rfl : ([1] : List Nat) = [] ∨ noSh (.bool a3) = true) (ar 2 a2 tv))))
  obtain rfl := os h
  exact rj hc none ([oN,nQ ⟨[(6,I (ctx1.length : Int))],[],[]⟩,oN,oN]++n_ 4 [oF,oN]) (ai (Qdz (d := 6) K14 ctx1) (ar 4 (neT a2) (ai a2 tv)))
 clear a1
 obtain rfl := os h
 exact rt (rq [true])
end Go.Am
