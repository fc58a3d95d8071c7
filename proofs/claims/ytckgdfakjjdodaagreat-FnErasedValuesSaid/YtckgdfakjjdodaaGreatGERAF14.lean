/- Walks, printed. -/
import Derived.Test.YtckgdfakjjdodaaGreatGERAF11
set_option linter.unusedVariables false
set_option linter.unusedSimpArgs false
set_option maxRecDepth 100000
namespace Go.Am
open Go Go.Proofs
def Klr : Option (List (List Nat)) := rx [[0],[0],[0,1],[0,1,2],[0],[0,4],[0,4,5],[0,4,5,6],[0],[0,8],[0,8,9],[0,8,9,10],[12],[13],[14],[14],[14,15],[14,15,16],[14],[14,18],[14,18,19],[14,18,19,20],[14],[14,22],[14,22,23],[14,22,23,24],[26],[27],[28]]
def Kls : Option (List (List Nat)) := rx [[0],[1],[0],[0,2],[4],[5],[6],[6],[6],[6,8],[6,8,9],[6,7,8,9,10],[6,7,8,9,10,11],[6],[6,13],[6,13,14],[6,13,14,15],[6],[6,17],[6,17,18],[6,17,18,19],[21],[22],[23]]
def Klt : Option (List (List Nat)) := rx [[0],[0],[2],[3],[4],[5],[5],[5,6],[5,6,7],[5],[5,9],[5,9,10],[5,9,10,11],[5],[5,13],[5,13,14],[5,13,14,15],[17],[18],[19]]
def Klu (ty0 : (List Int)) : Option (K01) :=
 (idx ty0 0) >>= fun a0 =>
 if (a0 == 0) = true then
 some (K01.mk 1 0 [] [])
 else
 (Kc4 (ty0,0)) >>= fun a1 =>
 (Kbo a0) >>= fun a2 =>
 if a2 = true then
 (Kca a0) >>= fun a3 =>
 (Klu a1) >>= fun a4 =>
 some (K01.mk 11 a3 [] [a4])
 else
 if (a0 == 1) = true then
 (Klu a1) >>= fun a5 =>
 (Kc4 (ty0,1)) >>= fun a6 =>
 (Klu a6) >>= fun a7 =>
 some (K01.mk 4 0 [] [a5,a7])
 else
 if (a0 == 2) = true then
 (Kc4 (ty0,1)) >>= fun a8 =>
 (Klu a1) >>= fun a9 =>
 some (K01.mk 6 0 a8 [a9])
 else
 (Kca a0) >>= fun b1 =>
 (Kc4 (ty0,1)) >>= fun b2 =>
 (Klu b2) >>= fun b3 =>
 some (K01.mk 9 b1 a1 [b3])
 partial_fixpoint
def Klv (ty0 : (List Int)) (r : K01) : Prop :=
 Q75 Tryz.prog 186 [sI ty0] (K1h r) []
theorem Klw : ∀ p r,Klu p = some r → Klv p r := by
 refine Klu.partial_correctness Klv ?_
 rintro spec_l5Default_f spec_l5Default_ih ty0 r h
 refine b0 Tryz.f186 K6p 49 [(0,sI ty0)] fun c hc => ?_
 refine rs hc none [some (.new 1)] [(0,sI ty0),(2,.ra 1 0)] [(1,.box [I 0,I 0,.nils,.nils])] tv ?_
 obtain ⟨a0,a1,h⟩ := Qds h
 refine rss hc none [oN,some (.el (I a0)),oN,oN] [(0,sI ty0),(2,.ra 1 0),(3,I a0)] (ai (ix a1) tv) ?_
 refine sN ?_
 refine K7e hc 2 [(0,sI ty0),(2,.ra 1 0),(3,I a0),(9,.bool (a0 == 0))] ?_
 refine ic h (fun a2 h => ?_) fun a2 h => ?_
 ·refine rs0 hc 2 [(2,.ra 1 0)] [(1,.box [I 1,I 0,.nils,.nils])] ?_
  refine rt ?_
  obtain rfl := os h
  exact rq [true]
 refine sk ?_
 obtain ⟨a3,a4,h⟩ := Qds h
 refine rs hc none [oN,some (.call (oI a3) [] 2),oN] [(0,sI ty0),(2,.ra 1 0),(3,I a0),(4,.rs 2)] [(1,.box [I 0,I 0,.nils,.nils]),(2,rI a3)] (cq (Kc6 _ _ a4) K3r tv) ?_
 refine sN ?_
 refine bk 0 ?_
 obtain ⟨a5,a6,h⟩ := Qds h
 refine rss hc none [oN,oc (.bool a5),oN] [(0,sI ty0),(2,.ra 1 0),(3,I a0),(4,.rs 2),(13,.bool a5)] (cq (Kbq _ _ a6) K3j tv) ?_
 refine ic h (fun a7 h => ?_) fun a7 h => ?_
 ·obtain ⟨a8,a9,b1,b2,h⟩ := bq2 h
  refine rs hc none [oN,oc (I a8),oN,some (.call (K1h b1) [] 3),some (.eqv (.mk 5 true) ⟨[(20,.rs 5)],[(5,some (.arr (List.map K09 [b1]))),(3,none),(4,none)],[5]⟩),oN,oN] [(2,.ra 1 0)] [(1,.box [I 11,I a8,.nils,.rs 5]),(5,.arr (List.map K09 [b1]))] (cq (Kcc _ _ a9) K3w (ad (Q75.args (A1 := [.sl (Q02 (List.map I a3))]) (A2 := [sI a3]) (by simp only [List.map_nil,Qek]) (spec_l5Default_ih _ _ b2)) K6q (Or.inr (Qeu rfl (Qeu rfl (Qeu (Qes Qeo b1.fType) (Qeu (Qes K12 b1.fKids) rfl)))) : ([2] : List Nat) = [] ∨ noSh (K1h b1) = true) (congrArg (fun z => (⟨[(20,.rs 5)],[(5,some (.arr z)),(3,none),(4,none)],[5]⟩ : Wr)) ((Qez (K0f b1) Qey) : [AV.agg [I b1.fOp,I b1.fN,oI b1.fType,AV.osl (List.map K09 b1.fKids)]] = List.map K09 [b1])) tv)) ?_
  refine rt ?_
  obtain rfl := os h
  exact rq [true]
 refine K7e hc 3 [(0,sI ty0),(2,.ra 1 0),(3,I a0),(4,.rs 2),(22,.bool (a0 == 1))] ?_
 refine ic h (fun b3 h => ?_) fun b3 h => ?_
 ·obtain ⟨b4,b5,b6,b7,b8,b9,h⟩ := bq3 h
  refine rs hc none [oN,some (.call (K1h b4) [] 6),oN,some (.call (oI b6) [] 8),some (.call (K1h b8) [] 9),some (.eqv (.mk 11 true) ⟨[(30,.rs 11)],[(11,some (.arr (List.map K09 [b4,b8]))),(6,none),(7,none),(9,none),(10,none)],[11]⟩),oN,oN] [(2,.ra 1 0)] [(1,.box [I 4,I 0,.nils,.rs 11]),(11,.arr (List.map K09 [b4,b8]))] (ac (Q75.args (A1 := [.sl (Q02 (List.map I a3))]) (A2 := [sI a3]) (by simp only [List.map_nil,Qek]) (spec_l5Default_ih _ _ b5)) K6q (Or.inr (Qeu rfl (Qeu rfl (Qeu (Qes Qeo b4.fType) (Qeu (Qes K12 b4.fKids) rfl)))) : ([2] : List Nat) = [] ∨ noSh (K1h b4) = true) (cq (Kc6 _ _ b7) K3r (ad (Q75.args (A1 := [.sl (Q02 (List.map I b6))]) (A2 := [sI b6]) (by simp only [List.map_nil,Qek]) (spec_l5Default_ih _ _ b9)) K6q (Or.inr (Qeu rfl (Qeu rfl (Qeu (Qes Qeo b8.fType) (Qeu (Qes K12 b8.fKids) rfl)))) : ([8] : List Nat) = [] ∨ noSh (K1h b8) = true) (congrArg (fun z => (⟨[(30,.rs 11)],[(11,some (.arr z)),(6,none),(7,none),(9,none),(10,none)],[11]⟩ : Wr)) ((Qez (K0f b4) (Qez (K0f b8) Qey)) : [AV.agg [I b4.fOp,I b4.fN,oI b4.fType,AV.osl (List.map K09 b4.fKids)],AV.agg [I b8.fOp,I b8.fN,oI b8.fType,AV.osl (List.map K09 b8.fKids)]] = List.map K09 [b4,b8])) tv))) ?_
  refine rt ?_
  obtain rfl := os h
  exact rq [true]
 refine K7e hc 3 [(0,sI ty0),(2,.ra 1 0),(3,I a0),(4,.rs 2),(32,.bool (a0 == 2))] ?_
 refine ic h (fun c0 h => ?_) fun c0 h => ?_
 ·obtain ⟨c1,c2,c3,c4,h⟩ := bq2 h
  refine rs hc none [oN,some (.call (oI c1) [] 12),oN,some (.call (K1h c3) [] 13),some (.eqv (.mk 15 true) ⟨[(39,.rs 15)],[(15,some (.arr (List.map K09 [c3]))),(13,none),(14,none)],[15]⟩),oN,oN] [(2,.ra 1 0)] [(1,.box [I 6,I 0,.rs 12,.rs 15]),(12,rI c1),(15,.arr (List.map K09 [c3]))] (cq (Kc6 _ _ c2) K3r (ad (Q75.args (A1 := [.sl (Q02 (List.map I a3))]) (A2 := [sI a3]) (by simp only [List.map_nil,Qek]) (spec_l5Default_ih _ _ c4)) K6q (Or.inr (Qeu rfl (Qeu rfl (Qeu (Qes Qeo c3.fType) (Qeu (Qes K12 c3.fKids) rfl)))) : ([2] : List Nat) = [] ∨ noSh (K1h c3) = true) (congrArg (fun z => (⟨[(39,.rs 15)],[(15,some (.arr z)),(13,none),(14,none)],[15]⟩ : Wr)) ((Qez (K0f c3) Qey) : [AV.agg [I c3.fOp,I c3.fN,oI c3.fType,AV.osl (List.map K09 c3.fKids)]] = List.map K09 [c3])) tv)) ?_
  refine rt ?_
  obtain rfl := os h
  exact rq [true]
 refine sk ?_
 obtain ⟨c5,c6,c7,c8,c9,d0,h⟩ := bq3 h
 refine rs hc none [oN,oc (I c5),oN,oN,some (.call (oI c7) [] 16),some (.call (K1h c9) [] 17),some (.eqv (.mk 19 true) ⟨[(47,.rs 19)],[(19,some (.arr (List.map K09 [c9]))),(17,none),(18,none)],[19]⟩),oN,oN] [(2,.ra 1 0)] [(1,.box [I 9,I c5,.rs 2,.rs 19]),(2,rI a3),(19,.arr (List.map K09 [c9]))] (cq (Kcc _ _ c6) K3w (cq (Kc6 _ _ c8) K3r (ad (Q75.args (A1 := [.sl (Q02 (List.map I c7))]) (A2 := [sI c7]) (by simp only [List.map_nil,Qek]) (spec_l5Default_ih _ _ d0)) K6q (Or.inr (Qeu rfl (Qeu rfl (Qeu (Qes Qeo c9.fType) (Qeu (Qes K12 c9.fKids) rfl)))) : ([16] : List Nat) = [] ∨ noSh (K1h c9) = true) (congrArg (fun z => (⟨[(47,.rs 19)],[(19,some (.arr z)),(17,none),(18,none)],[19]⟩ : Wr)) ((Qez (K0f c9) Qey) : [AV.agg [I c9.fOp,I c9.fN,oI c9.fType,AV.osl (List.map K09 c9.fKids)]] = List.map K09 [c9])) tv))) ?_
 refine rt ?_
 obtain rfl := os h
 exact rq [true]
def Klx (c : Ctx) (v2 : K01) (a0 : List Int) : (List K01) → Exit → Q0a → Prop
 | a1 => Qde c (.exit 0) (mkS [(6,.ra 2 0),(8,.ra 4 0)] [(2,.box [I 0,I 0,.nils,.nils]),(3,rI a0),(4,.box [I v2.fOp,I v2.fN,.rs 3,.rs 14]),(14,.arr (List.map K09 a1))])
mutual
def Kly (p : (List Int) × (List Int) × K01) : Option (K01) :=
 match p with
 | (view0,ty1,v2) =>
  (idx ty1 0) >>= fun a0 =>
  (Kc1 v2.fType) >>= fun a1 =>
  ((
  (Kbo a0) >>= fun a2 =>
  if a2 = true then
  (Kca a0) >>= fun a3 =>
  (Klo (view0,a3)) >>= fun a4 =>
  some ((!a4))
  else
  some (false)
  ) : Option (Bool)) >>= fun a5 =>
  if a5 = true then
  (Kc4 (ty1,0)) >>= fun a6 =>
  (Klu a6) >>= fun a7 =>
  some (K01.mk v2.fOp v2.fN a1 [a7])
  else
  (Klz (view0,ty1,v2,a1,[],0)) >>= fun a8 =>
  some (K01.mk v2.fOp v2.fN a1 a8)
 partial_fixpoint
def Klz (p : (List Int) × (List Int) × K01 × (List Int) × (List K01) × Int) : Option ((List K01)) :=
 match p with
 | (view0,ty1,v2,a0,a1,a2) =>
  if (decide (a2 < (v2.fKids.length : Int))) = true then
  ((
  if (v2.fOp == 7) = true then
  some (1)
  else
  some (a2)
  ) : Option (Int)) >>= fun a3 =>
  (Kc4 (ty1,a3)) >>= fun a4 =>
  (idx v2.fKids a2) >>= fun a5 =>
  (Kly (view0,a4,a5)) >>= fun a6 =>
  (Qe5 (a1.length + [a6].length) 64) >>= fun _ =>
  Klz (view0,ty1,v2,a0,(a1 ++ [a6]),(wr (a2 + 1)))
  else
  some (a1)
 partial_fixpoint
end
def Km0 (p : (List Int) × (List Int) × K01) (r : K01) : Prop :=
 match p with
 | (view0,ty1,v2) => Q75 Tryz.prog 107 [sI view0,sI ty1,K1c v2] (K1h r) []
def Km1 (p : (List Int) × (List Int) × K01 × (List Int) × (List K01) × Int) (fl : (List K01)) : Prop :=
 match p with
 | (view0,ty1,v2,a0,a1,a2) => ∀ c : Ctx,c.nt = 64 → WpL Tryz.prog c (cl (cl (cr (cl (cr (cr (cr (cr K6r)))))))) (Klx c v2 a0 fl) (mkS [(0,sI view0),(1,sI ty1),(5,.ra 1 0),(6,.ra 2 0),(8,.ra 4 0),(9,I a2)] [(1,K1b v2),(2,.box [I 0,I 0,.nils,.nils]),(3,rI a0),(4,.box [I v2.fOp,I v2.fN,.rs 3,.rs 14]),(14,.arr (List.map K09 a1))])
theorem Km2 : (∀ p r,Kly p = some r → Km0 p r) ∧ (∀ p r,Klz p = some r → Km1 p r) := by
 refine Kly.mutual_partial_correctness Km0 Km1 ?_ ?_
 ·rintro spec_l7Value_l0_f spec_l7Value_l0_ih ⟨view0,ty1,v2⟩ r h
  refine b0 Tryz.f107 K6r 64 [(0,sI view0),(1,sI ty1),(2,K1c v2)] fun c hc => ?_
  refine rs hc none [some (.new 1),some (.new 2)] [(0,sI view0),(1,sI ty1),(5,.ra 1 0),(6,.ra 2 0)] [(1,K1b v2),(2,.box [I 0,I 0,.nils,.nils])] tv ?_
  obtain ⟨a0,a1,h⟩ := Qds h
  refine rss hc none [oN,some (.el (I a0)),oN,oN] [(0,sI view0),(1,sI ty1),(5,.ra 1 0),(6,.ra 2 0),(7,I a0)] (ai (ix a1) tv) ?_
  obtain ⟨a2,a3,h⟩ := Qds h
  refine rs hc (rx [[0],[1],[0],[0,2],[0],[0,4],[0,4,5],[7],[0],[9]]) [oN,oN,oN,oN,oN,oN,some (.call (oI a2) [] 3),oN,some (.new 4),oN] [(0,sI view0),(1,sI ty1),(5,.ra 1 0),(6,.ra 2 0),(7,I a0),(8,.ra 4 0)] [(1,K1b v2),(2,.box [I 0,I 0,.nils,.nils]),(3,rI a2),(4,.box [I v2.fOp,I v2.fN,.rs 3,.nils])] (cq (Kc3 _ _ a3) K3p tv) ?_
  refine sN ?_
  refine sN ?_
  obtain ⟨a4,a5,h⟩ := Qds h
  refine Wp.into (x := .normal) (mkS [(0,sI view0),(1,sI ty1),(5,.ra 1 0),(6,.ra 2 0),(8,.ra 4 0),(30,.bool a4)] [(1,K1b v2),(2,.box [I 0,I 0,.nils,.nils]),(3,rI a2),(4,.box [I v2.fOp,I v2.fN,.rs 3,.nils])]) ?_ ?_
  ·replace h := a5
   obtain ⟨a6,a7,h⟩ := Qds h
   rcases is h with ⟨a8,h⟩ | ⟨a8,h⟩
   ·obtain ⟨a9,b1,b2,b3,h⟩ := bq2 h
    refine rgs hc none [oN,oc (.bool a6),oN,oN,oN,oc (I a9),oc (.bool b2),oN,oT] [(0,sI view0),(1,sI ty1),(5,.ra 1 0),(6,.ra 2 0),(8,.ra 4 0),(30,.bool (!b2))] (cq (Kbq _ _ a7) K3j (ar 3 a8 (cq (Kcc _ _ b1) K3w (ai a8 (cq (Klq _ _ b3) K6o (ar 2 a8 tv)))))) ?_
    obtain rfl := os h
    exact Qde.mk
   refine rgs hc none [oN,oc (.bool a6),oN,o_,o_,o_,o_,o_,oF] [(0,sI view0),(1,sI ty1),(5,.ra 1 0),(6,.ra 2 0),(8,.ra 4 0),(30,.bool false)] (cq (Kbq _ _ a7) K3j (ar 5 (neT a8) (ai a8 tv))) ?_
   obtain rfl := os h
   exact Qde.mk
  clear a5
  refine ic h (fun b4 h => ?_) fun b4 h => ?_
  ·obtain ⟨b5,b6,b7,b8,h⟩ := bq2 h
   refine rs hc none [oN,some (.call (oI b5) [] 5),some (.call (K1h b7) [] 6),some (.eqv (.mk 8 true) ⟨[(34,.rs 8)],[(8,some (.arr (List.map K09 [b7]))),(6,none),(7,none)],[8]⟩),oN,oN] [(6,.ra 2 0),(8,.ra 4 0)] [(2,.box [I 0,I 0,.nils,.nils]),(3,rI a2),(4,.box [I v2.fOp,I v2.fN,.rs 3,.rs 8]),(8,.arr (List.map K09 [b7]))] (cq (Kc6 _ _ b6) K3r (ad (Q75.args (A1 := [.sl (Q02 (List.map I b5))]) (A2 := [sI b5]) (by simp only [List.map_nil,Qek]) (Klw _ _ b8)) K6q (Or.inr (Qeu rfl (Qeu rfl (Qeu (Qes Qeo b7.fType) (Qeu (Qes K12 b7.fKids) rfl)))) : ([5] : List Nat) = [] ∨ noSh (K1h b7) = true) (congrArg (fun z => (⟨[(34,.rs 8)],[(8,some (.arr z)),(6,none),(7,none)],[8]⟩ : Wr)) ((Qez (K0f b7) Qey) : [AV.agg [I b7.fOp,I b7.fN,oI b7.fType,AV.osl (List.map K09 b7.fKids)]] = List.map K09 [b7])) tv)) ?_
   refine rs0 hc 2 [(6,.ra 2 0)] [(2,.box [I v2.fOp,I v2.fN,.rs 3,.rs 8]),(3,rI a2),(8,.arr (List.map K09 [b7]))] ?_
   refine rt ?_
   obtain rfl := os h
   exact rq [true]
  refine sk ?_
  refine sN ?_
  refine K7e hc 1 [(0,sI view0),(1,sI ty1),(5,.ra 1 0),(6,.ra 2 0),(8,.ra 4 0),(9,I 0)] ?_
  refine bk 0 ?_
  obtain ⟨b9,c0,h⟩ := Qds h
  have hL := spec_l7Value_l0_ih _ _ c0 c hc
  refine Wp.loopN (by kernel_rfl) (WpL.view (fun a w hv => SRx.renL [(14,25)] (SRx.nilBL 4 3 25 [I v2.fOp,I v2.fN,.rs 3,.nils] hv (by kernel_rfl) (by kernel_rfl) (by kernel_rfl)) (by kernel_rfl) (by kernel_rfl) (by kernel_rfl)) (?_ : WpL _ c _ _ (mkS [(0,sI view0),(1,sI ty1),(5,.ra 1 0),(6,.ra 2 0),(8,.ra 4 0),(9,I 0)] [(1,K1b v2),(2,.box [I 0,I 0,.nils,.nils]),(3,rI a2),(4,.box [I v2.fOp,I v2.fN,.rs 3,.rs 14]),(14,.arr (List.map K09 []))])))
  refine WpL.into (e := (.exit 0)) (mkS [(6,.ra 2 0),(8,.ra 4 0)] [(2,.box [I 0,I 0,.nils,.nils]),(3,rI a2),(4,.box [I v2.fOp,I v2.fN,.rs 3,.rs 14]),(14,.arr (List.map K09 b9))]) hL ?_
  refine Qd6 ?_
  refine rs0 hc 2 [(6,.ra 2 0)] [(2,.box [I v2.fOp,I v2.fN,.rs 3,.rs 14]),(3,rI a2),(14,.arr (List.map K09 b9))] ?_
  refine rt ?_
  obtain rfl := os h
  exact rq [true]
 ·rintro spec_l7Value_f spec_l7Value_l0_f spec_l7Value_ih spec_l7Value_l0_ih ⟨view0,ty1,v2,a2,c1,c2⟩ r h
  intro c hc
  refine WpL.step ?_
  refine sN ?_
  refine rss hc none [oN,oN,oN,some (.eqv (.no) ⟨[(40,I (v2.fKids.length : Int))],[],[]⟩),oN] [(0,sI view0),(1,sI ty1),(5,.ra 1 0),(6,.ra 2 0),(8,.ra 4 0),(9,I c2),(41,.bool (decide (c2 < (v2.fKids.length : Int))))] (ai (Qdy (d := 40) K06 v2.fKids) tv) ?_
  refine ic h (fun c3 h => ?_) fun c3 h => ?_
  ·refine sk ?_
   refine sN ?_
   refine bk 1 ?_
   refine K7e hc 2 [(0,sI view0),(1,sI ty1),(5,.ra 1 0),(6,.ra 2 0),(8,.ra 4 0),(9,I c2),(10,I c2)] ?_
   refine sN ?_
   refine K7e hc 3 [(0,sI view0),(1,sI ty1),(5,.ra 1 0),(6,.ra 2 0),(8,.ra 4 0),(9,I c2),(10,I c2),(47,.bool (v2.fOp == 7))] ?_
   obtain ⟨c4,c5,h⟩ := Qds h
   refine Wp.into (x := .normal) (mkS [(0,sI view0),(1,sI ty1),(5,.ra 1 0),(6,.ra 2 0),(8,.ra 4 0),(9,I c2),(10,I c4)] [(1,K1b v2),(2,.box [I 0,I 0,.nils,.nils]),(3,rI a2),(4,.box [I v2.fOp,I v2.fN,.rs 3,.rs 14]),(14,.arr (List.map K09 c1))]) ?_ ?_
   ·replace h := c5
    refine ic h (fun c6 h => ?_) fun c6 h => ?_
    ·refine K7d hc 1 [(0,sI view0),(1,sI ty1),(5,.ra 1 0),(6,.ra 2 0),(8,.ra 4 0),(9,I c2),(10,I 1)] ?_
     obtain rfl := os h
     exact Qde.mk
    refine sk ?_
    obtain rfl := os h
    exact iv []
   clear c5
   obtain ⟨c7,c8,c9,d0,d1,d2,_,d3,h⟩ := bq4 h
   refine rg hc (rx [[0],[1],[0],[0],[0],[0,3,4],[0],[0,6],[0],[0,6,7,8],[0,6,7,8,9],[0,2,3,4,5,6,7,8,9,10],[0,2,3,4,5,6,7,8,9,10,11],[13],[14],[15]]) [oN,oN,oN,oN,oN,some (.call (oI c7) [] 20),oN,oN,oN,some (.el (K1c c9)),oN,some (.call (K1h d1) [] 21),some (.eqv (.mk 23 true) ⟨[(60,.rs 23)],[(23,some (.arr (List.map K09 [d1]))),(21,none),(22,none)],[23]⟩),some (.eqv (.mk 24 true) ⟨[(61,.rs 24)],[(24,some (.arr (List.map K09 (c1 ++ [d1])))),(14,none),(23,none)],[24]⟩),oN,oN] [(0,sI view0),(1,sI ty1),(5,.ra 1 0),(6,.ra 2 0),(8,.ra 4 0),(9,I c2)] [(1,K1b v2),(2,.box [I 0,I 0,.nils,.nils]),(3,rI a2),(4,.box [I v2.fOp,I v2.fN,.rs 3,.rs 24]),(24,.arr (List.map K09 (c1 ++ [d1])))] (cq (Kc6 _ _ c8) K3r (ad (Qdw d0 (K0d c9)) (Q75.args (A1 := [sI view0,.sl (Q02 (List.map I c7)),K1c c9]) (A2 := [sI view0,sI c7,K1c c9]) (by simp only [List.map_nil,Qek]) (spec_l7Value_ih _ _ d2)) K6s (Or.inr (Qeu rfl (Qeu rfl (Qeu (Qes Qeo d1.fType) (Qeu (Qes K12 d1.fKids) rfl)))) : ([20] : List Nat) = [] ∨ noSh (K1h d1) = true) (ac (congrArg (fun z => (⟨[(60,.rs 23)],[(23,some (.arr z)),(21,none),(22,none)],[23]⟩ : Wr)) ((Qez (K0f d1) Qey) : [AV.agg [I d1.fOp,I d1.fN,oI d1.fType,AV.osl (List.map K09 d1.fKids)]] = List.map K09 [d1])) (congrArg (fun z => (⟨[(61,.rs 24)],[(24,some (.arr z)),(14,none),(23,none)],[24]⟩ : Wr)) ((List.map_append).symm : (List.map K09 c1) ++ (List.map K09 [d1]) = List.map K09 (c1 ++ [d1]))) (Qe6 (enc1 := K09) (enc2 := K09) (e1 := c1) (e2 := [d1]) (sz := 4) K0y K0y d3) tv))) ?_
   refine K7d hc 3 [(0,sI view0),(1,sI ty1),(5,.ra 1 0),(6,.ra 2 0),(8,.ra 4 0),(9,I (wr (c2 + 1)))] ?_
   refine Qda ?_
   exact WpL.view (fun a w hv => SRx.renL [(14,24)] hv (by kernel_rfl) (by kernel_rfl) (by kernel_rfl)) (spec_l7Value_l0_ih _ _ h c hc)
  refine xt 0 ?_
  refine Qd4 ?_
  refine Qdb ?_
  obtain rfl := os h
  exact iv []
theorem Km3 : ∀ p r,Kly p = some r → Km0 p r := Km2.1
theorem Km4 : ∀ p r,Klz p = some r → Km1 p r := Km2.2
def Km5 (p : K00 × (List Int) × (List Int) × K01) : Option (K01 × Bool) :=
 match p with
 | (s0,view1,ty2,v3) =>
  ((
  (Kjf (s0,view1)) >>= fun a0 =>
  if a0 = true then
  (Klh (s0,ty2,v3)) >>= fun a1 =>
  some ((!a1))
  else
  some (true)
  ) : Option (Bool)) >>= fun a2 =>
  if a2 = true then
  some ((K01.mk 0 0 [] []),false)
  else
  (Kly (view1,ty2,v3)) >>= fun a3 =>
  some (a3,true)
def Km6 (p : K00 × (List Int) × (List Int) × K01) (r : K01 × Bool) : Prop :=
 match p with
 | (s0,view1,ty2,v3) => Q75 Tryz.prog 36 [K1a s0,sI view1,sI ty2,K1c v3] (.tup [.agg [I r.1.fOp,I r.1.fN,.osl (List.map I r.1.fType),.osl (List.map K09 r.1.fKids)],.bool r.2]) []
theorem Km7 : ∀ p r,Km5 p = some r → Km6 p r := by
 rintro ⟨s0,view1,ty2,v3⟩ r h
 unfold Km5 at h
 refine b0 Tryz.f36 B36 26 [(0,K1a s0),(1,sI view1),(2,sI ty2),(3,K1c v3)] fun c hc => ?_
 refine rs hc none [some (.new 1),some (.new 2),some (.new 3),oN] [(1,sI view1),(2,sI ty2),(4,.ra 1 0),(7,.ra 2 0),(8,.ra 3 0)] [(1,K19 s0),(2,K1b v3),(3,.box [I 0,I 0,.nils,.nils])] tv ?_
 refine sN ?_
 refine sN ?_
 obtain ⟨a0,a1,h⟩ := Qds h
 refine Wp.into (x := .normal) (mkS [(1,sI view1),(2,sI ty2),(7,.ra 2 0),(8,.ra 3 0),(20,.bool a0)] [(2,K1b v3),(3,.box [I 0,I 0,.nils,.nils])]) ?_ ?_
 ·replace h := a1
  obtain ⟨a2,a3,h⟩ := Qds h
  rcases is h with ⟨a4,h⟩ | ⟨a4,h⟩
  ·obtain ⟨a5,a6,h⟩ := Qds h
   refine rg hc none [oN,oN,oc (.bool a2),oN,oN,oN,oN,oN,oc (.bool a5),oN,oF] [(1,sI view1),(2,sI ty2),(7,.ra 2 0),(8,.ra 3 0),(20,.bool (!a5))] [(2,K1b v3),(3,.box [I 0,I 0,.nils,.nils])] (cq (Kjh _ _ a3) K5v (ar 4 (nF a4) (cq (Klj _ _ a6) K6m (ar 2 (nF a4) tv)))) ?_
   obtain rfl := os h
   exact Qde.mk
  refine rg hc none [oN,oN,oc (.bool a2),oN,oN,o_,o_,o_,o_,o_,oT] [(1,sI view1),(2,sI ty2),(7,.ra 2 0),(8,.ra 3 0),(20,.bool true)] [(2,K1b v3),(3,.box [I 0,I 0,.nils,.nils])] (cq (Kjh _ _ a3) K5v (ar 5 (neF (nT a4)) (ai (nT a4) tv))) ?_
  obtain rfl := os h
  exact Qde.mk
 clear a1
 refine ic h (fun a7 h => ?_) fun a7 h => ?_
 ·refine rs0 hc 3 [(8,.ra 3 0),(9,.bool false)] [(3,.box [I 0,I 0,.nils,.nils])] ?_
  refine rt ?_
  obtain rfl := os h
  exact rq [true,true]
 refine sk ?_
 obtain ⟨a8,a9,h⟩ := Qds h
 refine rs hc none [oN,oN,oN,some (.call (K1h a8) [] 4),oN,oN] [(8,.ra 3 0),(9,.bool true)] [(3,.box [I a8.fOp,I a8.fN,.rs 4,.rs 5]),(4,rI a8.fType),(5,.arr (List.map K09 a8.fKids))] (cq (Km3 _ _ a9) K6s tv) ?_
 refine rt ?_
 obtain rfl := os h
 exact rq [true,true]
def Km8 (p : (List Int) × (List Int) × K01 × K01) : Option (Bool) :=
 match p with
 | (view0,ty1,v2,w3) =>
  (idx ty1 0) >>= fun a0 =>
  (Kgt a0) >>= fun (a1,a2) =>
  (Khw ty1) >>= fun a3 =>
  if (a1 == 0) = true then
  some (v2.fN == w3.fN)
  else
  if (a1 == 1) = true then
  ((
  (idx a3 0) >>= fun a4 =>
  (idx v2.fKids 0) >>= fun a5 =>
  (idx w3.fKids 0) >>= fun a6 =>
  (Km8 (view0,a4,a5,a6)) >>= fun a7 =>
  if a7 = true then
  (idx a3 1) >>= fun a8 =>
  (idx v2.fKids 1) >>= fun a9 =>
  (idx w3.fKids 1) >>= fun b1 =>
  (Km8 (view0,a8,a9,b1)) >>= fun b2 =>
  some (b2)
  else
  some (false)
  ) : Option (Bool)) >>= fun b3 =>
  some b3
  else
  if (a1 == 2) = true then
  ((
  if (v2.fOp == w3.fOp) = true then
  (idx a3 (wr (v2.fOp - 6))) >>= fun b4 =>
  (idx v2.fKids 0) >>= fun b5 =>
  (idx w3.fKids 0) >>= fun b6 =>
  (Km8 (view0,b4,b5,b6)) >>= fun b7 =>
  some (b7)
  else
  some (false)
  ) : Option (Bool)) >>= fun b8 =>
  some b8
  else
  ((
  (Kix (view0,a2)) >>= fun b9 =>
  if b9 = true then
  (idx a3 0) >>= fun c0 =>
  (idx v2.fKids 0) >>= fun c1 =>
  (idx w3.fKids 0) >>= fun c2 =>
  (Km8 (view0,c0,c1,c2)) >>= fun c3 =>
  some (c3)
  else
  some (true)
  ) : Option (Bool)) >>= fun c4 =>
  some c4
 partial_fixpoint
def Km9 (p : (List Int) × (List Int) × K01 × K01) (r : Bool) : Prop :=
 match p with
 | (view0,ty1,v2,w3) => Q75 Tryz.prog 108 [sI view0,sI ty1,K1c v2,K1c w3] (.bool r) []
theorem Kma : ∀ p r,Km8 p = some r → Km9 p r := by
 refine Km8.partial_correctness Km9 ?_
 rintro impl_alike_f impl_alike_ih ⟨view0,ty1,v2,w3⟩ r h
 refine b0 Tryz.f108 K6u 103 [(0,sI view0),(1,sI ty1),(2,K1c v2),(3,K1c w3)] fun c hc => ?_
 refine rs hc none [some (.new 1),some (.new 2),oN] [(0,sI view0),(1,sI ty1),(6,.ra 1 0),(7,.ra 2 0)] [(1,K1b v2),(2,K1b w3)] tv ?_
 obtain ⟨a0,a1,⟨a2,a3⟩,a4,h⟩ := bq2 h
 refine rss hc none [oN,some (.el (I a0)),oN,oc (.tup [I a2,I a3]),oN,oN,oN,oN,oN] [(0,sI view0),(1,sI ty1),(6,.ra 1 0),(7,.ra 2 0),(9,I a2),(10,I a3)] (ai (ix a1) (cq (Kgv _ _ a4) K51 tv)) ?_
 obtain ⟨a5,a6,h⟩ := Qds h
 refine rs hc none [oN,some (.call (.osl (List.map K0n a5)) [] 3),oN] [(0,sI view0),(6,.ra 1 0),(7,.ra 2 0),(9,I a2),(10,I a3),(11,.rs 3)] [(1,K1b v2),(2,K1b w3),(3,.arr (List.map K0n a5))] (cq (Khy _ _ a6) K5g tv) ?_
 refine sN ?_
 refine K7e hc 1 [(0,sI view0),(6,.ra 1 0),(7,.ra 2 0),(10,I a3),(11,.rs 3),(21,I a2)] ?_
 refine bk 0 ?_
 refine K7e hc 2 [(0,sI view0),(6,.ra 1 0),(7,.ra 2 0),(10,I a3),(11,.rs 3),(21,I a2),(22,.bool (a2 == 0))] ?_
 refine ic h (fun a7 h => ?_) fun a7 h => ?_
 ·refine rs0 hc 6 [(8,.bool (v2.fN == w3.fN))] [] ?_
  refine rt ?_
  obtain rfl := os h
  exact rq [true]
 refine K7e hc 2 [(0,sI view0),(6,.ra 1 0),(7,.ra 2 0),(10,I a3),(11,.rs 3),(21,I a2),(29,.bool (a2 == 1))] ?_
 refine ic h (fun a8 h => ?_) fun a8 h => ?_
 ·refine sN ?_
  obtain ⟨a9,b1,h⟩ := Qds h
  refine Wp.into (x := .normal) (mkS [(8,.bool a9)] []) ?_ ?_
  ·replace h := b1
   obtain ⟨b2,b3,b4,b5,b6,b7,b8,b9,h⟩ := bq4 h
   rcases is h with ⟨c0,h⟩ | ⟨c0,h⟩
   ·obtain ⟨c1,c2,c3,c4,c5,c6,c7,c8,h⟩ := bq4 h
    refine rg hc Klr [oN,oN,oN,some (.el (sI b2)),oN,oN,some (.el (K1c b4)),oN,oN,oN,some (.el (K1c b6)),oN,oc (.bool b8),oN,oN,oN,oN,some (.el (sI c1)),oN,oN,some (.el (K1c c3)),oN,oN,oN,some (.el (K1c c5)),oN,oc (.bool c7),oT,oN] [(8,.bool c7)] [] (ad (Qdx (enc := K0n) b3) (xL b3).2 (Qdw b5 (K0d b4)) (Qdw b7 (K0d b6)) (cq (impl_alike_ih _ _ b9) K6v (ar 3 c0 (ac (Qdx (enc := K0n) c2) c0 (xL c2).2 (ar 3 c0 (ai (Qdw c4 (K0d c3)) (ar 4 c0 (ai (Qdw c6 (K0d c5)) (ar 2 c0 (cq (impl_alike_ih _ _ c8) K6v (ai c0 tv))))))))))) ?_
    obtain rfl := os h
    exact Qde.mk
   refine rg hc Klr [oN,oN,oN,some (.el (sI b2)),oN,oN,some (.el (K1c b4)),oN,oN,oN,some (.el (K1c b6)),oN,oc (.bool b8),oN,o_,o_,o_,o_,o_,o_,o_,o_,o_,o_,o_,o_,o_,oF,oN] [(8,.bool false)] [] (ad (Qdx (enc := K0n) b3) (xL b3).2 (Qdw b5 (K0d b4)) (Qdw b7 (K0d b6)) (cq (impl_alike_ih _ _ b9) K6v (ar 13 (neT c0) (ai c0 tv)))) ?_
   obtain rfl := os h
   exact Qde.mk
  clear b1
  refine rt ?_
  obtain rfl := os h
  exact rq [true]
 refine K7e hc 2 [(0,sI view0),(6,.ra 1 0),(7,.ra 2 0),(10,I a3),(11,.rs 3),(59,.bool (a2 == 2))] ?_
 refine ic h (fun c9 h => ?_) fun c9 h => ?_
 ·refine sN ?_
  obtain ⟨d0,d1,h⟩ := Qds h
  refine Wp.into (x := .normal) (mkS [(8,.bool d0)] []) ?_ ?_
  ·replace h := d1
   rcases is h with ⟨d2,h⟩ | ⟨d2,h⟩
   ·obtain ⟨d3,d4,d5,d6,d7,d8,d9,e0,h⟩ := bq4 h
    refine rg hc Kls [oN,oN,oN,oN,oN,oN,oN,oN,oN,oN,oN,oN,some (.el (sI d3)),oN,oN,some (.el (K1c d5)),oN,oN,oN,some (.el (K1c d7)),oN,oc (.bool d9),oT,oN] [(8,.bool d9)] [] (ar 6 d2 (ac (Qdx (enc := K0n) d4) d2 (xL d4).2 (ar 3 d2 (ai (Qdw d6 (K0d d5)) (ar 4 d2 (ai (Qdw d8 (K0d d7)) (ar 2 d2 (cq (impl_alike_ih _ _ e0) K6v (ai d2 tv))))))))) ?_
    obtain rfl := os h
    exact Qde.mk
   refine rg hc Kls [oN,oN,oN,oN,oN,oN,o_,o_,o_,o_,o_,o_,o_,o_,o_,o_,o_,o_,o_,o_,o_,o_,oF,oN] [(8,.bool false)] [] (ar 16 (neT d2) (ai d2 tv)) ?_
   obtain rfl := os h
   exact Qde.mk
  clear d1
  refine rt ?_
  obtain rfl := os h
  exact rq [true]
 refine sk ?_
 refine sN ?_
 obtain ⟨e1,e2,h⟩ := Qds h
 refine Wp.into (x := .normal) (mkS [(8,.bool e1)] []) ?_ ?_
 ·replace h := e2
  obtain ⟨e3,e4,h⟩ := Qds h
  rcases is h with ⟨e5,h⟩ | ⟨e5,h⟩
  ·obtain ⟨e6,e7,e8,e9,f0,f1,f2,f3,h⟩ := bq4 h
   refine rg hc Klt [oN,oN,oc (.bool e3),oN,oN,oN,oN,oN,some (.el (sI e6)),oN,oN,some (.el (K1c e8)),oN,oN,oN,some (.el (K1c f0)),oN,oc (.bool f2),oF,oN] [(8,.bool f2)] [] (cq (Kiz _ _ e4) K5s (ar 3 (nF e5) (ac (Qdx (enc := K0n) e7) (nF e5) (xL e7).2 (ar 3 (nF e5) (ai (Qdw e9 (K0d e8)) (ar 4 (nF e5) (ai (Qdw f1 (K0d f0)) (ar 2 (nF e5) (cq (impl_alike_ih _ _ f3) K6v (ai (nF e5) tv)))))))))) ?_
   obtain rfl := os h
   exact Qde.mk
  refine rg hc Klt [oN,oN,oc (.bool e3),oN,oN,o_,o_,o_,o_,o_,o_,o_,o_,o_,o_,o_,o_,o_,oT,oN] [(8,.bool true)] [] (cq (Kiz _ _ e4) K5s (ar 13 (neF (nT e5)) (ai (nT e5) tv))) ?_
  obtain rfl := os h
  exact Qde.mk
 clear e2
 refine rt ?_
 obtain rfl := os h
 exact rq [true]
def Kmb (p : K00 × (List Int) × (List Int) × K01 × K01) : Option (Bool) :=
 match p with
 | (s0,view1,ty2,v3,w4) =>
  ((
  (Kgq (s0,view1)) >>= fun a0 =>
  if a0 = true then
  (Kic (s0,ty2,v3)) >>= fun a1 =>
  if a1 = true then
  (Kic (s0,ty2,w4)) >>= fun a2 =>
  if a2 = true then
  (Km8 (view1,ty2,v3,w4)) >>= fun a3 =>
  some (a3)
  else
  some (false)
  else
  some (false)
  else
  some (false)
  ) : Option (Bool)) >>= fun a4 =>
  some a4
def Kmc (p : K00 × (List Int) × (List Int) × K01 × K01) (r : Bool) : Prop :=
 match p with
 | (s0,view1,ty2,v3,w4) => Q75 Tryz.prog 37 [K1a s0,sI view1,sI ty2,K1c v3,K1c w4] (.bool r) []
theorem Kmd : ∀ p r,Kmb p = some r → Kmc p r := by
 rintro ⟨s0,view1,ty2,v3,w4⟩ r h
 unfold Kmb at h
 refine b0 Tryz.f37 B37 33 [(0,K1a s0),(1,sI view1),(2,sI ty2),(3,K1c v3),(4,K1c w4)] fun c hc => ?_
 refine rs hc none [some (.new 1),some (.new 2),some (.new 3),oN] [(1,sI view1),(2,sI ty2),(5,.ra 1 0),(8,.ra 2 0),(9,.ra 3 0)] [(1,K19 s0),(2,K1b v3),(3,K1b w4)] tv ?_
 refine sN ?_
 obtain ⟨a0,a1,h⟩ := Qds h
 refine Wp.into (x := .normal) (mkS [(10,.bool a0)] []) ?_ ?_
 ·replace h := a1
  obtain ⟨a2,a3,h⟩ := Qds h
  rcases is h with ⟨a4,h⟩ | ⟨a4,h⟩
  ·obtain ⟨a5,a6,h⟩ := Qds h
   rcases is h with ⟨a7,h⟩ | ⟨a7,h⟩
   ·obtain ⟨a8,a9,h⟩ := Qds h
    rcases is h with ⟨b1,h⟩ | ⟨b1,h⟩
    ·obtain ⟨b2,b3,h⟩ := Qds h
     refine rg hc none [oN,oN,oc (.bool a2),oN,oN,oN,oN,oc (.bool a5),oT,oN,oN,oN,oN,oc (.bool a8),oT,oN,oN,oN,oN,oN,oc (.bool b2),oT,oN] [(10,.bool b2)] [] (cq (Kgs _ _ a3) K4z (ar 4 a4 (cq (Kie _ _ a6) K5k (ai a4 (ar 4 a7 (cq (Kie _ _ a9) K5k (ai a7 (ar 5 b1 (cq (Kma _ _ b3) K6v (ai b1 tv)))))))))) ?_
     obtain rfl := os h
     exact Qde.mk
    refine rg hc none [oN,oN,oc (.bool a2),oN,oN,oN,oN,oc (.bool a5),oT,oN,oN,oN,oN,oc (.bool a8),oT,oN,o_,o_,o_,o_,o_,oF,oN] [(10,.bool false)] [] (cq (Kgs _ _ a3) K4z (ar 4 a4 (cq (Kie _ _ a6) K5k (ai a4 (ar 4 a7 (cq (Kie _ _ a9) K5k (ai a7 (ar 5 (neT b1) (ai b1 tv))))))))) ?_
    obtain rfl := os h
    exact Qde.mk
   refine rg hc none [oN,oN,oc (.bool a2),oN,oN,oN,oN,oc (.bool a5),oT,oN,o_,o_,o_,o_,oF,oN,o_,o_,o_,o_,o_,oF,oN] [(10,.bool false)] [] (cq (Kgs _ _ a3) K4z (ar 4 a4 (cq (Kie _ _ a6) K5k (ai a4 (ar 4 (neT a7) (ai a7 (ar 5 (neT (rfl : false = false)) (ai (rfl : false = false) tv)))))))) ?_
   obtain rfl := os h
   exact Qde.mk
  refine rg hc none [oN,oN,oc (.bool a2),oN,o_,o_,o_,o_,oF,oN,o_,o_,o_,o_,oF,oN,o_,o_,o_,o_,o_,oF,oN] [(10,.bool false)] [] (cq (Kgs _ _ a3) K4z (ar 4 (neT a4) (ai a4 (ar 4 (neT (rfl : false = false)) (ai (rfl : false = false) (ar 5 (neT (rfl : false = false)) (ai (rfl : false = false) tv))))))) ?_
  obtain rfl := os h
  exact Qde.mk
 clear a1
 refine rt ?_
 obtain rfl := os h
 exact rq [true]
def Kme (op0 : Int) : Option (K03 × Bool) :=
 (Kes (op0,0,12)) >>= fun a0 =>
 if a0 = true then
 (idx [(K03.mk (ByteArray.mk #[120]) 0 false false),(K03.mk ByteArray.empty 0 false false),(K03.mk (ByteArray.mk #[97,100,100]) 2 false false),(K03.mk (ByteArray.mk #[105,102]) 3 false false),(K03.mk (ByteArray.mk #[112,97,105,114]) 2 false false),(K03.mk (ByteArray.mk #[115,112,108,105,116]) 2 true false),(K03.mk (ByteArray.mk #[108,101,102,116]) 1 false true),(K03.mk (ByteArray.mk #[114,105,103,104,116]) 1 false true),(K03.mk (ByteArray.mk #[99,97,115,101]) 3 true false),(K03.mk (ByteArray.mk #[102,117,110]) 1 true true),(K03.mk (ByteArray.mk #[97,112,112]) 2 false false),(K03.mk (ByteArray.mk #[98,111,120]) 1 true false),(K03.mk (ByteArray.mk #[111,112,101,110]) 2 true false)] op0) >>= fun a1 =>
 some (a1,true)
 else
 some ((K03.mk ByteArray.empty 0 false false),false)
def Kmf (op0 : Int) (r : K03 × Bool) : Prop :=
 Q75 Tryz.prog 188 [I op0] (.tup [.agg [.str r.1.fword,I r.1.fkids,.bool r.1.fgrade,.bool r.1.ftyped],.bool r.2]) []
theorem Kmg : ∀ p r,Kme p = some r → Kmf p r := by
 rintro op0 r h
 unfold Kme at h
 refine b0 Tryz.f188 K6x 25 [(0,I op0)] fun c hc => ?_
 refine rs hc none [some (.new 1),oN] [(0,I op0),(2,.ra 1 0)] [(1,.box [.str ByteArray.empty,I 0,.bool false,.bool false])] tv ?_
 refine sN ?_
 obtain ⟨a0,a1,h⟩ := Qds h
 refine rss hc none [oN,oc (.bool a0),oN] [(0,I op0),(2,.ra 1 0),(6,.bool (!a0))] (cq (Keu _ _ a1) K4k tv) ?_
 rcases is h with ⟨a2,h⟩ | ⟨a2,h⟩
 ·refine cF (!a0) (nF a2) ?_
  refine sk ?_
  obtain ⟨a3,a4,h⟩ := Qds h
  refine rs hc none [oN,oN,oN,oN,oN,oN,oN,oN,oN,oN,oN,oN,oN,some (.mk 2 true),oN,oN,some (.el (.agg [.str a3.fword,I a3.fkids,.bool a3.fgrade,.bool a3.ftyped])),oN,oN] [(2,.ra 1 0),(3,.bool true)] [(1,.box [.str a3.fword,I a3.fkids,.bool a3.fgrade,.bool a3.ftyped])] (ab (Qdx (enc := K0i) a4) (Qdw (enc := K0i) (x := .agg [.str a3.fword,I a3.fkids,.bool a3.fgrade,.bool a3.ftyped]) a4 (K14 a3)).2 tv) ?_
  refine rt ?_
  obtain rfl := os h
  exact rq [true,true]
 refine cT (!a0) (nT a2) ?_
 refine K7e hc 3 [(2,.ra 1 0),(3,.bool false)] ?_
 refine rt ?_
 obtain rfl := os h
 exact rq [true,true]
def Kmh (g0 : Int) : Option (Bool) :=
 (Kes (g0,(-1),15)) >>= fun a0 =>
 some a0
def Kmi (g0 : Int) (r : Bool) : Prop :=
 Q75 Tryz.prog 189 [I g0] (.bool r) []
theorem Kmj : ∀ p r,Kmh p = some r → Kmi p r := by
 rintro g0 r h
 unfold Kmh at h
 refine b0 Tryz.f189 K6z 5 [(0,I g0)] fun c hc => ?_
 refine rs0 hc 1 [(0,I g0)] [] ?_
 obtain ⟨a0,a1,h⟩ := Qds h
 refine rs hc none [oN,oc (.bool a0),oN] [(2,.bool a0)] [] (cq (Keu _ _ a1) K4k tv) ?_
 refine rt ?_
 obtain rfl := os h
 exact rq [true]
def Kmk (p : Int × Int) : Option (Int) :=
 match p with
 | (op0,kid1) =>
  ((
  if (op0 == 5) = true then
  some ((kid1 == 1))
  else
  some (false)
  ) : Option (Bool)) >>= fun a0 =>
  if a0 = true then
  some 2
  else
  ((
  if (op0 == 8) = true then
  some ((decide (kid1 > 0)))
  else
  some (false)
  ) : Option (Bool)) >>= fun a1 =>
  ((
  if a1 = true then
  some (a1)
  else
  ((
  if (op0 == 9) = true then
  some ((op0 == 9))
  else
  ((
  if (op0 == 12) = true then
  some ((kid1 == 1))
  else
  some (false)
  ) : Option (Bool)) >>= fun a2 =>
  some (a2)
  ) : Option (Bool)) >>= fun a3 =>
  some (a3)
  ) : Option (Bool)) >>= fun a4 =>
  if a4 = true then
  some 1
  else
  some 0
def Kml (p : Int × Int) (r : Int) : Prop :=
 match p with
 | (op0,kid1) => Q75 Tryz.prog 199 [I op0,I kid1] (I r) []
theorem Kmm : ∀ p r,Kmk p = some r → Kml p r := by
 rintro ⟨op0,kid1⟩ r h
 unfold Kmk at h
 refine b0 Tryz.f199 K71 27 [(0,I op0),(1,I kid1)] fun c hc => ?_
 refine rs0 hc 1 [(0,I op0),(1,I kid1)] [] ?_
 refine sN ?_
 refine bk 0 ?_
 refine sN ?_
 obtain ⟨a0,a1,h⟩ := Qds h
 refine Wp.into (x := .normal) (mkS [(0,I op0),(1,I kid1),(5,.bool a0)] []) ?_ ?_
 ·replace h := a1
  rcases is h with ⟨a2,h⟩ | ⟨a2,h⟩
  ·refine rg hc none [oN,oN,oN,oN,oN,oT,oN] [(0,I op0),(1,I kid1),(5,.bool (kid1 == 1))] [] (ar 3 a2 tv) ?_
   obtain rfl := os h
   exact Qde.mk
  refine rg hc none [oN,oN,oN,o_,o_,oF,oN] [(0,I op0),(1,I kid1),(5,.bool false)] [] (ar 2 (neT a2) (ai a2 tv)) ?_
  obtain rfl := os h
  exact Qde.mk
 clear a1
 refine ic h (fun a3 h => ?_) fun a3 h => ?_
 ·refine rs0 hc 1 [(4,I 2)] [] ?_
  refine rt ?_
  obtain rfl := os h
  exact rq [true]
 refine sN ?_
 refine sN ?_
 obtain ⟨a4,a5,h⟩ := Qds h
 refine Wp.into (x := .normal) (mkS [(0,I op0),(1,I kid1),(12,.bool a4)] []) ?_ ?_
 ·replace h := a5
  rcases is h with ⟨a6,h⟩ | ⟨a6,h⟩
  ·refine rg hc none [oN,oN,oN,oN,oN,oT,oN] [(0,I op0),(1,I kid1),(12,.bool (decide (kid1 > 0)))] [] (ar 3 a6 tv) ?_
   obtain rfl := os h
   exact Qde.mk
  refine rg hc none [oN,oN,oN,o_,o_,oF,oN] [(0,I op0),(1,I kid1),(12,.bool false)] [] (ar 2 (neT a6) (ai a6 tv)) ?_
  obtain rfl := os h
  exact Qde.mk
 clear a5
 obtain ⟨a7,a8,h⟩ := Qds h
 refine Wp.into (x := .normal) (mkS [(12,.bool a7)] []) ?_ ?_
 ·replace h := a8
  refine ic h (fun a9 h => ?_) fun a9 h => ?_
  ·refine sk ?_
   obtain rfl := os h
   exact iv []
  refine rs0 hc 3 [(0,I op0),(1,I kid1),(12,.bool (op0 == 9))] [] ?_
  obtain ⟨b1,b2,h⟩ := Qds h
  refine Wp.into (x := .normal) (mkS [(12,.bool b1)] []) ?_ ?_
  ·replace h := b2
   refine ic h (fun b3 h => ?_) fun b3 h => ?_
   ·refine sk ?_
    obtain rfl := os h
    exact iv []
   obtain ⟨b4,b5,h⟩ := Qds h
   refine Wp.into (x := .normal) (mkS [(12,.bool b4)] []) ?_ ?_
   ·replace h := b5
    rcases is h with ⟨b6,h⟩ | ⟨b6,h⟩
    ·refine rg hc none [oN,oN,oN,oN,oN,oT,oN] [(12,.bool (kid1 == 1))] [] (ar 3 b6 tv) ?_
     obtain rfl := os h
     exact Qde.mk
    refine rg hc none [oN,oN,oN,o_,o_,oF,oN] [(12,.bool false)] [] (ar 2 (neT b6) (ai b6 tv)) ?_
    obtain rfl := os h
    exact Qde.mk
   clear b5
   obtain rfl := os h
   exact Qde.mk
  clear b2
  obtain rfl := os h
  exact Qde.mk
 clear a8
 refine ic h (fun b7 h => ?_) fun b7 h => ?_
 ·refine rs0 hc 1 [(4,I 1)] [] ?_
  refine rt ?_
  obtain rfl := os h
  exact rq [true]
 refine sk ?_
 refine rs0 hc 1 [(4,I 0)] [] ?_
 refine rt ?_
 obtain rfl := os h
 exact rq [true]
def Kmn (c : Ctx) : (Int) ⊕ (Int) → Exit → Q0a → Prop
 | .inl a0 => Qde c (.exit 1) (mkS [(4,I a0)] [])
 | .inr r => Qdn TIx Tryz.f134 [] (I r)
def Kmo : Option (List (List Nat)) := rh [0,1,2,2,4,5,6,7,7,7,7,7,12,13,14,15,15,15,15,15,20,15,15,23,24,25,26]
mutual
def Kmp (p : K01 × Int × Int) : Option (Int) :=
 match p with
 | (t0,n1,nodes4) =>
  (Kme t0.fOp) >>= fun (a0,a1) =>
  ((
  if a1 = true then
  if (decide ((wr (nodes4 + 1)) > 400)) = true then
   some (true)
  else
   some (((t0.fKids.length : Int) != a0.fkids))
  else
  some (true)
  ) : Option (Bool)) >>= fun a2 =>
  if a2 = true then
  some 401
  else
  ((
  if (t0.fOp == 0) = true then
   (Kes (t0.fN,0,(wr (n1 - 1)))) >>= fun a3 =>
   some (a3)
  else
   ((
   if (t0.fOp == 1) = true then
   (Kes (t0.fN,0,2)) >>= fun a4 =>
   some (a4)
   else
   ((
   if a0.fgrade = true then
   (Kmh t0.fN) >>= fun a5 =>
   some (a5)
   else
   some ((t0.fN == 0))
   ) : Option (Bool)) >>= fun a6 =>
   some (a6)
   ) : Option (Bool)) >>= fun a7 =>
   some (a7)
  ) : Option (Bool)) >>= fun a8 =>
  ((
  if a0.ftyped = true then
   ((
   if a8 = true then
   (Kgz t0.fType) >>= fun a9 =>
   some (a9)
   else
   some (false)
   ) : Option (Bool)) >>= fun b1 =>
   some (b1)
  else
   ((
   if a8 = true then
   some (((t0.fType.length : Int) == 0))
   else
   some (false)
   ) : Option (Bool)) >>= fun b2 =>
   some (b2)
  ) : Option (Bool)) >>= fun b3 =>
  if b3 = true then
  (Kmq (t0,n1,(wr (nodes4 + 1)),0)) >>= fun fl => match fl with
  | .inl b4 =>
   some b4
  | .inr r =>
   some r
  else
  some 401
 partial_fixpoint
def Kmq (p : K01 × Int × Int × Int) : Option ((Int) ⊕ (Int)) :=
 match p with
 | (t0,n1,a0,a1) =>
  if (decide (a1 < (t0.fKids.length : Int))) = true then
  (idx t0.fKids a1) >>= fun a2 =>
  (Kmk (t0.fOp,a1)) >>= fun a3 =>
  (Kmp (a2,(wr (n1 + a3)),a0)) >>= fun a4 =>
  if (decide (a4 > 400)) = true then
  some (.inr 401)
  else
  Kmq (t0,n1,a4,(wr (a1 + 1)))
  else
  some (.inl a0)
 partial_fixpoint
end
def Kmr (p : K01 × Int × Int) (r : Int) : Prop :=
 match p with
 | (t0,n1,nodes4) => Q75 Tryz.prog 134 [K1c t0,I n1,.fn 189 [],.fn 159 [],I nodes4] (I r) []
def Kms (p : K01 × Int × Int × Int) (fl : (Int) ⊕ (Int)) : Prop :=
 match p with
 | (t0,n1,a0,a1) => ∀ c : Ctx,c.nt = 104 → WpL Tryz.prog c (cl (cl (cr (cl (cr (cr (cr (cr (cr (cr (cr K73))))))))))) (Kmn c fl) (mkS [(1,I n1),(2,.fn 189 []),(3,.fn 159 []),(4,I a0),(5,.ra 1 0),(82,.sl (List.map K06 t0.fKids)),(83,I (t0.fKids.length : Int)),(84,I a1)] [(1,K1b t0)])
theorem Kmt : (∀ p r,Kmp p = some r → Kmr p r) ∧ (∀ p r,Kmq p = some r → Kms p r) := by
 refine Kmp.mutual_partial_correctness Kmr Kms ?_ ?_
 ·rintro impl_check_Kimpl_writtenSize_c1_Kimpl_isWrittenType_l0_f impl_check_Kimpl_writtenSize_c1_Kimpl_isWrittenType_l0_ih ⟨t0,n1,nodes4⟩ r h
  refine b0 Tryz.f134 K73 104 [(0,K1c t0),(1,I n1),(2,.fn 189 []),(3,.fn 159 []),(4,I nodes4)] fun c hc => ?_
  refine rs hc none [some (.new 1),oN] [(1,I n1),(2,.fn 189 []),(3,.fn 159 []),(4,I nodes4),(5,.ra 1 0)] [(1,K1b t0)] tv ?_
  refine K7e hc 3 [(1,I n1),(2,.fn 189 []),(3,.fn 159 []),(4,I (wr (nodes4 + 1))),(5,.ra 1 0)] ?_
  obtain ⟨⟨a0,a1⟩,a2,h⟩ := Qds h
  refine rs hc none [oN,oN,oc (.tup [.agg [.str a0.fword,I a0.fkids,.bool a0.fgrade,.bool a0.ftyped],.bool a1]),oN,oN,oN,some (.new 2),oN,oN] [(1,I n1),(2,.fn 189 []),(3,.fn 159 []),(4,I (wr (nodes4 + 1))),(5,.ra 1 0),(11,.ra 2 0),(12,.bool a1)] [(1,K1b t0),(2,.box [.str a0.fword,I a0.fkids,.bool a0.fgrade,.bool a0.ftyped])] (cq (Kmg _ _ a2) K6y tv) ?_
  refine sN ?_
  refine sN ?_
  obtain ⟨a3,a4,h⟩ := Qds h
  refine Wp.into (x := .normal) (mkS [(1,I n1),(2,.fn 189 []),(3,.fn 159 []),(4,I (wr (nodes4 + 1))),(5,.ra 1 0),(11,.ra 2 0),(36,.bool a3)] [(1,K1b t0),(2,.box [.str a0.fword,I a0.fkids,.bool a0.fgrade,.bool a0.ftyped])]) ?_ ?_
  ·replace h := a4
   rcases is h with ⟨a5,h⟩ | ⟨a5,h⟩
   ·rcases is h with ⟨a6,h⟩ | ⟨a6,h⟩
    ·refine rgs hc none [oN,oN,oN,oN,oN,oF,oN,o_,o_,o_,o_,o_,o_,oT] [(1,I n1),(2,.fn 189 []),(3,.fn 159 []),(4,I (wr (nodes4 + 1))),(5,.ra 1 0),(11,.ra 2 0),(36,.bool true)] (ar 3 (nF a5) (ar 6 (neF a6) (ai a6 tv))) ?_
     obtain rfl := os h
     exact Qde.mk
    refine rgs hc none [oN,oN,oN,oN,oN,oF,oN,oN,oN,some (.eqv (.no) ⟨[(32,I (t0.fKids.length : Int))],[],[]⟩),oN,oN,oN,oF] [(1,I n1),(2,.fn 189 []),(3,.fn 159 []),(4,I (wr (nodes4 + 1))),(5,.ra 1 0),(11,.ra 2 0),(36,.bool ((t0.fKids.length : Int) != a0.fkids))] (ar 3 (nF a5) (ar 3 a6 (ai (Qdy (d := 32) K06 t0.fKids) (ar 4 a6 tv)))) ?_
    obtain rfl := os h
    exact Qde.mk
   refine rgs hc none [oN,oN,oN,o_,o_,oT,oN,o_,o_,o_,o_,o_,o_,oT] [(1,I n1),(2,.fn 189 []),(3,.fn 159 []),(4,I (wr (nodes4 + 1))),(5,.ra 1 0),(11,.ra 2 0),(36,.bool true)] (ar 2 (neF (nT a5)) (ai (nT a5) (ar 6 nf (ai tt tv)))) ?_
   obtain rfl := os h
   exact Qde.mk
  clear a4
  refine ic h (fun a7 h => ?_) fun a7 h => ?_
  ·refine rs0 hc 1 [(10,I 401)] [] ?_
   refine rt ?_
   obtain rfl := os h
   exact rq [true]
  refine sk ?_
  refine sN ?_
  refine bk 0 ?_
  refine K7e hc 4 [(1,I n1),(2,.fn 189 []),(3,.fn 159 []),(4,I (wr (nodes4 + 1))),(5,.ra 1 0),(11,.ra 2 0),(40,.bool (t0.fOp == 0))] ?_
  obtain ⟨a8,a9,h⟩ := Qds h
  refine Wp.into (x := .normal) (mkS [(1,I n1),(2,.fn 189 []),(3,.fn 159 []),(4,I (wr (nodes4 + 1))),(5,.ra 1 0),(11,.ra 2 0),(12,.bool a8)] [(1,K1b t0),(2,.box [.str a0.fword,I a0.fkids,.bool a0.fgrade,.bool a0.ftyped])]) ?_ ?_
  ·replace h := a9
   refine ic h (fun b1 h => ?_) fun b1 h => ?_
   ·obtain ⟨b2,b3,h⟩ := Qds h
    refine rgs hc none [oN,oN,oN,oN,oc (.bool b2),oN] [(1,I n1),(2,.fn 189 []),(3,.fn 159 []),(4,I (wr (nodes4 + 1))),(5,.ra 1 0),(11,.ra 2 0),(12,.bool b2)] (cq (Keu _ _ b3) K4k tv) ?_
    obtain rfl := os h
    exact Qde.mk
   refine K7e hc 4 [(1,I n1),(2,.fn 189 []),(3,.fn 159 []),(4,I (wr (nodes4 + 1))),(5,.ra 1 0),(11,.ra 2 0),(49,.bool (t0.fOp == 1))] ?_
   obtain ⟨b4,b5,h⟩ := Qds h
   refine Wp.into (x := .normal) (mkS [(1,I n1),(2,.fn 189 []),(3,.fn 159 []),(4,I (wr (nodes4 + 1))),(5,.ra 1 0),(11,.ra 2 0),(12,.bool b4)] [(1,K1b t0),(2,.box [.str a0.fword,I a0.fkids,.bool a0.fgrade,.bool a0.ftyped])]) ?_ ?_
   ·replace h := b5
    refine ic h (fun b6 h => ?_) fun b6 h => ?_
    ·obtain ⟨b7,b8,h⟩ := Qds h
     refine rgs hc none [oN,oN,oc (.bool b7),oN] [(1,I n1),(2,.fn 189 []),(3,.fn 159 []),(4,I (wr (nodes4 + 1))),(5,.ra 1 0),(11,.ra 2 0),(12,.bool b7)] (cq (Keu _ _ b8) K4k tv) ?_
     obtain rfl := os h
     exact Qde.mk
    refine K7e hc 3 [(1,I n1),(2,.fn 189 []),(3,.fn 159 []),(4,I (wr (nodes4 + 1))),(5,.ra 1 0),(11,.ra 2 0),(56,.bool a0.fgrade)] ?_
    obtain ⟨b9,c0,h⟩ := Qds h
    refine Wp.into (x := .normal) (mkS [(1,I n1),(2,.fn 189 []),(3,.fn 159 []),(4,I (wr (nodes4 + 1))),(5,.ra 1 0),(11,.ra 2 0),(12,.bool b9)] [(1,K1b t0),(2,.box [.str a0.fword,I a0.fkids,.bool a0.fgrade,.bool a0.ftyped])]) ?_ ?_
    ·replace h := c0
     refine ic h (fun c1 h => ?_) fun c1 h => ?_
     ·obtain ⟨c2,c3,h⟩ := Qds h
      refine rgs hc none [oN,oN,oN,oc (.bool c2),oN] [(1,I n1),(2,.fn 189 []),(3,.fn 159 []),(4,I (wr (nodes4 + 1))),(5,.ra 1 0),(11,.ra 2 0),(12,.bool c2)] (cq (Kmj _ _ c3) K70 tv) ?_
      obtain rfl := os h
      exact Qde.mk
     refine K7d hc 4 [(1,I n1),(2,.fn 189 []),(3,.fn 159 []),(4,I (wr (nodes4 + 1))),(5,.ra 1 0),(11,.ra 2 0),(12,.bool (t0.fN == 0))] ?_
     obtain rfl := os h
     exact Qde.mk
    clear c0
    obtain rfl := os h
    exact Qde.mk
   clear b5
   obtain rfl := os h
   exact Qde.mk
  clear a9
  refine sN ?_
  refine rs0 hc 2 [(1,I n1),(2,.fn 189 []),(3,.fn 159 []),(4,I (wr (nodes4 + 1))),(5,.ra 1 0),(12,.bool a8),(64,.bool a0.ftyped)] [(1,K1b t0)] ?_
  obtain ⟨c4,c5,h⟩ := Qds h
  refine Wp.into (x := .normal) (mkS [(1,I n1),(2,.fn 189 []),(3,.fn 159 []),(4,I (wr (nodes4 + 1))),(5,.ra 1 0),(12,.bool c4)] [(1,K1b t0)]) ?_ ?_
  ·replace h := c5
   refine ic h (fun c6 h => ?_) fun c6 h => ?_
   ·obtain ⟨c7,c8,h⟩ := Qds h
    refine Wp.into (x := .normal) (mkS [(1,I n1),(2,.fn 189 []),(3,.fn 159 []),(4,I (wr (nodes4 + 1))),(5,.ra 1 0),(12,.bool c7)] [(1,K1b t0)]) ?_ ?_
    ·replace h := c8
     rcases is h with ⟨c9,h⟩ | ⟨c9,h⟩
     ·obtain ⟨d0,d1,h⟩ := Qds h
      refine rgs hc none [oN,oN,oN,oN,oN,oc (.bool d0),oT,oN] [(1,I n1),(2,.fn 189 []),(3,.fn 159 []),(4,I (wr (nodes4 + 1))),(5,.ra 1 0),(12,.bool d0)] (ar 4 c9 (cq (Kh1 _ _ d1) K55 (ai c9 tv))) ?_
      obtain rfl := os h
      exact Qde.mk
     refine rgs hc none [oN,oN,o_,o_,o_,o_,oF,oN] [(1,I n1),(2,.fn 189 []),(3,.fn 159 []),(4,I (wr (nodes4 + 1))),(5,.ra 1 0),(12,.bool false)] (ar 4 (neT c9) (ai c9 tv)) ?_
     obtain rfl := os h
     exact Qde.mk
    clear c8
    obtain rfl := os h
    exact Qde.mk
   obtain ⟨d2,d3,h⟩ := Qds h
   refine Wp.into (x := .normal) (mkS [(1,I n1),(2,.fn 189 []),(3,.fn 159 []),(4,I (wr (nodes4 + 1))),(5,.ra 1 0),(12,.bool d2)] [(1,K1b t0)]) ?_ ?_
   ·replace h := d3
    rcases is h with ⟨d4,h⟩ | ⟨d4,h⟩
    ·refine rgs hc none [oN,oN,oN,oN,some (.eqv (.no) ⟨[(76,I (t0.fType.length : Int))],[],[]⟩),oN,oT,oN] [(1,I n1),(2,.fn 189 []),(3,.fn 159 []),(4,I (wr (nodes4 + 1))),(5,.ra 1 0),(12,.bool ((t0.fType.length : Int) == 0))] (ar 3 d4 (ai (Qdy (d := 76) I t0.fType) (ar 2 d4 tv))) ?_
     obtain rfl := os h
     exact Qde.mk
    refine rgs hc none [oN,oN,o_,o_,o_,o_,oF,oN] [(1,I n1),(2,.fn 189 []),(3,.fn 159 []),(4,I (wr (nodes4 + 1))),(5,.ra 1 0),(12,.bool false)] (ar 4 (neT d4) (ai d4 tv)) ?_
    obtain rfl := os h
    exact Qde.mk
   clear d3
   obtain rfl := os h
   exact Qde.mk
  clear c5
  refine sN ?_
  refine K7e hc 2 [(1,I n1),(2,.fn 189 []),(3,.fn 159 []),(4,I (wr (nodes4 + 1))),(5,.ra 1 0),(80,.bool (!c4))] ?_
  rcases is h with ⟨d5,h⟩ | ⟨d5,h⟩
  ·refine cF (!c4) (nF d5) ?_
   refine sk ?_
   refine sN ?_
   refine rss hc none [oN,oN,some (.eqv (.no) ⟨[(83,I (t0.fKids.length : Int))],[],[]⟩),oN] [(1,I n1),(2,.fn 189 []),(3,.fn 159 []),(4,I (wr (nodes4 + 1))),(5,.ra 1 0),(82,.sl (List.map K06 t0.fKids)),(83,I (t0.fKids.length : Int)),(84,I 0)] (ai (Qdy (d := 83) K06 t0.fKids) tv) ?_
   refine bk 1 ?_
   obtain ⟨fl,d6,h⟩ := Qds h
   have hL := impl_check_Kimpl_writtenSize_c1_Kimpl_isWrittenType_l0_ih _ _ d6 c hc
   refine lp ?_
   rcases fl with d7 | r
   ·refine WpL.into (e := (.exit 1)) (mkS [(4,I d7)] []) hL ?_
    refine Qd6 ?_
    refine rs0 hc 2 [(10,I d7)] [] ?_
    refine rt ?_
    obtain rfl := os h
    exact rq [true]
   refine WpL.mono hL ?_
   rintro _ _ ⟨rfl,hfin⟩
   obtain rfl := os h
   exact ⟨.inl rfl,hfin⟩
  refine cT (!c4) (nT d5) ?_
  refine rs0 hc 1 [(10,I 401)] [] ?_
  refine rt ?_
  obtain rfl := os h
  exact rq [true]
 ·rintro impl_check_Kimpl_writtenSize_c1_Kimpl_isWrittenType_f impl_check_Kimpl_writtenSize_c1_Kimpl_isWrittenType_l0_f impl_check_Kimpl_writtenSize_c1_Kimpl_isWrittenType_ih impl_check_Kimpl_writtenSize_c1_Kimpl_isWrittenType_l0_ih ⟨t0,n1,d8,d9⟩ r h
  intro c hc
  refine WpL.step ?_
  refine K7e hc 1 [(1,I n1),(2,.fn 189 []),(3,.fn 159 []),(4,I d8),(5,.ra 1 0),(82,.sl (List.map K06 t0.fKids)),(83,I (t0.fKids.length : Int)),(84,I d9),(85,.bool (decide (d9 < (t0.fKids.length : Int))))] ?_
  refine sN ?_
  refine ic h (fun e0 h => ?_) fun e0 h => ?_
  ·refine sk ?_
   refine sN ?_
   refine bk 2 ?_
   obtain ⟨e1,e2,h⟩ := Qds h
   refine rs hc none [oN,some (.el (K1c e1)),oN,some (.new 4),oN,oN] [(1,I n1),(2,.fn 189 []),(3,.fn 159 []),(4,I d8),(5,.ra 1 0),(13,I d9),(14,.ra 4 0),(82,.sl (List.map K06 t0.fKids)),(83,I (t0.fKids.length : Int)),(84,I d9)] [(1,K1b t0),(4,K1b e1)] (ai (Qdw e2 (K0d e1)) tv) ?_
   obtain ⟨e3,e4,e5,e6,h⟩ := bq2 h
   refine rs hc (rx [[0],[0],[0],[0,2],[0],[0,2,3,4],[0,1,2,3,4,5],[0],[0],[0],[10],[11]]) [oN,oN,oN,oN,oN,oc (I e3),oN,oN,oN,oN,oc (I e5),oN] [(1,I n1),(2,.fn 189 []),(3,.fn 159 []),(4,I e5),(5,.ra 1 0),(82,.sl (List.map K06 t0.fKids)),(83,I (t0.fKids.length : Int)),(84,I d9)] [(1,K1b t0)] (cq (Kmm _ _ e4) K72 (cq (impl_check_Kimpl_writtenSize_c1_Kimpl_isWrittenType_ih _ _ e6) K74 tv)) ?_
   refine K7e hc 2 [(1,I n1),(2,.fn 189 []),(3,.fn 159 []),(4,I e5),(5,.ra 1 0),(82,.sl (List.map K06 t0.fKids)),(83,I (t0.fKids.length : Int)),(84,I d9),(101,.bool (decide (e5 > 400)))] ?_
   refine ic h (fun e7 h => ?_) fun e7 h => ?_
   ·refine rs0 hc 1 [(10,I 401)] [] ?_
    refine rt ?_
    obtain rfl := os h
    exact re [true]
   refine sk ?_
   refine K7d hc 2 [(1,I n1),(2,.fn 189 []),(3,.fn 159 []),(4,I e5),(5,.ra 1 0),(82,.sl (List.map K06 t0.fKids)),(83,I (t0.fKids.length : Int)),(84,I (wr (d9 + 1)))] ?_
   refine Qda ?_
   exact (impl_check_Kimpl_writtenSize_c1_Kimpl_isWrittenType_l0_ih _ _ h c hc)
  refine xt 1 ?_
  refine Qd4 ?_
  refine Qdb ?_
  obtain rfl := os h
  exact iv []
theorem Kmu : ∀ p r,Kmp p = some r → Kmr p r := Kmt.1
theorem Kmv : ∀ p r,Kmq p = some r → Kms p r := Kmt.2
def Kmw (t0 : K01) : Option (Int) :=
 (Kmp (t0,8,0)) >>= fun a0 =>
 some a0
def Kmx (t0 : K01) (r : Int) : Prop :=
 Q75 Tryz.prog 112 [K1c t0] (I r) []
theorem Kmy : ∀ p r,Kmw p = some r → Kmx p r := by
 rintro t0 r h
 unfold Kmw at h
 refine b0 Tryz.f112 K75 5 [(0,K1c t0)] fun c hc => ?_
 refine rs hc none [some (.new 1),oN] [(1,.ra 1 0)] [(1,K1b t0)] tv ?_
 obtain ⟨a0,a1,h⟩ := Qds h
 refine rs hc none [oN,oc (I a0),oN] [(2,I a0)] [] (cq (Kmu _ _ a1) K74 tv) ?_
 refine rt ?_
 obtain rfl := os h
 exact rq [true]
def Kmz (t0 : K01) : Option (Bool) :=
 (Kmw t0) >>= fun a0 =>
 some (decide (a0 ≤ 400))
def Kn0 (t0 : K01) (r : Bool) : Prop :=
 Q75 Tryz.prog 40 [K1c t0] (.bool r) []
theorem Kn1 : ∀ p r,Kmz p = some r → Kn0 p r := by
 rintro t0 r h
 unfold Kmz at h
 refine b0 Tryz.f40 B40 6 [(0,K1c t0)] fun c hc => ?_
 refine rs hc none [some (.new 1),oN] [(1,.ra 1 0)] [(1,K1b t0)] tv ?_
 obtain ⟨a0,a1,h⟩ := Qds h
 refine rs hc none [oN,oc (I a0),oN,oN] [(2,.bool (decide (a0 ≤ 400)))] [] (cq (Kmy _ _ a1) K76 tv) ?_
 refine rt ?_
 obtain rfl := os h
 exact rq [true]
def Kn2 (c : Ctx) : (Unit) ⊕ (Bool) → Exit → Q0a → Prop
 | .inl _ => Qde c (.exit 0) (mkS [] [])
 | .inr r => Qdn TIx Tryz.f180 [] (.bool r)
mutual
def Kn3 (p : K01 × K01) : Option (Bool) :=
 match p with
 | (a0,b1) =>
  ((
  if (a0.fOp == b1.fOp) = true then
  if (a0.fN == b1.fN) = true then
  (Ki3 (a0.fType,b1.fType)) >>= fun a1 =>
  if a1 = true then
  (Kn4 (a0.fKids,b1.fKids)) >>= fun a2 =>
  some (a2)
  else
  some (false)
  else
  some (false)
  else
  some (false)
  ) : Option (Bool)) >>= fun a3 =>
  some a3
 partial_fixpoint
def Kn4 (p : (List K01) × (List K01)) : Option (Bool) :=
 match p with
 | (s10,s21) =>
  if ((s10.length : Int) != (s21.length : Int)) = true then
  some false
  else
  (Kn5 (s10,s21,0)) >>= fun fl => match fl with
  | .inl () =>
   some true
  | .inr r =>
   some r
 partial_fixpoint
def Kn5 (p : (List K01) × (List K01) × Int) : Option ((Unit) ⊕ (Bool)) :=
 match p with
 | (s10,s21,a0) =>
  if (decide (a0 < (s10.length : Int))) = true then
  (idx s10 a0) >>= fun a1 =>
  (idx s21 a0) >>= fun a2 =>
  (Kn3 (a1,a2)) >>= fun a3 =>
  if a3 = true then
  Kn5 (s10,s21,(wr (a0 + 1)))
  else
  some (.inr false)
  else
  some (.inl ())
 partial_fixpoint
end
def Kn6 (p : K01 × K01) (r : Bool) : Prop :=
 match p with
 | (a0,b1) => Q75 Tryz.prog 98 [K1c a0,K1c b1] (.bool r) []
def Kn7 (p : (List K01) × (List K01)) (r : Bool) : Prop :=
 match p with
 | (s10,s21) => Q75 Tryz.prog 180 [.sl (List.map K06 s10),.sl (List.map K06 s21),.fn 98 []] (.bool r) []
def Kn8 (p : (List K01) × (List K01) × Int) (fl : (Unit) ⊕ (Bool)) : Prop :=
 match p with
 | (s10,s21,a0) => ∀ c : Ctx,c.nt = 32 → WpL Tryz.prog c (cl (cl (cr (cl (cr (cr K78)))))) (Kn2 c fl) (mkS [(1,.sl (List.map K06 s21)),(2,.fn 98 []),(15,.sl (List.map K06 s10)),(16,I (s10.length : Int)),(17,I a0)] [])
theorem Kn9 : (∀ p r,Kn3 p = some r → Kn6 p r) ∧ (∀ p r,Kn4 p = some r → Kn7 p r) ∧ (∀ p r,Kn5 p = some r → Kn8 p r) := by
 refine Kn3.mutual_partial_correctness Kn6 Kn7 Kn8 ?_ ?_ ?_
 ·rintro slices_EqualFunc_Term_Kimpl_same_f slices_EqualFunc_Term_Kimpl_same_ih ⟨a0,b1⟩ r h
  refine b0 Tryz.f98 B98 31 [(0,K1c a0),(1,K1c b1)] fun c hc => ?_
  refine rs hc none [some (.new 1),some (.new 2),oN] [(2,.ra 1 0),(3,.ra 2 0)] [(1,K1b a0),(2,K1b b1)] tv ?_
  refine sN ?_
  obtain ⟨a1,a2,h⟩ := Qds h
  refine Wp.into (x := .normal) (mkS [(4,.bool a1)] []) ?_ ?_
  ·replace h := a2
   rcases is h with ⟨a3,h⟩ | ⟨a3,h⟩
   ·rcases is h with ⟨a4,h⟩ | ⟨a4,h⟩
    ·obtain ⟨a5,a6,h⟩ := Qds h
     rcases is h with ⟨a7,h⟩ | ⟨a7,h⟩
     ·obtain ⟨a8,a9,h⟩ := Qds h
      refine rg hc none [oN,oN,oN,oN,oN,oN,oN,oN,oN,oN,oN,oT,oN,oN,oN,oN,oN,oc (.bool a5),oT,oN,oN,oN,oN,oN,oc (.bool a8),oT,oN] [(4,.bool a8)] [] (ar 6 a3 (ar 5 a4 (cq (Ki5 _ _ a6) K5j (ai a4 (ar 5 a7 (cq (slices_EqualFunc_Term_Kimpl_same_ih _ _ a9) K79 (ai a7 tv))))))) ?_
      obtain rfl := os h
      exact Qde.mk
     refine rg hc none [oN,oN,oN,oN,oN,oN,oN,oN,oN,oN,oN,oT,oN,oN,oN,oN,oN,oc (.bool a5),oT,oN,o_,o_,o_,o_,o_,oF,oN] [(4,.bool false)] [] (ar 6 a3 (ar 5 a4 (cq (Ki5 _ _ a6) K5j (ai a4 (ar 5 (neT a7) (ai a7 tv)))))) ?_
     obtain rfl := os h
     exact Qde.mk
    refine rg hc none [oN,oN,oN,oN,oN,oN,oN,oN,oN,oN,oN,oT,oN,o_,o_,o_,o_,o_,oF,oN,o_,o_,o_,o_,o_,oF,oN] [(4,.bool false)] [] (ar 6 a3 (ar 5 (neT a4) (ai a4 (ar 5 (neT (rfl : false = false)) (ai (rfl : false = false) tv))))) ?_
    obtain rfl := os h
    exact Qde.mk
   refine rg hc none [oN,oN,oN,oN,oN,oN,o_,o_,o_,o_,o_,oF,oN,o_,o_,o_,o_,o_,oF,oN,o_,o_,o_,o_,o_,oF,oN] [(4,.bool false)] [] (ar 5 (neT a3) (ai a3 (ar 5 (neT (rfl : false = false)) (ai (rfl : false = false) (ar 5 (neT (rfl : false = false)) (ai (rfl : false = false) tv)))))) ?_
   obtain rfl := os h
   exact Qde.mk
  clear a2
  refine rt ?_
  obtain rfl := os h
  exact rq [true]
 ·rintro slices_EqualFunc_Term_Kimpl_same_l0_f slices_EqualFunc_Term_Kimpl_same_l0_ih ⟨s10,s21⟩ r h
  refine b0 Tryz.f180 K78 32 [(0,.sl (List.map K06 s10)),(1,.sl (List.map K06 s21)),(2,.fn 98 [])] fun c hc => ?_
  refine rs0 hc 1 [(0,.sl (List.map K06 s10)),(1,.sl (List.map K06 s21)),(2,.fn 98 [])] [] ?_
  refine sN ?_
  refine rs hc none [oN,some (.eqv (.no) ⟨[(11,I (s10.length : Int))],[],[]⟩),oN,some (.eqv (.no) ⟨[(13,I (s21.length : Int))],[],[]⟩),oN] [(0,.sl (List.map K06 s10)),(1,.sl (List.map K06 s21)),(2,.fn 98 []),(14,.bool ((s10.length : Int) != (s21.length : Int)))] [] (ab (Qdy (d := 11) K06 s10) (Qdy (d := 13) K06 s21) tv) ?_
  refine ic h (fun b2 h => ?_) fun b2 h => ?_
  ·refine rs0 hc 1 [(6,.bool false)] [] ?_
   refine rt ?_
   obtain rfl := os h
   exact rq [true]
  refine sk ?_
  refine sN ?_
  refine rs hc none [oN,some (.eqv (.no) ⟨[(16,I (s10.length : Int))],[],[]⟩),oN] [(1,.sl (List.map K06 s21)),(2,.fn 98 []),(15,.sl (List.map K06 s10)),(16,I (s10.length : Int)),(17,I 0)] [] (ai (Qdy (d := 16) K06 s10) tv) ?_
  refine bk 0 ?_
  obtain ⟨fl,b3,h⟩ := Qds h
  have hL := slices_EqualFunc_Term_Kimpl_same_l0_ih _ _ b3 c hc
  refine lp ?_
  rcases fl with ⟨⟩ | r
  ·refine WpL.into (e := (.exit 0)) (mkS [] []) hL ?_
   refine Qd6 ?_
   refine rs0 hc 1 [(6,.bool true)] [] ?_
   refine rt ?_
   obtain rfl := os h
   exact rq [true]
  refine WpL.mono hL ?_
  rintro _ _ ⟨rfl,hfin⟩
  obtain rfl := os h
  exact ⟨.inl rfl,hfin⟩
 ·rintro impl_same_f slices_EqualFunc_Term_Kimpl_same_l0_f impl_same_ih slices_EqualFunc_Term_Kimpl_same_l0_ih ⟨s10,s21,b4⟩ r h
  intro c hc
  refine WpL.step ?_
  refine rs0 hc 1 [(1,.sl (List.map K06 s21)),(2,.fn 98 []),(15,.sl (List.map K06 s10)),(16,I (s10.length : Int)),(17,I b4),(18,.bool (decide (b4 < (s10.length : Int))))] [] ?_
  refine sN ?_
  refine ic h (fun b5 h => ?_) fun b5 h => ?_
  ·refine sk ?_
   refine sN ?_
   refine bk 1 ?_
   obtain ⟨b6,b7,h⟩ := Qds h
   refine rs hc none [oN,some (.el (K1c b6)),oN,some (.new 3),oN,oN] [(1,.sl (List.map K06 s21)),(2,.fn 98 []),(7,I b4),(8,.ra 3 0),(15,.sl (List.map K06 s10)),(16,I (s10.length : Int)),(17,I b4)] [(3,K1b b6)] (ai (Qdw b7 (K0d b6)) tv) ?_
   obtain ⟨b8,b9,h⟩ := Qds h
   refine rs hc none [oN,oN,some (.el (K1c b8)),oN,some (.new 4),oN] [(1,.sl (List.map K06 s21)),(2,.fn 98 []),(8,.ra 3 0),(9,.ra 4 0),(15,.sl (List.map K06 s10)),(16,I (s10.length : Int)),(17,I b4)] [(3,K1b b6),(4,K1b b8)] (ai (Qdw b9 (K0d b8)) tv) ?_
   obtain ⟨c0,c1,h⟩ := Qds h
   refine rs hc none [oN,oN,oN,oc (.bool c0),oN] [(1,.sl (List.map K06 s21)),(2,.fn 98 []),(15,.sl (List.map K06 s10)),(16,I (s10.length : Int)),(17,I b4),(30,.bool (!c0))] [] (cq (impl_same_ih _ _ c1) K7a tv) ?_
   rcases is h with ⟨c2,h⟩ | ⟨c2,h⟩
   ·refine cF (!c0) (nF c2) ?_
    refine sk ?_
    refine rg0 hc 2 [(1,.sl (List.map K06 s21)),(2,.fn 98 []),(15,.sl (List.map K06 s10)),(16,I (s10.length : Int)),(17,I (wr (b4 + 1)))] [] ?_
    refine Qda ?_
    exact (slices_EqualFunc_Term_Kimpl_same_l0_ih _ _ h c hc)
   refine cT (!c0) (nT c2) ?_
   refine rs0 hc 1 [(6,.bool false)] [] ?_
   refine rt ?_
   obtain rfl := os h
   exact re [true]
  refine xt 0 ?_
  refine Qd4 ?_
  refine Qdb ?_
  obtain rfl := os h
  exact iv []
theorem Kna : ∀ p r,Kn3 p = some r → Kn6 p r := Kn9.1
theorem Knb : ∀ p r,Kn4 p = some r → Kn7 p r := Kn9.2.1
theorem Knc : ∀ p r,Kn5 p = some r → Kn8 p r := Kn9.2.2
def Knd (p : K01 × K01) : Option (Bool) :=
 match p with
 | (a0,b1) =>
  ((
  (Kmz a0) >>= fun a1 =>
  if a1 = true then
  (Kmz b1) >>= fun a2 =>
  if a2 = true then
  (Kn3 (a0,b1)) >>= fun a3 =>
  some (a3)
  else
  some (false)
  else
  some (false)
  ) : Option (Bool)) >>= fun a4 =>
  some a4
def Kne (p : K01 × K01) (r : Bool) : Prop :=
 match p with
 | (a0,b1) => Q75 Tryz.prog 31 [K1c a0,K1c b1] (.bool r) []
theorem Knf : ∀ p r,Knd p = some r → Kne p r := by
 rintro ⟨a0,b1⟩ r h
 unfold Knd at h
 refine b0 Tryz.f31 B31 16 [(0,K1c a0),(1,K1c b1)] fun c hc => ?_
 refine rs hc none [some (.new 1),some (.new 2),oN] [(2,.ra 1 0),(3,.ra 2 0)] [(1,K1b a0),(2,K1b b1)] tv ?_
 refine sN ?_
 obtain ⟨a1,a2,h⟩ := Qds h
 refine Wp.into (x := .normal) (mkS [(4,.bool a1)] []) ?_ ?_
 ·replace h := a2
  obtain ⟨a3,a4,h⟩ := Qds h
  rcases is h with ⟨a5,h⟩ | ⟨a5,h⟩
  ·obtain ⟨a6,a7,h⟩ := Qds h
   rcases is h with ⟨a8,h⟩ | ⟨a8,h⟩
   ·obtain ⟨a9,b2,h⟩ := Qds h
    refine rg hc none [oN,oc (.bool a3),oN,oN,oc (.bool a6),oT,oN,oN,oN,oc (.bool a9),oT,oN] [(4,.bool a9)] [] (cq (Kn1 _ _ a4) K77 (ar 2 a5 (cq (Kn1 _ _ a7) K77 (ai a5 (ar 3 a8 (cq (Kna _ _ b2) K7a (ai a8 tv))))))) ?_
    obtain rfl := os h
    exact Qde.mk
   refine rg hc none [oN,oc (.bool a3),oN,oN,oc (.bool a6),oT,oN,o_,o_,o_,oF,oN] [(4,.bool false)] [] (cq (Kn1 _ _ a4) K77 (ar 2 a5 (cq (Kn1 _ _ a7) K77 (ai a5 (ar 3 (neT a8) (ai a8 tv)))))) ?_
   obtain rfl := os h
   exact Qde.mk
  refine rg hc none [oN,oc (.bool a3),oN,o_,o_,oF,oN,o_,o_,o_,oF,oN] [(4,.bool false)] [] (cq (Kn1 _ _ a4) K77 (ar 2 (neT a5) (ai a5 (ar 3 (neT (rfl : false = false)) (ai (rfl : false = false) tv))))) ?_
  obtain rfl := os h
  exact Qde.mk
 clear a2
 refine rt ?_
 obtain rfl := os h
 exact rq [true]
def Kng (code0 : (List Int)) : Option (Bool) :=
 (K7g code0) >>= fun a0 =>
 if a0 = true then
 some true
 else
 (Kep code0) >>= fun (a1,a2,a3,a4,a5) =>
 (Kj8 (a1,a2,a3,a4)) >>= fun (a6,a7) =>
 (Kj8 (a1,a2,a3,a5)) >>= fun (a8,a9) =>
 ((
 if a7 = true then
 some ((!a9))
 else
 some (true)
 ) : Option (Bool)) >>= fun b1 =>
 if b1 = true then
 (Km5 (a1,a2,a3,a4)) >>= fun (b2,b3) =>
 (Km5 (a1,a2,a3,a5)) >>= fun (b4,b5) =>
 ((
 (Kmb (a1,a2,a3,a4,a5)) >>= fun b6 =>
 if b6 = true then
 some (false)
 else
 if b3 = true then
 some ((!b5))
 else
 some (true)
 ) : Option (Bool)) >>= fun b7 =>
 some b7
 else
 (Kj8 (a1,a2,a3,a6)) >>= fun (b8,b9) =>
 ((
 if b9 = true then
 (Knd (a6,b8)) >>= fun c0 =>
 if c0 = true then
 (Kmb (a1,a2,a3,a4,a6)) >>= fun c1 =>
 if c1 = true then
 (Kmb (a1,a2,a3,a4,a5)) >>= fun c2 =>
 (Knd (a6,a8)) >>= fun c3 =>
 some ((c2 == c3))
 else
 some (false)
 else
 some (false)
 else
 some (false)
 ) : Option (Bool)) >>= fun c4 =>
 some c4
def Knh (code0 : (List Int)) (r : Bool) : Prop :=
 Q75 Tryz.prog 6 [.sl (List.map U8 code0)] (.bool r) []
theorem Kni : ∀ p r,Kng p = some r → Knh p r := by
 rintro code0 r h
 unfold Kng at h
 refine b0 Tryz.f6 B6 115 [(0,.sl (List.map U8 code0))] fun c hc => ?_
 refine rs0 hc 1 [(0,.sl (List.map U8 code0))] [] ?_
 refine sN ?_
 obtain ⟨a0,a1,h⟩ := Qds h
 refine rs hc none [oN,oc (.bool a0)] [(0,.sl (List.map U8 code0)),(19,.bool a0)] [] (cq (K7i _ _ a1) K21 tv) ?_
 refine ic h (fun a2 h => ?_) fun a2 h => ?_
 ·refine rs0 hc 1 [(2,.bool true)] [] ?_
  refine rt ?_
  obtain rfl := os h
  exact rq [true]
 refine sk ?_
 obtain ⟨⟨a3,a4,a5,a6,a7⟩,a8,h⟩ := Qds h
 refine rs hc none [oN,oc (.tup [K1a a3,oI a4,sI a5,K1c a6,K1c a7]),oN,oN,oN,oN,oN,oN,some (.new 2),some (.new 3),some (.new 4),oN,oN,oN,oN,oN] [(3,.ra 2 0),(4,.rs 1),(5,sI a5),(6,.ra 3 0),(7,.ra 4 0)] [(1,rI a4),(2,K19 a3),(3,K1b a6),(4,K1b a7)] (cq (Ker _ _ a8) K4j tv) ?_
 obtain ⟨⟨a9,b1⟩,b2,h⟩ := Qds h
 refine rs hc none [oN,oN,oN,oN,some (.call (.tup [K1h a9,.bool b1]) [] 5),oN,oN,oN,some (.new 7),oN,oN] [(3,.ra 2 0),(4,.rs 1),(5,sI a5),(6,.ra 3 0),(7,.ra 4 0),(8,.ra 7 0),(9,.bool b1)] [(1,rI a4),(2,K19 a3),(3,K1b a6),(4,K1b a7),(5,rI a9.fType),(6,.arr (List.map K09 a9.fKids)),(7,.box [I a9.fOp,I a9.fN,.rs 5,.rs 6])] (ac (Q75.args (A1 := [K1a a3,.sl (Q02 (List.map I a4)),sI a5,K1c a6]) (A2 := [K1a a3,sI a4,sI a5,K1c a6]) (by simp only [List.map_nil,Qek]) (Kja _ _ b2)) K5u (Or.inr (Qeu (Qeu rfl (Qeu rfl (Qeu (Qes Qeo a9.fType) (Qeu (Qes K12 a9.fKids) rfl)))) (Qeu rfl rfl)) : ([1] : List Nat) = [] ∨ noSh (.tup [K1h a9,.bool b1]) = true) tv) ?_
 obtain ⟨⟨b3,b4⟩,b5,h⟩ := Qds h
 refine rs hc none [oN,oN,oN,oN,some (.call (.tup [K1h b3,.bool b4]) [] 8),oN,oN,oN,some (.new 10),oN,oN] [(3,.ra 2 0),(4,.rs 1),(5,sI a5),(6,.ra 3 0),(7,.ra 4 0),(8,.ra 7 0),(9,.bool b1),(10,.ra 10 0),(11,.bool b4)] [(1,rI a4),(2,K19 a3),(3,K1b a6),(4,K1b a7),(5,rI a9.fType),(6,.arr (List.map K09 a9.fKids)),(7,.box [I a9.fOp,I a9.fN,.rs 5,.rs 6]),(8,rI b3.fType),(9,.arr (List.map K09 b3.fKids)),(10,.box [I b3.fOp,I b3.fN,.rs 8,.rs 9])] (ac (Q75.args (A1 := [K1a a3,.sl (Q02 (List.map I a4)),sI a5,K1c a7]) (A2 := [K1a a3,sI a4,sI a5,K1c a7]) (by simp only [List.map_nil,Qek]) (Kja _ _ b5)) K5u (Or.inr (Qeu (Qeu rfl (Qeu rfl (Qeu (Qes Qeo b3.fType) (Qeu (Qes K12 b3.fKids) rfl)))) (Qeu rfl rfl)) : ([1] : List Nat) = [] ∨ noSh (.tup [K1h b3,.bool b4]) = true) tv) ?_
 refine sN ?_
 refine sN ?_
 obtain ⟨b6,b7,h⟩ := Qds h
 refine Wp.into (x := .normal) (mkS [(3,.ra 2 0),(4,.rs 1),(5,sI a5),(6,.ra 3 0),(7,.ra 4 0),(8,.ra 7 0),(10,.ra 10 0),(49,.bool b6)] [(1,rI a4),(2,K19 a3),(3,K1b a6),(4,K1b a7),(5,rI a9.fType),(6,.arr (List.map K09 a9.fKids)),(7,.box [I a9.fOp,I a9.fN,.rs 5,.rs 6]),(8,rI b3.fType),(9,.arr (List.map K09 b3.fKids)),(10,.box [I b3.fOp,I b3.fN,.rs 8,.rs 9])]) ?_ ?_
 ·replace h := b7
  rcases is h with ⟨b8,h⟩ | ⟨b8,h⟩
  ·refine rgs hc none [oN,oN,oN,oN,oN,oF] [(3,.ra 2 0),(4,.rs 1),(5,sI a5),(6,.ra 3 0),(7,.ra 4 0),(8,.ra 7 0),(10,.ra 10 0),(49,.bool (!b4))] (ar 3 (nF b8) tv) ?_
   obtain rfl := os h
   exact Qde.mk
  refine rgs hc none [oN,oN,oN,o_,o_,oT] [(3,.ra 2 0),(4,.rs 1),(5,sI a5),(6,.ra 3 0),(7,.ra 4 0),(8,.ra 7 0),(10,.ra 10 0),(49,.bool true)] (ar 2 (neF (nT b8)) (ai (nT b8) tv)) ?_
  obtain rfl := os h
  exact Qde.mk
 clear b7
 refine ic h (fun b9 h => ?_) fun b9 h => ?_
 ·obtain ⟨⟨c0,c1⟩,c2,h⟩ := Qds h
  refine rs hc none [oN,oN,oN,oN,some (.call (.tup [K1h c0,.bool c1]) [] 11),oN,oN,oN,some (.new 13),oN,oN] [(3,.ra 2 0),(4,.rs 1),(5,sI a5),(6,.ra 3 0),(7,.ra 4 0),(13,.bool c1)] [(1,rI a4),(2,K19 a3),(3,K1b a6),(4,K1b a7)] (ac (Q75.args (A1 := [K1a a3,.sl (Q02 (List.map I a4)),sI a5,K1c a6]) (A2 := [K1a a3,sI a4,sI a5,K1c a6]) (by simp only [List.map_nil,Qek]) (Km7 _ _ c2)) K6t (Or.inr (Qeu (Qeu rfl (Qeu rfl (Qeu (Qes Qeo c0.fType) (Qeu (Qes K12 c0.fKids) rfl)))) (Qeu rfl rfl)) : ([1] : List Nat) = [] ∨ noSh (.tup [K1h c0,.bool c1]) = true) tv) ?_
  obtain ⟨⟨c3,c4⟩,c5,h⟩ := Qds h
  refine rss hc none [oN,oN,oN,oN,some (.call (.tup [K1h c3,.bool c4]) [] 14),oN,oN,oN,some (.new 16),oN,oN] [(3,.ra 2 0),(4,.rs 1),(5,sI a5),(6,.ra 3 0),(7,.ra 4 0),(13,.bool c1),(15,.bool c4)] (ac (Q75.args (A1 := [K1a a3,.sl (Q02 (List.map I a4)),sI a5,K1c a7]) (A2 := [K1a a3,sI a4,sI a5,K1c a7]) (by simp only [List.map_nil,Qek]) (Km7 _ _ c5)) K6t (Or.inr (Qeu (Qeu rfl (Qeu rfl (Qeu (Qes Qeo c3.fType) (Qeu (Qes K12 c3.fKids) rfl)))) (Qeu rfl rfl)) : ([1] : List Nat) = [] ∨ noSh (.tup [K1h c3,.bool c4]) = true) tv) ?_
  refine sN ?_
  obtain ⟨c6,c7,h⟩ := Qds h
  refine Wp.into (x := .normal) (mkS [(2,.bool c6)] []) ?_ ?_
  ·replace h := c7
   obtain ⟨c8,c9,h⟩ := Qds h
   rcases is h with ⟨d0,h⟩ | ⟨d0,h⟩
   ·refine rg hc none [oN,oN,oN,oN,oN,oc (.bool c8),oN,oN,o_,o_,o_,o_,o_,o_,oF,oN] [(2,.bool false)] [] (ac (Q75.args (A1 := [K1a a3,.sl (Q02 (List.map I a4)),sI a5,K1c a6,K1c a7]) (A2 := [K1a a3,sI a4,sI a5,K1c a6,K1c a7]) (by simp only [List.map_nil,Qek]) (Kmd _ _ c9)) K6w (Or.inr rfl : ([1] : List Nat) = [] ∨ noSh (.bool c8) = true) (ar 4 (neT (nF d0)) (ai (nF d0) tv))) ?_
    obtain rfl := os h
    exact Qde.mk
   rcases is h with ⟨d1,h⟩ | ⟨d1,h⟩
   ·refine rg hc none [oN,oN,oN,oN,oN,oc (.bool c8),oN,oN,oN,oN,oN,oN,oN,oF,oT,oN] [(2,.bool (!c4))] [] (ac (Q75.args (A1 := [K1a a3,.sl (Q02 (List.map I a4)),sI a5,K1c a6,K1c a7]) (A2 := [K1a a3,sI a4,sI a5,K1c a6,K1c a7]) (by simp only [List.map_nil,Qek]) (Kmd _ _ c9)) K6w (Or.inr rfl : ([1] : List Nat) = [] ∨ noSh (.bool c8) = true) (ar 3 (nT d0) (ar 2 (nF d1) (ac (nT d0) (nF d1) (nT d0) tv)))) ?_
    obtain rfl := os h
    exact Qde.mk
   refine rg hc none [oN,oN,oN,oN,oN,oc (.bool c8),oN,oN,oN,oN,oN,o_,o_,oT,oT,oN] [(2,.bool true)] [] (ac (Q75.args (A1 := [K1a a3,.sl (Q02 (List.map I a4)),sI a5,K1c a6,K1c a7]) (A2 := [K1a a3,sI a4,sI a5,K1c a6,K1c a7]) (by simp only [List.map_nil,Qek]) (Kmd _ _ c9)) K6w (Or.inr rfl : ([1] : List Nat) = [] ∨ noSh (.bool c8) = true) (ar 3 (nT d0) (ar 2 (neF (nT d1)) (ac (nT d0) (nT d1) (nT d0) tv)))) ?_
   obtain rfl := os h
   exact Qde.mk
  clear c7
  refine rt ?_
  obtain rfl := os h
  exact rq [true]
 refine sk ?_
 obtain ⟨⟨d2,d3⟩,d4,h⟩ := Qds h
 refine rs hc none [oN,oN,oN,oN,some (.call (.tup [K1h d2,.bool d3]) [] 17),oN,oN,oN,some (.new 19),oN,oN] [(3,.ra 2 0),(4,.rs 1),(5,sI a5),(6,.ra 3 0),(7,.ra 4 0),(8,.ra 7 0),(10,.ra 10 0),(16,.ra 19 0),(17,.bool d3)] [(1,rI a4),(2,K19 a3),(3,K1b a6),(4,K1b a7),(5,rI a9.fType),(6,.arr (List.map K09 a9.fKids)),(7,.box [I a9.fOp,I a9.fN,.rs 5,.rs 6]),(8,rI b3.fType),(9,.arr (List.map K09 b3.fKids)),(10,.box [I b3.fOp,I b3.fN,.rs 8,.rs 9]),(17,rI d2.fType),(18,.arr (List.map K09 d2.fKids)),(19,.box [I d2.fOp,I d2.fN,.rs 17,.rs 18])] (ac (Q75.args (A1 := [K1a a3,.sl (Q02 (List.map I a4)),sI a5,K1i a9]) (A2 := [K1a a3,sI a4,sI a5,K1c a9]) (by simp only [K1i,List.map_nil,K11,Qek]) (Kja _ _ d4)) K5u (Or.inr (Qeu (Qeu rfl (Qeu rfl (Qeu (Qes Qeo d2.fType) (Qeu (Qes K12 d2.fKids) rfl)))) (Qeu rfl rfl)) : ([1,5,6] : List Nat) = [] ∨ noSh (.tup [K1h d2,.bool d3]) = true) tv) ?_
 refine sN ?_
 obtain ⟨d5,d6,h⟩ := Qds h
 refine Wp.into (x := .normal) (mkS [(2,.bool d5)] []) ?_ ?_
 ·replace h := d6
  rcases is h with ⟨d7,h⟩ | ⟨d7,h⟩
  ·obtain ⟨d8,d9,h⟩ := Qds h
   rcases is h with ⟨e0,h⟩ | ⟨e0,h⟩
   ·obtain ⟨e1,e2,h⟩ := Qds h
    rcases is h with ⟨e3,h⟩ | ⟨e3,h⟩
    ·obtain ⟨e4,e5,e6,e7,h⟩ := bq2 h
     refine rg hc Kmo [oN,oN,oN,oN,oc (.bool d8),oT,oN,oN,oN,oN,oN,oN,oc (.bool e1),oT,oN,oN,oN,oN,oN,oN,oc (.bool e4),oN,oN,oc (.bool e6),oN,oT,oN] [(2,.bool (e4 == e6))] [] (ar 3 d7 (ad (Q75.args (A1 := [K1i a9,K1i d2]) (A2 := [K1c a9,K1c d2]) (by simp only [K1i,List.map_nil,K11,Qek]) (Knf _ _ d9)) K7b (Or.inr rfl : ([5,6,17,18] : List Nat) = [] ∨ noSh (.bool d8) = true) d7 (ar 6 e0 (ad (Q75.args (A1 := [K1a a3,.sl (Q02 (List.map I a4)),sI a5,K1c a6,K1i a9]) (A2 := [K1a a3,sI a4,sI a5,K1c a6,K1c a9]) (by simp only [K1i,List.map_nil,K11,Qek]) (Kmd _ _ e2)) K6w (Or.inr rfl : ([1,5,6] : List Nat) = [] ∨ noSh (.bool e1) = true) e0 (ar 6 e3 (ac (Q75.args (A1 := [K1a a3,.sl (Q02 (List.map I a4)),sI a5,K1c a6,K1c a7]) (A2 := [K1a a3,sI a4,sI a5,K1c a6,K1c a7]) (by simp only [List.map_nil,Qek]) (Kmd _ _ e5)) K6w (Or.inr rfl : ([1] : List Nat) = [] ∨ noSh (.bool e4) = true) (ar 3 e3 (ac (Q75.args (A1 := [K1i a9,K1i b3]) (A2 := [K1c a9,K1c b3]) (by simp only [K1i,List.map_nil,K11,Qek]) (Knf _ _ e7)) K7b (Or.inr rfl : ([5,6,8,9] : List Nat) = [] ∨ noSh (.bool e6) = true) (ar 2 e3 tv))))))))) ?_
     obtain rfl := os h
     exact Qde.mk
    refine rg hc Kmo [oN,oN,oN,oN,oc (.bool d8),oT,oN,oN,oN,oN,oN,oN,oc (.bool e1),oT,oN,o_,o_,o_,o_,o_,o_,o_,o_,o_,o_,oF,oN] [(2,.bool false)] [] (ar 3 d7 (ad (Q75.args (A1 := [K1i a9,K1i d2]) (A2 := [K1c a9,K1c d2]) (by simp only [K1i,List.map_nil,K11,Qek]) (Knf _ _ d9)) K7b (Or.inr rfl : ([5,6,17,18] : List Nat) = [] ∨ noSh (.bool d8) = true) d7 (ar 6 e0 (ad (Q75.args (A1 := [K1a a3,.sl (Q02 (List.map I a4)),sI a5,K1c a6,K1i a9]) (A2 := [K1a a3,sI a4,sI a5,K1c a6,K1c a9]) (by simp only [K1i,List.map_nil,K11,Qek]) (Kmd _ _ e2)) K6w (Or.inr rfl : ([1,5,6] : List Nat) = [] ∨ noSh (.bool e1) = true) e0 (ar 10 (neT e3) (ai e3 tv)))))) ?_
    obtain rfl := os h
    exact Qde.mk
   refine rg hc Kmo [oN,oN,oN,oN,oc (.bool d8),oT,oN,o_,o_,o_,o_,o_,o_,oF,oN,o_,o_,o_,o_,o_,o_,o_,o_,o_,o_,oF,oN] [(2,.bool false)] [] (ar 3 d7 (ad (Q75.args (A1 := [K1i a9,K1i d2]) (A2 := [K1c a9,K1c d2]) (by simp only [K1i,List.map_nil,K11,Qek]) (Knf _ _ d9)) K7b (Or.inr rfl : ([5,6,17,18] : List Nat) = [] ∨ noSh (.bool d8) = true) d7 (ar 6 (neT e0) (ai e0 (ar 10 (neT (rfl : false = false)) (ai (rfl : false = false) tv)))))) ?_
   obtain rfl := os h
   exact Qde.mk
  refine rg hc Kmo [oN,oN,o_,o_,o_,oF,oN,o_,o_,o_,o_,o_,o_,oF,oN,o_,o_,o_,o_,o_,o_,o_,o_,o_,o_,oF,oN] [(2,.bool false)] [] (ar 3 (neT d7) (ai d7 (ar 6 (neT (rfl : false = false)) (ai (rfl : false = false) (ar 10 (neT (rfl : false = false)) (ai (rfl : false = false) tv)))))) ?_
  obtain rfl := os h
  exact Qde.mk
 clear d6
 refine rt ?_
 obtain rfl := os h
 exact rq [true]
end Go.Am
