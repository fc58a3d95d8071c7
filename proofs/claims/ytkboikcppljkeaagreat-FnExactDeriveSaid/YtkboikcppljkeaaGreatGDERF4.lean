/- Functions of the program as pure functions,and that it computes them. Printed by a program of mine (gen.py). -/
import Derived.Test.YtkboikcppljkeaaGreatGDERF2
set_option linter.unusedVariables false
set_option linter.unusedSimpArgs false
set_option maxRecDepth 100000
namespace Go.Am
open Go Go.Proofs
def Kf5 : Option (List (List Nat)) := rx [[0],[1],[0],[0,2],[4],[5],[0],[0,6],[8],[9]]
def Kf6 : Option (List (List Nat)) := rx [[0],[0],[0,1],[0,1,2],[0,1,2,3],[0],[6],[7]]
def Kf7 : Option (List (List Nat)) := rx [[0],[1],[2],[3],[3],[3,4],[3,4,5],[3,4,5,6],[3],[9],[10],[11]]
mutual
def Kf8 (p : K00 × LL × K01) : Option (K03) :=
 match p with
 | (s0,ctx1,t2) =>
  if (t2.fOp == 0) = true then
  (Kds (ctx1.length : Int)) >>= fun a0 =>
  (idx a0 t2.fN) >>= fun a1 =>
  (idx ctx1 t2.fN) >>= fun a2 =>
  (Kdv a2) >>= fun a3 =>
  some (K03.mk a3 (List.set a0 (Int.toNat t2.fN) 1) 0 [])
  else
  if (t2.fOp == 1) = true then
  (Kds (ctx1.length : Int)) >>= fun a4 =>
  some (K03.mk [0] a4 0 [])
  else
  ((
  if (t2.fOp == 9) = true then
  (Kdy (ctx1,[t2.fType])) >>= fun a5 =>
  some (a5)
  else
  some (ctx1)
  ) : Option (LL)) >>= fun a6 =>
  (Kfa (s0,a6,t2,0)) >>= fun a7 =>
  if (a7.ffault != 0) = true then
  some a7
  else
  ((
  if (t2.fOp == 2) = true then
  some ((t2.fOp == 2))
  else
  some ((t2.fOp == 3))
  ) : Option (Bool)) >>= fun a8 =>
  if a8 = true then
  (idx a7.fty 0) >>= fun a9 =>
  if (a9 != 0) = true then
  (Ke1 2) >>= fun b1 =>
  some b1
  else
  (Kfb (s0,ctx1,t2,a7)) >>= fun b2 =>
  some b2
  else
  if (t2.fOp == 4) = true then
  (Kfa (s0,ctx1,t2,1)) >>= fun b3 =>
  if (b3.ffault != 0) = true then
  some b3
  else
  (Ke8 (1,[a7.fty,b3.fty])) >>= fun b4 =>
  (Kef (s0,a7.fneeds,1,b3.fneeds)) >>= fun b5 =>
  (Kei (b4,b5)) >>= fun b6 =>
  some b6
  else
  if (t2.fOp == 6) = true then
  (Ke8 (2,[a7.fty,t2.fType])) >>= fun b7 =>
  (Kei (b7,a7.fneeds)) >>= fun b8 =>
  some b8
  else
  if (t2.fOp == 7) = true then
  (Ke8 (2,[t2.fType,a7.fty])) >>= fun b9 =>
  (Kei (b9,a7.fneeds)) >>= fun c0 =>
  some c0
  else
  if (t2.fOp == 9) = true then
  (idx a7.fneeds 0) >>= fun c1 =>
  (Kag (s0,c1,t2.fN)) >>= fun c2 =>
  if c2 = true then
  (Ke8 ((wr (3 + t2.fN)),[t2.fType,a7.fty])) >>= fun c3 =>
  (cut a7.fneeds (some 1) none none) >>= fun c4 =>
  (Kdv c4) >>= fun c5 =>
  (Kei (c3,c5)) >>= fun c6 =>
  some c6
  else
  (Ke1 9) >>= fun c7 =>
  some c7
  else
  if (t2.fOp == 11) = true then
  (Ke8 ((wr (19 + t2.fN)),[a7.fty])) >>= fun c8 =>
  (Kds (ctx1.length : Int)) >>= fun c9 =>
  (Kef (s0,c9,t2.fN,a7.fneeds)) >>= fun d0 =>
  (Kei (c8,d0)) >>= fun d1 =>
  some d1
  else
  if (t2.fOp == 10) = true then
  (idx a7.fty 0) >>= fun d2 =>
  (Kbn d2) >>= fun d3 =>
  if d3 = true then
  (Kfa (s0,ctx1,t2,1)) >>= fun d4 =>
  if (d4.ffault != 0) = true then
  some d4
  else
  (Kel (a7.fty,0)) >>= fun d5 =>
  (Kes (d4.fty,d5)) >>= fun d6 =>
  if d6 = true then
  (Kel (a7.fty,1)) >>= fun d7 =>
  (idx a7.fty 0) >>= fun d8 =>
  (Kc6 d8) >>= fun d9 =>
  (Kef (s0,a7.fneeds,d9,d4.fneeds)) >>= fun e0 =>
  some (K03.mk d7 e0 0 [])
  else
  (Ke1 3) >>= fun e1 =>
  some e1
  else
  (Ke1 6) >>= fun e2 =>
  some e2
  else
  (Kf9 (s0,ctx1,t2,a7)) >>= fun e3 =>
  some e3
 partial_fixpoint
def Kf9 (p : K00 × LL × K01 × K03) : Option (K03) :=
 match p with
 | (s0,ctx1,t2,a3) =>
  (idx a3.fty 0) >>= fun a0 =>
  ((
  if (t2.fOp == 5) = true then
  some ((a0 != 1))
  else
  some (false)
  ) : Option (Bool)) >>= fun a1 =>
  if a1 = true then
  (Ke1 4) >>= fun a2 =>
  some a2
  else
  ((
  if (t2.fOp == 8) = true then
  some ((a0 != 2))
  else
  some (false)
  ) : Option (Bool)) >>= fun a4 =>
  if a4 = true then
  (Ke1 5) >>= fun a5 =>
  some a5
  else
  ((
  if (t2.fOp == 12) = true then
  (Kbq a0) >>= fun a6 =>
  some ((!a6))
  else
  some (false)
  ) : Option (Bool)) >>= fun a7 =>
  if a7 = true then
  (Ke1 7) >>= fun a8 =>
  some a8
  else
  (Kag (s0,1,t2.fN)) >>= fun a9 =>
  if a9 = true then
  (Kel (a3.fty,0)) >>= fun b1 =>
  ((
  if (t2.fOp == 5) = true then
   (Kel (a3.fty,1)) >>= fun b2 =>
   (Kel (a3.fty,0)) >>= fun b3 =>
   some ([b2,b3])
  else
   some ([b1])
  ) : Option (LL)) >>= fun b4 =>
  (Kdy (ctx1,b4)) >>= fun b5 =>
  (Kfa (s0,b5,t2,1)) >>= fun b6 =>
  if (b6.ffault != 0) = true then
  some b6
  else
  (cut b6.fneeds (some (b4.length : Int)) none none) >>= fun b7 =>
  (Kdv b7) >>= fun b8 =>
  ((
   if (t2.fOp == 12) = true then
   (Kc6 a0) >>= fun b9 =>
   (Kad (s0,t2.fN,b9)) >>= fun c0 =>
   some (.inl (c0,b8,true))
   else
   ((
    if (t2.fOp == 5) = true then
    (idx b6.fneeds 1) >>= fun c1 =>
    (Kag (s0,c1,t2.fN)) >>= fun c2 =>
    some (.inl (b8,c2))
    else
    ((
     if (t2.fOp == 8) = true then
     (Kel (a3.fty,1)) >>= fun c3 =>
     (Kdy (ctx1,[c3])) >>= fun c4 =>
     (Kfa (s0,c4,t2,2)) >>= fun c5 =>
     if (c5.ffault != 0) = true then
     some (.inr c5)
     else
     (Kes (b6.fty,c5.fty)) >>= fun c6 =>
     if c6 = true then
     (idx c5.fneeds 0) >>= fun c7 =>
     (Kag (s0,c7,t2.fN)) >>= fun c8 =>
     (cut c5.fneeds (some 1) none none) >>= fun c9 =>
     (Kez (s0,b8,c9)) >>= fun d0 =>
     some (.inl (d0,c8))
     else
     (Ke1 3) >>= fun d1 =>
     some (.inr d1)
     else
     some (.inl (b8,true))) : Option (((List Int) × Bool) ⊕ (K03))) >>= fun fl => match fl with
    | .inl (d2,d3) =>
     some (.inl (d2,d3))
    | .inr r =>
     some (.inr r)) : Option (((List Int) × Bool) ⊕ (K03))) >>= fun fl => match fl with
   | .inl (d4,d5) =>
    some (.inl (t2.fN,d4,d5))
   | .inr r =>
    some (.inr r)) : Option ((Int × (List Int) × Bool) ⊕ (K03))) >>= fun fl => match fl with
  | .inl (d6,d7,d8) =>
   ((
   if d8 = true then
    (idx b6.fneeds 0) >>= fun d9 =>
    (Kag (s0,d9,d6)) >>= fun e0 =>
    some ((!e0))
   else
    some (true)
   ) : Option (Bool)) >>= fun e1 =>
   if e1 = true then
   (Ke1 9) >>= fun e2 =>
   some e2
   else
   (Kds (ctx1.length : Int)) >>= fun e3 =>
   (Kef (s0,e3,t2.fN,a3.fneeds)) >>= fun e4 =>
   (Kef (s0,e4,1,d7)) >>= fun e5 =>
   some (K03.mk b6.fty e5 0 [])
  | .inr r =>
   some r
  else
  (Ke1 8) >>= fun e6 =>
  some e6
 partial_fixpoint
def Kfa (p : K00 × LL × K01 × Int) : Option (K03) :=
 match p with
 | (s0,ctx1,t2,k3) =>
  (idx t2.fKids k3) >>= fun a0 =>
  (Kf8 (s0,ctx1,a0)) >>= fun a1 =>
  ((
  if (a1.ffault != 0) = true then
  (Qdq ([k3].length + a1.fpath.length) 8) >>= fun _ =>
  some (([k3] ++ a1.fpath))
  else
  some (a1.fpath)
  ) : Option ((List Int))) >>= fun a2 =>
  some (K03.mk a1.fty a1.fneeds a1.ffault a2)
 partial_fixpoint
def Kfb (p : K00 × LL × K01 × K03) : Option (K03) :=
 match p with
 | (s0,ctx1,t2,a3) =>
  (Kfa (s0,ctx1,t2,1)) >>= fun a0 =>
  if (a0.ffault != 0) = true then
  some a0
  else
  if (t2.fOp == 2) = true then
  (idx a0.fty 0) >>= fun a1 =>
  if (a1 != 0) = true then
  (Ke1 2) >>= fun a2 =>
  some a2
  else
  (Kef (s0,a3.fneeds,1,a0.fneeds)) >>= fun a4 =>
  some (K03.mk a0.fty a4 0 [])
  else
  (Kfa (s0,ctx1,t2,2)) >>= fun a5 =>
  if (a5.ffault != 0) = true then
  some a5
  else
  (Kes (a0.fty,a5.fty)) >>= fun a6 =>
  if a6 = true then
  (Kez (s0,a0.fneeds,a5.fneeds)) >>= fun a7 =>
  (Kef (s0,a3.fneeds,1,a7)) >>= fun a8 =>
  some (K03.mk a0.fty a8 0 [])
  else
  (Ke1 3) >>= fun a9 =>
  some a9
 partial_fixpoint
end
def Kfc (p : K00 × LL × K01) (r : K03) : Prop :=
 match p with
 | (s0,ctx1,t2) => Q71 Tryz.prog 55 [K25 s0,sL ctx1,K27 t2] (K2b r) []
def Kfd (p : K00 × LL × K01 × K03) (r : K03) : Prop :=
 match p with
 | (s0,ctx1,t2,a3) => Q71 Tryz.prog 103 [K25 s0,sL ctx1,K27 t2,K2b a3] (K2b r) []
def Kfe (p : K00 × LL × K01 × Int) (r : K03) : Prop :=
 match p with
 | (s0,ctx1,t2,k3) => Q71 Tryz.prog 93 [K25 s0,sL ctx1,K27 t2,I k3] (K2b r) []
def Kff (p : K00 × LL × K01 × K03) (r : K03) : Prop :=
 match p with
 | (s0,ctx1,t2,a3) => Q71 Tryz.prog 95 [K25 s0,sL ctx1,K27 t2,K2b a3] (K2b r) []
theorem Kfg : (∀ p r,Kf8 p = some r → Kfc p r) ∧ (∀ p r,Kf9 p = some r → Kfd p r) ∧ (∀ p r,Kfa p = some r → Kfe p r) ∧ (∀ p r,Kfb p = some r → Kff p r) := by
 refine Kf8.mutual_partial_correctness Kfc Kfd Kfe Kff ?_ ?_ ?_ ?_
 ·rintro spec_l3Taken_f spec_l3Of_f spec_l3Numbers_f spec_l3Taken_ih spec_l3Of_ih spec_l3Numbers_ih ⟨s0,ctx1,t2⟩ r h
  refine b0 Tryz.f55 B55 206 [(0,K25 s0),(1,sL ctx1),(2,K27 t2)] fun c hc => ?_
  refine rs hc none [some (.new 1),some (.new 2),some (.new 3)] [(1,sL ctx1),(3,.ra 1 0),(5,.ra 2 0),(6,.ra 3 0)] [(1,K24 s0),(2,K26 t2),(3,.box [.nils,.nils,I 0,.nils])] tv ?_
  refine sN ?_
  refine K88 hc 2 [(1,sL ctx1),(3,.ra 1 0),(5,.ra 2 0),(6,.ra 3 0),(13,I t2.fOp)] ?_
  refine bk 0 ?_
  refine K88 hc 2 [(1,sL ctx1),(3,.ra 1 0),(5,.ra 2 0),(6,.ra 3 0),(13,I t2.fOp),(14,.bool (t2.fOp == 0))] ?_
  refine ic h (fun a0 h => ?_) fun a0 h => ?_
  ·obtain ⟨a1,a2,h⟩ := Qdd h
   refine rs hc none [oN,some (.eqv (.no) ⟨[(17,I (ctx1.length : Int))],[],[]⟩),some (.call (oI a1) [] 4),oN] [(1,sL ctx1),(5,.ra 2 0),(6,.ra 3 0),(7,.rs 4)] [(2,K26 t2),(3,.box [.nils,.nils,I 0,.nils]),(4,rI a1)] (ai (Qdj (d := 17) K07 ctx1) (cq (Kdu _ _ a2) K53 tv)) ?_
   obtain ⟨a4,a5,h⟩ := Qdd h
   refine rs hc none [oN,oN,oN,oN,some (.eqv (.mk 0 true) ⟨[],[(4,some (.arr (List.map I (List.set a1 (Int.toNat t2.fN) 1))))],[]⟩)] [(1,sL ctx1),(5,.ra 2 0),(6,.ra 3 0),(7,.rs 4)] [(2,K26 t2),(3,.box [.nils,.nils,I 0,.nils]),(4,.arr (List.map I (List.set a1 (Int.toNat t2.fN) 1)))] (ac (Qdi (enc := I) a5) (congrArg (fun z => (⟨[],[(4,some (.arr z))],[]⟩ : Wr)) (Qeg (enc := I) (i := Int.toNat t2.fN) (l := a1) (v := 1) (x := I 1) (Qds 1))) (Qeh (enc := I) (sz := 1) Qdw a5) tv) ?_
   obtain ⟨a6,a7,a8,a9,h⟩ := bq2 h
   refine rs hc none [oN,oN,oN,some (.el (sI a6)),oN,some (.call (oI a8) [] 5),oN,oN,oN] [(6,.ra 3 0)] [(3,.box [.rs 5,.rs 4,I 0,.nils]),(4,.arr (List.map I (List.set a1 (Int.toNat t2.fN) 1))),(5,rI a8)] (ai (xL a7) (cq (Kdx _ _ a9) K54 tv)) ?_
   refine vz 5 (Qe5 a8) [(6,.ra 3 0)] [(3,.box [sI a8,.rs 4,I 0,.nils]),(4,.arr (List.map I (List.set a1 (Int.toNat t2.fN) 1)))] ?_
   refine vz 4 (Qe5 (List.set a1 (Int.toNat t2.fN) 1)) [(6,.ra 3 0)] [(3,.box [sI a8,.sl (List.map I (List.set a1 (Int.toNat t2.fN) 1)),I 0,.nils])] ?_
   refine rt ?_
   obtain rfl := os h
   exact rq [false]
  refine K88 hc 2 [(1,sL ctx1),(3,.ra 1 0),(5,.ra 2 0),(6,.ra 3 0),(31,.bool (t2.fOp == 1))] ?_
  refine ic h (fun b1 h => ?_) fun b1 h => ?_
  ·obtain ⟨b2,b3,h⟩ := Qdd h
   refine rs hc none [some (.mk 6 true),oN,some (.eqv (.no) ⟨[(35,I (ctx1.length : Int))],[],[]⟩),some (.call (oI b2) [] 7),oN,oN] [(6,.ra 3 0)] [(3,.box [.rs 6,.rs 7,I 0,.nils]),(6,.arr (List.map I [0])),(7,rI b2)] (ai (Qdj (d := 35) K07 ctx1) (cq (Kdu _ _ b3) K53 tv)) ?_
   refine vz 6 (Qe5 [0]) [(6,.ra 3 0)] [(3,.box [.sl (List.map I [0]),.rs 7,I 0,.nils]),(7,rI b2)] ?_
   refine vz 7 (Qe5 b2) [(6,.ra 3 0)] [(3,.box [.sl (List.map I [0]),sI b2,I 0,.nils])] ?_
   refine rt ?_
   obtain rfl := os h
   exact rq [false]
  refine sk ?_
  refine K88 hc 2 [(1,sL ctx1),(3,.ra 1 0),(5,.ra 2 0),(6,.ra 3 0),(8,sL ctx1)] ?_
  refine sN ?_
  refine K88 hc 3 [(1,sL ctx1),(3,.ra 1 0),(5,.ra 2 0),(6,.ra 3 0),(8,sL ctx1),(41,.bool (t2.fOp == 9))] ?_
  obtain ⟨b4,b5,h⟩ := Qdd h
  refine Wp.into (x := .normal) (mkS [(1,sL ctx1),(3,.ra 1 0),(5,.ra 2 0),(6,.ra 3 0),(8,sL b4)] [(1,K24 s0),(2,K26 t2),(3,.box [.nils,.nils,I 0,.nils])]) ?_ ?_
  ·replace h := b5
   refine ic h (fun b6 h => ?_) fun b6 h => ?_
   ·obtain ⟨b7,b8,h⟩ := Qdd h
    refine rg hc none [oN,oN,oN,some (.mk 8 false),some (.call (.osl (List.map K07 b7)) [.tup []] 9),oN] [(1,sL ctx1),(3,.ra 1 0),(5,.ra 2 0),(6,.ra 3 0),(8,.rs 9)] [(1,K24 s0),(2,K26 t2),(3,.box [.nils,.nils,I 0,.nils]),(9,.arr (List.map K07 b7))] (ab (Q71.args (A1 := [sL ctx1,.sl (Q02 (List.map K07 [t2.fType]))]) (A2 := [sL ctx1,.sl (List.map K07 [t2.fType])]) (by simp only [List.map_nil,K0b]) (Ke0 _ _ b8)) K55 tv) ?_
    obtain rfl := os h
    exact Qcz.view (fun a w hv => SRx.renL [] (SRx.frzC 9 (xs := List.map K07 b7) (xs' := List.map K07 b7) hv (by kernel_rfl) (K0b _)) (by kernel_rfl) (by kernel_rfl) (by kernel_rfl))
   refine sk ?_
   obtain rfl := os h
   exact iv []
  clear b5
  obtain ⟨b9,c0,h⟩ := Qdd h
  refine rs hc none [oN,oN,oN,oc (K2b b9),some (.new 10),oN] [(1,sL ctx1),(3,.ra 1 0),(5,.ra 2 0),(6,.ra 3 0),(9,.ra 10 0)] [(1,K24 s0),(2,K26 t2),(3,.box [.nils,.nils,I 0,.nils]),(10,K2a b9)] (cq (spec_l3Of_ih _ _ c0) K56 tv) ?_
  refine sN ?_
  refine K88 hc 3 [(1,sL ctx1),(3,.ra 1 0),(5,.ra 2 0),(6,.ra 3 0),(9,.ra 10 0),(53,.bool (b9.ffault != 0))] ?_
  refine ic h (fun c1 h => ?_) fun c1 h => ?_
  ·refine rs0 hc 2 [(6,.ra 3 0)] [(3,K2a b9)] ?_
   refine rt ?_
   obtain rfl := os h
   exact rq [false]
  refine sk ?_
  refine sN ?_
  refine K88 hc 2 [(1,sL ctx1),(3,.ra 1 0),(5,.ra 2 0),(6,.ra 3 0),(9,.ra 10 0),(56,I t2.fOp)] ?_
  refine bk 1 ?_
  refine sN ?_
  refine K88 hc 2 [(1,sL ctx1),(3,.ra 1 0),(5,.ra 2 0),(6,.ra 3 0),(9,.ra 10 0),(56,I t2.fOp),(57,.bool (t2.fOp == 2))] ?_
  obtain ⟨c2,c3,h⟩ := Qdd h
  refine Wp.into (x := .normal) (mkS [(1,sL ctx1),(3,.ra 1 0),(5,.ra 2 0),(6,.ra 3 0),(9,.ra 10 0),(56,I t2.fOp),(57,.bool c2)] [(1,K24 s0),(2,K26 t2),(3,.box [.nils,.nils,I 0,.nils]),(10,K2a b9)]) ?_ ?_
  ·replace h := c3
   refine ic h (fun c4 h => ?_) fun c4 h => ?_
   ·refine sk ?_
    obtain rfl := os h
    exact Qcz.mk
   refine K87 hc 2 [(1,sL ctx1),(3,.ra 1 0),(5,.ra 2 0),(6,.ra 3 0),(9,.ra 10 0),(56,I t2.fOp),(57,.bool (t2.fOp == 3))] ?_
   obtain rfl := os h
   exact Qcz.mk
  clear c3
  refine ic h (fun c5 h => ?_) fun c5 h => ?_
  ·refine sN ?_
   obtain ⟨c6,c7,h⟩ := Qdd h
   refine rss hc none [oN,oN,some (.el (I c6)),oN,oN] [(1,sL ctx1),(3,.ra 1 0),(5,.ra 2 0),(6,.ra 3 0),(9,.ra 10 0),(64,.bool (c6 != 0))] (ai (ix c7) tv) ?_
   refine ic h (fun c8 h => ?_) fun c8 h => ?_
   ·obtain ⟨c9,d0,h⟩ := Qdd h
    refine rs hc none [some (.call (K2m c9) [] 11),oN] [(6,.ra 3 0)] [(3,.box [.rs 11,.rs 12,I c9.ffault,.rs 13]),(11,rI c9.fty),(12,rI c9.fneeds),(13,rI c9.fpath)] (cq (Ke3 _ _ d0) K57 tv) ?_
    refine vz 11 (Qe5 c9.fty) [(6,.ra 3 0)] [(3,.box [sI c9.fty,.rs 12,I c9.ffault,.rs 13]),(12,rI c9.fneeds),(13,rI c9.fpath)] ?_
    refine vz 12 (Qe5 c9.fneeds) [(6,.ra 3 0)] [(3,.box [sI c9.fty,sI c9.fneeds,I c9.ffault,.rs 13]),(13,rI c9.fpath)] ?_
    refine vz 13 (Qe5 c9.fpath) [(6,.ra 3 0)] [(3,K2a c9)] ?_
    refine rt ?_
    obtain rfl := os h
    exact rq [false]
   refine sk ?_
   obtain ⟨d1,d2,h⟩ := Qdd h
   refine rs hc none [oN,oN,oN,oN,oc (K2b d1),oN] [(6,.ra 3 0)] [(3,K2a d1)] (cq (spec_l3Numbers_ih _ _ d2) K58 tv) ?_
   refine rt ?_
   obtain rfl := os h
   exact rq [false]
  refine K88 hc 2 [(1,sL ctx1),(3,.ra 1 0),(5,.ra 2 0),(6,.ra 3 0),(9,.ra 10 0),(56,I t2.fOp),(71,.bool (t2.fOp == 4))] ?_
  refine ic h (fun d3 h => ?_) fun d3 h => ?_
  ·obtain ⟨d4,d5,h⟩ := Qdd h
   refine rs hc none [oN,oN,oN,oc (K2b d4),some (.new 14),oN] [(3,.ra 1 0),(6,.ra 3 0),(9,.ra 10 0),(10,.ra 14 0)] [(1,K24 s0),(3,.box [.nils,.nils,I 0,.nils]),(10,K2a b9),(14,K2a d4)] (cq (spec_l3Of_ih _ _ d5) K56 tv) ?_
   refine sN ?_
   refine K88 hc 3 [(3,.ra 1 0),(6,.ra 3 0),(9,.ra 10 0),(10,.ra 14 0),(79,.bool (d4.ffault != 0))] ?_
   refine ic h (fun d6 h => ?_) fun d6 h => ?_
   ·refine rs0 hc 2 [(6,.ra 3 0)] [(3,K2a d4)] ?_
    refine rt ?_
    obtain rfl := os h
    exact rq [false]
   refine sk ?_
   obtain ⟨d7,d8,d9,e0,e3,e4,h⟩ := bq3 h
   refine rs hc (rx [[0],[1],[0],[0,2],[4],[5],[0],[0],[0,7],[0],[0,9],[11],[12],[13]]) [oN,oN,oN,oN,some (.mk 15 false),some (.call (oI d7) [] 16),oN,oN,oN,oN,oN,some (.call (oI d9) [] 17),some (.call (K2b e3) [.tup []] 1),oN] [(6,.ra 3 0)] [(3,K2a e3)] (ac (Q71.args (A1 := [I 1,.sl (Q02 (List.map K07 [b9.fty,d4.fty]))]) (A2 := [I 1,.sl (List.map K07 [b9.fty,d4.fty])]) (by simp only [List.map_nil,K0b]) (Kea _ _ d8)) K59 (Or.inr (Qed Qe9 d7) : ([15] : List Nat) = [] ∨ noSh (oI d7) = true) (cq (Keh _ _ e0) K5a (ab (Q71.args (A1 := [.sl (Q02 (List.map I d7)),.sl (Q02 (List.map I d9))]) (A2 := [sI d7,sI d9]) (by simp only [List.map_nil,Qe5]) (Kek _ _ e4)) K5b tv))) ?_
   refine rt ?_
   obtain rfl := os h
   exact rq [false]
  refine K88 hc 2 [(1,sL ctx1),(3,.ra 1 0),(5,.ra 2 0),(6,.ra 3 0),(9,.ra 10 0),(56,I t2.fOp),(94,.bool (t2.fOp == 6))] ?_
  refine ic h (fun e5 h => ?_) fun e5 h => ?_
  ·obtain ⟨e6,e7,e8,e9,h⟩ := bq2 h
   refine rs hc Kf5 [oN,oN,oN,oN,some (.mk 18 false),some (.call (oI e6) [] 19),oN,oN,some (.call (K2b e8) [.tup []] 1),oN] [(6,.ra 3 0)] [(3,K2a e8)] (ad (Q71.args (A1 := [I 2,.sl (Q02 (List.map K07 [b9.fty,t2.fType]))]) (A2 := [I 2,.sl (List.map K07 [b9.fty,t2.fType])]) (by simp only [List.map_nil,K0b]) (Kea _ _ e7)) K59 (Or.inr (Qed Qe9 e6) : ([18] : List Nat) = [] ∨ noSh (oI e6) = true) (Q71.args (A1 := [.sl (Q02 (List.map I e6)),sI b9.fneeds]) (A2 := [sI e6,sI b9.fneeds]) (by simp only [List.map_nil,Qe5]) (Kek _ _ e9)) (ai K5b tv)) ?_
   refine rt ?_
   obtain rfl := os h
   exact rq [false]
  refine K88 hc 2 [(1,sL ctx1),(3,.ra 1 0),(5,.ra 2 0),(6,.ra 3 0),(9,.ra 10 0),(56,I t2.fOp),(105,.bool (t2.fOp == 7))] ?_
  refine ic h (fun f0 h => ?_) fun f0 h => ?_
  ·obtain ⟨f1,f2,f3,f4,h⟩ := bq2 h
   refine rs hc Kf5 [oN,oN,oN,oN,some (.mk 20 false),some (.call (oI f1) [] 21),oN,oN,some (.call (K2b f3) [.tup []] 1),oN] [(6,.ra 3 0)] [(3,K2a f3)] (ad (Q71.args (A1 := [I 2,.sl (Q02 (List.map K07 [t2.fType,b9.fty]))]) (A2 := [I 2,.sl (List.map K07 [t2.fType,b9.fty])]) (by simp only [List.map_nil,K0b]) (Kea _ _ f2)) K59 (Or.inr (Qed Qe9 f1) : ([20] : List Nat) = [] ∨ noSh (oI f1) = true) (Q71.args (A1 := [.sl (Q02 (List.map I f1)),sI b9.fneeds]) (A2 := [sI f1,sI b9.fneeds]) (by simp only [List.map_nil,Qe5]) (Kek _ _ f4)) (ai K5b tv)) ?_
   refine rt ?_
   obtain rfl := os h
   exact rq [false]
  refine K88 hc 2 [(1,sL ctx1),(3,.ra 1 0),(5,.ra 2 0),(6,.ra 3 0),(9,.ra 10 0),(56,I t2.fOp),(116,.bool (t2.fOp == 9))] ?_
  refine ic h (fun f5 h => ?_) fun f5 h => ?_
  ·refine sN ?_
   obtain ⟨f6,f7,f8,f9,h⟩ := bq2 h
   refine rs hc (rx [[0],[0],[0,1],[0,1,2],[0,1,2,3],[0],[0,5],[7],[8]]) [oN,oN,oN,some (.el (I f6)),oN,oN,oN,oc (.bool f8),oN] [(5,.ra 2 0),(6,.ra 3 0),(9,.ra 10 0),(126,.bool (!f8))] [(2,K26 t2),(3,.box [.nils,.nils,I 0,.nils]),(10,K2a b9)] (ai (ix f7) (cq (Kai _ _ f9) K3y tv)) ?_
   rcases is h with ⟨g0,h⟩ | ⟨g0,h⟩
   ·refine cF (!f8) (nF g0) ?_
    refine sk ?_
    obtain ⟨g1,g2,g3,g4,g5,g6,g7,g8,h⟩ := bq4 h
    refine rs hc (rx [[0],[1],[2],[0],[0,3],[0],[0,5],[0,3,4,5,6],[8],[0],[0,9],[0,9,10],[12],[13],[14]]) [oN,oN,oN,oN,oN,oN,oN,some (.mk 22 false),some (.call (oI g1) [] 23),oN,oN,some (.eqv (.no) ⟨[(139,sI g3)],[],[]⟩),some (.call (oI g5) [] 24),some (.call (K2b g7) [.tup []] 1),oN] [(6,.ra 3 0)] [(3,K2a g7)] (ad (Q71.args (A1 := [I (wr (3 + t2.fN)),.sl (Q02 (List.map K07 [t2.fType,b9.fty]))]) (A2 := [I (wr (3 + t2.fN)),.sl (List.map K07 [t2.fType,b9.fty])]) (by simp only [List.map_nil,K0b]) (Kea _ _ g2)) K59 (Or.inr (Qed Qe9 g1) : ([22] : List Nat) = [] ∨ noSh (oI g1) = true) (Qdm (d := 139) I g4) (ai (Qdl (enc := I) (sz := 1) Qdw g4) (cq (Kdx _ _ g6) K54 (ab (Q71.args (A1 := [.sl (Q02 (List.map I g1)),.sl (Q02 (List.map I g5))]) (A2 := [sI g1,sI g5]) (by simp only [List.map_nil,Qe5]) (Kek _ _ g8)) K5b tv)))) ?_
    refine rt ?_
    obtain rfl := os h
    exact rq [false]
   refine cT (!f8) (nT g0) ?_
   obtain ⟨g9,i0,h⟩ := Qdd h
   refine rs hc none [some (.call (K2m g9) [] 25),oN] [(6,.ra 3 0)] [(3,.box [.rs 25,.rs 26,I g9.ffault,.rs 27]),(25,rI g9.fty),(26,rI g9.fneeds),(27,rI g9.fpath)] (cq (Ke3 _ _ i0) K57 tv) ?_
   refine vz 25 (Qe5 g9.fty) [(6,.ra 3 0)] [(3,.box [sI g9.fty,.rs 26,I g9.ffault,.rs 27]),(26,rI g9.fneeds),(27,rI g9.fpath)] ?_
   refine vz 26 (Qe5 g9.fneeds) [(6,.ra 3 0)] [(3,.box [sI g9.fty,sI g9.fneeds,I g9.ffault,.rs 27]),(27,rI g9.fpath)] ?_
   refine vz 27 (Qe5 g9.fpath) [(6,.ra 3 0)] [(3,K2a g9)] ?_
   refine rt ?_
   obtain rfl := os h
   exact rq [false]
  refine K88 hc 2 [(1,sL ctx1),(3,.ra 1 0),(5,.ra 2 0),(6,.ra 3 0),(9,.ra 10 0),(56,I t2.fOp),(142,.bool (t2.fOp == 11))] ?_
  refine ic h (fun i1 h => ?_) fun i1 h => ?_
  ·obtain ⟨i2,i3,i4,i5,i6,i7,i8,i9,h⟩ := bq4 h
   refine rs hc (rx [[0],[1],[2],[0],[0,3],[0,3,4],[6],[0],[0],[0,8],[7,8,9],[0],[0,11],[0],[0,13],[15],[16],[17]]) [oN,oN,oN,oN,oN,some (.mk 28 false),some (.call (oI i2) [] 29),oN,oN,some (.eqv (.no) ⟨[(153,I (ctx1.length : Int))],[],[]⟩),some (.call (oI i4) [] 30),oN,oN,oN,oN,some (.call (oI i6) [] 31),some (.call (K2b i8) [.tup []] 1),oN] [(6,.ra 3 0)] [(3,K2a i8)] (ad (Q71.args (A1 := [I (wr (19 + t2.fN)),.sl (Q02 (List.map K07 [b9.fty]))]) (A2 := [I (wr (19 + t2.fN)),.sl (List.map K07 [b9.fty])]) (by simp only [List.map_nil,K0b]) (Kea _ _ i3)) K59 (Or.inr (Qed Qe9 i2) : ([28] : List Nat) = [] ∨ noSh (oI i2) = true) (Qdj (d := 153) K07 ctx1) (cq (Kdu _ _ i5) K53 (ad (Q71.args (A1 := [K25 s0,.sl (Q02 (List.map I i4)),I t2.fN,sI b9.fneeds]) (A2 := [K25 s0,sI i4,I t2.fN,sI b9.fneeds]) (by simp only [List.map_nil,Qe5]) (Keh _ _ i7)) K5a (Or.inr (Qed Qe9 i6) : ([30] : List Nat) = [] ∨ noSh (oI i6) = true) (Q71.args (A1 := [.sl (Q02 (List.map I i2)),.sl (Q02 (List.map I i6))]) (A2 := [sI i2,sI i6]) (by simp only [List.map_nil,Qe5]) (Kek _ _ i9)) (ai K5b tv)))) ?_
   refine rt ?_
   obtain rfl := os h
   exact rq [false]
  refine K88 hc 2 [(1,sL ctx1),(3,.ra 1 0),(5,.ra 2 0),(6,.ra 3 0),(9,.ra 10 0),(161,.bool (t2.fOp == 10))] ?_
  refine ic h (fun j0 h => ?_) fun j0 h => ?_
  ·refine sN ?_
   obtain ⟨j8,j9,k0,k1,h⟩ := bq2 h
   refine rss hc none [oN,oN,some (.el (I j8)),oN,oc (.bool k0),oN] [(1,sL ctx1),(3,.ra 1 0),(5,.ra 2 0),(6,.ra 3 0),(9,.ra 10 0),(168,.bool (!k0))] (ai (ix j9) (cq (Kbp _ _ k1) K49 tv)) ?_
   rcases is h with ⟨k2,h⟩ | ⟨k2,h⟩
   ·refine cF (!k0) (nF k2) ?_
    refine sk ?_
    obtain ⟨k4,k5,h⟩ := Qdd h
    refine rs hc none [oN,oN,oN,oc (K2b k4),some (.new 32),oN] [(3,.ra 1 0),(6,.ra 3 0),(9,.ra 10 0),(11,.ra 32 0)] [(1,K24 s0),(3,.box [.nils,.nils,I 0,.nils]),(10,K2a b9),(32,K2a k4)] (cq (spec_l3Of_ih _ _ k5) K56 tv) ?_
    refine sN ?_
    refine K88 hc 3 [(3,.ra 1 0),(6,.ra 3 0),(9,.ra 10 0),(11,.ra 32 0),(176,.bool (k4.ffault != 0))] ?_
    refine ic h (fun k6 h => ?_) fun k6 h => ?_
    ·refine rs0 hc 2 [(6,.ra 3 0)] [(3,K2a k4)] ?_
     refine rt ?_
     obtain rfl := os h
     exact rq [false]
    refine sk ?_
    refine sN ?_
    obtain ⟨k7,k8,k9,l0,h⟩ := bq2 h
    refine rss hc (rx [[0],[1],[0],[0,2],[0,2,3],[5],[6]]) [oN,oN,oN,oN,some (.call (oI k7) [] 33),oc (.bool k9),oN] [(3,.ra 1 0),(6,.ra 3 0),(9,.ra 10 0),(11,.ra 32 0),(184,.bool (!k9))] (cq (Ken _ _ k8) K5d (ac (Q71.args (A1 := [sI k4.fty,.sl (Q02 (List.map I k7))]) (A2 := [sI k4.fty,sI k7]) (by simp only [List.map_nil,Qe5]) (Keu _ _ l0)) K5e (Or.inr rfl : ([33] : List Nat) = [] ∨ noSh (.bool k9) = true) tv)) ?_
    rcases is h with ⟨l1,h⟩ | ⟨l1,h⟩
    ·refine cF (!k9) (nF l1) ?_
     refine sk ?_
     obtain ⟨l2,l3,l4,l5,l6,l7,l8,l9,h⟩ := bq4 h
     refine rs hc (rx [[0],[1],[2],[0],[0],[0,4],[0],[0,6],[0,6,7],[0,6,7,8],[3,6,7,8,9],[0],[0,11],[13],[14],[15]]) [oN,oN,some (.call (oI l2) [] 34),oN,oN,oN,oN,oN,some (.el (I l4)),oN,oc (I l6),oN,oN,some (.call (oI l8) [] 35),oN,oN] [(6,.ra 3 0)] [(3,.box [.rs 34,.rs 35,I 0,.nils]),(34,rI l2),(35,rI l8)] (cq (Ken _ _ l3) K5d (ai (ix l5) (cq (Kc8 _ _ l7) K4j (cq (Keh _ _ l9) K5a tv)))) ?_
     refine vz 34 (Qe5 l2) [(6,.ra 3 0)] [(3,.box [sI l2,.rs 35,I 0,.nils]),(35,rI l8)] ?_
     refine vz 35 (Qe5 l8) [(6,.ra 3 0)] [(3,.box [sI l2,sI l8,I 0,.nils])] ?_
     refine rt ?_
     obtain rfl := os h
     exact rq [false]
    refine cT (!k9) (nT l1) ?_
    obtain ⟨m0,m1,h⟩ := Qdd h
    refine rs hc none [some (.call (K2m m0) [] 36),oN] [(6,.ra 3 0)] [(3,.box [.rs 36,.rs 37,I m0.ffault,.rs 38]),(36,rI m0.fty),(37,rI m0.fneeds),(38,rI m0.fpath)] (cq (Ke3 _ _ m1) K57 tv) ?_
    refine vz 36 (Qe5 m0.fty) [(6,.ra 3 0)] [(3,.box [sI m0.fty,.rs 37,I m0.ffault,.rs 38]),(37,rI m0.fneeds),(38,rI m0.fpath)] ?_
    refine vz 37 (Qe5 m0.fneeds) [(6,.ra 3 0)] [(3,.box [sI m0.fty,sI m0.fneeds,I m0.ffault,.rs 38]),(38,rI m0.fpath)] ?_
    refine vz 38 (Qe5 m0.fpath) [(6,.ra 3 0)] [(3,K2a m0)] ?_
    refine rt ?_
    obtain rfl := os h
    exact rq [false]
   refine cT (!k0) (nT k2) ?_
   obtain ⟨m2,m3,h⟩ := Qdd h
   refine rs hc none [some (.call (K2m m2) [] 39),oN] [(6,.ra 3 0)] [(3,.box [.rs 39,.rs 40,I m2.ffault,.rs 41]),(39,rI m2.fty),(40,rI m2.fneeds),(41,rI m2.fpath)] (cq (Ke3 _ _ m3) K57 tv) ?_
   refine vz 39 (Qe5 m2.fty) [(6,.ra 3 0)] [(3,.box [sI m2.fty,.rs 40,I m2.ffault,.rs 41]),(40,rI m2.fneeds),(41,rI m2.fpath)] ?_
   refine vz 40 (Qe5 m2.fneeds) [(6,.ra 3 0)] [(3,.box [sI m2.fty,sI m2.fneeds,I m2.ffault,.rs 41]),(41,rI m2.fpath)] ?_
   refine vz 41 (Qe5 m2.fpath) [(6,.ra 3 0)] [(3,K2a m2)] ?_
   refine rt ?_
   obtain rfl := os h
   exact rq [false]
  refine sk ?_
  obtain ⟨m4,m5,h⟩ := Qdd h
  refine rs hc none [oN,oN,oN,oN,oc (K2b m4),oN] [(6,.ra 3 0)] [(3,K2a m4)] (cq (spec_l3Taken_ih _ _ m5) K5g tv) ?_
  refine rt ?_
  obtain rfl := os h
  exact rq [false]
 ·rintro spec_l3Of_f spec_l3Of_ih ⟨s0,ctx1,t2,a3⟩ r h
  refine b0 Tryz.f103 K5f 170 [(0,K25 s0),(1,sL ctx1),(2,K27 t2),(3,K2b a3)] fun c hc => ?_
  refine rs hc none [some (.new 1),some (.new 2),some (.new 3),some (.new 4)] [(1,sL ctx1),(4,.ra 1 0),(6,.ra 2 0),(7,.ra 3 0),(8,.ra 4 0)] [(1,K24 s0),(2,K26 t2),(3,K2a a3),(4,.box [.nils,.nils,I 0,.nils])] tv ?_
  obtain ⟨m6,m7,h⟩ := Qdd h
  refine rss hc none [oN,oN,some (.el (I m6)),oN,oN] [(1,sL ctx1),(4,.ra 1 0),(6,.ra 2 0),(7,.ra 3 0),(8,.ra 4 0),(9,I m6)] (ai (ix m7) tv) ?_
  refine sN ?_
  refine bk 0 ?_
  refine sN ?_
  obtain ⟨m8,m9,h⟩ := Qdd h
  refine Wp.into (x := .normal) (mkS [(1,sL ctx1),(4,.ra 1 0),(6,.ra 2 0),(7,.ra 3 0),(8,.ra 4 0),(9,I m6),(21,.bool m8)] [(1,K24 s0),(2,K26 t2),(3,K2a a3),(4,.box [.nils,.nils,I 0,.nils])]) ?_ ?_
  ·replace h := m9
   rcases is h with ⟨n0,h⟩ | ⟨n0,h⟩
   ·refine rgs hc none [oN,oN,oN,oN,oN,oN,oT,oN] [(1,sL ctx1),(4,.ra 1 0),(6,.ra 2 0),(7,.ra 3 0),(8,.ra 4 0),(9,I m6),(21,.bool (m6 != 1))] (ar 3 n0 tv) ?_
    obtain rfl := os h
    exact Qcz.mk
   refine rgs hc none [oN,oN,oN,oN,o_,o_,oF,oN] [(1,sL ctx1),(4,.ra 1 0),(6,.ra 2 0),(7,.ra 3 0),(8,.ra 4 0),(9,I m6),(21,.bool false)] (ar 2 (neT n0) (ai n0 tv)) ?_
   obtain rfl := os h
   exact Qcz.mk
  clear m9
  refine ic h (fun b6 h => ?_) fun b6 h => ?_
  ·obtain ⟨n1,n2,h⟩ := Qdd h
   refine rs hc none [some (.call (K2m n1) [] 5),oN] [(8,.ra 4 0)] [(4,.box [.rs 5,.rs 6,I n1.ffault,.rs 7]),(5,rI n1.fty),(6,rI n1.fneeds),(7,rI n1.fpath)] (cq (Ke3 _ _ n2) K57 tv) ?_
   refine vz 5 (Qe5 n1.fty) [(8,.ra 4 0)] [(4,.box [sI n1.fty,.rs 6,I n1.ffault,.rs 7]),(6,rI n1.fneeds),(7,rI n1.fpath)] ?_
   refine vz 6 (Qe5 n1.fneeds) [(8,.ra 4 0)] [(4,.box [sI n1.fty,sI n1.fneeds,I n1.ffault,.rs 7]),(7,rI n1.fpath)] ?_
   refine vz 7 (Qe5 n1.fpath) [(8,.ra 4 0)] [(4,K2a n1)] ?_
   refine rt ?_
   obtain rfl := os h
   exact rq [false]
  refine sN ?_
  obtain ⟨n3,n4,h⟩ := Qdd h
  refine Wp.into (x := .normal) (mkS [(1,sL ctx1),(4,.ra 1 0),(6,.ra 2 0),(7,.ra 3 0),(8,.ra 4 0),(9,I m6),(30,.bool n3)] [(1,K24 s0),(2,K26 t2),(3,K2a a3),(4,.box [.nils,.nils,I 0,.nils])]) ?_ ?_
  ·replace h := n4
   rcases is h with ⟨n5,h⟩ | ⟨n5,h⟩
   ·refine rgs hc none [oN,oN,oN,oN,oN,oN,oT,oN] [(1,sL ctx1),(4,.ra 1 0),(6,.ra 2 0),(7,.ra 3 0),(8,.ra 4 0),(9,I m6),(30,.bool (m6 != 2))] (ar 3 n5 tv) ?_
    obtain rfl := os h
    exact Qcz.mk
   refine rgs hc none [oN,oN,oN,oN,o_,o_,oF,oN] [(1,sL ctx1),(4,.ra 1 0),(6,.ra 2 0),(7,.ra 3 0),(8,.ra 4 0),(9,I m6),(30,.bool false)] (ar 2 (neT n5) (ai n5 tv)) ?_
   obtain rfl := os h
   exact Qcz.mk
  clear n4
  refine ic h (fun n6 h => ?_) fun n6 h => ?_
  ·obtain ⟨n7,n8,h⟩ := Qdd h
   refine rs hc none [some (.call (K2m n7) [] 8),oN] [(8,.ra 4 0)] [(4,.box [.rs 8,.rs 9,I n7.ffault,.rs 10]),(8,rI n7.fty),(9,rI n7.fneeds),(10,rI n7.fpath)] (cq (Ke3 _ _ n8) K57 tv) ?_
   refine vz 8 (Qe5 n7.fty) [(8,.ra 4 0)] [(4,.box [sI n7.fty,.rs 9,I n7.ffault,.rs 10]),(9,rI n7.fneeds),(10,rI n7.fpath)] ?_
   refine vz 9 (Qe5 n7.fneeds) [(8,.ra 4 0)] [(4,.box [sI n7.fty,sI n7.fneeds,I n7.ffault,.rs 10]),(10,rI n7.fpath)] ?_
   refine vz 10 (Qe5 n7.fpath) [(8,.ra 4 0)] [(4,K2a n7)] ?_
   refine rt ?_
   obtain rfl := os h
   exact rq [false]
  refine sN ?_
  obtain ⟨n9,o0,h⟩ := Qdd h
  refine Wp.into (x := .normal) (mkS [(1,sL ctx1),(4,.ra 1 0),(6,.ra 2 0),(7,.ra 3 0),(8,.ra 4 0),(9,I m6),(39,.bool n9)] [(1,K24 s0),(2,K26 t2),(3,K2a a3),(4,.box [.nils,.nils,I 0,.nils])]) ?_ ?_
  ·replace h := o0
   rcases is h with ⟨o1,h⟩ | ⟨o1,h⟩
   ·obtain ⟨o2,o3,h⟩ := Qdd h
    refine rgs hc none [oN,oN,oN,oN,oN,oc (.bool o2),oN,oT,oN] [(1,sL ctx1),(4,.ra 1 0),(6,.ra 2 0),(7,.ra 3 0),(8,.ra 4 0),(9,I m6),(39,.bool (!o2))] (ar 2 o1 (cq (Kbs _ _ o3) K4b (ar 2 o1 tv))) ?_
    obtain rfl := os h
    exact Qcz.mk
   refine rgs hc none [oN,oN,oN,oN,o_,o_,o_,oF,oN] [(1,sL ctx1),(4,.ra 1 0),(6,.ra 2 0),(7,.ra 3 0),(8,.ra 4 0),(9,I m6),(39,.bool false)] (ar 3 (neT o1) (ai o1 tv)) ?_
   obtain rfl := os h
   exact Qcz.mk
  clear o0
  refine ic h (fun o4 h => ?_) fun o4 h => ?_
  ·obtain ⟨o5,o6,h⟩ := Qdd h
   refine rs hc none [some (.call (K2m o5) [] 11),oN] [(8,.ra 4 0)] [(4,.box [.rs 11,.rs 12,I o5.ffault,.rs 13]),(11,rI o5.fty),(12,rI o5.fneeds),(13,rI o5.fpath)] (cq (Ke3 _ _ o6) K57 tv) ?_
   refine vz 11 (Qe5 o5.fty) [(8,.ra 4 0)] [(4,.box [sI o5.fty,.rs 12,I o5.ffault,.rs 13]),(12,rI o5.fneeds),(13,rI o5.fpath)] ?_
   refine vz 12 (Qe5 o5.fneeds) [(8,.ra 4 0)] [(4,.box [sI o5.fty,sI o5.fneeds,I o5.ffault,.rs 13]),(13,rI o5.fpath)] ?_
   refine vz 13 (Qe5 o5.fpath) [(8,.ra 4 0)] [(4,K2a o5)] ?_
   refine rt ?_
   obtain rfl := os h
   exact rq [false]
  refine sk ?_
  refine sN ?_
  obtain ⟨o7,o8,h⟩ := Qdd h
  refine rss hc none [oN,oN,oN,oc (.bool o7),oN] [(1,sL ctx1),(4,.ra 1 0),(6,.ra 2 0),(7,.ra 3 0),(8,.ra 4 0),(9,I m6),(53,.bool (!o7))] (cq (Kai _ _ o8) K3y tv) ?_
  rcases is h with ⟨o9,h⟩ | ⟨o9,h⟩
  ·refine cF (!o7) (nF o9) ?_
   refine sk ?_
   obtain ⟨p0,p1,h⟩ := Qdd h
   refine rs hc none [oN,oN,some (.call (oI p0) [] 14),some (.mk 15 true),oN] [(1,sL ctx1),(4,.ra 1 0),(6,.ra 2 0),(7,.ra 3 0),(8,.ra 4 0),(9,I m6),(10,.rs 15)] [(1,K24 s0),(2,K26 t2),(3,K2a a3),(4,.box [.nils,.nils,I 0,.nils]),(15,.arr (List.map K0c [p0]))] (cq (Ken _ _ p1) K5d tv) ?_
   refine sN ?_
   refine K88 hc 3 [(1,sL ctx1),(4,.ra 1 0),(6,.ra 2 0),(7,.ra 3 0),(8,.ra 4 0),(9,I m6),(10,.rs 15),(61,.bool (t2.fOp == 5))] ?_
   obtain ⟨p2,p3,h⟩ := Qdd h
   refine Wp.into (x := .normal) (mkS [(1,sL ctx1),(4,.ra 1 0),(6,.ra 2 0),(7,.ra 3 0),(8,.ra 4 0),(9,I m6),(10,.rs 18)] [(1,K24 s0),(2,K26 t2),(3,K2a a3),(4,.box [.nils,.nils,I 0,.nils]),(18,.arr (List.map K0c p2))]) ?_ ?_
   ·replace h := p3
    refine ic h (fun c5 h => ?_) fun c5 h => ?_
    ·obtain ⟨p4,p5,p6,p7,h⟩ := bq2 h
     refine rg hc (rx [[0],[1],[2],[0],[0,3],[5],[6],[7]]) [oN,oN,some (.call (oI p4) [] 16),oN,oN,some (.call (oI p6) [] 17),some (.mk 18 true),oN] [(1,sL ctx1),(4,.ra 1 0),(6,.ra 2 0),(7,.ra 3 0),(8,.ra 4 0),(9,I m6),(10,.rs 18)] [(1,K24 s0),(2,K26 t2),(3,K2a a3),(4,.box [.nils,.nils,I 0,.nils]),(18,.arr (List.map K0c [p4,p6]))] (cq (Ken _ _ p5) K5d (cq (Ken _ _ p7) K5d tv)) ?_
     obtain rfl := os h
     exact Qcz.mk
    refine sk ?_
    obtain rfl := os h
    exact iv [(18,15)]
   clear p3
   refine sN ?_
   refine vz 18 (K0g p2) [(1,sL ctx1),(4,.ra 1 0),(6,.ra 2 0),(7,.ra 3 0),(8,.ra 4 0),(9,I m6),(10,sL p2)] [(1,K24 s0),(2,K26 t2),(3,K2a a3),(4,.box [.nils,.nils,I 0,.nils])] ?_
   obtain ⟨p8,p9,q0,q1,h⟩ := bq2 h
   refine rg hc (rx [[0],[0],[0],[0,1,2],[0],[5],[0],[7]]) [oN,oN,oN,some (.call (.osl (List.map K07 p8)) [] 20),oN,some (.call (K2b q0) [.tup []] 1),some (.new 21),oN] [(1,sL ctx1),(4,.ra 1 0),(6,.ra 2 0),(7,.ra 3 0),(8,.ra 4 0),(9,I m6),(10,sL p2),(11,.ra 21 0)] [(1,K24 s0),(2,K26 t2),(3,K2a a3),(4,.box [.nils,.nils,I 0,.nils]),(21,K2a q0)] (cq (Ke0 _ _ p9) K55 (ab (Q71.args (A1 := [K25 s0,.sl (Q02 (List.map K07 p8)),K27 t2,I 1]) (A2 := [K25 s0,sL p8,K27 t2,I 1]) (by simp only [List.map_nil,K0b]) (spec_l3Of_ih _ _ q1)) K56 tv)) ?_
   refine sN ?_
   refine K88 hc 3 [(1,sL ctx1),(4,.ra 1 0),(6,.ra 2 0),(7,.ra 3 0),(8,.ra 4 0),(9,I m6),(10,sL p2),(11,.ra 21 0),(77,.bool (q0.ffault != 0))] ?_
   refine ic h (fun d6 h => ?_) fun d6 h => ?_
   ·refine rs0 hc 2 [(8,.ra 4 0)] [(4,K2a q0)] ?_
    refine rt ?_
    obtain rfl := os h
    exact rq [false]
   refine sk ?_
   refine rss hc none [oN,some (.eqv (.no) ⟨[(80,I (p2.length : Int))],[],[]⟩),oN] [(1,sL ctx1),(4,.ra 1 0),(6,.ra 2 0),(7,.ra 3 0),(8,.ra 4 0),(9,I m6),(11,.ra 21 0),(12,I (p2.length : Int))] (ai (Qdj (d := 80) K07 p2) tv) ?_
   refine K88 hc 3 [(1,sL ctx1),(4,.ra 1 0),(6,.ra 2 0),(7,.ra 3 0),(8,.ra 4 0),(9,I m6),(11,.ra 21 0),(12,I (p2.length : Int)),(13,I t2.fN)] ?_
   obtain ⟨q2,q3,q4,q5,h⟩ := bq2 h
   refine rs hc none [oN,oN,oN,some (.eqv (.no) ⟨[(86,sI q2)],[],[]⟩),some (.call (oI q4) [] 22),oN] [(1,sL ctx1),(4,.ra 1 0),(6,.ra 2 0),(7,.ra 3 0),(8,.ra 4 0),(9,I m6),(11,.ra 21 0),(13,I t2.fN),(14,.rs 22)] [(1,K24 s0),(2,K26 t2),(3,K2a a3),(4,.box [.nils,.nils,I 0,.nils]),(21,K2a q0),(22,rI q4)] (ab (Qdm (d := 86) I q3) (Qdl (enc := I) (sz := 1) Qdw q3) (cq (Kdx _ _ q5) K54 tv)) ?_
   refine K88 hc 1 [(1,sL ctx1),(4,.ra 1 0),(6,.ra 2 0),(7,.ra 3 0),(8,.ra 4 0),(9,I m6),(11,.ra 21 0),(13,I t2.fN),(14,.rs 22),(15,.bool true)] ?_
   refine sN ?_
   refine K88 hc 2 [(1,sL ctx1),(4,.ra 1 0),(6,.ra 2 0),(7,.ra 3 0),(8,.ra 4 0),(9,I m6),(11,.ra 21 0),(13,I t2.fN),(14,.rs 22),(15,.bool true),(89,I t2.fOp)] ?_
   refine bk 1 ?_
   refine K88 hc 2 [(1,sL ctx1),(4,.ra 1 0),(6,.ra 2 0),(7,.ra 3 0),(8,.ra 4 0),(9,I m6),(11,.ra 21 0),(13,I t2.fN),(14,.rs 22),(15,.bool true),(89,I t2.fOp),(90,.bool (t2.fOp == 12))] ?_
   obtain ⟨fl,q6,h⟩ := Qdd h
   refine flw (Kf4 c s0 ctx1 t2 a3 q0 fl) ?_ (fun hF => ?_)
   ·replace h := q6
    refine ic h (fun e5 h => ?_) fun e5 h => ?_
    ·obtain ⟨q7,q8,q9,r0,h⟩ := bq2 h
     refine rgs hc (rx [[0],[0],[0,1],[0],[0,3],[5],[6]]) [oN,oN,oN,oN,oc (I q7),oc (I q9),oN] [(1,sL ctx1),(4,.ra 1 0),(6,.ra 2 0),(7,.ra 3 0),(8,.ra 4 0),(11,.ra 21 0),(13,I q9),(14,.rs 22),(15,.bool true)] (cq (Kc8 _ _ q8) K4j (cq (Kaf _ _ r0) K3x tv)) ?_
     obtain rfl := os h
     exact Qcz.mk
    refine K88 hc 2 [(1,sL ctx1),(4,.ra 1 0),(6,.ra 2 0),(7,.ra 3 0),(8,.ra 4 0),(11,.ra 21 0),(13,I t2.fN),(14,.rs 22),(15,.bool true),(89,I t2.fOp),(98,.bool (t2.fOp == 5))] ?_
    obtain ⟨fl,r1,h⟩ := Qdd h
    refine flw (Kf3 c s0 ctx1 t2 a3 q0 fl) ?_ (fun hF => ?_)
    ·replace h := r1
     refine ic h (fun f0 h => ?_) fun f0 h => ?_
     ·obtain ⟨r2,r3,r4,r5,h⟩ := bq2 h
      refine rgs hc Kf6 [oN,oN,oN,some (.el (I r2)),oN,oN,oc (.bool r4),oN] [(1,sL ctx1),(4,.ra 1 0),(6,.ra 2 0),(7,.ra 3 0),(8,.ra 4 0),(11,.ra 21 0),(13,I t2.fN),(14,.rs 22),(15,.bool r4)] (ai (ix r3) (cq (Kai _ _ r5) K3y tv)) ?_
      obtain rfl := os h
      exact Qcz.mk
     refine K88 hc 2 [(1,sL ctx1),(4,.ra 1 0),(6,.ra 2 0),(7,.ra 3 0),(8,.ra 4 0),(11,.ra 21 0),(13,I t2.fN),(14,.rs 22),(15,.bool true),(107,.bool (t2.fOp == 8))] ?_
     obtain ⟨fl,r6,h⟩ := Qdd h
     refine flw (Kf2 c s0 ctx1 t2 a3 q0 fl) ?_ (fun hF => ?_)
     ·replace h := r6
      refine ic h (fun f5 h => ?_) fun f5 h => ?_
      ·obtain ⟨r7,r8,r9,s1,e8,e9,h⟩ := bq3 h
       refine rs hc (rx [[0],[0],[0],[0,2],[0,2,3],[0,2,3,4],[0,1,2,3,4,5],[0],[8],[0],[10]]) [oN,oN,oN,oN,some (.call (oI r7) [] 23),some (.mk 24 true),some (.call (.osl (List.map K07 r9)) [.tup []] 25),oN,some (.call (K2b e8) [.tup []] 1),some (.new 26),oN] [(1,sL ctx1),(4,.ra 1 0),(6,.ra 2 0),(7,.ra 3 0),(8,.ra 4 0),(11,.ra 21 0),(13,I t2.fN),(14,.rs 22),(16,.ra 26 0)] [(1,K24 s0),(2,K26 t2),(3,K2a a3),(4,.box [.nils,.nils,I 0,.nils]),(21,K2a q0),(22,rI q4),(26,K2a e8)] (cq (Ken _ _ r8) K5d (ad (Q71.args (A1 := [sL ctx1,.sl (Q02 (List.map K0c [r7]))]) (A2 := [sL ctx1,.sl (List.map K07 [r7])]) (by simp only [List.map_nil,K0g]) (Ke0 _ _ s1)) K55 (Q71.args (A1 := [K25 s0,.sl (Q02 (List.map K07 r9)),K27 t2,I 2]) (A2 := [K25 s0,sL r9,K27 t2,I 2]) (by simp only [List.map_nil,K0b]) (spec_l3Of_ih _ _ e9)) K56 tv)) ?_
       refine sN ?_
       refine K88 hc 3 [(1,sL ctx1),(4,.ra 1 0),(6,.ra 2 0),(7,.ra 3 0),(8,.ra 4 0),(11,.ra 21 0),(13,I t2.fN),(14,.rs 22),(16,.ra 26 0),(120,.bool (e8.ffault != 0))] ?_
       refine ic h (fun g0 h => ?_) fun g0 h => ?_
       ·refine rs0 hc 2 [(8,.ra 4 0)] [(4,K2a e8)] ?_
        refine rt ?_
        obtain rfl := os h
        exact re [false]
       refine sk ?_
       refine sN ?_
       obtain ⟨s2,s3,h⟩ := Qdd h
       refine rss hc none [oN,oN,oN,oN,oc (.bool s2),oN] [(1,sL ctx1),(4,.ra 1 0),(6,.ra 2 0),(7,.ra 3 0),(8,.ra 4 0),(11,.ra 21 0),(13,I t2.fN),(14,.rs 22),(16,.ra 26 0),(127,.bool (!s2))] (cq (Keu _ _ s3) K5e tv) ?_
       rcases is h with ⟨i1,h⟩ | ⟨i1,h⟩
       ·refine cF (!s2) (nF i1) ?_
        refine sk ?_
        obtain ⟨s4,s5,s6,s7,h⟩ := bq2 h
        refine rss hc Kf6 [oN,oN,oN,some (.el (I s4)),oN,oN,oc (.bool s6),oN] [(1,sL ctx1),(4,.ra 1 0),(6,.ra 2 0),(7,.ra 3 0),(8,.ra 4 0),(11,.ra 21 0),(13,I t2.fN),(14,.rs 22),(15,.bool s6),(16,.ra 26 0)] (ai (ix s5) (cq (Kai _ _ s7) K3y tv)) ?_
        obtain ⟨s8,s9,t0,t1,h⟩ := bq2 h
        refine rg hc (rx [[0],[0],[0],[0,2],[0,2,3],[5],[6]]) [oN,oN,oN,oN,some (.eqv (.no) ⟨[(140,sI s8)],[],[]⟩),some (.call (oI t0) [] 27),oN] [(1,sL ctx1),(4,.ra 1 0),(6,.ra 2 0),(7,.ra 3 0),(8,.ra 4 0),(11,.ra 21 0),(13,I t2.fN),(14,.rs 27),(15,.bool s6)] [(1,K24 s0),(2,K26 t2),(3,K2a a3),(4,.box [.nils,.nils,I 0,.nils]),(21,K2a q0),(27,rI t0)] (ad (Qdm (d := 140) I s9) (Qdl (enc := I) (sz := 1) Qdw s9) (Q71.args (A1 := [K25 s0,.sl (Q02 (List.map I q4)),sI s8]) (A2 := [K25 s0,sI q4,sI s8]) (by simp only [List.map_nil,Qe5]) (Kf1 _ _ t1)) K5j (ai (Or.inr (Qed Qe9 t0) : ([22] : List Nat) = [] ∨ noSh (oI t0) = true) tv)) ?_
        obtain rfl := os h
        exact Qcz.mk
       refine cT (!s2) (nT i1) ?_
       obtain ⟨t3,t4,h⟩ := Qdd h
       refine rs hc none [some (.call (K2m t3) [] 28),oN] [(8,.ra 4 0)] [(4,.box [.rs 28,.rs 29,I t3.ffault,.rs 30]),(28,rI t3.fty),(29,rI t3.fneeds),(30,rI t3.fpath)] (cq (Ke3 _ _ t4) K57 tv) ?_
       refine vz 28 (Qe5 t3.fty) [(8,.ra 4 0)] [(4,.box [sI t3.fty,.rs 29,I t3.ffault,.rs 30]),(29,rI t3.fneeds),(30,rI t3.fpath)] ?_
       refine vz 29 (Qe5 t3.fneeds) [(8,.ra 4 0)] [(4,.box [sI t3.fty,sI t3.fneeds,I t3.ffault,.rs 30]),(30,rI t3.fpath)] ?_
       refine vz 30 (Qe5 t3.fpath) [(8,.ra 4 0)] [(4,K2a t3)] ?_
       refine rt ?_
       obtain rfl := os h
       exact re [false]
      refine sk ?_
      obtain rfl := os h
      exact iv [(27,22)]
     rcases fl with ⟨t5,t6⟩ | r
     ·refine Wp.into (x := .normal) (mkS [(1,sL ctx1),(4,.ra 1 0),(6,.ra 2 0),(7,.ra 3 0),(8,.ra 4 0),(11,.ra 21 0),(13,I t2.fN),(14,.rs 27),(15,.bool t6)] [(1,K24 s0),(2,K26 t2),(3,K2a a3),(4,.box [.nils,.nils,I 0,.nils]),(21,K2a q0),(27,rI t5)]) hF ?_
      obtain rfl := os h
      exact iv [(22,27)]
     refine Wp.mono hF ?_
     rintro _ _ ⟨rfl,hfin⟩
     obtain rfl := os h
     exact ⟨rfl,hfin⟩
    rcases fl with ⟨t7,t8⟩ | r
    ·refine Wp.into (x := .normal) (mkS [(1,sL ctx1),(4,.ra 1 0),(6,.ra 2 0),(7,.ra 3 0),(8,.ra 4 0),(11,.ra 21 0),(13,I t2.fN),(14,.rs 22),(15,.bool t8)] [(1,K24 s0),(2,K26 t2),(3,K2a a3),(4,.box [.nils,.nils,I 0,.nils]),(21,K2a q0),(22,rI t7)]) hF ?_
     obtain rfl := os h
     exact Qcz.mk
    refine Wp.mono hF ?_
    rintro _ _ ⟨rfl,hfin⟩
    obtain rfl := os h
    exact ⟨rfl,hfin⟩
   rcases fl with ⟨t9,u0,u1⟩ | r
   ·refine Wp.into (x := .normal) (mkS [(1,sL ctx1),(4,.ra 1 0),(6,.ra 2 0),(7,.ra 3 0),(8,.ra 4 0),(11,.ra 21 0),(13,I t9),(14,.rs 22),(15,.bool u1)] [(1,K24 s0),(2,K26 t2),(3,K2a a3),(4,.box [.nils,.nils,I 0,.nils]),(21,K2a q0),(22,rI u0)]) hF ?_
    refine sN ?_
    refine sN ?_
    obtain ⟨u2,u3,h⟩ := Qdd h
    refine Wp.into (x := .normal) (mkS [(1,sL ctx1),(4,.ra 1 0),(6,.ra 2 0),(7,.ra 3 0),(8,.ra 4 0),(11,.ra 21 0),(14,.rs 22),(153,.bool u2)] [(1,K24 s0),(2,K26 t2),(3,K2a a3),(4,.box [.nils,.nils,I 0,.nils]),(21,K2a q0),(22,rI u0)]) ?_ ?_
    ·replace h := u3
     rcases is h with ⟨u4,h⟩ | ⟨u4,h⟩
     ·obtain ⟨u5,u6,u7,u8,h⟩ := bq2 h
      refine rgs hc Kf7 [oN,oN,oN,oN,oN,oN,some (.el (I u5)),oN,oN,oc (.bool u7),oN,oF] [(1,sL ctx1),(4,.ra 1 0),(6,.ra 2 0),(7,.ra 3 0),(8,.ra 4 0),(11,.ra 21 0),(14,.rs 22),(153,.bool (!u7))] (ar 4 (nF u4) (ai (ix u6) (ar 3 (nF u4) (cq (Kai _ _ u8) K3y (ar 2 (nF u4) tv))))) ?_
      obtain rfl := os h
      exact Qcz.mk
     refine rgs hc Kf7 [oN,oN,oN,o_,o_,o_,o_,o_,o_,o_,o_,oT] [(1,sL ctx1),(4,.ra 1 0),(6,.ra 2 0),(7,.ra 3 0),(8,.ra 4 0),(11,.ra 21 0),(14,.rs 22),(153,.bool true)] (ar 8 (neF (nT u4)) (ai (nT u4) tv)) ?_
     obtain rfl := os h
     exact Qcz.mk
    clear u3
    refine ic h (fun u9 h => ?_) fun u9 h => ?_
    ·obtain ⟨v0,v1,h⟩ := Qdd h
     refine rs hc none [some (.call (K2m v0) [] 31),oN] [(8,.ra 4 0)] [(4,.box [.rs 31,.rs 32,I v0.ffault,.rs 33]),(31,rI v0.fty),(32,rI v0.fneeds),(33,rI v0.fpath)] (cq (Ke3 _ _ v1) K57 tv) ?_
     refine vz 31 (Qe5 v0.fty) [(8,.ra 4 0)] [(4,.box [sI v0.fty,.rs 32,I v0.ffault,.rs 33]),(32,rI v0.fneeds),(33,rI v0.fpath)] ?_
     refine vz 32 (Qe5 v0.fneeds) [(8,.ra 4 0)] [(4,.box [sI v0.fty,sI v0.fneeds,I v0.ffault,.rs 33]),(33,rI v0.fpath)] ?_
     refine vz 33 (Qe5 v0.fpath) [(8,.ra 4 0)] [(4,K2a v0)] ?_
     refine rt ?_
     obtain rfl := os h
     exact rq [false]
    refine sk ?_
    obtain ⟨v2,v3,v4,v5,v6,v7,h⟩ := bq3 h
    refine rs hc (rx [[0],[1],[0],[0],[0],[0,4],[0,4,5],[0],[0,7],[0],[0,9],[0,3,4,5,6,7,8,9,10],[0],[0,2,3,4,5,6,7,8,9,10,11,12],[14],[15]]) [oN,oN,oN,oN,oN,some (.eqv (.no) ⟨[(160,I (ctx1.length : Int))],[],[]⟩),some (.call (oI v2) [] 34),oN,oN,oN,oN,some (.call (oI v4) [] 35),oN,some (.call (oI v6) [] 36),oN,oN] [(8,.ra 4 0)] [(4,.box [sI q0.fty,.rs 36,I 0,.nils]),(36,rI v6)] (ai (Qdj (d := 160) K07 ctx1) (cq (Kdu _ _ v3) K53 (ad (Q71.args (A1 := [K25 s0,.sl (Q02 (List.map I v2)),I t2.fN,sI a3.fneeds]) (A2 := [K25 s0,sI v2,I t2.fN,sI a3.fneeds]) (by simp only [List.map_nil,Qe5]) (Keh _ _ v5)) K5a (Or.inr (Qed Qe9 v4) : ([34] : List Nat) = [] ∨ noSh (oI v4) = true) (Q71.args (A1 := [K25 s0,.sl (Q02 (List.map I v4)),I 1,.sl (Q02 (List.map I u0))]) (A2 := [K25 s0,sI v4,I 1,sI u0]) (by simp only [List.map_nil,Qe5]) (Keh _ _ v7)) (ab K5a (Or.inr (Qed Qe9 v6) : ([35,22] : List Nat) = [] ∨ noSh (oI v6) = true) tv)))) ?_
    refine vz 36 (Qe5 v6) [(8,.ra 4 0)] [(4,.box [sI q0.fty,sI v6,I 0,.nils])] ?_
    refine rt ?_
    obtain rfl := os h
    exact rq [false]
   refine Wp.mono hF ?_
   rintro _ _ ⟨rfl,hfin⟩
   obtain rfl := os h
   exact ⟨.inl rfl,hfin⟩
  refine cT (!o7) (nT o9) ?_
  obtain ⟨v8,v9,h⟩ := Qdd h
  refine rs hc none [some (.call (K2m v8) [] 37),oN] [(8,.ra 4 0)] [(4,.box [.rs 37,.rs 38,I v8.ffault,.rs 39]),(37,rI v8.fty),(38,rI v8.fneeds),(39,rI v8.fpath)] (cq (Ke3 _ _ v9) K57 tv) ?_
  refine vz 37 (Qe5 v8.fty) [(8,.ra 4 0)] [(4,.box [sI v8.fty,.rs 38,I v8.ffault,.rs 39]),(38,rI v8.fneeds),(39,rI v8.fpath)] ?_
  refine vz 38 (Qe5 v8.fneeds) [(8,.ra 4 0)] [(4,.box [sI v8.fty,sI v8.fneeds,I v8.ffault,.rs 39]),(39,rI v8.fpath)] ?_
  refine vz 39 (Qe5 v8.fpath) [(8,.ra 4 0)] [(4,K2a v8)] ?_
  refine rt ?_
  obtain rfl := os h
  exact rq [false]
 ·rintro spec_l3Tell_f spec_l3Tell_ih ⟨s0,ctx1,t2,k3⟩ r h
  refine b0 Tryz.f93 B93 28 [(0,K25 s0),(1,sL ctx1),(2,K27 t2),(3,I k3)] fun c hc => ?_
  refine rs hc none [some (.new 1),some (.new 2),some (.new 3)] [(1,sL ctx1),(3,I k3),(4,.ra 1 0),(6,.ra 2 0),(8,.ra 3 0)] [(1,K24 s0),(2,K26 t2),(3,.box [.nils,.nils,I 0,.nils])] tv ?_
  obtain ⟨w0,w1,w2,w3,h⟩ := bq2 h
  refine rs hc (rx [[0],[0],[0],[0,2],[0],[0,2,3,4],[0,2,3,4,5],[7],[0],[9]]) [oN,oN,oN,oN,oN,some (.el (K27 w0)),oN,oc (K2b w2),some (.new 4),oN] [(3,I k3),(8,.ra 3 0),(9,.ra 4 0)] [(3,.box [.nils,.nils,I 0,.nils]),(4,K2a w2)] (ai (Qdh w1 (K0z w0)) (cq (spec_l3Tell_ih _ _ w3) K5h tv)) ?_
  refine sN ?_
  refine K88 hc 3 [(3,I k3),(8,.ra 3 0),(9,.ra 4 0),(20,.bool (w2.ffault != 0))] ?_
  obtain ⟨w4,w5,h⟩ := Qdd h
  refine Wp.into (x := .normal) (mkS [(8,.ra 3 0),(9,.ra 4 0)] [(3,.box [.nils,.nils,I 0,.nils]),(4,.box [sI w2.fty,sI w2.fneeds,I w2.ffault,sI w4])]) ?_ ?_
  ·replace h := w5
   refine ic h (fun a0 h => ?_) fun a0 h => ?_
   ·obtain ⟨_,w6,h⟩ := Qdd h
    refine rg hc none [oN,some (.mk 5 true),oN,oN,some (.eqv (.mk 6 true) ⟨[(25,.rs 6)],[(6,some (rI ([k3] ++ w2.fpath))),(5,none)],[6]⟩),oN,oN] [(8,.ra 3 0),(9,.ra 4 0)] [(3,.box [.nils,.nils,I 0,.nils]),(4,.box [sI w2.fty,sI w2.fneeds,I w2.ffault,.rs 6]),(6,rI ([k3] ++ w2.fpath))] (ab (congrArg (fun z => (⟨[(25,.rs 6)],[(6,some (.arr z)),(5,none)],[6]⟩ : Wr)) ((List.map_append).symm : (List.map I [k3]) ++ (List.map I w2.fpath) = List.map I ([k3] ++ w2.fpath))) (Qdr (enc1 := I) (enc2 := I) (e1 := [k3]) (e2 := w2.fpath) (sz := 1) Qe0 Qe0 w6) tv) ?_
    obtain rfl := os h
    exact Qcz.view (fun a w hv => SRx.renL [] (SRx.frzC 6 (xs := List.map I ([k3] ++ w2.fpath)) (xs' := List.map I ([k3] ++ w2.fpath)) hv (by kernel_rfl) (Qe5 _)) (by kernel_rfl) (by kernel_rfl) (by kernel_rfl))
   refine sk ?_
   obtain rfl := os h
   exact iv []
  clear w5
  refine rs0 hc 2 [(8,.ra 3 0)] [(3,.box [sI w2.fty,sI w2.fneeds,I w2.ffault,sI w4])] ?_
  refine rt ?_
  obtain rfl := os h
  exact rq [false]
 ·rintro spec_l3Of_f spec_l3Of_ih ⟨s0,ctx1,t2,a3⟩ r h
  refine b0 Tryz.f95 B95 65 [(0,K25 s0),(1,sL ctx1),(2,K27 t2),(3,K2b a3)] fun c hc => ?_
  refine rs hc none [some (.new 1),some (.new 2),some (.new 3),some (.new 4)] [(1,sL ctx1),(4,.ra 1 0),(6,.ra 2 0),(7,.ra 3 0),(8,.ra 4 0)] [(1,K24 s0),(2,K26 t2),(3,K2a a3),(4,.box [.nils,.nils,I 0,.nils])] tv ?_
  obtain ⟨w7,w8,h⟩ := Qdd h
  refine rs hc none [oN,oN,oN,oc (K2b w7),some (.new 5),oN] [(1,sL ctx1),(4,.ra 1 0),(6,.ra 2 0),(7,.ra 3 0),(8,.ra 4 0),(9,.ra 5 0)] [(1,K24 s0),(2,K26 t2),(3,K2a a3),(4,.box [.nils,.nils,I 0,.nils]),(5,K2a w7)] (cq (spec_l3Of_ih _ _ w8) K56 tv) ?_
  refine sN ?_
  refine K88 hc 3 [(1,sL ctx1),(4,.ra 1 0),(6,.ra 2 0),(7,.ra 3 0),(8,.ra 4 0),(9,.ra 5 0),(17,.bool (w7.ffault != 0))] ?_
  refine ic h (fun a0 h => ?_) fun a0 h => ?_
  ·refine rs0 hc 2 [(8,.ra 4 0)] [(4,K2a w7)] ?_
   refine rt ?_
   obtain rfl := os h
   exact rq [false]
  refine sk ?_
  refine sN ?_
  refine K88 hc 3 [(1,sL ctx1),(4,.ra 1 0),(6,.ra 2 0),(7,.ra 3 0),(8,.ra 4 0),(9,.ra 5 0),(21,.bool (t2.fOp == 2))] ?_
  refine ic h (fun b1 h => ?_) fun b1 h => ?_
  ·refine sN ?_
   obtain ⟨w9,x0,h⟩ := Qdd h
   refine rs hc none [oN,oN,some (.el (I w9)),oN,oN] [(4,.ra 1 0),(7,.ra 3 0),(8,.ra 4 0),(9,.ra 5 0),(26,.bool (w9 != 0))] [(1,K24 s0),(3,K2a a3),(4,.box [.nils,.nils,I 0,.nils]),(5,K2a w7)] (ai (ix x0) tv) ?_
   refine ic h (fun b6 h => ?_) fun b6 h => ?_
   ·obtain ⟨x1,x2,h⟩ := Qdd h
    refine rs hc none [some (.call (K2m x1) [] 6),oN] [(8,.ra 4 0)] [(4,.box [.rs 6,.rs 7,I x1.ffault,.rs 8]),(6,rI x1.fty),(7,rI x1.fneeds),(8,rI x1.fpath)] (cq (Ke3 _ _ x2) K57 tv) ?_
    refine vz 6 (Qe5 x1.fty) [(8,.ra 4 0)] [(4,.box [sI x1.fty,.rs 7,I x1.ffault,.rs 8]),(7,rI x1.fneeds),(8,rI x1.fpath)] ?_
    refine vz 7 (Qe5 x1.fneeds) [(8,.ra 4 0)] [(4,.box [sI x1.fty,sI x1.fneeds,I x1.ffault,.rs 8]),(8,rI x1.fpath)] ?_
    refine vz 8 (Qe5 x1.fpath) [(8,.ra 4 0)] [(4,K2a x1)] ?_
    refine rt ?_
    obtain rfl := os h
    exact rq [false]
   refine sk ?_
   obtain ⟨x3,x4,h⟩ := Qdd h
   refine rs hc (rx [[0],[1],[0],[0],[0,3],[0],[0,5],[0,2,3,4,5,6],[8],[9]]) [oN,oN,oN,oN,oN,oN,oN,some (.call (oI x3) [] 9),oN,oN] [(8,.ra 4 0)] [(4,.box [sI w7.fty,.rs 9,I 0,.nils]),(9,rI x3)] (cq (Keh _ _ x4) K5a tv) ?_
   refine vz 9 (Qe5 x3) [(8,.ra 4 0)] [(4,.box [sI w7.fty,sI x3,I 0,.nils])] ?_
   refine rt ?_
   obtain rfl := os h
   exact rq [false]
  refine sk ?_
  obtain ⟨o7,o8,h⟩ := Qdd h
  refine rs hc none [oN,oN,oN,oc (K2b o7),some (.new 10),oN] [(4,.ra 1 0),(7,.ra 3 0),(8,.ra 4 0),(9,.ra 5 0),(10,.ra 10 0)] [(1,K24 s0),(3,K2a a3),(4,.box [.nils,.nils,I 0,.nils]),(5,K2a w7),(10,K2a o7)] (cq (spec_l3Of_ih _ _ o8) K56 tv) ?_
  refine sN ?_
  refine K88 hc 3 [(4,.ra 1 0),(7,.ra 3 0),(8,.ra 4 0),(9,.ra 5 0),(10,.ra 10 0),(43,.bool (o7.ffault != 0))] ?_
  refine ic h (fun x5 h => ?_) fun x5 h => ?_
  ·refine rs0 hc 2 [(8,.ra 4 0)] [(4,K2a o7)] ?_
   refine rt ?_
   obtain rfl := os h
   exact rq [false]
  refine sk ?_
  refine sN ?_
  obtain ⟨x6,x7,h⟩ := Qdd h
  refine rss hc none [oN,oN,oN,oN,oc (.bool x6),oN] [(4,.ra 1 0),(7,.ra 3 0),(8,.ra 4 0),(9,.ra 5 0),(10,.ra 10 0),(50,.bool (!x6))] (cq (Keu _ _ x7) K5e tv) ?_
  rcases is h with ⟨x8,h⟩ | ⟨x8,h⟩
  ·refine cF (!x6) (nF x8) ?_
   refine sk ?_
   obtain ⟨x9,y0,y1,y2,h⟩ := bq2 h
   refine rs hc (rx [[0],[1],[0],[0],[0,3],[0],[0],[0,6],[0],[0,8],[0,5,6,7,8,9],[0,2,3,4,5,6,7,8,9,10],[12],[13]]) [oN,oN,oN,oN,oN,oN,oN,oN,oN,oN,some (.call (oI x9) [] 11),some (.call (oI y1) [] 12),oN,oN] [(8,.ra 4 0)] [(4,.box [sI w7.fty,.rs 12,I 0,.nils]),(12,rI y1)] (cq (Kf1 _ _ y0) K5j (ac (Q71.args (A1 := [K25 s0,sI a3.fneeds,I 1,.sl (Q02 (List.map I x9))]) (A2 := [K25 s0,sI a3.fneeds,I 1,sI x9]) (by simp only [List.map_nil,Qe5]) (Keh _ _ y2)) K5a (Or.inr (Qed Qe9 y1) : ([11] : List Nat) = [] ∨ noSh (oI y1) = true) tv)) ?_
   refine vz 12 (Qe5 y1) [(8,.ra 4 0)] [(4,.box [sI w7.fty,sI y1,I 0,.nils])] ?_
   refine rt ?_
   obtain rfl := os h
   exact rq [false]
  refine cT (!x6) (nT x8) ?_
  obtain ⟨y3,y4,h⟩ := Qdd h
  refine rs hc none [some (.call (K2m y3) [] 13),oN] [(8,.ra 4 0)] [(4,.box [.rs 13,.rs 14,I y3.ffault,.rs 15]),(13,rI y3.fty),(14,rI y3.fneeds),(15,rI y3.fpath)] (cq (Ke3 _ _ y4) K57 tv) ?_
  refine vz 13 (Qe5 y3.fty) [(8,.ra 4 0)] [(4,.box [sI y3.fty,.rs 14,I y3.ffault,.rs 15]),(14,rI y3.fneeds),(15,rI y3.fpath)] ?_
  refine vz 14 (Qe5 y3.fneeds) [(8,.ra 4 0)] [(4,.box [sI y3.fty,sI y3.fneeds,I y3.ffault,.rs 15]),(15,rI y3.fpath)] ?_
  refine vz 15 (Qe5 y3.fpath) [(8,.ra 4 0)] [(4,K2a y3)] ?_
  refine rt ?_
  obtain rfl := os h
  exact rq [false]
theorem Kfh : ∀ p r,Kf8 p = some r → Kfc p r := Kfg.1
theorem Kfi : ∀ p r,Kf9 p = some r → Kfd p r := Kfg.2.1
theorem Kfj : ∀ p r,Kfa p = some r → Kfe p r := Kfg.2.2.1
theorem Kfk : ∀ p r,Kfb p = some r → Kff p r := Kfg.2.2.2
def Kfl (p : K00 × LL × K01) : Option ((List Int) × (List Int) × Bool) :=
 match p with
 | (s0,ctx1,t2) =>
  (Kdp (s0,ctx1,t2)) >>= fun a0 =>
  if a0 = true then
  (Kf8 (s0,ctx1,t2)) >>= fun a1 =>
  if (a1.ffault != 0) = true then
  some ([],[],false)
  else
  some (a1.fty,a1.fneeds,true)
  else
  some ([],[],false)
def Kfm (p : K00 × LL × K01) (r : (List Int) × (List Int) × Bool) : Prop :=
 match p with
 | (s0,ctx1,t2) => Q71 Tryz.prog 44 [K25 s0,sL ctx1,K27 t2] (.tup [sI r.1,.sl (List.map I r.2.1),.bool r.2.2]) []
theorem Kfn : ∀ p r,Kfl p = some r → Kfm p r := by
 rintro ⟨s0,ctx1,t2⟩ r h
 unfold Kfl at h
 refine b0 Tryz.f44 B44 26 [(0,K25 s0),(1,sL ctx1),(2,K27 t2)] fun c hc => ?_
 refine rs hc none [some (.new 1),some (.new 2),oN,oN,oN] [(1,sL ctx1),(3,.ra 1 0),(5,.ra 2 0)] [(1,K24 s0),(2,K26 t2)] tv ?_
 refine sN ?_
 obtain ⟨a0,a1,h⟩ := Qdd h
 refine rss hc none [oN,oN,oN,oc (.bool a0),oN] [(1,sL ctx1),(3,.ra 1 0),(5,.ra 2 0),(14,.bool (!a0))] (cq (Kdr _ _ a1) K52 tv) ?_
 rcases is h with ⟨a2,h⟩ | ⟨a2,h⟩
 ·refine cF (!a0) (nF a2) ?_
  refine sk ?_
  obtain ⟨a3,a4,h⟩ := Qdd h
  refine rs hc none [oN,oN,oN,oc (K2b a3),some (.new 3),oN] [(9,.ra 3 0)] [(3,K2a a3)] (cq (Kfh _ _ a4) K5h tv) ?_
  refine sN ?_
  refine K88 hc 3 [(9,.ra 3 0),(21,.bool (a3.ffault != 0))] ?_
  refine ic h (fun a5 h => ?_) fun a5 h => ?_
  ·refine rs0 hc 3 [(6,.nils),(7,.nils),(8,.bool false)] [] ?_
   refine rt ?_
   obtain rfl := os h
   exact rq [false,false,true]
  refine sk ?_
  refine rs hc (rx [[0],[1],[0],[0,2],[2],[5],[6]]) [oN,oN,oN,oN,oN,oN,oN] [(6,sI a3.fty),(7,sI a3.fneeds),(8,.bool true)] [] tv ?_
  refine rt ?_
  obtain rfl := os h
  exact rq [false,false,true]
 refine cT (!a0) (nT a2) ?_
 refine rs0 hc 3 [(6,.nils),(7,.nils),(8,.bool false)] [] ?_
 refine rt ?_
 obtain rfl := os h
 exact rq [false,false,true]
def Kfo (p : K00 × LL × K01 × Int) : Option (LL) :=
 match p with
 | (s0,ctx1,t2,k3) =>
  (Kdb (t2.fOp,k3)) >>= fun a0 =>
  if (a0 == 0) = true then
  some ctx1
  else
  if (t2.fOp == 9) = true then
  (Kdy (ctx1,[t2.fType])) >>= fun a1 =>
  some a1
  else
  (idx t2.fKids 0) >>= fun a2 =>
  (Kf8 (s0,ctx1,a2)) >>= fun a3 =>
  if (t2.fOp == 5) = true then
  (Kel (a3.fty,1)) >>= fun a4 =>
  (Kel (a3.fty,0)) >>= fun a5 =>
  (Kdy (ctx1,[a4,a5])) >>= fun a6 =>
  some a6
  else
  (Kel (a3.fty,(wr (k3 - 1)))) >>= fun a7 =>
  (Kdy (ctx1,[a7])) >>= fun a8 =>
  some a8
def Kfp (p : K00 × LL × K01 × Int) (r : LL) : Prop :=
 match p with
 | (s0,ctx1,t2,k3) => Q71 Tryz.prog 81 [K25 s0,sL ctx1,K27 t2,I k3] (sL r) []
theorem Kfq : ∀ p r,Kfo p = some r → Kfp p r := by
 rintro ⟨s0,ctx1,t2,k3⟩ r h
 unfold Kfo at h
 refine b0 Tryz.f81 B81 51 [(0,K25 s0),(1,sL ctx1),(2,K27 t2),(3,I k3)] fun c hc => ?_
 refine rs hc none [some (.new 1),some (.new 2),oN] [(1,sL ctx1),(3,I k3),(4,.ra 1 0),(6,.ra 2 0)] [(1,K24 s0),(2,K26 t2)] tv ?_
 refine sN ?_
 refine bk 0 ?_
 obtain ⟨a0,a1,h⟩ := Qdd h
 refine rss hc none [oN,oN,oN,oc (I a0),oN,oN] [(1,sL ctx1),(3,I k3),(4,.ra 1 0),(6,.ra 2 0),(10,.bool (a0 == 0))] (cq (Kdd _ _ a1) K4y tv) ?_
 refine ic h (fun a2 h => ?_) fun a2 h => ?_
 ·refine rs0 hc 2 [(8,sL ctx1)] [] ?_
  refine rt ?_
  obtain rfl := os h
  exact rq [false]
 refine K88 hc 4 [(1,sL ctx1),(3,I k3),(4,.ra 1 0),(6,.ra 2 0),(17,.bool (t2.fOp == 9))] ?_
 refine ic h (fun a3 h => ?_) fun a3 h => ?_
 ·obtain ⟨a4,a5,h⟩ := Qdd h
  refine rs hc none [oN,oN,oN,some (.mk 3 false),some (.call (.osl (List.map K07 a4)) [.tup []] 4),oN] [(8,.rs 4)] [(4,.arr (List.map K07 a4))] (ab (Q71.args (A1 := [sL ctx1,.sl (Q02 (List.map K07 [t2.fType]))]) (A2 := [sL ctx1,.sl (List.map K07 [t2.fType])]) (by simp only [List.map_nil,K0b]) (Ke0 _ _ a5)) K55 tv) ?_
  refine vz 4 (K0b a4) [(8,sL a4)] [] ?_
  refine rt ?_
  obtain rfl := os h
  exact rq [false]
 refine sk ?_
 obtain ⟨a6,a7,a8,a9,h⟩ := bq2 h
 refine rs hc (rx [[0],[0],[0],[0,2],[0,2,3],[0,2,3,4],[6],[7],[8]]) [oN,oN,oN,oN,some (.el (K27 a6)),oN,oc (K2b a8),oN,oN] [(1,sL ctx1),(3,I k3),(6,.ra 2 0),(9,sI a8.fty)] [(2,K26 t2)] (ai (Qdh a7 (K0z a6)) (cq (Kfh _ _ a9) K5h tv)) ?_
 refine sN ?_
 refine rs0 hc 3 [(1,sL ctx1),(3,I k3),(9,sI a8.fty),(36,.bool (t2.fOp == 5))] [] ?_
 refine ic h (fun b1 h => ?_) fun b1 h => ?_
 ·obtain ⟨b2,b3,b4,b5,b6,b7,h⟩ := bq3 h
  refine rs hc none [oN,oN,some (.call (oI b2) [] 5),oN,some (.call (oI b4) [] 6),some (.mk 7 true),some (.call (.osl (List.map K07 b6)) [.tup []] 8),oN] [(8,.rs 8)] [(8,.arr (List.map K07 b6))] (cq (Ken _ _ b3) K5d (cq (Ken _ _ b5) K5d (ab (Q71.args (A1 := [sL ctx1,.sl (Q02 (List.map K0c [b2,b4]))]) (A2 := [sL ctx1,.sl (List.map K07 [b2,b4])]) (by simp only [List.map_nil,K0g]) (Ke0 _ _ b7)) K55 tv))) ?_
  refine vz 8 (K0b b6) [(8,sL b6)] [] ?_
  refine rt ?_
  obtain rfl := os h
  exact rq [false]
 refine sk ?_
 obtain ⟨b8,b9,c0,c1,h⟩ := bq2 h
 refine rs hc none [oN,oN,oN,oN,some (.call (oI b8) [] 9),some (.mk 10 true),some (.call (.osl (List.map K07 c0)) [.tup []] 11),oN] [(8,.rs 11)] [(11,.arr (List.map K07 c0))] (cq (Ken _ _ b9) K5d (ab (Q71.args (A1 := [sL ctx1,.sl (Q02 (List.map K0c [b8]))]) (A2 := [sL ctx1,.sl (List.map K07 [b8])]) (by simp only [List.map_nil,K0g]) (Ke0 _ _ c1)) K55 tv)) ?_
 refine vz 11 (K0b c0) [(8,sL c0)] [] ?_
 refine rt ?_
 obtain rfl := os h
 exact rq [false]
def Kfr (c : Ctx) (t0 : K01) (a0 : List Int) (a1 : Int) : (List K01) → Exit → Q0a → Prop
 | a2 => Qcz c (.exit 0) (mkS [(6,.ra 2 0),(7,.ra 4 0)] [(2,.box [I 0,I 0,.nils,.nils]),(3,rI a0),(4,.box [I t0.fOp,I a1,.rs 3,.rs 9]),(9,.arr (List.map K0v a2))])
mutual
def Kfs (p : K01 × Int × Int) : Option (K01) :=
 match p with
 | (t0,by1,from2) =>
  (Kdv t0.fType) >>= fun a0 =>
  ((
  if (t0.fOp == 0) = true then
  some ((decide (t0.fN ≥ from2)))
  else
  some (false)
  ) : Option (Bool)) >>= fun a1 =>
  ((
  if a1 = true then
  some ((wr (t0.fN + by1)))
  else
  some (t0.fN)
  ) : Option (Int)) >>= fun a2 =>
  (Kft (t0,by1,from2,a0,a2,[],0)) >>= fun a3 =>
  some (K01.mk t0.fOp a2 a0 a3)
 partial_fixpoint
def Kft (p : K01 × Int × Int × (List Int) × Int × (List K01) × Int) : Option ((List K01)) :=
 match p with
 | (t0,by1,from2,a0,a1,a2,a3) =>
  if (decide (a3 < (t0.fKids.length : Int))) = true then
  (idx t0.fKids a3) >>= fun a4 =>
  (Kdb (t0.fOp,a3)) >>= fun a5 =>
  (Kfs (a4,by1,(wr (from2 + a5)))) >>= fun a6 =>
  (Qdq (a2.length + [a6].length) 64) >>= fun _ =>
  Kft (t0,by1,from2,a0,a1,(a2 ++ [a6]),(wr (a3 + 1)))
  else
  some (a2)
 partial_fixpoint
end
def Kfu (p : K01 × Int × Int) (r : K01) : Prop :=
 match p with
 | (t0,by1,from2) => Q71 Tryz.prog 83 [K27 t0,I by1,I from2] (K2i r) []
def Kfv (p : K01 × Int × Int × (List Int) × Int × (List K01) × Int) (fl : (List K01)) : Prop :=
 match p with
 | (t0,by1,from2,a0,a1,a2,a3) => ∀ c : Ctx,c.nt = 57 → WpL Tryz.prog c (cl (cl (cr (cl (cr (cr (cr B83))))))) (Kfr c t0 a0 a1 fl) (mkS [(1,I by1),(2,I from2),(3,.ra 1 0),(6,.ra 2 0),(7,.ra 4 0),(8,I a3)] [(1,K26 t0),(2,.box [I 0,I 0,.nils,.nils]),(3,rI a0),(4,.box [I t0.fOp,I a1,.rs 3,.rs 9]),(9,.arr (List.map K0v a2))])
theorem Kfw : (∀ p r,Kfs p = some r → Kfu p r) ∧ (∀ p r,Kft p = some r → Kfv p r) := by
 refine Kfs.mutual_partial_correctness Kfu Kfv ?_ ?_
 ·rintro spec_l2Shift_l0_f spec_l2Shift_l0_ih ⟨t0,by1,from2⟩ r h
  refine b0 Tryz.f83 B83 57 [(0,K27 t0),(1,I by1),(2,I from2)] fun c hc => ?_
  refine rs hc none [some (.new 1),some (.new 2)] [(1,I by1),(2,I from2),(3,.ra 1 0),(6,.ra 2 0)] [(1,K26 t0),(2,.box [I 0,I 0,.nils,.nils])] tv ?_
  obtain ⟨a0,a1,h⟩ := Qdd h
  refine rs hc (rx [[0],[1],[0],[0,2],[0],[0,4],[0,4,5],[7],[0],[9]]) [oN,oN,oN,oN,oN,oN,some (.call (oI a0) [] 3),oN,some (.new 4),oN] [(1,I by1),(2,I from2),(3,.ra 1 0),(6,.ra 2 0),(7,.ra 4 0)] [(1,K26 t0),(2,.box [I 0,I 0,.nils,.nils]),(3,rI a0),(4,.box [I t0.fOp,I t0.fN,.rs 3,.nils])] (cq (Kdx _ _ a1) K54 tv) ?_
  refine sN ?_
  refine sN ?_
  obtain ⟨a2,a3,h⟩ := Qdd h
  refine Wp.into (x := .normal) (mkS [(1,I by1),(2,I from2),(3,.ra 1 0),(6,.ra 2 0),(7,.ra 4 0),(25,.bool a2)] [(1,K26 t0),(2,.box [I 0,I 0,.nils,.nils]),(3,rI a0),(4,.box [I t0.fOp,I t0.fN,.rs 3,.nils])]) ?_ ?_
  ·replace h := a3
   rcases is h with ⟨a4,h⟩ | ⟨a4,h⟩
   ·refine rgs hc none [oN,oN,oN,oN,oN,oN,oN,oN,oT] [(1,I by1),(2,I from2),(3,.ra 1 0),(6,.ra 2 0),(7,.ra 4 0),(25,.bool (decide (t0.fN ≥ from2)))] (ar 5 a4 tv) ?_
    obtain rfl := os h
    exact Qcz.mk
   refine rgs hc none [oN,oN,oN,oN,o_,o_,o_,o_,oF] [(1,I by1),(2,I from2),(3,.ra 1 0),(6,.ra 2 0),(7,.ra 4 0),(25,.bool false)] (ar 4 (neT a4) (ai a4 tv)) ?_
   obtain rfl := os h
   exact Qcz.mk
  clear a3
  obtain ⟨a5,a6,h⟩ := Qdd h
  refine Wp.into (x := .normal) (mkS [(1,I by1),(2,I from2),(3,.ra 1 0),(6,.ra 2 0),(7,.ra 4 0)] [(1,K26 t0),(2,.box [I 0,I 0,.nils,.nils]),(3,rI a0),(4,.box [I t0.fOp,I a5,.rs 3,.nils])]) ?_ ?_
  ·replace h := a6
   refine ic h (fun a7 h => ?_) fun a7 h => ?_
   ·refine rg0 hc 6 [(1,I by1),(2,I from2),(3,.ra 1 0),(6,.ra 2 0),(7,.ra 4 0)] [(1,K26 t0),(2,.box [I 0,I 0,.nils,.nils]),(3,rI a0),(4,.box [I t0.fOp,I (wr (t0.fN + by1)),.rs 3,.nils])] ?_
    obtain rfl := os h
    exact Qcz.mk
   refine sk ?_
   obtain rfl := os h
   exact iv []
  clear a6
  refine sN ?_
  refine K88 hc 1 [(1,I by1),(2,I from2),(3,.ra 1 0),(6,.ra 2 0),(7,.ra 4 0),(8,I 0)] ?_
  refine bk 0 ?_
  obtain ⟨a8,a9,h⟩ := Qdd h
  have hL := spec_l2Shift_l0_ih _ _ a9 c hc
  refine Wp.loopN (by kernel_rfl) (WpL.view (fun a w hv => SRx.renL [(9,18)] (SRx.nilBL 4 3 18 [I t0.fOp,I a5,.rs 3,.nils] hv (by kernel_rfl) (by kernel_rfl) (by kernel_rfl)) (by kernel_rfl) (by kernel_rfl) (by kernel_rfl)) (?_ : WpL _ c _ _ (mkS [(1,I by1),(2,I from2),(3,.ra 1 0),(6,.ra 2 0),(7,.ra 4 0),(8,I 0)] [(1,K26 t0),(2,.box [I 0,I 0,.nils,.nils]),(3,rI a0),(4,.box [I t0.fOp,I a5,.rs 3,.rs 9]),(9,.arr (List.map K0v []))])))
  refine WpL.into (e := (.exit 0)) (mkS [(6,.ra 2 0),(7,.ra 4 0)] [(2,.box [I 0,I 0,.nils,.nils]),(3,rI a0),(4,.box [I t0.fOp,I a5,.rs 3,.rs 9]),(9,.arr (List.map K0v a8))]) hL ?_
  refine Qcr ?_
  refine rs0 hc 2 [(6,.ra 2 0)] [(2,.box [I t0.fOp,I a5,.rs 3,.rs 9]),(3,rI a0),(9,.arr (List.map K0v a8))] ?_
  refine rt ?_
  obtain rfl := os h
  exact rq [true]
 ·rintro spec_l2Shift_f spec_l2Shift_l0_f spec_l2Shift_ih spec_l2Shift_l0_ih ⟨t0,by1,from2,a0,a5,b1,b2⟩ r h
  intro c hc
  refine WpL.step ?_
  refine sN ?_
  refine rss hc none [oN,oN,oN,some (.eqv (.no) ⟨[(34,I (t0.fKids.length : Int))],[],[]⟩),oN] [(1,I by1),(2,I from2),(3,.ra 1 0),(6,.ra 2 0),(7,.ra 4 0),(8,I b2),(35,.bool (decide (b2 < (t0.fKids.length : Int))))] (ai (Qdj (d := 34) K0s t0.fKids) tv) ?_
  refine ic h (fun b3 h => ?_) fun b3 h => ?_
  ·refine sk ?_
   refine sN ?_
   refine bk 1 ?_
   obtain ⟨b4,b5,b6,b7,b8,b9,_,c0,h⟩ := bq4 h
   refine rg hc (rx [[0],[1],[0],[0,2],[0],[0,2,3,4],[0,2,3,4,5],[0],[0],[0],[0,9],[0],[0,9,10,11],[0,8,9,10,11,12],[0,2,3,4,5,6,7,8,9,10,11,12,13],[0,2,3,4,5,6,7,8,9,10,11,12,13,14],[16],[17],[18]]) [oN,oN,oN,oN,oN,some (.el (K27 b4)),oN,oN,oN,oN,oN,oN,oc (I b6),oN,some (.call (K2i b8) [] 14),some (.eqv (.mk 16 true) ⟨[(53,.rs 16)],[(16,some (.arr (List.map K0v [b8]))),(14,none),(15,none)],[16]⟩),some (.eqv (.mk 17 true) ⟨[(54,.rs 17)],[(17,some (.arr (List.map K0v (b1 ++ [b8])))),(9,none),(16,none)],[17]⟩),oN,oN] [(1,I by1),(2,I from2),(3,.ra 1 0),(6,.ra 2 0),(7,.ra 4 0),(8,I b2)] [(1,K26 t0),(2,.box [I 0,I 0,.nils,.nils]),(3,rI a0),(4,.box [I t0.fOp,I a5,.rs 3,.rs 17]),(17,.arr (List.map K0v (b1 ++ [b8])))] (ai (Qdh b5 (K0z b4)) (cq (Kdd _ _ b7) K4y (cq (spec_l2Shift_ih _ _ b9) K5n (ac (congrArg (fun z => (⟨[(53,.rs 16)],[(16,some (.arr z)),(14,none),(15,none)],[16]⟩ : Wr)) ((Qek (K11 b8) Qej) : [AV.agg [I b8.fOp,I b8.fN,oI b8.fType,AV.osl (List.map K0v b8.fKids)]] = List.map K0v [b8])) (congrArg (fun z => (⟨[(54,.rs 17)],[(17,some (.arr z)),(9,none),(16,none)],[17]⟩ : Wr)) ((List.map_append).symm : (List.map K0v b1) ++ (List.map K0v [b8]) = List.map K0v (b1 ++ [b8]))) (Qdr (enc1 := K0v) (enc2 := K0v) (e1 := b1) (e2 := [b8]) (sz := 4) K1f K1f c0) tv)))) ?_
   refine K87 hc 3 [(1,I by1),(2,I from2),(3,.ra 1 0),(6,.ra 2 0),(7,.ra 4 0),(8,I (wr (b2 + 1)))] ?_
   refine Qcv ?_
   exact WpL.view (fun a w hv => SRx.renL [(9,17)] hv (by kernel_rfl) (by kernel_rfl) (by kernel_rfl)) (spec_l2Shift_l0_ih _ _ h c hc)
  refine xt 0 ?_
  refine Qcp ?_
  refine Qcw ?_
  obtain rfl := os h
  exact iv []
theorem Kfx : ∀ p r,Kfs p = some r → Kfu p r := Kfw.1
theorem Kfy : ∀ p r,Kft p = some r → Kfv p r := Kfw.2
def Kfz (c : Ctx) (s0 : K00) (ctx1 : LL) (t2 : K01) : (List K02) × (List Int) → Exit → Q0a → Prop
 | (a0,a1) => Qcz c (.exit 0) (mkS [(1,sL ctx1),(3,.rs 1),(4,.ra 2 0),(6,.ra 3 0),(9,.rs 4)] [(1,.arr (List.map K12 a0)),(2,K24 s0),(3,K26 t2),(4,rI a1)])
def Kg0 (c : Ctx) (t2 : K01) (a0 : List K02) (a1 : List Int) (a2 : K03) : LL → Exit → Q0a → Prop
 | a3 => Qcz c (.exit 2) (mkS [(3,.rs 1),(6,.ra 3 0),(9,.rs 4),(11,.ra 11 0),(12,.rs 12)] [(1,.arr (List.map K12 a0)),(3,K26 t2),(4,rI a1),(11,K2a a2),(12,.arr (List.map K0c a3))])
def Kg1 (p : LL × K01 × (List K02) × (List Int) × K03 × LL × Int) : Option (LL) :=
 match p with
 | (ctx1,t2,a0,a1,a2,a3,a4) =>
  if (decide (a4 < (ctx1.length : Int))) = true then
  (idx ctx1 a4) >>= fun a5 =>
  (Kdv a5) >>= fun a6 =>
  (Qdq (a3.length + [a6].length) 24) >>= fun _ =>
  Kg1 (ctx1,t2,a0,a1,a2,(a3 ++ [a6]),(wr (a4 + 1)))
  else
  some (a3)
 partial_fixpoint
def Kg2 (p : LL × K01 × (List K02) × (List Int) × K03 × LL × Int) (fl : LL) : Prop :=
 match p with
 | (ctx1,t2,a0,a1,a2,a3,a4) => ∀ c : Ctx,c.nt = 72 → WpL Tryz.prog c (cl (cl (cr (cl (cr (cr (cr (cr (cr B45))))))))) (Kg0 c t2 a0 a1 a2 fl) (mkS [(1,sL ctx1),(3,.rs 1),(6,.ra 3 0),(9,.rs 4),(11,.ra 11 0),(12,.rs 12),(13,I a4)] [(1,.arr (List.map K12 a0)),(3,K26 t2),(4,rI a1),(11,K2a a2),(12,.arr (List.map K0c a3))])
theorem Kg3 : ∀ p r,Kg1 p = some r → Kg2 p r := by
 refine Kg1.partial_correctness Kg2 ?_
 rintro spec_l8Derive_l1_f spec_l8Derive_l1_ih ⟨ctx1,t2,a0,a1,a2,a3,a4⟩ r h
 intro c hc
 refine WpL.step ?_
 refine sN ?_
 refine rss hc none [oN,oN,some (.eqv (.no) ⟨[(48,I (ctx1.length : Int))],[],[]⟩),oN] [(1,sL ctx1),(3,.rs 1),(6,.ra 3 0),(9,.rs 4),(11,.ra 11 0),(12,.rs 12),(13,I a4),(49,.bool (decide (a4 < (ctx1.length : Int))))] (ai (Qdj (d := 48) K07 ctx1) tv) ?_
 refine ic h (fun a5 h => ?_) fun a5 h => ?_
 ·refine sk ?_
  refine sN ?_
  refine bk 3 ?_
  obtain ⟨a6,a7,a8,a9,_,b1,h⟩ := bq3 h
  refine rg hc none [oN,oN,oN,some (.el (sI a6)),oN,some (.call (oI a8) [] 16),some (.mk 17 true),some (.eqv (.mk 18 true) ⟨[(59,.rs 18)],[(18,some (.arr (List.map K0c (a3 ++ [a8])))),(12,none),(17,none)],[18]⟩),oN] [(1,sL ctx1),(3,.rs 1),(6,.ra 3 0),(9,.rs 4),(11,.ra 11 0),(12,.rs 18),(13,I a4)] [(1,.arr (List.map K12 a0)),(3,K26 t2),(4,rI a1),(11,K2a a2),(18,.arr (List.map K0c (a3 ++ [a8])))] (ai (xL a7) (cq (Kdx _ _ a9) K54 (ab (congrArg (fun z => (⟨[(59,.rs 18)],[(18,some (.arr z)),(12,none),(17,none)],[18]⟩ : Wr)) ((List.map_append).symm : (List.map K0c a3) ++ (List.map K0c [a8]) = List.map K0c (a3 ++ [a8]))) (Qdr (enc1 := K0c) (enc2 := K0c) (e1 := a3) (e2 := [a8]) (sz := 1) K0f K0f b1) tv))) ?_
  refine K87 hc 3 [(1,sL ctx1),(3,.rs 1),(6,.ra 3 0),(9,.rs 4),(11,.ra 11 0),(12,.rs 18),(13,I (wr (a4 + 1)))] ?_
  refine Qcv ?_
  exact WpL.view (fun a w hv => SRx.renL [(12,18)] hv (by kernel_rfl) (by kernel_rfl) (by kernel_rfl)) (spec_l8Derive_l1_ih _ _ h c hc)
 refine xt 2 ?_
 refine Qcp ?_
 refine Qcw ?_
 obtain rfl := os h
 exact iv []
mutual
def Kg4 (p : K00 × LL × K01 × (List K02)) : Option ((List K02)) :=
 match p with
 | (s0,ctx1,t2,l3) =>
  (Kg5 (s0,ctx1,t2,l3,[],0)) >>= fun (a0,a1) =>
  (Kf8 (s0,ctx1,t2)) >>= fun a2 =>
  (Kg1 (ctx1,t2,a0,a1,a2,[],0)) >>= fun a3 =>
  (Kfs (t2,0,0)) >>= fun a4 =>
  (Qdq (a0.length + [(K02.mk a3 a2.fneeds a4 a2.fty a1)].length) 160) >>= fun _ =>
  some (a0 ++ [(K02.mk a3 a2.fneeds a4 a2.fty a1)])
 partial_fixpoint
def Kg5 (p : K00 × LL × K01 × (List K02) × (List Int) × Int) : Option ((List K02) × (List Int)) :=
 match p with
 | (s0,ctx1,t2,a0,a1,a2) =>
  if (decide (a2 < (t2.fKids.length : Int))) = true then
  (Kfo (s0,ctx1,t2,a2)) >>= fun a3 =>
  (idx t2.fKids a2) >>= fun a4 =>
  (Kg4 (s0,a3,a4,a0)) >>= fun a5 =>
  (Qdq (a1.length + [(wr ((a5.length : Int) - 1))].length) 8) >>= fun _ =>
  Kg5 (s0,ctx1,t2,a5,(a1 ++ [(wr ((a5.length : Int) - 1))]),(wr (a2 + 1)))
  else
  some ((a0,a1))
 partial_fixpoint
end
def Kg6 (p : K00 × LL × K01 × (List K02)) (r : (List K02)) : Prop :=
 match p with
 | (s0,ctx1,t2,l3) => Q71 Tryz.prog 45 [K25 s0,sL ctx1,K27 t2,.osl (List.map K12 l3)] (.osl (List.map K12 r)) []
def Kg7 (p : K00 × LL × K01 × (List K02) × (List Int) × Int) (fl : (List K02) × (List Int)) : Prop :=
 match p with
 | (s0,ctx1,t2,a0,a1,a2) => ∀ c : Ctx,c.nt = 72 → WpL Tryz.prog c (cl (cl (cr (cl (cr (cr B45)))))) (Kfz c s0 ctx1 t2 fl) (mkS [(1,sL ctx1),(3,.rs 1),(4,.ra 2 0),(6,.ra 3 0),(9,.rs 4),(10,I a2)] [(1,.arr (List.map K12 a0)),(2,K24 s0),(3,K26 t2),(4,rI a1)])
theorem Kg8 : (∀ p r,Kg4 p = some r → Kg6 p r) ∧ (∀ p r,Kg5 p = some r → Kg7 p r) := by
 refine Kg4.mutual_partial_correctness Kg6 Kg7 ?_ ?_
 ·rintro spec_l8Derive_l0_f spec_l8Derive_l0_ih ⟨s0,ctx1,t2,l3⟩ r h
  refine Q71.body K3e (fn := Tryz.f45) (code := B45) (by kernel_rfl) (by kernel_rfl) (by kernel_rfl) (nt := 72) (by kernel_rfl) (by kernel_rfl) (T := [(0,K25 s0),(1,sL ctx1),(2,K27 t2),(3,.rs 4000)]) (O := [(4000,.arr (List.map K12 l3))]) (by kernel_rfl) (by kernel_rfl) (fun c hc => ?_)
  refine Wp.view (fun a w hv => SRx.renL [(1,4000)] hv (by kernel_rfl) (by kernel_rfl) (by kernel_rfl)) (?_ : Wp Tryz.prog c _ _ (mkS [(0,K25 s0),(1,sL ctx1),(2,K27 t2),(3,.rs 1)] [(1,.arr (List.map K12 l3))]))
  refine rs hc none [some (.new 2),some (.new 3),oN] [(1,sL ctx1),(3,.rs 1),(4,.ra 2 0),(6,.ra 3 0)] [(1,.arr (List.map K12 l3)),(2,K24 s0),(3,K26 t2)] tv ?_
  refine rs hc none [some (.mk 4 true),oN] [(1,sL ctx1),(3,.rs 1),(4,.ra 2 0),(6,.ra 3 0),(9,.rs 4)] [(1,.arr (List.map K12 l3)),(2,K24 s0),(3,K26 t2),(4,.arr (List.map I []))] tv ?_
  refine sN ?_
  refine K88 hc 1 [(1,sL ctx1),(3,.rs 1),(4,.ra 2 0),(6,.ra 3 0),(9,.rs 4),(10,I 0)] ?_
  refine bk 0 ?_
  obtain ⟨⟨a0,a1⟩,a2,h⟩ := Qdd h
  have hL := spec_l8Derive_l0_ih _ _ a2 c hc
  refine lp ?_
  refine WpL.into (e := (.exit 0)) (mkS [(1,sL ctx1),(3,.rs 1),(4,.ra 2 0),(6,.ra 3 0),(9,.rs 4)] [(1,.arr (List.map K12 a0)),(2,K24 s0),(3,K26 t2),(4,rI a1)]) hL ?_
  refine Qcr ?_
  obtain ⟨a3,a4,h⟩ := Qdd h
  refine rs hc none [oN,oN,oN,oc (K2b a3),some (.new 11),oN] [(1,sL ctx1),(3,.rs 1),(6,.ra 3 0),(9,.rs 4),(11,.ra 11 0)] [(1,.arr (List.map K12 a0)),(3,K26 t2),(4,rI a1),(11,K2a a3)] (cq (Kfh _ _ a4) K5h tv) ?_
  refine rs hc none [some (.mk 12 true),oN] [(1,sL ctx1),(3,.rs 1),(6,.ra 3 0),(9,.rs 4),(11,.ra 11 0),(12,.rs 12)] [(1,.arr (List.map K12 a0)),(3,K26 t2),(4,rI a1),(11,K2a a3),(12,.arr (List.map K0c []))] tv ?_
  refine sN ?_
  refine K88 hc 1 [(1,sL ctx1),(3,.rs 1),(6,.ra 3 0),(9,.rs 4),(11,.ra 11 0),(12,.rs 12),(13,I 0)] ?_
  refine bk 2 ?_
  obtain ⟨a5,a6,h⟩ := Qdd h
  have hL := Kg3 _ _ a6 c hc
  refine lp ?_
  refine WpL.into (e := (.exit 2)) (mkS [(3,.rs 1),(6,.ra 3 0),(9,.rs 4),(11,.ra 11 0),(12,.rs 12)] [(1,.arr (List.map K12 a0)),(3,K26 t2),(4,rI a1),(11,K2a a3),(12,.arr (List.map K0c a5))]) hL ?_
  refine Qcr ?_
  refine sN ?_
  refine vz 12 (K0g a5) [(3,.rs 1),(6,.ra 3 0),(9,.rs 4),(11,.ra 11 0),(12,sL a5)] [(1,.arr (List.map K12 a0)),(3,K26 t2),(4,rI a1),(11,K2a a3)] ?_
  refine vz 4 (Qe5 a1) [(3,.rs 1),(6,.ra 3 0),(9,sI a1),(11,.ra 11 0),(12,sL a5)] [(1,.arr (List.map K12 a0)),(3,K26 t2),(11,K2a a3)] ?_
  obtain ⟨a7,a8,_,a9,h⟩ := bq2 h
  refine rg hc (rx [[0],[0],[0],[0,2],[0],[0,4],[0],[0,6],[0],[0,1,2,3,4,5,6,7,8],[0,1,2,3,4,5,6,7,8,9],[11],[12]]) [oN,oN,oN,oN,oN,oc (K27 a7),oN,oN,oN,oN,some (.mk 28 false),some (.eqv (.mk 29 true) ⟨[(71,.rs 29)],[(29,some (.arr (List.map K12 (a0 ++ [(K02.mk a5 a3.fneeds a7 a3.fty a1)])))),(1,none),(28,none)],[29]⟩),oN] [(8,.rs 29)] [(29,.arr (List.map K12 (a0 ++ [(K02.mk a5 a3.fneeds a7 a3.fty a1)])))] (cq (Q71.res (r2 := K27 a7) (by simp only [share,Q02,K1i,Qe5]) (Q71.shr (Kfx _ _ a8))) K5n (ab (congrArg (fun z => (⟨[(71,.rs 29)],[(29,some (.arr z)),(1,none),(28,none)],[29]⟩ : Wr)) ((List.map_append).symm : (List.map K12 a0) ++ (List.map K12 [(K02.mk a5 a3.fneeds a7 a3.fty a1)]) = List.map K12 (a0 ++ [(K02.mk a5 a3.fneeds a7 a3.fty a1)]))) (Qdr (enc1 := K12) (enc2 := K12) (e1 := a0) (e2 := [(K02.mk a5 a3.fneeds a7 a3.fty a1)]) (sz := 8) K1n K1n a9) tv)) ?_
  refine rt ?_
  obtain rfl := os h
  exact rq [true]
 ·rintro spec_l8Derive_f spec_l8Derive_l0_f spec_l8Derive_ih spec_l8Derive_l0_ih ⟨s0,ctx1,t2,b1,b2,b3⟩ r h
  intro c hc
  refine WpL.step ?_
  refine sN ?_
  refine rss hc none [oN,oN,oN,some (.eqv (.no) ⟨[(18,I (t2.fKids.length : Int))],[],[]⟩),oN] [(1,sL ctx1),(3,.rs 1),(4,.ra 2 0),(6,.ra 3 0),(9,.rs 4),(10,I b3),(19,.bool (decide (b3 < (t2.fKids.length : Int))))] (ai (Qdj (d := 18) K0s t2.fKids) tv) ?_
  refine ic h (fun b4 h => ?_) fun b4 h => ?_
  ·refine sk ?_
   refine sN ?_
   refine bk 1 ?_
   obtain ⟨b5,b6,b7,b8,b9,c0,h⟩ := bq3 h
   refine rs hc (rx [[0],[0],[0],[0],[0],[0,1,2,3,4],[0],[0,6],[0],[0,6,7,8],[0,6,7,8,9],[0],[12],[13]]) [oN,oN,oN,oN,oN,oc (sL b5),oN,oN,oN,some (.el (K27 b7)),oN,oN,some (.call (.osl (List.map K12 b9)) [.undef,.undef,.undef,.tup []] 8),oN] [(1,sL ctx1),(3,.rs 8),(4,.ra 2 0),(6,.ra 3 0),(9,.rs 4),(10,I b3)] [(2,K24 s0),(3,K26 t2),(4,rI b2),(8,.arr (List.map K12 b9))] (cq (Kfq _ _ b6) K5l (ac (Qdh b8 (K0z b7)) (Q71.undefs 4 (spec_l8Derive_ih _ _ c0)) K5m tv)) ?_
   obtain ⟨_,c1,h⟩ := Qdd h
   refine rg hc none [oN,oN,some (.eqv (.no) ⟨[(37,I (b9.length : Int))],[],[]⟩),oN,some (.mk 9 true),some (.eqv (.mk 10 true) ⟨[(40,.rs 10)],[(10,some (.arr (List.map I (b2 ++ [(wr ((b9.length : Int) - 1))])))),(4,none),(9,none)],[10]⟩),oN] [(1,sL ctx1),(3,.rs 8),(4,.ra 2 0),(6,.ra 3 0),(9,.rs 10),(10,I b3)] [(2,K24 s0),(3,K26 t2),(8,.arr (List.map K12 b9)),(10,.arr (List.map I (b2 ++ [(wr ((b9.length : Int) - 1))])))] (ac (Qdj (d := 37) K12 b9) (congrArg (fun z => (⟨[(40,.rs 10)],[(10,some (.arr z)),(4,none),(9,none)],[10]⟩ : Wr)) ((List.map_append).symm : (List.map I b2) ++ (List.map I [(wr ((b9.length : Int) - 1))]) = List.map I (b2 ++ [(wr ((b9.length : Int) - 1))]))) (Qdr (enc1 := I) (enc2 := I) (e1 := b2) (e2 := [(wr ((b9.length : Int) - 1))]) (sz := 1) Qe0 Qe0 c1) tv) ?_
   refine K87 hc 3 [(1,sL ctx1),(3,.rs 8),(4,.ra 2 0),(6,.ra 3 0),(9,.rs 10),(10,I (wr (b3 + 1)))] ?_
   refine Qcv ?_
   exact WpL.view (fun a w hv => SRx.renL [(1,8),(4,10)] hv (by kernel_rfl) (by kernel_rfl) (by kernel_rfl)) (spec_l8Derive_l0_ih _ _ h c hc)
  refine xt 0 ?_
  refine Qcp ?_
  refine Qcw ?_
  obtain ⟨rfl,rfl⟩ := Prod.mk.inj (Option.some.inj h)
  exact iv []
theorem Kg9 : ∀ p r,Kg4 p = some r → Kg6 p r := Kg8.1
theorem Kga : ∀ p r,Kg5 p = some r → Kg7 p r := Kg8.2
def Kgb (p : K00 × LL × K01) : Option ((List K02) × Bool) :=
 match p with
 | (s0,ctx1,t2) =>
  (Kfl (s0,ctx1,t2)) >>= fun (a0,a1,a2) =>
  if a2 = true then
  (Kg4 (s0,ctx1,t2,[])) >>= fun a3 =>
  some (a3,true)
  else
  some ([],false)
def Kgc (p : K00 × LL × K01) (r : (List K02) × Bool) : Prop :=
 match p with
 | (s0,ctx1,t2) => Q71 Tryz.prog 16 [K25 s0,sL ctx1,K27 t2] (.tup [.osl (List.map K12 r.1),.bool r.2]) []
theorem Kgd : ∀ p r,Kgb p = some r → Kgc p r := by
 rintro ⟨s0,ctx1,t2⟩ r h
 unfold Kgb at h
 refine b0 Tryz.f16 B16 25 [(0,K25 s0),(1,sL ctx1),(2,K27 t2)] fun c hc => ?_
 refine rs hc none [some (.new 1),some (.new 2),oN,oN] [(1,sL ctx1),(3,.ra 1 0),(5,.ra 2 0)] [(1,K24 s0),(2,K26 t2)] tv ?_
 obtain ⟨⟨a0,a1,a2⟩,a3,h⟩ := Qdd h
 refine rss hc none [oN,oN,oN,oc (.tup [sI a0,sI a1,.bool a2]),oN,oN,oN,oN,oN,oN,oN] [(1,sL ctx1),(3,.ra 1 0),(5,.ra 2 0),(10,.bool a2)] (cq (Kfn _ _ a3) K5k tv) ?_
 refine sN ?_
 refine K88 hc 2 [(1,sL ctx1),(3,.ra 1 0),(5,.ra 2 0),(20,.bool (!a2))] ?_
 rcases is h with ⟨a4,h⟩ | ⟨a4,h⟩
 ·refine cF (!a2) (nF a4) ?_
  refine sk ?_
  obtain ⟨a5,a6,h⟩ := Qdd h
  refine rs hc none [oN,oN,oN,some (.call (.osl (List.map K12 a5)) [.undef,.undef,.undef,.tup []] 3),oN,oN] [(6,.rs 3),(7,.bool true)] [(3,.arr (List.map K12 a5))] (ab (Q71.undefs 4 (Kg9 _ _ a6)) K5m tv) ?_
  refine rt ?_
  obtain rfl := os h
  exact rq [true,true]
 refine cT (!a2) (nT a4) ?_
 refine rs0 hc 2 [(6,.nils),(7,.bool false)] [] ?_
 refine rt ?_
 obtain rfl := os h
 exact rq [true,true]
def Kge (p : Int × Int × Int) : Option (Bool) :=
 match p with
 | (n0,low1,high2) =>
  ((
  if (decide (n0 ≥ low1)) = true then
  some ((decide (n0 ≤ high2)))
  else
  some (false)
  ) : Option (Bool)) >>= fun a0 =>
  some a0
def Kgf (p : Int × Int × Int) (r : Bool) : Prop :=
 match p with
 | (n0,low1,high2) => Q71 Tryz.prog 65 [I n0,I low1,I high2] (.bool r) []
theorem Kgg : ∀ p r,Kge p = some r → Kgf p r := by
 rintro ⟨n0,low1,high2⟩ r h
 unfold Kge at h
 refine b0 Tryz.f65 B65 15 [(0,I n0),(1,I low1),(2,I high2)] fun c hc => ?_
 refine rs0 hc 1 [(0,I n0),(1,I low1),(2,I high2)] [] ?_
 refine sN ?_
 obtain ⟨a0,a1,h⟩ := Qdd h
 refine Wp.into (x := .normal) (mkS [(6,.bool a0)] []) ?_ ?_
 ·replace h := a1
  rcases is h with ⟨a2,h⟩ | ⟨a2,h⟩
  ·refine rg hc none [oN,oN,oN,oN,oN,oN,oN,oT,oN] [(6,.bool (decide (n0 ≤ high2)))] [] (ar 4 a2 tv) ?_
   obtain rfl := os h
   exact Qcz.mk
  refine rg hc none [oN,oN,oN,oN,o_,o_,o_,oF,oN] [(6,.bool false)] [] (ar 3 (neT a2) (ai a2 tv)) ?_
  obtain rfl := os h
  exact Qcz.mk
 clear a1
 refine rt ?_
 obtain rfl := os h
 exact rq [true]
def Kgh (p : K00 × Int) : Option (Bool) :=
 match p with
 | (s0,g1) =>
  (Kge (g1,0,(wr (s0.fSize - 1)))) >>= fun a0 =>
  some a0
def Kgi (p : K00 × Int) (r : Bool) : Prop :=
 match p with
 | (s0,g1) => Q71 Tryz.prog 66 [K25 s0,I g1] (.bool r) []
theorem Kgj : ∀ p r,Kgh p = some r → Kgi p r := by
 rintro ⟨s0,g1⟩ r h
 unfold Kgh at h
 refine b0 Tryz.f66 B66 10 [(0,K25 s0),(1,I g1)] fun c hc => ?_
 refine rs hc none [some (.new 1),oN] [(1,I g1),(2,.ra 1 0)] [(1,K24 s0)] tv ?_
 obtain ⟨a0,a1,h⟩ := Qdd h
 refine rs hc none [oN,oN,oN,oN,oc (.bool a0),oN] [(4,.bool a0)] [] (cq (Kgg _ _ a1) K5p tv) ?_
 refine rt ?_
 obtain rfl := os h
 exact rq [true]
def Kgk (p : K00 × Int × Int) : Option (Int) :=
 match p with
 | (s0,a1,b2) =>
  (idx s0.fPlus (wr ((wr (a1 * s0.fSize)) + b2))) >>= fun a0 =>
  some a0
def Kgl (p : K00 × Int × Int) (r : Int) : Prop :=
 match p with
 | (s0,a1,b2) => Q71 Tryz.prog 67 [K25 s0,I a1,I b2] (I r) []
theorem Kgm : ∀ p r,Kgk p = some r → Kgl p r := by
 rintro ⟨s0,a1,b2⟩ r h
 unfold Kgk at h
 refine b0 Tryz.f67 B67 17 [(0,K25 s0),(1,I a1),(2,I b2)] fun c hc => ?_
 refine rs hc none [some (.new 1),oN] [(1,I a1),(2,I b2),(3,.ra 1 0)] [(1,K24 s0)] tv ?_
 obtain ⟨a0,a2,h⟩ := Qdd h
 refine rs hc none [oN,oN,oN,oN,oN,oN,oN,oN,some (.el (I a0)),oN,oN] [(6,I a0)] [] (ai (ix a2) tv) ?_
 refine rt ?_
 obtain rfl := os h
 exact rq [true]
def Kgn (p : K00 × Int × Int) : Option (Int) :=
 match p with
 | (s0,a1,b2) =>
  (idx s0.fTimes (wr ((wr (a1 * s0.fSize)) + b2))) >>= fun a0 =>
  some a0
def Kgo (p : K00 × Int × Int) (r : Int) : Prop :=
 match p with
 | (s0,a1,b2) => Q71 Tryz.prog 68 [K25 s0,I a1,I b2] (I r) []
theorem Kgp : ∀ p r,Kgn p = some r → Kgo p r := by
 rintro ⟨s0,a1,b2⟩ r h
 unfold Kgn at h
 refine b0 Tryz.f68 B68 17 [(0,K25 s0),(1,I a1),(2,I b2)] fun c hc => ?_
 refine rs hc none [some (.new 1),oN] [(1,I a1),(2,I b2),(3,.ra 1 0)] [(1,K24 s0)] tv ?_
 obtain ⟨a0,a2,h⟩ := Qdd h
 refine rs hc none [oN,oN,oN,oN,oN,oN,oN,oN,some (.el (I a0)),oN,oN] [(6,I a0)] [] (ai (ix a2) tv) ?_
 refine rt ?_
 obtain rfl := os h
 exact rq [true]
def Kgq (p : K00 × Int × Int) : Option (Bool) :=
 match p with
 | (s0,a1,b2) =>
  (idx s0.fBelow (wr ((wr (a1 * s0.fSize)) + b2))) >>= fun a0 =>
  some a0
def Kgr (p : K00 × Int × Int) (r : Bool) : Prop :=
 match p with
 | (s0,a1,b2) => Q71 Tryz.prog 69 [K25 s0,I a1,I b2] (.bool r) []
theorem Kgs : ∀ p r,Kgq p = some r → Kgr p r := by
 rintro ⟨s0,a1,b2⟩ r h
 unfold Kgq at h
 refine b0 Tryz.f69 B69 17 [(0,K25 s0),(1,I a1),(2,I b2)] fun c hc => ?_
 refine rs hc none [some (.new 1),oN] [(1,I a1),(2,I b2),(3,.ra 1 0)] [(1,K24 s0)] tv ?_
 obtain ⟨a0,a2,h⟩ := Qdd h
 refine rs hc none [oN,oN,oN,oN,oN,oN,oN,oN,some (.el (.bool a0)),oN,oN] [(6,.bool a0)] [] (ai (Qdh (enc := AV.bool) (x := .bool a0) a2 (Qdu a0)) tv) ?_
 refine rt ?_
 obtain rfl := os h
 exact rq [true]
def Kgt (c : Ctx) (s0 : K00) (a1 : Int) (b2 : Int) (a0 : Int) : Bool → Exit → Q0a → Prop
 | a2 => Qcz c (.exit 2) (mkS [(1,I a1),(2,I b2),(3,.ra 1 0),(7,I a0),(8,.bool a2)] [(1,K24 s0)])
def Kgu (p : K00 × Int × Int × Int × Bool × Int) : Option (Bool) :=
 match p with
 | (s0,a1,b2,a0,a2,a3) =>
  if (decide (a3 < s0.fSize)) = true then
  ((
  if a2 = true then
  (Kgq (s0,a1,a3)) >>= fun a4 =>
  if a4 = true then
  (Kgq (s0,b2,a3)) >>= fun a5 =>
  if a5 = true then
  (Kgq (s0,a0,a3)) >>= fun a6 =>
  some (a6)
  else
  some (true)
  else
  some (true)
  else
  some (false)
  ) : Option (Bool)) >>= fun a7 =>
  Kgu (s0,a1,b2,a0,a7,(wr (a3 + 1)))
  else
  some (a2)
 partial_fixpoint
def Kgv (p : K00 × Int × Int × Int × Bool × Int) (fl : Bool) : Prop :=
 match p with
 | (s0,a1,b2,a0,a2,a3) => ∀ c : Ctx,c.nt = 57 → WpL Tryz.prog c (cl (cl (cr (cl (cr (cr (cl (cl (cr (cl (cl (cr (cl (cr B70)))))))))))))) (Kgt c s0 a1 b2 a0 fl) (mkS [(1,I a1),(2,I b2),(3,.ra 1 0),(7,I a0),(8,.bool a2),(9,I a3)] [(1,K24 s0)])
theorem Kgw : ∀ p r,Kgu p = some r → Kgv p r := by
 refine Kgu.partial_correctness Kgv ?_
 rintro impl_Systemjoin_l0_f impl_Systemjoin_l0_ih ⟨s0,a1,b2,a0,a2,a3⟩ r h
 intro c hc
 refine WpL.step ?_
 refine sN ?_
 refine K88 hc 4 [(1,I a1),(2,I b2),(3,.ra 1 0),(7,I a0),(8,.bool a2),(9,I a3),(31,.bool (decide (a3 < s0.fSize)))] ?_
 refine ic h (fun a4 h => ?_) fun a4 h => ?_
 ·refine sk ?_
  refine sN ?_
  refine bk 3 ?_
  obtain ⟨a5,a6,h⟩ := Qdd h
  refine Wp.into (x := .normal) (mkS [(1,I a1),(2,I b2),(3,.ra 1 0),(7,I a0),(8,.bool a5),(9,I a3)] [(1,K24 s0)]) ?_ ?_
  ·replace h := a6
   rcases is h with ⟨a7,h⟩ | ⟨a7,h⟩
   ·obtain ⟨a8,a9,h⟩ := Qdd h
    rcases is h with ⟨b1,h⟩ | ⟨b1,h⟩
    ·obtain ⟨b3,b4,h⟩ := Qdd h
     rcases is h with ⟨b5,h⟩ | ⟨b5,h⟩
     ·obtain ⟨b6,b7,h⟩ := Qdd h
      refine rgs hc none [oN,oN,oN,oN,oN,oc (.bool a8),oN,oN,oN,oN,oN,oc (.bool b3),oN,oF,oN,oN,oN,oN,oc (.bool b6),oF,oT,oN] [(1,I a1),(2,I b2),(3,.ra 1 0),(7,I a0),(8,.bool b6),(9,I a3)] (ar 4 a7 (cq (Kgs _ _ a9) K5t (ar 2 a7 (ar 4 (nF b1) (cq (Kgs _ _ b4) K5t (ad (nF b1) a7 (nF b1) a7 (ar 4 (nF b5) (cq (Kgs _ _ b7) K5t (ac a7 (nF b5) a7 tv))))))))) ?_
      obtain rfl := os h
      exact Qcz.mk
     refine rgs hc none [oN,oN,oN,oN,oN,oc (.bool a8),oN,oN,oN,oN,oN,oc (.bool b3),oN,oF,oN,o_,o_,o_,o_,oT,oT,oN] [(1,I a1),(2,I b2),(3,.ra 1 0),(7,I a0),(8,.bool true),(9,I a3)] (ar 4 a7 (cq (Kgs _ _ a9) K5t (ar 2 a7 (ar 4 (nF b1) (cq (Kgs _ _ b4) K5t (ad (nF b1) a7 (nF b1) a7 (ar 4 (neF (nT b5)) (ac a7 (nT b5) a7 tv)))))))) ?_
     obtain rfl := os h
     exact Qcz.mk
    refine rgs hc none [oN,oN,oN,oN,oN,oc (.bool a8),oN,oN,o_,o_,o_,o_,o_,oT,oN,o_,o_,o_,o_,oT,oT,oN] [(1,I a1),(2,I b2),(3,.ra 1 0),(7,I a0),(8,.bool true),(9,I a3)] (ar 4 a7 (cq (Kgs _ _ a9) K5t (ar 2 a7 (ar 5 (neF (nT b1)) (ac a7 (nT b1) a7 (ar 4 nf (ac a7 tt a7 tv))))))) ?_
    obtain rfl := os h
    exact Qcz.mk
   refine rgs hc none [oN,oN,o_,o_,o_,o_,o_,o_,o_,o_,o_,o_,o_,o_,o_,o_,o_,o_,o_,o_,oF,oN] [(1,I a1),(2,I b2),(3,.ra 1 0),(7,I a0),(8,.bool false),(9,I a3)] (ar 9 (neT a7) (ai a7 tv)) ?_
   obtain rfl := os h
   exact Qcz.mk
  clear a6
  refine K87 hc 3 [(1,I a1),(2,I b2),(3,.ra 1 0),(7,I a0),(8,.bool a5),(9,I (wr (a3 + 1)))] ?_
  refine Qcv ?_
  exact (impl_Systemjoin_l0_ih _ _ h c hc)
 refine xt 2 ?_
 refine Qcp ?_
 refine Qcw ?_
 obtain rfl := os h
 exact iv []
def Kgx (c : Ctx) (s0 : K00) (a1 : Int) (b2 : Int) (a0 : Int) : (Unit) ⊕ (Int) → Exit → Q0a → Prop
 | .inl _ => Qcz c .normal (mkS [(1,I a1),(2,I b2),(3,.ra 1 0),(7,I a0)] [(1,K24 s0)])
 | .inr r => Qd8 TIx Tryz.f70 [] (I r)
def Kgy (c : Ctx) : (Unit) ⊕ (Int) → Exit → Q0a → Prop
 | .inl _ => Qcz c (.exit 0) (mkS [] [])
 | .inr r => Qd8 TIx Tryz.f70 [] (I r)
def Kgz (p : K00 × Int × Int × Int) : Option ((Unit) ⊕ (Int)) :=
 match p with
 | (s0,a1,b2,a0) =>
  if (decide (a0 < s0.fSize)) = true then
  ((
   ((
   (Kgq (s0,a1,a0)) >>= fun a2 =>
   if a2 = true then
   (Kgq (s0,b2,a0)) >>= fun a3 =>
   some ((!a3))
   else
   some (true)
   ) : Option (Bool)) >>= fun a4 =>
   if a4 = true then
   some (.inl ())
   else
   (Kgu (s0,a1,b2,a0,true,0)) >>= fun a5 =>
   if a5 = true then
   some (.inr a0)
   else
   some (.inl ())) : Option ((Unit) ⊕ (Int))) >>= fun fl => match fl with
  | .inl () =>
   Kgz (s0,a1,b2,(wr (a0 + 1)))
  | .inr r =>
   some (.inr r)
  else
  some (.inl ())
 partial_fixpoint
def Kh0 (p : K00 × Int × Int × Int) (fl : (Unit) ⊕ (Int)) : Prop :=
 match p with
 | (s0,a1,b2,a0) => ∀ c : Ctx,c.nt = 57 → WpL Tryz.prog c (cl (cl (cr (cl (cr B70))))) (Kgy c fl) (mkS [(1,I a1),(2,I b2),(3,.ra 1 0),(7,I a0)] [(1,K24 s0)])
theorem Kh1 : ∀ p r,Kgz p = some r → Kh0 p r := by
 refine Kgz.partial_correctness Kh0 ?_
 rintro impl_Systemjoin_l1_f impl_Systemjoin_l1_ih ⟨s0,a1,b2,a0⟩ r h
 intro c hc
 refine WpL.step ?_
 refine sN ?_
 refine K88 hc 4 [(1,I a1),(2,I b2),(3,.ra 1 0),(7,I a0),(13,.bool (decide (a0 < s0.fSize)))] ?_
 refine ic h (fun a2 h => ?_) fun a2 h => ?_
 ·refine sk ?_
  refine sN ?_
  obtain ⟨fl,a3,h⟩ := Qdd h
  refine flw (Kgx c s0 a1 b2 a0 fl) ?_ (fun hF => ?_)
  ·replace h := a3
   refine bk 1 ?_
   refine sN ?_
   refine sN ?_
   obtain ⟨a4,a5,h⟩ := Qdd h
   refine Wp.into (x := .normal) (mkS [(1,I a1),(2,I b2),(3,.ra 1 0),(7,I a0),(27,.bool a4)] [(1,K24 s0)]) ?_ ?_
   ·replace h := a5
    obtain ⟨a6,a7,h⟩ := Qdd h
    rcases is h with ⟨a8,h⟩ | ⟨a8,h⟩
    ·obtain ⟨a9,b1,h⟩ := Qdd h
     refine rgs hc none [oN,oN,oN,oc (.bool a6),oN,oN,oN,oN,oN,oc (.bool a9),oN,oF] [(1,I a1),(2,I b2),(3,.ra 1 0),(7,I a0),(27,.bool (!a9))] (cq (Kgs _ _ a7) K5t (ar 4 (nF a8) (cq (Kgs _ _ b1) K5t (ar 2 (nF a8) tv)))) ?_
     obtain rfl := os h
     exact Qcz.mk
    refine rgs hc none [oN,oN,oN,oc (.bool a6),oN,oN,o_,o_,o_,o_,o_,oT] [(1,I a1),(2,I b2),(3,.ra 1 0),(7,I a0),(27,.bool true)] (cq (Kgs _ _ a7) K5t (ar 5 (neF (nT a8)) (ai (nT a8) tv))) ?_
    obtain rfl := os h
    exact Qcz.mk
   clear a5
   refine ic h (fun b3 h => ?_) fun b3 h => ?_
   ·refine xt 1 ?_
    refine Qcp ?_
    refine Qcr ?_
    obtain rfl := os h
    exact iv []
   refine sk ?_
   refine K88 hc 1 [(1,I a1),(2,I b2),(3,.ra 1 0),(7,I a0),(8,.bool true)] ?_
   refine sN ?_
   refine K88 hc 1 [(1,I a1),(2,I b2),(3,.ra 1 0),(7,I a0),(8,.bool true),(9,I 0)] ?_
   refine bk 2 ?_
   obtain ⟨b4,b5,h⟩ := Qdd h
   have hL := Kgw _ _ b5 c hc
   refine lp ?_
   refine WpL.into (e := (.exit 2)) (mkS [(1,I a1),(2,I b2),(3,.ra 1 0),(7,I a0),(8,.bool b4)] [(1,K24 s0)]) hL ?_
   refine Qcr ?_
   refine K88 hc 1 [(1,I a1),(2,I b2),(3,.ra 1 0),(7,I a0),(55,.bool b4)] ?_
   refine ic h (fun b6 h => ?_) fun b6 h => ?_
   ·refine rs0 hc 2 [(6,I a0)] [] ?_
    refine rt ?_
    obtain rfl := os h
    exact re [true]
   refine sk ?_
   obtain rfl := os h
   exact iv []
  rcases fl with ⟨⟩ | r
  ·refine Wp.into (x := .normal) (mkS [(1,I a1),(2,I b2),(3,.ra 1 0),(7,I a0)] [(1,K24 s0)]) hF ?_
   refine K87 hc 3 [(1,I a1),(2,I b2),(3,.ra 1 0),(7,I (wr (a0 + 1)))] ?_
   refine Qcv ?_
   exact (impl_Systemjoin_l1_ih _ _ h c hc)
  refine Wp.mono hF ?_
  rintro _ _ ⟨rfl,hfin⟩
  obtain rfl := os h
  exact ⟨rfl,hfin⟩
 refine xt 0 ?_
 refine Qcp ?_
 refine Qcw ?_
 obtain rfl := os h
 exact iv []
def Kh2 (p : K00 × Int × Int) : Option (Int) :=
 match p with
 | (s0,a1,b2) =>
  (Kgz (s0,a1,b2,0)) >>= fun fl => match fl with
  | .inl () =>
   some (-1)
  | .inr r =>
   some r
def Kh3 (p : K00 × Int × Int) (r : Int) : Prop :=
 match p with
 | (s0,a1,b2) => Q71 Tryz.prog 70 [K25 s0,I a1,I b2] (I r) []
theorem Kh4 : ∀ p r,Kh2 p = some r → Kh3 p r := by
 rintro ⟨s0,a1,b2⟩ r h
 unfold Kh2 at h
 refine b0 Tryz.f70 B70 57 [(0,K25 s0),(1,I a1),(2,I b2)] fun c hc => ?_
 refine rs hc none [some (.new 1),oN] [(1,I a1),(2,I b2),(3,.ra 1 0)] [(1,K24 s0)] tv ?_
 refine sN ?_
 refine K88 hc 1 [(1,I a1),(2,I b2),(3,.ra 1 0),(7,I 0)] ?_
 refine bk 0 ?_
 obtain ⟨fl,a0,h⟩ := Qdd h
 have hL := Kh1 _ _ a0 c hc
 refine lp ?_
 rcases fl with ⟨⟩ | r
 ·refine WpL.into (e := (.exit 0)) (mkS [] []) hL ?_
  refine Qcr ?_
  refine rs0 hc 1 [(6,I (-1))] [] ?_
  refine rt ?_
  obtain rfl := os h
  exact rq [true]
 refine WpL.mono hL ?_
 rintro _ _ ⟨rfl,hfin⟩
 obtain rfl := os h
 exact ⟨.inl rfl,hfin⟩
end Go.Am
