/- Functions of the program as pure functions,and that it computes them. Printed by a program of mine (gen.py). -/
import Derived.Test.YtkboikcppljkeaaGreatGCHKF3
set_option linter.unusedVariables false
set_option linter.unusedSimpArgs false
set_option maxRecDepth 100000
namespace Go.Am
open Go Go.Proofs
def Kg9 : Option (List (List Nat)) := rx [[0],[1],[0],[0,2],[4],[5],[0],[0,6],[8],[9]]
def Kga : Option (List (List Nat)) := rx [[0],[0],[0,1],[0,1,2],[0,1,2,3],[0],[6],[7]]
def Kgb : Option (List (List Nat)) := rx [[0],[1],[2],[3],[3],[3,4],[3,4,5],[3,4,5,6],[3],[9],[10],[11]]
mutual
def Kgc (p : K00 × LL × K01) : Option (K03) :=
 match p with
 | (s0,ctx1,t2) =>
  if (t2.fOp == 0) = true then
  (Kfc (ctx1.length : Int)) >>= fun a0 =>
  (idx a0 t2.fN) >>= fun a1 =>
  (idx ctx1 t2.fN) >>= fun a2 =>
  (Ket a2) >>= fun a3 =>
  some (K03.mk a3 (List.set a0 (Int.toNat t2.fN) 1) 0 [])
  else
  if (t2.fOp == 1) = true then
  (Kfc (ctx1.length : Int)) >>= fun a4 =>
  some (K03.mk [0] a4 0 [])
  else
  ((
  if (t2.fOp == 9) = true then
  (Kf2 (ctx1,[t2.fType])) >>= fun a5 =>
  some (a5)
  else
  some (ctx1)
  ) : Option (LL)) >>= fun a6 =>
  (Kge (s0,a6,t2,0)) >>= fun a7 =>
  if (a7.ffault != 0) = true then
  some a7
  else
  ((
  if (t2.fOp == 2) = true then
  some ((t2.fOp == 2))
  else
  some ((t2.fOp == 3))
  ) : Option (Bool)) >>= fun a8 =>
  if a8 = true then
  (idx a7.fty 0) >>= fun a9 =>
  if (a9 != 0) = true then
  (Kff 2) >>= fun b1 =>
  some b1
  else
  (Kgf (s0,ctx1,t2,a7)) >>= fun b2 =>
  some b2
  else
  if (t2.fOp == 4) = true then
  (Kge (s0,ctx1,t2,1)) >>= fun b3 =>
  if (b3.ffault != 0) = true then
  some b3
  else
  (Kfm (1,[a7.fty,b3.fty])) >>= fun b4 =>
  (Kft (s0,a7.fneeds,1,b3.fneeds)) >>= fun b5 =>
  (Kfw (b4,b5)) >>= fun b6 =>
  some b6
  else
  if (t2.fOp == 6) = true then
  (Kfm (2,[a7.fty,t2.fType])) >>= fun b7 =>
  (Kfw (b7,a7.fneeds)) >>= fun b8 =>
  some b8
  else
  if (t2.fOp == 7) = true then
  (Kfm (2,[t2.fType,a7.fty])) >>= fun b9 =>
  (Kfw (b9,a7.fneeds)) >>= fun c0 =>
  some c0
  else
  if (t2.fOp == 9) = true then
  (idx a7.fneeds 0) >>= fun c1 =>
  (Kb6 (s0,c1,t2.fN)) >>= fun c2 =>
  if c2 = true then
  (Kfm ((wr (3 + t2.fN)),[t2.fType,a7.fty])) >>= fun c3 =>
  (cut a7.fneeds (some 1) none none) >>= fun c4 =>
  (Ket c4) >>= fun c5 =>
  (Kfw (c3,c5)) >>= fun c6 =>
  some c6
  else
  (Kff 9) >>= fun c7 =>
  some c7
  else
  if (t2.fOp == 11) = true then
  (Kfm ((wr (19 + t2.fN)),[a7.fty])) >>= fun c8 =>
  (Kfc (ctx1.length : Int)) >>= fun c9 =>
  (Kft (s0,c9,t2.fN,a7.fneeds)) >>= fun d0 =>
  (Kfw (c8,d0)) >>= fun d1 =>
  some d1
  else
  if (t2.fOp == 10) = true then
  (idx a7.fty 0) >>= fun d2 =>
  (Kcb d2) >>= fun d3 =>
  if d3 = true then
  (Kge (s0,ctx1,t2,1)) >>= fun d4 =>
  if (d4.ffault != 0) = true then
  some d4
  else
  (Kew (a7.fty,0)) >>= fun d5 =>
  (Kei (d4.fty,d5)) >>= fun d6 =>
  if d6 = true then
  (Kew (a7.fty,1)) >>= fun d7 =>
  (idx a7.fty 0) >>= fun d8 =>
  (Kcu d8) >>= fun d9 =>
  (Kft (s0,a7.fneeds,d9,d4.fneeds)) >>= fun e0 =>
  some (K03.mk d7 e0 0 [])
  else
  (Kff 3) >>= fun e1 =>
  some e1
  else
  (Kff 6) >>= fun e2 =>
  some e2
  else
  (Kgd (s0,ctx1,t2,a7)) >>= fun e3 =>
  some e3
 partial_fixpoint
def Kgd (p : K00 × LL × K01 × K03) : Option (K03) :=
 match p with
 | (s0,ctx1,t2,a3) =>
  (idx a3.fty 0) >>= fun a0 =>
  ((
  if (t2.fOp == 5) = true then
  some ((a0 != 1))
  else
  some (false)
  ) : Option (Bool)) >>= fun a1 =>
  if a1 = true then
  (Kff 4) >>= fun a2 =>
  some a2
  else
  ((
  if (t2.fOp == 8) = true then
  some ((a0 != 2))
  else
  some (false)
  ) : Option (Bool)) >>= fun a4 =>
  if a4 = true then
  (Kff 5) >>= fun a5 =>
  some a5
  else
  ((
  if (t2.fOp == 12) = true then
  (Kce a0) >>= fun a6 =>
  some ((!a6))
  else
  some (false)
  ) : Option (Bool)) >>= fun a7 =>
  if a7 = true then
  (Kff 7) >>= fun a8 =>
  some a8
  else
  (Kb6 (s0,1,t2.fN)) >>= fun a9 =>
  if a9 = true then
  (Kew (a3.fty,0)) >>= fun b1 =>
  ((
  if (t2.fOp == 5) = true then
   (Kew (a3.fty,1)) >>= fun b2 =>
   (Kew (a3.fty,0)) >>= fun b3 =>
   some ([b2,b3])
  else
   some ([b1])
  ) : Option (LL)) >>= fun V0d =>
  (Kf2 (ctx1,V0d)) >>= fun b4 =>
  (Kge (s0,b4,t2,1)) >>= fun b5 =>
  if (b5.ffault != 0) = true then
  some b5
  else
  (cut b5.fneeds (some (V0d.length : Int)) none none) >>= fun b6 =>
  (Ket b6) >>= fun b7 =>
  ((
   if (t2.fOp == 12) = true then
   (Kcu a0) >>= fun b8 =>
   (Kb3 (s0,t2.fN,b8)) >>= fun b9 =>
   some (.inl (b9,b7,true))
   else
   ((
    if (t2.fOp == 5) = true then
    (idx b5.fneeds 1) >>= fun c0 =>
    (Kb6 (s0,c0,t2.fN)) >>= fun c1 =>
    some (.inl (b7,c1))
    else
    ((
     if (t2.fOp == 8) = true then
     (Kew (a3.fty,1)) >>= fun c2 =>
     (Kf2 (ctx1,[c2])) >>= fun c3 =>
     (Kge (s0,c3,t2,2)) >>= fun c4 =>
     if (c4.ffault != 0) = true then
     some (.inr c4)
     else
     (Kei (b5.fty,c4.fty)) >>= fun c5 =>
     if c5 = true then
     (idx c4.fneeds 0) >>= fun c6 =>
     (Kb6 (s0,c6,t2.fN)) >>= fun c7 =>
     (cut c4.fneeds (some 1) none none) >>= fun c8 =>
     (Kg3 (s0,b7,c8)) >>= fun c9 =>
     some (.inl (c9,c7))
     else
     (Kff 3) >>= fun d0 =>
     some (.inr d0)
     else
     some (.inl (b7,true))) : Option (((List Int) × Bool) ⊕ (K03))) >>= fun fl => match fl with
    | .inl (d1,d2) =>
     some (.inl (d1,d2))
    | .inr r =>
     some (.inr r)) : Option (((List Int) × Bool) ⊕ (K03))) >>= fun fl => match fl with
   | .inl (d3,d4) =>
    some (.inl (t2.fN,d3,d4))
   | .inr r =>
    some (.inr r)) : Option ((Int × (List Int) × Bool) ⊕ (K03))) >>= fun fl => match fl with
  | .inl (d5,d6,d7) =>
   ((
   if d7 = true then
    (idx b5.fneeds 0) >>= fun d8 =>
    (Kb6 (s0,d8,d5)) >>= fun d9 =>
    some ((!d9))
   else
    some (true)
   ) : Option (Bool)) >>= fun e0 =>
   if e0 = true then
   (Kff 9) >>= fun e1 =>
   some e1
   else
   (Kfc (ctx1.length : Int)) >>= fun e2 =>
   (Kft (s0,e2,t2.fN,a3.fneeds)) >>= fun e3 =>
   (Kft (s0,e3,1,d6)) >>= fun e4 =>
   some (K03.mk b5.fty e4 0 [])
  | .inr r =>
   some r
  else
  (Kff 8) >>= fun e5 =>
  some e5
 partial_fixpoint
def Kge (p : K00 × LL × K01 × Int) : Option (K03) :=
 match p with
 | (s0,ctx1,t2,k3) =>
  (idx t2.fKids k3) >>= fun a0 =>
  (Kgc (s0,ctx1,a0)) >>= fun a1 =>
  ((
  if (a1.ffault != 0) = true then
  (Qdq ([k3].length + a1.fpath.length) 8) >>= fun _ =>
  some (([k3] ++ a1.fpath))
  else
  some (a1.fpath)
  ) : Option ((List Int))) >>= fun a2 =>
  some (K03.mk a1.fty a1.fneeds a1.ffault a2)
 partial_fixpoint
def Kgf (p : K00 × LL × K01 × K03) : Option (K03) :=
 match p with
 | (s0,ctx1,t2,a3) =>
  (Kge (s0,ctx1,t2,1)) >>= fun a0 =>
  if (a0.ffault != 0) = true then
  some a0
  else
  if (t2.fOp == 2) = true then
  (idx a0.fty 0) >>= fun a1 =>
  if (a1 != 0) = true then
  (Kff 2) >>= fun a2 =>
  some a2
  else
  (Kft (s0,a3.fneeds,1,a0.fneeds)) >>= fun a4 =>
  some (K03.mk a0.fty a4 0 [])
  else
  (Kge (s0,ctx1,t2,2)) >>= fun a5 =>
  if (a5.ffault != 0) = true then
  some a5
  else
  (Kei (a0.fty,a5.fty)) >>= fun a6 =>
  if a6 = true then
  (Kg3 (s0,a0.fneeds,a5.fneeds)) >>= fun a7 =>
  (Kft (s0,a3.fneeds,1,a7)) >>= fun a8 =>
  some (K03.mk a0.fty a8 0 [])
  else
  (Kff 3) >>= fun a9 =>
  some a9
 partial_fixpoint
end
def Kgg (p : K00 × LL × K01) (r : K03) : Prop :=
 match p with
 | (s0,ctx1,t2) => Q71 Tryz.prog 55 [K2e s0,sL ctx1,K2g t2] (K2k r) []
def Kgh (p : K00 × LL × K01 × K03) (r : K03) : Prop :=
 match p with
 | (s0,ctx1,t2,a3) => Q71 Tryz.prog 103 [K2e s0,sL ctx1,K2g t2,K2k a3] (K2k r) []
def Kgi (p : K00 × LL × K01 × Int) (r : K03) : Prop :=
 match p with
 | (s0,ctx1,t2,k3) => Q71 Tryz.prog 93 [K2e s0,sL ctx1,K2g t2,I k3] (K2k r) []
def Kgj (p : K00 × LL × K01 × K03) (r : K03) : Prop :=
 match p with
 | (s0,ctx1,t2,a3) => Q71 Tryz.prog 95 [K2e s0,sL ctx1,K2g t2,K2k a3] (K2k r) []
theorem Kgk : (∀ p r,Kgc p = some r → Kgg p r) ∧ (∀ p r,Kgd p = some r → Kgh p r) ∧ (∀ p r,Kge p = some r → Kgi p r) ∧ (∀ p r,Kgf p = some r → Kgj p r) := by
 refine Kgc.mutual_partial_correctness Kgg Kgh Kgi Kgj ?_ ?_ ?_ ?_
 ·rintro spec_l3Taken_f spec_l3Of_f spec_l3Numbers_f spec_l3Taken_ih spec_l3Of_ih spec_l3Numbers_ih ⟨s0,ctx1,t2⟩ r h
  refine b0 Tryz.f55 B55 206 [(0,K2e s0),(1,sL ctx1),(2,K2g t2)] fun c hc => ?_
  refine rs hc none [some (.new 1),some (.new 2),some (.new 3)] [(1,sL ctx1),(3,.ra 1 0),(5,.ra 2 0),(6,.ra 3 0)] [(1,K2d s0),(2,K2f t2),(3,.box [.nils,.nils,I 0,.nils])] tv ?_
  refine sN ?_
  refine K8d hc 2 [(1,sL ctx1),(3,.ra 1 0),(5,.ra 2 0),(6,.ra 3 0),(13,I t2.fOp)] ?_
  refine bk 0 ?_
  refine K8d hc 2 [(1,sL ctx1),(3,.ra 1 0),(5,.ra 2 0),(6,.ra 3 0),(13,I t2.fOp),(14,.bool (t2.fOp == 0))] ?_
  refine ic h (fun a0 h => ?_) fun a0 h => ?_
  ·obtain ⟨a1,a2,h⟩ := Qdd h
   refine rs hc none [oN,some (.eqv (.no) ⟨[(17,I (ctx1.length : Int))],[],[]⟩),some (.call (oI a1) [] 4),oN] [(1,sL ctx1),(5,.ra 2 0),(6,.ra 3 0),(7,.rs 4)] [(2,K2f t2),(3,.box [.nils,.nils,I 0,.nils]),(4,rI a1)] (ai (Qdj (d := 17) K07 ctx1) (cq (Kfe _ _ a2) K5r tv)) ?_
   obtain ⟨a4,a5,h⟩ := Qdd h
   refine rs hc none [oN,oN,oN,oN,some (.eqv (.mk 0 true) ⟨[],[(4,some (.arr (List.map I (List.set a1 (Int.toNat t2.fN) 1))))],[]⟩)] [(1,sL ctx1),(5,.ra 2 0),(6,.ra 3 0),(7,.rs 4)] [(2,K2f t2),(3,.box [.nils,.nils,I 0,.nils]),(4,.arr (List.map I (List.set a1 (Int.toNat t2.fN) 1)))] (ac (Qdi (enc := I) a5) (congrArg (fun z => (⟨[],[(4,some (.arr z))],[]⟩ : Wr)) (Qeg (enc := I) (i := Int.toNat t2.fN) (l := a1) (v := 1) (x := I 1) (Qds 1))) (Qeh (enc := I) (sz := 1) Qdw a5) tv) ?_
   obtain ⟨a6,a7,a8,a9,h⟩ := bq2 h
   refine rs hc none [oN,oN,oN,some (.el (sI a6)),oN,some (.call (oI a8) [] 5),oN,oN,oN] [(6,.ra 3 0)] [(3,.box [.rs 5,.rs 4,I 0,.nils]),(4,.arr (List.map I (List.set a1 (Int.toNat t2.fN) 1))),(5,rI a8)] (ai (xL a7) (cq (Kev _ _ a9) K5l tv)) ?_
   refine vz 5 (Qe5 a8) [(6,.ra 3 0)] [(3,.box [sI a8,.rs 4,I 0,.nils]),(4,.arr (List.map I (List.set a1 (Int.toNat t2.fN) 1)))] ?_
   refine vz 4 (Qe5 (List.set a1 (Int.toNat t2.fN) 1)) [(6,.ra 3 0)] [(3,.box [sI a8,.sl (List.map I (List.set a1 (Int.toNat t2.fN) 1)),I 0,.nils])] ?_
   refine rt ?_
   obtain rfl := os h
   exact rq [false]
  refine K8d hc 2 [(1,sL ctx1),(3,.ra 1 0),(5,.ra 2 0),(6,.ra 3 0),(31,.bool (t2.fOp == 1))] ?_
  refine ic h (fun b1 h => ?_) fun b1 h => ?_
  ·obtain ⟨b2,b3,h⟩ := Qdd h
   refine rs hc none [some (.mk 6 true),oN,some (.eqv (.no) ⟨[(35,I (ctx1.length : Int))],[],[]⟩),some (.call (oI b2) [] 7),oN,oN] [(6,.ra 3 0)] [(3,.box [.rs 6,.rs 7,I 0,.nils]),(6,.arr (List.map I [0])),(7,rI b2)] (ai (Qdj (d := 35) K07 ctx1) (cq (Kfe _ _ b3) K5r tv)) ?_
   refine vz 6 (Qe5 [0]) [(6,.ra 3 0)] [(3,.box [.sl (List.map I [0]),.rs 7,I 0,.nils]),(7,rI b2)] ?_
   refine vz 7 (Qe5 b2) [(6,.ra 3 0)] [(3,.box [.sl (List.map I [0]),sI b2,I 0,.nils])] ?_
   refine rt ?_
   obtain rfl := os h
   exact rq [false]
  refine sk ?_
  refine K8d hc 2 [(1,sL ctx1),(3,.ra 1 0),(5,.ra 2 0),(6,.ra 3 0),(8,sL ctx1)] ?_
  refine sN ?_
  refine K8d hc 3 [(1,sL ctx1),(3,.ra 1 0),(5,.ra 2 0),(6,.ra 3 0),(8,sL ctx1),(41,.bool (t2.fOp == 9))] ?_
  obtain ⟨b4,b5,h⟩ := Qdd h
  refine Wp.into (x := .normal) (mkS [(1,sL ctx1),(3,.ra 1 0),(5,.ra 2 0),(6,.ra 3 0),(8,sL b4)] [(1,K2d s0),(2,K2f t2),(3,.box [.nils,.nils,I 0,.nils])]) ?_ ?_
  ·replace h := b5
   refine ic h (fun b6 h => ?_) fun b6 h => ?_
   ·obtain ⟨b7,b8,h⟩ := Qdd h
    refine rg hc none [oN,oN,oN,some (.mk 8 false),some (.call (.osl (List.map K07 b7)) [.tup []] 9),oN] [(1,sL ctx1),(3,.ra 1 0),(5,.ra 2 0),(6,.ra 3 0),(8,.rs 9)] [(1,K2d s0),(2,K2f t2),(3,.box [.nils,.nils,I 0,.nils]),(9,.arr (List.map K07 b7))] (ab (Q71.args (A1 := [sL ctx1,.sl (Q02 (List.map K07 [t2.fType]))]) (A2 := [sL ctx1,.sl (List.map K07 [t2.fType])]) (by simp only [List.map_nil,K0b]) (Kf4 _ _ b8)) K5p tv) ?_
    obtain rfl := os h
    exact Qcz.view (fun a w hv => SRx.renL [] (SRx.frzC 9 (xs := List.map K07 b7) (xs' := List.map K07 b7) hv (by kernel_rfl) (K0b _)) (by kernel_rfl) (by kernel_rfl) (by kernel_rfl))
   refine sk ?_
   obtain rfl := os h
   exact iv []
  clear b5
  obtain ⟨b9,c0,h⟩ := Qdd h
  refine rs hc none [oN,oN,oN,oc (K2k b9),some (.new 10),oN] [(1,sL ctx1),(3,.ra 1 0),(5,.ra 2 0),(6,.ra 3 0),(9,.ra 10 0)] [(1,K2d s0),(2,K2f t2),(3,.box [.nils,.nils,I 0,.nils]),(10,K2j b9)] (cq (spec_l3Of_ih _ _ c0) K5s tv) ?_
  refine sN ?_
  refine K8d hc 3 [(1,sL ctx1),(3,.ra 1 0),(5,.ra 2 0),(6,.ra 3 0),(9,.ra 10 0),(53,.bool (b9.ffault != 0))] ?_
  refine ic h (fun c1 h => ?_) fun c1 h => ?_
  ·refine rs0 hc 2 [(6,.ra 3 0)] [(3,K2j b9)] ?_
   refine rt ?_
   obtain rfl := os h
   exact rq [false]
  refine sk ?_
  refine sN ?_
  refine K8d hc 2 [(1,sL ctx1),(3,.ra 1 0),(5,.ra 2 0),(6,.ra 3 0),(9,.ra 10 0),(56,I t2.fOp)] ?_
  refine bk 1 ?_
  refine sN ?_
  refine K8d hc 2 [(1,sL ctx1),(3,.ra 1 0),(5,.ra 2 0),(6,.ra 3 0),(9,.ra 10 0),(56,I t2.fOp),(57,.bool (t2.fOp == 2))] ?_
  obtain ⟨c2,c3,h⟩ := Qdd h
  refine Wp.into (x := .normal) (mkS [(1,sL ctx1),(3,.ra 1 0),(5,.ra 2 0),(6,.ra 3 0),(9,.ra 10 0),(56,I t2.fOp),(57,.bool c2)] [(1,K2d s0),(2,K2f t2),(3,.box [.nils,.nils,I 0,.nils]),(10,K2j b9)]) ?_ ?_
  ·replace h := c3
   refine ic h (fun c4 h => ?_) fun c4 h => ?_
   ·refine sk ?_
    obtain rfl := os h
    exact Qcz.mk
   refine K8c hc 2 [(1,sL ctx1),(3,.ra 1 0),(5,.ra 2 0),(6,.ra 3 0),(9,.ra 10 0),(56,I t2.fOp),(57,.bool (t2.fOp == 3))] ?_
   obtain rfl := os h
   exact Qcz.mk
  clear c3
  refine ic h (fun c5 h => ?_) fun c5 h => ?_
  ·refine sN ?_
   obtain ⟨c6,c7,h⟩ := Qdd h
   refine rss hc none [oN,oN,some (.el (I c6)),oN,oN] [(1,sL ctx1),(3,.ra 1 0),(5,.ra 2 0),(6,.ra 3 0),(9,.ra 10 0),(64,.bool (c6 != 0))] (ai (ix c7) tv) ?_
   refine ic h (fun c8 h => ?_) fun c8 h => ?_
   ·obtain ⟨c9,d0,h⟩ := Qdd h
    refine rs hc none [some (.call (K2v c9) [] 11),oN] [(6,.ra 3 0)] [(3,.box [.rs 11,.rs 12,I c9.ffault,.rs 13]),(11,rI c9.fty),(12,rI c9.fneeds),(13,rI c9.fpath)] (cq (Kfh _ _ d0) K5t tv) ?_
    refine vz 11 (Qe5 c9.fty) [(6,.ra 3 0)] [(3,.box [sI c9.fty,.rs 12,I c9.ffault,.rs 13]),(12,rI c9.fneeds),(13,rI c9.fpath)] ?_
    refine vz 12 (Qe5 c9.fneeds) [(6,.ra 3 0)] [(3,.box [sI c9.fty,sI c9.fneeds,I c9.ffault,.rs 13]),(13,rI c9.fpath)] ?_
    refine vz 13 (Qe5 c9.fpath) [(6,.ra 3 0)] [(3,K2j c9)] ?_
    refine rt ?_
    obtain rfl := os h
    exact rq [false]
   refine sk ?_
   obtain ⟨d1,d2,h⟩ := Qdd h
   refine rs hc none [oN,oN,oN,oN,oc (K2k d1),oN] [(6,.ra 3 0)] [(3,K2j d1)] (cq (spec_l3Numbers_ih _ _ d2) K5u tv) ?_
   refine rt ?_
   obtain rfl := os h
   exact rq [false]
  refine K8d hc 2 [(1,sL ctx1),(3,.ra 1 0),(5,.ra 2 0),(6,.ra 3 0),(9,.ra 10 0),(56,I t2.fOp),(71,.bool (t2.fOp == 4))] ?_
  refine ic h (fun d3 h => ?_) fun d3 h => ?_
  ·obtain ⟨d4,d5,h⟩ := Qdd h
   refine rs hc none [oN,oN,oN,oc (K2k d4),some (.new 14),oN] [(3,.ra 1 0),(6,.ra 3 0),(9,.ra 10 0),(10,.ra 14 0)] [(1,K2d s0),(3,.box [.nils,.nils,I 0,.nils]),(10,K2j b9),(14,K2j d4)] (cq (spec_l3Of_ih _ _ d5) K5s tv) ?_
   refine sN ?_
   refine K8d hc 3 [(3,.ra 1 0),(6,.ra 3 0),(9,.ra 10 0),(10,.ra 14 0),(79,.bool (d4.ffault != 0))] ?_
   refine ic h (fun d6 h => ?_) fun d6 h => ?_
   ·refine rs0 hc 2 [(6,.ra 3 0)] [(3,K2j d4)] ?_
    refine rt ?_
    obtain rfl := os h
    exact rq [false]
   refine sk ?_
   obtain ⟨d7,d8,d9,e0,e3,e4,h⟩ := bq3 h
   refine rs hc (rx [[0],[1],[0],[0,2],[4],[5],[0],[0],[0,7],[0],[0,9],[11],[12],[13]]) [oN,oN,oN,oN,some (.mk 15 false),some (.call (oI d7) [] 16),oN,oN,oN,oN,oN,some (.call (oI d9) [] 17),some (.call (K2k e3) [.tup []] 1),oN] [(6,.ra 3 0)] [(3,K2j e3)] (ac (Q71.args (A1 := [I 1,.sl (Q02 (List.map K07 [b9.fty,d4.fty]))]) (A2 := [I 1,.sl (List.map K07 [b9.fty,d4.fty])]) (by simp only [List.map_nil,K0b]) (Kfo _ _ d8)) K5v (Or.inr (Qed Qe9 d7) : ([15] : List Nat) = [] ∨ noSh (oI d7) = true) (cq (Kfv _ _ e0) K5w (ab (Q71.args (A1 := [.sl (Q02 (List.map I d7)),.sl (Q02 (List.map I d9))]) (A2 := [sI d7,sI d9]) (by simp only [List.map_nil,Qe5]) (Kfy _ _ e4)) K5x tv))) ?_
   refine rt ?_
   obtain rfl := os h
   exact rq [false]
  refine K8d hc 2 [(1,sL ctx1),(3,.ra 1 0),(5,.ra 2 0),(6,.ra 3 0),(9,.ra 10 0),(56,I t2.fOp),(94,.bool (t2.fOp == 6))] ?_
  refine ic h (fun e5 h => ?_) fun e5 h => ?_
  ·obtain ⟨e6,e7,e8,e9,h⟩ := bq2 h
   refine rs hc Kg9 [oN,oN,oN,oN,some (.mk 18 false),some (.call (oI e6) [] 19),oN,oN,some (.call (K2k e8) [.tup []] 1),oN] [(6,.ra 3 0)] [(3,K2j e8)] (ad (Q71.args (A1 := [I 2,.sl (Q02 (List.map K07 [b9.fty,t2.fType]))]) (A2 := [I 2,.sl (List.map K07 [b9.fty,t2.fType])]) (by simp only [List.map_nil,K0b]) (Kfo _ _ e7)) K5v (Or.inr (Qed Qe9 e6) : ([18] : List Nat) = [] ∨ noSh (oI e6) = true) (Q71.args (A1 := [.sl (Q02 (List.map I e6)),sI b9.fneeds]) (A2 := [sI e6,sI b9.fneeds]) (by simp only [List.map_nil,Qe5]) (Kfy _ _ e9)) (ai K5x tv)) ?_
   refine rt ?_
   obtain rfl := os h
   exact rq [false]
  refine K8d hc 2 [(1,sL ctx1),(3,.ra 1 0),(5,.ra 2 0),(6,.ra 3 0),(9,.ra 10 0),(56,I t2.fOp),(105,.bool (t2.fOp == 7))] ?_
  refine ic h (fun f0 h => ?_) fun f0 h => ?_
  ·obtain ⟨f1,f2,f3,f4,h⟩ := bq2 h
   refine rs hc Kg9 [oN,oN,oN,oN,some (.mk 20 false),some (.call (oI f1) [] 21),oN,oN,some (.call (K2k f3) [.tup []] 1),oN] [(6,.ra 3 0)] [(3,K2j f3)] (ad (Q71.args (A1 := [I 2,.sl (Q02 (List.map K07 [t2.fType,b9.fty]))]) (A2 := [I 2,.sl (List.map K07 [t2.fType,b9.fty])]) (by simp only [List.map_nil,K0b]) (Kfo _ _ f2)) K5v (Or.inr (Qed Qe9 f1) : ([20] : List Nat) = [] ∨ noSh (oI f1) = true) (Q71.args (A1 := [.sl (Q02 (List.map I f1)),sI b9.fneeds]) (A2 := [sI f1,sI b9.fneeds]) (by simp only [List.map_nil,Qe5]) (Kfy _ _ f4)) (ai K5x tv)) ?_
   refine rt ?_
   obtain rfl := os h
   exact rq [false]
  refine K8d hc 2 [(1,sL ctx1),(3,.ra 1 0),(5,.ra 2 0),(6,.ra 3 0),(9,.ra 10 0),(56,I t2.fOp),(116,.bool (t2.fOp == 9))] ?_
  refine ic h (fun f5 h => ?_) fun f5 h => ?_
  ·refine sN ?_
   obtain ⟨f6,f7,f8,f9,h⟩ := bq2 h
   refine rs hc (rx [[0],[0],[0,1],[0,1,2],[0,1,2,3],[0],[0,5],[7],[8]]) [oN,oN,oN,some (.el (I f6)),oN,oN,oN,oc (.bool f8),oN] [(5,.ra 2 0),(6,.ra 3 0),(9,.ra 10 0),(126,.bool (!f8))] [(2,K2f t2),(3,.box [.nils,.nils,I 0,.nils]),(10,K2j b9)] (ai (ix f7) (cq (Kb8 _ _ f9) K4e tv)) ?_
   rcases is h with ⟨g0,h⟩ | ⟨g0,h⟩
   ·refine cF (!f8) (nF g0) ?_
    refine sk ?_
    obtain ⟨g1,g2,g3,g4,g5,g6,g7,g8,h⟩ := bq4 h
    refine rs hc (rx [[0],[1],[2],[0],[0,3],[0],[0,5],[0,3,4,5,6],[8],[0],[0,9],[0,9,10],[12],[13],[14]]) [oN,oN,oN,oN,oN,oN,oN,some (.mk 22 false),some (.call (oI g1) [] 23),oN,oN,some (.eqv (.no) ⟨[(139,sI g3)],[],[]⟩),some (.call (oI g5) [] 24),some (.call (K2k g7) [.tup []] 1),oN] [(6,.ra 3 0)] [(3,K2j g7)] (ad (Q71.args (A1 := [I (wr (3 + t2.fN)),.sl (Q02 (List.map K07 [t2.fType,b9.fty]))]) (A2 := [I (wr (3 + t2.fN)),.sl (List.map K07 [t2.fType,b9.fty])]) (by simp only [List.map_nil,K0b]) (Kfo _ _ g2)) K5v (Or.inr (Qed Qe9 g1) : ([22] : List Nat) = [] ∨ noSh (oI g1) = true) (Qdm (d := 139) I g4) (ai (Qdl (enc := I) (sz := 1) Qdw g4) (cq (Kev _ _ g6) K5l (ab (Q71.args (A1 := [.sl (Q02 (List.map I g1)),.sl (Q02 (List.map I g5))]) (A2 := [sI g1,sI g5]) (by simp only [List.map_nil,Qe5]) (Kfy _ _ g8)) K5x tv)))) ?_
    refine rt ?_
    obtain rfl := os h
    exact rq [false]
   refine cT (!f8) (nT g0) ?_
   obtain ⟨g9,i0,h⟩ := Qdd h
   refine rs hc none [some (.call (K2v g9) [] 25),oN] [(6,.ra 3 0)] [(3,.box [.rs 25,.rs 26,I g9.ffault,.rs 27]),(25,rI g9.fty),(26,rI g9.fneeds),(27,rI g9.fpath)] (cq (Kfh _ _ i0) K5t tv) ?_
   refine vz 25 (Qe5 g9.fty) [(6,.ra 3 0)] [(3,.box [sI g9.fty,.rs 26,I g9.ffault,.rs 27]),(26,rI g9.fneeds),(27,rI g9.fpath)] ?_
   refine vz 26 (Qe5 g9.fneeds) [(6,.ra 3 0)] [(3,.box [sI g9.fty,sI g9.fneeds,I g9.ffault,.rs 27]),(27,rI g9.fpath)] ?_
   refine vz 27 (Qe5 g9.fpath) [(6,.ra 3 0)] [(3,K2j g9)] ?_
   refine rt ?_
   obtain rfl := os h
   exact rq [false]
  refine K8d hc 2 [(1,sL ctx1),(3,.ra 1 0),(5,.ra 2 0),(6,.ra 3 0),(9,.ra 10 0),(56,I t2.fOp),(142,.bool (t2.fOp == 11))] ?_
  refine ic h (fun i1 h => ?_) fun i1 h => ?_
  ·obtain ⟨i2,i3,i4,i5,i6,i7,i8,i9,h⟩ := bq4 h
   refine rs hc (rx [[0],[1],[2],[0],[0,3],[0,3,4],[6],[0],[0],[0,8],[7,8,9],[0],[0,11],[0],[0,13],[15],[16],[17]]) [oN,oN,oN,oN,oN,some (.mk 28 false),some (.call (oI i2) [] 29),oN,oN,some (.eqv (.no) ⟨[(153,I (ctx1.length : Int))],[],[]⟩),some (.call (oI i4) [] 30),oN,oN,oN,oN,some (.call (oI i6) [] 31),some (.call (K2k i8) [.tup []] 1),oN] [(6,.ra 3 0)] [(3,K2j i8)] (ad (Q71.args (A1 := [I (wr (19 + t2.fN)),.sl (Q02 (List.map K07 [b9.fty]))]) (A2 := [I (wr (19 + t2.fN)),.sl (List.map K07 [b9.fty])]) (by simp only [List.map_nil,K0b]) (Kfo _ _ i3)) K5v (Or.inr (Qed Qe9 i2) : ([28] : List Nat) = [] ∨ noSh (oI i2) = true) (Qdj (d := 153) K07 ctx1) (cq (Kfe _ _ i5) K5r (ad (Q71.args (A1 := [K2e s0,.sl (Q02 (List.map I i4)),I t2.fN,sI b9.fneeds]) (A2 := [K2e s0,sI i4,I t2.fN,sI b9.fneeds]) (by simp only [List.map_nil,Qe5]) (Kfv _ _ i7)) K5w (Or.inr (Qed Qe9 i6) : ([30] : List Nat) = [] ∨ noSh (oI i6) = true) (Q71.args (A1 := [.sl (Q02 (List.map I i2)),.sl (Q02 (List.map I i6))]) (A2 := [sI i2,sI i6]) (by simp only [List.map_nil,Qe5]) (Kfy _ _ i9)) (ai K5x tv)))) ?_
   refine rt ?_
   obtain rfl := os h
   exact rq [false]
  refine K8d hc 2 [(1,sL ctx1),(3,.ra 1 0),(5,.ra 2 0),(6,.ra 3 0),(9,.ra 10 0),(161,.bool (t2.fOp == 10))] ?_
  refine ic h (fun j0 h => ?_) fun j0 h => ?_
  ·refine sN ?_
   obtain ⟨j8,j9,k0,k1,h⟩ := bq2 h
   refine rss hc none [oN,oN,some (.el (I j8)),oN,oc (.bool k0),oN] [(1,sL ctx1),(3,.ra 1 0),(5,.ra 2 0),(6,.ra 3 0),(9,.ra 10 0),(168,.bool (!k0))] (ai (ix j9) (cq (Kcd _ _ k1) K4p tv)) ?_
   rcases is h with ⟨k2,h⟩ | ⟨k2,h⟩
   ·refine cF (!k0) (nF k2) ?_
    refine sk ?_
    obtain ⟨k4,k5,h⟩ := Qdd h
    refine rs hc none [oN,oN,oN,oc (K2k k4),some (.new 32),oN] [(3,.ra 1 0),(6,.ra 3 0),(9,.ra 10 0),(11,.ra 32 0)] [(1,K2d s0),(3,.box [.nils,.nils,I 0,.nils]),(10,K2j b9),(32,K2j k4)] (cq (spec_l3Of_ih _ _ k5) K5s tv) ?_
    refine sN ?_
    refine K8d hc 3 [(3,.ra 1 0),(6,.ra 3 0),(9,.ra 10 0),(11,.ra 32 0),(176,.bool (k4.ffault != 0))] ?_
    refine ic h (fun k6 h => ?_) fun k6 h => ?_
    ·refine rs0 hc 2 [(6,.ra 3 0)] [(3,K2j k4)] ?_
     refine rt ?_
     obtain rfl := os h
     exact rq [false]
    refine sk ?_
    refine sN ?_
    obtain ⟨k7,k8,k9,l0,h⟩ := bq2 h
    refine rss hc (rx [[0],[1],[0],[0,2],[0,2,3],[5],[6]]) [oN,oN,oN,oN,some (.call (oI k7) [] 33),oc (.bool k9),oN] [(3,.ra 1 0),(6,.ra 3 0),(9,.ra 10 0),(11,.ra 32 0),(184,.bool (!k9))] (cq (Key _ _ k8) K5n (ac (Q71.args (A1 := [sI k4.fty,.sl (Q02 (List.map I k7))]) (A2 := [sI k4.fty,sI k7]) (by simp only [List.map_nil,Qe5]) (Kek _ _ l0)) K5j (Or.inr rfl : ([33] : List Nat) = [] ∨ noSh (.bool k9) = true) tv)) ?_
    rcases is h with ⟨l1,h⟩ | ⟨l1,h⟩
    ·refine cF (!k9) (nF l1) ?_
     refine sk ?_
     obtain ⟨l2,l3,l4,l5,l6,l7,l8,l9,h⟩ := bq4 h
     refine rs hc (rx [[0],[1],[2],[0],[0],[0,4],[0],[0,6],[0,6,7],[0,6,7,8],[3,6,7,8,9],[0],[0,11],[13],[14],[15]]) [oN,oN,some (.call (oI l2) [] 34),oN,oN,oN,oN,oN,some (.el (I l4)),oN,oc (I l6),oN,oN,some (.call (oI l8) [] 35),oN,oN] [(6,.ra 3 0)] [(3,.box [.rs 34,.rs 35,I 0,.nils]),(34,rI l2),(35,rI l8)] (cq (Key _ _ l3) K5n (ai (ix l5) (cq (Kcw _ _ l7) K4z (cq (Kfv _ _ l9) K5w tv)))) ?_
     refine vz 34 (Qe5 l2) [(6,.ra 3 0)] [(3,.box [sI l2,.rs 35,I 0,.nils]),(35,rI l8)] ?_
     refine vz 35 (Qe5 l8) [(6,.ra 3 0)] [(3,.box [sI l2,sI l8,I 0,.nils])] ?_
     refine rt ?_
     obtain rfl := os h
     exact rq [false]
    refine cT (!k9) (nT l1) ?_
    obtain ⟨m0,m1,h⟩ := Qdd h
    refine rs hc none [some (.call (K2v m0) [] 36),oN] [(6,.ra 3 0)] [(3,.box [.rs 36,.rs 37,I m0.ffault,.rs 38]),(36,rI m0.fty),(37,rI m0.fneeds),(38,rI m0.fpath)] (cq (Kfh _ _ m1) K5t tv) ?_
    refine vz 36 (Qe5 m0.fty) [(6,.ra 3 0)] [(3,.box [sI m0.fty,.rs 37,I m0.ffault,.rs 38]),(37,rI m0.fneeds),(38,rI m0.fpath)] ?_
    refine vz 37 (Qe5 m0.fneeds) [(6,.ra 3 0)] [(3,.box [sI m0.fty,sI m0.fneeds,I m0.ffault,.rs 38]),(38,rI m0.fpath)] ?_
    refine vz 38 (Qe5 m0.fpath) [(6,.ra 3 0)] [(3,K2j m0)] ?_
    refine rt ?_
    obtain rfl := os h
    exact rq [false]
   refine cT (!k0) (nT k2) ?_
   obtain ⟨m2,m3,h⟩ := Qdd h
   refine rs hc none [some (.call (K2v m2) [] 39),oN] [(6,.ra 3 0)] [(3,.box [.rs 39,.rs 40,I m2.ffault,.rs 41]),(39,rI m2.fty),(40,rI m2.fneeds),(41,rI m2.fpath)] (cq (Kfh _ _ m3) K5t tv) ?_
   refine vz 39 (Qe5 m2.fty) [(6,.ra 3 0)] [(3,.box [sI m2.fty,.rs 40,I m2.ffault,.rs 41]),(40,rI m2.fneeds),(41,rI m2.fpath)] ?_
   refine vz 40 (Qe5 m2.fneeds) [(6,.ra 3 0)] [(3,.box [sI m2.fty,sI m2.fneeds,I m2.ffault,.rs 41]),(41,rI m2.fpath)] ?_
   refine vz 41 (Qe5 m2.fpath) [(6,.ra 3 0)] [(3,K2j m2)] ?_
   refine rt ?_
   obtain rfl := os h
   exact rq [false]
  refine sk ?_
  obtain ⟨m4,m5,h⟩ := Qdd h
  refine rs hc none [oN,oN,oN,oN,oc (K2k m4),oN] [(6,.ra 3 0)] [(3,K2j m4)] (cq (spec_l3Taken_ih _ _ m5) K5z tv) ?_
  refine rt ?_
  obtain rfl := os h
  exact rq [false]
 ·rintro spec_l3Of_f spec_l3Of_ih ⟨s0,ctx1,t2,a3⟩ r h
  refine b0 Tryz.f103 K5y 170 [(0,K2e s0),(1,sL ctx1),(2,K2g t2),(3,K2k a3)] fun c hc => ?_
  refine rs hc none [some (.new 1),some (.new 2),some (.new 3),some (.new 4)] [(1,sL ctx1),(4,.ra 1 0),(6,.ra 2 0),(7,.ra 3 0),(8,.ra 4 0)] [(1,K2d s0),(2,K2f t2),(3,K2j a3),(4,.box [.nils,.nils,I 0,.nils])] tv ?_
  obtain ⟨m6,m7,h⟩ := Qdd h
  refine rss hc none [oN,oN,some (.el (I m6)),oN,oN] [(1,sL ctx1),(4,.ra 1 0),(6,.ra 2 0),(7,.ra 3 0),(8,.ra 4 0),(9,I m6)] (ai (ix m7) tv) ?_
  refine sN ?_
  refine bk 0 ?_
  refine sN ?_
  obtain ⟨m8,m9,h⟩ := Qdd h
  refine Wp.into (x := .normal) (mkS [(1,sL ctx1),(4,.ra 1 0),(6,.ra 2 0),(7,.ra 3 0),(8,.ra 4 0),(9,I m6),(21,.bool m8)] [(1,K2d s0),(2,K2f t2),(3,K2j a3),(4,.box [.nils,.nils,I 0,.nils])]) ?_ ?_
  ·replace h := m9
   rcases is h with ⟨n0,h⟩ | ⟨n0,h⟩
   ·refine rgs hc none [oN,oN,oN,oN,oN,oN,oT,oN] [(1,sL ctx1),(4,.ra 1 0),(6,.ra 2 0),(7,.ra 3 0),(8,.ra 4 0),(9,I m6),(21,.bool (m6 != 1))] (ar 3 n0 tv) ?_
    obtain rfl := os h
    exact Qcz.mk
   refine rgs hc none [oN,oN,oN,oN,o_,o_,oF,oN] [(1,sL ctx1),(4,.ra 1 0),(6,.ra 2 0),(7,.ra 3 0),(8,.ra 4 0),(9,I m6),(21,.bool false)] (ar 2 (neT n0) (ai n0 tv)) ?_
   obtain rfl := os h
   exact Qcz.mk
  clear m9
  refine ic h (fun b6 h => ?_) fun b6 h => ?_
  ·obtain ⟨n1,n2,h⟩ := Qdd h
   refine rs hc none [some (.call (K2v n1) [] 5),oN] [(8,.ra 4 0)] [(4,.box [.rs 5,.rs 6,I n1.ffault,.rs 7]),(5,rI n1.fty),(6,rI n1.fneeds),(7,rI n1.fpath)] (cq (Kfh _ _ n2) K5t tv) ?_
   refine vz 5 (Qe5 n1.fty) [(8,.ra 4 0)] [(4,.box [sI n1.fty,.rs 6,I n1.ffault,.rs 7]),(6,rI n1.fneeds),(7,rI n1.fpath)] ?_
   refine vz 6 (Qe5 n1.fneeds) [(8,.ra 4 0)] [(4,.box [sI n1.fty,sI n1.fneeds,I n1.ffault,.rs 7]),(7,rI n1.fpath)] ?_
   refine vz 7 (Qe5 n1.fpath) [(8,.ra 4 0)] [(4,K2j n1)] ?_
   refine rt ?_
   obtain rfl := os h
   exact rq [false]
  refine sN ?_
  obtain ⟨n3,n4,h⟩ := Qdd h
  refine Wp.into (x := .normal) (mkS [(1,sL ctx1),(4,.ra 1 0),(6,.ra 2 0),(7,.ra 3 0),(8,.ra 4 0),(9,I m6),(30,.bool n3)] [(1,K2d s0),(2,K2f t2),(3,K2j a3),(4,.box [.nils,.nils,I 0,.nils])]) ?_ ?_
  ·replace h := n4
   rcases is h with ⟨n5,h⟩ | ⟨n5,h⟩
   ·refine rgs hc none [oN,oN,oN,oN,oN,oN,oT,oN] [(1,sL ctx1),(4,.ra 1 0),(6,.ra 2 0),(7,.ra 3 0),(8,.ra 4 0),(9,I m6),(30,.bool (m6 != 2))] (ar 3 n5 tv) ?_
    obtain rfl := os h
    exact Qcz.mk
   refine rgs hc none [oN,oN,oN,oN,o_,o_,oF,oN] [(1,sL ctx1),(4,.ra 1 0),(6,.ra 2 0),(7,.ra 3 0),(8,.ra 4 0),(9,I m6),(30,.bool false)] (ar 2 (neT n5) (ai n5 tv)) ?_
   obtain rfl := os h
   exact Qcz.mk
  clear n4
  refine ic h (fun n6 h => ?_) fun n6 h => ?_
  ·obtain ⟨n7,n8,h⟩ := Qdd h
   refine rs hc none [some (.call (K2v n7) [] 8),oN] [(8,.ra 4 0)] [(4,.box [.rs 8,.rs 9,I n7.ffault,.rs 10]),(8,rI n7.fty),(9,rI n7.fneeds),(10,rI n7.fpath)] (cq (Kfh _ _ n8) K5t tv) ?_
   refine vz 8 (Qe5 n7.fty) [(8,.ra 4 0)] [(4,.box [sI n7.fty,.rs 9,I n7.ffault,.rs 10]),(9,rI n7.fneeds),(10,rI n7.fpath)] ?_
   refine vz 9 (Qe5 n7.fneeds) [(8,.ra 4 0)] [(4,.box [sI n7.fty,sI n7.fneeds,I n7.ffault,.rs 10]),(10,rI n7.fpath)] ?_
   refine vz 10 (Qe5 n7.fpath) [(8,.ra 4 0)] [(4,K2j n7)] ?_
   refine rt ?_
   obtain rfl := os h
   exact rq [false]
  refine sN ?_
  obtain ⟨n9,o0,h⟩ := Qdd h
  refine Wp.into (x := .normal) (mkS [(1,sL ctx1),(4,.ra 1 0),(6,.ra 2 0),(7,.ra 3 0),(8,.ra 4 0),(9,I m6),(39,.bool n9)] [(1,K2d s0),(2,K2f t2),(3,K2j a3),(4,.box [.nils,.nils,I 0,.nils])]) ?_ ?_
  ·replace h := o0
   rcases is h with ⟨o1,h⟩ | ⟨o1,h⟩
   ·obtain ⟨o2,o3,h⟩ := Qdd h
    refine rgs hc none [oN,oN,oN,oN,oN,oc (.bool o2),oN,oT,oN] [(1,sL ctx1),(4,.ra 1 0),(6,.ra 2 0),(7,.ra 3 0),(8,.ra 4 0),(9,I m6),(39,.bool (!o2))] (ar 2 o1 (cq (Kcg _ _ o3) K4r (ar 2 o1 tv))) ?_
    obtain rfl := os h
    exact Qcz.mk
   refine rgs hc none [oN,oN,oN,oN,o_,o_,o_,oF,oN] [(1,sL ctx1),(4,.ra 1 0),(6,.ra 2 0),(7,.ra 3 0),(8,.ra 4 0),(9,I m6),(39,.bool false)] (ar 3 (neT o1) (ai o1 tv)) ?_
   obtain rfl := os h
   exact Qcz.mk
  clear o0
  refine ic h (fun o4 h => ?_) fun o4 h => ?_
  ·obtain ⟨o5,o6,h⟩ := Qdd h
   refine rs hc none [some (.call (K2v o5) [] 11),oN] [(8,.ra 4 0)] [(4,.box [.rs 11,.rs 12,I o5.ffault,.rs 13]),(11,rI o5.fty),(12,rI o5.fneeds),(13,rI o5.fpath)] (cq (Kfh _ _ o6) K5t tv) ?_
   refine vz 11 (Qe5 o5.fty) [(8,.ra 4 0)] [(4,.box [sI o5.fty,.rs 12,I o5.ffault,.rs 13]),(12,rI o5.fneeds),(13,rI o5.fpath)] ?_
   refine vz 12 (Qe5 o5.fneeds) [(8,.ra 4 0)] [(4,.box [sI o5.fty,sI o5.fneeds,I o5.ffault,.rs 13]),(13,rI o5.fpath)] ?_
   refine vz 13 (Qe5 o5.fpath) [(8,.ra 4 0)] [(4,K2j o5)] ?_
   refine rt ?_
   obtain rfl := os h
   exact rq [false]
  refine sk ?_
  refine sN ?_
  obtain ⟨o7,o8,h⟩ := Qdd h
  refine rss hc none [oN,oN,oN,oc (.bool o7),oN] [(1,sL ctx1),(4,.ra 1 0),(6,.ra 2 0),(7,.ra 3 0),(8,.ra 4 0),(9,I m6),(53,.bool (!o7))] (cq (Kb8 _ _ o8) K4e tv) ?_
  rcases is h with ⟨o9,h⟩ | ⟨o9,h⟩
  ·refine cF (!o7) (nF o9) ?_
   refine sk ?_
   obtain ⟨p0,p1,h⟩ := Qdd h
   refine rs hc none [oN,oN,some (.call (oI p0) [] 14),some (.mk 15 true),oN] [(1,sL ctx1),(4,.ra 1 0),(6,.ra 2 0),(7,.ra 3 0),(8,.ra 4 0),(9,I m6),(10,.rs 15)] [(1,K2d s0),(2,K2f t2),(3,K2j a3),(4,.box [.nils,.nils,I 0,.nils]),(15,.arr (List.map K0c [p0]))] (cq (Key _ _ p1) K5n tv) ?_
   refine sN ?_
   refine K8d hc 3 [(1,sL ctx1),(4,.ra 1 0),(6,.ra 2 0),(7,.ra 3 0),(8,.ra 4 0),(9,I m6),(10,.rs 15),(61,.bool (t2.fOp == 5))] ?_
   obtain ⟨V0d,p2,h⟩ := Qdd h
   refine Wp.into (x := .normal) (mkS [(1,sL ctx1),(4,.ra 1 0),(6,.ra 2 0),(7,.ra 3 0),(8,.ra 4 0),(9,I m6),(10,.rs 18)] [(1,K2d s0),(2,K2f t2),(3,K2j a3),(4,.box [.nils,.nils,I 0,.nils]),(18,.arr (List.map K0c V0d))]) ?_ ?_
   ·replace h := p2
    refine ic h (fun c5 h => ?_) fun c5 h => ?_
    ·obtain ⟨p3,p4,p5,p6,h⟩ := bq2 h
     refine rg hc (rx [[0],[1],[2],[0],[0,3],[5],[6],[7]]) [oN,oN,some (.call (oI p3) [] 16),oN,oN,some (.call (oI p5) [] 17),some (.mk 18 true),oN] [(1,sL ctx1),(4,.ra 1 0),(6,.ra 2 0),(7,.ra 3 0),(8,.ra 4 0),(9,I m6),(10,.rs 18)] [(1,K2d s0),(2,K2f t2),(3,K2j a3),(4,.box [.nils,.nils,I 0,.nils]),(18,.arr (List.map K0c [p3,p5]))] (cq (Key _ _ p4) K5n (cq (Key _ _ p6) K5n tv)) ?_
     obtain rfl := os h
     exact Qcz.mk
    refine sk ?_
    obtain rfl := os h
    exact iv [(18,15)]
   clear p2
   refine sN ?_
   refine vz 18 (K0g V0d) [(1,sL ctx1),(4,.ra 1 0),(6,.ra 2 0),(7,.ra 3 0),(8,.ra 4 0),(9,I m6),(10,sL V0d)] [(1,K2d s0),(2,K2f t2),(3,K2j a3),(4,.box [.nils,.nils,I 0,.nils])] ?_
   obtain ⟨p7,p8,p9,q0,h⟩ := bq2 h
   refine rg hc (rx [[0],[0],[0],[0,1,2],[0],[5],[0],[7]]) [oN,oN,oN,some (.call (.osl (List.map K07 p7)) [] 20),oN,some (.call (K2k p9) [.tup []] 1),some (.new 21),oN] [(1,sL ctx1),(4,.ra 1 0),(6,.ra 2 0),(7,.ra 3 0),(8,.ra 4 0),(9,I m6),(10,sL V0d),(11,.ra 21 0)] [(1,K2d s0),(2,K2f t2),(3,K2j a3),(4,.box [.nils,.nils,I 0,.nils]),(21,K2j p9)] (cq (Kf4 _ _ p8) K5p (ab (Q71.args (A1 := [K2e s0,.sl (Q02 (List.map K07 p7)),K2g t2,I 1]) (A2 := [K2e s0,sL p7,K2g t2,I 1]) (by simp only [List.map_nil,K0b]) (spec_l3Of_ih _ _ q0)) K5s tv)) ?_
   refine sN ?_
   refine K8d hc 3 [(1,sL ctx1),(4,.ra 1 0),(6,.ra 2 0),(7,.ra 3 0),(8,.ra 4 0),(9,I m6),(10,sL V0d),(11,.ra 21 0),(77,.bool (p9.ffault != 0))] ?_
   refine ic h (fun d6 h => ?_) fun d6 h => ?_
   ·refine rs0 hc 2 [(8,.ra 4 0)] [(4,K2j p9)] ?_
    refine rt ?_
    obtain rfl := os h
    exact rq [false]
   refine sk ?_
   refine rss hc none [oN,some (.eqv (.no) ⟨[(80,I (V0d.length : Int))],[],[]⟩),oN] [(1,sL ctx1),(4,.ra 1 0),(6,.ra 2 0),(7,.ra 3 0),(8,.ra 4 0),(9,I m6),(11,.ra 21 0),(12,I (V0d.length : Int))] (ai (Qdj (d := 80) K07 V0d) tv) ?_
   refine K8d hc 3 [(1,sL ctx1),(4,.ra 1 0),(6,.ra 2 0),(7,.ra 3 0),(8,.ra 4 0),(9,I m6),(11,.ra 21 0),(12,I (V0d.length : Int)),(13,I t2.fN)] ?_
   obtain ⟨q1,q2,q3,q4,h⟩ := bq2 h
   refine rs hc none [oN,oN,oN,some (.eqv (.no) ⟨[(86,sI q1)],[],[]⟩),some (.call (oI q3) [] 22),oN] [(1,sL ctx1),(4,.ra 1 0),(6,.ra 2 0),(7,.ra 3 0),(8,.ra 4 0),(9,I m6),(11,.ra 21 0),(13,I t2.fN),(14,.rs 22)] [(1,K2d s0),(2,K2f t2),(3,K2j a3),(4,.box [.nils,.nils,I 0,.nils]),(21,K2j p9),(22,rI q3)] (ab (Qdm (d := 86) I q2) (Qdl (enc := I) (sz := 1) Qdw q2) (cq (Kev _ _ q4) K5l tv)) ?_
   refine K8d hc 1 [(1,sL ctx1),(4,.ra 1 0),(6,.ra 2 0),(7,.ra 3 0),(8,.ra 4 0),(9,I m6),(11,.ra 21 0),(13,I t2.fN),(14,.rs 22),(15,.bool true)] ?_
   refine sN ?_
   refine K8d hc 2 [(1,sL ctx1),(4,.ra 1 0),(6,.ra 2 0),(7,.ra 3 0),(8,.ra 4 0),(9,I m6),(11,.ra 21 0),(13,I t2.fN),(14,.rs 22),(15,.bool true),(89,I t2.fOp)] ?_
   refine bk 1 ?_
   refine K8d hc 2 [(1,sL ctx1),(4,.ra 1 0),(6,.ra 2 0),(7,.ra 3 0),(8,.ra 4 0),(9,I m6),(11,.ra 21 0),(13,I t2.fN),(14,.rs 22),(15,.bool true),(89,I t2.fOp),(90,.bool (t2.fOp == 12))] ?_
   obtain ⟨fl,q5,h⟩ := Qdd h
   refine flw (Kg8 c s0 ctx1 t2 a3 p9 fl) ?_ (fun hF => ?_)
   ·replace h := q5
    refine ic h (fun e5 h => ?_) fun e5 h => ?_
    ·obtain ⟨q6,q7,q8,q9,h⟩ := bq2 h
     refine rgs hc (rx [[0],[0],[0,1],[0],[0,3],[5],[6]]) [oN,oN,oN,oN,oc (I q6),oc (I q8),oN] [(1,sL ctx1),(4,.ra 1 0),(6,.ra 2 0),(7,.ra 3 0),(8,.ra 4 0),(11,.ra 21 0),(13,I q8),(14,.rs 22),(15,.bool true)] (cq (Kcw _ _ q7) K4z (cq (Kb5 _ _ q9) K4d tv)) ?_
     obtain rfl := os h
     exact Qcz.mk
    refine K8d hc 2 [(1,sL ctx1),(4,.ra 1 0),(6,.ra 2 0),(7,.ra 3 0),(8,.ra 4 0),(11,.ra 21 0),(13,I t2.fN),(14,.rs 22),(15,.bool true),(89,I t2.fOp),(98,.bool (t2.fOp == 5))] ?_
    obtain ⟨fl,r0,h⟩ := Qdd h
    refine flw (Kg7 c s0 ctx1 t2 a3 p9 fl) ?_ (fun hF => ?_)
    ·replace h := r0
     refine ic h (fun f0 h => ?_) fun f0 h => ?_
     ·obtain ⟨r1,r2,r3,r4,h⟩ := bq2 h
      refine rgs hc Kga [oN,oN,oN,some (.el (I r1)),oN,oN,oc (.bool r3),oN] [(1,sL ctx1),(4,.ra 1 0),(6,.ra 2 0),(7,.ra 3 0),(8,.ra 4 0),(11,.ra 21 0),(13,I t2.fN),(14,.rs 22),(15,.bool r3)] (ai (ix r2) (cq (Kb8 _ _ r4) K4e tv)) ?_
      obtain rfl := os h
      exact Qcz.mk
     refine K8d hc 2 [(1,sL ctx1),(4,.ra 1 0),(6,.ra 2 0),(7,.ra 3 0),(8,.ra 4 0),(11,.ra 21 0),(13,I t2.fN),(14,.rs 22),(15,.bool true),(107,.bool (t2.fOp == 8))] ?_
     obtain ⟨fl,r5,h⟩ := Qdd h
     refine flw (Kg6 c s0 ctx1 t2 a3 p9 fl) ?_ (fun hF => ?_)
     ·replace h := r5
      refine ic h (fun f5 h => ?_) fun f5 h => ?_
      ·obtain ⟨r6,r7,r8,r9,e8,e9,h⟩ := bq3 h
       refine rs hc (rx [[0],[0],[0],[0,2],[0,2,3],[0,2,3,4],[0,1,2,3,4,5],[0],[8],[0],[10]]) [oN,oN,oN,oN,some (.call (oI r6) [] 23),some (.mk 24 true),some (.call (.osl (List.map K07 r8)) [.tup []] 25),oN,some (.call (K2k e8) [.tup []] 1),some (.new 26),oN] [(1,sL ctx1),(4,.ra 1 0),(6,.ra 2 0),(7,.ra 3 0),(8,.ra 4 0),(11,.ra 21 0),(13,I t2.fN),(14,.rs 22),(16,.ra 26 0)] [(1,K2d s0),(2,K2f t2),(3,K2j a3),(4,.box [.nils,.nils,I 0,.nils]),(21,K2j p9),(22,rI q3),(26,K2j e8)] (cq (Key _ _ r7) K5n (ad (Q71.args (A1 := [sL ctx1,.sl (Q02 (List.map K0c [r6]))]) (A2 := [sL ctx1,.sl (List.map K07 [r6])]) (by simp only [List.map_nil,K0g]) (Kf4 _ _ r9)) K5p (Q71.args (A1 := [K2e s0,.sl (Q02 (List.map K07 r8)),K2g t2,I 2]) (A2 := [K2e s0,sL r8,K2g t2,I 2]) (by simp only [List.map_nil,K0b]) (spec_l3Of_ih _ _ e9)) K5s tv)) ?_
       refine sN ?_
       refine K8d hc 3 [(1,sL ctx1),(4,.ra 1 0),(6,.ra 2 0),(7,.ra 3 0),(8,.ra 4 0),(11,.ra 21 0),(13,I t2.fN),(14,.rs 22),(16,.ra 26 0),(120,.bool (e8.ffault != 0))] ?_
       refine ic h (fun g0 h => ?_) fun g0 h => ?_
       ·refine rs0 hc 2 [(8,.ra 4 0)] [(4,K2j e8)] ?_
        refine rt ?_
        obtain rfl := os h
        exact re [false]
       refine sk ?_
       refine sN ?_
       obtain ⟨s1,s2,h⟩ := Qdd h
       refine rss hc none [oN,oN,oN,oN,oc (.bool s1),oN] [(1,sL ctx1),(4,.ra 1 0),(6,.ra 2 0),(7,.ra 3 0),(8,.ra 4 0),(11,.ra 21 0),(13,I t2.fN),(14,.rs 22),(16,.ra 26 0),(127,.bool (!s1))] (cq (Kek _ _ s2) K5j tv) ?_
       rcases is h with ⟨i1,h⟩ | ⟨i1,h⟩
       ·refine cF (!s1) (nF i1) ?_
        refine sk ?_
        obtain ⟨s3,s4,s5,s6,h⟩ := bq2 h
        refine rss hc Kga [oN,oN,oN,some (.el (I s3)),oN,oN,oc (.bool s5),oN] [(1,sL ctx1),(4,.ra 1 0),(6,.ra 2 0),(7,.ra 3 0),(8,.ra 4 0),(11,.ra 21 0),(13,I t2.fN),(14,.rs 22),(15,.bool s5),(16,.ra 26 0)] (ai (ix s4) (cq (Kb8 _ _ s6) K4e tv)) ?_
        obtain ⟨s7,s8,s9,t0,h⟩ := bq2 h
        refine rg hc (rx [[0],[0],[0],[0,2],[0,2,3],[5],[6]]) [oN,oN,oN,oN,some (.eqv (.no) ⟨[(140,sI s7)],[],[]⟩),some (.call (oI s9) [] 27),oN] [(1,sL ctx1),(4,.ra 1 0),(6,.ra 2 0),(7,.ra 3 0),(8,.ra 4 0),(11,.ra 21 0),(13,I t2.fN),(14,.rs 27),(15,.bool s5)] [(1,K2d s0),(2,K2f t2),(3,K2j a3),(4,.box [.nils,.nils,I 0,.nils]),(21,K2j p9),(27,rI s9)] (ad (Qdm (d := 140) I s8) (Qdl (enc := I) (sz := 1) Qdw s8) (Q71.args (A1 := [K2e s0,.sl (Q02 (List.map I q3)),sI s7]) (A2 := [K2e s0,sI q3,sI s7]) (by simp only [List.map_nil,Qe5]) (Kg5 _ _ t0)) K62 (ai (Or.inr (Qed Qe9 s9) : ([22] : List Nat) = [] ∨ noSh (oI s9) = true) tv)) ?_
        obtain rfl := os h
        exact Qcz.mk
       refine cT (!s1) (nT i1) ?_
       obtain ⟨t1,t3,h⟩ := Qdd h
       refine rs hc none [some (.call (K2v t1) [] 28),oN] [(8,.ra 4 0)] [(4,.box [.rs 28,.rs 29,I t1.ffault,.rs 30]),(28,rI t1.fty),(29,rI t1.fneeds),(30,rI t1.fpath)] (cq (Kfh _ _ t3) K5t tv) ?_
       refine vz 28 (Qe5 t1.fty) [(8,.ra 4 0)] [(4,.box [sI t1.fty,.rs 29,I t1.ffault,.rs 30]),(29,rI t1.fneeds),(30,rI t1.fpath)] ?_
       refine vz 29 (Qe5 t1.fneeds) [(8,.ra 4 0)] [(4,.box [sI t1.fty,sI t1.fneeds,I t1.ffault,.rs 30]),(30,rI t1.fpath)] ?_
       refine vz 30 (Qe5 t1.fpath) [(8,.ra 4 0)] [(4,K2j t1)] ?_
       refine rt ?_
       obtain rfl := os h
       exact re [false]
      refine sk ?_
      obtain rfl := os h
      exact iv [(27,22)]
     rcases fl with ⟨t4,t5⟩ | r
     ·refine Wp.into (x := .normal) (mkS [(1,sL ctx1),(4,.ra 1 0),(6,.ra 2 0),(7,.ra 3 0),(8,.ra 4 0),(11,.ra 21 0),(13,I t2.fN),(14,.rs 27),(15,.bool t5)] [(1,K2d s0),(2,K2f t2),(3,K2j a3),(4,.box [.nils,.nils,I 0,.nils]),(21,K2j p9),(27,rI t4)]) hF ?_
      obtain rfl := os h
      exact iv [(22,27)]
     refine Wp.mono hF ?_
     rintro _ _ ⟨rfl,hfin⟩
     obtain rfl := os h
     exact ⟨rfl,hfin⟩
    rcases fl with ⟨t6,t7⟩ | r
    ·refine Wp.into (x := .normal) (mkS [(1,sL ctx1),(4,.ra 1 0),(6,.ra 2 0),(7,.ra 3 0),(8,.ra 4 0),(11,.ra 21 0),(13,I t2.fN),(14,.rs 22),(15,.bool t7)] [(1,K2d s0),(2,K2f t2),(3,K2j a3),(4,.box [.nils,.nils,I 0,.nils]),(21,K2j p9),(22,rI t6)]) hF ?_
     obtain rfl := os h
     exact Qcz.mk
    refine Wp.mono hF ?_
    rintro _ _ ⟨rfl,hfin⟩
    obtain rfl := os h
    exact ⟨rfl,hfin⟩
   rcases fl with ⟨t8,t9,u0⟩ | r
   ·refine Wp.into (x := .normal) (mkS [(1,sL ctx1),(4,.ra 1 0),(6,.ra 2 0),(7,.ra 3 0),(8,.ra 4 0),(11,.ra 21 0),(13,I t8),(14,.rs 22),(15,.bool u0)] [(1,K2d s0),(2,K2f t2),(3,K2j a3),(4,.box [.nils,.nils,I 0,.nils]),(21,K2j p9),(22,rI t9)]) hF ?_
    refine sN ?_
    refine sN ?_
    obtain ⟨u1,u2,h⟩ := Qdd h
    refine Wp.into (x := .normal) (mkS [(1,sL ctx1),(4,.ra 1 0),(6,.ra 2 0),(7,.ra 3 0),(8,.ra 4 0),(11,.ra 21 0),(14,.rs 22),(153,.bool u1)] [(1,K2d s0),(2,K2f t2),(3,K2j a3),(4,.box [.nils,.nils,I 0,.nils]),(21,K2j p9),(22,rI t9)]) ?_ ?_
    ·replace h := u2
     rcases is h with ⟨u3,h⟩ | ⟨u3,h⟩
     ·obtain ⟨u4,u5,u6,u7,h⟩ := bq2 h
      refine rgs hc Kgb [oN,oN,oN,oN,oN,oN,some (.el (I u4)),oN,oN,oc (.bool u6),oN,oF] [(1,sL ctx1),(4,.ra 1 0),(6,.ra 2 0),(7,.ra 3 0),(8,.ra 4 0),(11,.ra 21 0),(14,.rs 22),(153,.bool (!u6))] (ar 4 (nF u3) (ai (ix u5) (ar 3 (nF u3) (cq (Kb8 _ _ u7) K4e (ar 2 (nF u3) tv))))) ?_
      obtain rfl := os h
      exact Qcz.mk
     refine rgs hc Kgb [oN,oN,oN,o_,o_,o_,o_,o_,o_,o_,o_,oT] [(1,sL ctx1),(4,.ra 1 0),(6,.ra 2 0),(7,.ra 3 0),(8,.ra 4 0),(11,.ra 21 0),(14,.rs 22),(153,.bool true)] (ar 8 (neF (nT u3)) (ai (nT u3) tv)) ?_
     obtain rfl := os h
     exact Qcz.mk
    clear u2
    refine ic h (fun u8 h => ?_) fun u8 h => ?_
    ·obtain ⟨u9,v0,h⟩ := Qdd h
     refine rs hc none [some (.call (K2v u9) [] 31),oN] [(8,.ra 4 0)] [(4,.box [.rs 31,.rs 32,I u9.ffault,.rs 33]),(31,rI u9.fty),(32,rI u9.fneeds),(33,rI u9.fpath)] (cq (Kfh _ _ v0) K5t tv) ?_
     refine vz 31 (Qe5 u9.fty) [(8,.ra 4 0)] [(4,.box [sI u9.fty,.rs 32,I u9.ffault,.rs 33]),(32,rI u9.fneeds),(33,rI u9.fpath)] ?_
     refine vz 32 (Qe5 u9.fneeds) [(8,.ra 4 0)] [(4,.box [sI u9.fty,sI u9.fneeds,I u9.ffault,.rs 33]),(33,rI u9.fpath)] ?_
     refine vz 33 (Qe5 u9.fpath) [(8,.ra 4 0)] [(4,K2j u9)] ?_
     refine rt ?_
     obtain rfl := os h
     exact rq [false]
    refine sk ?_
    obtain ⟨v1,v2,v3,v4,v5,v6,h⟩ := bq3 h
    refine rs hc (rx [[0],[1],[0],[0],[0],[0,4],[0,4,5],[0],[0,7],[0],[0,9],[0,3,4,5,6,7,8,9,10],[0],[0,2,3,4,5,6,7,8,9,10,11,12],[14],[15]]) [oN,oN,oN,oN,oN,some (.eqv (.no) ⟨[(160,I (ctx1.length : Int))],[],[]⟩),some (.call (oI v1) [] 34),oN,oN,oN,oN,some (.call (oI v3) [] 35),oN,some (.call (oI v5) [] 36),oN,oN] [(8,.ra 4 0)] [(4,.box [sI p9.fty,.rs 36,I 0,.nils]),(36,rI v5)] (ai (Qdj (d := 160) K07 ctx1) (cq (Kfe _ _ v2) K5r (ad (Q71.args (A1 := [K2e s0,.sl (Q02 (List.map I v1)),I t2.fN,sI a3.fneeds]) (A2 := [K2e s0,sI v1,I t2.fN,sI a3.fneeds]) (by simp only [List.map_nil,Qe5]) (Kfv _ _ v4)) K5w (Or.inr (Qed Qe9 v3) : ([34] : List Nat) = [] ∨ noSh (oI v3) = true) (Q71.args (A1 := [K2e s0,.sl (Q02 (List.map I v3)),I 1,.sl (Q02 (List.map I t9))]) (A2 := [K2e s0,sI v3,I 1,sI t9]) (by simp only [List.map_nil,Qe5]) (Kfv _ _ v6)) (ab K5w (Or.inr (Qed Qe9 v5) : ([35,22] : List Nat) = [] ∨ noSh (oI v5) = true) tv)))) ?_
    refine vz 36 (Qe5 v5) [(8,.ra 4 0)] [(4,.box [sI p9.fty,sI v5,I 0,.nils])] ?_
    refine rt ?_
    obtain rfl := os h
    exact rq [false]
   refine Wp.mono hF ?_
   rintro _ _ ⟨rfl,hfin⟩
   obtain rfl := os h
   exact ⟨.inl rfl,hfin⟩
  refine cT (!o7) (nT o9) ?_
  obtain ⟨v7,v8,h⟩ := Qdd h
  refine rs hc none [some (.call (K2v v7) [] 37),oN] [(8,.ra 4 0)] [(4,.box [.rs 37,.rs 38,I v7.ffault,.rs 39]),(37,rI v7.fty),(38,rI v7.fneeds),(39,rI v7.fpath)] (cq (Kfh _ _ v8) K5t tv) ?_
  refine vz 37 (Qe5 v7.fty) [(8,.ra 4 0)] [(4,.box [sI v7.fty,.rs 38,I v7.ffault,.rs 39]),(38,rI v7.fneeds),(39,rI v7.fpath)] ?_
  refine vz 38 (Qe5 v7.fneeds) [(8,.ra 4 0)] [(4,.box [sI v7.fty,sI v7.fneeds,I v7.ffault,.rs 39]),(39,rI v7.fpath)] ?_
  refine vz 39 (Qe5 v7.fpath) [(8,.ra 4 0)] [(4,K2j v7)] ?_
  refine rt ?_
  obtain rfl := os h
  exact rq [false]
 ·rintro spec_l3Tell_f spec_l3Tell_ih ⟨s0,ctx1,t2,k3⟩ r h
  refine b0 Tryz.f93 B93 28 [(0,K2e s0),(1,sL ctx1),(2,K2g t2),(3,I k3)] fun c hc => ?_
  refine rs hc none [some (.new 1),some (.new 2),some (.new 3)] [(1,sL ctx1),(3,I k3),(4,.ra 1 0),(6,.ra 2 0),(8,.ra 3 0)] [(1,K2d s0),(2,K2f t2),(3,.box [.nils,.nils,I 0,.nils])] tv ?_
  obtain ⟨v9,w0,w1,w2,h⟩ := bq2 h
  refine rs hc (rx [[0],[0],[0],[0,2],[0],[0,2,3,4],[0,2,3,4,5],[7],[0],[9]]) [oN,oN,oN,oN,oN,some (.el (K2g v9)),oN,oc (K2k w1),some (.new 4),oN] [(3,I k3),(8,.ra 3 0),(9,.ra 4 0)] [(3,.box [.nils,.nils,I 0,.nils]),(4,K2j w1)] (ai (Qdh w0 (K0z v9)) (cq (spec_l3Tell_ih _ _ w2) K60 tv)) ?_
  refine sN ?_
  refine K8d hc 3 [(3,I k3),(8,.ra 3 0),(9,.ra 4 0),(20,.bool (w1.ffault != 0))] ?_
  obtain ⟨w3,w4,h⟩ := Qdd h
  refine Wp.into (x := .normal) (mkS [(8,.ra 3 0),(9,.ra 4 0)] [(3,.box [.nils,.nils,I 0,.nils]),(4,.box [sI w1.fty,sI w1.fneeds,I w1.ffault,sI w3])]) ?_ ?_
  ·replace h := w4
   refine ic h (fun a0 h => ?_) fun a0 h => ?_
   ·obtain ⟨_,w5,h⟩ := Qdd h
    refine rg hc none [oN,some (.mk 5 true),oN,oN,some (.eqv (.mk 6 true) ⟨[(25,.rs 6)],[(6,some (rI ([k3] ++ w1.fpath))),(5,none)],[6]⟩),oN,oN] [(8,.ra 3 0),(9,.ra 4 0)] [(3,.box [.nils,.nils,I 0,.nils]),(4,.box [sI w1.fty,sI w1.fneeds,I w1.ffault,.rs 6]),(6,rI ([k3] ++ w1.fpath))] (ab (congrArg (fun z => (⟨[(25,.rs 6)],[(6,some (.arr z)),(5,none)],[6]⟩ : Wr)) ((List.map_append).symm : (List.map I [k3]) ++ (List.map I w1.fpath) = List.map I ([k3] ++ w1.fpath))) (Qdr (enc1 := I) (enc2 := I) (e1 := [k3]) (e2 := w1.fpath) (sz := 1) Qe0 Qe0 w5) tv) ?_
    obtain rfl := os h
    exact Qcz.view (fun a w hv => SRx.renL [] (SRx.frzC 6 (xs := List.map I ([k3] ++ w1.fpath)) (xs' := List.map I ([k3] ++ w1.fpath)) hv (by kernel_rfl) (Qe5 _)) (by kernel_rfl) (by kernel_rfl) (by kernel_rfl))
   refine sk ?_
   obtain rfl := os h
   exact iv []
  clear w4
  refine rs0 hc 2 [(8,.ra 3 0)] [(3,.box [sI w1.fty,sI w1.fneeds,I w1.ffault,sI w3])] ?_
  refine rt ?_
  obtain rfl := os h
  exact rq [false]
 ·rintro spec_l3Of_f spec_l3Of_ih ⟨s0,ctx1,t2,a3⟩ r h
  refine b0 Tryz.f95 B95 65 [(0,K2e s0),(1,sL ctx1),(2,K2g t2),(3,K2k a3)] fun c hc => ?_
  refine rs hc none [some (.new 1),some (.new 2),some (.new 3),some (.new 4)] [(1,sL ctx1),(4,.ra 1 0),(6,.ra 2 0),(7,.ra 3 0),(8,.ra 4 0)] [(1,K2d s0),(2,K2f t2),(3,K2j a3),(4,.box [.nils,.nils,I 0,.nils])] tv ?_
  obtain ⟨w6,w7,h⟩ := Qdd h
  refine rs hc none [oN,oN,oN,oc (K2k w6),some (.new 5),oN] [(1,sL ctx1),(4,.ra 1 0),(6,.ra 2 0),(7,.ra 3 0),(8,.ra 4 0),(9,.ra 5 0)] [(1,K2d s0),(2,K2f t2),(3,K2j a3),(4,.box [.nils,.nils,I 0,.nils]),(5,K2j w6)] (cq (spec_l3Of_ih _ _ w7) K5s tv) ?_
  refine sN ?_
  refine K8d hc 3 [(1,sL ctx1),(4,.ra 1 0),(6,.ra 2 0),(7,.ra 3 0),(8,.ra 4 0),(9,.ra 5 0),(17,.bool (w6.ffault != 0))] ?_
  refine ic h (fun a0 h => ?_) fun a0 h => ?_
  ·refine rs0 hc 2 [(8,.ra 4 0)] [(4,K2j w6)] ?_
   refine rt ?_
   obtain rfl := os h
   exact rq [false]
  refine sk ?_
  refine sN ?_
  refine K8d hc 3 [(1,sL ctx1),(4,.ra 1 0),(6,.ra 2 0),(7,.ra 3 0),(8,.ra 4 0),(9,.ra 5 0),(21,.bool (t2.fOp == 2))] ?_
  refine ic h (fun b1 h => ?_) fun b1 h => ?_
  ·refine sN ?_
   obtain ⟨w8,w9,h⟩ := Qdd h
   refine rs hc none [oN,oN,some (.el (I w8)),oN,oN] [(4,.ra 1 0),(7,.ra 3 0),(8,.ra 4 0),(9,.ra 5 0),(26,.bool (w8 != 0))] [(1,K2d s0),(3,K2j a3),(4,.box [.nils,.nils,I 0,.nils]),(5,K2j w6)] (ai (ix w9) tv) ?_
   refine ic h (fun b6 h => ?_) fun b6 h => ?_
   ·obtain ⟨x0,x1,h⟩ := Qdd h
    refine rs hc none [some (.call (K2v x0) [] 6),oN] [(8,.ra 4 0)] [(4,.box [.rs 6,.rs 7,I x0.ffault,.rs 8]),(6,rI x0.fty),(7,rI x0.fneeds),(8,rI x0.fpath)] (cq (Kfh _ _ x1) K5t tv) ?_
    refine vz 6 (Qe5 x0.fty) [(8,.ra 4 0)] [(4,.box [sI x0.fty,.rs 7,I x0.ffault,.rs 8]),(7,rI x0.fneeds),(8,rI x0.fpath)] ?_
    refine vz 7 (Qe5 x0.fneeds) [(8,.ra 4 0)] [(4,.box [sI x0.fty,sI x0.fneeds,I x0.ffault,.rs 8]),(8,rI x0.fpath)] ?_
    refine vz 8 (Qe5 x0.fpath) [(8,.ra 4 0)] [(4,K2j x0)] ?_
    refine rt ?_
    obtain rfl := os h
    exact rq [false]
   refine sk ?_
   obtain ⟨x2,x3,h⟩ := Qdd h
   refine rs hc (rx [[0],[1],[0],[0],[0,3],[0],[0,5],[0,2,3,4,5,6],[8],[9]]) [oN,oN,oN,oN,oN,oN,oN,some (.call (oI x2) [] 9),oN,oN] [(8,.ra 4 0)] [(4,.box [sI w6.fty,.rs 9,I 0,.nils]),(9,rI x2)] (cq (Kfv _ _ x3) K5w tv) ?_
   refine vz 9 (Qe5 x2) [(8,.ra 4 0)] [(4,.box [sI w6.fty,sI x2,I 0,.nils])] ?_
   refine rt ?_
   obtain rfl := os h
   exact rq [false]
  refine sk ?_
  obtain ⟨o7,o8,h⟩ := Qdd h
  refine rs hc none [oN,oN,oN,oc (K2k o7),some (.new 10),oN] [(4,.ra 1 0),(7,.ra 3 0),(8,.ra 4 0),(9,.ra 5 0),(10,.ra 10 0)] [(1,K2d s0),(3,K2j a3),(4,.box [.nils,.nils,I 0,.nils]),(5,K2j w6),(10,K2j o7)] (cq (spec_l3Of_ih _ _ o8) K5s tv) ?_
  refine sN ?_
  refine K8d hc 3 [(4,.ra 1 0),(7,.ra 3 0),(8,.ra 4 0),(9,.ra 5 0),(10,.ra 10 0),(43,.bool (o7.ffault != 0))] ?_
  refine ic h (fun x4 h => ?_) fun x4 h => ?_
  ·refine rs0 hc 2 [(8,.ra 4 0)] [(4,K2j o7)] ?_
   refine rt ?_
   obtain rfl := os h
   exact rq [false]
  refine sk ?_
  refine sN ?_
  obtain ⟨x5,x6,h⟩ := Qdd h
  refine rss hc none [oN,oN,oN,oN,oc (.bool x5),oN] [(4,.ra 1 0),(7,.ra 3 0),(8,.ra 4 0),(9,.ra 5 0),(10,.ra 10 0),(50,.bool (!x5))] (cq (Kek _ _ x6) K5j tv) ?_
  rcases is h with ⟨x7,h⟩ | ⟨x7,h⟩
  ·refine cF (!x5) (nF x7) ?_
   refine sk ?_
   obtain ⟨x8,x9,y0,y1,h⟩ := bq2 h
   refine rs hc (rx [[0],[1],[0],[0],[0,3],[0],[0],[0,6],[0],[0,8],[0,5,6,7,8,9],[0,2,3,4,5,6,7,8,9,10],[12],[13]]) [oN,oN,oN,oN,oN,oN,oN,oN,oN,oN,some (.call (oI x8) [] 11),some (.call (oI y0) [] 12),oN,oN] [(8,.ra 4 0)] [(4,.box [sI w6.fty,.rs 12,I 0,.nils]),(12,rI y0)] (cq (Kg5 _ _ x9) K62 (ac (Q71.args (A1 := [K2e s0,sI a3.fneeds,I 1,.sl (Q02 (List.map I x8))]) (A2 := [K2e s0,sI a3.fneeds,I 1,sI x8]) (by simp only [List.map_nil,Qe5]) (Kfv _ _ y1)) K5w (Or.inr (Qed Qe9 y0) : ([11] : List Nat) = [] ∨ noSh (oI y0) = true) tv)) ?_
   refine vz 12 (Qe5 y0) [(8,.ra 4 0)] [(4,.box [sI w6.fty,sI y0,I 0,.nils])] ?_
   refine rt ?_
   obtain rfl := os h
   exact rq [false]
  refine cT (!x5) (nT x7) ?_
  obtain ⟨y2,y3,h⟩ := Qdd h
  refine rs hc none [some (.call (K2v y2) [] 13),oN] [(8,.ra 4 0)] [(4,.box [.rs 13,.rs 14,I y2.ffault,.rs 15]),(13,rI y2.fty),(14,rI y2.fneeds),(15,rI y2.fpath)] (cq (Kfh _ _ y3) K5t tv) ?_
  refine vz 13 (Qe5 y2.fty) [(8,.ra 4 0)] [(4,.box [sI y2.fty,.rs 14,I y2.ffault,.rs 15]),(14,rI y2.fneeds),(15,rI y2.fpath)] ?_
  refine vz 14 (Qe5 y2.fneeds) [(8,.ra 4 0)] [(4,.box [sI y2.fty,sI y2.fneeds,I y2.ffault,.rs 15]),(15,rI y2.fpath)] ?_
  refine vz 15 (Qe5 y2.fpath) [(8,.ra 4 0)] [(4,K2j y2)] ?_
  refine rt ?_
  obtain rfl := os h
  exact rq [false]
theorem Kgl : ∀ p r,Kgc p = some r → Kgg p r := Kgk.1
theorem Kgm : ∀ p r,Kgd p = some r → Kgh p r := Kgk.2.1
theorem Kgn : ∀ p r,Kge p = some r → Kgi p r := Kgk.2.2.1
theorem Kgo : ∀ p r,Kgf p = some r → Kgj p r := Kgk.2.2.2
def Kgp : Option (List (List Nat)) := rx [[0],[1],[2],[3],[4],[5],[6],[7],[8],[9],[6],[6,10],[12],[13],[14]]
def Kgq : Option (List (List Nat)) := rx [[0],[1],[0],[0,2],[4],[5],[0],[0,6],[8],[9]]
def Kgr : Option (List (List Nat)) := rx [[0],[1],[2],[3],[4],[5],[6],[7],[8],[7],[7,9],[7,9,10],[12],[13],[14]]
def Kgs : Option (List (List Nat)) := rx [[0],[1],[2],[3],[0],[0,4],[6],[7],[8],[9],[9],[9,10],[9,10,11],[9,10,11,12],[9],[15],[16],[17]]
def Kgt : Option (List (List Nat)) := rx [[0],[0],[0,1],[3],[4],[5],[6],[6],[6,7],[6,7,8],[6,7,8,9],[6,7,8,9,10],[6,7,8,9,10,11],[6],[14],[15],[16],[17],[18],[18],[18,19],[18,19,20],[18,19,20,21],[18],[18,23],[18,19,20,21,22,23,24],[18,19,20,21,22,23,24,25],[18],[28],[29],[30]]
def Kgu (c : Ctx) (s0 : K00) (t2 : K01) (Kvu : List K03) (a0 : K03) (a1 : K03) (a2 : List Int) (a3 : Int) (a4 : Int) : ((List Int)) ⊕ (K03) → Exit → Q0a → Prop
 | .inl a5 => Qcz c .normal (mkS [(3,.sl (List.map K14 Kvu)),(4,.ra 1 0),(6,.ra 2 0),(8,.ra 3 0),(9,.ra 4 0),(10,.ra 5 0),(11,.rs 6),(12,I a3),(13,I a4),(14,sI a5)] [(1,K2d s0),(2,K2f t2),(3,.box [.nils,.nils,I 0,.nils]),(4,K2j a0),(5,K2j a1),(6,rI a2)])
 | .inr r => Qd8 TIx Tryz.f62 [] (K2k r)
def Kgv (p : K00 × LL × K01 × (List K03)) : Option (K03) :=
 match p with
 | (s0,ctx1,t2,Kvu) =>
  ((
  if (t2.fOp == 0) = true then
  some ((t2.fOp == 0))
  else
  some ((t2.fOp == 1))
  ) : Option (Bool)) >>= fun a0 =>
  if a0 = true then
  (Kgc (s0,ctx1,t2)) >>= fun a1 =>
  some a1
  else
  (idx Kvu 0) >>= fun a2 =>
  (idx Kvu (wr ((Kvu.length : Int) - 1))) >>= fun a3 =>
  (Kfc (ctx1.length : Int)) >>= fun a4 =>
  if (t2.fOp == 2) = true then
  ((
  (idx a2.fty 0) >>= fun a5 =>
  if (a5 != 0) = true then
  some (true)
  else
  (idx a3.fty 0) >>= fun a6 =>
  some ((a6 != 0))
  ) : Option (Bool)) >>= fun a7 =>
  if a7 = true then
  (Kff 2) >>= fun a8 =>
  some a8
  else
  (Kft (s0,a2.fneeds,1,a3.fneeds)) >>= fun a9 =>
  some (K03.mk a3.fty a9 0 [])
  else
  if (t2.fOp == 3) = true then
  ((
  (idx a2.fty 0) >>= fun b1 =>
  if (b1 != 0) = true then
  some (true)
  else
  (idx Kvu 1) >>= fun b2 =>
  (Kei (b2.fty,a3.fty)) >>= fun b3 =>
  some ((!b3))
  ) : Option (Bool)) >>= fun b4 =>
  if b4 = true then
  (Kff 3) >>= fun b5 =>
  some b5
  else
  (idx Kvu 1) >>= fun b6 =>
  (Kg3 (s0,b6.fneeds,a3.fneeds)) >>= fun b7 =>
  (Kft (s0,a2.fneeds,1,b7)) >>= fun b8 =>
  some (K03.mk a3.fty b8 0 [])
  else
  if (t2.fOp == 4) = true then
  (Kfm (1,[a2.fty,a3.fty])) >>= fun b9 =>
  (Kft (s0,a2.fneeds,1,a3.fneeds)) >>= fun c0 =>
  (Kfw (b9,c0)) >>= fun c1 =>
  some c1
  else
  if (t2.fOp == 6) = true then
  (Kfm (2,[a2.fty,t2.fType])) >>= fun c2 =>
  (Kfw (c2,a2.fneeds)) >>= fun c3 =>
  some c3
  else
  if (t2.fOp == 7) = true then
  (Kfm (2,[t2.fType,a2.fty])) >>= fun c4 =>
  (Kfw (c4,a2.fneeds)) >>= fun c5 =>
  some c5
  else
  if (t2.fOp == 9) = true then
  (idx a2.fneeds 0) >>= fun c6 =>
  (Kb6 (s0,c6,t2.fN)) >>= fun c7 =>
  if c7 = true then
  (Kfm ((wr (3 + t2.fN)),[t2.fType,a2.fty])) >>= fun c8 =>
  (cut a2.fneeds (some 1) none none) >>= fun c9 =>
  (Kfw (c8,c9)) >>= fun d0 =>
  some d0
  else
  (Kff 9) >>= fun d1 =>
  some d1
  else
  if (t2.fOp == 11) = true then
  (Kfm ((wr (19 + t2.fN)),[a2.fty])) >>= fun d2 =>
  (Kft (s0,a4,t2.fN,a2.fneeds)) >>= fun d3 =>
  (Kfw (d2,d3)) >>= fun d4 =>
  some d4
  else
  if (t2.fOp == 10) = true then
  ((
   (idx a2.fty 0) >>= fun d5 =>
   (Kcb d5) >>= fun d6 =>
   if d6 = true then
   (Kew (a2.fty,0)) >>= fun d7 =>
   (Kei (a3.fty,d7)) >>= fun d8 =>
   some ((!d8))
   else
   some (true)
  ) : Option (Bool)) >>= fun d9 =>
  if d9 = true then
   (Kff 3) >>= fun e0 =>
   some e0
  else
   (Kew (a2.fty,1)) >>= fun e1 =>
   (idx a2.fty 0) >>= fun e2 =>
   (Kcu e2) >>= fun e3 =>
   (Kft (s0,a2.fneeds,e3,a3.fneeds)) >>= fun e4 =>
   some (K03.mk e1 e4 0 [])
  else
  ((
   if (t2.fOp == 12) = true then
   (idx a2.fty 0) >>= fun e5 =>
   (Kcu e5) >>= fun e6 =>
   (Kb3 (s0,t2.fN,e6)) >>= fun e7 =>
   some (e7)
   else
   some (t2.fN)
  ) : Option (Int)) >>= fun e8 =>
  (Kdw (t2.fOp,1)) >>= fun e9 =>
  (idx Kvu 1) >>= fun f0 =>
  (cut f0.fneeds (some e9) none none) >>= fun f1 =>
  ((
   if (t2.fOp == 8) = true then
   ((
   (idx Kvu 1) >>= fun f2 =>
   (Kei (f2.fty,a3.fty)) >>= fun f3 =>
   if f3 = true then
   (idx a3.fneeds 0) >>= fun f4 =>
   (Kb6 (s0,f4,e8)) >>= fun f5 =>
   some ((!f5))
   else
   some (true)
   ) : Option (Bool)) >>= fun f6 =>
   if f6 = true then
   (Kff 3) >>= fun f7 =>
   some (.inr f7)
   else
   (cut a3.fneeds (some 1) none none) >>= fun f8 =>
   (Kg3 (s0,f1,f8)) >>= fun f9 =>
   some (.inl f9)
   else
   some (.inl f1)) : Option (((List Int)) ⊕ (K03))) >>= fun fl => match fl with
  | .inl g0 =>
   ((
   (Kb6 (s0,1,t2.fN)) >>= fun g1 =>
   if g1 = true then
   (idx Kvu 1) >>= fun g2 =>
   (idx g2.fneeds 0) >>= fun g3 =>
   (Kb6 (s0,g3,e8)) >>= fun g4 =>
   if g4 = true then
   (idx Kvu 1) >>= fun g5 =>
   (idx g5.fneeds (wr (e9 - 1))) >>= fun g6 =>
   (Kb6 (s0,g6,e8)) >>= fun g7 =>
   some ((!g7))
   else
   some (true)
   else
   some (true)
   ) : Option (Bool)) >>= fun g8 =>
   if g8 = true then
   (Kff 9) >>= fun g9 =>
   some g9
   else
   (Kft (s0,a4,t2.fN,a2.fneeds)) >>= fun i0 =>
   (Kft (s0,i0,1,g0)) >>= fun i1 =>
   some (K03.mk a3.fty i1 0 [])
  | .inr r =>
   some r
def Kgw (p : K00 × LL × K01 × (List K03)) (r : K03) : Prop :=
 match p with
 | (s0,ctx1,t2,Kvu) => Q71 Tryz.prog 62 [K2e s0,sL ctx1,K2g t2,.sl (List.map K14 Kvu)] (K2k r) []
theorem Kgx : ∀ p r,Kgv p = some r → Kgw p r := by
 rintro ⟨s0,ctx1,t2,Kvu⟩ r h
 unfold Kgv at h
 refine b0 Tryz.f62 B62 303 [(0,K2e s0),(1,sL ctx1),(2,K2g t2),(3,.sl (List.map K14 Kvu))] fun c hc => ?_
 refine rs hc none [some (.new 1),some (.new 2),some (.new 3)] [(1,sL ctx1),(3,.sl (List.map K14 Kvu)),(4,.ra 1 0),(6,.ra 2 0),(8,.ra 3 0)] [(1,K2d s0),(2,K2f t2),(3,.box [.nils,.nils,I 0,.nils])] tv ?_
 refine sN ?_
 refine K8d hc 2 [(1,sL ctx1),(3,.sl (List.map K14 Kvu)),(4,.ra 1 0),(6,.ra 2 0),(8,.ra 3 0),(16,I t2.fOp)] ?_
 refine bk 0 ?_
 refine sN ?_
 refine K8d hc 2 [(1,sL ctx1),(3,.sl (List.map K14 Kvu)),(4,.ra 1 0),(6,.ra 2 0),(8,.ra 3 0),(16,I t2.fOp),(17,.bool (t2.fOp == 0))] ?_
 obtain ⟨a0,a1,h⟩ := Qdd h
 refine Wp.into (x := .normal) (mkS [(1,sL ctx1),(3,.sl (List.map K14 Kvu)),(4,.ra 1 0),(6,.ra 2 0),(8,.ra 3 0),(17,.bool a0)] [(1,K2d s0),(2,K2f t2),(3,.box [.nils,.nils,I 0,.nils])]) ?_ ?_
 ·replace h := a1
  refine ic h (fun a2 h => ?_) fun a2 h => ?_
  ·refine sk ?_
   obtain rfl := os h
   exact iv []
  refine K8c hc 2 [(1,sL ctx1),(3,.sl (List.map K14 Kvu)),(4,.ra 1 0),(6,.ra 2 0),(8,.ra 3 0),(17,.bool (t2.fOp == 1))] ?_
  obtain rfl := os h
  exact Qcz.mk
 clear a1
 refine ic h (fun a3 h => ?_) fun a3 h => ?_
 ·obtain ⟨a4,a5,h⟩ := Qdd h
  refine rs hc none [oN,oN,oN,oc (K2k a4),oN] [(8,.ra 3 0)] [(3,K2j a4)] (cq (Kgl _ _ a5) K60 tv) ?_
  refine rt ?_
  obtain rfl := os h
  exact rq [false]
 refine sk ?_
 obtain ⟨a6,a7,h⟩ := Qdd h
 refine rs hc none [oN,some (.el (K2k a6)),oN,some (.new 4),oN] [(1,sL ctx1),(3,.sl (List.map K14 Kvu)),(4,.ra 1 0),(6,.ra 2 0),(8,.ra 3 0),(9,.ra 4 0)] [(1,K2d s0),(2,K2f t2),(3,.box [.nils,.nils,I 0,.nils]),(4,K2j a6)] (ai (Qdh a7 (K1x a6)) tv) ?_
 obtain ⟨a8,a9,h⟩ := Qdd h
 refine rs hc none [oN,oN,some (.eqv (.no) ⟨[(29,I (Kvu.length : Int))],[],[]⟩),oN,some (.el (K2k a8)),oN,some (.new 5),oN] [(1,sL ctx1),(3,.sl (List.map K14 Kvu)),(4,.ra 1 0),(6,.ra 2 0),(8,.ra 3 0),(9,.ra 4 0),(10,.ra 5 0)] [(1,K2d s0),(2,K2f t2),(3,.box [.nils,.nils,I 0,.nils]),(4,K2j a6),(5,K2j a8)] (ab (Qdj (d := 29) K14 Kvu) (Qdh a9 (K1x a8)) tv) ?_
 obtain ⟨b1,b2,h⟩ := Qdd h
 refine rs hc none [oN,some (.eqv (.no) ⟨[(34,I (ctx1.length : Int))],[],[]⟩),some (.call (oI b1) [] 6),oN] [(3,.sl (List.map K14 Kvu)),(4,.ra 1 0),(6,.ra 2 0),(8,.ra 3 0),(9,.ra 4 0),(10,.ra 5 0),(11,.rs 6)] [(1,K2d s0),(2,K2f t2),(3,.box [.nils,.nils,I 0,.nils]),(4,K2j a6),(5,K2j a8),(6,rI b1)] (ai (Qdj (d := 34) K07 ctx1) (cq (Kfe _ _ b2) K5r tv)) ?_
 refine sN ?_
 refine K8d hc 2 [(3,.sl (List.map K14 Kvu)),(4,.ra 1 0),(6,.ra 2 0),(8,.ra 3 0),(9,.ra 4 0),(10,.ra 5 0),(11,.rs 6),(37,I t2.fOp)] ?_
 refine bk 1 ?_
 refine K8d hc 2 [(3,.sl (List.map K14 Kvu)),(4,.ra 1 0),(6,.ra 2 0),(8,.ra 3 0),(9,.ra 4 0),(10,.ra 5 0),(11,.rs 6),(37,I t2.fOp),(38,.bool (t2.fOp == 2))] ?_
 refine ic h (fun b3 h => ?_) fun b3 h => ?_
 ·refine sN ?_
  refine sN ?_
  obtain ⟨b4,b5,h⟩ := Qdd h
  refine Wp.into (x := .normal) (mkS [(4,.ra 1 0),(8,.ra 3 0),(9,.ra 4 0),(10,.ra 5 0),(51,.bool b4)] [(1,K2d s0),(3,.box [.nils,.nils,I 0,.nils]),(4,K2j a6),(5,K2j a8)]) ?_ ?_
  ·replace h := b5
   obtain ⟨b6,b7,h⟩ := Qdd h
   rcases is h with ⟨b8,h⟩ | ⟨b8,h⟩
   ·refine rg hc none [oN,oN,some (.el (I b6)),oN,oN,oN,o_,o_,o_,o_,o_,oT] [(4,.ra 1 0),(8,.ra 3 0),(9,.ra 4 0),(10,.ra 5 0),(51,.bool true)] [(1,K2d s0),(3,.box [.nils,.nils,I 0,.nils]),(4,K2j a6),(5,K2j a8)] (ai (ix b7) (ar 5 (neF b8) (ai b8 tv))) ?_
    obtain rfl := os h
    exact Qcz.mk
   obtain ⟨b9,c0,h⟩ := Qdd h
   refine rg hc none [oN,oN,some (.el (I b6)),oN,oN,oN,oN,oN,some (.el (I b9)),oN,oN,oF] [(4,.ra 1 0),(8,.ra 3 0),(9,.ra 4 0),(10,.ra 5 0),(51,.bool (b9 != 0))] [(1,K2d s0),(3,.box [.nils,.nils,I 0,.nils]),(4,K2j a6),(5,K2j a8)] (ai (ix b7) (ar 3 b8 (ai (ix c0) (ar 3 b8 tv)))) ?_
   obtain rfl := os h
   exact Qcz.mk
  clear b5
  refine ic h (fun c1 h => ?_) fun c1 h => ?_
  ·obtain ⟨c2,c3,h⟩ := Qdd h
   refine rs hc none [some (.call (K2v c2) [] 7),oN] [(8,.ra 3 0)] [(3,.box [.rs 7,.rs 8,I c2.ffault,.rs 9]),(7,rI c2.fty),(8,rI c2.fneeds),(9,rI c2.fpath)] (cq (Kfh _ _ c3) K5t tv) ?_
   refine vz 7 (Qe5 c2.fty) [(8,.ra 3 0)] [(3,.box [sI c2.fty,.rs 8,I c2.ffault,.rs 9]),(8,rI c2.fneeds),(9,rI c2.fpath)] ?_
   refine vz 8 (Qe5 c2.fneeds) [(8,.ra 3 0)] [(3,.box [sI c2.fty,sI c2.fneeds,I c2.ffault,.rs 9]),(9,rI c2.fpath)] ?_
   refine vz 9 (Qe5 c2.fpath) [(8,.ra 3 0)] [(3,K2j c2)] ?_
   refine rt ?_
   obtain rfl := os h
   exact rq [false]
  refine sk ?_
  obtain ⟨c4,c5,h⟩ := Qdd h
  refine rs hc (rx [[0],[1],[0],[0],[0,3],[0],[0,5],[0,2,3,4,5,6],[8],[9]]) [oN,oN,oN,oN,oN,oN,oN,some (.call (oI c4) [] 10),oN,oN] [(8,.ra 3 0)] [(3,.box [sI a8.fty,.rs 10,I 0,.nils]),(10,rI c4)] (cq (Kfv _ _ c5) K5w tv) ?_
  refine vz 10 (Qe5 c4) [(8,.ra 3 0)] [(3,.box [sI a8.fty,sI c4,I 0,.nils])] ?_
  refine rt ?_
  obtain rfl := os h
  exact rq [false]
 refine K8d hc 2 [(3,.sl (List.map K14 Kvu)),(4,.ra 1 0),(6,.ra 2 0),(8,.ra 3 0),(9,.ra 4 0),(10,.ra 5 0),(11,.rs 6),(37,I t2.fOp),(62,.bool (t2.fOp == 3))] ?_
 refine ic h (fun c6 h => ?_) fun c6 h => ?_
 ·refine sN ?_
  refine sN ?_
  obtain ⟨c7,c8,h⟩ := Qdd h
  refine Wp.into (x := .normal) (mkS [(3,.sl (List.map K14 Kvu)),(4,.ra 1 0),(8,.ra 3 0),(9,.ra 4 0),(10,.ra 5 0),(78,.bool c7)] [(1,K2d s0),(3,.box [.nils,.nils,I 0,.nils]),(4,K2j a6),(5,K2j a8)]) ?_ ?_
  ·replace h := c8
   obtain ⟨c9,d0,h⟩ := Qdd h
   rcases is h with ⟨d1,h⟩ | ⟨d1,h⟩
   ·refine rg hc Kgp [oN,oN,some (.el (I c9)),oN,oN,oN,o_,o_,o_,o_,o_,o_,o_,o_,oT] [(3,.sl (List.map K14 Kvu)),(4,.ra 1 0),(8,.ra 3 0),(9,.ra 4 0),(10,.ra 5 0),(78,.bool true)] [(1,K2d s0),(3,.box [.nils,.nils,I 0,.nils]),(4,K2j a6),(5,K2j a8)] (ai (ix d0) (ar 8 (neF d1) (ai d1 tv))) ?_
    obtain rfl := os h
    exact Qcz.mk
   obtain ⟨d2,d3,d4,d5,h⟩ := bq2 h
   refine rg hc Kgp [oN,oN,some (.el (I c9)),oN,oN,oN,oN,some (.el (K2k d2)),oN,oN,oN,oN,oc (.bool d4),oN,oF] [(3,.sl (List.map K14 Kvu)),(4,.ra 1 0),(8,.ra 3 0),(9,.ra 4 0),(10,.ra 5 0),(78,.bool (!d4))] [(1,K2d s0),(3,.box [.nils,.nils,I 0,.nils]),(4,K2j a6),(5,K2j a8)] (ai (ix d0) (ar 2 d1 (ai (Qdh d3 (K1x d2)) (ar 5 d1 (cq (Kek _ _ d5) K5j (ar 2 d1 tv)))))) ?_
   obtain rfl := os h
   exact Qcz.mk
  clear c8
  refine ic h (fun d6 h => ?_) fun d6 h => ?_
  ·obtain ⟨d7,d8,h⟩ := Qdd h
   refine rs hc none [some (.call (K2v d7) [] 11),oN] [(8,.ra 3 0)] [(3,.box [.rs 11,.rs 12,I d7.ffault,.rs 13]),(11,rI d7.fty),(12,rI d7.fneeds),(13,rI d7.fpath)] (cq (Kfh _ _ d8) K5t tv) ?_
   refine vz 11 (Qe5 d7.fty) [(8,.ra 3 0)] [(3,.box [sI d7.fty,.rs 12,I d7.ffault,.rs 13]),(12,rI d7.fneeds),(13,rI d7.fpath)] ?_
   refine vz 12 (Qe5 d7.fneeds) [(8,.ra 3 0)] [(3,.box [sI d7.fty,sI d7.fneeds,I d7.ffault,.rs 13]),(13,rI d7.fpath)] ?_
   refine vz 13 (Qe5 d7.fpath) [(8,.ra 3 0)] [(3,K2j d7)] ?_
   refine rt ?_
   obtain rfl := os h
   exact rq [false]
  refine sk ?_
  obtain ⟨d9,e0,e1,e2,e3,e4,h⟩ := bq3 h
  refine rs hc (rx [[0],[1],[0],[0],[0,3],[0],[0],[0,6],[0,6,7],[0,6,7,8],[0],[0,10],[0,5,6,7,8,9,10,11],[0,2,3,4,5,6,7,8,9,10,11,12],[14],[15]]) [oN,oN,oN,oN,oN,oN,oN,some (.el (K2k d9)),oN,oN,oN,oN,some (.call (oI e1) [] 14),some (.call (oI e3) [] 15),oN,oN] [(8,.ra 3 0)] [(3,.box [sI a8.fty,.rs 15,I 0,.nils]),(15,rI e3)] (ai (Qdh e0 (K1x d9)) (cq (Kg5 _ _ e2) K62 (ac (Q71.args (A1 := [K2e s0,sI a6.fneeds,I 1,.sl (Q02 (List.map I e1))]) (A2 := [K2e s0,sI a6.fneeds,I 1,sI e1]) (by simp only [List.map_nil,Qe5]) (Kfv _ _ e4)) K5w (Or.inr (Qed Qe9 e3) : ([14] : List Nat) = [] ∨ noSh (oI e3) = true) tv))) ?_
  refine vz 15 (Qe5 e3) [(8,.ra 3 0)] [(3,.box [sI a8.fty,sI e3,I 0,.nils])] ?_
  refine rt ?_
  obtain rfl := os h
  exact rq [false]
 refine K8d hc 2 [(3,.sl (List.map K14 Kvu)),(4,.ra 1 0),(6,.ra 2 0),(8,.ra 3 0),(9,.ra 4 0),(10,.ra 5 0),(11,.rs 6),(37,I t2.fOp),(95,.bool (t2.fOp == 4))] ?_
 refine ic h (fun e5 h => ?_) fun e5 h => ?_
 ·obtain ⟨e6,e7,e8,e9,f0,f1,h⟩ := bq3 h
  refine rs hc (rx [[0],[1],[0],[0,2],[4],[5],[0],[0],[0,7],[0],[0,9],[11],[12],[13]]) [oN,oN,oN,oN,some (.mk 16 false),some (.call (oI e6) [] 17),oN,oN,oN,oN,oN,some (.call (oI e8) [] 18),some (.call (K2k f0) [.tup []] 1),oN] [(8,.ra 3 0)] [(3,K2j f0)] (ac (Q71.args (A1 := [I 1,.sl (Q02 (List.map K07 [a6.fty,a8.fty]))]) (A2 := [I 1,.sl (List.map K07 [a6.fty,a8.fty])]) (by simp only [List.map_nil,K0b]) (Kfo _ _ e7)) K5v (Or.inr (Qed Qe9 e6) : ([16] : List Nat) = [] ∨ noSh (oI e6) = true) (cq (Kfv _ _ e9) K5w (ab (Q71.args (A1 := [.sl (Q02 (List.map I e6)),.sl (Q02 (List.map I e8))]) (A2 := [sI e6,sI e8]) (by simp only [List.map_nil,Qe5]) (Kfy _ _ f1)) K5x tv))) ?_
  refine rt ?_
  obtain rfl := os h
  exact rq [false]
 refine K8d hc 2 [(3,.sl (List.map K14 Kvu)),(4,.ra 1 0),(6,.ra 2 0),(8,.ra 3 0),(9,.ra 4 0),(10,.ra 5 0),(11,.rs 6),(37,I t2.fOp),(110,.bool (t2.fOp == 6))] ?_
 refine ic h (fun f2 h => ?_) fun f2 h => ?_
 ·obtain ⟨f3,f4,f5,f6,h⟩ := bq2 h
  refine rs hc Kgq [oN,oN,oN,oN,some (.mk 19 false),some (.call (oI f3) [] 20),oN,oN,some (.call (K2k f5) [.tup []] 1),oN] [(8,.ra 3 0)] [(3,K2j f5)] (ad (Q71.args (A1 := [I 2,.sl (Q02 (List.map K07 [a6.fty,t2.fType]))]) (A2 := [I 2,.sl (List.map K07 [a6.fty,t2.fType])]) (by simp only [List.map_nil,K0b]) (Kfo _ _ f4)) K5v (Or.inr (Qed Qe9 f3) : ([19] : List Nat) = [] ∨ noSh (oI f3) = true) (Q71.args (A1 := [.sl (Q02 (List.map I f3)),sI a6.fneeds]) (A2 := [sI f3,sI a6.fneeds]) (by simp only [List.map_nil,Qe5]) (Kfy _ _ f6)) (ai K5x tv)) ?_
  refine rt ?_
  obtain rfl := os h
  exact rq [false]
 refine K8d hc 2 [(3,.sl (List.map K14 Kvu)),(4,.ra 1 0),(6,.ra 2 0),(8,.ra 3 0),(9,.ra 4 0),(10,.ra 5 0),(11,.rs 6),(37,I t2.fOp),(121,.bool (t2.fOp == 7))] ?_
 refine ic h (fun f7 h => ?_) fun f7 h => ?_
 ·obtain ⟨f8,f9,g0,g1,h⟩ := bq2 h
  refine rs hc Kgq [oN,oN,oN,oN,some (.mk 21 false),some (.call (oI f8) [] 22),oN,oN,some (.call (K2k g0) [.tup []] 1),oN] [(8,.ra 3 0)] [(3,K2j g0)] (ad (Q71.args (A1 := [I 2,.sl (Q02 (List.map K07 [t2.fType,a6.fty]))]) (A2 := [I 2,.sl (List.map K07 [t2.fType,a6.fty])]) (by simp only [List.map_nil,K0b]) (Kfo _ _ f9)) K5v (Or.inr (Qed Qe9 f8) : ([21] : List Nat) = [] ∨ noSh (oI f8) = true) (Q71.args (A1 := [.sl (Q02 (List.map I f8)),sI a6.fneeds]) (A2 := [sI f8,sI a6.fneeds]) (by simp only [List.map_nil,Qe5]) (Kfy _ _ g1)) (ai K5x tv)) ?_
  refine rt ?_
  obtain rfl := os h
  exact rq [false]
 refine K8d hc 2 [(3,.sl (List.map K14 Kvu)),(4,.ra 1 0),(6,.ra 2 0),(8,.ra 3 0),(9,.ra 4 0),(10,.ra 5 0),(11,.rs 6),(37,I t2.fOp),(132,.bool (t2.fOp == 9))] ?_
 refine ic h (fun g2 h => ?_) fun g2 h => ?_
 ·refine sN ?_
  obtain ⟨g3,g4,g5,g6,h⟩ := bq2 h
  refine rs hc (rx [[0],[0],[0,1],[0,1,2],[0,1,2,3],[0],[0,5],[7],[8]]) [oN,oN,oN,some (.el (I g3)),oN,oN,oN,oc (.bool g5),oN] [(6,.ra 2 0),(8,.ra 3 0),(9,.ra 4 0),(142,.bool (!g5))] [(2,K2f t2),(3,.box [.nils,.nils,I 0,.nils]),(4,K2j a6)] (ai (ix g4) (cq (Kb8 _ _ g6) K4e tv)) ?_
  rcases is h with ⟨g7,h⟩ | ⟨g7,h⟩
  ·refine cF (!g5) (nF g7) ?_
   refine sk ?_
   obtain ⟨g8,g9,i0,i1,i2,i3,h⟩ := bq3 h
   refine rs hc (rx [[0],[1],[2],[0],[0,3],[0],[0,5],[0,3,4,5,6],[8],[0],[0,9],[0,9,10],[12],[13]]) [oN,oN,oN,oN,oN,oN,oN,some (.mk 23 false),some (.call (oI g8) [] 24),oN,oN,some (.eqv (.no) ⟨[(155,sI i0)],[],[]⟩),some (.call (K2k i2) [.tup []] 1),oN] [(8,.ra 3 0)] [(3,K2j i2)] (ad (Q71.args (A1 := [I (wr (3 + t2.fN)),.sl (Q02 (List.map K07 [t2.fType,a6.fty]))]) (A2 := [I (wr (3 + t2.fN)),.sl (List.map K07 [t2.fType,a6.fty])]) (by simp only [List.map_nil,K0b]) (Kfo _ _ g9)) K5v (Or.inr (Qed Qe9 g8) : ([23] : List Nat) = [] ∨ noSh (oI g8) = true) (Qdm (d := 155) I i1) (ac (Qdl (enc := I) (sz := 1) Qdw i1) (Q71.args (A1 := [.sl (Q02 (List.map I g8)),sI i0]) (A2 := [sI g8,sI i0]) (by simp only [List.map_nil,Qe5]) (Kfy _ _ i3)) K5x tv)) ?_
   refine rt ?_
   obtain rfl := os h
   exact rq [false]
  refine cT (!g5) (nT g7) ?_
  obtain ⟨i4,i5,h⟩ := Qdd h
  refine rs hc none [some (.call (K2v i4) [] 25),oN] [(8,.ra 3 0)] [(3,.box [.rs 25,.rs 26,I i4.ffault,.rs 27]),(25,rI i4.fty),(26,rI i4.fneeds),(27,rI i4.fpath)] (cq (Kfh _ _ i5) K5t tv) ?_
  refine vz 25 (Qe5 i4.fty) [(8,.ra 3 0)] [(3,.box [sI i4.fty,.rs 26,I i4.ffault,.rs 27]),(26,rI i4.fneeds),(27,rI i4.fpath)] ?_
  refine vz 26 (Qe5 i4.fneeds) [(8,.ra 3 0)] [(3,.box [sI i4.fty,sI i4.fneeds,I i4.ffault,.rs 27]),(27,rI i4.fpath)] ?_
  refine vz 27 (Qe5 i4.fpath) [(8,.ra 3 0)] [(3,K2j i4)] ?_
  refine rt ?_
  obtain rfl := os h
  exact rq [false]
 refine K8d hc 2 [(3,.sl (List.map K14 Kvu)),(4,.ra 1 0),(6,.ra 2 0),(8,.ra 3 0),(9,.ra 4 0),(10,.ra 5 0),(11,.rs 6),(37,I t2.fOp),(157,.bool (t2.fOp == 11))] ?_
 refine ic h (fun i6 h => ?_) fun i6 h => ?_
 ·obtain ⟨i7,i8,i9,j0,j8,j9,h⟩ := bq3 h
  refine rs hc (rx [[0],[1],[2],[0],[0,3],[0,3,4],[6],[0],[0],[0],[0,9],[0],[0,11],[13],[14],[15]]) [oN,oN,oN,oN,oN,some (.mk 28 false),some (.call (oI i7) [] 29),oN,oN,oN,oN,oN,oN,some (.call (oI i9) [] 30),some (.call (K2k j8) [.tup []] 1),oN] [(8,.ra 3 0)] [(3,K2j j8)] (ad (Q71.args (A1 := [I (wr (19 + t2.fN)),.sl (Q02 (List.map K07 [a6.fty]))]) (A2 := [I (wr (19 + t2.fN)),.sl (List.map K07 [a6.fty])]) (by simp only [List.map_nil,K0b]) (Kfo _ _ i8)) K5v (Or.inr (Qed Qe9 i7) : ([28] : List Nat) = [] ∨ noSh (oI i7) = true) (Q71.args (A1 := [K2e s0,.sl (Q02 (List.map I b1)),I t2.fN,sI a6.fneeds]) (A2 := [K2e s0,sI b1,I t2.fN,sI a6.fneeds]) (by simp only [List.map_nil,Qe5]) (Kfv _ _ j0)) (ad K5w (Or.inr (Qed Qe9 i9) : ([6] : List Nat) = [] ∨ noSh (oI i9) = true) (Q71.args (A1 := [.sl (Q02 (List.map I i7)),.sl (Q02 (List.map I i9))]) (A2 := [sI i7,sI i9]) (by simp only [List.map_nil,Qe5]) (Kfy _ _ j9)) K5x tv)) ?_
  refine rt ?_
  obtain rfl := os h
  exact rq [false]
 refine K8d hc 2 [(3,.sl (List.map K14 Kvu)),(4,.ra 1 0),(6,.ra 2 0),(8,.ra 3 0),(9,.ra 4 0),(10,.ra 5 0),(11,.rs 6),(174,.bool (t2.fOp == 10))] ?_
 refine ic h (fun k0 h => ?_) fun k0 h => ?_
 ·refine sN ?_
  refine sN ?_
  obtain ⟨k1,k2,h⟩ := Qdd h
  refine Wp.into (x := .normal) (mkS [(4,.ra 1 0),(8,.ra 3 0),(9,.ra 4 0),(10,.ra 5 0),(190,.bool k1)] [(1,K2d s0),(3,.box [.nils,.nils,I 0,.nils]),(4,K2j a6),(5,K2j a8)]) ?_ ?_
  ·replace h := k2
   obtain ⟨k3,k4,k5,k6,h⟩ := bq2 h
   rcases is h with ⟨k7,h⟩ | ⟨k7,h⟩
   ·obtain ⟨k8,k9,l0,l1,h⟩ := bq2 h
    refine rg hc Kgr [oN,oN,some (.el (I k3)),oN,oc (.bool k5),oN,oN,oN,oN,oN,oN,some (.call (oI k8) [] 31),oc (.bool l0),oN,oF] [(4,.ra 1 0),(8,.ra 3 0),(9,.ra 4 0),(10,.ra 5 0),(190,.bool (!l0))] [(1,K2d s0),(3,.box [.nils,.nils,I 0,.nils]),(4,K2j a6),(5,K2j a8)] (ai (ix k4) (cq (Kcd _ _ k6) K4p (ar 5 (nF k7) (cq (Key _ _ k9) K5n (ad (nF k7) (Q71.args (A1 := [sI a8.fty,.sl (Q02 (List.map I k8))]) (A2 := [sI a8.fty,sI k8]) (by simp only [List.map_nil,Qe5]) (Kek _ _ l1)) K5j (Or.inr rfl : ([31] : List Nat) = [] ∨ noSh (.bool l0) = true) (ar 2 (nF k7) tv)))))) ?_
    obtain rfl := os h
    exact Qcz.mk
   refine rg hc Kgr [oN,oN,some (.el (I k3)),oN,oc (.bool k5),oN,oN,o_,o_,o_,o_,o_,o_,o_,oT] [(4,.ra 1 0),(8,.ra 3 0),(9,.ra 4 0),(10,.ra 5 0),(190,.bool true)] [(1,K2d s0),(3,.box [.nils,.nils,I 0,.nils]),(4,K2j a6),(5,K2j a8)] (ai (ix k4) (cq (Kcd _ _ k6) K4p (ar 7 (neF (nT k7)) (ai (nT k7) tv)))) ?_
   obtain rfl := os h
   exact Qcz.mk
  clear k2
  refine ic h (fun l2 h => ?_) fun l2 h => ?_
  ·obtain ⟨l3,l4,h⟩ := Qdd h
   refine rs hc none [some (.call (K2v l3) [] 32),oN] [(8,.ra 3 0)] [(3,.box [.rs 32,.rs 33,I l3.ffault,.rs 34]),(32,rI l3.fty),(33,rI l3.fneeds),(34,rI l3.fpath)] (cq (Kfh _ _ l4) K5t tv) ?_
   refine vz 32 (Qe5 l3.fty) [(8,.ra 3 0)] [(3,.box [sI l3.fty,.rs 33,I l3.ffault,.rs 34]),(33,rI l3.fneeds),(34,rI l3.fpath)] ?_
   refine vz 33 (Qe5 l3.fneeds) [(8,.ra 3 0)] [(3,.box [sI l3.fty,sI l3.fneeds,I l3.ffault,.rs 34]),(34,rI l3.fpath)] ?_
   refine vz 34 (Qe5 l3.fpath) [(8,.ra 3 0)] [(3,K2j l3)] ?_
   refine rt ?_
   obtain rfl := os h
   exact rq [false]
  refine sk ?_
  obtain ⟨l5,l6,l7,l8,l9,m0,m1,m2,h⟩ := bq4 h
  refine rs hc (rx [[0],[1],[2],[0],[0],[0,4],[0],[0,6],[0,6,7],[0,6,7,8],[3,6,7,8,9],[0],[0,11],[13],[14],[15]]) [oN,oN,some (.call (oI l5) [] 35),oN,oN,oN,oN,oN,some (.el (I l7)),oN,oc (I l9),oN,oN,some (.call (oI m1) [] 36),oN,oN] [(8,.ra 3 0)] [(3,.box [.rs 35,.rs 36,I 0,.nils]),(35,rI l5),(36,rI m1)] (cq (Key _ _ l6) K5n (ai (ix l8) (cq (Kcw _ _ m0) K4z (cq (Kfv _ _ m2) K5w tv)))) ?_
  refine vz 35 (Qe5 l5) [(8,.ra 3 0)] [(3,.box [sI l5,.rs 36,I 0,.nils]),(36,rI m1)] ?_
  refine vz 36 (Qe5 m1) [(8,.ra 3 0)] [(3,.box [sI l5,sI m1,I 0,.nils])] ?_
  refine rt ?_
  obtain rfl := os h
  exact rq [false]
 refine sk ?_
 refine K8d hc 3 [(3,.sl (List.map K14 Kvu)),(4,.ra 1 0),(6,.ra 2 0),(8,.ra 3 0),(9,.ra 4 0),(10,.ra 5 0),(11,.rs 6),(12,I t2.fN)] ?_
 refine sN ?_
 refine K8d hc 3 [(3,.sl (List.map K14 Kvu)),(4,.ra 1 0),(6,.ra 2 0),(8,.ra 3 0),(9,.ra 4 0),(10,.ra 5 0),(11,.rs 6),(12,I t2.fN),(211,.bool (t2.fOp == 12))] ?_
 obtain ⟨m3,m4,h⟩ := Qdd h
 refine Wp.into (x := .normal) (mkS [(3,.sl (List.map K14 Kvu)),(4,.ra 1 0),(6,.ra 2 0),(8,.ra 3 0),(9,.ra 4 0),(10,.ra 5 0),(11,.rs 6),(12,I m3)] [(1,K2d s0),(2,K2f t2),(3,.box [.nils,.nils,I 0,.nils]),(4,K2j a6),(5,K2j a8),(6,rI b1)]) ?_ ?_
 ·replace h := m4
  refine ic h (fun m5 h => ?_) fun m5 h => ?_
  ·obtain ⟨m6,m7,m8,m9,n0,n1,h⟩ := bq3 h
   refine rgs hc (rx [[0],[0],[0,1],[0],[0,3],[0,3,4],[0,3,4,5],[0,3,4,5,6],[8],[9]]) [oN,oN,oN,oN,oN,some (.el (I m6)),oN,oc (I m8),oc (I n0),oN] [(3,.sl (List.map K14 Kvu)),(4,.ra 1 0),(6,.ra 2 0),(8,.ra 3 0),(9,.ra 4 0),(10,.ra 5 0),(11,.rs 6),(12,I n0)] (ai (ix m7) (cq (Kcw _ _ m9) K4z (cq (Kb5 _ _ n1) K4d tv))) ?_
   obtain rfl := os h
   exact Qcz.mk
  refine sk ?_
  obtain rfl := os h
  exact iv []
 clear m4
 obtain ⟨n2,n3,h⟩ := Qdd h
 refine rss hc none [oN,oN,oc (I n2),oN] [(3,.sl (List.map K14 Kvu)),(4,.ra 1 0),(6,.ra 2 0),(8,.ra 3 0),(9,.ra 4 0),(10,.ra 5 0),(11,.rs 6),(12,I m3),(13,I n2)] (cq (Kdy _ _ n3) K5f tv) ?_
 obtain ⟨n4,n5,n6,n7,h⟩ := bq2 h
 refine rss hc none [oN,some (.el (K2k n4)),oN,oN,oN,some (.eqv (.no) ⟨[(229,sI n6)],[],[]⟩),oN] [(3,.sl (List.map K14 Kvu)),(4,.ra 1 0),(6,.ra 2 0),(8,.ra 3 0),(9,.ra 4 0),(10,.ra 5 0),(11,.rs 6),(12,I m3),(13,I n2),(14,sI n6)] (ac (Qdh n5 (K1x n4)) (Qdm (d := 229) I n7) (Qdl (enc := I) (sz := 1) Qdw n7) tv) ?_
 refine sN ?_
 refine K8d hc 3 [(3,.sl (List.map K14 Kvu)),(4,.ra 1 0),(6,.ra 2 0),(8,.ra 3 0),(9,.ra 4 0),(10,.ra 5 0),(11,.rs 6),(12,I m3),(13,I n2),(14,sI n6),(232,.bool (t2.fOp == 8))] ?_
 obtain ⟨fl,n8,h⟩ := Qdd h
 refine flw (Kgu c s0 t2 Kvu a6 a8 b1 m3 n2 fl) ?_ (fun hF => ?_)
 ·replace h := n8
  refine ic h (fun n9 h => ?_) fun n9 h => ?_
  ·refine sN ?_
   refine sN ?_
   obtain ⟨o0,o1,h⟩ := Qdd h
   refine Wp.into (x := .normal) (mkS [(3,.sl (List.map K14 Kvu)),(4,.ra 1 0),(6,.ra 2 0),(8,.ra 3 0),(9,.ra 4 0),(10,.ra 5 0),(11,.rs 6),(12,I m3),(13,I n2),(14,sI n6),(250,.bool o0)] [(1,K2d s0),(2,K2f t2),(3,.box [.nils,.nils,I 0,.nils]),(4,K2j a6),(5,K2j a8),(6,rI b1)]) ?_ ?_
   ·replace h := o1
    obtain ⟨o2,o3,o4,o5,h⟩ := bq2 h
    rcases is h with ⟨o6,h⟩ | ⟨o6,h⟩
    ·obtain ⟨o7,o8,o9,p0,h⟩ := bq2 h
     refine rgs hc Kgs [oN,some (.el (K2k o2)),oN,oN,oN,oN,oc (.bool o4),oN,oN,oN,oN,oN,some (.el (I o7)),oN,oN,oc (.bool o9),oN,oF] [(3,.sl (List.map K14 Kvu)),(4,.ra 1 0),(6,.ra 2 0),(8,.ra 3 0),(9,.ra 4 0),(10,.ra 5 0),(11,.rs 6),(12,I m3),(13,I n2),(14,sI n6),(250,.bool (!o9))] (ai (Qdh o3 (K1x o2)) (cq (Kek _ _ o5) K5j (ar 4 (nF o6) (ai (ix o8) (ar 3 (nF o6) (cq (Kb8 _ _ p0) K4e (ar 2 (nF o6) tv))))))) ?_
     obtain rfl := os h
     exact Qcz.mk
    refine rgs hc Kgs [oN,some (.el (K2k o2)),oN,oN,oN,oN,oc (.bool o4),oN,oN,o_,o_,o_,o_,o_,o_,o_,o_,oT] [(3,.sl (List.map K14 Kvu)),(4,.ra 1 0),(6,.ra 2 0),(8,.ra 3 0),(9,.ra 4 0),(10,.ra 5 0),(11,.rs 6),(12,I m3),(13,I n2),(14,sI n6),(250,.bool true)] (ai (Qdh o3 (K1x o2)) (cq (Kek _ _ o5) K5j (ar 8 (neF (nT o6)) (ai (nT o6) tv)))) ?_
    obtain rfl := os h
    exact Qcz.mk
   clear o1
   refine ic h (fun p1 h => ?_) fun p1 h => ?_
   ·obtain ⟨p2,p3,h⟩ := Qdd h
    refine rs hc none [some (.call (K2v p2) [] 37),oN] [(8,.ra 3 0)] [(3,.box [.rs 37,.rs 38,I p2.ffault,.rs 39]),(37,rI p2.fty),(38,rI p2.fneeds),(39,rI p2.fpath)] (cq (Kfh _ _ p3) K5t tv) ?_
    refine vz 37 (Qe5 p2.fty) [(8,.ra 3 0)] [(3,.box [sI p2.fty,.rs 38,I p2.ffault,.rs 39]),(38,rI p2.fneeds),(39,rI p2.fpath)] ?_
    refine vz 38 (Qe5 p2.fneeds) [(8,.ra 3 0)] [(3,.box [sI p2.fty,sI p2.fneeds,I p2.ffault,.rs 39]),(39,rI p2.fpath)] ?_
    refine vz 39 (Qe5 p2.fpath) [(8,.ra 3 0)] [(3,K2j p2)] ?_
    refine rt ?_
    obtain rfl := os h
    exact re [false]
   refine sk ?_
   obtain ⟨p4,p5,p6,p7,h⟩ := bq2 h
   refine rg hc (rx [[0],[0],[0],[0,2],[0,2,3],[5],[6]]) [oN,oN,oN,oN,some (.eqv (.no) ⟨[(256,sI p4)],[],[]⟩),some (.call (oI p6) [] 40),oN] [(3,.sl (List.map K14 Kvu)),(4,.ra 1 0),(6,.ra 2 0),(8,.ra 3 0),(9,.ra 4 0),(10,.ra 5 0),(11,.rs 6),(12,I m3),(13,I n2),(14,.rs 40)] [(1,K2d s0),(2,K2f t2),(3,.box [.nils,.nils,I 0,.nils]),(4,K2j a6),(5,K2j a8),(6,rI b1),(40,rI p6)] (ab (Qdm (d := 256) I p5) (Qdl (enc := I) (sz := 1) Qdw p5) (cq (Kg5 _ _ p7) K62 tv)) ?_
   obtain rfl := os h
   exact Qcz.view (fun a w hv => SRx.renL [] (SRx.frzC 40 (xs := List.map I p6) (xs' := List.map I p6) hv (by kernel_rfl) (Qe5 _)) (by kernel_rfl) (by kernel_rfl) (by kernel_rfl))
  refine sk ?_
  obtain rfl := os h
  exact iv []
 rcases fl with p8 | r
 ·refine Wp.into (x := .normal) (mkS [(3,.sl (List.map K14 Kvu)),(4,.ra 1 0),(6,.ra 2 0),(8,.ra 3 0),(9,.ra 4 0),(10,.ra 5 0),(11,.rs 6),(12,I m3),(13,I n2),(14,sI p8)] [(1,K2d s0),(2,K2f t2),(3,.box [.nils,.nils,I 0,.nils]),(4,K2j a6),(5,K2j a8),(6,rI b1)]) hF ?_
  refine sN ?_
  refine sN ?_
  obtain ⟨p9,q0,h⟩ := Qdd h
  refine Wp.into (x := .normal) (mkS [(4,.ra 1 0),(6,.ra 2 0),(8,.ra 3 0),(9,.ra 4 0),(10,.ra 5 0),(11,.rs 6),(14,sI p8),(288,.bool p9)] [(1,K2d s0),(2,K2f t2),(3,.box [.nils,.nils,I 0,.nils]),(4,K2j a6),(5,K2j a8),(6,rI b1)]) ?_ ?_
  ·replace h := q0
   obtain ⟨q1,q2,h⟩ := Qdd h
   rcases is h with ⟨q3,h⟩ | ⟨q3,h⟩
   ·obtain ⟨q4,q5,q6,q7,q8,q9,h⟩ := bq3 h
    rcases is h with ⟨r0,h⟩ | ⟨r0,h⟩
    ·obtain ⟨r1,r2,r3,r4,r5,r6,h⟩ := bq3 h
     refine rgs hc Kgt [oN,oN,oN,oc (.bool q1),oN,oN,oN,oN,some (.el (K2k q4)),oN,oN,some (.el (I q6)),oN,oN,oc (.bool q8),oN,oF,oN,oN,oN,some (.el (K2k r1)),oN,oN,oN,oN,some (.el (I r3)),oN,oN,oc (.bool r5),oN,oF] [(4,.ra 1 0),(6,.ra 2 0),(8,.ra 3 0),(9,.ra 4 0),(10,.ra 5 0),(11,.rs 6),(14,sI p8),(288,.bool (!r5))] (cq (Kb8 _ _ q2) K4e (ar 3 (nF q3) (ai (Qdh q5 (K1x q4)) (ar 3 (nF q3) (ai (ix q7) (ar 3 (nF q3) (cq (Kb8 _ _ q9) K4e (ar 2 (nF q3) (ar 3 (nF r0) (ai (Qdh r2 (K1x r1)) (ar 5 (nF r0) (ai (ix r4) (ar 3 (nF r0) (cq (Kb8 _ _ r6) K4e (ar 2 (nF r0) tv))))))))))))))) ?_
     obtain rfl := os h
     exact Qcz.mk
    refine rgs hc Kgt [oN,oN,oN,oc (.bool q1),oN,oN,oN,oN,some (.el (K2k q4)),oN,oN,some (.el (I q6)),oN,oN,oc (.bool q8),oN,oF,oN,o_,o_,o_,o_,o_,o_,o_,o_,o_,o_,o_,o_,oT] [(4,.ra 1 0),(6,.ra 2 0),(8,.ra 3 0),(9,.ra 4 0),(10,.ra 5 0),(11,.rs 6),(14,sI p8),(288,.bool true)] (cq (Kb8 _ _ q2) K4e (ar 3 (nF q3) (ai (Qdh q5 (K1x q4)) (ar 3 (nF q3) (ai (ix q7) (ar 3 (nF q3) (cq (Kb8 _ _ q9) K4e (ar 2 (nF q3) (ar 12 (neF (nT r0)) (ai (nT r0) tv)))))))))) ?_
    obtain rfl := os h
    exact Qcz.mk
   refine rgs hc Kgt [oN,oN,oN,oc (.bool q1),oN,oN,o_,o_,o_,o_,o_,o_,o_,o_,o_,o_,oT,oN,o_,o_,o_,o_,o_,o_,o_,o_,o_,o_,o_,o_,oT] [(4,.ra 1 0),(6,.ra 2 0),(8,.ra 3 0),(9,.ra 4 0),(10,.ra 5 0),(11,.rs 6),(14,sI p8),(288,.bool true)] (cq (Kb8 _ _ q2) K4e (ar 10 (neF (nT q3)) (ai (nT q3) (ar 12 nf (ai tt tv))))) ?_
   obtain rfl := os h
   exact Qcz.mk
  clear q0
  refine ic h (fun r7 h => ?_) fun r7 h => ?_
  ·obtain ⟨r8,r9,h⟩ := Qdd h
   refine rs hc none [some (.call (K2v r8) [] 41),oN] [(8,.ra 3 0)] [(3,.box [.rs 41,.rs 42,I r8.ffault,.rs 43]),(41,rI r8.fty),(42,rI r8.fneeds),(43,rI r8.fpath)] (cq (Kfh _ _ r9) K5t tv) ?_
   refine vz 41 (Qe5 r8.fty) [(8,.ra 3 0)] [(3,.box [sI r8.fty,.rs 42,I r8.ffault,.rs 43]),(42,rI r8.fneeds),(43,rI r8.fpath)] ?_
   refine vz 42 (Qe5 r8.fneeds) [(8,.ra 3 0)] [(3,.box [sI r8.fty,sI r8.fneeds,I r8.ffault,.rs 43]),(43,rI r8.fpath)] ?_
   refine vz 43 (Qe5 r8.fpath) [(8,.ra 3 0)] [(3,K2j r8)] ?_
   refine rt ?_
   obtain rfl := os h
   exact rq [false]
  refine sk ?_
  obtain ⟨s1,s2,s3,s4,h⟩ := bq2 h
  refine rs hc (rx [[0],[1],[0],[0],[0],[0],[0,5],[0],[0,7],[0,3,4,5,6,7,8],[0],[0,2,3,4,5,6,7,8,9,10],[12],[13]]) [oN,oN,oN,oN,oN,oN,oN,oN,oN,some (.call (oI s1) [] 44),oN,some (.call (oI s3) [] 45),oN,oN] [(8,.ra 3 0)] [(3,.box [sI a8.fty,.rs 45,I 0,.nils]),(45,rI s3)] (ad (Q71.args (A1 := [K2e s0,.sl (Q02 (List.map I b1)),I t2.fN,sI a6.fneeds]) (A2 := [K2e s0,sI b1,I t2.fN,sI a6.fneeds]) (by simp only [List.map_nil,Qe5]) (Kfv _ _ s2)) K5w (Or.inr (Qed Qe9 s1) : ([6] : List Nat) = [] ∨ noSh (oI s1) = true) (Q71.args (A1 := [K2e s0,.sl (Q02 (List.map I s1)),I 1,sI p8]) (A2 := [K2e s0,sI s1,I 1,sI p8]) (by simp only [List.map_nil,Qe5]) (Kfv _ _ s4)) (ab K5w (Or.inr (Qed Qe9 s3) : ([44] : List Nat) = [] ∨ noSh (oI s3) = true) tv)) ?_
  refine vz 45 (Qe5 s3) [(8,.ra 3 0)] [(3,.box [sI a8.fty,sI s3,I 0,.nils])] ?_
  refine rt ?_
  obtain rfl := os h
  exact rq [false]
 refine Wp.mono hF ?_
 rintro _ _ ⟨rfl,hfin⟩
 obtain rfl := os h
 exact ⟨.inl rfl,hfin⟩
def Kgy (c : Ctx) : (Unit) ⊕ (Bool) → Exit → Q0a → Prop
 | .inl _ => Qcz c (.exit 0) (mkS [] [])
 | .inr r => Qd8 TIx Tryz.f64 [] (.bool r)
end Go.Am
