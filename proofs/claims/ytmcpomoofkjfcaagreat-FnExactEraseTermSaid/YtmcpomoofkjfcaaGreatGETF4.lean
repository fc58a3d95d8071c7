/- Functions of the program as pure functions,and that it computes them. Printed by a program of mine (gen.py). -/
import Derived.Test.YtmcpomoofkjfcaaGreatGETF2
set_option linter.unusedVariables false
set_option linter.unusedSimpArgs false
set_option maxRecDepth 100000
namespace Go.Am
open Go Go.Proofs
def Kfp : Option (List (List Nat)) := rx [[0],[1],[0],[0,2],[4],[5],[0],[0,6],[8],[9]]
def Kfq : Option (List (List Nat)) := rx [[0],[0],[0,1],[0,1,2],[0,1,2,3],[0],[6],[7]]
def Kfr : Option (List (List Nat)) := rx [[0],[1],[2],[3],[3],[3,4],[3,4,5],[3,4,5,6],[3],[9],[10],[11]]
mutual
def Kfs (p : K00 × LL × K01) : Option (K02) :=
 match p with
 | (s0,ctx1,t2) =>
  if (t2.fOp == 0) = true then
  (Kec (ctx1.length : Int)) >>= fun a0 =>
  (idx a0 t2.fN) >>= fun a1 =>
  (idx ctx1 t2.fN) >>= fun a2 =>
  (Kef a2) >>= fun a3 =>
  some (K02.mk a3 (List.set a0 (Int.toNat t2.fN) 1) 0 [])
  else
  if (t2.fOp == 1) = true then
  (Kec (ctx1.length : Int)) >>= fun a4 =>
  some (K02.mk [0] a4 0 [])
  else
  ((
  if (t2.fOp == 9) = true then
  (Kei (ctx1,[t2.fType])) >>= fun a5 =>
  some (a5)
  else
  some (ctx1)
  ) : Option (LL)) >>= fun a6 =>
  (Kfu (s0,a6,t2,0)) >>= fun a7 =>
  if (a7.ffault != 0) = true then
  some a7
  else
  ((
  if (t2.fOp == 2) = true then
  some ((t2.fOp == 2))
  else
  some ((t2.fOp == 3))
  ) : Option (Bool)) >>= fun a8 =>
  if a8 = true then
  (idx a7.fty 0) >>= fun a9 =>
  if (a9 != 0) = true then
  (Kel 2) >>= fun b1 =>
  some b1
  else
  (Kfv (s0,ctx1,t2,a7)) >>= fun b2 =>
  some b2
  else
  if (t2.fOp == 4) = true then
  (Kfu (s0,ctx1,t2,1)) >>= fun b3 =>
  if (b3.ffault != 0) = true then
  some b3
  else
  (Kes (1,[a7.fty,b3.fty])) >>= fun b4 =>
  (Kez (s0,a7.fneeds,1,b3.fneeds)) >>= fun b5 =>
  (Kf2 (b4,b5)) >>= fun b6 =>
  some b6
  else
  if (t2.fOp == 6) = true then
  (Kes (2,[a7.fty,t2.fType])) >>= fun b7 =>
  (Kf2 (b7,a7.fneeds)) >>= fun b8 =>
  some b8
  else
  if (t2.fOp == 7) = true then
  (Kes (2,[t2.fType,a7.fty])) >>= fun b9 =>
  (Kf2 (b9,a7.fneeds)) >>= fun c0 =>
  some c0
  else
  if (t2.fOp == 9) = true then
  (idx a7.fneeds 0) >>= fun c1 =>
  (Kb0 (s0,c1,t2.fN)) >>= fun c2 =>
  if c2 = true then
  (Kes ((wr (3 + t2.fN)),[t2.fType,a7.fty])) >>= fun c3 =>
  (cut a7.fneeds (some 1) none none) >>= fun c4 =>
  (Kef c4) >>= fun c5 =>
  (Kf2 (c3,c5)) >>= fun c6 =>
  some c6
  else
  (Kel 9) >>= fun c7 =>
  some c7
  else
  if (t2.fOp == 11) = true then
  (Kes ((wr (19 + t2.fN)),[a7.fty])) >>= fun c8 =>
  (Kec (ctx1.length : Int)) >>= fun c9 =>
  (Kez (s0,c9,t2.fN,a7.fneeds)) >>= fun d0 =>
  (Kf2 (c8,d0)) >>= fun d1 =>
  some d1
  else
  if (t2.fOp == 10) = true then
  (idx a7.fty 0) >>= fun d2 =>
  (Kc7 d2) >>= fun d3 =>
  if d3 = true then
  (Kfu (s0,ctx1,t2,1)) >>= fun d4 =>
  if (d4.ffault != 0) = true then
  some d4
  else
  (Kf5 (a7.fty,0)) >>= fun d5 =>
  (Kfc (d4.fty,d5)) >>= fun d6 =>
  if d6 = true then
  (Kf5 (a7.fty,1)) >>= fun d7 =>
  (idx a7.fty 0) >>= fun d8 =>
  (Kcq d8) >>= fun d9 =>
  (Kez (s0,a7.fneeds,d9,d4.fneeds)) >>= fun e0 =>
  some (K02.mk d7 e0 0 [])
  else
  (Kel 3) >>= fun e1 =>
  some e1
  else
  (Kel 6) >>= fun e2 =>
  some e2
  else
  (Kft (s0,ctx1,t2,a7)) >>= fun e3 =>
  some e3
 partial_fixpoint
def Kft (p : K00 × LL × K01 × K02) : Option (K02) :=
 match p with
 | (s0,ctx1,t2,a3) =>
  (idx a3.fty 0) >>= fun a0 =>
  ((
  if (t2.fOp == 5) = true then
  some ((a0 != 1))
  else
  some (false)
  ) : Option (Bool)) >>= fun a1 =>
  if a1 = true then
  (Kel 4) >>= fun a2 =>
  some a2
  else
  ((
  if (t2.fOp == 8) = true then
  some ((a0 != 2))
  else
  some (false)
  ) : Option (Bool)) >>= fun a4 =>
  if a4 = true then
  (Kel 5) >>= fun a5 =>
  some a5
  else
  ((
  if (t2.fOp == 12) = true then
  (Kca a0) >>= fun a6 =>
  some ((!a6))
  else
  some (false)
  ) : Option (Bool)) >>= fun a7 =>
  if a7 = true then
  (Kel 7) >>= fun a8 =>
  some a8
  else
  (Kb0 (s0,1,t2.fN)) >>= fun a9 =>
  if a9 = true then
  (Kf5 (a3.fty,0)) >>= fun b1 =>
  ((
  if (t2.fOp == 5) = true then
   (Kf5 (a3.fty,1)) >>= fun b2 =>
   (Kf5 (a3.fty,0)) >>= fun b3 =>
   some ([b2,b3])
  else
   some ([b1])
  ) : Option (LL)) >>= fun b4 =>
  (Kei (ctx1,b4)) >>= fun b5 =>
  (Kfu (s0,b5,t2,1)) >>= fun b6 =>
  if (b6.ffault != 0) = true then
  some b6
  else
  (cut b6.fneeds (some (b4.length : Int)) none none) >>= fun b7 =>
  (Kef b7) >>= fun b8 =>
  ((
   if (t2.fOp == 12) = true then
   (Kcq a0) >>= fun b9 =>
   (Kax (s0,t2.fN,b9)) >>= fun c0 =>
   some (.inl (c0,b8,true))
   else
   ((
    if (t2.fOp == 5) = true then
    (idx b6.fneeds 1) >>= fun c1 =>
    (Kb0 (s0,c1,t2.fN)) >>= fun c2 =>
    some (.inl (b8,c2))
    else
    ((
     if (t2.fOp == 8) = true then
     (Kf5 (a3.fty,1)) >>= fun c3 =>
     (Kei (ctx1,[c3])) >>= fun c4 =>
     (Kfu (s0,c4,t2,2)) >>= fun c5 =>
     if (c5.ffault != 0) = true then
     some (.inr c5)
     else
     (Kfc (b6.fty,c5.fty)) >>= fun c6 =>
     if c6 = true then
     (idx c5.fneeds 0) >>= fun c7 =>
     (Kb0 (s0,c7,t2.fN)) >>= fun c8 =>
     (cut c5.fneeds (some 1) none none) >>= fun c9 =>
     (Kfj (s0,b8,c9)) >>= fun d0 =>
     some (.inl (d0,c8))
     else
     (Kel 3) >>= fun d1 =>
     some (.inr d1)
     else
     some (.inl (b8,true))) : Option (((List Int) × Bool) ⊕ (K02))) >>= fun fl => match fl with
    | .inl (d2,d3) =>
     some (.inl (d2,d3))
    | .inr r =>
     some (.inr r)) : Option (((List Int) × Bool) ⊕ (K02))) >>= fun fl => match fl with
   | .inl (d4,d5) =>
    some (.inl (t2.fN,d4,d5))
   | .inr r =>
    some (.inr r)) : Option ((Int × (List Int) × Bool) ⊕ (K02))) >>= fun fl => match fl with
  | .inl (d6,d7,d8) =>
   ((
   if d8 = true then
    (idx b6.fneeds 0) >>= fun d9 =>
    (Kb0 (s0,d9,d6)) >>= fun e0 =>
    some ((!e0))
   else
    some (true)
   ) : Option (Bool)) >>= fun e1 =>
   if e1 = true then
   (Kel 9) >>= fun e2 =>
   some e2
   else
   (Kec (ctx1.length : Int)) >>= fun e3 =>
   (Kez (s0,e3,t2.fN,a3.fneeds)) >>= fun e4 =>
   (Kez (s0,e4,1,d7)) >>= fun e5 =>
   some (K02.mk b6.fty e5 0 [])
  | .inr r =>
   some r
  else
  (Kel 8) >>= fun e6 =>
  some e6
 partial_fixpoint
def Kfu (p : K00 × LL × K01 × Int) : Option (K02) :=
 match p with
 | (s0,ctx1,t2,k3) =>
  (idx t2.fKids k3) >>= fun a0 =>
  (Kfs (s0,ctx1,a0)) >>= fun a1 =>
  ((
  if (a1.ffault != 0) = true then
  (Qd6 ([k3].length + a1.fpath.length) 8) >>= fun _ =>
  some (([k3] ++ a1.fpath))
  else
  some (a1.fpath)
  ) : Option ((List Int))) >>= fun a2 =>
  some (K02.mk a1.fty a1.fneeds a1.ffault a2)
 partial_fixpoint
def Kfv (p : K00 × LL × K01 × K02) : Option (K02) :=
 match p with
 | (s0,ctx1,t2,a3) =>
  (Kfu (s0,ctx1,t2,1)) >>= fun a0 =>
  if (a0.ffault != 0) = true then
  some a0
  else
  if (t2.fOp == 2) = true then
  (idx a0.fty 0) >>= fun a1 =>
  if (a1 != 0) = true then
  (Kel 2) >>= fun a2 =>
  some a2
  else
  (Kez (s0,a3.fneeds,1,a0.fneeds)) >>= fun a4 =>
  some (K02.mk a0.fty a4 0 [])
  else
  (Kfu (s0,ctx1,t2,2)) >>= fun a5 =>
  if (a5.ffault != 0) = true then
  some a5
  else
  (Kfc (a0.fty,a5.fty)) >>= fun a6 =>
  if a6 = true then
  (Kfj (s0,a0.fneeds,a5.fneeds)) >>= fun a7 =>
  (Kez (s0,a3.fneeds,1,a7)) >>= fun a8 =>
  some (K02.mk a0.fty a8 0 [])
  else
  (Kel 3) >>= fun a9 =>
  some a9
 partial_fixpoint
end
def Kfw (p : K00 × LL × K01) (r : K02) : Prop :=
 match p with
 | (s0,ctx1,t2) => Q71 Tryz.prog 73 [K1t s0,sL ctx1,K1v t2] (K1x r) []
def Kfx (p : K00 × LL × K01 × K02) (r : K02) : Prop :=
 match p with
 | (s0,ctx1,t2,a3) => Q71 Tryz.prog 153 [K1t s0,sL ctx1,K1v t2,K1x a3] (K1x r) []
def Kfy (p : K00 × LL × K01 × Int) (r : K02) : Prop :=
 match p with
 | (s0,ctx1,t2,k3) => Q71 Tryz.prog 143 [K1t s0,sL ctx1,K1v t2,I k3] (K1x r) []
def Kfz (p : K00 × LL × K01 × K02) (r : K02) : Prop :=
 match p with
 | (s0,ctx1,t2,a3) => Q71 Tryz.prog 145 [K1t s0,sL ctx1,K1v t2,K1x a3] (K1x r) []
theorem Kg0 : (∀ p r,Kfs p = some r → Kfw p r) ∧ (∀ p r,Kft p = some r → Kfx p r) ∧ (∀ p r,Kfu p = some r → Kfy p r) ∧ (∀ p r,Kfv p = some r → Kfz p r) := by
 refine Kfs.mutual_partial_correctness Kfw Kfx Kfy Kfz ?_ ?_ ?_ ?_
 ·rintro spec_l3Taken_f spec_l3Of_f spec_l3Numbers_f spec_l3Taken_ih spec_l3Of_ih spec_l3Numbers_ih ⟨s0,ctx1,t2⟩ r h
  refine b0 Tryz.f73 B73 206 [(0,K1t s0),(1,sL ctx1),(2,K1v t2)] fun c hc => ?_
  refine rs hc none [some (.new 1),some (.new 2),some (.new 3)] [(1,sL ctx1),(3,.ra 1 0),(5,.ra 2 0),(6,.ra 3 0)] [(1,K1s s0),(2,K1u t2),(3,.box [.nils,.nils,I 0,.nils])] tv ?_
  refine sN ?_
  refine K8s hc 2 [(1,sL ctx1),(3,.ra 1 0),(5,.ra 2 0),(6,.ra 3 0),(13,I t2.fOp)] ?_
  refine bk 0 ?_
  refine K8s hc 2 [(1,sL ctx1),(3,.ra 1 0),(5,.ra 2 0),(6,.ra 3 0),(13,I t2.fOp),(14,.bool (t2.fOp == 0))] ?_
  refine ic h (fun a0 h => ?_) fun a0 h => ?_
  ·obtain ⟨a1,a2,h⟩ := Qct h
   refine rs hc none [oN,some (.eqv (.no) ⟨[(17,I (ctx1.length : Int))],[],[]⟩),some (.call (oI a1) [] 4),oN] [(1,sL ctx1),(5,.ra 2 0),(6,.ra 3 0),(7,.rs 4)] [(2,K1u t2),(3,.box [.nils,.nils,I 0,.nils]),(4,rI a1)] (ai (Qcz (d := 17) K10 ctx1) (cq (Kee _ _ a2) K4r tv)) ?_
   obtain ⟨a4,a5,h⟩ := Qct h
   refine rs hc none [oN,oN,oN,oN,some (.eqv (.mk 0 true) ⟨[],[(4,some (.arr (List.map I (List.set a1 (Int.toNat t2.fN) 1))))],[]⟩)] [(1,sL ctx1),(5,.ra 2 0),(6,.ra 3 0),(7,.rs 4)] [(2,K1u t2),(3,.box [.nils,.nils,I 0,.nils]),(4,.arr (List.map I (List.set a1 (Int.toNat t2.fN) 1)))] (ac (Qcy (enc := I) a5) (congrArg (fun z => (⟨[],[(4,some (.arr z))],[]⟩ : Wr)) (Qdw (enc := I) (i := Int.toNat t2.fN) (l := a1) (v := 1) (x := I 1) (Qd8 1))) (Qdx (enc := I) (sz := 1) Qdc a5) tv) ?_
   obtain ⟨a6,a7,a8,a9,h⟩ := bq2 h
   refine rs hc none [oN,oN,oN,some (.el (sI a6)),oN,some (.call (oI a8) [] 5),oN,oN,oN] [(6,.ra 3 0)] [(3,.box [.rs 5,.rs 4,I 0,.nils]),(4,.arr (List.map I (List.set a1 (Int.toNat t2.fN) 1))),(5,rI a8)] (ai (xL a7) (cq (Keh _ _ a9) K4s tv)) ?_
   refine vz 5 (Qdl a8) [(6,.ra 3 0)] [(3,.box [sI a8,.rs 4,I 0,.nils]),(4,.arr (List.map I (List.set a1 (Int.toNat t2.fN) 1)))] ?_
   refine vz 4 (Qdl (List.set a1 (Int.toNat t2.fN) 1)) [(6,.ra 3 0)] [(3,.box [sI a8,.sl (List.map I (List.set a1 (Int.toNat t2.fN) 1)),I 0,.nils])] ?_
   refine rt ?_
   obtain rfl := os h
   exact rq [false]
  refine K8s hc 2 [(1,sL ctx1),(3,.ra 1 0),(5,.ra 2 0),(6,.ra 3 0),(31,.bool (t2.fOp == 1))] ?_
  refine ic h (fun b1 h => ?_) fun b1 h => ?_
  ·obtain ⟨b2,b3,h⟩ := Qct h
   refine rs hc none [some (.mk 6 true),oN,some (.eqv (.no) ⟨[(35,I (ctx1.length : Int))],[],[]⟩),some (.call (oI b2) [] 7),oN,oN] [(6,.ra 3 0)] [(3,.box [.rs 6,.rs 7,I 0,.nils]),(6,.arr (List.map I [0])),(7,rI b2)] (ai (Qcz (d := 35) K10 ctx1) (cq (Kee _ _ b3) K4r tv)) ?_
   refine vz 6 (Qdl [0]) [(6,.ra 3 0)] [(3,.box [.sl (List.map I [0]),.rs 7,I 0,.nils]),(7,rI b2)] ?_
   refine vz 7 (Qdl b2) [(6,.ra 3 0)] [(3,.box [.sl (List.map I [0]),sI b2,I 0,.nils])] ?_
   refine rt ?_
   obtain rfl := os h
   exact rq [false]
  refine sk ?_
  refine K8s hc 2 [(1,sL ctx1),(3,.ra 1 0),(5,.ra 2 0),(6,.ra 3 0),(8,sL ctx1)] ?_
  refine sN ?_
  refine K8s hc 3 [(1,sL ctx1),(3,.ra 1 0),(5,.ra 2 0),(6,.ra 3 0),(8,sL ctx1),(41,.bool (t2.fOp == 9))] ?_
  obtain ⟨b4,b5,h⟩ := Qct h
  refine Wp.into (x := .normal) (mkS [(1,sL ctx1),(3,.ra 1 0),(5,.ra 2 0),(6,.ra 3 0),(8,sL b4)] [(1,K1s s0),(2,K1u t2),(3,.box [.nils,.nils,I 0,.nils])]) ?_ ?_
  ·replace h := b5
   refine ic h (fun b6 h => ?_) fun b6 h => ?_
   ·obtain ⟨b7,b8,h⟩ := Qct h
    refine rg hc none [oN,oN,oN,some (.mk 8 false),some (.call (.osl (List.map K10 b7)) [.tup []] 9),oN] [(1,sL ctx1),(3,.ra 1 0),(5,.ra 2 0),(6,.ra 3 0),(8,.rs 9)] [(1,K1s s0),(2,K1u t2),(3,.box [.nils,.nils,I 0,.nils]),(9,.arr (List.map K10 b7))] (ab (Q71.args (A1 := [sL ctx1,.sl (Q02 (List.map K10 [t2.fType]))]) (A2 := [sL ctx1,.sl (List.map K10 [t2.fType])]) (by simp only [List.map_nil,K14]) (Kek _ _ b8)) K4u tv) ?_
    obtain rfl := os h
    exact Qcf.view (fun a w hv => SRx.renL [] (SRx.frzC 9 (xs := List.map K10 b7) (xs' := List.map K10 b7) hv (by kernel_rfl) (K14 _)) (by kernel_rfl) (by kernel_rfl) (by kernel_rfl))
   refine sk ?_
   obtain rfl := os h
   exact iv []
  clear b5
  obtain ⟨b9,c0,h⟩ := Qct h
  refine rs hc none [oN,oN,oN,oc (K1x b9),some (.new 10),oN] [(1,sL ctx1),(3,.ra 1 0),(5,.ra 2 0),(6,.ra 3 0),(9,.ra 10 0)] [(1,K1s s0),(2,K1u t2),(3,.box [.nils,.nils,I 0,.nils]),(10,K1w b9)] (cq (spec_l3Of_ih _ _ c0) K4w tv) ?_
  refine sN ?_
  refine K8s hc 3 [(1,sL ctx1),(3,.ra 1 0),(5,.ra 2 0),(6,.ra 3 0),(9,.ra 10 0),(53,.bool (b9.ffault != 0))] ?_
  refine ic h (fun c1 h => ?_) fun c1 h => ?_
  ·refine rs0 hc 2 [(6,.ra 3 0)] [(3,K1w b9)] ?_
   refine rt ?_
   obtain rfl := os h
   exact rq [false]
  refine sk ?_
  refine sN ?_
  refine K8s hc 2 [(1,sL ctx1),(3,.ra 1 0),(5,.ra 2 0),(6,.ra 3 0),(9,.ra 10 0),(56,I t2.fOp)] ?_
  refine bk 1 ?_
  refine sN ?_
  refine K8s hc 2 [(1,sL ctx1),(3,.ra 1 0),(5,.ra 2 0),(6,.ra 3 0),(9,.ra 10 0),(56,I t2.fOp),(57,.bool (t2.fOp == 2))] ?_
  obtain ⟨c2,c3,h⟩ := Qct h
  refine Wp.into (x := .normal) (mkS [(1,sL ctx1),(3,.ra 1 0),(5,.ra 2 0),(6,.ra 3 0),(9,.ra 10 0),(56,I t2.fOp),(57,.bool c2)] [(1,K1s s0),(2,K1u t2),(3,.box [.nils,.nils,I 0,.nils]),(10,K1w b9)]) ?_ ?_
  ·replace h := c3
   refine ic h (fun c4 h => ?_) fun c4 h => ?_
   ·refine sk ?_
    obtain rfl := os h
    exact Qcf.mk
   refine K8r hc 2 [(1,sL ctx1),(3,.ra 1 0),(5,.ra 2 0),(6,.ra 3 0),(9,.ra 10 0),(56,I t2.fOp),(57,.bool (t2.fOp == 3))] ?_
   obtain rfl := os h
   exact Qcf.mk
  clear c3
  refine ic h (fun c5 h => ?_) fun c5 h => ?_
  ·refine sN ?_
   obtain ⟨c6,c7,h⟩ := Qct h
   refine rss hc none [oN,oN,some (.el (I c6)),oN,oN] [(1,sL ctx1),(3,.ra 1 0),(5,.ra 2 0),(6,.ra 3 0),(9,.ra 10 0),(64,.bool (c6 != 0))] (ai (ix c7) tv) ?_
   refine ic h (fun c8 h => ?_) fun c8 h => ?_
   ·obtain ⟨c9,d0,h⟩ := Qct h
    refine rs hc none [some (.call (K26 c9) [] 11),oN] [(6,.ra 3 0)] [(3,.box [.rs 11,.rs 12,I c9.ffault,.rs 13]),(11,rI c9.fty),(12,rI c9.fneeds),(13,rI c9.fpath)] (cq (Ken _ _ d0) K4y tv) ?_
    refine vz 11 (Qdl c9.fty) [(6,.ra 3 0)] [(3,.box [sI c9.fty,.rs 12,I c9.ffault,.rs 13]),(12,rI c9.fneeds),(13,rI c9.fpath)] ?_
    refine vz 12 (Qdl c9.fneeds) [(6,.ra 3 0)] [(3,.box [sI c9.fty,sI c9.fneeds,I c9.ffault,.rs 13]),(13,rI c9.fpath)] ?_
    refine vz 13 (Qdl c9.fpath) [(6,.ra 3 0)] [(3,K1w c9)] ?_
    refine rt ?_
    obtain rfl := os h
    exact rq [false]
   refine sk ?_
   obtain ⟨d1,d2,h⟩ := Qct h
   refine rs hc none [oN,oN,oN,oN,oc (K1x d1),oN] [(6,.ra 3 0)] [(3,K1w d1)] (cq (spec_l3Numbers_ih _ _ d2) K50 tv) ?_
   refine rt ?_
   obtain rfl := os h
   exact rq [false]
  refine K8s hc 2 [(1,sL ctx1),(3,.ra 1 0),(5,.ra 2 0),(6,.ra 3 0),(9,.ra 10 0),(56,I t2.fOp),(71,.bool (t2.fOp == 4))] ?_
  refine ic h (fun d3 h => ?_) fun d3 h => ?_
  ·obtain ⟨d4,d5,h⟩ := Qct h
   refine rs hc none [oN,oN,oN,oc (K1x d4),some (.new 14),oN] [(3,.ra 1 0),(6,.ra 3 0),(9,.ra 10 0),(10,.ra 14 0)] [(1,K1s s0),(3,.box [.nils,.nils,I 0,.nils]),(10,K1w b9),(14,K1w d4)] (cq (spec_l3Of_ih _ _ d5) K4w tv) ?_
   refine sN ?_
   refine K8s hc 3 [(3,.ra 1 0),(6,.ra 3 0),(9,.ra 10 0),(10,.ra 14 0),(79,.bool (d4.ffault != 0))] ?_
   refine ic h (fun d6 h => ?_) fun d6 h => ?_
   ·refine rs0 hc 2 [(6,.ra 3 0)] [(3,K1w d4)] ?_
    refine rt ?_
    obtain rfl := os h
    exact rq [false]
   refine sk ?_
   obtain ⟨d7,d8,d9,e0,e3,e4,h⟩ := bq3 h
   refine rs hc (rx [[0],[1],[0],[0,2],[4],[5],[0],[0],[0,7],[0],[0,9],[11],[12],[13]]) [oN,oN,oN,oN,some (.mk 15 false),some (.call (oI d7) [] 16),oN,oN,oN,oN,oN,some (.call (oI d9) [] 17),some (.call (K1x e3) [.tup []] 1),oN] [(6,.ra 3 0)] [(3,K1w e3)] (ac (Q71.args (A1 := [I 1,.sl (Q02 (List.map K10 [b9.fty,d4.fty]))]) (A2 := [I 1,.sl (List.map K10 [b9.fty,d4.fty])]) (by simp only [List.map_nil,K14]) (Keu _ _ d8)) K52 (Or.inr (Qdt Qdp d7) : ([15] : List Nat) = [] ∨ noSh (oI d7) = true) (cq (Kf1 _ _ e0) K54 (ab (Q71.args (A1 := [.sl (Q02 (List.map I d7)),.sl (Q02 (List.map I d9))]) (A2 := [sI d7,sI d9]) (by simp only [List.map_nil,Qdl]) (Kf4 _ _ e4)) K56 tv))) ?_
   refine rt ?_
   obtain rfl := os h
   exact rq [false]
  refine K8s hc 2 [(1,sL ctx1),(3,.ra 1 0),(5,.ra 2 0),(6,.ra 3 0),(9,.ra 10 0),(56,I t2.fOp),(94,.bool (t2.fOp == 6))] ?_
  refine ic h (fun e5 h => ?_) fun e5 h => ?_
  ·obtain ⟨e6,e7,e8,e9,h⟩ := bq2 h
   refine rs hc Kfp [oN,oN,oN,oN,some (.mk 18 false),some (.call (oI e6) [] 19),oN,oN,some (.call (K1x e8) [.tup []] 1),oN] [(6,.ra 3 0)] [(3,K1w e8)] (ad (Q71.args (A1 := [I 2,.sl (Q02 (List.map K10 [b9.fty,t2.fType]))]) (A2 := [I 2,.sl (List.map K10 [b9.fty,t2.fType])]) (by simp only [List.map_nil,K14]) (Keu _ _ e7)) K52 (Or.inr (Qdt Qdp e6) : ([18] : List Nat) = [] ∨ noSh (oI e6) = true) (Q71.args (A1 := [.sl (Q02 (List.map I e6)),sI b9.fneeds]) (A2 := [sI e6,sI b9.fneeds]) (by simp only [List.map_nil,Qdl]) (Kf4 _ _ e9)) (ai K56 tv)) ?_
   refine rt ?_
   obtain rfl := os h
   exact rq [false]
  refine K8s hc 2 [(1,sL ctx1),(3,.ra 1 0),(5,.ra 2 0),(6,.ra 3 0),(9,.ra 10 0),(56,I t2.fOp),(105,.bool (t2.fOp == 7))] ?_
  refine ic h (fun f0 h => ?_) fun f0 h => ?_
  ·obtain ⟨f1,f2,f3,f4,h⟩ := bq2 h
   refine rs hc Kfp [oN,oN,oN,oN,some (.mk 20 false),some (.call (oI f1) [] 21),oN,oN,some (.call (K1x f3) [.tup []] 1),oN] [(6,.ra 3 0)] [(3,K1w f3)] (ad (Q71.args (A1 := [I 2,.sl (Q02 (List.map K10 [t2.fType,b9.fty]))]) (A2 := [I 2,.sl (List.map K10 [t2.fType,b9.fty])]) (by simp only [List.map_nil,K14]) (Keu _ _ f2)) K52 (Or.inr (Qdt Qdp f1) : ([20] : List Nat) = [] ∨ noSh (oI f1) = true) (Q71.args (A1 := [.sl (Q02 (List.map I f1)),sI b9.fneeds]) (A2 := [sI f1,sI b9.fneeds]) (by simp only [List.map_nil,Qdl]) (Kf4 _ _ f4)) (ai K56 tv)) ?_
   refine rt ?_
   obtain rfl := os h
   exact rq [false]
  refine K8s hc 2 [(1,sL ctx1),(3,.ra 1 0),(5,.ra 2 0),(6,.ra 3 0),(9,.ra 10 0),(56,I t2.fOp),(116,.bool (t2.fOp == 9))] ?_
  refine ic h (fun f5 h => ?_) fun f5 h => ?_
  ·refine sN ?_
   obtain ⟨f6,f7,f8,f9,h⟩ := bq2 h
   refine rs hc (rx [[0],[0],[0,1],[0,1,2],[0,1,2,3],[0],[0,5],[7],[8]]) [oN,oN,oN,some (.el (I f6)),oN,oN,oN,oc (.bool f8),oN] [(5,.ra 2 0),(6,.ra 3 0),(9,.ra 10 0),(126,.bool (!f8))] [(2,K1u t2),(3,.box [.nils,.nils,I 0,.nils]),(10,K1w b9)] (ai (ix f7) (cq (Kb2 _ _ f9) K3i tv)) ?_
   rcases is h with ⟨g0,h⟩ | ⟨g0,h⟩
   ·refine cF (!f8) (nF g0) ?_
    refine sk ?_
    obtain ⟨g1,g2,g3,g4,g5,g6,g7,g8,h⟩ := bq4 h
    refine rs hc (rx [[0],[1],[2],[0],[0,3],[0],[0,5],[0,3,4,5,6],[8],[0],[0,9],[0,9,10],[12],[13],[14]]) [oN,oN,oN,oN,oN,oN,oN,some (.mk 22 false),some (.call (oI g1) [] 23),oN,oN,some (.eqv (.no) ⟨[(139,sI g3)],[],[]⟩),some (.call (oI g5) [] 24),some (.call (K1x g7) [.tup []] 1),oN] [(6,.ra 3 0)] [(3,K1w g7)] (ad (Q71.args (A1 := [I (wr (3 + t2.fN)),.sl (Q02 (List.map K10 [t2.fType,b9.fty]))]) (A2 := [I (wr (3 + t2.fN)),.sl (List.map K10 [t2.fType,b9.fty])]) (by simp only [List.map_nil,K14]) (Keu _ _ g2)) K52 (Or.inr (Qdt Qdp g1) : ([22] : List Nat) = [] ∨ noSh (oI g1) = true) (Qd2 (d := 139) I g4) (ai (Qd1 (enc := I) (sz := 1) Qdc g4) (cq (Keh _ _ g6) K4s (ab (Q71.args (A1 := [.sl (Q02 (List.map I g1)),.sl (Q02 (List.map I g5))]) (A2 := [sI g1,sI g5]) (by simp only [List.map_nil,Qdl]) (Kf4 _ _ g8)) K56 tv)))) ?_
    refine rt ?_
    obtain rfl := os h
    exact rq [false]
   refine cT (!f8) (nT g0) ?_
   obtain ⟨g9,i0,h⟩ := Qct h
   refine rs hc none [some (.call (K26 g9) [] 25),oN] [(6,.ra 3 0)] [(3,.box [.rs 25,.rs 26,I g9.ffault,.rs 27]),(25,rI g9.fty),(26,rI g9.fneeds),(27,rI g9.fpath)] (cq (Ken _ _ i0) K4y tv) ?_
   refine vz 25 (Qdl g9.fty) [(6,.ra 3 0)] [(3,.box [sI g9.fty,.rs 26,I g9.ffault,.rs 27]),(26,rI g9.fneeds),(27,rI g9.fpath)] ?_
   refine vz 26 (Qdl g9.fneeds) [(6,.ra 3 0)] [(3,.box [sI g9.fty,sI g9.fneeds,I g9.ffault,.rs 27]),(27,rI g9.fpath)] ?_
   refine vz 27 (Qdl g9.fpath) [(6,.ra 3 0)] [(3,K1w g9)] ?_
   refine rt ?_
   obtain rfl := os h
   exact rq [false]
  refine K8s hc 2 [(1,sL ctx1),(3,.ra 1 0),(5,.ra 2 0),(6,.ra 3 0),(9,.ra 10 0),(56,I t2.fOp),(142,.bool (t2.fOp == 11))] ?_
  refine ic h (fun i1 h => ?_) fun i1 h => ?_
  ·obtain ⟨i2,i3,i4,i5,i6,i7,i8,i9,h⟩ := bq4 h
   refine rs hc (rx [[0],[1],[2],[0],[0,3],[0,3,4],[6],[0],[0],[0,8],[7,8,9],[0],[0,11],[0],[0,13],[15],[16],[17]]) [oN,oN,oN,oN,oN,some (.mk 28 false),some (.call (oI i2) [] 29),oN,oN,some (.eqv (.no) ⟨[(153,I (ctx1.length : Int))],[],[]⟩),some (.call (oI i4) [] 30),oN,oN,oN,oN,some (.call (oI i6) [] 31),some (.call (K1x i8) [.tup []] 1),oN] [(6,.ra 3 0)] [(3,K1w i8)] (ad (Q71.args (A1 := [I (wr (19 + t2.fN)),.sl (Q02 (List.map K10 [b9.fty]))]) (A2 := [I (wr (19 + t2.fN)),.sl (List.map K10 [b9.fty])]) (by simp only [List.map_nil,K14]) (Keu _ _ i3)) K52 (Or.inr (Qdt Qdp i2) : ([28] : List Nat) = [] ∨ noSh (oI i2) = true) (Qcz (d := 153) K10 ctx1) (cq (Kee _ _ i5) K4r (ad (Q71.args (A1 := [K1t s0,.sl (Q02 (List.map I i4)),I t2.fN,sI b9.fneeds]) (A2 := [K1t s0,sI i4,I t2.fN,sI b9.fneeds]) (by simp only [List.map_nil,Qdl]) (Kf1 _ _ i7)) K54 (Or.inr (Qdt Qdp i6) : ([30] : List Nat) = [] ∨ noSh (oI i6) = true) (Q71.args (A1 := [.sl (Q02 (List.map I i2)),.sl (Q02 (List.map I i6))]) (A2 := [sI i2,sI i6]) (by simp only [List.map_nil,Qdl]) (Kf4 _ _ i9)) (ai K56 tv)))) ?_
   refine rt ?_
   obtain rfl := os h
   exact rq [false]
  refine K8s hc 2 [(1,sL ctx1),(3,.ra 1 0),(5,.ra 2 0),(6,.ra 3 0),(9,.ra 10 0),(161,.bool (t2.fOp == 10))] ?_
  refine ic h (fun j0 h => ?_) fun j0 h => ?_
  ·refine sN ?_
   obtain ⟨j8,j9,k0,k1,h⟩ := bq2 h
   refine rss hc none [oN,oN,some (.el (I j8)),oN,oc (.bool k0),oN] [(1,sL ctx1),(3,.ra 1 0),(5,.ra 2 0),(6,.ra 3 0),(9,.ra 10 0),(168,.bool (!k0))] (ai (ix j9) (cq (Kc9 _ _ k1) K3u tv)) ?_
   rcases is h with ⟨k2,h⟩ | ⟨k2,h⟩
   ·refine cF (!k0) (nF k2) ?_
    refine sk ?_
    obtain ⟨k4,k5,h⟩ := Qct h
    refine rs hc none [oN,oN,oN,oc (K1x k4),some (.new 32),oN] [(3,.ra 1 0),(6,.ra 3 0),(9,.ra 10 0),(11,.ra 32 0)] [(1,K1s s0),(3,.box [.nils,.nils,I 0,.nils]),(10,K1w b9),(32,K1w k4)] (cq (spec_l3Of_ih _ _ k5) K4w tv) ?_
    refine sN ?_
    refine K8s hc 3 [(3,.ra 1 0),(6,.ra 3 0),(9,.ra 10 0),(11,.ra 32 0),(176,.bool (k4.ffault != 0))] ?_
    refine ic h (fun k6 h => ?_) fun k6 h => ?_
    ·refine rs0 hc 2 [(6,.ra 3 0)] [(3,K1w k4)] ?_
     refine rt ?_
     obtain rfl := os h
     exact rq [false]
    refine sk ?_
    refine sN ?_
    obtain ⟨k7,k8,k9,l0,h⟩ := bq2 h
    refine rss hc (rx [[0],[1],[0],[0,2],[0,2,3],[5],[6]]) [oN,oN,oN,oN,some (.call (oI k7) [] 33),oc (.bool k9),oN] [(3,.ra 1 0),(6,.ra 3 0),(9,.ra 10 0),(11,.ra 32 0),(184,.bool (!k9))] (cq (Kf7 _ _ k8) K58 (ac (Q71.args (A1 := [sI k4.fty,.sl (Q02 (List.map I k7))]) (A2 := [sI k4.fty,sI k7]) (by simp only [List.map_nil,Qdl]) (Kfe _ _ l0)) K59 (Or.inr rfl : ([33] : List Nat) = [] ∨ noSh (.bool k9) = true) tv)) ?_
    rcases is h with ⟨l1,h⟩ | ⟨l1,h⟩
    ·refine cF (!k9) (nF l1) ?_
     refine sk ?_
     obtain ⟨l2,l3,l4,l5,l6,l7,l8,l9,h⟩ := bq4 h
     refine rs hc (rx [[0],[1],[2],[0],[0],[0,4],[0],[0,6],[0,6,7],[0,6,7,8],[3,6,7,8,9],[0],[0,11],[13],[14],[15]]) [oN,oN,some (.call (oI l2) [] 34),oN,oN,oN,oN,oN,some (.el (I l4)),oN,oc (I l6),oN,oN,some (.call (oI l8) [] 35),oN,oN] [(6,.ra 3 0)] [(3,.box [.rs 34,.rs 35,I 0,.nils]),(34,rI l2),(35,rI l8)] (cq (Kf7 _ _ l3) K58 (ai (ix l5) (cq (Kcs _ _ l7) K44 (cq (Kf1 _ _ l9) K54 tv)))) ?_
     refine vz 34 (Qdl l2) [(6,.ra 3 0)] [(3,.box [sI l2,.rs 35,I 0,.nils]),(35,rI l8)] ?_
     refine vz 35 (Qdl l8) [(6,.ra 3 0)] [(3,.box [sI l2,sI l8,I 0,.nils])] ?_
     refine rt ?_
     obtain rfl := os h
     exact rq [false]
    refine cT (!k9) (nT l1) ?_
    obtain ⟨m0,m1,h⟩ := Qct h
    refine rs hc none [some (.call (K26 m0) [] 36),oN] [(6,.ra 3 0)] [(3,.box [.rs 36,.rs 37,I m0.ffault,.rs 38]),(36,rI m0.fty),(37,rI m0.fneeds),(38,rI m0.fpath)] (cq (Ken _ _ m1) K4y tv) ?_
    refine vz 36 (Qdl m0.fty) [(6,.ra 3 0)] [(3,.box [sI m0.fty,.rs 37,I m0.ffault,.rs 38]),(37,rI m0.fneeds),(38,rI m0.fpath)] ?_
    refine vz 37 (Qdl m0.fneeds) [(6,.ra 3 0)] [(3,.box [sI m0.fty,sI m0.fneeds,I m0.ffault,.rs 38]),(38,rI m0.fpath)] ?_
    refine vz 38 (Qdl m0.fpath) [(6,.ra 3 0)] [(3,K1w m0)] ?_
    refine rt ?_
    obtain rfl := os h
    exact rq [false]
   refine cT (!k0) (nT k2) ?_
   obtain ⟨m2,m3,h⟩ := Qct h
   refine rs hc none [some (.call (K26 m2) [] 39),oN] [(6,.ra 3 0)] [(3,.box [.rs 39,.rs 40,I m2.ffault,.rs 41]),(39,rI m2.fty),(40,rI m2.fneeds),(41,rI m2.fpath)] (cq (Ken _ _ m3) K4y tv) ?_
   refine vz 39 (Qdl m2.fty) [(6,.ra 3 0)] [(3,.box [sI m2.fty,.rs 40,I m2.ffault,.rs 41]),(40,rI m2.fneeds),(41,rI m2.fpath)] ?_
   refine vz 40 (Qdl m2.fneeds) [(6,.ra 3 0)] [(3,.box [sI m2.fty,sI m2.fneeds,I m2.ffault,.rs 41]),(41,rI m2.fpath)] ?_
   refine vz 41 (Qdl m2.fpath) [(6,.ra 3 0)] [(3,K1w m2)] ?_
   refine rt ?_
   obtain rfl := os h
   exact rq [false]
  refine sk ?_
  obtain ⟨m4,m5,h⟩ := Qct h
  refine rs hc none [oN,oN,oN,oN,oc (K1x m4),oN] [(6,.ra 3 0)] [(3,K1w m4)] (cq (spec_l3Taken_ih _ _ m5) K5b tv) ?_
  refine rt ?_
  obtain rfl := os h
  exact rq [false]
 ·rintro spec_l3Of_f spec_l3Of_ih ⟨s0,ctx1,t2,a3⟩ r h
  refine b0 Tryz.f153 K5a 170 [(0,K1t s0),(1,sL ctx1),(2,K1v t2),(3,K1x a3)] fun c hc => ?_
  refine rs hc none [some (.new 1),some (.new 2),some (.new 3),some (.new 4)] [(1,sL ctx1),(4,.ra 1 0),(6,.ra 2 0),(7,.ra 3 0),(8,.ra 4 0)] [(1,K1s s0),(2,K1u t2),(3,K1w a3),(4,.box [.nils,.nils,I 0,.nils])] tv ?_
  obtain ⟨m6,m7,h⟩ := Qct h
  refine rss hc none [oN,oN,some (.el (I m6)),oN,oN] [(1,sL ctx1),(4,.ra 1 0),(6,.ra 2 0),(7,.ra 3 0),(8,.ra 4 0),(9,I m6)] (ai (ix m7) tv) ?_
  refine sN ?_
  refine bk 0 ?_
  refine sN ?_
  obtain ⟨m8,m9,h⟩ := Qct h
  refine Wp.into (x := .normal) (mkS [(1,sL ctx1),(4,.ra 1 0),(6,.ra 2 0),(7,.ra 3 0),(8,.ra 4 0),(9,I m6),(21,.bool m8)] [(1,K1s s0),(2,K1u t2),(3,K1w a3),(4,.box [.nils,.nils,I 0,.nils])]) ?_ ?_
  ·replace h := m9
   rcases is h with ⟨n0,h⟩ | ⟨n0,h⟩
   ·refine rgs hc none [oN,oN,oN,oN,oN,oN,oT,oN] [(1,sL ctx1),(4,.ra 1 0),(6,.ra 2 0),(7,.ra 3 0),(8,.ra 4 0),(9,I m6),(21,.bool (m6 != 1))] (ar 3 n0 tv) ?_
    obtain rfl := os h
    exact Qcf.mk
   refine rgs hc none [oN,oN,oN,oN,o_,o_,oF,oN] [(1,sL ctx1),(4,.ra 1 0),(6,.ra 2 0),(7,.ra 3 0),(8,.ra 4 0),(9,I m6),(21,.bool false)] (ar 2 (neT n0) (ai n0 tv)) ?_
   obtain rfl := os h
   exact Qcf.mk
  clear m9
  refine ic h (fun b6 h => ?_) fun b6 h => ?_
  ·obtain ⟨n1,n2,h⟩ := Qct h
   refine rs hc none [some (.call (K26 n1) [] 5),oN] [(8,.ra 4 0)] [(4,.box [.rs 5,.rs 6,I n1.ffault,.rs 7]),(5,rI n1.fty),(6,rI n1.fneeds),(7,rI n1.fpath)] (cq (Ken _ _ n2) K4y tv) ?_
   refine vz 5 (Qdl n1.fty) [(8,.ra 4 0)] [(4,.box [sI n1.fty,.rs 6,I n1.ffault,.rs 7]),(6,rI n1.fneeds),(7,rI n1.fpath)] ?_
   refine vz 6 (Qdl n1.fneeds) [(8,.ra 4 0)] [(4,.box [sI n1.fty,sI n1.fneeds,I n1.ffault,.rs 7]),(7,rI n1.fpath)] ?_
   refine vz 7 (Qdl n1.fpath) [(8,.ra 4 0)] [(4,K1w n1)] ?_
   refine rt ?_
   obtain rfl := os h
   exact rq [false]
  refine sN ?_
  obtain ⟨n3,n4,h⟩ := Qct h
  refine Wp.into (x := .normal) (mkS [(1,sL ctx1),(4,.ra 1 0),(6,.ra 2 0),(7,.ra 3 0),(8,.ra 4 0),(9,I m6),(30,.bool n3)] [(1,K1s s0),(2,K1u t2),(3,K1w a3),(4,.box [.nils,.nils,I 0,.nils])]) ?_ ?_
  ·replace h := n4
   rcases is h with ⟨n5,h⟩ | ⟨n5,h⟩
   ·refine rgs hc none [oN,oN,oN,oN,oN,oN,oT,oN] [(1,sL ctx1),(4,.ra 1 0),(6,.ra 2 0),(7,.ra 3 0),(8,.ra 4 0),(9,I m6),(30,.bool (m6 != 2))] (ar 3 n5 tv) ?_
    obtain rfl := os h
    exact Qcf.mk
   refine rgs hc none [oN,oN,oN,oN,o_,o_,oF,oN] [(1,sL ctx1),(4,.ra 1 0),(6,.ra 2 0),(7,.ra 3 0),(8,.ra 4 0),(9,I m6),(30,.bool false)] (ar 2 (neT n5) (ai n5 tv)) ?_
   obtain rfl := os h
   exact Qcf.mk
  clear n4
  refine ic h (fun n6 h => ?_) fun n6 h => ?_
  ·obtain ⟨n7,n8,h⟩ := Qct h
   refine rs hc none [some (.call (K26 n7) [] 8),oN] [(8,.ra 4 0)] [(4,.box [.rs 8,.rs 9,I n7.ffault,.rs 10]),(8,rI n7.fty),(9,rI n7.fneeds),(10,rI n7.fpath)] (cq (Ken _ _ n8) K4y tv) ?_
   refine vz 8 (Qdl n7.fty) [(8,.ra 4 0)] [(4,.box [sI n7.fty,.rs 9,I n7.ffault,.rs 10]),(9,rI n7.fneeds),(10,rI n7.fpath)] ?_
   refine vz 9 (Qdl n7.fneeds) [(8,.ra 4 0)] [(4,.box [sI n7.fty,sI n7.fneeds,I n7.ffault,.rs 10]),(10,rI n7.fpath)] ?_
   refine vz 10 (Qdl n7.fpath) [(8,.ra 4 0)] [(4,K1w n7)] ?_
   refine rt ?_
   obtain rfl := os h
   exact rq [false]
  refine sN ?_
  obtain ⟨n9,o0,h⟩ := Qct h
  refine Wp.into (x := .normal) (mkS [(1,sL ctx1),(4,.ra 1 0),(6,.ra 2 0),(7,.ra 3 0),(8,.ra 4 0),(9,I m6),(39,.bool n9)] [(1,K1s s0),(2,K1u t2),(3,K1w a3),(4,.box [.nils,.nils,I 0,.nils])]) ?_ ?_
  ·replace h := o0
   rcases is h with ⟨o1,h⟩ | ⟨o1,h⟩
   ·obtain ⟨o2,o3,h⟩ := Qct h
    refine rgs hc none [oN,oN,oN,oN,oN,oc (.bool o2),oN,oT,oN] [(1,sL ctx1),(4,.ra 1 0),(6,.ra 2 0),(7,.ra 3 0),(8,.ra 4 0),(9,I m6),(39,.bool (!o2))] (ar 2 o1 (cq (Kcc _ _ o3) K3w (ar 2 o1 tv))) ?_
    obtain rfl := os h
    exact Qcf.mk
   refine rgs hc none [oN,oN,oN,oN,o_,o_,o_,oF,oN] [(1,sL ctx1),(4,.ra 1 0),(6,.ra 2 0),(7,.ra 3 0),(8,.ra 4 0),(9,I m6),(39,.bool false)] (ar 3 (neT o1) (ai o1 tv)) ?_
   obtain rfl := os h
   exact Qcf.mk
  clear o0
  refine ic h (fun o4 h => ?_) fun o4 h => ?_
  ·obtain ⟨o5,o6,h⟩ := Qct h
   refine rs hc none [some (.call (K26 o5) [] 11),oN] [(8,.ra 4 0)] [(4,.box [.rs 11,.rs 12,I o5.ffault,.rs 13]),(11,rI o5.fty),(12,rI o5.fneeds),(13,rI o5.fpath)] (cq (Ken _ _ o6) K4y tv) ?_
   refine vz 11 (Qdl o5.fty) [(8,.ra 4 0)] [(4,.box [sI o5.fty,.rs 12,I o5.ffault,.rs 13]),(12,rI o5.fneeds),(13,rI o5.fpath)] ?_
   refine vz 12 (Qdl o5.fneeds) [(8,.ra 4 0)] [(4,.box [sI o5.fty,sI o5.fneeds,I o5.ffault,.rs 13]),(13,rI o5.fpath)] ?_
   refine vz 13 (Qdl o5.fpath) [(8,.ra 4 0)] [(4,K1w o5)] ?_
   refine rt ?_
   obtain rfl := os h
   exact rq [false]
  refine sk ?_
  refine sN ?_
  obtain ⟨o7,o8,h⟩ := Qct h
  refine rss hc none [oN,oN,oN,oc (.bool o7),oN] [(1,sL ctx1),(4,.ra 1 0),(6,.ra 2 0),(7,.ra 3 0),(8,.ra 4 0),(9,I m6),(53,.bool (!o7))] (cq (Kb2 _ _ o8) K3i tv) ?_
  rcases is h with ⟨o9,h⟩ | ⟨o9,h⟩
  ·refine cF (!o7) (nF o9) ?_
   refine sk ?_
   obtain ⟨p0,p1,h⟩ := Qct h
   refine rs hc none [oN,oN,some (.call (oI p0) [] 14),some (.mk 15 true),oN] [(1,sL ctx1),(4,.ra 1 0),(6,.ra 2 0),(7,.ra 3 0),(8,.ra 4 0),(9,I m6),(10,.rs 15)] [(1,K1s s0),(2,K1u t2),(3,K1w a3),(4,.box [.nils,.nils,I 0,.nils]),(15,.arr (List.map K15 [p0]))] (cq (Kf7 _ _ p1) K58 tv) ?_
   refine sN ?_
   refine K8s hc 3 [(1,sL ctx1),(4,.ra 1 0),(6,.ra 2 0),(7,.ra 3 0),(8,.ra 4 0),(9,I m6),(10,.rs 15),(61,.bool (t2.fOp == 5))] ?_
   obtain ⟨p2,p3,h⟩ := Qct h
   refine Wp.into (x := .normal) (mkS [(1,sL ctx1),(4,.ra 1 0),(6,.ra 2 0),(7,.ra 3 0),(8,.ra 4 0),(9,I m6),(10,.rs 18)] [(1,K1s s0),(2,K1u t2),(3,K1w a3),(4,.box [.nils,.nils,I 0,.nils]),(18,.arr (List.map K15 p2))]) ?_ ?_
   ·replace h := p3
    refine ic h (fun c5 h => ?_) fun c5 h => ?_
    ·obtain ⟨p4,p5,p6,p7,h⟩ := bq2 h
     refine rg hc (rx [[0],[1],[2],[0],[0,3],[5],[6],[7]]) [oN,oN,some (.call (oI p4) [] 16),oN,oN,some (.call (oI p6) [] 17),some (.mk 18 true),oN] [(1,sL ctx1),(4,.ra 1 0),(6,.ra 2 0),(7,.ra 3 0),(8,.ra 4 0),(9,I m6),(10,.rs 18)] [(1,K1s s0),(2,K1u t2),(3,K1w a3),(4,.box [.nils,.nils,I 0,.nils]),(18,.arr (List.map K15 [p4,p6]))] (cq (Kf7 _ _ p5) K58 (cq (Kf7 _ _ p7) K58 tv)) ?_
     obtain rfl := os h
     exact Qcf.mk
    refine sk ?_
    obtain rfl := os h
    exact iv [(18,15)]
   clear p3
   refine sN ?_
   refine vz 18 (K19 p2) [(1,sL ctx1),(4,.ra 1 0),(6,.ra 2 0),(7,.ra 3 0),(8,.ra 4 0),(9,I m6),(10,sL p2)] [(1,K1s s0),(2,K1u t2),(3,K1w a3),(4,.box [.nils,.nils,I 0,.nils])] ?_
   obtain ⟨p8,p9,q0,q1,h⟩ := bq2 h
   refine rg hc (rx [[0],[0],[0],[0,1,2],[0],[5],[0],[7]]) [oN,oN,oN,some (.call (.osl (List.map K10 p8)) [] 20),oN,some (.call (K1x q0) [.tup []] 1),some (.new 21),oN] [(1,sL ctx1),(4,.ra 1 0),(6,.ra 2 0),(7,.ra 3 0),(8,.ra 4 0),(9,I m6),(10,sL p2),(11,.ra 21 0)] [(1,K1s s0),(2,K1u t2),(3,K1w a3),(4,.box [.nils,.nils,I 0,.nils]),(21,K1w q0)] (cq (Kek _ _ p9) K4u (ab (Q71.args (A1 := [K1t s0,.sl (Q02 (List.map K10 p8)),K1v t2,I 1]) (A2 := [K1t s0,sL p8,K1v t2,I 1]) (by simp only [List.map_nil,K14]) (spec_l3Of_ih _ _ q1)) K4w tv)) ?_
   refine sN ?_
   refine K8s hc 3 [(1,sL ctx1),(4,.ra 1 0),(6,.ra 2 0),(7,.ra 3 0),(8,.ra 4 0),(9,I m6),(10,sL p2),(11,.ra 21 0),(77,.bool (q0.ffault != 0))] ?_
   refine ic h (fun d6 h => ?_) fun d6 h => ?_
   ·refine rs0 hc 2 [(8,.ra 4 0)] [(4,K1w q0)] ?_
    refine rt ?_
    obtain rfl := os h
    exact rq [false]
   refine sk ?_
   refine rss hc none [oN,some (.eqv (.no) ⟨[(80,I (p2.length : Int))],[],[]⟩),oN] [(1,sL ctx1),(4,.ra 1 0),(6,.ra 2 0),(7,.ra 3 0),(8,.ra 4 0),(9,I m6),(11,.ra 21 0),(12,I (p2.length : Int))] (ai (Qcz (d := 80) K10 p2) tv) ?_
   refine K8s hc 3 [(1,sL ctx1),(4,.ra 1 0),(6,.ra 2 0),(7,.ra 3 0),(8,.ra 4 0),(9,I m6),(11,.ra 21 0),(12,I (p2.length : Int)),(13,I t2.fN)] ?_
   obtain ⟨q2,q3,q4,q5,h⟩ := bq2 h
   refine rs hc none [oN,oN,oN,some (.eqv (.no) ⟨[(86,sI q2)],[],[]⟩),some (.call (oI q4) [] 22),oN] [(1,sL ctx1),(4,.ra 1 0),(6,.ra 2 0),(7,.ra 3 0),(8,.ra 4 0),(9,I m6),(11,.ra 21 0),(13,I t2.fN),(14,.rs 22)] [(1,K1s s0),(2,K1u t2),(3,K1w a3),(4,.box [.nils,.nils,I 0,.nils]),(21,K1w q0),(22,rI q4)] (ab (Qd2 (d := 86) I q3) (Qd1 (enc := I) (sz := 1) Qdc q3) (cq (Keh _ _ q5) K4s tv)) ?_
   refine K8s hc 1 [(1,sL ctx1),(4,.ra 1 0),(6,.ra 2 0),(7,.ra 3 0),(8,.ra 4 0),(9,I m6),(11,.ra 21 0),(13,I t2.fN),(14,.rs 22),(15,.bool true)] ?_
   refine sN ?_
   refine K8s hc 2 [(1,sL ctx1),(4,.ra 1 0),(6,.ra 2 0),(7,.ra 3 0),(8,.ra 4 0),(9,I m6),(11,.ra 21 0),(13,I t2.fN),(14,.rs 22),(15,.bool true),(89,I t2.fOp)] ?_
   refine bk 1 ?_
   refine K8s hc 2 [(1,sL ctx1),(4,.ra 1 0),(6,.ra 2 0),(7,.ra 3 0),(8,.ra 4 0),(9,I m6),(11,.ra 21 0),(13,I t2.fN),(14,.rs 22),(15,.bool true),(89,I t2.fOp),(90,.bool (t2.fOp == 12))] ?_
   obtain ⟨fl,q6,h⟩ := Qct h
   refine flw (Kfo c s0 ctx1 t2 a3 q0 fl) ?_ (fun hF => ?_)
   ·replace h := q6
    refine ic h (fun e5 h => ?_) fun e5 h => ?_
    ·obtain ⟨q7,q8,q9,r0,h⟩ := bq2 h
     refine rgs hc (rx [[0],[0],[0,1],[0],[0,3],[5],[6]]) [oN,oN,oN,oN,oc (I q7),oc (I q9),oN] [(1,sL ctx1),(4,.ra 1 0),(6,.ra 2 0),(7,.ra 3 0),(8,.ra 4 0),(11,.ra 21 0),(13,I q9),(14,.rs 22),(15,.bool true)] (cq (Kcs _ _ q8) K44 (cq (Kaz _ _ r0) K3g tv)) ?_
     obtain rfl := os h
     exact Qcf.mk
    refine K8s hc 2 [(1,sL ctx1),(4,.ra 1 0),(6,.ra 2 0),(7,.ra 3 0),(8,.ra 4 0),(11,.ra 21 0),(13,I t2.fN),(14,.rs 22),(15,.bool true),(89,I t2.fOp),(98,.bool (t2.fOp == 5))] ?_
    obtain ⟨fl,r1,h⟩ := Qct h
    refine flw (Kfn c s0 ctx1 t2 a3 q0 fl) ?_ (fun hF => ?_)
    ·replace h := r1
     refine ic h (fun f0 h => ?_) fun f0 h => ?_
     ·obtain ⟨r2,r3,r4,r5,h⟩ := bq2 h
      refine rgs hc Kfq [oN,oN,oN,some (.el (I r2)),oN,oN,oc (.bool r4),oN] [(1,sL ctx1),(4,.ra 1 0),(6,.ra 2 0),(7,.ra 3 0),(8,.ra 4 0),(11,.ra 21 0),(13,I t2.fN),(14,.rs 22),(15,.bool r4)] (ai (ix r3) (cq (Kb2 _ _ r5) K3i tv)) ?_
      obtain rfl := os h
      exact Qcf.mk
     refine K8s hc 2 [(1,sL ctx1),(4,.ra 1 0),(6,.ra 2 0),(7,.ra 3 0),(8,.ra 4 0),(11,.ra 21 0),(13,I t2.fN),(14,.rs 22),(15,.bool true),(107,.bool (t2.fOp == 8))] ?_
     obtain ⟨fl,r6,h⟩ := Qct h
     refine flw (Kfm c s0 ctx1 t2 a3 q0 fl) ?_ (fun hF => ?_)
     ·replace h := r6
      refine ic h (fun f5 h => ?_) fun f5 h => ?_
      ·obtain ⟨r7,r8,r9,s1,e8,e9,h⟩ := bq3 h
       refine rs hc (rx [[0],[0],[0],[0,2],[0,2,3],[0,2,3,4],[0,1,2,3,4,5],[0],[8],[0],[10]]) [oN,oN,oN,oN,some (.call (oI r7) [] 23),some (.mk 24 true),some (.call (.osl (List.map K10 r9)) [.tup []] 25),oN,some (.call (K1x e8) [.tup []] 1),some (.new 26),oN] [(1,sL ctx1),(4,.ra 1 0),(6,.ra 2 0),(7,.ra 3 0),(8,.ra 4 0),(11,.ra 21 0),(13,I t2.fN),(14,.rs 22),(16,.ra 26 0)] [(1,K1s s0),(2,K1u t2),(3,K1w a3),(4,.box [.nils,.nils,I 0,.nils]),(21,K1w q0),(22,rI q4),(26,K1w e8)] (cq (Kf7 _ _ r8) K58 (ad (Q71.args (A1 := [sL ctx1,.sl (Q02 (List.map K15 [r7]))]) (A2 := [sL ctx1,.sl (List.map K10 [r7])]) (by simp only [List.map_nil,K19]) (Kek _ _ s1)) K4u (Q71.args (A1 := [K1t s0,.sl (Q02 (List.map K10 r9)),K1v t2,I 2]) (A2 := [K1t s0,sL r9,K1v t2,I 2]) (by simp only [List.map_nil,K14]) (spec_l3Of_ih _ _ e9)) K4w tv)) ?_
       refine sN ?_
       refine K8s hc 3 [(1,sL ctx1),(4,.ra 1 0),(6,.ra 2 0),(7,.ra 3 0),(8,.ra 4 0),(11,.ra 21 0),(13,I t2.fN),(14,.rs 22),(16,.ra 26 0),(120,.bool (e8.ffault != 0))] ?_
       refine ic h (fun g0 h => ?_) fun g0 h => ?_
       ·refine rs0 hc 2 [(8,.ra 4 0)] [(4,K1w e8)] ?_
        refine rt ?_
        obtain rfl := os h
        exact re [false]
       refine sk ?_
       refine sN ?_
       obtain ⟨s2,s3,h⟩ := Qct h
       refine rss hc none [oN,oN,oN,oN,oc (.bool s2),oN] [(1,sL ctx1),(4,.ra 1 0),(6,.ra 2 0),(7,.ra 3 0),(8,.ra 4 0),(11,.ra 21 0),(13,I t2.fN),(14,.rs 22),(16,.ra 26 0),(127,.bool (!s2))] (cq (Kfe _ _ s3) K59 tv) ?_
       rcases is h with ⟨i1,h⟩ | ⟨i1,h⟩
       ·refine cF (!s2) (nF i1) ?_
        refine sk ?_
        obtain ⟨s4,s5,s6,s7,h⟩ := bq2 h
        refine rss hc Kfq [oN,oN,oN,some (.el (I s4)),oN,oN,oc (.bool s6),oN] [(1,sL ctx1),(4,.ra 1 0),(6,.ra 2 0),(7,.ra 3 0),(8,.ra 4 0),(11,.ra 21 0),(13,I t2.fN),(14,.rs 22),(15,.bool s6),(16,.ra 26 0)] (ai (ix s5) (cq (Kb2 _ _ s7) K3i tv)) ?_
        obtain ⟨s8,s9,t0,t1,h⟩ := bq2 h
        refine rg hc (rx [[0],[0],[0],[0,2],[0,2,3],[5],[6]]) [oN,oN,oN,oN,some (.eqv (.no) ⟨[(140,sI s8)],[],[]⟩),some (.call (oI t0) [] 27),oN] [(1,sL ctx1),(4,.ra 1 0),(6,.ra 2 0),(7,.ra 3 0),(8,.ra 4 0),(11,.ra 21 0),(13,I t2.fN),(14,.rs 27),(15,.bool s6)] [(1,K1s s0),(2,K1u t2),(3,K1w a3),(4,.box [.nils,.nils,I 0,.nils]),(21,K1w q0),(27,rI t0)] (ad (Qd2 (d := 140) I s9) (Qd1 (enc := I) (sz := 1) Qdc s9) (Q71.args (A1 := [K1t s0,.sl (Q02 (List.map I q4)),sI s8]) (A2 := [K1t s0,sI q4,sI s8]) (by simp only [List.map_nil,Qdl]) (Kfl _ _ t1)) K5e (ai (Or.inr (Qdt Qdp t0) : ([22] : List Nat) = [] ∨ noSh (oI t0) = true) tv)) ?_
        obtain rfl := os h
        exact Qcf.mk
       refine cT (!s2) (nT i1) ?_
       obtain ⟨t3,t4,h⟩ := Qct h
       refine rs hc none [some (.call (K26 t3) [] 28),oN] [(8,.ra 4 0)] [(4,.box [.rs 28,.rs 29,I t3.ffault,.rs 30]),(28,rI t3.fty),(29,rI t3.fneeds),(30,rI t3.fpath)] (cq (Ken _ _ t4) K4y tv) ?_
       refine vz 28 (Qdl t3.fty) [(8,.ra 4 0)] [(4,.box [sI t3.fty,.rs 29,I t3.ffault,.rs 30]),(29,rI t3.fneeds),(30,rI t3.fpath)] ?_
       refine vz 29 (Qdl t3.fneeds) [(8,.ra 4 0)] [(4,.box [sI t3.fty,sI t3.fneeds,I t3.ffault,.rs 30]),(30,rI t3.fpath)] ?_
       refine vz 30 (Qdl t3.fpath) [(8,.ra 4 0)] [(4,K1w t3)] ?_
       refine rt ?_
       obtain rfl := os h
       exact re [false]
      refine sk ?_
      obtain rfl := os h
      exact iv [(27,22)]
     rcases fl with ⟨t5,t6⟩ | r
     ·refine Wp.into (x := .normal) (mkS [(1,sL ctx1),(4,.ra 1 0),(6,.ra 2 0),(7,.ra 3 0),(8,.ra 4 0),(11,.ra 21 0),(13,I t2.fN),(14,.rs 27),(15,.bool t6)] [(1,K1s s0),(2,K1u t2),(3,K1w a3),(4,.box [.nils,.nils,I 0,.nils]),(21,K1w q0),(27,rI t5)]) hF ?_
      obtain rfl := os h
      exact iv [(22,27)]
     refine Wp.mono hF ?_
     rintro _ _ ⟨rfl,hfin⟩
     obtain rfl := os h
     exact ⟨rfl,hfin⟩
    rcases fl with ⟨t7,t8⟩ | r
    ·refine Wp.into (x := .normal) (mkS [(1,sL ctx1),(4,.ra 1 0),(6,.ra 2 0),(7,.ra 3 0),(8,.ra 4 0),(11,.ra 21 0),(13,I t2.fN),(14,.rs 22),(15,.bool t8)] [(1,K1s s0),(2,K1u t2),(3,K1w a3),(4,.box [.nils,.nils,I 0,.nils]),(21,K1w q0),(22,rI t7)]) hF ?_
     obtain rfl := os h
     exact Qcf.mk
    refine Wp.mono hF ?_
    rintro _ _ ⟨rfl,hfin⟩
    obtain rfl := os h
    exact ⟨rfl,hfin⟩
   rcases fl with ⟨t9,u0,u1⟩ | r
   ·refine Wp.into (x := .normal) (mkS [(1,sL ctx1),(4,.ra 1 0),(6,.ra 2 0),(7,.ra 3 0),(8,.ra 4 0),(11,.ra 21 0),(13,I t9),(14,.rs 22),(15,.bool u1)] [(1,K1s s0),(2,K1u t2),(3,K1w a3),(4,.box [.nils,.nils,I 0,.nils]),(21,K1w q0),(22,rI u0)]) hF ?_
    refine sN ?_
    refine sN ?_
    obtain ⟨u2,u3,h⟩ := Qct h
    refine Wp.into (x := .normal) (mkS [(1,sL ctx1),(4,.ra 1 0),(6,.ra 2 0),(7,.ra 3 0),(8,.ra 4 0),(11,.ra 21 0),(14,.rs 22),(153,.bool u2)] [(1,K1s s0),(2,K1u t2),(3,K1w a3),(4,.box [.nils,.nils,I 0,.nils]),(21,K1w q0),(22,rI u0)]) ?_ ?_
    ·replace h := u3
     rcases is h with ⟨u4,h⟩ | ⟨u4,h⟩
     ·obtain ⟨u5,u6,u7,u8,h⟩ := bq2 h
      refine rgs hc Kfr [oN,oN,oN,oN,oN,oN,some (.el (I u5)),oN,oN,oc (.bool u7),oN,oF] [(1,sL ctx1),(4,.ra 1 0),(6,.ra 2 0),(7,.ra 3 0),(8,.ra 4 0),(11,.ra 21 0),(14,.rs 22),(153,.bool (!u7))] (ar 4 (nF u4) (ai (ix u6) (ar 3 (nF u4) (cq (Kb2 _ _ u8) K3i (ar 2 (nF u4) tv))))) ?_
      obtain rfl := os h
      exact Qcf.mk
     refine rgs hc Kfr [oN,oN,oN,o_,o_,o_,o_,o_,o_,o_,o_,oT] [(1,sL ctx1),(4,.ra 1 0),(6,.ra 2 0),(7,.ra 3 0),(8,.ra 4 0),(11,.ra 21 0),(14,.rs 22),(153,.bool true)] (ar 8 (neF (nT u4)) (ai (nT u4) tv)) ?_
     obtain rfl := os h
     exact Qcf.mk
    clear u3
    refine ic h (fun u9 h => ?_) fun u9 h => ?_
    ·obtain ⟨v0,v1,h⟩ := Qct h
     refine rs hc none [some (.call (K26 v0) [] 31),oN] [(8,.ra 4 0)] [(4,.box [.rs 31,.rs 32,I v0.ffault,.rs 33]),(31,rI v0.fty),(32,rI v0.fneeds),(33,rI v0.fpath)] (cq (Ken _ _ v1) K4y tv) ?_
     refine vz 31 (Qdl v0.fty) [(8,.ra 4 0)] [(4,.box [sI v0.fty,.rs 32,I v0.ffault,.rs 33]),(32,rI v0.fneeds),(33,rI v0.fpath)] ?_
     refine vz 32 (Qdl v0.fneeds) [(8,.ra 4 0)] [(4,.box [sI v0.fty,sI v0.fneeds,I v0.ffault,.rs 33]),(33,rI v0.fpath)] ?_
     refine vz 33 (Qdl v0.fpath) [(8,.ra 4 0)] [(4,K1w v0)] ?_
     refine rt ?_
     obtain rfl := os h
     exact rq [false]
    refine sk ?_
    obtain ⟨v2,v3,v4,v5,v6,v7,h⟩ := bq3 h
    refine rs hc (rx [[0],[1],[0],[0],[0],[0,4],[0,4,5],[0],[0,7],[0],[0,9],[0,3,4,5,6,7,8,9,10],[0],[0,2,3,4,5,6,7,8,9,10,11,12],[14],[15]]) [oN,oN,oN,oN,oN,some (.eqv (.no) ⟨[(160,I (ctx1.length : Int))],[],[]⟩),some (.call (oI v2) [] 34),oN,oN,oN,oN,some (.call (oI v4) [] 35),oN,some (.call (oI v6) [] 36),oN,oN] [(8,.ra 4 0)] [(4,.box [sI q0.fty,.rs 36,I 0,.nils]),(36,rI v6)] (ai (Qcz (d := 160) K10 ctx1) (cq (Kee _ _ v3) K4r (ad (Q71.args (A1 := [K1t s0,.sl (Q02 (List.map I v2)),I t2.fN,sI a3.fneeds]) (A2 := [K1t s0,sI v2,I t2.fN,sI a3.fneeds]) (by simp only [List.map_nil,Qdl]) (Kf1 _ _ v5)) K54 (Or.inr (Qdt Qdp v4) : ([34] : List Nat) = [] ∨ noSh (oI v4) = true) (Q71.args (A1 := [K1t s0,.sl (Q02 (List.map I v4)),I 1,.sl (Q02 (List.map I u0))]) (A2 := [K1t s0,sI v4,I 1,sI u0]) (by simp only [List.map_nil,Qdl]) (Kf1 _ _ v7)) (ab K54 (Or.inr (Qdt Qdp v6) : ([35,22] : List Nat) = [] ∨ noSh (oI v6) = true) tv)))) ?_
    refine vz 36 (Qdl v6) [(8,.ra 4 0)] [(4,.box [sI q0.fty,sI v6,I 0,.nils])] ?_
    refine rt ?_
    obtain rfl := os h
    exact rq [false]
   refine Wp.mono hF ?_
   rintro _ _ ⟨rfl,hfin⟩
   obtain rfl := os h
   exact ⟨.inl rfl,hfin⟩
  refine cT (!o7) (nT o9) ?_
  obtain ⟨v8,v9,h⟩ := Qct h
  refine rs hc none [some (.call (K26 v8) [] 37),oN] [(8,.ra 4 0)] [(4,.box [.rs 37,.rs 38,I v8.ffault,.rs 39]),(37,rI v8.fty),(38,rI v8.fneeds),(39,rI v8.fpath)] (cq (Ken _ _ v9) K4y tv) ?_
  refine vz 37 (Qdl v8.fty) [(8,.ra 4 0)] [(4,.box [sI v8.fty,.rs 38,I v8.ffault,.rs 39]),(38,rI v8.fneeds),(39,rI v8.fpath)] ?_
  refine vz 38 (Qdl v8.fneeds) [(8,.ra 4 0)] [(4,.box [sI v8.fty,sI v8.fneeds,I v8.ffault,.rs 39]),(39,rI v8.fpath)] ?_
  refine vz 39 (Qdl v8.fpath) [(8,.ra 4 0)] [(4,K1w v8)] ?_
  refine rt ?_
  obtain rfl := os h
  exact rq [false]
 ·rintro spec_l3Tell_f spec_l3Tell_ih ⟨s0,ctx1,t2,k3⟩ r h
  refine b0 Tryz.f143 K4v 28 [(0,K1t s0),(1,sL ctx1),(2,K1v t2),(3,I k3)] fun c hc => ?_
  refine rs hc none [some (.new 1),some (.new 2),some (.new 3)] [(1,sL ctx1),(3,I k3),(4,.ra 1 0),(6,.ra 2 0),(8,.ra 3 0)] [(1,K1s s0),(2,K1u t2),(3,.box [.nils,.nils,I 0,.nils])] tv ?_
  obtain ⟨w0,w1,w2,w3,h⟩ := bq2 h
  refine rs hc (rx [[0],[0],[0],[0,2],[0],[0,2,3,4],[0,2,3,4,5],[7],[0],[9]]) [oN,oN,oN,oN,oN,some (.el (K1v w0)),oN,oc (K1x w2),some (.new 4),oN] [(3,I k3),(8,.ra 3 0),(9,.ra 4 0)] [(3,.box [.nils,.nils,I 0,.nils]),(4,K1w w2)] (ai (Qcx w1 (K0n w0)) (cq (spec_l3Tell_ih _ _ w3) K5c tv)) ?_
  refine sN ?_
  refine K8s hc 3 [(3,I k3),(8,.ra 3 0),(9,.ra 4 0),(20,.bool (w2.ffault != 0))] ?_
  obtain ⟨w4,w5,h⟩ := Qct h
  refine Wp.into (x := .normal) (mkS [(8,.ra 3 0),(9,.ra 4 0)] [(3,.box [.nils,.nils,I 0,.nils]),(4,.box [sI w2.fty,sI w2.fneeds,I w2.ffault,sI w4])]) ?_ ?_
  ·replace h := w5
   refine ic h (fun a0 h => ?_) fun a0 h => ?_
   ·obtain ⟨_,w6,h⟩ := Qct h
    refine rg hc none [oN,some (.mk 5 true),oN,oN,some (.eqv (.mk 6 true) ⟨[(25,.rs 6)],[(6,some (rI ([k3] ++ w2.fpath))),(5,none)],[6]⟩),oN,oN] [(8,.ra 3 0),(9,.ra 4 0)] [(3,.box [.nils,.nils,I 0,.nils]),(4,.box [sI w2.fty,sI w2.fneeds,I w2.ffault,.rs 6]),(6,rI ([k3] ++ w2.fpath))] (ab (congrArg (fun z => (⟨[(25,.rs 6)],[(6,some (.arr z)),(5,none)],[6]⟩ : Wr)) ((List.map_append).symm : (List.map I [k3]) ++ (List.map I w2.fpath) = List.map I ([k3] ++ w2.fpath))) (Qd7 (enc1 := I) (enc2 := I) (e1 := [k3]) (e2 := w2.fpath) (sz := 1) Qdg Qdg w6) tv) ?_
    obtain rfl := os h
    exact Qcf.view (fun a w hv => SRx.renL [] (SRx.frzC 6 (xs := List.map I ([k3] ++ w2.fpath)) (xs' := List.map I ([k3] ++ w2.fpath)) hv (by kernel_rfl) (Qdl _)) (by kernel_rfl) (by kernel_rfl) (by kernel_rfl))
   refine sk ?_
   obtain rfl := os h
   exact iv []
  clear w5
  refine rs0 hc 2 [(8,.ra 3 0)] [(3,.box [sI w2.fty,sI w2.fneeds,I w2.ffault,sI w4])] ?_
  refine rt ?_
  obtain rfl := os h
  exact rq [false]
 ·rintro spec_l3Of_f spec_l3Of_ih ⟨s0,ctx1,t2,a3⟩ r h
  refine b0 Tryz.f145 K4z 65 [(0,K1t s0),(1,sL ctx1),(2,K1v t2),(3,K1x a3)] fun c hc => ?_
  refine rs hc none [some (.new 1),some (.new 2),some (.new 3),some (.new 4)] [(1,sL ctx1),(4,.ra 1 0),(6,.ra 2 0),(7,.ra 3 0),(8,.ra 4 0)] [(1,K1s s0),(2,K1u t2),(3,K1w a3),(4,.box [.nils,.nils,I 0,.nils])] tv ?_
  obtain ⟨w7,w8,h⟩ := Qct h
  refine rs hc none [oN,oN,oN,oc (K1x w7),some (.new 5),oN] [(1,sL ctx1),(4,.ra 1 0),(6,.ra 2 0),(7,.ra 3 0),(8,.ra 4 0),(9,.ra 5 0)] [(1,K1s s0),(2,K1u t2),(3,K1w a3),(4,.box [.nils,.nils,I 0,.nils]),(5,K1w w7)] (cq (spec_l3Of_ih _ _ w8) K4w tv) ?_
  refine sN ?_
  refine K8s hc 3 [(1,sL ctx1),(4,.ra 1 0),(6,.ra 2 0),(7,.ra 3 0),(8,.ra 4 0),(9,.ra 5 0),(17,.bool (w7.ffault != 0))] ?_
  refine ic h (fun a0 h => ?_) fun a0 h => ?_
  ·refine rs0 hc 2 [(8,.ra 4 0)] [(4,K1w w7)] ?_
   refine rt ?_
   obtain rfl := os h
   exact rq [false]
  refine sk ?_
  refine sN ?_
  refine K8s hc 3 [(1,sL ctx1),(4,.ra 1 0),(6,.ra 2 0),(7,.ra 3 0),(8,.ra 4 0),(9,.ra 5 0),(21,.bool (t2.fOp == 2))] ?_
  refine ic h (fun b1 h => ?_) fun b1 h => ?_
  ·refine sN ?_
   obtain ⟨w9,x0,h⟩ := Qct h
   refine rs hc none [oN,oN,some (.el (I w9)),oN,oN] [(4,.ra 1 0),(7,.ra 3 0),(8,.ra 4 0),(9,.ra 5 0),(26,.bool (w9 != 0))] [(1,K1s s0),(3,K1w a3),(4,.box [.nils,.nils,I 0,.nils]),(5,K1w w7)] (ai (ix x0) tv) ?_
   refine ic h (fun b6 h => ?_) fun b6 h => ?_
   ·obtain ⟨x1,x2,h⟩ := Qct h
    refine rs hc none [some (.call (K26 x1) [] 6),oN] [(8,.ra 4 0)] [(4,.box [.rs 6,.rs 7,I x1.ffault,.rs 8]),(6,rI x1.fty),(7,rI x1.fneeds),(8,rI x1.fpath)] (cq (Ken _ _ x2) K4y tv) ?_
    refine vz 6 (Qdl x1.fty) [(8,.ra 4 0)] [(4,.box [sI x1.fty,.rs 7,I x1.ffault,.rs 8]),(7,rI x1.fneeds),(8,rI x1.fpath)] ?_
    refine vz 7 (Qdl x1.fneeds) [(8,.ra 4 0)] [(4,.box [sI x1.fty,sI x1.fneeds,I x1.ffault,.rs 8]),(8,rI x1.fpath)] ?_
    refine vz 8 (Qdl x1.fpath) [(8,.ra 4 0)] [(4,K1w x1)] ?_
    refine rt ?_
    obtain rfl := os h
    exact rq [false]
   refine sk ?_
   obtain ⟨x3,x4,h⟩ := Qct h
   refine rs hc (rx [[0],[1],[0],[0],[0,3],[0],[0,5],[0,2,3,4,5,6],[8],[9]]) [oN,oN,oN,oN,oN,oN,oN,some (.call (oI x3) [] 9),oN,oN] [(8,.ra 4 0)] [(4,.box [sI w7.fty,.rs 9,I 0,.nils]),(9,rI x3)] (cq (Kf1 _ _ x4) K54 tv) ?_
   refine vz 9 (Qdl x3) [(8,.ra 4 0)] [(4,.box [sI w7.fty,sI x3,I 0,.nils])] ?_
   refine rt ?_
   obtain rfl := os h
   exact rq [false]
  refine sk ?_
  obtain ⟨o7,o8,h⟩ := Qct h
  refine rs hc none [oN,oN,oN,oc (K1x o7),some (.new 10),oN] [(4,.ra 1 0),(7,.ra 3 0),(8,.ra 4 0),(9,.ra 5 0),(10,.ra 10 0)] [(1,K1s s0),(3,K1w a3),(4,.box [.nils,.nils,I 0,.nils]),(5,K1w w7),(10,K1w o7)] (cq (spec_l3Of_ih _ _ o8) K4w tv) ?_
  refine sN ?_
  refine K8s hc 3 [(4,.ra 1 0),(7,.ra 3 0),(8,.ra 4 0),(9,.ra 5 0),(10,.ra 10 0),(43,.bool (o7.ffault != 0))] ?_
  refine ic h (fun x5 h => ?_) fun x5 h => ?_
  ·refine rs0 hc 2 [(8,.ra 4 0)] [(4,K1w o7)] ?_
   refine rt ?_
   obtain rfl := os h
   exact rq [false]
  refine sk ?_
  refine sN ?_
  obtain ⟨x6,x7,h⟩ := Qct h
  refine rss hc none [oN,oN,oN,oN,oc (.bool x6),oN] [(4,.ra 1 0),(7,.ra 3 0),(8,.ra 4 0),(9,.ra 5 0),(10,.ra 10 0),(50,.bool (!x6))] (cq (Kfe _ _ x7) K59 tv) ?_
  rcases is h with ⟨x8,h⟩ | ⟨x8,h⟩
  ·refine cF (!x6) (nF x8) ?_
   refine sk ?_
   obtain ⟨x9,y0,y1,y2,h⟩ := bq2 h
   refine rs hc (rx [[0],[1],[0],[0],[0,3],[0],[0],[0,6],[0],[0,8],[0,5,6,7,8,9],[0,2,3,4,5,6,7,8,9,10],[12],[13]]) [oN,oN,oN,oN,oN,oN,oN,oN,oN,oN,some (.call (oI x9) [] 11),some (.call (oI y1) [] 12),oN,oN] [(8,.ra 4 0)] [(4,.box [sI w7.fty,.rs 12,I 0,.nils]),(12,rI y1)] (cq (Kfl _ _ y0) K5e (ac (Q71.args (A1 := [K1t s0,sI a3.fneeds,I 1,.sl (Q02 (List.map I x9))]) (A2 := [K1t s0,sI a3.fneeds,I 1,sI x9]) (by simp only [List.map_nil,Qdl]) (Kf1 _ _ y2)) K54 (Or.inr (Qdt Qdp y1) : ([11] : List Nat) = [] ∨ noSh (oI y1) = true) tv)) ?_
   refine vz 12 (Qdl y1) [(8,.ra 4 0)] [(4,.box [sI w7.fty,sI y1,I 0,.nils])] ?_
   refine rt ?_
   obtain rfl := os h
   exact rq [false]
  refine cT (!x6) (nT x8) ?_
  obtain ⟨y3,y4,h⟩ := Qct h
  refine rs hc none [some (.call (K26 y3) [] 13),oN] [(8,.ra 4 0)] [(4,.box [.rs 13,.rs 14,I y3.ffault,.rs 15]),(13,rI y3.fty),(14,rI y3.fneeds),(15,rI y3.fpath)] (cq (Ken _ _ y4) K4y tv) ?_
  refine vz 13 (Qdl y3.fty) [(8,.ra 4 0)] [(4,.box [sI y3.fty,.rs 14,I y3.ffault,.rs 15]),(14,rI y3.fneeds),(15,rI y3.fpath)] ?_
  refine vz 14 (Qdl y3.fneeds) [(8,.ra 4 0)] [(4,.box [sI y3.fty,sI y3.fneeds,I y3.ffault,.rs 15]),(15,rI y3.fpath)] ?_
  refine vz 15 (Qdl y3.fpath) [(8,.ra 4 0)] [(4,K1w y3)] ?_
  refine rt ?_
  obtain rfl := os h
  exact rq [false]
theorem Kg1 : ∀ p r,Kfs p = some r → Kfw p r := Kg0.1
theorem Kg2 : ∀ p r,Kft p = some r → Kfx p r := Kg0.2.1
theorem Kg3 : ∀ p r,Kfu p = some r → Kfy p r := Kg0.2.2.1
theorem Kg4 : ∀ p r,Kfv p = some r → Kfz p r := Kg0.2.2.2
def Kg5 (p : K00 × LL × K01) : Option ((List Int) × (List Int) × Bool) :=
 match p with
 | (s0,ctx1,t2) =>
  (Ke9 (s0,ctx1,t2)) >>= fun a0 =>
  if a0 = true then
  (Kfs (s0,ctx1,t2)) >>= fun a1 =>
  if (a1.ffault != 0) = true then
  some ([],[],false)
  else
  some (a1.fty,a1.fneeds,true)
  else
  some ([],[],false)
def Kg6 (p : K00 × LL × K01) (r : (List Int) × (List Int) × Bool) : Prop :=
 match p with
 | (s0,ctx1,t2) => Q71 Tryz.prog 18 [K1t s0,sL ctx1,K1v t2] (.tup [sI r.1,.sl (List.map I r.2.1),.bool r.2.2]) []
theorem Kg7 : ∀ p r,Kg5 p = some r → Kg6 p r := by
 rintro ⟨s0,ctx1,t2⟩ r h
 unfold Kg5 at h
 refine b0 Tryz.f18 B18 26 [(0,K1t s0),(1,sL ctx1),(2,K1v t2)] fun c hc => ?_
 refine rs hc none [some (.new 1),some (.new 2),oN,oN,oN] [(1,sL ctx1),(3,.ra 1 0),(5,.ra 2 0)] [(1,K1s s0),(2,K1u t2)] tv ?_
 refine sN ?_
 obtain ⟨a0,a1,h⟩ := Qct h
 refine rss hc none [oN,oN,oN,oc (.bool a0),oN] [(1,sL ctx1),(3,.ra 1 0),(5,.ra 2 0),(14,.bool (!a0))] (cq (Keb _ _ a1) K4p tv) ?_
 rcases is h with ⟨a2,h⟩ | ⟨a2,h⟩
 ·refine cF (!a0) (nF a2) ?_
  refine sk ?_
  obtain ⟨a3,a4,h⟩ := Qct h
  refine rs hc none [oN,oN,oN,oc (K1x a3),some (.new 3),oN] [(9,.ra 3 0)] [(3,K1w a3)] (cq (Kg1 _ _ a4) K5c tv) ?_
  refine sN ?_
  refine K8s hc 3 [(9,.ra 3 0),(21,.bool (a3.ffault != 0))] ?_
  refine ic h (fun a5 h => ?_) fun a5 h => ?_
  ·refine rs0 hc 3 [(6,.nils),(7,.nils),(8,.bool false)] [] ?_
   refine rt ?_
   obtain rfl := os h
   exact rq [false,false,true]
  refine sk ?_
  refine rs hc (rx [[0],[1],[0],[0,2],[2],[5],[6]]) [oN,oN,oN,oN,oN,oN,oN] [(6,sI a3.fty),(7,sI a3.fneeds),(8,.bool true)] [] tv ?_
  refine rt ?_
  obtain rfl := os h
  exact rq [false,false,true]
 refine cT (!a0) (nT a2) ?_
 refine rs0 hc 3 [(6,.nils),(7,.nils),(8,.bool false)] [] ?_
 refine rt ?_
 obtain rfl := os h
 exact rq [false,false,true]
def Kg8 (c : Ctx) (s0 : K00) (in1 : List Bool) (a0 : Int) : (Unit) ⊕ (Bool) → Exit → Q0a → Prop
 | .inl _ => Qcf c (.exit 2) (mkS [(1,sB in1),(2,.ra 1 0),(5,I a0)] [(1,K1s s0)])
 | .inr r => Qco TIx Tryz.f158 [] (.bool r)
def Kg9 : Option (List (List Nat)) := rx [[0],[0],[0],[0],[0,1,2,3],[5],[6],[0],[0],[0,7,8],[0,7,8,9],[0,1,2,3,4,7,8,9,10],[0,1,2,3,4,7,8,9,10,11],[0,1,2,3,4,7,8,9,10,11],[0,1,2,3,4,7,8,9,10,11,12,13],[0,1,2,3,4,7,8,9,10,11,12,13,14],[0,1,2,3,4,7,8,9,10,11,12,13,14,15],[17],[18],[19],[19],[19],[19],[19,20,21,22],[24],[25],[19],[19],[19,26,27],[19,26,27,28],[19,20,21,22,23,26,27,28,29],[19,20,21,22,23,26,27,28,29,30],[19,20,21,22,23,26,27,28,29,30],[19,20,21,22,23,26,27,28,29,30,31,32],[19,20,21,22,23,26,27,28,29,30,31,32,33],[19,20,21,22,23,26,27,28,29,30,31,32,33,34],[36],[37],[38],[39],[39],[41],[42],[43],[44],[44],[44],[47],[48],[49],[50],[50],[52],[53],[54],[55],[56]]
def Kga (p : K00 × (List Bool) × Int × Int) : Option ((Unit) ⊕ (Bool)) :=
 match p with
 | (s0,in1,a0,a1) =>
  if (decide (a1 < s0.fSize)) = true then
  ((
  (Kau (s0,a0,a1)) >>= fun a2 =>
  (idx in1 a2) >>= fun a3 =>
  (idx in1 a0) >>= fun a4 =>
  if a4 = true then
  if (a3 == true) = true then
  (Kax (s0,a0,a1)) >>= fun a5 =>
  (idx in1 a5) >>= fun a6 =>
  (idx in1 a0) >>= fun a7 =>
  if a7 = true then
  (idx in1 a1) >>= fun a8 =>
  if (a6 == a8) = true then
  (idx in1 a0) >>= fun a9 =>
  if a9 = true then
  (Kb0 (s0,a0,a1)) >>= fun b1 =>
  if b1 = true then
  (idx in1 a1) >>= fun b2 =>
  some ((!b2))
  else
  some (false)
  else
  some (false)
  else
  some (true)
  else
  if (a6 == false) = true then
  (idx in1 a0) >>= fun a9 =>
  if a9 = true then
  (Kb0 (s0,a0,a1)) >>= fun b1 =>
  if b1 = true then
  (idx in1 a1) >>= fun b2 =>
  some ((!b2))
  else
  some (false)
  else
  some (false)
  else
  some (true)
  else
  some (true)
  else
  (idx in1 a1) >>= fun b3 =>
  if (a3 == b3) = true then
  (Kax (s0,a0,a1)) >>= fun a5 =>
  (idx in1 a5) >>= fun a6 =>
  (idx in1 a0) >>= fun a7 =>
  if a7 = true then
  (idx in1 a1) >>= fun a8 =>
  if (a6 == a8) = true then
  (idx in1 a0) >>= fun a9 =>
  if a9 = true then
  (Kb0 (s0,a0,a1)) >>= fun b1 =>
  if b1 = true then
  (idx in1 a1) >>= fun b2 =>
  some ((!b2))
  else
  some (false)
  else
  some (false)
  else
  some (true)
  else
  if (a6 == false) = true then
  (idx in1 a0) >>= fun a9 =>
  if a9 = true then
  (Kb0 (s0,a0,a1)) >>= fun b1 =>
  if b1 = true then
  (idx in1 a1) >>= fun b2 =>
  some ((!b2))
  else
  some (false)
  else
  some (false)
  else
  some (true)
  else
  some (true)
  ) : Option (Bool)) >>= fun b4 =>
  if b4 = true then
  some (.inr false)
  else
  Kga (s0,in1,a0,(wr (a1 + 1)))
  else
  some (.inl ())
 partial_fixpoint
def Kgb (p : K00 × (List Bool) × Int × Int) (fl : (Unit) ⊕ (Bool)) : Prop :=
 match p with
 | (s0,in1,a0,a1) => ∀ c : Ctx,c.nt = 85 → WpL Tryz.prog c (cl (cl (cr (cl (cl (cr (cl (cl (cr (cl (cr (cr K5g)))))))))))) (Kg8 c s0 in1 a0 fl) (mkS [(1,sB in1),(2,.ra 1 0),(5,I a0),(6,I a1)] [(1,K1s s0)])
theorem Kgc : ∀ p r,Kga p = some r → Kgb p r := by
 refine Kga.partial_correctness Kgb ?_
 rintro spec_l1View_l0_f spec_l1View_l0_ih ⟨s0,in1,a0,a1⟩ r h
 intro c hc
 refine WpL.step ?_
 refine sN ?_
 refine K8s hc 4 [(1,sB in1),(2,.ra 1 0),(5,I a0),(6,I a1),(25,.bool (decide (a1 < s0.fSize)))] ?_
 refine ic h (fun a2 h => ?_) fun a2 h => ?_
 ·refine sk ?_
  refine sN ?_
  refine bk 3 ?_
  refine sN ?_
  obtain ⟨a3,a4,h⟩ := Qct h
  refine Wp.into (x := .normal) (mkS [(1,sB in1),(2,.ra 1 0),(5,I a0),(6,I a1),(84,.bool a3)] [(1,K1s s0)]) ?_ ?_
  ·replace h := a4
   obtain ⟨a5,a6,a7,a8,a9,b1,h⟩ := bq3 h
   rcases is h with ⟨b2,h⟩ | ⟨b2,h⟩
   ·rcases is h with ⟨b3,h⟩ | ⟨b3,h⟩
    ·obtain ⟨b4,b5,b6,b7,b8,b9,h⟩ := bq3 h
     rcases is h with ⟨c0,h⟩ | ⟨c0,h⟩
     ·obtain ⟨c1,c2,h⟩ := Qct h
      rcases is h with ⟨c3,h⟩ | ⟨c3,h⟩
      ·obtain ⟨c4,c5,h⟩ := Qct h
       rcases is h with ⟨c6,h⟩ | ⟨c6,h⟩
       ·obtain ⟨c7,c8,h⟩ := Qct h
        rcases is h with ⟨c9,h⟩ | ⟨c9,h⟩
        ·obtain ⟨d0,d1,h⟩ := Qct h
         refine rgs hc Kg9 [oN,oN,oN,oN,oc (I a5),some (.el (.bool a7)),oN,oN,oN,some (.el (.bool a9)),oN,oN,o_,o_,o_,o_,oT,oN,oN,oN,oN,oN,oN,oc (I b4),some (.el (.bool b6)),oN,oN,oN,some (.el (.bool b8)),oN,oN,oN,oN,some (.el (.bool c1)),oN,oT,oN,oF,oN,oN,oN,some (.el (.bool c4)),oN,oN,oN,oN,oN,oc (.bool c7),oT,oN,oN,oN,some (.el (.bool d0)),oN,oN,oT,oF] [(1,sB in1),(2,.ra 1 0),(5,I a0),(6,I a1),(84,.bool (!d0))] (cq (Kaw _ _ a6) K3e (ab (Qcx (enc := AV.bool) (x := .bool a7) a8 (Qda a7)) (Qcx (enc := AV.bool) (x := .bool a9) b1 (Qda a9)) (ar 4 (neF b2) (ai b2 (ar 5 (nF b3) (cq (Kaz _ _ b5) K3g (ab (nF b3) (Qcx (enc := AV.bool) (x := .bool b6) b7 (Qda b6)) (ar 4 (nF b3) (ai (Qcx (enc := AV.bool) (x := .bool b8) b9 (Qda b8)) (ar 2 (nF b3) (ar 3 c0 (ad (Qcx (enc := AV.bool) (x := .bool c1) c2 (Qda c1)) c0 (nF b3) c0 (ar 2 (nF b3) (ar 3 (nF c3) (ai (Qcx (enc := AV.bool) (x := .bool c4) c5 (Qda c4)) (ar 2 (nF c3) (ar 4 c6 (cq (Kb2 _ _ c8) K3i (ac (nF c3) c6 (nF c3) (ar 3 c9 (ai (Qcx (enc := AV.bool) (x := .bool d0) d1 (Qda d0)) (ar 2 c9 (ac (nF c3) c9 (nF c3) tv))))))))))))))))))))))) ?_
         obtain rfl := os h
         exact Qcf.mk
        refine rgs hc Kg9 [oN,oN,oN,oN,oc (I a5),some (.el (.bool a7)),oN,oN,oN,some (.el (.bool a9)),oN,oN,o_,o_,o_,o_,oT,oN,oN,oN,oN,oN,oN,oc (I b4),some (.el (.bool b6)),oN,oN,oN,some (.el (.bool b8)),oN,oN,oN,oN,some (.el (.bool c1)),oN,oT,oN,oF,oN,oN,oN,some (.el (.bool c4)),oN,oN,oN,oN,oN,oc (.bool c7),oT,oN,o_,o_,o_,o_,o_,oF,oF] [(1,sB in1),(2,.ra 1 0),(5,I a0),(6,I a1),(84,.bool false)] (cq (Kaw _ _ a6) K3e (ab (Qcx (enc := AV.bool) (x := .bool a7) a8 (Qda a7)) (Qcx (enc := AV.bool) (x := .bool a9) b1 (Qda a9)) (ar 4 (neF b2) (ai b2 (ar 5 (nF b3) (cq (Kaz _ _ b5) K3g (ab (nF b3) (Qcx (enc := AV.bool) (x := .bool b6) b7 (Qda b6)) (ar 4 (nF b3) (ai (Qcx (enc := AV.bool) (x := .bool b8) b9 (Qda b8)) (ar 2 (nF b3) (ar 3 c0 (ad (Qcx (enc := AV.bool) (x := .bool c1) c2 (Qda c1)) c0 (nF b3) c0 (ar 2 (nF b3) (ar 3 (nF c3) (ai (Qcx (enc := AV.bool) (x := .bool c4) c5 (Qda c4)) (ar 2 (nF c3) (ar 4 c6 (cq (Kb2 _ _ c8) K3i (ac (nF c3) c6 (nF c3) (ar 5 (neT c9) (ac (nF c3) c9 (nF c3) tv))))))))))))))))))))) ?_
        obtain rfl := os h
        exact Qcf.mk
       refine rgs hc Kg9 [oN,oN,oN,oN,oc (I a5),some (.el (.bool a7)),oN,oN,oN,some (.el (.bool a9)),oN,oN,o_,o_,o_,o_,oT,oN,oN,oN,oN,oN,oN,oc (I b4),some (.el (.bool b6)),oN,oN,oN,some (.el (.bool b8)),oN,oN,oN,oN,some (.el (.bool c1)),oN,oT,oN,oF,oN,oN,oN,some (.el (.bool c4)),oN,oN,o_,o_,o_,o_,oF,oN,o_,o_,o_,o_,o_,oF,oF] [(1,sB in1),(2,.ra 1 0),(5,I a0),(6,I a1),(84,.bool false)] (cq (Kaw _ _ a6) K3e (ab (Qcx (enc := AV.bool) (x := .bool a7) a8 (Qda a7)) (Qcx (enc := AV.bool) (x := .bool a9) b1 (Qda a9)) (ar 4 (neF b2) (ai b2 (ar 5 (nF b3) (cq (Kaz _ _ b5) K3g (ab (nF b3) (Qcx (enc := AV.bool) (x := .bool b6) b7 (Qda b6)) (ar 4 (nF b3) (ai (Qcx (enc := AV.bool) (x := .bool b8) b9 (Qda b8)) (ar 2 (nF b3) (ar 3 c0 (ad (Qcx (enc := AV.bool) (x := .bool c1) c2 (Qda c1)) c0 (nF b3) c0 (ar 2 (nF b3) (ar 3 (nF c3) (ai (Qcx (enc := AV.bool) (x := .bool c4) c5 (Qda c4)) (ar 2 (nF c3) (ar 4 (neT c6) (ac (nF c3) c6 (nF c3) (ar 5 (neT (rfl : false = false)) (ac (nF c3) (rfl : false = false) (nF c3) tv)))))))))))))))))))) ?_
       obtain rfl := os h
       exact Qcf.mk
      refine rgs hc Kg9 [oN,oN,oN,oN,oc (I a5),some (.el (.bool a7)),oN,oN,oN,some (.el (.bool a9)),oN,oN,o_,o_,o_,o_,oT,oN,oN,oN,oN,oN,oN,oc (I b4),some (.el (.bool b6)),oN,oN,oN,some (.el (.bool b8)),oN,oN,oN,oN,some (.el (.bool c1)),oN,oT,oN,oF,oN,o_,o_,o_,o_,o_,o_,o_,o_,o_,o_,o_,o_,o_,o_,o_,o_,o_,oT] [(1,sB in1),(2,.ra 1 0),(5,I a0),(6,I a1),(84,.bool true)] (cq (Kaw _ _ a6) K3e (ab (Qcx (enc := AV.bool) (x := .bool a7) a8 (Qda a7)) (Qcx (enc := AV.bool) (x := .bool a9) b1 (Qda a9)) (ar 4 (neF b2) (ai b2 (ar 5 (nF b3) (cq (Kaz _ _ b5) K3g (ab (nF b3) (Qcx (enc := AV.bool) (x := .bool b6) b7 (Qda b6)) (ar 4 (nF b3) (ai (Qcx (enc := AV.bool) (x := .bool b8) b9 (Qda b8)) (ar 2 (nF b3) (ar 3 c0 (ad (Qcx (enc := AV.bool) (x := .bool c1) c2 (Qda c1)) c0 (nF b3) c0 (ar 2 (nF b3) (ar 8 (neF (nT c3)) (ai (nT c3) tv))))))))))))))) ?_
      obtain rfl := os h
      exact Qcf.mk
     rcases is h with ⟨c3,h⟩ | ⟨c3,h⟩
     ·obtain ⟨c4,c5,h⟩ := Qct h
      rcases is h with ⟨c6,h⟩ | ⟨c6,h⟩
      ·obtain ⟨c7,c8,h⟩ := Qct h
       rcases is h with ⟨c9,h⟩ | ⟨c9,h⟩
       ·obtain ⟨d0,d1,h⟩ := Qct h
        refine rgs hc Kg9 [oN,oN,oN,oN,oc (I a5),some (.el (.bool a7)),oN,oN,oN,some (.el (.bool a9)),oN,oN,o_,o_,o_,o_,oT,oN,oN,oN,oN,oN,oN,oc (I b4),some (.el (.bool b6)),oN,oN,oN,some (.el (.bool b8)),oN,oN,o_,o_,o_,o_,oF,oN,oF,oN,oN,oN,some (.el (.bool c4)),oN,oN,oN,oN,oN,oc (.bool c7),oT,oN,oN,oN,some (.el (.bool d0)),oN,oN,oT,oF] [(1,sB in1),(2,.ra 1 0),(5,I a0),(6,I a1),(84,.bool (!d0))] (cq (Kaw _ _ a6) K3e (ab (Qcx (enc := AV.bool) (x := .bool a7) a8 (Qda a7)) (Qcx (enc := AV.bool) (x := .bool a9) b1 (Qda a9)) (ar 4 (neF b2) (ai b2 (ar 5 (nF b3) (cq (Kaz _ _ b5) K3g (ab (nF b3) (Qcx (enc := AV.bool) (x := .bool b6) b7 (Qda b6)) (ar 4 (nF b3) (ai (Qcx (enc := AV.bool) (x := .bool b8) b9 (Qda b8)) (ar 2 (nF b3) (ar 4 (neT c0) (ab (nF b3) c0 (ar 2 (nF b3) (ar 3 (nF c3) (ai (Qcx (enc := AV.bool) (x := .bool c4) c5 (Qda c4)) (ar 2 (nF c3) (ar 4 c6 (cq (Kb2 _ _ c8) K3i (ac (nF c3) c6 (nF c3) (ar 3 c9 (ai (Qcx (enc := AV.bool) (x := .bool d0) d1 (Qda d0)) (ar 2 c9 (ac (nF c3) c9 (nF c3) tv))))))))))))))))))))))) ?_
        obtain rfl := os h
        exact Qcf.mk
       refine rgs hc Kg9 [oN,oN,oN,oN,oc (I a5),some (.el (.bool a7)),oN,oN,oN,some (.el (.bool a9)),oN,oN,o_,o_,o_,o_,oT,oN,oN,oN,oN,oN,oN,oc (I b4),some (.el (.bool b6)),oN,oN,oN,some (.el (.bool b8)),oN,oN,o_,o_,o_,o_,oF,oN,oF,oN,oN,oN,some (.el (.bool c4)),oN,oN,oN,oN,oN,oc (.bool c7),oT,oN,o_,o_,o_,o_,o_,oF,oF] [(1,sB in1),(2,.ra 1 0),(5,I a0),(6,I a1),(84,.bool false)] (cq (Kaw _ _ a6) K3e (ab (Qcx (enc := AV.bool) (x := .bool a7) a8 (Qda a7)) (Qcx (enc := AV.bool) (x := .bool a9) b1 (Qda a9)) (ar 4 (neF b2) (ai b2 (ar 5 (nF b3) (cq (Kaz _ _ b5) K3g (ab (nF b3) (Qcx (enc := AV.bool) (x := .bool b6) b7 (Qda b6)) (ar 4 (nF b3) (ai (Qcx (enc := AV.bool) (x := .bool b8) b9 (Qda b8)) (ar 2 (nF b3) (ar 4 (neT c0) (ab (nF b3) c0 (ar 2 (nF b3) (ar 3 (nF c3) (ai (Qcx (enc := AV.bool) (x := .bool c4) c5 (Qda c4)) (ar 2 (nF c3) (ar 4 c6 (cq (Kb2 _ _ c8) K3i (ac (nF c3) c6 (nF c3) (ar 5 (neT c9) (ac (nF c3) c9 (nF c3) tv))))))))))))))))))))) ?_
       obtain rfl := os h
       exact Qcf.mk
      refine rgs hc Kg9 [oN,oN,oN,oN,oc (I a5),some (.el (.bool a7)),oN,oN,oN,some (.el (.bool a9)),oN,oN,o_,o_,o_,o_,oT,oN,oN,oN,oN,oN,oN,oc (I b4),some (.el (.bool b6)),oN,oN,oN,some (.el (.bool b8)),oN,oN,o_,o_,o_,o_,oF,oN,oF,oN,oN,oN,some (.el (.bool c4)),oN,oN,o_,o_,o_,o_,oF,oN,o_,o_,o_,o_,o_,oF,oF] [(1,sB in1),(2,.ra 1 0),(5,I a0),(6,I a1),(84,.bool false)] (cq (Kaw _ _ a6) K3e (ab (Qcx (enc := AV.bool) (x := .bool a7) a8 (Qda a7)) (Qcx (enc := AV.bool) (x := .bool a9) b1 (Qda a9)) (ar 4 (neF b2) (ai b2 (ar 5 (nF b3) (cq (Kaz _ _ b5) K3g (ab (nF b3) (Qcx (enc := AV.bool) (x := .bool b6) b7 (Qda b6)) (ar 4 (nF b3) (ai (Qcx (enc := AV.bool) (x := .bool b8) b9 (Qda b8)) (ar 2 (nF b3) (ar 4 (neT c0) (ab (nF b3) c0 (ar 2 (nF b3) (ar 3 (nF c3) (ai (Qcx (enc := AV.bool) (x := .bool c4) c5 (Qda c4)) (ar 2 (nF c3) (ar 4 (neT c6) (ac (nF c3) c6 (nF c3) (ar 5 (neT (rfl : false = false)) (ac (nF c3) (rfl : false = false) (nF c3) tv)))))))))))))))))))) ?_
      obtain rfl := os h
      exact Qcf.mk
     refine rgs hc Kg9 [oN,oN,oN,oN,oc (I a5),some (.el (.bool a7)),oN,oN,oN,some (.el (.bool a9)),oN,oN,o_,o_,o_,o_,oT,oN,oN,oN,oN,oN,oN,oc (I b4),some (.el (.bool b6)),oN,oN,oN,some (.el (.bool b8)),oN,oN,o_,o_,o_,o_,oF,oN,oF,oN,o_,o_,o_,o_,o_,o_,o_,o_,o_,o_,o_,o_,o_,o_,o_,o_,o_,oT] [(1,sB in1),(2,.ra 1 0),(5,I a0),(6,I a1),(84,.bool true)] (cq (Kaw _ _ a6) K3e (ab (Qcx (enc := AV.bool) (x := .bool a7) a8 (Qda a7)) (Qcx (enc := AV.bool) (x := .bool a9) b1 (Qda a9)) (ar 4 (neF b2) (ai b2 (ar 5 (nF b3) (cq (Kaz _ _ b5) K3g (ab (nF b3) (Qcx (enc := AV.bool) (x := .bool b6) b7 (Qda b6)) (ar 4 (nF b3) (ai (Qcx (enc := AV.bool) (x := .bool b8) b9 (Qda b8)) (ar 2 (nF b3) (ar 4 (neT c0) (ab (nF b3) c0 (ar 2 (nF b3) (ar 8 (neF (nT c3)) (ai (nT c3) tv))))))))))))))) ?_
     obtain rfl := os h
     exact Qcf.mk
    refine rgs hc Kg9 [oN,oN,oN,oN,oc (I a5),some (.el (.bool a7)),oN,oN,oN,some (.el (.bool a9)),oN,oN,o_,o_,o_,o_,oT,oN,oN,o_,o_,o_,o_,o_,o_,o_,o_,o_,o_,o_,o_,o_,o_,o_,o_,o_,o_,oT,oN,o_,o_,o_,o_,o_,o_,o_,o_,o_,o_,o_,o_,o_,o_,o_,o_,o_,oT] [(1,sB in1),(2,.ra 1 0),(5,I a0),(6,I a1),(84,.bool true)] (cq (Kaw _ _ a6) K3e (ab (Qcx (enc := AV.bool) (x := .bool a7) a8 (Qda a7)) (Qcx (enc := AV.bool) (x := .bool a9) b1 (Qda a9)) (ar 4 (neF b2) (ai b2 (ar 14 (neF (nT b3)) (ai (nT b3) (ar 8 nf (ai tt tv)))))))) ?_
    obtain rfl := os h
    exact Qcf.mk
   obtain ⟨d2,d3,h⟩ := Qct h
   rcases is h with ⟨b3,h⟩ | ⟨b3,h⟩
   ·obtain ⟨b4,b5,b6,b7,b8,b9,h⟩ := bq3 h
    rcases is h with ⟨c0,h⟩ | ⟨c0,h⟩
    ·obtain ⟨c1,c2,h⟩ := Qct h
     rcases is h with ⟨c3,h⟩ | ⟨c3,h⟩
     ·obtain ⟨c4,c5,h⟩ := Qct h
      rcases is h with ⟨c6,h⟩ | ⟨c6,h⟩
      ·obtain ⟨c7,c8,h⟩ := Qct h
       rcases is h with ⟨c9,h⟩ | ⟨c9,h⟩
       ·obtain ⟨d0,d1,h⟩ := Qct h
        refine rgs hc Kg9 [oN,oN,oN,oN,oc (I a5),some (.el (.bool a7)),oN,oN,oN,some (.el (.bool a9)),oN,oN,oN,oN,some (.el (.bool d2)),oN,oF,oN,oN,oN,oN,oN,oN,oc (I b4),some (.el (.bool b6)),oN,oN,oN,some (.el (.bool b8)),oN,oN,oN,oN,some (.el (.bool c1)),oN,oT,oN,oF,oN,oN,oN,some (.el (.bool c4)),oN,oN,oN,oN,oN,oc (.bool c7),oT,oN,oN,oN,some (.el (.bool d0)),oN,oN,oT,oF] [(1,sB in1),(2,.ra 1 0),(5,I a0),(6,I a1),(84,.bool (!d0))] (cq (Kaw _ _ a6) K3e (ab (Qcx (enc := AV.bool) (x := .bool a7) a8 (Qda a7)) (Qcx (enc := AV.bool) (x := .bool a9) b1 (Qda a9)) (ar 3 b2 (ai (Qcx (enc := AV.bool) (x := .bool d2) d3 (Qda d2)) (ar 2 b2 (ar 5 (nF b3) (cq (Kaz _ _ b5) K3g (ab (nF b3) (Qcx (enc := AV.bool) (x := .bool b6) b7 (Qda b6)) (ar 4 (nF b3) (ai (Qcx (enc := AV.bool) (x := .bool b8) b9 (Qda b8)) (ar 2 (nF b3) (ar 3 c0 (ad (Qcx (enc := AV.bool) (x := .bool c1) c2 (Qda c1)) c0 (nF b3) c0 (ar 2 (nF b3) (ar 3 (nF c3) (ai (Qcx (enc := AV.bool) (x := .bool c4) c5 (Qda c4)) (ar 2 (nF c3) (ar 4 c6 (cq (Kb2 _ _ c8) K3i (ac (nF c3) c6 (nF c3) (ar 3 c9 (ai (Qcx (enc := AV.bool) (x := .bool d0) d1 (Qda d0)) (ar 2 c9 (ac (nF c3) c9 (nF c3) tv)))))))))))))))))))))))) ?_
        obtain rfl := os h
        exact Qcf.mk
       refine rgs hc Kg9 [oN,oN,oN,oN,oc (I a5),some (.el (.bool a7)),oN,oN,oN,some (.el (.bool a9)),oN,oN,oN,oN,some (.el (.bool d2)),oN,oF,oN,oN,oN,oN,oN,oN,oc (I b4),some (.el (.bool b6)),oN,oN,oN,some (.el (.bool b8)),oN,oN,oN,oN,some (.el (.bool c1)),oN,oT,oN,oF,oN,oN,oN,some (.el (.bool c4)),oN,oN,oN,oN,oN,oc (.bool c7),oT,oN,o_,o_,o_,o_,o_,oF,oF] [(1,sB in1),(2,.ra 1 0),(5,I a0),(6,I a1),(84,.bool false)] (cq (Kaw _ _ a6) K3e (ab (Qcx (enc := AV.bool) (x := .bool a7) a8 (Qda a7)) (Qcx (enc := AV.bool) (x := .bool a9) b1 (Qda a9)) (ar 3 b2 (ai (Qcx (enc := AV.bool) (x := .bool d2) d3 (Qda d2)) (ar 2 b2 (ar 5 (nF b3) (cq (Kaz _ _ b5) K3g (ab (nF b3) (Qcx (enc := AV.bool) (x := .bool b6) b7 (Qda b6)) (ar 4 (nF b3) (ai (Qcx (enc := AV.bool) (x := .bool b8) b9 (Qda b8)) (ar 2 (nF b3) (ar 3 c0 (ad (Qcx (enc := AV.bool) (x := .bool c1) c2 (Qda c1)) c0 (nF b3) c0 (ar 2 (nF b3) (ar 3 (nF c3) (ai (Qcx (enc := AV.bool) (x := .bool c4) c5 (Qda c4)) (ar 2 (nF c3) (ar 4 c6 (cq (Kb2 _ _ c8) K3i (ac (nF c3) c6 (nF c3) (ar 5 (neT c9) (ac (nF c3) c9 (nF c3) tv)))))))))))))))))))))) ?_
       obtain rfl := os h
       exact Qcf.mk
      refine rgs hc Kg9 [oN,oN,oN,oN,oc (I a5),some (.el (.bool a7)),oN,oN,oN,some (.el (.bool a9)),oN,oN,oN,oN,some (.el (.bool d2)),oN,oF,oN,oN,oN,oN,oN,oN,oc (I b4),some (.el (.bool b6)),oN,oN,oN,some (.el (.bool b8)),oN,oN,oN,oN,some (.el (.bool c1)),oN,oT,oN,oF,oN,oN,oN,some (.el (.bool c4)),oN,oN,o_,o_,o_,o_,oF,oN,o_,o_,o_,o_,o_,oF,oF] [(1,sB in1),(2,.ra 1 0),(5,I a0),(6,I a1),(84,.bool false)] (cq (Kaw _ _ a6) K3e (ab (Qcx (enc := AV.bool) (x := .bool a7) a8 (Qda a7)) (Qcx (enc := AV.bool) (x := .bool a9) b1 (Qda a9)) (ar 3 b2 (ai (Qcx (enc := AV.bool) (x := .bool d2) d3 (Qda d2)) (ar 2 b2 (ar 5 (nF b3) (cq (Kaz _ _ b5) K3g (ab (nF b3) (Qcx (enc := AV.bool) (x := .bool b6) b7 (Qda b6)) (ar 4 (nF b3) (ai (Qcx (enc := AV.bool) (x := .bool b8) b9 (Qda b8)) (ar 2 (nF b3) (ar 3 c0 (ad (Qcx (enc := AV.bool) (x := .bool c1) c2 (Qda c1)) c0 (nF b3) c0 (ar 2 (nF b3) (ar 3 (nF c3) (ai (Qcx (enc := AV.bool) (x := .bool c4) c5 (Qda c4)) (ar 2 (nF c3) (ar 4 (neT c6) (ac (nF c3) c6 (nF c3) (ar 5 (neT (rfl : false = false)) (ac (nF c3) (rfl : false = false) (nF c3) tv))))))))))))))))))))) ?_
      obtain rfl := os h
      exact Qcf.mk
     refine rgs hc Kg9 [oN,oN,oN,oN,oc (I a5),some (.el (.bool a7)),oN,oN,oN,some (.el (.bool a9)),oN,oN,oN,oN,some (.el (.bool d2)),oN,oF,oN,oN,oN,oN,oN,oN,oc (I b4),some (.el (.bool b6)),oN,oN,oN,some (.el (.bool b8)),oN,oN,oN,oN,some (.el (.bool c1)),oN,oT,oN,oF,oN,o_,o_,o_,o_,o_,o_,o_,o_,o_,o_,o_,o_,o_,o_,o_,o_,o_,oT] [(1,sB in1),(2,.ra 1 0),(5,I a0),(6,I a1),(84,.bool true)] (cq (Kaw _ _ a6) K3e (ab (Qcx (enc := AV.bool) (x := .bool a7) a8 (Qda a7)) (Qcx (enc := AV.bool) (x := .bool a9) b1 (Qda a9)) (ar 3 b2 (ai (Qcx (enc := AV.bool) (x := .bool d2) d3 (Qda d2)) (ar 2 b2 (ar 5 (nF b3) (cq (Kaz _ _ b5) K3g (ab (nF b3) (Qcx (enc := AV.bool) (x := .bool b6) b7 (Qda b6)) (ar 4 (nF b3) (ai (Qcx (enc := AV.bool) (x := .bool b8) b9 (Qda b8)) (ar 2 (nF b3) (ar 3 c0 (ad (Qcx (enc := AV.bool) (x := .bool c1) c2 (Qda c1)) c0 (nF b3) c0 (ar 2 (nF b3) (ar 8 (neF (nT c3)) (ai (nT c3) tv)))))))))))))))) ?_
     obtain rfl := os h
     exact Qcf.mk
    rcases is h with ⟨c3,h⟩ | ⟨c3,h⟩
    ·obtain ⟨c4,c5,h⟩ := Qct h
     rcases is h with ⟨c6,h⟩ | ⟨c6,h⟩
     ·obtain ⟨c7,c8,h⟩ := Qct h
      rcases is h with ⟨c9,h⟩ | ⟨c9,h⟩
      ·obtain ⟨d0,d1,h⟩ := Qct h
       refine rgs hc Kg9 [oN,oN,oN,oN,oc (I a5),some (.el (.bool a7)),oN,oN,oN,some (.el (.bool a9)),oN,oN,oN,oN,some (.el (.bool d2)),oN,oF,oN,oN,oN,oN,oN,oN,oc (I b4),some (.el (.bool b6)),oN,oN,oN,some (.el (.bool b8)),oN,oN,o_,o_,o_,o_,oF,oN,oF,oN,oN,oN,some (.el (.bool c4)),oN,oN,oN,oN,oN,oc (.bool c7),oT,oN,oN,oN,some (.el (.bool d0)),oN,oN,oT,oF] [(1,sB in1),(2,.ra 1 0),(5,I a0),(6,I a1),(84,.bool (!d0))] (cq (Kaw _ _ a6) K3e (ab (Qcx (enc := AV.bool) (x := .bool a7) a8 (Qda a7)) (Qcx (enc := AV.bool) (x := .bool a9) b1 (Qda a9)) (ar 3 b2 (ai (Qcx (enc := AV.bool) (x := .bool d2) d3 (Qda d2)) (ar 2 b2 (ar 5 (nF b3) (cq (Kaz _ _ b5) K3g (ab (nF b3) (Qcx (enc := AV.bool) (x := .bool b6) b7 (Qda b6)) (ar 4 (nF b3) (ai (Qcx (enc := AV.bool) (x := .bool b8) b9 (Qda b8)) (ar 2 (nF b3) (ar 4 (neT c0) (ab (nF b3) c0 (ar 2 (nF b3) (ar 3 (nF c3) (ai (Qcx (enc := AV.bool) (x := .bool c4) c5 (Qda c4)) (ar 2 (nF c3) (ar 4 c6 (cq (Kb2 _ _ c8) K3i (ac (nF c3) c6 (nF c3) (ar 3 c9 (ai (Qcx (enc := AV.bool) (x := .bool d0) d1 (Qda d0)) (ar 2 c9 (ac (nF c3) c9 (nF c3) tv)))))))))))))))))))))))) ?_
       obtain rfl := os h
       exact Qcf.mk
      refine rgs hc Kg9 [oN,oN,oN,oN,oc (I a5),some (.el (.bool a7)),oN,oN,oN,some (.el (.bool a9)),oN,oN,oN,oN,some (.el (.bool d2)),oN,oF,oN,oN,oN,oN,oN,oN,oc (I b4),some (.el (.bool b6)),oN,oN,oN,some (.el (.bool b8)),oN,oN,o_,o_,o_,o_,oF,oN,oF,oN,oN,oN,some (.el (.bool c4)),oN,oN,oN,oN,oN,oc (.bool c7),oT,oN,o_,o_,o_,o_,o_,oF,oF] [(1,sB in1),(2,.ra 1 0),(5,I a0),(6,I a1),(84,.bool false)] (cq (Kaw _ _ a6) K3e (ab (Qcx (enc := AV.bool) (x := .bool a7) a8 (Qda a7)) (Qcx (enc := AV.bool) (x := .bool a9) b1 (Qda a9)) (ar 3 b2 (ai (Qcx (enc := AV.bool) (x := .bool d2) d3 (Qda d2)) (ar 2 b2 (ar 5 (nF b3) (cq (Kaz _ _ b5) K3g (ab (nF b3) (Qcx (enc := AV.bool) (x := .bool b6) b7 (Qda b6)) (ar 4 (nF b3) (ai (Qcx (enc := AV.bool) (x := .bool b8) b9 (Qda b8)) (ar 2 (nF b3) (ar 4 (neT c0) (ab (nF b3) c0 (ar 2 (nF b3) (ar 3 (nF c3) (ai (Qcx (enc := AV.bool) (x := .bool c4) c5 (Qda c4)) (ar 2 (nF c3) (ar 4 c6 (cq (Kb2 _ _ c8) K3i (ac (nF c3) c6 (nF c3) (ar 5 (neT c9) (ac (nF c3) c9 (nF c3) tv)))))))))))))))))))))) ?_
      obtain rfl := os h
      exact Qcf.mk
     refine rgs hc Kg9 [oN,oN,oN,oN,oc (I a5),some (.el (.bool a7)),oN,oN,oN,some (.el (.bool a9)),oN,oN,oN,oN,some (.el (.bool d2)),oN,oF,oN,oN,oN,oN,oN,oN,oc (I b4),some (.el (.bool b6)),oN,oN,oN,some (.el (.bool b8)),oN,oN,o_,o_,o_,o_,oF,oN,oF,oN,oN,oN,some (.el (.bool c4)),oN,oN,o_,o_,o_,o_,oF,oN,o_,o_,o_,o_,o_,oF,oF] [(1,sB in1),(2,.ra 1 0),(5,I a0),(6,I a1),(84,.bool false)] (cq (Kaw _ _ a6) K3e (ab (Qcx (enc := AV.bool) (x := .bool a7) a8 (Qda a7)) (Qcx (enc := AV.bool) (x := .bool a9) b1 (Qda a9)) (ar 3 b2 (ai (Qcx (enc := AV.bool) (x := .bool d2) d3 (Qda d2)) (ar 2 b2 (ar 5 (nF b3) (cq (Kaz _ _ b5) K3g (ab (nF b3) (Qcx (enc := AV.bool) (x := .bool b6) b7 (Qda b6)) (ar 4 (nF b3) (ai (Qcx (enc := AV.bool) (x := .bool b8) b9 (Qda b8)) (ar 2 (nF b3) (ar 4 (neT c0) (ab (nF b3) c0 (ar 2 (nF b3) (ar 3 (nF c3) (ai (Qcx (enc := AV.bool) (x := .bool c4) c5 (Qda c4)) (ar 2 (nF c3) (ar 4 (neT c6) (ac (nF c3) c6 (nF c3) (ar 5 (neT (rfl : false = false)) (ac (nF c3) (rfl : false = false) (nF c3) tv))))))))))))))))))))) ?_
     obtain rfl := os h
     exact Qcf.mk
    refine rgs hc Kg9 [oN,oN,oN,oN,oc (I a5),some (.el (.bool a7)),oN,oN,oN,some (.el (.bool a9)),oN,oN,oN,oN,some (.el (.bool d2)),oN,oF,oN,oN,oN,oN,oN,oN,oc (I b4),some (.el (.bool b6)),oN,oN,oN,some (.el (.bool b8)),oN,oN,o_,o_,o_,o_,oF,oN,oF,oN,o_,o_,o_,o_,o_,o_,o_,o_,o_,o_,o_,o_,o_,o_,o_,o_,o_,oT] [(1,sB in1),(2,.ra 1 0),(5,I a0),(6,I a1),(84,.bool true)] (cq (Kaw _ _ a6) K3e (ab (Qcx (enc := AV.bool) (x := .bool a7) a8 (Qda a7)) (Qcx (enc := AV.bool) (x := .bool a9) b1 (Qda a9)) (ar 3 b2 (ai (Qcx (enc := AV.bool) (x := .bool d2) d3 (Qda d2)) (ar 2 b2 (ar 5 (nF b3) (cq (Kaz _ _ b5) K3g (ab (nF b3) (Qcx (enc := AV.bool) (x := .bool b6) b7 (Qda b6)) (ar 4 (nF b3) (ai (Qcx (enc := AV.bool) (x := .bool b8) b9 (Qda b8)) (ar 2 (nF b3) (ar 4 (neT c0) (ab (nF b3) c0 (ar 2 (nF b3) (ar 8 (neF (nT c3)) (ai (nT c3) tv)))))))))))))))) ?_
    obtain rfl := os h
    exact Qcf.mk
   refine rgs hc Kg9 [oN,oN,oN,oN,oc (I a5),some (.el (.bool a7)),oN,oN,oN,some (.el (.bool a9)),oN,oN,oN,oN,some (.el (.bool d2)),oN,oF,oN,oN,o_,o_,o_,o_,o_,o_,o_,o_,o_,o_,o_,o_,o_,o_,o_,o_,o_,o_,oT,oN,o_,o_,o_,o_,o_,o_,o_,o_,o_,o_,o_,o_,o_,o_,o_,o_,o_,oT] [(1,sB in1),(2,.ra 1 0),(5,I a0),(6,I a1),(84,.bool true)] (cq (Kaw _ _ a6) K3e (ab (Qcx (enc := AV.bool) (x := .bool a7) a8 (Qda a7)) (Qcx (enc := AV.bool) (x := .bool a9) b1 (Qda a9)) (ar 3 b2 (ai (Qcx (enc := AV.bool) (x := .bool d2) d3 (Qda d2)) (ar 2 b2 (ar 14 (neF (nT b3)) (ai (nT b3) (ar 8 nf (ai tt tv))))))))) ?_
   obtain rfl := os h
   exact Qcf.mk
  clear a4
  refine ic h (fun d4 h => ?_) fun d4 h => ?_
  ·refine rs0 hc 1 [(4,.bool false)] [] ?_
   refine rt ?_
   obtain rfl := os h
   exact re [true]
  refine sk ?_
  refine K8r hc 3 [(1,sB in1),(2,.ra 1 0),(5,I a0),(6,I (wr (a1 + 1)))] ?_
  refine Qcb ?_
  exact (spec_l1View_l0_ih _ _ h c hc)
 refine xt 2 ?_
 refine Qc5 ?_
 refine Qcc ?_
 obtain rfl := os h
 exact iv []
end Go.Am
