/- Functions of the program as pure functions,and that it computes them. Printed by a program of mine (gen.py). -/
import Derived.Test.YtkboikcppljkeaaGreatGFAUF2
set_option linter.unusedVariables false
set_option linter.unusedSimpArgs false
set_option maxRecDepth 100000
namespace Go.Am
open Go Go.Proofs
def Kec : Option (List (List Nat)) := rx [[0],[1],[0],[0,2],[4],[5],[0],[0,6],[8],[9]]
def Ked : Option (List (List Nat)) := rx [[0],[0],[0,1],[0,1,2],[0,1,2,3],[0],[6],[7]]
def Kee : Option (List (List Nat)) := rx [[0],[1],[2],[3],[3],[3,4],[3,4,5],[3,4,5,6],[3],[9],[10],[11]]
mutual
def Kef (p : K00 × LL × K01) : Option (K02) :=
 match p with
 | (s0,ctx1,t2) =>
  if (t2.fOp == 0) = true then
  (Kcz (ctx1.length : Int)) >>= fun a0 =>
  (idx a0 t2.fN) >>= fun a1 =>
  (idx ctx1 t2.fN) >>= fun a2 =>
  (Kd2 a2) >>= fun a3 =>
  some (K02.mk a3 (List.set a0 (Int.toNat t2.fN) 1) 0 [])
  else
  if (t2.fOp == 1) = true then
  (Kcz (ctx1.length : Int)) >>= fun a4 =>
  some (K02.mk [0] a4 0 [])
  else
  ((
  if (t2.fOp == 9) = true then
  (Kd5 (ctx1,[t2.fType])) >>= fun a5 =>
  some (a5)
  else
  some (ctx1)
  ) : Option (LL)) >>= fun a6 =>
  (Keh (s0,a6,t2,0)) >>= fun a7 =>
  if (a7.ffault != 0) = true then
  some a7
  else
  ((
  if (t2.fOp == 2) = true then
  some ((t2.fOp == 2))
  else
  some ((t2.fOp == 3))
  ) : Option (Bool)) >>= fun a8 =>
  if a8 = true then
  (idx a7.fty 0) >>= fun a9 =>
  if (a9 != 0) = true then
  (Kd8 2) >>= fun b1 =>
  some b1
  else
  (Kei (s0,ctx1,t2,a7)) >>= fun b2 =>
  some b2
  else
  if (t2.fOp == 4) = true then
  (Keh (s0,ctx1,t2,1)) >>= fun b3 =>
  if (b3.ffault != 0) = true then
  some b3
  else
  (Kdf (1,[a7.fty,b3.fty])) >>= fun b4 =>
  (Kdm (s0,a7.fneeds,1,b3.fneeds)) >>= fun b5 =>
  (Kdp (b4,b5)) >>= fun b6 =>
  some b6
  else
  if (t2.fOp == 6) = true then
  (Kdf (2,[a7.fty,t2.fType])) >>= fun b7 =>
  (Kdp (b7,a7.fneeds)) >>= fun b8 =>
  some b8
  else
  if (t2.fOp == 7) = true then
  (Kdf (2,[t2.fType,a7.fty])) >>= fun b9 =>
  (Kdp (b9,a7.fneeds)) >>= fun c0 =>
  some c0
  else
  if (t2.fOp == 9) = true then
  (idx a7.fneeds 0) >>= fun c1 =>
  (K9n (s0,c1,t2.fN)) >>= fun c2 =>
  if c2 = true then
  (Kdf ((wr (3 + t2.fN)),[t2.fType,a7.fty])) >>= fun c3 =>
  (cut a7.fneeds (some 1) none none) >>= fun c4 =>
  (Kd2 c4) >>= fun c5 =>
  (Kdp (c3,c5)) >>= fun c6 =>
  some c6
  else
  (Kd8 9) >>= fun c7 =>
  some c7
  else
  if (t2.fOp == 11) = true then
  (Kdf ((wr (19 + t2.fN)),[a7.fty])) >>= fun c8 =>
  (Kcz (ctx1.length : Int)) >>= fun c9 =>
  (Kdm (s0,c9,t2.fN,a7.fneeds)) >>= fun d0 =>
  (Kdp (c8,d0)) >>= fun d1 =>
  some d1
  else
  if (t2.fOp == 10) = true then
  (idx a7.fty 0) >>= fun d2 =>
  (Kau d2) >>= fun d3 =>
  if d3 = true then
  (Keh (s0,ctx1,t2,1)) >>= fun d4 =>
  if (d4.ffault != 0) = true then
  some d4
  else
  (Kds (a7.fty,0)) >>= fun d5 =>
  (Kdz (d4.fty,d5)) >>= fun d6 =>
  if d6 = true then
  (Kds (a7.fty,1)) >>= fun d7 =>
  (idx a7.fty 0) >>= fun d8 =>
  (Kbd d8) >>= fun d9 =>
  (Kdm (s0,a7.fneeds,d9,d4.fneeds)) >>= fun e0 =>
  some (K02.mk d7 e0 0 [])
  else
  (Kd8 3) >>= fun e1 =>
  some e1
  else
  (Kd8 6) >>= fun e2 =>
  some e2
  else
  (Keg (s0,ctx1,t2,a7)) >>= fun e3 =>
  some e3
 partial_fixpoint
def Keg (p : K00 × LL × K01 × K02) : Option (K02) :=
 match p with
 | (s0,ctx1,t2,a3) =>
  (idx a3.fty 0) >>= fun a0 =>
  ((
  if (t2.fOp == 5) = true then
  some ((a0 != 1))
  else
  some (false)
  ) : Option (Bool)) >>= fun a1 =>
  if a1 = true then
  (Kd8 4) >>= fun a2 =>
  some a2
  else
  ((
  if (t2.fOp == 8) = true then
  some ((a0 != 2))
  else
  some (false)
  ) : Option (Bool)) >>= fun a4 =>
  if a4 = true then
  (Kd8 5) >>= fun a5 =>
  some a5
  else
  ((
  if (t2.fOp == 12) = true then
  (Kax a0) >>= fun a6 =>
  some ((!a6))
  else
  some (false)
  ) : Option (Bool)) >>= fun a7 =>
  if a7 = true then
  (Kd8 7) >>= fun a8 =>
  some a8
  else
  (K9n (s0,1,t2.fN)) >>= fun a9 =>
  if a9 = true then
  (Kds (a3.fty,0)) >>= fun b1 =>
  ((
  if (t2.fOp == 5) = true then
   (Kds (a3.fty,1)) >>= fun b2 =>
   (Kds (a3.fty,0)) >>= fun b3 =>
   some ([b2,b3])
  else
   some ([b1])
  ) : Option (LL)) >>= fun b4 =>
  (Kd5 (ctx1,b4)) >>= fun b5 =>
  (Keh (s0,b5,t2,1)) >>= fun b6 =>
  if (b6.ffault != 0) = true then
  some b6
  else
  (cut b6.fneeds (some (b4.length : Int)) none none) >>= fun b7 =>
  (Kd2 b7) >>= fun b8 =>
  ((
   if (t2.fOp == 12) = true then
   (Kbd a0) >>= fun b9 =>
   (K9k (s0,t2.fN,b9)) >>= fun c0 =>
   some (.inl (c0,b8,true))
   else
   ((
    if (t2.fOp == 5) = true then
    (idx b6.fneeds 1) >>= fun c1 =>
    (K9n (s0,c1,t2.fN)) >>= fun c2 =>
    some (.inl (b8,c2))
    else
    ((
     if (t2.fOp == 8) = true then
     (Kds (a3.fty,1)) >>= fun c3 =>
     (Kd5 (ctx1,[c3])) >>= fun c4 =>
     (Keh (s0,c4,t2,2)) >>= fun c5 =>
     if (c5.ffault != 0) = true then
     some (.inr c5)
     else
     (Kdz (b6.fty,c5.fty)) >>= fun c6 =>
     if c6 = true then
     (idx c5.fneeds 0) >>= fun c7 =>
     (K9n (s0,c7,t2.fN)) >>= fun c8 =>
     (cut c5.fneeds (some 1) none none) >>= fun c9 =>
     (Ke6 (s0,b8,c9)) >>= fun d0 =>
     some (.inl (d0,c8))
     else
     (Kd8 3) >>= fun d1 =>
     some (.inr d1)
     else
     some (.inl (b8,true))) : Option (((List Int) × Bool) ⊕ (K02))) >>= fun fl => match fl with
    | .inl (d2,d3) =>
     some (.inl (d2,d3))
    | .inr r =>
     some (.inr r)) : Option (((List Int) × Bool) ⊕ (K02))) >>= fun fl => match fl with
   | .inl (d4,d5) =>
    some (.inl (t2.fN,d4,d5))
   | .inr r =>
    some (.inr r)) : Option ((Int × (List Int) × Bool) ⊕ (K02))) >>= fun fl => match fl with
  | .inl (d6,d7,d8) =>
   ((
   if d8 = true then
    (idx b6.fneeds 0) >>= fun d9 =>
    (K9n (s0,d9,d6)) >>= fun e0 =>
    some ((!e0))
   else
    some (true)
   ) : Option (Bool)) >>= fun e1 =>
   if e1 = true then
   (Kd8 9) >>= fun e2 =>
   some e2
   else
   (Kcz (ctx1.length : Int)) >>= fun e3 =>
   (Kdm (s0,e3,t2.fN,a3.fneeds)) >>= fun e4 =>
   (Kdm (s0,e4,1,d7)) >>= fun e5 =>
   some (K02.mk b6.fty e5 0 [])
  | .inr r =>
   some r
  else
  (Kd8 8) >>= fun e6 =>
  some e6
 partial_fixpoint
def Keh (p : K00 × LL × K01 × Int) : Option (K02) :=
 match p with
 | (s0,ctx1,t2,k3) =>
  (idx t2.fKids k3) >>= fun a0 =>
  (Kef (s0,ctx1,a0)) >>= fun a1 =>
  ((
  if (a1.ffault != 0) = true then
  (Qdq ([k3].length + a1.fpath.length) 8) >>= fun _ =>
  some (([k3] ++ a1.fpath))
  else
  some (a1.fpath)
  ) : Option ((List Int))) >>= fun a2 =>
  some (K02.mk a1.fty a1.fneeds a1.ffault a2)
 partial_fixpoint
def Kei (p : K00 × LL × K01 × K02) : Option (K02) :=
 match p with
 | (s0,ctx1,t2,a3) =>
  (Keh (s0,ctx1,t2,1)) >>= fun a0 =>
  if (a0.ffault != 0) = true then
  some a0
  else
  if (t2.fOp == 2) = true then
  (idx a0.fty 0) >>= fun a1 =>
  if (a1 != 0) = true then
  (Kd8 2) >>= fun a2 =>
  some a2
  else
  (Kdm (s0,a3.fneeds,1,a0.fneeds)) >>= fun a4 =>
  some (K02.mk a0.fty a4 0 [])
  else
  (Keh (s0,ctx1,t2,2)) >>= fun a5 =>
  if (a5.ffault != 0) = true then
  some a5
  else
  (Kdz (a0.fty,a5.fty)) >>= fun a6 =>
  if a6 = true then
  (Ke6 (s0,a0.fneeds,a5.fneeds)) >>= fun a7 =>
  (Kdm (s0,a3.fneeds,1,a7)) >>= fun a8 =>
  some (K02.mk a0.fty a8 0 [])
  else
  (Kd8 3) >>= fun a9 =>
  some a9
 partial_fixpoint
end
def Kej (p : K00 × LL × K01) (r : K02) : Prop :=
 match p with
 | (s0,ctx1,t2) => Q71 Tryz.prog 55 [K1u s0,sL ctx1,K1w t2] (K1y r) []
def Kek (p : K00 × LL × K01 × K02) (r : K02) : Prop :=
 match p with
 | (s0,ctx1,t2,a3) => Q71 Tryz.prog 103 [K1u s0,sL ctx1,K1w t2,K1y a3] (K1y r) []
def Kel (p : K00 × LL × K01 × Int) (r : K02) : Prop :=
 match p with
 | (s0,ctx1,t2,k3) => Q71 Tryz.prog 93 [K1u s0,sL ctx1,K1w t2,I k3] (K1y r) []
def Kem (p : K00 × LL × K01 × K02) (r : K02) : Prop :=
 match p with
 | (s0,ctx1,t2,a3) => Q71 Tryz.prog 95 [K1u s0,sL ctx1,K1w t2,K1y a3] (K1y r) []
theorem Ken : (∀ p r,Kef p = some r → Kej p r) ∧ (∀ p r,Keg p = some r → Kek p r) ∧ (∀ p r,Keh p = some r → Kel p r) ∧ (∀ p r,Kei p = some r → Kem p r) := by
 refine Kef.mutual_partial_correctness Kej Kek Kel Kem ?_ ?_ ?_ ?_
 ·rintro spec_l3Taken_f spec_l3Of_f spec_l3Numbers_f spec_l3Taken_ih spec_l3Of_ih spec_l3Numbers_ih ⟨s0,ctx1,t2⟩ r h
  refine b0 Tryz.f55 B55 206 [(0,K1u s0),(1,sL ctx1),(2,K1w t2)] fun c hc => ?_
  refine rs hc none [some (.new 1),some (.new 2),some (.new 3)] [(1,sL ctx1),(3,.ra 1 0),(5,.ra 2 0),(6,.ra 3 0)] [(1,K1t s0),(2,K1v t2),(3,.box [.nils,.nils,I 0,.nils])] tv ?_
  refine sN ?_
  refine K7f hc 2 [(1,sL ctx1),(3,.ra 1 0),(5,.ra 2 0),(6,.ra 3 0),(13,I t2.fOp)] ?_
  refine bk 0 ?_
  refine K7f hc 2 [(1,sL ctx1),(3,.ra 1 0),(5,.ra 2 0),(6,.ra 3 0),(13,I t2.fOp),(14,.bool (t2.fOp == 0))] ?_
  refine ic h (fun a0 h => ?_) fun a0 h => ?_
  ·obtain ⟨a1,a2,h⟩ := Qdd h
   refine rs hc none [oN,some (.eqv (.no) ⟨[(17,I (ctx1.length : Int))],[],[]⟩),some (.call (oI a1) [] 4),oN] [(1,sL ctx1),(5,.ra 2 0),(6,.ra 3 0),(7,.rs 4)] [(2,K1v t2),(3,.box [.nils,.nils,I 0,.nils]),(4,rI a1)] (ai (Qdj (d := 17) K11 ctx1) (cq (Kd1 _ _ a2) K4m tv)) ?_
   obtain ⟨a4,a5,h⟩ := Qdd h
   refine rs hc none [oN,oN,oN,oN,some (.eqv (.mk 0 true) ⟨[],[(4,some (.arr (List.map I (List.set a1 (Int.toNat t2.fN) 1))))],[]⟩)] [(1,sL ctx1),(5,.ra 2 0),(6,.ra 3 0),(7,.rs 4)] [(2,K1v t2),(3,.box [.nils,.nils,I 0,.nils]),(4,.arr (List.map I (List.set a1 (Int.toNat t2.fN) 1)))] (ac (Qdi (enc := I) a5) (congrArg (fun z => (⟨[],[(4,some (.arr z))],[]⟩ : Wr)) (Qeg (enc := I) (i := Int.toNat t2.fN) (l := a1) (v := 1) (x := I 1) (Qds 1))) (Qeh (enc := I) (sz := 1) Qdw a5) tv) ?_
   obtain ⟨a6,a7,a8,a9,h⟩ := bq2 h
   refine rs hc none [oN,oN,oN,some (.el (sI a6)),oN,some (.call (oI a8) [] 5),oN,oN,oN] [(6,.ra 3 0)] [(3,.box [.rs 5,.rs 4,I 0,.nils]),(4,.arr (List.map I (List.set a1 (Int.toNat t2.fN) 1))),(5,rI a8)] (ai (xL a7) (cq (Kd4 _ _ a9) K4n tv)) ?_
   refine vz 5 (Qe5 a8) [(6,.ra 3 0)] [(3,.box [sI a8,.rs 4,I 0,.nils]),(4,.arr (List.map I (List.set a1 (Int.toNat t2.fN) 1)))] ?_
   refine vz 4 (Qe5 (List.set a1 (Int.toNat t2.fN) 1)) [(6,.ra 3 0)] [(3,.box [sI a8,.sl (List.map I (List.set a1 (Int.toNat t2.fN) 1)),I 0,.nils])] ?_
   refine rt ?_
   obtain rfl := os h
   exact rq [false]
  refine K7f hc 2 [(1,sL ctx1),(3,.ra 1 0),(5,.ra 2 0),(6,.ra 3 0),(31,.bool (t2.fOp == 1))] ?_
  refine ic h (fun b1 h => ?_) fun b1 h => ?_
  ·obtain ⟨b2,b3,h⟩ := Qdd h
   refine rs hc none [some (.mk 6 true),oN,some (.eqv (.no) ⟨[(35,I (ctx1.length : Int))],[],[]⟩),some (.call (oI b2) [] 7),oN,oN] [(6,.ra 3 0)] [(3,.box [.rs 6,.rs 7,I 0,.nils]),(6,.arr (List.map I [0])),(7,rI b2)] (ai (Qdj (d := 35) K11 ctx1) (cq (Kd1 _ _ b3) K4m tv)) ?_
   refine vz 6 (Qe5 [0]) [(6,.ra 3 0)] [(3,.box [.sl (List.map I [0]),.rs 7,I 0,.nils]),(7,rI b2)] ?_
   refine vz 7 (Qe5 b2) [(6,.ra 3 0)] [(3,.box [.sl (List.map I [0]),sI b2,I 0,.nils])] ?_
   refine rt ?_
   obtain rfl := os h
   exact rq [false]
  refine sk ?_
  refine K7f hc 2 [(1,sL ctx1),(3,.ra 1 0),(5,.ra 2 0),(6,.ra 3 0),(8,sL ctx1)] ?_
  refine sN ?_
  refine K7f hc 3 [(1,sL ctx1),(3,.ra 1 0),(5,.ra 2 0),(6,.ra 3 0),(8,sL ctx1),(41,.bool (t2.fOp == 9))] ?_
  obtain ⟨b4,b5,h⟩ := Qdd h
  refine Wp.into (x := .normal) (mkS [(1,sL ctx1),(3,.ra 1 0),(5,.ra 2 0),(6,.ra 3 0),(8,sL b4)] [(1,K1t s0),(2,K1v t2),(3,.box [.nils,.nils,I 0,.nils])]) ?_ ?_
  ·replace h := b5
   refine ic h (fun b6 h => ?_) fun b6 h => ?_
   ·obtain ⟨b7,b8,h⟩ := Qdd h
    refine rg hc none [oN,oN,oN,some (.mk 8 false),some (.call (.osl (List.map K11 b7)) [.tup []] 9),oN] [(1,sL ctx1),(3,.ra 1 0),(5,.ra 2 0),(6,.ra 3 0),(8,.rs 9)] [(1,K1t s0),(2,K1v t2),(3,.box [.nils,.nils,I 0,.nils]),(9,.arr (List.map K11 b7))] (ab (Q71.args (A1 := [sL ctx1,.sl (Q02 (List.map K11 [t2.fType]))]) (A2 := [sL ctx1,.sl (List.map K11 [t2.fType])]) (by simp only [List.map_nil,K15]) (Kd7 _ _ b8)) K4o tv) ?_
    obtain rfl := os h
    exact Qcz.view (fun a w hv => SRx.renL [] (SRx.frzC 9 (xs := List.map K11 b7) (xs' := List.map K11 b7) hv (by kernel_rfl) (K15 _)) (by kernel_rfl) (by kernel_rfl) (by kernel_rfl))
   refine sk ?_
   obtain rfl := os h
   exact iv []
  clear b5
  obtain ⟨b9,c0,h⟩ := Qdd h
  refine rs hc none [oN,oN,oN,oc (K1y b9),some (.new 10),oN] [(1,sL ctx1),(3,.ra 1 0),(5,.ra 2 0),(6,.ra 3 0),(9,.ra 10 0)] [(1,K1t s0),(2,K1v t2),(3,.box [.nils,.nils,I 0,.nils]),(10,K1x b9)] (cq (spec_l3Of_ih _ _ c0) K4p tv) ?_
  refine sN ?_
  refine K7f hc 3 [(1,sL ctx1),(3,.ra 1 0),(5,.ra 2 0),(6,.ra 3 0),(9,.ra 10 0),(53,.bool (b9.ffault != 0))] ?_
  refine ic h (fun c1 h => ?_) fun c1 h => ?_
  ·refine rs0 hc 2 [(6,.ra 3 0)] [(3,K1x b9)] ?_
   refine rt ?_
   obtain rfl := os h
   exact rq [false]
  refine sk ?_
  refine sN ?_
  refine K7f hc 2 [(1,sL ctx1),(3,.ra 1 0),(5,.ra 2 0),(6,.ra 3 0),(9,.ra 10 0),(56,I t2.fOp)] ?_
  refine bk 1 ?_
  refine sN ?_
  refine K7f hc 2 [(1,sL ctx1),(3,.ra 1 0),(5,.ra 2 0),(6,.ra 3 0),(9,.ra 10 0),(56,I t2.fOp),(57,.bool (t2.fOp == 2))] ?_
  obtain ⟨c2,c3,h⟩ := Qdd h
  refine Wp.into (x := .normal) (mkS [(1,sL ctx1),(3,.ra 1 0),(5,.ra 2 0),(6,.ra 3 0),(9,.ra 10 0),(56,I t2.fOp),(57,.bool c2)] [(1,K1t s0),(2,K1v t2),(3,.box [.nils,.nils,I 0,.nils]),(10,K1x b9)]) ?_ ?_
  ·replace h := c3
   refine ic h (fun c4 h => ?_) fun c4 h => ?_
   ·refine sk ?_
    obtain rfl := os h
    exact Qcz.mk
   refine K7e hc 2 [(1,sL ctx1),(3,.ra 1 0),(5,.ra 2 0),(6,.ra 3 0),(9,.ra 10 0),(56,I t2.fOp),(57,.bool (t2.fOp == 3))] ?_
   obtain rfl := os h
   exact Qcz.mk
  clear c3
  refine ic h (fun c5 h => ?_) fun c5 h => ?_
  ·refine sN ?_
   obtain ⟨c6,c7,h⟩ := Qdd h
   refine rss hc none [oN,oN,some (.el (I c6)),oN,oN] [(1,sL ctx1),(3,.ra 1 0),(5,.ra 2 0),(6,.ra 3 0),(9,.ra 10 0),(64,.bool (c6 != 0))] (ai (ix c7) tv) ?_
   refine ic h (fun c8 h => ?_) fun c8 h => ?_
   ·obtain ⟨c9,d0,h⟩ := Qdd h
    refine rs hc none [some (.call (K27 c9) [] 11),oN] [(6,.ra 3 0)] [(3,.box [.rs 11,.rs 12,I c9.ffault,.rs 13]),(11,rI c9.fty),(12,rI c9.fneeds),(13,rI c9.fpath)] (cq (Kda _ _ d0) K4q tv) ?_
    refine vz 11 (Qe5 c9.fty) [(6,.ra 3 0)] [(3,.box [sI c9.fty,.rs 12,I c9.ffault,.rs 13]),(12,rI c9.fneeds),(13,rI c9.fpath)] ?_
    refine vz 12 (Qe5 c9.fneeds) [(6,.ra 3 0)] [(3,.box [sI c9.fty,sI c9.fneeds,I c9.ffault,.rs 13]),(13,rI c9.fpath)] ?_
    refine vz 13 (Qe5 c9.fpath) [(6,.ra 3 0)] [(3,K1x c9)] ?_
    refine rt ?_
    obtain rfl := os h
    exact rq [false]
   refine sk ?_
   obtain ⟨d1,d2,h⟩ := Qdd h
   refine rs hc none [oN,oN,oN,oN,oc (K1y d1),oN] [(6,.ra 3 0)] [(3,K1x d1)] (cq (spec_l3Numbers_ih _ _ d2) K4r tv) ?_
   refine rt ?_
   obtain rfl := os h
   exact rq [false]
  refine K7f hc 2 [(1,sL ctx1),(3,.ra 1 0),(5,.ra 2 0),(6,.ra 3 0),(9,.ra 10 0),(56,I t2.fOp),(71,.bool (t2.fOp == 4))] ?_
  refine ic h (fun d3 h => ?_) fun d3 h => ?_
  ·obtain ⟨d4,d5,h⟩ := Qdd h
   refine rs hc none [oN,oN,oN,oc (K1y d4),some (.new 14),oN] [(3,.ra 1 0),(6,.ra 3 0),(9,.ra 10 0),(10,.ra 14 0)] [(1,K1t s0),(3,.box [.nils,.nils,I 0,.nils]),(10,K1x b9),(14,K1x d4)] (cq (spec_l3Of_ih _ _ d5) K4p tv) ?_
   refine sN ?_
   refine K7f hc 3 [(3,.ra 1 0),(6,.ra 3 0),(9,.ra 10 0),(10,.ra 14 0),(79,.bool (d4.ffault != 0))] ?_
   refine ic h (fun d6 h => ?_) fun d6 h => ?_
   ·refine rs0 hc 2 [(6,.ra 3 0)] [(3,K1x d4)] ?_
    refine rt ?_
    obtain rfl := os h
    exact rq [false]
   refine sk ?_
   obtain ⟨d7,d8,d9,e0,e3,e4,h⟩ := bq3 h
   refine rs hc (rx [[0],[1],[0],[0,2],[4],[5],[0],[0],[0,7],[0],[0,9],[11],[12],[13]]) [oN,oN,oN,oN,some (.mk 15 false),some (.call (oI d7) [] 16),oN,oN,oN,oN,oN,some (.call (oI d9) [] 17),some (.call (K1y e3) [.tup []] 1),oN] [(6,.ra 3 0)] [(3,K1x e3)] (ac (Q71.args (A1 := [I 1,.sl (Q02 (List.map K11 [b9.fty,d4.fty]))]) (A2 := [I 1,.sl (List.map K11 [b9.fty,d4.fty])]) (by simp only [List.map_nil,K15]) (Kdh _ _ d8)) K4s (Or.inr (Qed Qe9 d7) : ([15] : List Nat) = [] ∨ noSh (oI d7) = true) (cq (Kdo _ _ e0) K4t (ab (Q71.args (A1 := [.sl (Q02 (List.map I d7)),.sl (Q02 (List.map I d9))]) (A2 := [sI d7,sI d9]) (by simp only [List.map_nil,Qe5]) (Kdr _ _ e4)) K4u tv))) ?_
   refine rt ?_
   obtain rfl := os h
   exact rq [false]
  refine K7f hc 2 [(1,sL ctx1),(3,.ra 1 0),(5,.ra 2 0),(6,.ra 3 0),(9,.ra 10 0),(56,I t2.fOp),(94,.bool (t2.fOp == 6))] ?_
  refine ic h (fun e5 h => ?_) fun e5 h => ?_
  ·obtain ⟨e6,e7,e8,e9,h⟩ := bq2 h
   refine rs hc Kec [oN,oN,oN,oN,some (.mk 18 false),some (.call (oI e6) [] 19),oN,oN,some (.call (K1y e8) [.tup []] 1),oN] [(6,.ra 3 0)] [(3,K1x e8)] (ad (Q71.args (A1 := [I 2,.sl (Q02 (List.map K11 [b9.fty,t2.fType]))]) (A2 := [I 2,.sl (List.map K11 [b9.fty,t2.fType])]) (by simp only [List.map_nil,K15]) (Kdh _ _ e7)) K4s (Or.inr (Qed Qe9 e6) : ([18] : List Nat) = [] ∨ noSh (oI e6) = true) (Q71.args (A1 := [.sl (Q02 (List.map I e6)),sI b9.fneeds]) (A2 := [sI e6,sI b9.fneeds]) (by simp only [List.map_nil,Qe5]) (Kdr _ _ e9)) (ai K4u tv)) ?_
   refine rt ?_
   obtain rfl := os h
   exact rq [false]
  refine K7f hc 2 [(1,sL ctx1),(3,.ra 1 0),(5,.ra 2 0),(6,.ra 3 0),(9,.ra 10 0),(56,I t2.fOp),(105,.bool (t2.fOp == 7))] ?_
  refine ic h (fun f0 h => ?_) fun f0 h => ?_
  ·obtain ⟨f1,f2,f3,f4,h⟩ := bq2 h
   refine rs hc Kec [oN,oN,oN,oN,some (.mk 20 false),some (.call (oI f1) [] 21),oN,oN,some (.call (K1y f3) [.tup []] 1),oN] [(6,.ra 3 0)] [(3,K1x f3)] (ad (Q71.args (A1 := [I 2,.sl (Q02 (List.map K11 [t2.fType,b9.fty]))]) (A2 := [I 2,.sl (List.map K11 [t2.fType,b9.fty])]) (by simp only [List.map_nil,K15]) (Kdh _ _ f2)) K4s (Or.inr (Qed Qe9 f1) : ([20] : List Nat) = [] ∨ noSh (oI f1) = true) (Q71.args (A1 := [.sl (Q02 (List.map I f1)),sI b9.fneeds]) (A2 := [sI f1,sI b9.fneeds]) (by simp only [List.map_nil,Qe5]) (Kdr _ _ f4)) (ai K4u tv)) ?_
   refine rt ?_
   obtain rfl := os h
   exact rq [false]
  refine K7f hc 2 [(1,sL ctx1),(3,.ra 1 0),(5,.ra 2 0),(6,.ra 3 0),(9,.ra 10 0),(56,I t2.fOp),(116,.bool (t2.fOp == 9))] ?_
  refine ic h (fun f5 h => ?_) fun f5 h => ?_
  ·refine sN ?_
   obtain ⟨f6,f7,f8,f9,h⟩ := bq2 h
   refine rs hc (rx [[0],[0],[0,1],[0,1,2],[0,1,2,3],[0],[0,5],[7],[8]]) [oN,oN,oN,some (.el (I f6)),oN,oN,oN,oc (.bool f8),oN] [(5,.ra 2 0),(6,.ra 3 0),(9,.ra 10 0),(126,.bool (!f8))] [(2,K1v t2),(3,.box [.nils,.nils,I 0,.nils]),(10,K1x b9)] (ai (ix f7) (cq (K9p _ _ f9) K3h tv)) ?_
   rcases is h with ⟨g0,h⟩ | ⟨g0,h⟩
   ·refine cF (!f8) (nF g0) ?_
    refine sk ?_
    obtain ⟨g1,g2,g3,g4,g5,g6,g7,g8,h⟩ := bq4 h
    refine rs hc (rx [[0],[1],[2],[0],[0,3],[0],[0,5],[0,3,4,5,6],[8],[0],[0,9],[0,9,10],[12],[13],[14]]) [oN,oN,oN,oN,oN,oN,oN,some (.mk 22 false),some (.call (oI g1) [] 23),oN,oN,some (.eqv (.no) ⟨[(139,sI g3)],[],[]⟩),some (.call (oI g5) [] 24),some (.call (K1y g7) [.tup []] 1),oN] [(6,.ra 3 0)] [(3,K1x g7)] (ad (Q71.args (A1 := [I (wr (3 + t2.fN)),.sl (Q02 (List.map K11 [t2.fType,b9.fty]))]) (A2 := [I (wr (3 + t2.fN)),.sl (List.map K11 [t2.fType,b9.fty])]) (by simp only [List.map_nil,K15]) (Kdh _ _ g2)) K4s (Or.inr (Qed Qe9 g1) : ([22] : List Nat) = [] ∨ noSh (oI g1) = true) (Qdm (d := 139) I g4) (ai (Qdl (enc := I) (sz := 1) Qdw g4) (cq (Kd4 _ _ g6) K4n (ab (Q71.args (A1 := [.sl (Q02 (List.map I g1)),.sl (Q02 (List.map I g5))]) (A2 := [sI g1,sI g5]) (by simp only [List.map_nil,Qe5]) (Kdr _ _ g8)) K4u tv)))) ?_
    refine rt ?_
    obtain rfl := os h
    exact rq [false]
   refine cT (!f8) (nT g0) ?_
   obtain ⟨g9,i0,h⟩ := Qdd h
   refine rs hc none [some (.call (K27 g9) [] 25),oN] [(6,.ra 3 0)] [(3,.box [.rs 25,.rs 26,I g9.ffault,.rs 27]),(25,rI g9.fty),(26,rI g9.fneeds),(27,rI g9.fpath)] (cq (Kda _ _ i0) K4q tv) ?_
   refine vz 25 (Qe5 g9.fty) [(6,.ra 3 0)] [(3,.box [sI g9.fty,.rs 26,I g9.ffault,.rs 27]),(26,rI g9.fneeds),(27,rI g9.fpath)] ?_
   refine vz 26 (Qe5 g9.fneeds) [(6,.ra 3 0)] [(3,.box [sI g9.fty,sI g9.fneeds,I g9.ffault,.rs 27]),(27,rI g9.fpath)] ?_
   refine vz 27 (Qe5 g9.fpath) [(6,.ra 3 0)] [(3,K1x g9)] ?_
   refine rt ?_
   obtain rfl := os h
   exact rq [false]
  refine K7f hc 2 [(1,sL ctx1),(3,.ra 1 0),(5,.ra 2 0),(6,.ra 3 0),(9,.ra 10 0),(56,I t2.fOp),(142,.bool (t2.fOp == 11))] ?_
  refine ic h (fun i1 h => ?_) fun i1 h => ?_
  ·obtain ⟨i2,i3,i4,i5,i6,i7,i8,i9,h⟩ := bq4 h
   refine rs hc (rx [[0],[1],[2],[0],[0,3],[0,3,4],[6],[0],[0],[0,8],[7,8,9],[0],[0,11],[0],[0,13],[15],[16],[17]]) [oN,oN,oN,oN,oN,some (.mk 28 false),some (.call (oI i2) [] 29),oN,oN,some (.eqv (.no) ⟨[(153,I (ctx1.length : Int))],[],[]⟩),some (.call (oI i4) [] 30),oN,oN,oN,oN,some (.call (oI i6) [] 31),some (.call (K1y i8) [.tup []] 1),oN] [(6,.ra 3 0)] [(3,K1x i8)] (ad (Q71.args (A1 := [I (wr (19 + t2.fN)),.sl (Q02 (List.map K11 [b9.fty]))]) (A2 := [I (wr (19 + t2.fN)),.sl (List.map K11 [b9.fty])]) (by simp only [List.map_nil,K15]) (Kdh _ _ i3)) K4s (Or.inr (Qed Qe9 i2) : ([28] : List Nat) = [] ∨ noSh (oI i2) = true) (Qdj (d := 153) K11 ctx1) (cq (Kd1 _ _ i5) K4m (ad (Q71.args (A1 := [K1u s0,.sl (Q02 (List.map I i4)),I t2.fN,sI b9.fneeds]) (A2 := [K1u s0,sI i4,I t2.fN,sI b9.fneeds]) (by simp only [List.map_nil,Qe5]) (Kdo _ _ i7)) K4t (Or.inr (Qed Qe9 i6) : ([30] : List Nat) = [] ∨ noSh (oI i6) = true) (Q71.args (A1 := [.sl (Q02 (List.map I i2)),.sl (Q02 (List.map I i6))]) (A2 := [sI i2,sI i6]) (by simp only [List.map_nil,Qe5]) (Kdr _ _ i9)) (ai K4u tv)))) ?_
   refine rt ?_
   obtain rfl := os h
   exact rq [false]
  refine K7f hc 2 [(1,sL ctx1),(3,.ra 1 0),(5,.ra 2 0),(6,.ra 3 0),(9,.ra 10 0),(161,.bool (t2.fOp == 10))] ?_
  refine ic h (fun j0 h => ?_) fun j0 h => ?_
  ·refine sN ?_
   obtain ⟨j8,j9,k0,k1,h⟩ := bq2 h
   refine rss hc none [oN,oN,some (.el (I j8)),oN,oc (.bool k0),oN] [(1,sL ctx1),(3,.ra 1 0),(5,.ra 2 0),(6,.ra 3 0),(9,.ra 10 0),(168,.bool (!k0))] (ai (ix j9) (cq (Kaw _ _ k1) K3s tv)) ?_
   rcases is h with ⟨k2,h⟩ | ⟨k2,h⟩
   ·refine cF (!k0) (nF k2) ?_
    refine sk ?_
    obtain ⟨k4,k5,h⟩ := Qdd h
    refine rs hc none [oN,oN,oN,oc (K1y k4),some (.new 32),oN] [(3,.ra 1 0),(6,.ra 3 0),(9,.ra 10 0),(11,.ra 32 0)] [(1,K1t s0),(3,.box [.nils,.nils,I 0,.nils]),(10,K1x b9),(32,K1x k4)] (cq (spec_l3Of_ih _ _ k5) K4p tv) ?_
    refine sN ?_
    refine K7f hc 3 [(3,.ra 1 0),(6,.ra 3 0),(9,.ra 10 0),(11,.ra 32 0),(176,.bool (k4.ffault != 0))] ?_
    refine ic h (fun k6 h => ?_) fun k6 h => ?_
    ·refine rs0 hc 2 [(6,.ra 3 0)] [(3,K1x k4)] ?_
     refine rt ?_
     obtain rfl := os h
     exact rq [false]
    refine sk ?_
    refine sN ?_
    obtain ⟨k7,k8,k9,l0,h⟩ := bq2 h
    refine rss hc (rx [[0],[1],[0],[0,2],[0,2,3],[5],[6]]) [oN,oN,oN,oN,some (.call (oI k7) [] 33),oc (.bool k9),oN] [(3,.ra 1 0),(6,.ra 3 0),(9,.ra 10 0),(11,.ra 32 0),(184,.bool (!k9))] (cq (Kdu _ _ k8) K4w (ac (Q71.args (A1 := [sI k4.fty,.sl (Q02 (List.map I k7))]) (A2 := [sI k4.fty,sI k7]) (by simp only [List.map_nil,Qe5]) (Ke1 _ _ l0)) K4x (Or.inr rfl : ([33] : List Nat) = [] ∨ noSh (.bool k9) = true) tv)) ?_
    rcases is h with ⟨l1,h⟩ | ⟨l1,h⟩
    ·refine cF (!k9) (nF l1) ?_
     refine sk ?_
     obtain ⟨l2,l3,l4,l5,l6,l7,l8,l9,h⟩ := bq4 h
     refine rs hc (rx [[0],[1],[2],[0],[0],[0,4],[0],[0,6],[0,6,7],[0,6,7,8],[3,6,7,8,9],[0],[0,11],[13],[14],[15]]) [oN,oN,some (.call (oI l2) [] 34),oN,oN,oN,oN,oN,some (.el (I l4)),oN,oc (I l6),oN,oN,some (.call (oI l8) [] 35),oN,oN] [(6,.ra 3 0)] [(3,.box [.rs 34,.rs 35,I 0,.nils]),(34,rI l2),(35,rI l8)] (cq (Kdu _ _ l3) K4w (ai (ix l5) (cq (Kbf _ _ l7) K42 (cq (Kdo _ _ l9) K4t tv)))) ?_
     refine vz 34 (Qe5 l2) [(6,.ra 3 0)] [(3,.box [sI l2,.rs 35,I 0,.nils]),(35,rI l8)] ?_
     refine vz 35 (Qe5 l8) [(6,.ra 3 0)] [(3,.box [sI l2,sI l8,I 0,.nils])] ?_
     refine rt ?_
     obtain rfl := os h
     exact rq [false]
    refine cT (!k9) (nT l1) ?_
    obtain ⟨m0,m1,h⟩ := Qdd h
    refine rs hc none [some (.call (K27 m0) [] 36),oN] [(6,.ra 3 0)] [(3,.box [.rs 36,.rs 37,I m0.ffault,.rs 38]),(36,rI m0.fty),(37,rI m0.fneeds),(38,rI m0.fpath)] (cq (Kda _ _ m1) K4q tv) ?_
    refine vz 36 (Qe5 m0.fty) [(6,.ra 3 0)] [(3,.box [sI m0.fty,.rs 37,I m0.ffault,.rs 38]),(37,rI m0.fneeds),(38,rI m0.fpath)] ?_
    refine vz 37 (Qe5 m0.fneeds) [(6,.ra 3 0)] [(3,.box [sI m0.fty,sI m0.fneeds,I m0.ffault,.rs 38]),(38,rI m0.fpath)] ?_
    refine vz 38 (Qe5 m0.fpath) [(6,.ra 3 0)] [(3,K1x m0)] ?_
    refine rt ?_
    obtain rfl := os h
    exact rq [false]
   refine cT (!k0) (nT k2) ?_
   obtain ⟨m2,m3,h⟩ := Qdd h
   refine rs hc none [some (.call (K27 m2) [] 39),oN] [(6,.ra 3 0)] [(3,.box [.rs 39,.rs 40,I m2.ffault,.rs 41]),(39,rI m2.fty),(40,rI m2.fneeds),(41,rI m2.fpath)] (cq (Kda _ _ m3) K4q tv) ?_
   refine vz 39 (Qe5 m2.fty) [(6,.ra 3 0)] [(3,.box [sI m2.fty,.rs 40,I m2.ffault,.rs 41]),(40,rI m2.fneeds),(41,rI m2.fpath)] ?_
   refine vz 40 (Qe5 m2.fneeds) [(6,.ra 3 0)] [(3,.box [sI m2.fty,sI m2.fneeds,I m2.ffault,.rs 41]),(41,rI m2.fpath)] ?_
   refine vz 41 (Qe5 m2.fpath) [(6,.ra 3 0)] [(3,K1x m2)] ?_
   refine rt ?_
   obtain rfl := os h
   exact rq [false]
  refine sk ?_
  obtain ⟨m4,m5,h⟩ := Qdd h
  refine rs hc none [oN,oN,oN,oN,oc (K1y m4),oN] [(6,.ra 3 0)] [(3,K1x m4)] (cq (spec_l3Taken_ih _ _ m5) K4z tv) ?_
  refine rt ?_
  obtain rfl := os h
  exact rq [false]
 ·rintro spec_l3Of_f spec_l3Of_ih ⟨s0,ctx1,t2,a3⟩ r h
  refine b0 Tryz.f103 K4y 170 [(0,K1u s0),(1,sL ctx1),(2,K1w t2),(3,K1y a3)] fun c hc => ?_
  refine rs hc none [some (.new 1),some (.new 2),some (.new 3),some (.new 4)] [(1,sL ctx1),(4,.ra 1 0),(6,.ra 2 0),(7,.ra 3 0),(8,.ra 4 0)] [(1,K1t s0),(2,K1v t2),(3,K1x a3),(4,.box [.nils,.nils,I 0,.nils])] tv ?_
  obtain ⟨m6,m7,h⟩ := Qdd h
  refine rss hc none [oN,oN,some (.el (I m6)),oN,oN] [(1,sL ctx1),(4,.ra 1 0),(6,.ra 2 0),(7,.ra 3 0),(8,.ra 4 0),(9,I m6)] (ai (ix m7) tv) ?_
  refine sN ?_
  refine bk 0 ?_
  refine sN ?_
  obtain ⟨m8,m9,h⟩ := Qdd h
  refine Wp.into (x := .normal) (mkS [(1,sL ctx1),(4,.ra 1 0),(6,.ra 2 0),(7,.ra 3 0),(8,.ra 4 0),(9,I m6),(21,.bool m8)] [(1,K1t s0),(2,K1v t2),(3,K1x a3),(4,.box [.nils,.nils,I 0,.nils])]) ?_ ?_
  ·replace h := m9
   rcases is h with ⟨n0,h⟩ | ⟨n0,h⟩
   ·refine rgs hc none [oN,oN,oN,oN,oN,oN,oT,oN] [(1,sL ctx1),(4,.ra 1 0),(6,.ra 2 0),(7,.ra 3 0),(8,.ra 4 0),(9,I m6),(21,.bool (m6 != 1))] (ar 3 n0 tv) ?_
    obtain rfl := os h
    exact Qcz.mk
   refine rgs hc none [oN,oN,oN,oN,o_,o_,oF,oN] [(1,sL ctx1),(4,.ra 1 0),(6,.ra 2 0),(7,.ra 3 0),(8,.ra 4 0),(9,I m6),(21,.bool false)] (ar 2 (neT n0) (ai n0 tv)) ?_
   obtain rfl := os h
   exact Qcz.mk
  clear m9
  refine ic h (fun b6 h => ?_) fun b6 h => ?_
  ·obtain ⟨n1,n2,h⟩ := Qdd h
   refine rs hc none [some (.call (K27 n1) [] 5),oN] [(8,.ra 4 0)] [(4,.box [.rs 5,.rs 6,I n1.ffault,.rs 7]),(5,rI n1.fty),(6,rI n1.fneeds),(7,rI n1.fpath)] (cq (Kda _ _ n2) K4q tv) ?_
   refine vz 5 (Qe5 n1.fty) [(8,.ra 4 0)] [(4,.box [sI n1.fty,.rs 6,I n1.ffault,.rs 7]),(6,rI n1.fneeds),(7,rI n1.fpath)] ?_
   refine vz 6 (Qe5 n1.fneeds) [(8,.ra 4 0)] [(4,.box [sI n1.fty,sI n1.fneeds,I n1.ffault,.rs 7]),(7,rI n1.fpath)] ?_
   refine vz 7 (Qe5 n1.fpath) [(8,.ra 4 0)] [(4,K1x n1)] ?_
   refine rt ?_
   obtain rfl := os h
   exact rq [false]
  refine sN ?_
  obtain ⟨n3,n4,h⟩ := Qdd h
  refine Wp.into (x := .normal) (mkS [(1,sL ctx1),(4,.ra 1 0),(6,.ra 2 0),(7,.ra 3 0),(8,.ra 4 0),(9,I m6),(30,.bool n3)] [(1,K1t s0),(2,K1v t2),(3,K1x a3),(4,.box [.nils,.nils,I 0,.nils])]) ?_ ?_
  ·replace h := n4
   rcases is h with ⟨n5,h⟩ | ⟨n5,h⟩
   ·refine rgs hc none [oN,oN,oN,oN,oN,oN,oT,oN] [(1,sL ctx1),(4,.ra 1 0),(6,.ra 2 0),(7,.ra 3 0),(8,.ra 4 0),(9,I m6),(30,.bool (m6 != 2))] (ar 3 n5 tv) ?_
    obtain rfl := os h
    exact Qcz.mk
   refine rgs hc none [oN,oN,oN,oN,o_,o_,oF,oN] [(1,sL ctx1),(4,.ra 1 0),(6,.ra 2 0),(7,.ra 3 0),(8,.ra 4 0),(9,I m6),(30,.bool false)] (ar 2 (neT n5) (ai n5 tv)) ?_
   obtain rfl := os h
   exact Qcz.mk
  clear n4
  refine ic h (fun n6 h => ?_) fun n6 h => ?_
  ·obtain ⟨n7,n8,h⟩ := Qdd h
   refine rs hc none [some (.call (K27 n7) [] 8),oN] [(8,.ra 4 0)] [(4,.box [.rs 8,.rs 9,I n7.ffault,.rs 10]),(8,rI n7.fty),(9,rI n7.fneeds),(10,rI n7.fpath)] (cq (Kda _ _ n8) K4q tv) ?_
   refine vz 8 (Qe5 n7.fty) [(8,.ra 4 0)] [(4,.box [sI n7.fty,.rs 9,I n7.ffault,.rs 10]),(9,rI n7.fneeds),(10,rI n7.fpath)] ?_
   refine vz 9 (Qe5 n7.fneeds) [(8,.ra 4 0)] [(4,.box [sI n7.fty,sI n7.fneeds,I n7.ffault,.rs 10]),(10,rI n7.fpath)] ?_
   refine vz 10 (Qe5 n7.fpath) [(8,.ra 4 0)] [(4,K1x n7)] ?_
   refine rt ?_
   obtain rfl := os h
   exact rq [false]
  refine sN ?_
  obtain ⟨n9,o0,h⟩ := Qdd h
  refine Wp.into (x := .normal) (mkS [(1,sL ctx1),(4,.ra 1 0),(6,.ra 2 0),(7,.ra 3 0),(8,.ra 4 0),(9,I m6),(39,.bool n9)] [(1,K1t s0),(2,K1v t2),(3,K1x a3),(4,.box [.nils,.nils,I 0,.nils])]) ?_ ?_
  ·replace h := o0
   rcases is h with ⟨o1,h⟩ | ⟨o1,h⟩
   ·obtain ⟨o2,o3,h⟩ := Qdd h
    refine rgs hc none [oN,oN,oN,oN,oN,oc (.bool o2),oN,oT,oN] [(1,sL ctx1),(4,.ra 1 0),(6,.ra 2 0),(7,.ra 3 0),(8,.ra 4 0),(9,I m6),(39,.bool (!o2))] (ar 2 o1 (cq (Kaz _ _ o3) K3u (ar 2 o1 tv))) ?_
    obtain rfl := os h
    exact Qcz.mk
   refine rgs hc none [oN,oN,oN,oN,o_,o_,o_,oF,oN] [(1,sL ctx1),(4,.ra 1 0),(6,.ra 2 0),(7,.ra 3 0),(8,.ra 4 0),(9,I m6),(39,.bool false)] (ar 3 (neT o1) (ai o1 tv)) ?_
   obtain rfl := os h
   exact Qcz.mk
  clear o0
  refine ic h (fun o4 h => ?_) fun o4 h => ?_
  ·obtain ⟨o5,o6,h⟩ := Qdd h
   refine rs hc none [some (.call (K27 o5) [] 11),oN] [(8,.ra 4 0)] [(4,.box [.rs 11,.rs 12,I o5.ffault,.rs 13]),(11,rI o5.fty),(12,rI o5.fneeds),(13,rI o5.fpath)] (cq (Kda _ _ o6) K4q tv) ?_
   refine vz 11 (Qe5 o5.fty) [(8,.ra 4 0)] [(4,.box [sI o5.fty,.rs 12,I o5.ffault,.rs 13]),(12,rI o5.fneeds),(13,rI o5.fpath)] ?_
   refine vz 12 (Qe5 o5.fneeds) [(8,.ra 4 0)] [(4,.box [sI o5.fty,sI o5.fneeds,I o5.ffault,.rs 13]),(13,rI o5.fpath)] ?_
   refine vz 13 (Qe5 o5.fpath) [(8,.ra 4 0)] [(4,K1x o5)] ?_
   refine rt ?_
   obtain rfl := os h
   exact rq [false]
  refine sk ?_
  refine sN ?_
  obtain ⟨o7,o8,h⟩ := Qdd h
  refine rss hc none [oN,oN,oN,oc (.bool o7),oN] [(1,sL ctx1),(4,.ra 1 0),(6,.ra 2 0),(7,.ra 3 0),(8,.ra 4 0),(9,I m6),(53,.bool (!o7))] (cq (K9p _ _ o8) K3h tv) ?_
  rcases is h with ⟨o9,h⟩ | ⟨o9,h⟩
  ·refine cF (!o7) (nF o9) ?_
   refine sk ?_
   obtain ⟨p0,p1,h⟩ := Qdd h
   refine rs hc none [oN,oN,some (.call (oI p0) [] 14),some (.mk 15 true),oN] [(1,sL ctx1),(4,.ra 1 0),(6,.ra 2 0),(7,.ra 3 0),(8,.ra 4 0),(9,I m6),(10,.rs 15)] [(1,K1t s0),(2,K1v t2),(3,K1x a3),(4,.box [.nils,.nils,I 0,.nils]),(15,.arr (List.map K16 [p0]))] (cq (Kdu _ _ p1) K4w tv) ?_
   refine sN ?_
   refine K7f hc 3 [(1,sL ctx1),(4,.ra 1 0),(6,.ra 2 0),(7,.ra 3 0),(8,.ra 4 0),(9,I m6),(10,.rs 15),(61,.bool (t2.fOp == 5))] ?_
   obtain ⟨p2,p3,h⟩ := Qdd h
   refine Wp.into (x := .normal) (mkS [(1,sL ctx1),(4,.ra 1 0),(6,.ra 2 0),(7,.ra 3 0),(8,.ra 4 0),(9,I m6),(10,.rs 18)] [(1,K1t s0),(2,K1v t2),(3,K1x a3),(4,.box [.nils,.nils,I 0,.nils]),(18,.arr (List.map K16 p2))]) ?_ ?_
   ·replace h := p3
    refine ic h (fun c5 h => ?_) fun c5 h => ?_
    ·obtain ⟨p4,p5,p6,p7,h⟩ := bq2 h
     refine rg hc (rx [[0],[1],[2],[0],[0,3],[5],[6],[7]]) [oN,oN,some (.call (oI p4) [] 16),oN,oN,some (.call (oI p6) [] 17),some (.mk 18 true),oN] [(1,sL ctx1),(4,.ra 1 0),(6,.ra 2 0),(7,.ra 3 0),(8,.ra 4 0),(9,I m6),(10,.rs 18)] [(1,K1t s0),(2,K1v t2),(3,K1x a3),(4,.box [.nils,.nils,I 0,.nils]),(18,.arr (List.map K16 [p4,p6]))] (cq (Kdu _ _ p5) K4w (cq (Kdu _ _ p7) K4w tv)) ?_
     obtain rfl := os h
     exact Qcz.mk
    refine sk ?_
    obtain rfl := os h
    exact iv [(18,15)]
   clear p3
   refine sN ?_
   refine vz 18 (K1a p2) [(1,sL ctx1),(4,.ra 1 0),(6,.ra 2 0),(7,.ra 3 0),(8,.ra 4 0),(9,I m6),(10,sL p2)] [(1,K1t s0),(2,K1v t2),(3,K1x a3),(4,.box [.nils,.nils,I 0,.nils])] ?_
   obtain ⟨p8,p9,q0,q1,h⟩ := bq2 h
   refine rg hc (rx [[0],[0],[0],[0,1,2],[0],[5],[0],[7]]) [oN,oN,oN,some (.call (.osl (List.map K11 p8)) [] 20),oN,some (.call (K1y q0) [.tup []] 1),some (.new 21),oN] [(1,sL ctx1),(4,.ra 1 0),(6,.ra 2 0),(7,.ra 3 0),(8,.ra 4 0),(9,I m6),(10,sL p2),(11,.ra 21 0)] [(1,K1t s0),(2,K1v t2),(3,K1x a3),(4,.box [.nils,.nils,I 0,.nils]),(21,K1x q0)] (cq (Kd7 _ _ p9) K4o (ab (Q71.args (A1 := [K1u s0,.sl (Q02 (List.map K11 p8)),K1w t2,I 1]) (A2 := [K1u s0,sL p8,K1w t2,I 1]) (by simp only [List.map_nil,K15]) (spec_l3Of_ih _ _ q1)) K4p tv)) ?_
   refine sN ?_
   refine K7f hc 3 [(1,sL ctx1),(4,.ra 1 0),(6,.ra 2 0),(7,.ra 3 0),(8,.ra 4 0),(9,I m6),(10,sL p2),(11,.ra 21 0),(77,.bool (q0.ffault != 0))] ?_
   refine ic h (fun d6 h => ?_) fun d6 h => ?_
   ·refine rs0 hc 2 [(8,.ra 4 0)] [(4,K1x q0)] ?_
    refine rt ?_
    obtain rfl := os h
    exact rq [false]
   refine sk ?_
   refine rss hc none [oN,some (.eqv (.no) ⟨[(80,I (p2.length : Int))],[],[]⟩),oN] [(1,sL ctx1),(4,.ra 1 0),(6,.ra 2 0),(7,.ra 3 0),(8,.ra 4 0),(9,I m6),(11,.ra 21 0),(12,I (p2.length : Int))] (ai (Qdj (d := 80) K11 p2) tv) ?_
   refine K7f hc 3 [(1,sL ctx1),(4,.ra 1 0),(6,.ra 2 0),(7,.ra 3 0),(8,.ra 4 0),(9,I m6),(11,.ra 21 0),(12,I (p2.length : Int)),(13,I t2.fN)] ?_
   obtain ⟨q2,q3,q4,q5,h⟩ := bq2 h
   refine rs hc none [oN,oN,oN,some (.eqv (.no) ⟨[(86,sI q2)],[],[]⟩),some (.call (oI q4) [] 22),oN] [(1,sL ctx1),(4,.ra 1 0),(6,.ra 2 0),(7,.ra 3 0),(8,.ra 4 0),(9,I m6),(11,.ra 21 0),(13,I t2.fN),(14,.rs 22)] [(1,K1t s0),(2,K1v t2),(3,K1x a3),(4,.box [.nils,.nils,I 0,.nils]),(21,K1x q0),(22,rI q4)] (ab (Qdm (d := 86) I q3) (Qdl (enc := I) (sz := 1) Qdw q3) (cq (Kd4 _ _ q5) K4n tv)) ?_
   refine K7f hc 1 [(1,sL ctx1),(4,.ra 1 0),(6,.ra 2 0),(7,.ra 3 0),(8,.ra 4 0),(9,I m6),(11,.ra 21 0),(13,I t2.fN),(14,.rs 22),(15,.bool true)] ?_
   refine sN ?_
   refine K7f hc 2 [(1,sL ctx1),(4,.ra 1 0),(6,.ra 2 0),(7,.ra 3 0),(8,.ra 4 0),(9,I m6),(11,.ra 21 0),(13,I t2.fN),(14,.rs 22),(15,.bool true),(89,I t2.fOp)] ?_
   refine bk 1 ?_
   refine K7f hc 2 [(1,sL ctx1),(4,.ra 1 0),(6,.ra 2 0),(7,.ra 3 0),(8,.ra 4 0),(9,I m6),(11,.ra 21 0),(13,I t2.fN),(14,.rs 22),(15,.bool true),(89,I t2.fOp),(90,.bool (t2.fOp == 12))] ?_
   obtain ⟨fl,q6,h⟩ := Qdd h
   refine flw (Keb c s0 ctx1 t2 a3 q0 fl) ?_ (fun hF => ?_)
   ·replace h := q6
    refine ic h (fun e5 h => ?_) fun e5 h => ?_
    ·obtain ⟨q7,q8,q9,r0,h⟩ := bq2 h
     refine rgs hc (rx [[0],[0],[0,1],[0],[0,3],[5],[6]]) [oN,oN,oN,oN,oc (I q7),oc (I q9),oN] [(1,sL ctx1),(4,.ra 1 0),(6,.ra 2 0),(7,.ra 3 0),(8,.ra 4 0),(11,.ra 21 0),(13,I q9),(14,.rs 22),(15,.bool true)] (cq (Kbf _ _ q8) K42 (cq (K9m _ _ r0) K3g tv)) ?_
     obtain rfl := os h
     exact Qcz.mk
    refine K7f hc 2 [(1,sL ctx1),(4,.ra 1 0),(6,.ra 2 0),(7,.ra 3 0),(8,.ra 4 0),(11,.ra 21 0),(13,I t2.fN),(14,.rs 22),(15,.bool true),(89,I t2.fOp),(98,.bool (t2.fOp == 5))] ?_
    obtain ⟨fl,r1,h⟩ := Qdd h
    refine flw (Kea c s0 ctx1 t2 a3 q0 fl) ?_ (fun hF => ?_)
    ·replace h := r1
     refine ic h (fun f0 h => ?_) fun f0 h => ?_
     ·obtain ⟨r2,r3,r4,r5,h⟩ := bq2 h
      refine rgs hc Ked [oN,oN,oN,some (.el (I r2)),oN,oN,oc (.bool r4),oN] [(1,sL ctx1),(4,.ra 1 0),(6,.ra 2 0),(7,.ra 3 0),(8,.ra 4 0),(11,.ra 21 0),(13,I t2.fN),(14,.rs 22),(15,.bool r4)] (ai (ix r3) (cq (K9p _ _ r5) K3h tv)) ?_
      obtain rfl := os h
      exact Qcz.mk
     refine K7f hc 2 [(1,sL ctx1),(4,.ra 1 0),(6,.ra 2 0),(7,.ra 3 0),(8,.ra 4 0),(11,.ra 21 0),(13,I t2.fN),(14,.rs 22),(15,.bool true),(107,.bool (t2.fOp == 8))] ?_
     obtain ⟨fl,r6,h⟩ := Qdd h
     refine flw (Ke9 c s0 ctx1 t2 a3 q0 fl) ?_ (fun hF => ?_)
     ·replace h := r6
      refine ic h (fun f5 h => ?_) fun f5 h => ?_
      ·obtain ⟨r7,r8,r9,s1,e8,e9,h⟩ := bq3 h
       refine rs hc (rx [[0],[0],[0],[0,2],[0,2,3],[0,2,3,4],[0,1,2,3,4,5],[0],[8],[0],[10]]) [oN,oN,oN,oN,some (.call (oI r7) [] 23),some (.mk 24 true),some (.call (.osl (List.map K11 r9)) [.tup []] 25),oN,some (.call (K1y e8) [.tup []] 1),some (.new 26),oN] [(1,sL ctx1),(4,.ra 1 0),(6,.ra 2 0),(7,.ra 3 0),(8,.ra 4 0),(11,.ra 21 0),(13,I t2.fN),(14,.rs 22),(16,.ra 26 0)] [(1,K1t s0),(2,K1v t2),(3,K1x a3),(4,.box [.nils,.nils,I 0,.nils]),(21,K1x q0),(22,rI q4),(26,K1x e8)] (cq (Kdu _ _ r8) K4w (ad (Q71.args (A1 := [sL ctx1,.sl (Q02 (List.map K16 [r7]))]) (A2 := [sL ctx1,.sl (List.map K11 [r7])]) (by simp only [List.map_nil,K1a]) (Kd7 _ _ s1)) K4o (Q71.args (A1 := [K1u s0,.sl (Q02 (List.map K11 r9)),K1w t2,I 2]) (A2 := [K1u s0,sL r9,K1w t2,I 2]) (by simp only [List.map_nil,K15]) (spec_l3Of_ih _ _ e9)) K4p tv)) ?_
       refine sN ?_
       refine K7f hc 3 [(1,sL ctx1),(4,.ra 1 0),(6,.ra 2 0),(7,.ra 3 0),(8,.ra 4 0),(11,.ra 21 0),(13,I t2.fN),(14,.rs 22),(16,.ra 26 0),(120,.bool (e8.ffault != 0))] ?_
       refine ic h (fun g0 h => ?_) fun g0 h => ?_
       ·refine rs0 hc 2 [(8,.ra 4 0)] [(4,K1x e8)] ?_
        refine rt ?_
        obtain rfl := os h
        exact re [false]
       refine sk ?_
       refine sN ?_
       obtain ⟨s2,s3,h⟩ := Qdd h
       refine rss hc none [oN,oN,oN,oN,oc (.bool s2),oN] [(1,sL ctx1),(4,.ra 1 0),(6,.ra 2 0),(7,.ra 3 0),(8,.ra 4 0),(11,.ra 21 0),(13,I t2.fN),(14,.rs 22),(16,.ra 26 0),(127,.bool (!s2))] (cq (Ke1 _ _ s3) K4x tv) ?_
       rcases is h with ⟨i1,h⟩ | ⟨i1,h⟩
       ·refine cF (!s2) (nF i1) ?_
        refine sk ?_
        obtain ⟨s4,s5,s6,s7,h⟩ := bq2 h
        refine rss hc Ked [oN,oN,oN,some (.el (I s4)),oN,oN,oc (.bool s6),oN] [(1,sL ctx1),(4,.ra 1 0),(6,.ra 2 0),(7,.ra 3 0),(8,.ra 4 0),(11,.ra 21 0),(13,I t2.fN),(14,.rs 22),(15,.bool s6),(16,.ra 26 0)] (ai (ix s5) (cq (K9p _ _ s7) K3h tv)) ?_
        obtain ⟨s8,s9,t0,t1,h⟩ := bq2 h
        refine rg hc (rx [[0],[0],[0],[0,2],[0,2,3],[5],[6]]) [oN,oN,oN,oN,some (.eqv (.no) ⟨[(140,sI s8)],[],[]⟩),some (.call (oI t0) [] 27),oN] [(1,sL ctx1),(4,.ra 1 0),(6,.ra 2 0),(7,.ra 3 0),(8,.ra 4 0),(11,.ra 21 0),(13,I t2.fN),(14,.rs 27),(15,.bool s6)] [(1,K1t s0),(2,K1v t2),(3,K1x a3),(4,.box [.nils,.nils,I 0,.nils]),(21,K1x q0),(27,rI t0)] (ad (Qdm (d := 140) I s9) (Qdl (enc := I) (sz := 1) Qdw s9) (Q71.args (A1 := [K1u s0,.sl (Q02 (List.map I q4)),sI s8]) (A2 := [K1u s0,sI q4,sI s8]) (by simp only [List.map_nil,Qe5]) (Ke8 _ _ t1)) K52 (ai (Or.inr (Qed Qe9 t0) : ([22] : List Nat) = [] ∨ noSh (oI t0) = true) tv)) ?_
        obtain rfl := os h
        exact Qcz.mk
       refine cT (!s2) (nT i1) ?_
       obtain ⟨t3,t4,h⟩ := Qdd h
       refine rs hc none [some (.call (K27 t3) [] 28),oN] [(8,.ra 4 0)] [(4,.box [.rs 28,.rs 29,I t3.ffault,.rs 30]),(28,rI t3.fty),(29,rI t3.fneeds),(30,rI t3.fpath)] (cq (Kda _ _ t4) K4q tv) ?_
       refine vz 28 (Qe5 t3.fty) [(8,.ra 4 0)] [(4,.box [sI t3.fty,.rs 29,I t3.ffault,.rs 30]),(29,rI t3.fneeds),(30,rI t3.fpath)] ?_
       refine vz 29 (Qe5 t3.fneeds) [(8,.ra 4 0)] [(4,.box [sI t3.fty,sI t3.fneeds,I t3.ffault,.rs 30]),(30,rI t3.fpath)] ?_
       refine vz 30 (Qe5 t3.fpath) [(8,.ra 4 0)] [(4,K1x t3)] ?_
       refine rt ?_
       obtain rfl := os h
       exact re [false]
      refine sk ?_
      obtain rfl := os h
      exact iv [(27,22)]
     rcases fl with ⟨t5,t6⟩ | r
     ·refine Wp.into (x := .normal) (mkS [(1,sL ctx1),(4,.ra 1 0),(6,.ra 2 0),(7,.ra 3 0),(8,.ra 4 0),(11,.ra 21 0),(13,I t2.fN),(14,.rs 27),(15,.bool t6)] [(1,K1t s0),(2,K1v t2),(3,K1x a3),(4,.box [.nils,.nils,I 0,.nils]),(21,K1x q0),(27,rI t5)]) hF ?_
      obtain rfl := os h
      exact iv [(22,27)]
     refine Wp.mono hF ?_
     rintro _ _ ⟨rfl,hfin⟩
     obtain rfl := os h
     exact ⟨rfl,hfin⟩
    rcases fl with ⟨t7,t8⟩ | r
    ·refine Wp.into (x := .normal) (mkS [(1,sL ctx1),(4,.ra 1 0),(6,.ra 2 0),(7,.ra 3 0),(8,.ra 4 0),(11,.ra 21 0),(13,I t2.fN),(14,.rs 22),(15,.bool t8)] [(1,K1t s0),(2,K1v t2),(3,K1x a3),(4,.box [.nils,.nils,I 0,.nils]),(21,K1x q0),(22,rI t7)]) hF ?_
     obtain rfl := os h
     exact Qcz.mk
    refine Wp.mono hF ?_
    rintro _ _ ⟨rfl,hfin⟩
    obtain rfl := os h
    exact ⟨rfl,hfin⟩
   rcases fl with ⟨t9,u0,u1⟩ | r
   ·refine Wp.into (x := .normal) (mkS [(1,sL ctx1),(4,.ra 1 0),(6,.ra 2 0),(7,.ra 3 0),(8,.ra 4 0),(11,.ra 21 0),(13,I t9),(14,.rs 22),(15,.bool u1)] [(1,K1t s0),(2,K1v t2),(3,K1x a3),(4,.box [.nils,.nils,I 0,.nils]),(21,K1x q0),(22,rI u0)]) hF ?_
    refine sN ?_
    refine sN ?_
    obtain ⟨u2,u3,h⟩ := Qdd h
    refine Wp.into (x := .normal) (mkS [(1,sL ctx1),(4,.ra 1 0),(6,.ra 2 0),(7,.ra 3 0),(8,.ra 4 0),(11,.ra 21 0),(14,.rs 22),(153,.bool u2)] [(1,K1t s0),(2,K1v t2),(3,K1x a3),(4,.box [.nils,.nils,I 0,.nils]),(21,K1x q0),(22,rI u0)]) ?_ ?_
    ·replace h := u3
     rcases is h with ⟨u4,h⟩ | ⟨u4,h⟩
     ·obtain ⟨u5,u6,u7,u8,h⟩ := bq2 h
      refine rgs hc Kee [oN,oN,oN,oN,oN,oN,some (.el (I u5)),oN,oN,oc (.bool u7),oN,oF] [(1,sL ctx1),(4,.ra 1 0),(6,.ra 2 0),(7,.ra 3 0),(8,.ra 4 0),(11,.ra 21 0),(14,.rs 22),(153,.bool (!u7))] (ar 4 (nF u4) (ai (ix u6) (ar 3 (nF u4) (cq (K9p _ _ u8) K3h (ar 2 (nF u4) tv))))) ?_
      obtain rfl := os h
      exact Qcz.mk
     refine rgs hc Kee [oN,oN,oN,o_,o_,o_,o_,o_,o_,o_,o_,oT] [(1,sL ctx1),(4,.ra 1 0),(6,.ra 2 0),(7,.ra 3 0),(8,.ra 4 0),(11,.ra 21 0),(14,.rs 22),(153,.bool true)] (ar 8 (neF (nT u4)) (ai (nT u4) tv)) ?_
     obtain rfl := os h
     exact Qcz.mk
    clear u3
    refine ic h (fun u9 h => ?_) fun u9 h => ?_
    ·obtain ⟨v0,v1,h⟩ := Qdd h
     refine rs hc none [some (.call (K27 v0) [] 31),oN] [(8,.ra 4 0)] [(4,.box [.rs 31,.rs 32,I v0.ffault,.rs 33]),(31,rI v0.fty),(32,rI v0.fneeds),(33,rI v0.fpath)] (cq (Kda _ _ v1) K4q tv) ?_
     refine vz 31 (Qe5 v0.fty) [(8,.ra 4 0)] [(4,.box [sI v0.fty,.rs 32,I v0.ffault,.rs 33]),(32,rI v0.fneeds),(33,rI v0.fpath)] ?_
     refine vz 32 (Qe5 v0.fneeds) [(8,.ra 4 0)] [(4,.box [sI v0.fty,sI v0.fneeds,I v0.ffault,.rs 33]),(33,rI v0.fpath)] ?_
     refine vz 33 (Qe5 v0.fpath) [(8,.ra 4 0)] [(4,K1x v0)] ?_
     refine rt ?_
     obtain rfl := os h
     exact rq [false]
    refine sk ?_
    obtain ⟨v2,v3,v4,v5,v6,v7,h⟩ := bq3 h
    refine rs hc (rx [[0],[1],[0],[0],[0],[0,4],[0,4,5],[0],[0,7],[0],[0,9],[0,3,4,5,6,7,8,9,10],[0],[0,2,3,4,5,6,7,8,9,10,11,12],[14],[15]]) [oN,oN,oN,oN,oN,some (.eqv (.no) ⟨[(160,I (ctx1.length : Int))],[],[]⟩),some (.call (oI v2) [] 34),oN,oN,oN,oN,some (.call (oI v4) [] 35),oN,some (.call (oI v6) [] 36),oN,oN] [(8,.ra 4 0)] [(4,.box [sI q0.fty,.rs 36,I 0,.nils]),(36,rI v6)] (ai (Qdj (d := 160) K11 ctx1) (cq (Kd1 _ _ v3) K4m (ad (Q71.args (A1 := [K1u s0,.sl (Q02 (List.map I v2)),I t2.fN,sI a3.fneeds]) (A2 := [K1u s0,sI v2,I t2.fN,sI a3.fneeds]) (by simp only [List.map_nil,Qe5]) (Kdo _ _ v5)) K4t (Or.inr (Qed Qe9 v4) : ([34] : List Nat) = [] ∨ noSh (oI v4) = true) (Q71.args (A1 := [K1u s0,.sl (Q02 (List.map I v4)),I 1,.sl (Q02 (List.map I u0))]) (A2 := [K1u s0,sI v4,I 1,sI u0]) (by simp only [List.map_nil,Qe5]) (Kdo _ _ v7)) (ab K4t (Or.inr (Qed Qe9 v6) : ([35,22] : List Nat) = [] ∨ noSh (oI v6) = true) tv)))) ?_
    refine vz 36 (Qe5 v6) [(8,.ra 4 0)] [(4,.box [sI q0.fty,sI v6,I 0,.nils])] ?_
    refine rt ?_
    obtain rfl := os h
    exact rq [false]
   refine Wp.mono hF ?_
   rintro _ _ ⟨rfl,hfin⟩
   obtain rfl := os h
   exact ⟨.inl rfl,hfin⟩
  refine cT (!o7) (nT o9) ?_
  obtain ⟨v8,v9,h⟩ := Qdd h
  refine rs hc none [some (.call (K27 v8) [] 37),oN] [(8,.ra 4 0)] [(4,.box [.rs 37,.rs 38,I v8.ffault,.rs 39]),(37,rI v8.fty),(38,rI v8.fneeds),(39,rI v8.fpath)] (cq (Kda _ _ v9) K4q tv) ?_
  refine vz 37 (Qe5 v8.fty) [(8,.ra 4 0)] [(4,.box [sI v8.fty,.rs 38,I v8.ffault,.rs 39]),(38,rI v8.fneeds),(39,rI v8.fpath)] ?_
  refine vz 38 (Qe5 v8.fneeds) [(8,.ra 4 0)] [(4,.box [sI v8.fty,sI v8.fneeds,I v8.ffault,.rs 39]),(39,rI v8.fpath)] ?_
  refine vz 39 (Qe5 v8.fpath) [(8,.ra 4 0)] [(4,K1x v8)] ?_
  refine rt ?_
  obtain rfl := os h
  exact rq [false]
 ·rintro spec_l3Tell_f spec_l3Tell_ih ⟨s0,ctx1,t2,k3⟩ r h
  refine b0 Tryz.f93 B93 28 [(0,K1u s0),(1,sL ctx1),(2,K1w t2),(3,I k3)] fun c hc => ?_
  refine rs hc none [some (.new 1),some (.new 2),some (.new 3)] [(1,sL ctx1),(3,I k3),(4,.ra 1 0),(6,.ra 2 0),(8,.ra 3 0)] [(1,K1t s0),(2,K1v t2),(3,.box [.nils,.nils,I 0,.nils])] tv ?_
  obtain ⟨w0,w1,w2,w3,h⟩ := bq2 h
  refine rs hc (rx [[0],[0],[0],[0,2],[0],[0,2,3,4],[0,2,3,4,5],[7],[0],[9]]) [oN,oN,oN,oN,oN,some (.el (K1w w0)),oN,oc (K1y w2),some (.new 4),oN] [(3,I k3),(8,.ra 3 0),(9,.ra 4 0)] [(3,.box [.nils,.nils,I 0,.nils]),(4,K1x w2)] (ai (Qdh w1 (K0o w0)) (cq (spec_l3Tell_ih _ _ w3) K50 tv)) ?_
  refine sN ?_
  refine K7f hc 3 [(3,I k3),(8,.ra 3 0),(9,.ra 4 0),(20,.bool (w2.ffault != 0))] ?_
  obtain ⟨w4,w5,h⟩ := Qdd h
  refine Wp.into (x := .normal) (mkS [(8,.ra 3 0),(9,.ra 4 0)] [(3,.box [.nils,.nils,I 0,.nils]),(4,.box [sI w2.fty,sI w2.fneeds,I w2.ffault,sI w4])]) ?_ ?_
  ·replace h := w5
   refine ic h (fun a0 h => ?_) fun a0 h => ?_
   ·obtain ⟨_,w6,h⟩ := Qdd h
    refine rg hc none [oN,some (.mk 5 true),oN,oN,some (.eqv (.mk 6 true) ⟨[(25,.rs 6)],[(6,some (rI ([k3] ++ w2.fpath))),(5,none)],[6]⟩),oN,oN] [(8,.ra 3 0),(9,.ra 4 0)] [(3,.box [.nils,.nils,I 0,.nils]),(4,.box [sI w2.fty,sI w2.fneeds,I w2.ffault,.rs 6]),(6,rI ([k3] ++ w2.fpath))] (ab (congrArg (fun z => (⟨[(25,.rs 6)],[(6,some (.arr z)),(5,none)],[6]⟩ : Wr)) ((List.map_append).symm : (List.map I [k3]) ++ (List.map I w2.fpath) = List.map I ([k3] ++ w2.fpath))) (Qdr (enc1 := I) (enc2 := I) (e1 := [k3]) (e2 := w2.fpath) (sz := 1) Qe0 Qe0 w6) tv) ?_
    obtain rfl := os h
    exact Qcz.view (fun a w hv => SRx.renL [] (SRx.frzC 6 (xs := List.map I ([k3] ++ w2.fpath)) (xs' := List.map I ([k3] ++ w2.fpath)) hv (by kernel_rfl) (Qe5 _)) (by kernel_rfl) (by kernel_rfl) (by kernel_rfl))
   refine sk ?_
   obtain rfl := os h
   exact iv []
  clear w5
  refine rs0 hc 2 [(8,.ra 3 0)] [(3,.box [sI w2.fty,sI w2.fneeds,I w2.ffault,sI w4])] ?_
  refine rt ?_
  obtain rfl := os h
  exact rq [false]
 ·rintro spec_l3Of_f spec_l3Of_ih ⟨s0,ctx1,t2,a3⟩ r h
  refine b0 Tryz.f95 B95 65 [(0,K1u s0),(1,sL ctx1),(2,K1w t2),(3,K1y a3)] fun c hc => ?_
  refine rs hc none [some (.new 1),some (.new 2),some (.new 3),some (.new 4)] [(1,sL ctx1),(4,.ra 1 0),(6,.ra 2 0),(7,.ra 3 0),(8,.ra 4 0)] [(1,K1t s0),(2,K1v t2),(3,K1x a3),(4,.box [.nils,.nils,I 0,.nils])] tv ?_
  obtain ⟨w7,w8,h⟩ := Qdd h
  refine rs hc none [oN,oN,oN,oc (K1y w7),some (.new 5),oN] [(1,sL ctx1),(4,.ra 1 0),(6,.ra 2 0),(7,.ra 3 0),(8,.ra 4 0),(9,.ra 5 0)] [(1,K1t s0),(2,K1v t2),(3,K1x a3),(4,.box [.nils,.nils,I 0,.nils]),(5,K1x w7)] (cq (spec_l3Of_ih _ _ w8) K4p tv) ?_
  refine sN ?_
  refine K7f hc 3 [(1,sL ctx1),(4,.ra 1 0),(6,.ra 2 0),(7,.ra 3 0),(8,.ra 4 0),(9,.ra 5 0),(17,.bool (w7.ffault != 0))] ?_
  refine ic h (fun a0 h => ?_) fun a0 h => ?_
  ·refine rs0 hc 2 [(8,.ra 4 0)] [(4,K1x w7)] ?_
   refine rt ?_
   obtain rfl := os h
   exact rq [false]
  refine sk ?_
  refine sN ?_
  refine K7f hc 3 [(1,sL ctx1),(4,.ra 1 0),(6,.ra 2 0),(7,.ra 3 0),(8,.ra 4 0),(9,.ra 5 0),(21,.bool (t2.fOp == 2))] ?_
  refine ic h (fun b1 h => ?_) fun b1 h => ?_
  ·refine sN ?_
   obtain ⟨w9,x0,h⟩ := Qdd h
   refine rs hc none [oN,oN,some (.el (I w9)),oN,oN] [(4,.ra 1 0),(7,.ra 3 0),(8,.ra 4 0),(9,.ra 5 0),(26,.bool (w9 != 0))] [(1,K1t s0),(3,K1x a3),(4,.box [.nils,.nils,I 0,.nils]),(5,K1x w7)] (ai (ix x0) tv) ?_
   refine ic h (fun b6 h => ?_) fun b6 h => ?_
   ·obtain ⟨x1,x2,h⟩ := Qdd h
    refine rs hc none [some (.call (K27 x1) [] 6),oN] [(8,.ra 4 0)] [(4,.box [.rs 6,.rs 7,I x1.ffault,.rs 8]),(6,rI x1.fty),(7,rI x1.fneeds),(8,rI x1.fpath)] (cq (Kda _ _ x2) K4q tv) ?_
    refine vz 6 (Qe5 x1.fty) [(8,.ra 4 0)] [(4,.box [sI x1.fty,.rs 7,I x1.ffault,.rs 8]),(7,rI x1.fneeds),(8,rI x1.fpath)] ?_
    refine vz 7 (Qe5 x1.fneeds) [(8,.ra 4 0)] [(4,.box [sI x1.fty,sI x1.fneeds,I x1.ffault,.rs 8]),(8,rI x1.fpath)] ?_
    refine vz 8 (Qe5 x1.fpath) [(8,.ra 4 0)] [(4,K1x x1)] ?_
    refine rt ?_
    obtain rfl := os h
    exact rq [false]
   refine sk ?_
   obtain ⟨x3,x4,h⟩ := Qdd h
   refine rs hc (rx [[0],[1],[0],[0],[0,3],[0],[0,5],[0,2,3,4,5,6],[8],[9]]) [oN,oN,oN,oN,oN,oN,oN,some (.call (oI x3) [] 9),oN,oN] [(8,.ra 4 0)] [(4,.box [sI w7.fty,.rs 9,I 0,.nils]),(9,rI x3)] (cq (Kdo _ _ x4) K4t tv) ?_
   refine vz 9 (Qe5 x3) [(8,.ra 4 0)] [(4,.box [sI w7.fty,sI x3,I 0,.nils])] ?_
   refine rt ?_
   obtain rfl := os h
   exact rq [false]
  refine sk ?_
  obtain ⟨o7,o8,h⟩ := Qdd h
  refine rs hc none [oN,oN,oN,oc (K1y o7),some (.new 10),oN] [(4,.ra 1 0),(7,.ra 3 0),(8,.ra 4 0),(9,.ra 5 0),(10,.ra 10 0)] [(1,K1t s0),(3,K1x a3),(4,.box [.nils,.nils,I 0,.nils]),(5,K1x w7),(10,K1x o7)] (cq (spec_l3Of_ih _ _ o8) K4p tv) ?_
  refine sN ?_
  refine K7f hc 3 [(4,.ra 1 0),(7,.ra 3 0),(8,.ra 4 0),(9,.ra 5 0),(10,.ra 10 0),(43,.bool (o7.ffault != 0))] ?_
  refine ic h (fun x5 h => ?_) fun x5 h => ?_
  ·refine rs0 hc 2 [(8,.ra 4 0)] [(4,K1x o7)] ?_
   refine rt ?_
   obtain rfl := os h
   exact rq [false]
  refine sk ?_
  refine sN ?_
  obtain ⟨x6,x7,h⟩ := Qdd h
  refine rss hc none [oN,oN,oN,oN,oc (.bool x6),oN] [(4,.ra 1 0),(7,.ra 3 0),(8,.ra 4 0),(9,.ra 5 0),(10,.ra 10 0),(50,.bool (!x6))] (cq (Ke1 _ _ x7) K4x tv) ?_
  rcases is h with ⟨x8,h⟩ | ⟨x8,h⟩
  ·refine cF (!x6) (nF x8) ?_
   refine sk ?_
   obtain ⟨x9,y0,y1,y2,h⟩ := bq2 h
   refine rs hc (rx [[0],[1],[0],[0],[0,3],[0],[0],[0,6],[0],[0,8],[0,5,6,7,8,9],[0,2,3,4,5,6,7,8,9,10],[12],[13]]) [oN,oN,oN,oN,oN,oN,oN,oN,oN,oN,some (.call (oI x9) [] 11),some (.call (oI y1) [] 12),oN,oN] [(8,.ra 4 0)] [(4,.box [sI w7.fty,.rs 12,I 0,.nils]),(12,rI y1)] (cq (Ke8 _ _ y0) K52 (ac (Q71.args (A1 := [K1u s0,sI a3.fneeds,I 1,.sl (Q02 (List.map I x9))]) (A2 := [K1u s0,sI a3.fneeds,I 1,sI x9]) (by simp only [List.map_nil,Qe5]) (Kdo _ _ y2)) K4t (Or.inr (Qed Qe9 y1) : ([11] : List Nat) = [] ∨ noSh (oI y1) = true) tv)) ?_
   refine vz 12 (Qe5 y1) [(8,.ra 4 0)] [(4,.box [sI w7.fty,sI y1,I 0,.nils])] ?_
   refine rt ?_
   obtain rfl := os h
   exact rq [false]
  refine cT (!x6) (nT x8) ?_
  obtain ⟨y3,y4,h⟩ := Qdd h
  refine rs hc none [some (.call (K27 y3) [] 13),oN] [(8,.ra 4 0)] [(4,.box [.rs 13,.rs 14,I y3.ffault,.rs 15]),(13,rI y3.fty),(14,rI y3.fneeds),(15,rI y3.fpath)] (cq (Kda _ _ y4) K4q tv) ?_
  refine vz 13 (Qe5 y3.fty) [(8,.ra 4 0)] [(4,.box [sI y3.fty,.rs 14,I y3.ffault,.rs 15]),(14,rI y3.fneeds),(15,rI y3.fpath)] ?_
  refine vz 14 (Qe5 y3.fneeds) [(8,.ra 4 0)] [(4,.box [sI y3.fty,sI y3.fneeds,I y3.ffault,.rs 15]),(15,rI y3.fpath)] ?_
  refine vz 15 (Qe5 y3.fpath) [(8,.ra 4 0)] [(4,K1x y3)] ?_
  refine rt ?_
  obtain rfl := os h
  exact rq [false]
theorem Keo : ∀ p r,Kef p = some r → Kej p r := Ken.1
theorem Kep : ∀ p r,Keg p = some r → Kek p r := Ken.2.1
theorem Keq : ∀ p r,Keh p = some r → Kel p r := Ken.2.2.1
theorem Ker : ∀ p r,Kei p = some r → Kem p r := Ken.2.2.2
def Kes : Option (List (List Nat)) := rx [[0],[0],[0],[0],[0,1,2,3],[0],[6],[0],[0],[0],[0],[0],[7,9,10,11],[13],[14],[15],[16],[16],[16],[16],[16,17,18,19],[16],[22],[16],[16],[16],[16],[16],[23,25,26,27],[29],[30],[31]]
def Ket : Option (List (List Nat)) := rx [[0],[0],[0],[0],[0],[0,2,3,4],[6],[0],[0],[0],[0],[7,8,9,10],[0],[0],[0],[7,8,9,10,11,12,13,14],[16],[17],[18],[19],[19],[19],[19],[19,20,21,22],[19],[25],[19],[19],[19],[19],[26,27,28,29],[19],[19],[19],[26,27,28,29,30,31,32,33],[35],[36],[37]]
def Keu : Option (List (List Nat)) := rx [[0],[0],[0],[3],[4],[5],[6],[6],[6],[6],[6,7,8,9],[6],[6],[6],[6,7,8,9,10,11,12,13],[15],[16],[17],[17],[17],[17],[17,18,19,20],[17],[17],[17],[17,18,19,20,21,22,23,24],[26],[27],[28],[29],[29],[29],[29],[29,30,31,32],[29],[29],[29],[29,30,31,32,33,34,35,36],[38],[39],[40],[41]]
def Kev : Option (List (List Nat)) := rx [[0],[0],[0,1],[0],[0,1,2,3],[0,1,2,3,4],[6],[7],[8],[9],[9],[9,10],[9],[9,10,11,12],[9,10,11,12,13],[15],[16],[17]]
def Kew (p : K00 × LL × K01) : Option (Int × (List Int)) :=
 match p with
 | (s0,ctx1,t2) =>
  (Kcw (s0,ctx1,t2)) >>= fun a0 =>
  if a0 = true then
  (Kef (s0,ctx1,t2)) >>= fun a1 =>
  some (a1.ffault,a1.fpath)
  else
  some (1,[])
def Kex (p : K00 × LL × K01) (r : Int × (List Int)) : Prop :=
 match p with
 | (s0,ctx1,t2) => Q71 Tryz.prog 27 [K1u s0,sL ctx1,K1w t2] (.tup [I r.1,sI r.2]) []
theorem Key : ∀ p r,Kew p = some r → Kex p r := by
 rintro ⟨s0,ctx1,t2⟩ r h
 unfold Kew at h
 refine b0 Tryz.f27 B27 22 [(0,K1u s0),(1,sL ctx1),(2,K1w t2)] fun c hc => ?_
 refine rs hc none [some (.new 1),some (.new 2),oN,oN] [(1,sL ctx1),(3,.ra 1 0),(5,.ra 2 0)] [(1,K1t s0),(2,K1v t2)] tv ?_
 refine sN ?_
 obtain ⟨a0,a1,h⟩ := Qdd h
 refine rss hc none [oN,oN,oN,oc (.bool a0),oN] [(1,sL ctx1),(3,.ra 1 0),(5,.ra 2 0),(13,.bool (!a0))] (cq (Kcy _ _ a1) K4l tv) ?_
 rcases is h with ⟨a2,h⟩ | ⟨a2,h⟩
 ·refine cF (!a0) (nF a2) ?_
  refine sk ?_
  obtain ⟨a3,a4,h⟩ := Qdd h
  refine rs hc none [oN,oN,oN,oc (K1y a3),some (.new 3),oN] [(8,.ra 3 0)] [(3,K1x a3)] (cq (Keo _ _ a4) K50 tv) ?_
  refine rs hc (rx [[0],[1],[0],[0,2],[2],[5]]) [oN,oN,oN,oN,oN,oN] [(6,I a3.ffault),(7,sI a3.fpath)] [] tv ?_
  refine rt ?_
  obtain rfl := os h
  exact rq [true,false]
 refine cT (!a0) (nT a2) ?_
 refine rs0 hc 2 [(6,I 1),(7,.nils)] [] ?_
 refine rt ?_
 obtain rfl := os h
 exact rq [true,false]
def Kez (p : Int × Int × Int) : Option (Bool) :=
 match p with
 | (n0,low1,high2) =>
  ((
  if (decide (n0 ≥ low1)) = true then
  some ((decide (n0 ≤ high2)))
  else
  some (false)
  ) : Option (Bool)) >>= fun a0 =>
  some a0
def Kf0 (p : Int × Int × Int) (r : Bool) : Prop :=
 match p with
 | (n0,low1,high2) => Q71 Tryz.prog 65 [I n0,I low1,I high2] (.bool r) []
theorem Kf1 : ∀ p r,Kez p = some r → Kf0 p r := by
 rintro ⟨n0,low1,high2⟩ r h
 unfold Kez at h
 refine b0 Tryz.f65 B65 15 [(0,I n0),(1,I low1),(2,I high2)] fun c hc => ?_
 refine rs0 hc 1 [(0,I n0),(1,I low1),(2,I high2)] [] ?_
 refine sN ?_
 obtain ⟨a0,a1,h⟩ := Qdd h
 refine Wp.into (x := .normal) (mkS [(6,.bool a0)] []) ?_ ?_
 ·replace h := a1
  rcases is h with ⟨a2,h⟩ | ⟨a2,h⟩
  ·refine rg hc none [oN,oN,oN,oN,oN,oN,oN,oT,oN] [(6,.bool (decide (n0 ≤ high2)))] [] (ar 4 a2 tv) ?_
   obtain rfl := os h
   exact Qcz.mk
  refine rg hc none [oN,oN,oN,oN,o_,o_,o_,oF,oN] [(6,.bool false)] [] (ar 3 (neT a2) (ai a2 tv)) ?_
  obtain rfl := os h
  exact Qcz.mk
 clear a1
 refine rt ?_
 obtain rfl := os h
 exact rq [true]
def Kf2 (p : K00 × Int) : Option (Bool) :=
 match p with
 | (s0,g1) =>
  (Kez (g1,0,(wr (s0.fSize - 1)))) >>= fun a0 =>
  some a0
def Kf3 (p : K00 × Int) (r : Bool) : Prop :=
 match p with
 | (s0,g1) => Q71 Tryz.prog 66 [K1u s0,I g1] (.bool r) []
theorem Kf4 : ∀ p r,Kf2 p = some r → Kf3 p r := by
 rintro ⟨s0,g1⟩ r h
 unfold Kf2 at h
 refine b0 Tryz.f66 B66 10 [(0,K1u s0),(1,I g1)] fun c hc => ?_
 refine rs hc none [some (.new 1),oN] [(1,I g1),(2,.ra 1 0)] [(1,K1t s0)] tv ?_
 obtain ⟨a0,a1,h⟩ := Qdd h
 refine rs hc none [oN,oN,oN,oN,oc (.bool a0),oN] [(4,.bool a0)] [] (cq (Kf1 _ _ a1) K54 tv) ?_
 refine rt ?_
 obtain rfl := os h
 exact rq [true]
def Kf5 (p : K00 × Int × Int) : Option (Int) :=
 match p with
 | (s0,a1,b2) =>
  (idx s0.fPlus (wr ((wr (a1 * s0.fSize)) + b2))) >>= fun a0 =>
  some a0
def Kf6 (p : K00 × Int × Int) (r : Int) : Prop :=
 match p with
 | (s0,a1,b2) => Q71 Tryz.prog 67 [K1u s0,I a1,I b2] (I r) []
theorem Kf7 : ∀ p r,Kf5 p = some r → Kf6 p r := by
 rintro ⟨s0,a1,b2⟩ r h
 unfold Kf5 at h
 refine b0 Tryz.f67 B67 17 [(0,K1u s0),(1,I a1),(2,I b2)] fun c hc => ?_
 refine rs hc none [some (.new 1),oN] [(1,I a1),(2,I b2),(3,.ra 1 0)] [(1,K1t s0)] tv ?_
 obtain ⟨a0,a2,h⟩ := Qdd h
 refine rs hc none [oN,oN,oN,oN,oN,oN,oN,oN,some (.el (I a0)),oN,oN] [(6,I a0)] [] (ai (ix a2) tv) ?_
 refine rt ?_
 obtain rfl := os h
 exact rq [true]
def Kf8 (p : K00 × Int × Int) : Option (Int) :=
 match p with
 | (s0,a1,b2) =>
  (idx s0.fTimes (wr ((wr (a1 * s0.fSize)) + b2))) >>= fun a0 =>
  some a0
def Kf9 (p : K00 × Int × Int) (r : Int) : Prop :=
 match p with
 | (s0,a1,b2) => Q71 Tryz.prog 68 [K1u s0,I a1,I b2] (I r) []
theorem Kfa : ∀ p r,Kf8 p = some r → Kf9 p r := by
 rintro ⟨s0,a1,b2⟩ r h
 unfold Kf8 at h
 refine b0 Tryz.f68 B68 17 [(0,K1u s0),(1,I a1),(2,I b2)] fun c hc => ?_
 refine rs hc none [some (.new 1),oN] [(1,I a1),(2,I b2),(3,.ra 1 0)] [(1,K1t s0)] tv ?_
 obtain ⟨a0,a2,h⟩ := Qdd h
 refine rs hc none [oN,oN,oN,oN,oN,oN,oN,oN,some (.el (I a0)),oN,oN] [(6,I a0)] [] (ai (ix a2) tv) ?_
 refine rt ?_
 obtain rfl := os h
 exact rq [true]
def Kfb (p : K00 × Int × Int) : Option (Bool) :=
 match p with
 | (s0,a1,b2) =>
  (idx s0.fBelow (wr ((wr (a1 * s0.fSize)) + b2))) >>= fun a0 =>
  some a0
def Kfc (p : K00 × Int × Int) (r : Bool) : Prop :=
 match p with
 | (s0,a1,b2) => Q71 Tryz.prog 69 [K1u s0,I a1,I b2] (.bool r) []
theorem Kfd : ∀ p r,Kfb p = some r → Kfc p r := by
 rintro ⟨s0,a1,b2⟩ r h
 unfold Kfb at h
 refine b0 Tryz.f69 B69 17 [(0,K1u s0),(1,I a1),(2,I b2)] fun c hc => ?_
 refine rs hc none [some (.new 1),oN] [(1,I a1),(2,I b2),(3,.ra 1 0)] [(1,K1t s0)] tv ?_
 obtain ⟨a0,a2,h⟩ := Qdd h
 refine rs hc none [oN,oN,oN,oN,oN,oN,oN,oN,some (.el (.bool a0)),oN,oN] [(6,.bool a0)] [] (ai (Qdh (enc := AV.bool) (x := .bool a0) a2 (Qdu a0)) tv) ?_
 refine rt ?_
 obtain rfl := os h
 exact rq [true]
def Kfe (c : Ctx) (s0 : K00) (a1 : Int) (b2 : Int) (a0 : Int) : Bool → Exit → Q0a → Prop
 | a2 => Qcz c (.exit 2) (mkS [(1,I a1),(2,I b2),(3,.ra 1 0),(7,I a0),(8,.bool a2)] [(1,K1t s0)])
def Kff (p : K00 × Int × Int × Int × Bool × Int) : Option (Bool) :=
 match p with
 | (s0,a1,b2,a0,a2,a3) =>
  if (decide (a3 < s0.fSize)) = true then
  ((
  if a2 = true then
  (Kfb (s0,a1,a3)) >>= fun a4 =>
  if a4 = true then
  (Kfb (s0,b2,a3)) >>= fun a5 =>
  if a5 = true then
  (Kfb (s0,a0,a3)) >>= fun a6 =>
  some (a6)
  else
  some (true)
  else
  some (true)
  else
  some (false)
  ) : Option (Bool)) >>= fun a7 =>
  Kff (s0,a1,b2,a0,a7,(wr (a3 + 1)))
  else
  some (a2)
 partial_fixpoint
def Kfg (p : K00 × Int × Int × Int × Bool × Int) (fl : Bool) : Prop :=
 match p with
 | (s0,a1,b2,a0,a2,a3) => ∀ c : Ctx,c.nt = 57 → WpL Tryz.prog c (cl (cl (cr (cl (cr (cr (cl (cl (cr (cl (cl (cr (cl (cr B70)))))))))))))) (Kfe c s0 a1 b2 a0 fl) (mkS [(1,I a1),(2,I b2),(3,.ra 1 0),(7,I a0),(8,.bool a2),(9,I a3)] [(1,K1t s0)])
theorem Kfh : ∀ p r,Kff p = some r → Kfg p r := by
 refine Kff.partial_correctness Kfg ?_
 rintro impl_Systemjoin_l0_f impl_Systemjoin_l0_ih ⟨s0,a1,b2,a0,a2,a3⟩ r h
 intro c hc
 refine WpL.step ?_
 refine sN ?_
 refine K7f hc 4 [(1,I a1),(2,I b2),(3,.ra 1 0),(7,I a0),(8,.bool a2),(9,I a3),(31,.bool (decide (a3 < s0.fSize)))] ?_
 refine ic h (fun a4 h => ?_) fun a4 h => ?_
 ·refine sk ?_
  refine sN ?_
  refine bk 3 ?_
  obtain ⟨a5,a6,h⟩ := Qdd h
  refine Wp.into (x := .normal) (mkS [(1,I a1),(2,I b2),(3,.ra 1 0),(7,I a0),(8,.bool a5),(9,I a3)] [(1,K1t s0)]) ?_ ?_
  ·replace h := a6
   rcases is h with ⟨a7,h⟩ | ⟨a7,h⟩
   ·obtain ⟨a8,a9,h⟩ := Qdd h
    rcases is h with ⟨b1,h⟩ | ⟨b1,h⟩
    ·obtain ⟨b3,b4,h⟩ := Qdd h
     rcases is h with ⟨b5,h⟩ | ⟨b5,h⟩
     ·obtain ⟨b6,b7,h⟩ := Qdd h
      refine rgs hc none [oN,oN,oN,oN,oN,oc (.bool a8),oN,oN,oN,oN,oN,oc (.bool b3),oN,oF,oN,oN,oN,oN,oc (.bool b6),oF,oT,oN] [(1,I a1),(2,I b2),(3,.ra 1 0),(7,I a0),(8,.bool b6),(9,I a3)] (ar 4 a7 (cq (Kfd _ _ a9) K58 (ar 2 a7 (ar 4 (nF b1) (cq (Kfd _ _ b4) K58 (ad (nF b1) a7 (nF b1) a7 (ar 4 (nF b5) (cq (Kfd _ _ b7) K58 (ac a7 (nF b5) a7 tv))))))))) ?_
      obtain rfl := os h
      exact Qcz.mk
     refine rgs hc none [oN,oN,oN,oN,oN,oc (.bool a8),oN,oN,oN,oN,oN,oc (.bool b3),oN,oF,oN,o_,o_,o_,o_,oT,oT,oN] [(1,I a1),(2,I b2),(3,.ra 1 0),(7,I a0),(8,.bool true),(9,I a3)] (ar 4 a7 (cq (Kfd _ _ a9) K58 (ar 2 a7 (ar 4 (nF b1) (cq (Kfd _ _ b4) K58 (ad (nF b1) a7 (nF b1) a7 (ar 4 (neF (nT b5)) (ac a7 (nT b5) a7 tv)))))))) ?_
     obtain rfl := os h
     exact Qcz.mk
    refine rgs hc none [oN,oN,oN,oN,oN,oc (.bool a8),oN,oN,o_,o_,o_,o_,o_,oT,oN,o_,o_,o_,o_,oT,oT,oN] [(1,I a1),(2,I b2),(3,.ra 1 0),(7,I a0),(8,.bool true),(9,I a3)] (ar 4 a7 (cq (Kfd _ _ a9) K58 (ar 2 a7 (ar 5 (neF (nT b1)) (ac a7 (nT b1) a7 (ar 4 nf (ac a7 tt a7 tv))))))) ?_
    obtain rfl := os h
    exact Qcz.mk
   refine rgs hc none [oN,oN,o_,o_,o_,o_,o_,o_,o_,o_,o_,o_,o_,o_,o_,o_,o_,o_,o_,o_,oF,oN] [(1,I a1),(2,I b2),(3,.ra 1 0),(7,I a0),(8,.bool false),(9,I a3)] (ar 9 (neT a7) (ai a7 tv)) ?_
   obtain rfl := os h
   exact Qcz.mk
  clear a6
  refine K7e hc 3 [(1,I a1),(2,I b2),(3,.ra 1 0),(7,I a0),(8,.bool a5),(9,I (wr (a3 + 1)))] ?_
  refine Qcv ?_
  exact (impl_Systemjoin_l0_ih _ _ h c hc)
 refine xt 2 ?_
 refine Qcp ?_
 refine Qcw ?_
 obtain rfl := os h
 exact iv []
def Kfi (c : Ctx) (s0 : K00) (a1 : Int) (b2 : Int) (a0 : Int) : (Unit) ⊕ (Int) → Exit → Q0a → Prop
 | .inl _ => Qcz c .normal (mkS [(1,I a1),(2,I b2),(3,.ra 1 0),(7,I a0)] [(1,K1t s0)])
 | .inr r => Qd8 TIx Tryz.f70 [] (I r)
def Kfj (c : Ctx) : (Unit) ⊕ (Int) → Exit → Q0a → Prop
 | .inl _ => Qcz c (.exit 0) (mkS [] [])
 | .inr r => Qd8 TIx Tryz.f70 [] (I r)
def Kfk (p : K00 × Int × Int × Int) : Option ((Unit) ⊕ (Int)) :=
 match p with
 | (s0,a1,b2,a0) =>
  if (decide (a0 < s0.fSize)) = true then
  ((
   ((
   (Kfb (s0,a1,a0)) >>= fun a2 =>
   if a2 = true then
   (Kfb (s0,b2,a0)) >>= fun a3 =>
   some ((!a3))
   else
   some (true)
   ) : Option (Bool)) >>= fun a4 =>
   if a4 = true then
   some (.inl ())
   else
   (Kff (s0,a1,b2,a0,true,0)) >>= fun a5 =>
   if a5 = true then
   some (.inr a0)
   else
   some (.inl ())) : Option ((Unit) ⊕ (Int))) >>= fun fl => match fl with
  | .inl () =>
   Kfk (s0,a1,b2,(wr (a0 + 1)))
  | .inr r =>
   some (.inr r)
  else
  some (.inl ())
 partial_fixpoint
def Kfl (p : K00 × Int × Int × Int) (fl : (Unit) ⊕ (Int)) : Prop :=
 match p with
 | (s0,a1,b2,a0) => ∀ c : Ctx,c.nt = 57 → WpL Tryz.prog c (cl (cl (cr (cl (cr B70))))) (Kfj c fl) (mkS [(1,I a1),(2,I b2),(3,.ra 1 0),(7,I a0)] [(1,K1t s0)])
theorem Kfm : ∀ p r,Kfk p = some r → Kfl p r := by
 refine Kfk.partial_correctness Kfl ?_
 rintro impl_Systemjoin_l1_f impl_Systemjoin_l1_ih ⟨s0,a1,b2,a0⟩ r h
 intro c hc
 refine WpL.step ?_
 refine sN ?_
 refine K7f hc 4 [(1,I a1),(2,I b2),(3,.ra 1 0),(7,I a0),(13,.bool (decide (a0 < s0.fSize)))] ?_
 refine ic h (fun a2 h => ?_) fun a2 h => ?_
 ·refine sk ?_
  refine sN ?_
  obtain ⟨fl,a3,h⟩ := Qdd h
  refine flw (Kfi c s0 a1 b2 a0 fl) ?_ (fun hF => ?_)
  ·replace h := a3
   refine bk 1 ?_
   refine sN ?_
   refine sN ?_
   obtain ⟨a4,a5,h⟩ := Qdd h
   refine Wp.into (x := .normal) (mkS [(1,I a1),(2,I b2),(3,.ra 1 0),(7,I a0),(27,.bool a4)] [(1,K1t s0)]) ?_ ?_
   ·replace h := a5
    obtain ⟨a6,a7,h⟩ := Qdd h
    rcases is h with ⟨a8,h⟩ | ⟨a8,h⟩
    ·obtain ⟨a9,b1,h⟩ := Qdd h
     refine rgs hc none [oN,oN,oN,oc (.bool a6),oN,oN,oN,oN,oN,oc (.bool a9),oN,oF] [(1,I a1),(2,I b2),(3,.ra 1 0),(7,I a0),(27,.bool (!a9))] (cq (Kfd _ _ a7) K58 (ar 4 (nF a8) (cq (Kfd _ _ b1) K58 (ar 2 (nF a8) tv)))) ?_
     obtain rfl := os h
     exact Qcz.mk
    refine rgs hc none [oN,oN,oN,oc (.bool a6),oN,oN,o_,o_,o_,o_,o_,oT] [(1,I a1),(2,I b2),(3,.ra 1 0),(7,I a0),(27,.bool true)] (cq (Kfd _ _ a7) K58 (ar 5 (neF (nT a8)) (ai (nT a8) tv))) ?_
    obtain rfl := os h
    exact Qcz.mk
   clear a5
   refine ic h (fun b3 h => ?_) fun b3 h => ?_
   ·refine xt 1 ?_
    refine Qcp ?_
    refine Qcr ?_
    obtain rfl := os h
    exact iv []
   refine sk ?_
   refine K7f hc 1 [(1,I a1),(2,I b2),(3,.ra 1 0),(7,I a0),(8,.bool true)] ?_
   refine sN ?_
   refine K7f hc 1 [(1,I a1),(2,I b2),(3,.ra 1 0),(7,I a0),(8,.bool true),(9,I 0)] ?_
   refine bk 2 ?_
   obtain ⟨b4,b5,h⟩ := Qdd h
   have hL := Kfh _ _ b5 c hc
   refine lp ?_
   refine WpL.into (e := (.exit 2)) (mkS [(1,I a1),(2,I b2),(3,.ra 1 0),(7,I a0),(8,.bool b4)] [(1,K1t s0)]) hL ?_
   refine Qcr ?_
   refine K7f hc 1 [(1,I a1),(2,I b2),(3,.ra 1 0),(7,I a0),(55,.bool b4)] ?_
   refine ic h (fun b6 h => ?_) fun b6 h => ?_
   ·refine rs0 hc 2 [(6,I a0)] [] ?_
    refine rt ?_
    obtain rfl := os h
    exact re [true]
   refine sk ?_
   obtain rfl := os h
   exact iv []
  rcases fl with ⟨⟩ | r
  ·refine Wp.into (x := .normal) (mkS [(1,I a1),(2,I b2),(3,.ra 1 0),(7,I a0)] [(1,K1t s0)]) hF ?_
   refine K7e hc 3 [(1,I a1),(2,I b2),(3,.ra 1 0),(7,I (wr (a0 + 1)))] ?_
   refine Qcv ?_
   exact (impl_Systemjoin_l1_ih _ _ h c hc)
  refine Wp.mono hF ?_
  rintro _ _ ⟨rfl,hfin⟩
  obtain rfl := os h
  exact ⟨rfl,hfin⟩
 refine xt 0 ?_
 refine Qcp ?_
 refine Qcw ?_
 obtain rfl := os h
 exact iv []
def Kfn (p : K00 × Int × Int) : Option (Int) :=
 match p with
 | (s0,a1,b2) =>
  (Kfk (s0,a1,b2,0)) >>= fun fl => match fl with
  | .inl () =>
   some (-1)
  | .inr r =>
   some r
def Kfo (p : K00 × Int × Int) (r : Int) : Prop :=
 match p with
 | (s0,a1,b2) => Q71 Tryz.prog 70 [K1u s0,I a1,I b2] (I r) []
theorem Kfp : ∀ p r,Kfn p = some r → Kfo p r := by
 rintro ⟨s0,a1,b2⟩ r h
 unfold Kfn at h
 refine b0 Tryz.f70 B70 57 [(0,K1u s0),(1,I a1),(2,I b2)] fun c hc => ?_
 refine rs hc none [some (.new 1),oN] [(1,I a1),(2,I b2),(3,.ra 1 0)] [(1,K1t s0)] tv ?_
 refine sN ?_
 refine K7f hc 1 [(1,I a1),(2,I b2),(3,.ra 1 0),(7,I 0)] ?_
 refine bk 0 ?_
 obtain ⟨fl,a0,h⟩ := Qdd h
 have hL := Kfm _ _ a0 c hc
 refine lp ?_
 rcases fl with ⟨⟩ | r
 ·refine WpL.into (e := (.exit 0)) (mkS [] []) hL ?_
  refine Qcr ?_
  refine rs0 hc 1 [(6,I (-1))] [] ?_
  refine rt ?_
  obtain rfl := os h
  exact rq [true]
 refine WpL.mono hL ?_
 rintro _ _ ⟨rfl,hfin⟩
 obtain rfl := os h
 exact ⟨.inl rfl,hfin⟩
def Kfq (p : K00 × Int × Int × Int) : Option (Bool) :=
 match p with
 | (s0,a1,b2,c3) =>
  ((
  (Kf5 (s0,a1,b2)) >>= fun a0 =>
  (Kf5 (s0,a0,c3)) >>= fun a2 =>
  (Kf5 (s0,b2,c3)) >>= fun a3 =>
  (Kf5 (s0,a1,a3)) >>= fun a4 =>
  if (a2 != a4) = true then
  some (true)
  else
  (Kf8 (s0,a1,b2)) >>= fun a5 =>
  (Kf8 (s0,a5,c3)) >>= fun a6 =>
  (Kf8 (s0,b2,c3)) >>= fun a7 =>
  (Kf8 (s0,a1,a7)) >>= fun a8 =>
  some ((a6 != a8))
  ) : Option (Bool)) >>= fun a9 =>
  if a9 = true then
  some false
  else
  ((
  (Kf5 (s0,b2,c3)) >>= fun b1 =>
  (Kf8 (s0,a1,b1)) >>= fun b3 =>
  (Kf8 (s0,a1,b2)) >>= fun b4 =>
  (Kf8 (s0,a1,c3)) >>= fun b5 =>
  (Kf5 (s0,b4,b5)) >>= fun b6 =>
  if (b3 != b6) = true then
  some (true)
  else
  (Kf5 (s0,a1,b2)) >>= fun b7 =>
  (Kf8 (s0,b7,c3)) >>= fun b8 =>
  (Kf8 (s0,a1,c3)) >>= fun b9 =>
  (Kf8 (s0,b2,c3)) >>= fun c0 =>
  (Kf5 (s0,b9,c0)) >>= fun c1 =>
  some ((b8 != c1))
  ) : Option (Bool)) >>= fun c2 =>
  if c2 = true then
  some false
  else
  ((
  (Kfb (s0,a1,b2)) >>= fun c4 =>
  if c4 = true then
  (Kfb (s0,b2,c3)) >>= fun c5 =>
  if c5 = true then
  (Kfb (s0,a1,c3)) >>= fun c6 =>
  some ((!c6))
  else
  some (false)
  else
  some (false)
  ) : Option (Bool)) >>= fun c7 =>
  if c7 = true then
  some false
  else
  ((
  (Kfb (s0,a1,b2)) >>= fun c8 =>
  if c8 = true then
  (Kf5 (s0,a1,c3)) >>= fun c9 =>
  (Kf5 (s0,b2,c3)) >>= fun d0 =>
  (Kfb (s0,c9,d0)) >>= fun d1 =>
  if d1 = true then
  (Kf8 (s0,a1,c3)) >>= fun d2 =>
  (Kf8 (s0,b2,c3)) >>= fun d3 =>
  (Kfb (s0,d2,d3)) >>= fun d4 =>
  if d4 = true then
  (Kf8 (s0,c3,a1)) >>= fun d5 =>
  (Kf8 (s0,c3,b2)) >>= fun d6 =>
  (Kfb (s0,d5,d6)) >>= fun d7 =>
  some (d7)
  else
  some (false)
  else
  some (false)
  else
  some (true)
  ) : Option (Bool)) >>= fun d8 =>
  some d8
def Kfr (p : K00 × Int × Int × Int) (r : Bool) : Prop :=
 match p with
 | (s0,a1,b2,c3) => Q71 Tryz.prog 71 [K1u s0,I a1,I b2,I c3] (.bool r) []
theorem Kfs : ∀ p r,Kfq p = some r → Kfr p r := by
 rintro ⟨s0,a1,b2,c3⟩ r h
 unfold Kfq at h
 refine b0 Tryz.f71 B71 137 [(0,K1u s0),(1,I a1),(2,I b2),(3,I c3)] fun c hc => ?_
 refine rs hc none [some (.new 1),oN] [(1,I a1),(2,I b2),(3,I c3),(4,.ra 1 0)] [(1,K1t s0)] tv ?_
 refine sN ?_
 refine sN ?_
 obtain ⟨a0,a2,h⟩ := Qdd h
 refine Wp.into (x := .normal) (mkS [(1,I a1),(2,I b2),(3,I c3),(4,.ra 1 0),(40,.bool a0)] [(1,K1t s0)]) ?_ ?_
 ·replace h := a2
  obtain ⟨a3,a4,a5,a6,a7,a8,a9,b1,h⟩ := bq4 h
  rcases is h with ⟨b3,h⟩ | ⟨b3,h⟩
  ·refine rgs hc Kes [oN,oN,oN,oN,oc (I a3),oN,oc (I a5),oN,oN,oN,oN,oN,oc (I a7),oc (I a9),oN,oN,o_,o_,o_,o_,o_,o_,o_,o_,o_,o_,o_,o_,o_,o_,o_,oT] [(1,I a1),(2,I b2),(3,I c3),(4,.ra 1 0),(40,.bool true)] (cq (Kf7 _ _ a4) K56 (cq (Kf7 _ _ a6) K56 (cq (Kf7 _ _ a8) K56 (cq (Kf7 _ _ b1) K56 (ar 15 (neF b3) (ai b3 tv)))))) ?_
   obtain rfl := os h
   exact Qcz.mk
  obtain ⟨b4,b5,b6,b7,b8,b9,c0,c1,h⟩ := bq4 h
  refine rgs hc Kes [oN,oN,oN,oN,oc (I a3),oN,oc (I a5),oN,oN,oN,oN,oN,oc (I a7),oc (I a9),oN,oN,oN,oN,oN,oN,oc (I b4),oN,oc (I b6),oN,oN,oN,oN,oN,oc (I b8),oc (I c0),oN,oF] [(1,I a1),(2,I b2),(3,I c3),(4,.ra 1 0),(40,.bool (b6 != c0))] (cq (Kf7 _ _ a4) K56 (cq (Kf7 _ _ a6) K56 (cq (Kf7 _ _ a8) K56 (cq (Kf7 _ _ b1) K56 (ar 5 b3 (cq (Kfa _ _ b5) K57 (ar 2 b3 (cq (Kfa _ _ b7) K57 (ar 6 b3 (cq (Kfa _ _ b9) K57 (ai b3 (cq (Kfa _ _ c1) K57 (ar 2 b3 tv))))))))))))) ?_
  obtain rfl := os h
  exact Qcz.mk
 clear a2
 refine ic h (fun c2 h => ?_) fun c2 h => ?_
 ·refine rs0 hc 1 [(8,.bool false)] [] ?_
  refine rt ?_
  obtain rfl := os h
  exact rq [true]
 refine sk ?_
 refine sN ?_
 refine sN ?_
 obtain ⟨c4,c5,h⟩ := Qdd h
 refine Wp.into (x := .normal) (mkS [(1,I a1),(2,I b2),(3,I c3),(4,.ra 1 0),(78,.bool c4)] [(1,K1t s0)]) ?_ ?_
 ·replace h := c5
  obtain ⟨c6,c7,c8,c9,d0,d1,d2,d3,h⟩ := bq4 h
  obtain ⟨d4,d5,h⟩ := Qdd h
  rcases is h with ⟨d6,h⟩ | ⟨d6,h⟩
  ·refine rgs hc Ket [oN,oN,oN,oN,oN,oc (I c6),oc (I c8),oN,oN,oN,oN,oc (I d0),oN,oN,oN,oc (I d2),oc (I d4),oN,oN,o_,o_,o_,o_,o_,o_,o_,o_,o_,o_,o_,o_,o_,o_,o_,o_,o_,o_,oT] [(1,I a1),(2,I b2),(3,I c3),(4,.ra 1 0),(78,.bool true)] (cq (Kf7 _ _ c7) K56 (cq (Kfa _ _ c9) K57 (cq (Kfa _ _ d1) K57 (cq (Kfa _ _ d3) K57 (cq (Kf7 _ _ d5) K56 (ar 18 (neF d6) (ai d6 tv))))))) ?_
   obtain rfl := os h
   exact Qcz.mk
  obtain ⟨d7,d8,d9,e0,e1,e2,e3,e4,h⟩ := bq4 h
  obtain ⟨e5,e6,h⟩ := Qdd h
  refine rgs hc Ket [oN,oN,oN,oN,oN,oc (I c6),oc (I c8),oN,oN,oN,oN,oc (I d0),oN,oN,oN,oc (I d2),oc (I d4),oN,oN,oN,oN,oN,oN,oc (I d7),oN,oc (I d9),oN,oN,oN,oN,oc (I e1),oN,oN,oN,oc (I e3),oc (I e5),oN,oF] [(1,I a1),(2,I b2),(3,I c3),(4,.ra 1 0),(78,.bool (d9 != e5))] (cq (Kf7 _ _ c7) K56 (cq (Kfa _ _ c9) K57 (cq (Kfa _ _ d1) K57 (cq (Kfa _ _ d3) K57 (cq (Kf7 _ _ d5) K56 (ar 5 d6 (cq (Kf7 _ _ d8) K56 (ar 2 d6 (cq (Kfa _ _ e0) K57 (ar 5 d6 (cq (Kfa _ _ e2) K57 (ar 4 d6 (cq (Kfa _ _ e4) K57 (ai d6 (cq (Kf7 _ _ e6) K56 (ar 2 d6 tv)))))))))))))))) ?_
  obtain rfl := os h
  exact Qcz.mk
 clear c5
 refine ic h (fun e7 h => ?_) fun e7 h => ?_
 ·refine rs0 hc 1 [(8,.bool false)] [] ?_
  refine rt ?_
  obtain rfl := os h
  exact rq [true]
 refine sk ?_
 refine sN ?_
 refine sN ?_
 obtain ⟨e8,e9,h⟩ := Qdd h
 refine Wp.into (x := .normal) (mkS [(1,I a1),(2,I b2),(3,I c3),(4,.ra 1 0),(95,.bool e8)] [(1,K1t s0)]) ?_ ?_
 ·replace h := e9
  obtain ⟨f0,f1,h⟩ := Qdd h
  rcases is h with ⟨f2,h⟩ | ⟨f2,h⟩
  ·obtain ⟨f3,f4,h⟩ := Qdd h
   rcases is h with ⟨f5,h⟩ | ⟨f5,h⟩
   ·obtain ⟨f6,f7,h⟩ := Qdd h
    refine rgs hc none [oN,oN,oN,oc (.bool f0),oN,oN,oN,oN,oc (.bool f3),oT,oN,oN,oN,oN,oc (.bool f6),oN,oT] [(1,I a1),(2,I b2),(3,I c3),(4,.ra 1 0),(95,.bool (!f6))] (cq (Kfd _ _ f1) K58 (ar 4 f2 (cq (Kfd _ _ f4) K58 (ai f2 (ar 4 f5 (cq (Kfd _ _ f7) K58 (ar 2 f5 tv))))))) ?_
    obtain rfl := os h
    exact Qcz.mk
   refine rgs hc none [oN,oN,oN,oc (.bool f0),oN,oN,oN,oN,oc (.bool f3),oT,oN,o_,o_,o_,o_,o_,oF] [(1,I a1),(2,I b2),(3,I c3),(4,.ra 1 0),(95,.bool false)] (cq (Kfd _ _ f1) K58 (ar 4 f2 (cq (Kfd _ _ f4) K58 (ai f2 (ar 5 (neT f5) (ai f5 tv)))))) ?_
   obtain rfl := os h
   exact Qcz.mk
  refine rgs hc none [oN,oN,oN,oc (.bool f0),oN,o_,o_,o_,o_,oF,oN,o_,o_,o_,o_,o_,oF] [(1,I a1),(2,I b2),(3,I c3),(4,.ra 1 0),(95,.bool false)] (cq (Kfd _ _ f1) K58 (ar 4 (neT f2) (ai f2 (ar 5 (neT (rfl : false = false)) (ai (rfl : false = false) tv))))) ?_
  obtain rfl := os h
  exact Qcz.mk
 clear e9
 refine ic h (fun f8 h => ?_) fun f8 h => ?_
 ·refine rs0 hc 1 [(8,.bool false)] [] ?_
  refine rt ?_
  obtain rfl := os h
  exact rq [true]
 refine sk ?_
 refine sN ?_
 obtain ⟨f9,g0,h⟩ := Qdd h
 refine Wp.into (x := .normal) (mkS [(8,.bool f9)] []) ?_ ?_
 ·replace h := g0
  obtain ⟨g1,g2,h⟩ := Qdd h
  rcases is h with ⟨g3,h⟩ | ⟨g3,h⟩
  ·obtain ⟨g4,g5,g6,g7,g8,g9,h⟩ := bq3 h
   rcases is h with ⟨i0,h⟩ | ⟨i0,h⟩
   ·obtain ⟨i1,i2,i3,i4,i5,i6,h⟩ := bq3 h
    rcases is h with ⟨i7,h⟩ | ⟨i7,h⟩
    ·obtain ⟨i8,i9,j0,j8,j9,k0,h⟩ := bq3 h
     refine rg hc Keu [oN,oN,oN,oc (.bool g1),oN,oN,oN,oN,oN,oN,oc (I g4),oN,oN,oN,oc (I g6),oc (.bool g8),oN,oN,oN,oN,oN,oc (I i1),oN,oN,oN,oc (I i3),oc (.bool i5),oT,oN,oN,oN,oN,oN,oc (I i8),oN,oN,oN,oc (I j0),oc (.bool j9),oT,oF,oN] [(8,.bool j9)] [] (cq (Kfd _ _ g2) K58 (ar 5 (nF g3) (cq (Kf7 _ _ g5) K56 (ar 4 (nF g3) (cq (Kf7 _ _ g7) K56 (ai (nF g3) (cq (Kfd _ _ g9) K58 (ai (nF g3) (ar 5 i0 (cq (Kfa _ _ i2) K57 (ar 4 i0 (cq (Kfa _ _ i4) K57 (ai i0 (cq (Kfd _ _ i6) K58 (ac (nF g3) i0 (nF g3) (ar 5 i7 (cq (Kfa _ _ i9) K57 (ar 4 i7 (cq (Kfa _ _ j8) K57 (ai i7 (cq (Kfd _ _ k0) K58 (ac (nF g3) i7 (nF g3) tv)))))))))))))))))))))) ?_
     obtain rfl := os h
     exact Qcz.mk
    refine rg hc Keu [oN,oN,oN,oc (.bool g1),oN,oN,oN,oN,oN,oN,oc (I g4),oN,oN,oN,oc (I g6),oc (.bool g8),oN,oN,oN,oN,oN,oc (I i1),oN,oN,oN,oc (I i3),oc (.bool i5),oT,oN,o_,o_,o_,o_,o_,o_,o_,o_,o_,o_,oF,oF,oN] [(8,.bool false)] [] (cq (Kfd _ _ g2) K58 (ar 5 (nF g3) (cq (Kf7 _ _ g5) K56 (ar 4 (nF g3) (cq (Kf7 _ _ g7) K56 (ai (nF g3) (cq (Kfd _ _ g9) K58 (ai (nF g3) (ar 5 i0 (cq (Kfa _ _ i2) K57 (ar 4 i0 (cq (Kfa _ _ i4) K57 (ai i0 (cq (Kfd _ _ i6) K58 (ac (nF g3) i0 (nF g3) (ar 10 (neT i7) (ac (nF g3) i7 (nF g3) tv))))))))))))))))) ?_
    obtain rfl := os h
    exact Qcz.mk
   refine rg hc Keu [oN,oN,oN,oc (.bool g1),oN,oN,oN,oN,oN,oN,oc (I g4),oN,oN,oN,oc (I g6),oc (.bool g8),oN,o_,o_,o_,o_,o_,o_,o_,o_,o_,o_,oF,oN,o_,o_,o_,o_,o_,o_,o_,o_,o_,o_,oF,oF,oN] [(8,.bool false)] [] (cq (Kfd _ _ g2) K58 (ar 5 (nF g3) (cq (Kf7 _ _ g5) K56 (ar 4 (nF g3) (cq (Kf7 _ _ g7) K56 (ai (nF g3) (cq (Kfd _ _ g9) K58 (ai (nF g3) (ar 10 (neT i0) (ac (nF g3) i0 (nF g3) (ar 10 (neT (rfl : false = false)) (ac (nF g3) (rfl : false = false) (nF g3) tv)))))))))))) ?_
   obtain rfl := os h
   exact Qcz.mk
  refine rg hc Keu [oN,oN,oN,oc (.bool g1),oN,oN,o_,o_,o_,o_,o_,o_,o_,o_,o_,o_,o_,o_,o_,o_,o_,o_,o_,o_,o_,o_,o_,o_,o_,o_,o_,o_,o_,o_,o_,o_,o_,o_,o_,o_,oT,oN] [(8,.bool true)] [] (cq (Kfd _ _ g2) K58 (ar 14 (neF (nT g3)) (ai (nT g3) tv))) ?_
  obtain rfl := os h
  exact Qcz.mk
 clear g0
 refine rt ?_
 obtain rfl := os h
 exact rq [true]
def Kft (c : Ctx) (s0 : K00) : (Unit) ⊕ (Bool) → Exit → Q0a → Prop
 | .inl _ => Qcz c (.exit 0) (mkS [(1,.ra 1 0),(3,I s0.fSize)] [(1,K1t s0)])
 | .inr r => Qd8 TIx Tryz.f39 [] (.bool r)
def Kfu (p : K00 × Int) : Option ((Unit) ⊕ (Bool)) :=
 match p with
 | (s0,a0) =>
  if (decide (a0 < (s0.fPlus.length : Int))) = true then
  ((
  (idx s0.fPlus a0) >>= fun a1 =>
  (Kf2 (s0,a1)) >>= fun a2 =>
  if a2 = true then
  (idx s0.fTimes a0) >>= fun a3 =>
  (Kf2 (s0,a3)) >>= fun a4 =>
  some ((!a4))
  else
  some (true)
  ) : Option (Bool)) >>= fun a5 =>
  if a5 = true then
  some (.inr false)
  else
  Kfu (s0,(wr (a0 + 1)))
  else
  some (.inl ())
 partial_fixpoint
def Kfv (p : K00 × Int) (fl : (Unit) ⊕ (Bool)) : Prop :=
 match p with
 | (s0,a0) => ∀ c : Ctx,c.nt = 157 → WpL Tryz.prog c (cl (cl (cr (cl (cr (cr (cr B39))))))) (Kft c s0 fl) (mkS [(1,.ra 1 0),(3,I s0.fSize),(42,I (s0.fPlus.length : Int)),(43,I a0)] [(1,K1t s0)])
theorem Kfw : ∀ p r,Kfu p = some r → Kfv p r := by
 refine Kfu.partial_correctness Kfv ?_
 rintro impl_IsSystem_l0_f impl_IsSystem_l0_ih ⟨s0,a0⟩ r h
 intro c hc
 refine WpL.step ?_
 refine K7f hc 1 [(1,.ra 1 0),(3,I s0.fSize),(42,I (s0.fPlus.length : Int)),(43,I a0),(44,.bool (decide (a0 < (s0.fPlus.length : Int))))] ?_
 refine sN ?_
 refine ic h (fun a1 h => ?_) fun a1 h => ?_
 ·refine sk ?_
  refine sN ?_
  refine bk 1 ?_
  refine K7f hc 2 [(1,.ra 1 0),(3,I s0.fSize),(4,I a0),(42,I (s0.fPlus.length : Int)),(43,I a0)] ?_
  refine sN ?_
  obtain ⟨a2,a3,h⟩ := Qdd h
  refine Wp.into (x := .normal) (mkS [(1,.ra 1 0),(3,I s0.fSize),(42,I (s0.fPlus.length : Int)),(43,I a0),(63,.bool a2)] [(1,K1t s0)]) ?_ ?_
  ·replace h := a3
   obtain ⟨a4,a5,a6,a7,h⟩ := bq2 h
   rcases is h with ⟨a8,h⟩ | ⟨a8,h⟩
   ·obtain ⟨a9,b1,b2,b3,h⟩ := bq2 h
    refine rgs hc Kev [oN,oN,oN,oN,some (.el (I a4)),oN,oc (.bool a6),oN,oN,oN,oN,oN,oN,some (.el (I a9)),oN,oc (.bool b2),oN,oF] [(1,.ra 1 0),(3,I s0.fSize),(42,I (s0.fPlus.length : Int)),(43,I a0),(63,.bool (!b2))] (ai (ix a5) (cq (Kf4 _ _ a7) K55 (ar 5 (nF a8) (ai (ix b1) (ar 2 (nF a8) (cq (Kf4 _ _ b3) K55 (ar 2 (nF a8) tv))))))) ?_
    obtain rfl := os h
    exact Qcz.mk
   refine rgs hc Kev [oN,oN,oN,oN,some (.el (I a4)),oN,oc (.bool a6),oN,oN,o_,o_,o_,o_,o_,o_,o_,o_,oT] [(1,.ra 1 0),(3,I s0.fSize),(42,I (s0.fPlus.length : Int)),(43,I a0),(63,.bool true)] (ai (ix a5) (cq (Kf4 _ _ a7) K55 (ar 8 (neF (nT a8)) (ai (nT a8) tv)))) ?_
   obtain rfl := os h
   exact Qcz.mk
  clear a3
  refine ic h (fun b4 h => ?_) fun b4 h => ?_
  ·refine rs0 hc 1 [(2,.bool false)] [] ?_
   refine rt ?_
   obtain rfl := os h
   exact re [true]
  refine sk ?_
  refine K7e hc 2 [(1,.ra 1 0),(3,I s0.fSize),(42,I (s0.fPlus.length : Int)),(43,I (wr (a0 + 1)))] ?_
  refine Qcv ?_
  exact (impl_IsSystem_l0_ih _ _ h c hc)
 refine xt 0 ?_
 refine Qcp ?_
 refine Qcw ?_
 obtain rfl := os h
 exact iv []
def Kfx (c : Ctx) (s0 : K00) (a0 : Int) (a1 : Int) : (Unit) ⊕ (Bool) → Exit → Q0a → Prop
 | .inl _ => Qcz c (.exit 6) (mkS [(1,.ra 1 0),(3,I s0.fSize),(5,I a0),(6,I a1)] [(1,K1t s0)])
 | .inr r => Qd8 TIx Tryz.f39 [] (.bool r)
def Kfy (p : K00 × Int × Int × Int) : Option ((Unit) ⊕ (Bool)) :=
 match p with
 | (s0,a0,a1,a2) =>
  if (decide (a2 < s0.fSize)) = true then
  (Kfq (s0,a0,a1,a2)) >>= fun a3 =>
  if a3 = true then
  Kfy (s0,a0,a1,(wr (a2 + 1)))
  else
  some (.inr false)
  else
  some (.inl ())
 partial_fixpoint
def Kfz (p : K00 × Int × Int × Int) (fl : (Unit) ⊕ (Bool)) : Prop :=
 match p with
 | (s0,a0,a1,a2) => ∀ c : Ctx,c.nt = 157 → WpL Tryz.prog c (cl (cl (cr (cr (cl (cl (cr (cl (cl (cr (cr (cl (cl (cr (cl (cl (cr (cl (cr (cr (cr (cr B39)))))))))))))))))))))) (Kfx c s0 a0 a1 fl) (mkS [(1,.ra 1 0),(3,I s0.fSize),(5,I a0),(6,I a1),(7,I a2)] [(1,K1t s0)])
theorem Kg0 : ∀ p r,Kfy p = some r → Kfz p r := by
 refine Kfy.partial_correctness Kfz ?_
 rintro impl_IsSystem_l1_f impl_IsSystem_l1_ih ⟨s0,a0,a1,a2⟩ r h
 intro c hc
 refine WpL.step ?_
 refine sN ?_
 refine K7f hc 3 [(1,.ra 1 0),(3,I s0.fSize),(5,I a0),(6,I a1),(7,I a2),(148,.bool (decide (a2 < s0.fSize)))] ?_
 refine ic h (fun a3 h => ?_) fun a3 h => ?_
 ·refine sk ?_
  refine sN ?_
  refine bk 7 ?_
  obtain ⟨a4,a5,h⟩ := Qdd h
  refine rss hc none [oN,oN,oN,oN,oc (.bool a4),oN] [(1,.ra 1 0),(3,I s0.fSize),(5,I a0),(6,I a1),(7,I a2),(156,.bool (!a4))] (cq (Kfs _ _ a5) K5a tv) ?_
  rcases is h with ⟨a6,h⟩ | ⟨a6,h⟩
  ·refine cF (!a4) (nF a6) ?_
   refine sk ?_
   refine K7e hc 3 [(1,.ra 1 0),(3,I s0.fSize),(5,I a0),(6,I a1),(7,I (wr (a2 + 1)))] ?_
   refine Qcv ?_
   exact (impl_IsSystem_l1_ih _ _ h c hc)
  refine cT (!a4) (nT a6) ?_
  refine rs0 hc 1 [(2,.bool false)] [] ?_
  refine rt ?_
  obtain rfl := os h
  exact re [true]
 refine xt 6 ?_
 refine Qcp ?_
 refine Qcw ?_
 obtain rfl := os h
 exact iv []
def Kg1 (c : Ctx) (s0 : K00) (a0 : Int) : (Unit) ⊕ (Bool) → Exit → Q0a → Prop
 | .inl _ => Qcz c (.exit 4) (mkS [(1,.ra 1 0),(3,I s0.fSize),(5,I a0)] [(1,K1t s0)])
 | .inr r => Qd8 TIx Tryz.f39 [] (.bool r)
end Go.Am
