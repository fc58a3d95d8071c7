/- Walks, printed. -/
import Derived.Test.YtckgdfakjjdodaaGreatGPUTF2
set_option linter.unusedVariables false
set_option linter.unusedSimpArgs false
set_option maxRecDepth 100000
namespace Go.Am
open Go Go.Proofs
def Kdy : Option (List (List Nat)) := rx [[0],[1],[0],[0,2],[4],[5],[0],[0,6],[8],[9]]
def Kdz : Option (List (List Nat)) := rx [[0],[0],[0,1],[0,1,2],[0,1,2,3],[0],[6],[7]]
def Ke0 : Option (List (List Nat)) := rx [[0],[1],[2],[3],[3],[3,4],[3,4,5],[3,4,5,6],[3],[9],[10],[11]]
mutual
def Ke1 (p : K02 × LL × K00) : Option (K03) :=
 match p with
 | (s0,ctx1,t2) =>
  if (t2.fOp == 0) = true then
  (Kd8 (ctx1.length : Int)) >>= fun a0 =>
  (idx a0 t2.fN) >>= fun a1 =>
  (idx ctx1 t2.fN) >>= fun a2 =>
  (Kcw a2) >>= fun a3 =>
  some (K03.mk a3 (List.set a0 (Int.toNat t2.fN) 1) 0 [])
  else
  if (t2.fOp == 1) = true then
  (Kd8 (ctx1.length : Int)) >>= fun a4 =>
  some (K03.mk [0] a4 0 [])
  else
  ((
  if (t2.fOp == 9) = true then
  (Kd5 (ctx1,[t2.fType])) >>= fun a5 =>
  some (a5)
  else
  some (ctx1)
  ) : Option (LL)) >>= fun a6 =>
  (Ke3 (s0,a6,t2,0)) >>= fun a7 =>
  if (a7.ffault != 0) = true then
  some a7
  else
  ((
  if (t2.fOp == 2) = true then
  some ((t2.fOp == 2))
  else
  some ((t2.fOp == 3))
  ) : Option (Bool)) >>= fun a8 =>
  if a8 = true then
  (idx a7.fty 0) >>= fun a9 =>
  if (a9 != 0) = true then
  (Kdb 2) >>= fun b1 =>
  some b1
  else
  (Ke4 (s0,ctx1,t2,a7)) >>= fun b2 =>
  some b2
  else
  if (t2.fOp == 4) = true then
  (Ke3 (s0,ctx1,t2,1)) >>= fun b3 =>
  if (b3.ffault != 0) = true then
  some b3
  else
  (Kbt (1,[a7.fty,b3.fty])) >>= fun b4 =>
  (Kdi (s0,a7.fneeds,1,b3.fneeds)) >>= fun b5 =>
  (Kdl (b4,b5)) >>= fun b6 =>
  some b6
  else
  if (t2.fOp == 6) = true then
  (Kbt (2,[a7.fty,t2.fType])) >>= fun b7 =>
  (Kdl (b7,a7.fneeds)) >>= fun b8 =>
  some b8
  else
  if (t2.fOp == 7) = true then
  (Kbt (2,[t2.fType,a7.fty])) >>= fun b9 =>
  (Kdl (b9,a7.fneeds)) >>= fun c0 =>
  some c0
  else
  if (t2.fOp == 9) = true then
  (idx a7.fneeds 0) >>= fun c1 =>
  (K9v (s0,c1,t2.fN)) >>= fun c2 =>
  if c2 = true then
  (Kbt ((wr (3 + t2.fN)),[t2.fType,a7.fty])) >>= fun c3 =>
  (cut a7.fneeds (some 1) none none) >>= fun c4 =>
  (Kcw c4) >>= fun c5 =>
  (Kdl (c3,c5)) >>= fun c6 =>
  some c6
  else
  (Kdb 9) >>= fun c7 =>
  some c7
  else
  if (t2.fOp == 11) = true then
  (Kbt ((wr (19 + t2.fN)),[a7.fty])) >>= fun c8 =>
  (Kd8 (ctx1.length : Int)) >>= fun c9 =>
  (Kdi (s0,c9,t2.fN,a7.fneeds)) >>= fun d0 =>
  (Kdl (c8,d0)) >>= fun d1 =>
  some d1
  else
  if (t2.fOp == 10) = true then
  (idx a7.fty 0) >>= fun d2 =>
  (Kcg d2) >>= fun d3 =>
  if d3 = true then
  (Ke3 (s0,ctx1,t2,1)) >>= fun d4 =>
  if (d4.ffault != 0) = true then
  some d4
  else
  (Kcz (a7.fty,0)) >>= fun d5 =>
  (Kca (d4.fty,d5)) >>= fun d6 =>
  if d6 = true then
  (Kcz (a7.fty,1)) >>= fun d7 =>
  (idx a7.fty 0) >>= fun d8 =>
  (Kd2 d8) >>= fun d9 =>
  (Kdi (s0,a7.fneeds,d9,d4.fneeds)) >>= fun e0 =>
  some (K03.mk d7 e0 0 [])
  else
  (Kdb 3) >>= fun e1 =>
  some e1
  else
  (Kdb 6) >>= fun e2 =>
  some e2
  else
  (Ke2 (s0,ctx1,t2,a7)) >>= fun e3 =>
  some e3
 partial_fixpoint
def Ke2 (p : K02 × LL × K00 × K03) : Option (K03) :=
 match p with
 | (s0,ctx1,t2,a3) =>
  (idx a3.fty 0) >>= fun a0 =>
  ((
  if (t2.fOp == 5) = true then
  some ((a0 != 1))
  else
  some (false)
  ) : Option (Bool)) >>= fun a1 =>
  if a1 = true then
  (Kdb 4) >>= fun a2 =>
  some a2
  else
  ((
  if (t2.fOp == 8) = true then
  some ((a0 != 2))
  else
  some (false)
  ) : Option (Bool)) >>= fun a4 =>
  if a4 = true then
  (Kdb 5) >>= fun a5 =>
  some a5
  else
  ((
  if (t2.fOp == 12) = true then
  (Kcj a0) >>= fun a6 =>
  some ((!a6))
  else
  some (false)
  ) : Option (Bool)) >>= fun a7 =>
  if a7 = true then
  (Kdb 7) >>= fun a8 =>
  some a8
  else
  (K9v (s0,1,t2.fN)) >>= fun a9 =>
  if a9 = true then
  (Kcz (a3.fty,0)) >>= fun b1 =>
  ((
  if (t2.fOp == 5) = true then
   (Kcz (a3.fty,1)) >>= fun b2 =>
   (Kcz (a3.fty,0)) >>= fun b3 =>
   some ([b2,b3])
  else
   some ([b1])
  ) : Option (LL)) >>= fun b4 =>
  (Kd5 (ctx1,b4)) >>= fun b5 =>
  (Ke3 (s0,b5,t2,1)) >>= fun b6 =>
  if (b6.ffault != 0) = true then
  some b6
  else
  (cut b6.fneeds (some (b4.length : Int)) none none) >>= fun b7 =>
  (Kcw b7) >>= fun b8 =>
  ((
   if (t2.fOp == 12) = true then
   (Kd2 a0) >>= fun b9 =>
   (K9s (s0,t2.fN,b9)) >>= fun c0 =>
   some (.inl (c0,b8,true))
   else
   ((
    if (t2.fOp == 5) = true then
    (idx b6.fneeds 1) >>= fun c1 =>
    (K9v (s0,c1,t2.fN)) >>= fun c2 =>
    some (.inl (b8,c2))
    else
    ((
     if (t2.fOp == 8) = true then
     (Kcz (a3.fty,1)) >>= fun c3 =>
     (Kd5 (ctx1,[c3])) >>= fun c4 =>
     (Ke3 (s0,c4,t2,2)) >>= fun c5 =>
     if (c5.ffault != 0) = true then
     some (.inr c5)
     else
     (Kca (b6.fty,c5.fty)) >>= fun c6 =>
     if c6 = true then
     (idx c5.fneeds 0) >>= fun c7 =>
     (K9v (s0,c7,t2.fN)) >>= fun c8 =>
     (cut c5.fneeds (some 1) none none) >>= fun c9 =>
     (Kds (s0,b8,c9)) >>= fun d0 =>
     some (.inl (d0,c8))
     else
     (Kdb 3) >>= fun d1 =>
     some (.inr d1)
     else
     some (.inl (b8,true))) : Option (((List Int) × Bool) ⊕ (K03))) >>= fun fl => match fl with
    | .inl (d2,d3) =>
     some (.inl (d2,d3))
    | .inr r =>
     some (.inr r)) : Option (((List Int) × Bool) ⊕ (K03))) >>= fun fl => match fl with
   | .inl (d4,d5) =>
    some (.inl (t2.fN,d4,d5))
   | .inr r =>
    some (.inr r)) : Option ((Int × (List Int) × Bool) ⊕ (K03))) >>= fun fl => match fl with
  | .inl (d6,d7,d8) =>
   ((
   if d8 = true then
    (idx b6.fneeds 0) >>= fun d9 =>
    (K9v (s0,d9,d6)) >>= fun e0 =>
    some ((!e0))
   else
    some (true)
   ) : Option (Bool)) >>= fun e1 =>
   if e1 = true then
   (Kdb 9) >>= fun e2 =>
   some e2
   else
   (Kd8 (ctx1.length : Int)) >>= fun e3 =>
   (Kdi (s0,e3,t2.fN,a3.fneeds)) >>= fun e4 =>
   (Kdi (s0,e4,1,d7)) >>= fun e5 =>
   some (K03.mk b6.fty e5 0 [])
  | .inr r =>
   some r
  else
  (Kdb 8) >>= fun e6 =>
  some e6
 partial_fixpoint
def Ke3 (p : K02 × LL × K00 × Int) : Option (K03) :=
 match p with
 | (s0,ctx1,t2,k3) =>
  (idx t2.fKids k3) >>= fun a0 =>
  (Ke1 (s0,ctx1,a0)) >>= fun a1 =>
  ((
  if (a1.ffault != 0) = true then
  (Qdw ([k3].length + a1.fpath.length) 8) >>= fun _ =>
  some (([k3] ++ a1.fpath))
  else
  some (a1.fpath)
  ) : Option ((List Int))) >>= fun a2 =>
  some (K03.mk a1.fty a1.fneeds a1.ffault a2)
 partial_fixpoint
def Ke4 (p : K02 × LL × K00 × K03) : Option (K03) :=
 match p with
 | (s0,ctx1,t2,a3) =>
  (Ke3 (s0,ctx1,t2,1)) >>= fun a0 =>
  if (a0.ffault != 0) = true then
  some a0
  else
  if (t2.fOp == 2) = true then
  (idx a0.fty 0) >>= fun a1 =>
  if (a1 != 0) = true then
  (Kdb 2) >>= fun a2 =>
  some a2
  else
  (Kdi (s0,a3.fneeds,1,a0.fneeds)) >>= fun a4 =>
  some (K03.mk a0.fty a4 0 [])
  else
  (Ke3 (s0,ctx1,t2,2)) >>= fun a5 =>
  if (a5.ffault != 0) = true then
  some a5
  else
  (Kca (a0.fty,a5.fty)) >>= fun a6 =>
  if a6 = true then
  (Kds (s0,a0.fneeds,a5.fneeds)) >>= fun a7 =>
  (Kdi (s0,a3.fneeds,1,a7)) >>= fun a8 =>
  some (K03.mk a0.fty a8 0 [])
  else
  (Kdb 3) >>= fun a9 =>
  some a9
 partial_fixpoint
end
def Ke5 (p : K02 × LL × K00) (r : K03) : Prop :=
 match p with
 | (s0,ctx1,t2) => Q75 Tryz.prog 203 [K1h s0,sL ctx1,K1d t2] (K1j r) []
def Ke6 (p : K02 × LL × K00 × K03) (r : K03) : Prop :=
 match p with
 | (s0,ctx1,t2,a3) => Q75 Tryz.prog 239 [K1h s0,sL ctx1,K1d t2,K1j a3] (K1j r) []
def Ke7 (p : K02 × LL × K00 × Int) (r : K03) : Prop :=
 match p with
 | (s0,ctx1,t2,k3) => Q75 Tryz.prog 234 [K1h s0,sL ctx1,K1d t2,I k3] (K1j r) []
def Ke8 (p : K02 × LL × K00 × K03) (r : K03) : Prop :=
 match p with
 | (s0,ctx1,t2,a3) => Q75 Tryz.prog 236 [K1h s0,sL ctx1,K1d t2,K1j a3] (K1j r) []
theorem Ke9 : (∀ p r,Ke1 p = some r → Ke5 p r) ∧ (∀ p r,Ke2 p = some r → Ke6 p r) ∧ (∀ p r,Ke3 p = some r → Ke7 p r) ∧ (∀ p r,Ke4 p = some r → Ke8 p r) := by
 refine Ke1.mutual_partial_correctness Ke5 Ke6 Ke7 Ke8 ?_ ?_ ?_ ?_
 ·rintro spec_l3Taken_f spec_l3Of_f spec_l3Numbers_f spec_l3Taken_ih spec_l3Of_ih spec_l3Numbers_ih ⟨s0,ctx1,t2⟩ r h
  refine b0 Tryz.f203 K4v 206 [(0,K1h s0),(1,sL ctx1),(2,K1d t2)] fun c hc => ?_
  refine rs hc none [some (.new 1),some (.new 2),some (.new 3)] [(1,sL ctx1),(3,.ra 1 0),(5,.ra 2 0),(6,.ra 3 0)] [(1,K1g s0),(2,K1c t2),(3,.box [.nils,.nils,I 0,.nils])] tv ?_
  refine sN ?_
  refine K7p hc 2 [(1,sL ctx1),(3,.ra 1 0),(5,.ra 2 0),(6,.ra 3 0),(13,I t2.fOp)] ?_
  refine bk 0 ?_
  refine K7p hc 2 [(1,sL ctx1),(3,.ra 1 0),(5,.ra 2 0),(6,.ra 3 0),(13,I t2.fOp),(14,.bool (t2.fOp == 0))] ?_
  refine ic h (fun a0 h => ?_) fun a0 h => ?_
  ·obtain ⟨a1,a2,h⟩ := Qdj h
   refine rs hc none [oN,some (.eqv (.no) ⟨[(17,I (ctx1.length : Int))],[],[]⟩),some (.call (oI a1) [] 4),oN] [(1,sL ctx1),(5,.ra 2 0),(6,.ra 3 0),(7,.rs 4)] [(2,K1c t2),(3,.box [.nils,.nils,I 0,.nils]),(4,rI a1)] (ai (Qdp (d := 17) K0q ctx1) (cq (Kda _ _ a2) K4i tv)) ?_
   obtain ⟨a4,a5,h⟩ := Qdj h
   refine rs hc none [oN,oN,oN,oN,some (.eqv (.mk 0 true) ⟨[],[(4,some (.arr (List.map I (List.set a1 (Int.toNat t2.fN) 1))))],[]⟩)] [(1,sL ctx1),(5,.ra 2 0),(6,.ra 3 0),(7,.rs 4)] [(2,K1c t2),(3,.box [.nils,.nils,I 0,.nils]),(4,.arr (List.map I (List.set a1 (Int.toNat t2.fN) 1)))] (ac (Qdo (enc := I) a5) (congrArg (fun z => (⟨[],[(4,some (.arr z))],[]⟩ : Wr)) (Qem (enc := I) (i := Int.toNat t2.fN) (l := a1) (v := 1) (x := I 1) (Qdy 1))) (Qen (enc := I) (sz := 1) Qe2 a5) tv) ?_
   obtain ⟨a6,a7,a8,a9,h⟩ := bq2 h
   refine rs hc none [oN,oN,oN,some (.el (sI a6)),oN,some (.call (oI a8) [] 5),oN,oN,oN] [(6,.ra 3 0)] [(3,.box [.rs 5,.rs 4,I 0,.nils]),(4,.arr (List.map I (List.set a1 (Int.toNat t2.fN) 1))),(5,rI a8)] (ai (xL a7) (cq (Kcy _ _ a9) K48 tv)) ?_
   refine vz 5 (Qeb a8) [(6,.ra 3 0)] [(3,.box [sI a8,.rs 4,I 0,.nils]),(4,.arr (List.map I (List.set a1 (Int.toNat t2.fN) 1)))] ?_
   refine vz 4 (Qeb (List.set a1 (Int.toNat t2.fN) 1)) [(6,.ra 3 0)] [(3,.box [sI a8,.sl (List.map I (List.set a1 (Int.toNat t2.fN) 1)),I 0,.nils])] ?_
   refine rt ?_
   obtain rfl := os h
   exact rq [false]
  refine K7p hc 2 [(1,sL ctx1),(3,.ra 1 0),(5,.ra 2 0),(6,.ra 3 0),(31,.bool (t2.fOp == 1))] ?_
  refine ic h (fun b1 h => ?_) fun b1 h => ?_
  ·obtain ⟨b2,b3,h⟩ := Qdj h
   refine rs hc none [some (.mk 6 true),oN,some (.eqv (.no) ⟨[(35,I (ctx1.length : Int))],[],[]⟩),some (.call (oI b2) [] 7),oN,oN] [(6,.ra 3 0)] [(3,.box [.rs 6,.rs 7,I 0,.nils]),(6,.arr (List.map I [0])),(7,rI b2)] (ai (Qdp (d := 35) K0q ctx1) (cq (Kda _ _ b3) K4i tv)) ?_
   refine vz 6 (Qeb [0]) [(6,.ra 3 0)] [(3,.box [.sl (List.map I [0]),.rs 7,I 0,.nils]),(7,rI b2)] ?_
   refine vz 7 (Qeb b2) [(6,.ra 3 0)] [(3,.box [.sl (List.map I [0]),sI b2,I 0,.nils])] ?_
   refine rt ?_
   obtain rfl := os h
   exact rq [false]
  refine sk ?_
  refine K7p hc 2 [(1,sL ctx1),(3,.ra 1 0),(5,.ra 2 0),(6,.ra 3 0),(8,sL ctx1)] ?_
  refine sN ?_
  refine K7p hc 3 [(1,sL ctx1),(3,.ra 1 0),(5,.ra 2 0),(6,.ra 3 0),(8,sL ctx1),(41,.bool (t2.fOp == 9))] ?_
  obtain ⟨b4,b5,h⟩ := Qdj h
  refine Wp.into (x := .normal) (mkS [(1,sL ctx1),(3,.ra 1 0),(5,.ra 2 0),(6,.ra 3 0),(8,sL b4)] [(1,K1g s0),(2,K1c t2),(3,.box [.nils,.nils,I 0,.nils])]) ?_ ?_
  ·replace h := b5
   refine ic h (fun b6 h => ?_) fun b6 h => ?_
   ·obtain ⟨b7,b8,h⟩ := Qdj h
    refine rg hc none [oN,oN,oN,some (.mk 8 false),some (.call (.osl (List.map K0q b7)) [.tup []] 9),oN] [(1,sL ctx1),(3,.ra 1 0),(5,.ra 2 0),(6,.ra 3 0),(8,.rs 9)] [(1,K1g s0),(2,K1c t2),(3,.box [.nils,.nils,I 0,.nils]),(9,.arr (List.map K0q b7))] (ab (Q75.args (A1 := [sL ctx1,.sl (Q02 (List.map K0q [t2.fType]))]) (A2 := [sL ctx1,.sl (List.map K0q [t2.fType])]) (by simp only [List.map_nil,K0u]) (Kd7 _ _ b8)) K4g tv) ?_
    obtain rfl := os h
    exact Qd5.view (fun a w hv => SRx.renL [] (SRx.frzC 9 (xs := List.map K0q b7) (xs' := List.map K0q b7) hv (by kernel_rfl) (K0u _)) (by kernel_rfl) (by kernel_rfl) (by kernel_rfl))
   refine sk ?_
   obtain rfl := os h
   exact iv []
  clear b5
  obtain ⟨b9,c0,h⟩ := Qdj h
  refine rs hc none [oN,oN,oN,oc (K1j b9),some (.new 10),oN] [(1,sL ctx1),(3,.ra 1 0),(5,.ra 2 0),(6,.ra 3 0),(9,.ra 10 0)] [(1,K1g s0),(2,K1c t2),(3,.box [.nils,.nils,I 0,.nils]),(10,K1i b9)] (cq (spec_l3Of_ih _ _ c0) K4k tv) ?_
  refine sN ?_
  refine K7p hc 3 [(1,sL ctx1),(3,.ra 1 0),(5,.ra 2 0),(6,.ra 3 0),(9,.ra 10 0),(53,.bool (b9.ffault != 0))] ?_
  refine ic h (fun c1 h => ?_) fun c1 h => ?_
  ·refine rs0 hc 2 [(6,.ra 3 0)] [(3,K1i b9)] ?_
   refine rt ?_
   obtain rfl := os h
   exact rq [false]
  refine sk ?_
  refine sN ?_
  refine K7p hc 2 [(1,sL ctx1),(3,.ra 1 0),(5,.ra 2 0),(6,.ra 3 0),(9,.ra 10 0),(56,I t2.fOp)] ?_
  refine bk 1 ?_
  refine sN ?_
  refine K7p hc 2 [(1,sL ctx1),(3,.ra 1 0),(5,.ra 2 0),(6,.ra 3 0),(9,.ra 10 0),(56,I t2.fOp),(57,.bool (t2.fOp == 2))] ?_
  obtain ⟨c2,c3,h⟩ := Qdj h
  refine Wp.into (x := .normal) (mkS [(1,sL ctx1),(3,.ra 1 0),(5,.ra 2 0),(6,.ra 3 0),(9,.ra 10 0),(56,I t2.fOp),(57,.bool c2)] [(1,K1g s0),(2,K1c t2),(3,.box [.nils,.nils,I 0,.nils]),(10,K1i b9)]) ?_ ?_
  ·replace h := c3
   refine ic h (fun c4 h => ?_) fun c4 h => ?_
   ·refine sk ?_
    obtain rfl := os h
    exact Qd5.mk
   refine K7o hc 2 [(1,sL ctx1),(3,.ra 1 0),(5,.ra 2 0),(6,.ra 3 0),(9,.ra 10 0),(56,I t2.fOp),(57,.bool (t2.fOp == 3))] ?_
   obtain rfl := os h
   exact Qd5.mk
  clear c3
  refine ic h (fun c5 h => ?_) fun c5 h => ?_
  ·refine sN ?_
   obtain ⟨c6,c7,h⟩ := Qdj h
   refine rss hc none [oN,oN,some (.el (I c6)),oN,oN] [(1,sL ctx1),(3,.ra 1 0),(5,.ra 2 0),(6,.ra 3 0),(9,.ra 10 0),(64,.bool (c6 != 0))] (ai (ix c7) tv) ?_
   refine ic h (fun c8 h => ?_) fun c8 h => ?_
   ·obtain ⟨c9,d0,h⟩ := Qdj h
    refine rs hc none [some (.call (K1q c9) [] 11),oN] [(6,.ra 3 0)] [(3,.box [.rs 11,.rs 12,I c9.ffault,.rs 13]),(11,rI c9.fty),(12,rI c9.fneeds),(13,rI c9.fpath)] (cq (Kdd _ _ d0) K4m tv) ?_
    refine vz 11 (Qeb c9.fty) [(6,.ra 3 0)] [(3,.box [sI c9.fty,.rs 12,I c9.ffault,.rs 13]),(12,rI c9.fneeds),(13,rI c9.fpath)] ?_
    refine vz 12 (Qeb c9.fneeds) [(6,.ra 3 0)] [(3,.box [sI c9.fty,sI c9.fneeds,I c9.ffault,.rs 13]),(13,rI c9.fpath)] ?_
    refine vz 13 (Qeb c9.fpath) [(6,.ra 3 0)] [(3,K1i c9)] ?_
    refine rt ?_
    obtain rfl := os h
    exact rq [false]
   refine sk ?_
   obtain ⟨d1,d2,h⟩ := Qdj h
   refine rs hc none [oN,oN,oN,oN,oc (K1j d1),oN] [(6,.ra 3 0)] [(3,K1i d1)] (cq (spec_l3Numbers_ih _ _ d2) K4o tv) ?_
   refine rt ?_
   obtain rfl := os h
   exact rq [false]
  refine K7p hc 2 [(1,sL ctx1),(3,.ra 1 0),(5,.ra 2 0),(6,.ra 3 0),(9,.ra 10 0),(56,I t2.fOp),(71,.bool (t2.fOp == 4))] ?_
  refine ic h (fun d3 h => ?_) fun d3 h => ?_
  ·obtain ⟨d4,d5,h⟩ := Qdj h
   refine rs hc none [oN,oN,oN,oc (K1j d4),some (.new 14),oN] [(3,.ra 1 0),(6,.ra 3 0),(9,.ra 10 0),(10,.ra 14 0)] [(1,K1g s0),(3,.box [.nils,.nils,I 0,.nils]),(10,K1i b9),(14,K1i d4)] (cq (spec_l3Of_ih _ _ d5) K4k tv) ?_
   refine sN ?_
   refine K7p hc 3 [(3,.ra 1 0),(6,.ra 3 0),(9,.ra 10 0),(10,.ra 14 0),(79,.bool (d4.ffault != 0))] ?_
   refine ic h (fun d6 h => ?_) fun d6 h => ?_
   ·refine rs0 hc 2 [(6,.ra 3 0)] [(3,K1i d4)] ?_
    refine rt ?_
    obtain rfl := os h
    exact rq [false]
   refine sk ?_
   obtain ⟨d7,d8,d9,e0,e3,e4,h⟩ := bq3 h
   refine rs hc (rx [[0],[1],[0],[0,2],[4],[5],[0],[0],[0,7],[0],[0,9],[11],[12],[13]]) [oN,oN,oN,oN,some (.mk 15 false),some (.call (oI d7) [] 16),oN,oN,oN,oN,oN,some (.call (oI d9) [] 17),some (.call (K1j e3) [.tup []] 1),oN] [(6,.ra 3 0)] [(3,K1i e3)] (ac (Q75.args (A1 := [I 1,.sl (Q02 (List.map K0q [b9.fty,d4.fty]))]) (A2 := [I 1,.sl (List.map K0q [b9.fty,d4.fty])]) (by simp only [List.map_nil,K0u]) (Kbv _ _ d8)) K3o (Or.inr (Qej Qef d7) : ([15] : List Nat) = [] ∨ noSh (oI d7) = true) (cq (Kdk _ _ e0) K4q (ab (Q75.args (A1 := [.sl (Q02 (List.map I d7)),.sl (Q02 (List.map I d9))]) (A2 := [sI d7,sI d9]) (by simp only [List.map_nil,Qeb]) (Kdn _ _ e4)) K4s tv))) ?_
   refine rt ?_
   obtain rfl := os h
   exact rq [false]
  refine K7p hc 2 [(1,sL ctx1),(3,.ra 1 0),(5,.ra 2 0),(6,.ra 3 0),(9,.ra 10 0),(56,I t2.fOp),(94,.bool (t2.fOp == 6))] ?_
  refine ic h (fun e5 h => ?_) fun e5 h => ?_
  ·obtain ⟨e6,e7,e8,e9,h⟩ := bq2 h
   refine rs hc Kdy [oN,oN,oN,oN,some (.mk 18 false),some (.call (oI e6) [] 19),oN,oN,some (.call (K1j e8) [.tup []] 1),oN] [(6,.ra 3 0)] [(3,K1i e8)] (ad (Q75.args (A1 := [I 2,.sl (Q02 (List.map K0q [b9.fty,t2.fType]))]) (A2 := [I 2,.sl (List.map K0q [b9.fty,t2.fType])]) (by simp only [List.map_nil,K0u]) (Kbv _ _ e7)) K3o (Or.inr (Qej Qef e6) : ([18] : List Nat) = [] ∨ noSh (oI e6) = true) (Q75.args (A1 := [.sl (Q02 (List.map I e6)),sI b9.fneeds]) (A2 := [sI e6,sI b9.fneeds]) (by simp only [List.map_nil,Qeb]) (Kdn _ _ e9)) (ai K4s tv)) ?_
   refine rt ?_
   obtain rfl := os h
   exact rq [false]
  refine K7p hc 2 [(1,sL ctx1),(3,.ra 1 0),(5,.ra 2 0),(6,.ra 3 0),(9,.ra 10 0),(56,I t2.fOp),(105,.bool (t2.fOp == 7))] ?_
  refine ic h (fun f0 h => ?_) fun f0 h => ?_
  ·obtain ⟨f1,f2,f3,f4,h⟩ := bq2 h
   refine rs hc Kdy [oN,oN,oN,oN,some (.mk 20 false),some (.call (oI f1) [] 21),oN,oN,some (.call (K1j f3) [.tup []] 1),oN] [(6,.ra 3 0)] [(3,K1i f3)] (ad (Q75.args (A1 := [I 2,.sl (Q02 (List.map K0q [t2.fType,b9.fty]))]) (A2 := [I 2,.sl (List.map K0q [t2.fType,b9.fty])]) (by simp only [List.map_nil,K0u]) (Kbv _ _ f2)) K3o (Or.inr (Qej Qef f1) : ([20] : List Nat) = [] ∨ noSh (oI f1) = true) (Q75.args (A1 := [.sl (Q02 (List.map I f1)),sI b9.fneeds]) (A2 := [sI f1,sI b9.fneeds]) (by simp only [List.map_nil,Qeb]) (Kdn _ _ f4)) (ai K4s tv)) ?_
   refine rt ?_
   obtain rfl := os h
   exact rq [false]
  refine K7p hc 2 [(1,sL ctx1),(3,.ra 1 0),(5,.ra 2 0),(6,.ra 3 0),(9,.ra 10 0),(56,I t2.fOp),(116,.bool (t2.fOp == 9))] ?_
  refine ic h (fun f5 h => ?_) fun f5 h => ?_
  ·refine sN ?_
   obtain ⟨f6,f7,f8,f9,h⟩ := bq2 h
   refine rs hc (rx [[0],[0],[0,1],[0,1,2],[0,1,2,3],[0],[0,5],[7],[8]]) [oN,oN,oN,some (.el (I f6)),oN,oN,oN,oc (.bool f8),oN] [(5,.ra 2 0),(6,.ra 3 0),(9,.ra 10 0),(126,.bool (!f8))] [(2,K1c t2),(3,.box [.nils,.nils,I 0,.nils]),(10,K1i b9)] (ai (ix f7) (cq (K9x _ _ f9) K31 tv)) ?_
   rcases is h with ⟨g0,h⟩ | ⟨g0,h⟩
   ·refine cF (!f8) (nF g0) ?_
    refine sk ?_
    obtain ⟨g1,g2,g3,g4,g5,g6,g7,g8,h⟩ := bq4 h
    refine rs hc (rx [[0],[1],[2],[0],[0,3],[0],[0,5],[0,3,4,5,6],[8],[0],[0,9],[0,9,10],[12],[13],[14]]) [oN,oN,oN,oN,oN,oN,oN,some (.mk 22 false),some (.call (oI g1) [] 23),oN,oN,some (.eqv (.no) ⟨[(139,sI g3)],[],[]⟩),some (.call (oI g5) [] 24),some (.call (K1j g7) [.tup []] 1),oN] [(6,.ra 3 0)] [(3,K1i g7)] (ad (Q75.args (A1 := [I (wr (3 + t2.fN)),.sl (Q02 (List.map K0q [t2.fType,b9.fty]))]) (A2 := [I (wr (3 + t2.fN)),.sl (List.map K0q [t2.fType,b9.fty])]) (by simp only [List.map_nil,K0u]) (Kbv _ _ g2)) K3o (Or.inr (Qej Qef g1) : ([22] : List Nat) = [] ∨ noSh (oI g1) = true) (Qds (d := 139) I g4) (ai (Qdr (enc := I) (sz := 1) Qe2 g4) (cq (Kcy _ _ g6) K48 (ab (Q75.args (A1 := [.sl (Q02 (List.map I g1)),.sl (Q02 (List.map I g5))]) (A2 := [sI g1,sI g5]) (by simp only [List.map_nil,Qeb]) (Kdn _ _ g8)) K4s tv)))) ?_
    refine rt ?_
    obtain rfl := os h
    exact rq [false]
   refine cT (!f8) (nT g0) ?_
   obtain ⟨g9,i0,h⟩ := Qdj h
   refine rs hc none [some (.call (K1q g9) [] 25),oN] [(6,.ra 3 0)] [(3,.box [.rs 25,.rs 26,I g9.ffault,.rs 27]),(25,rI g9.fty),(26,rI g9.fneeds),(27,rI g9.fpath)] (cq (Kdd _ _ i0) K4m tv) ?_
   refine vz 25 (Qeb g9.fty) [(6,.ra 3 0)] [(3,.box [sI g9.fty,.rs 26,I g9.ffault,.rs 27]),(26,rI g9.fneeds),(27,rI g9.fpath)] ?_
   refine vz 26 (Qeb g9.fneeds) [(6,.ra 3 0)] [(3,.box [sI g9.fty,sI g9.fneeds,I g9.ffault,.rs 27]),(27,rI g9.fpath)] ?_
   refine vz 27 (Qeb g9.fpath) [(6,.ra 3 0)] [(3,K1i g9)] ?_
   refine rt ?_
   obtain rfl := os h
   exact rq [false]
  refine K7p hc 2 [(1,sL ctx1),(3,.ra 1 0),(5,.ra 2 0),(6,.ra 3 0),(9,.ra 10 0),(56,I t2.fOp),(142,.bool (t2.fOp == 11))] ?_
  refine ic h (fun i1 h => ?_) fun i1 h => ?_
  ·obtain ⟨i2,i3,i4,i5,i6,i7,i8,i9,h⟩ := bq4 h
   refine rs hc (rx [[0],[1],[2],[0],[0,3],[0,3,4],[6],[0],[0],[0,8],[7,8,9],[0],[0,11],[0],[0,13],[15],[16],[17]]) [oN,oN,oN,oN,oN,some (.mk 28 false),some (.call (oI i2) [] 29),oN,oN,some (.eqv (.no) ⟨[(153,I (ctx1.length : Int))],[],[]⟩),some (.call (oI i4) [] 30),oN,oN,oN,oN,some (.call (oI i6) [] 31),some (.call (K1j i8) [.tup []] 1),oN] [(6,.ra 3 0)] [(3,K1i i8)] (ad (Q75.args (A1 := [I (wr (19 + t2.fN)),.sl (Q02 (List.map K0q [b9.fty]))]) (A2 := [I (wr (19 + t2.fN)),.sl (List.map K0q [b9.fty])]) (by simp only [List.map_nil,K0u]) (Kbv _ _ i3)) K3o (Or.inr (Qej Qef i2) : ([28] : List Nat) = [] ∨ noSh (oI i2) = true) (Qdp (d := 153) K0q ctx1) (cq (Kda _ _ i5) K4i (ad (Q75.args (A1 := [K1h s0,.sl (Q02 (List.map I i4)),I t2.fN,sI b9.fneeds]) (A2 := [K1h s0,sI i4,I t2.fN,sI b9.fneeds]) (by simp only [List.map_nil,Qeb]) (Kdk _ _ i7)) K4q (Or.inr (Qej Qef i6) : ([30] : List Nat) = [] ∨ noSh (oI i6) = true) (Q75.args (A1 := [.sl (Q02 (List.map I i2)),.sl (Q02 (List.map I i6))]) (A2 := [sI i2,sI i6]) (by simp only [List.map_nil,Qeb]) (Kdn _ _ i9)) (ai K4s tv)))) ?_
   refine rt ?_
   obtain rfl := os h
   exact rq [false]
  refine K7p hc 2 [(1,sL ctx1),(3,.ra 1 0),(5,.ra 2 0),(6,.ra 3 0),(9,.ra 10 0),(161,.bool (t2.fOp == 10))] ?_
  refine ic h (fun j0 h => ?_) fun j0 h => ?_
  ·refine sN ?_
   obtain ⟨j8,j9,k0,k1,h⟩ := bq2 h
   refine rss hc none [oN,oN,some (.el (I j8)),oN,oc (.bool k0),oN] [(1,sL ctx1),(3,.ra 1 0),(5,.ra 2 0),(6,.ra 3 0),(9,.ra 10 0),(168,.bool (!k0))] (ai (ix j9) (cq (Kci _ _ k1) K40 tv)) ?_
   rcases is h with ⟨k2,h⟩ | ⟨k2,h⟩
   ·refine cF (!k0) (nF k2) ?_
    refine sk ?_
    obtain ⟨k4,k5,h⟩ := Qdj h
    refine rs hc none [oN,oN,oN,oc (K1j k4),some (.new 32),oN] [(3,.ra 1 0),(6,.ra 3 0),(9,.ra 10 0),(11,.ra 32 0)] [(1,K1g s0),(3,.box [.nils,.nils,I 0,.nils]),(10,K1i b9),(32,K1i k4)] (cq (spec_l3Of_ih _ _ k5) K4k tv) ?_
    refine sN ?_
    refine K7p hc 3 [(3,.ra 1 0),(6,.ra 3 0),(9,.ra 10 0),(11,.ra 32 0),(176,.bool (k4.ffault != 0))] ?_
    refine ic h (fun k6 h => ?_) fun k6 h => ?_
    ·refine rs0 hc 2 [(6,.ra 3 0)] [(3,K1i k4)] ?_
     refine rt ?_
     obtain rfl := os h
     exact rq [false]
    refine sk ?_
    refine sN ?_
    obtain ⟨k7,k8,k9,l0,h⟩ := bq2 h
    refine rss hc (rx [[0],[1],[0],[0,2],[0,2,3],[5],[6]]) [oN,oN,oN,oN,some (.call (oI k7) [] 33),oc (.bool k9),oN] [(3,.ra 1 0),(6,.ra 3 0),(9,.ra 10 0),(11,.ra 32 0),(184,.bool (!k9))] (cq (Kd1 _ _ k8) K4a (ac (Q75.args (A1 := [sI k4.fty,.sl (Q02 (List.map I k7))]) (A2 := [sI k4.fty,sI k7]) (by simp only [List.map_nil,Qeb]) (Kcc _ _ l0)) K3s (Or.inr rfl : ([33] : List Nat) = [] ∨ noSh (.bool k9) = true) tv)) ?_
    rcases is h with ⟨l1,h⟩ | ⟨l1,h⟩
    ·refine cF (!k9) (nF l1) ?_
     refine sk ?_
     obtain ⟨l2,l3,l4,l5,l6,l7,l8,l9,h⟩ := bq4 h
     refine rs hc (rx [[0],[1],[2],[0],[0],[0,4],[0],[0,6],[0,6,7],[0,6,7,8],[3,6,7,8,9],[0],[0,11],[13],[14],[15]]) [oN,oN,some (.call (oI l2) [] 34),oN,oN,oN,oN,oN,some (.el (I l4)),oN,oc (I l6),oN,oN,some (.call (oI l8) [] 35),oN,oN] [(6,.ra 3 0)] [(3,.box [.rs 34,.rs 35,I 0,.nils]),(34,rI l2),(35,rI l8)] (cq (Kd1 _ _ l3) K4a (ai (ix l5) (cq (Kd4 _ _ l7) K4c (cq (Kdk _ _ l9) K4q tv)))) ?_
     refine vz 34 (Qeb l2) [(6,.ra 3 0)] [(3,.box [sI l2,.rs 35,I 0,.nils]),(35,rI l8)] ?_
     refine vz 35 (Qeb l8) [(6,.ra 3 0)] [(3,.box [sI l2,sI l8,I 0,.nils])] ?_
     refine rt ?_
     obtain rfl := os h
     exact rq [false]
    refine cT (!k9) (nT l1) ?_
    obtain ⟨m0,m1,h⟩ := Qdj h
    refine rs hc none [some (.call (K1q m0) [] 36),oN] [(6,.ra 3 0)] [(3,.box [.rs 36,.rs 37,I m0.ffault,.rs 38]),(36,rI m0.fty),(37,rI m0.fneeds),(38,rI m0.fpath)] (cq (Kdd _ _ m1) K4m tv) ?_
    refine vz 36 (Qeb m0.fty) [(6,.ra 3 0)] [(3,.box [sI m0.fty,.rs 37,I m0.ffault,.rs 38]),(37,rI m0.fneeds),(38,rI m0.fpath)] ?_
    refine vz 37 (Qeb m0.fneeds) [(6,.ra 3 0)] [(3,.box [sI m0.fty,sI m0.fneeds,I m0.ffault,.rs 38]),(38,rI m0.fpath)] ?_
    refine vz 38 (Qeb m0.fpath) [(6,.ra 3 0)] [(3,K1i m0)] ?_
    refine rt ?_
    obtain rfl := os h
    exact rq [false]
   refine cT (!k0) (nT k2) ?_
   obtain ⟨m2,m3,h⟩ := Qdj h
   refine rs hc none [some (.call (K1q m2) [] 39),oN] [(6,.ra 3 0)] [(3,.box [.rs 39,.rs 40,I m2.ffault,.rs 41]),(39,rI m2.fty),(40,rI m2.fneeds),(41,rI m2.fpath)] (cq (Kdd _ _ m3) K4m tv) ?_
   refine vz 39 (Qeb m2.fty) [(6,.ra 3 0)] [(3,.box [sI m2.fty,.rs 40,I m2.ffault,.rs 41]),(40,rI m2.fneeds),(41,rI m2.fpath)] ?_
   refine vz 40 (Qeb m2.fneeds) [(6,.ra 3 0)] [(3,.box [sI m2.fty,sI m2.fneeds,I m2.ffault,.rs 41]),(41,rI m2.fpath)] ?_
   refine vz 41 (Qeb m2.fpath) [(6,.ra 3 0)] [(3,K1i m2)] ?_
   refine rt ?_
   obtain rfl := os h
   exact rq [false]
  refine sk ?_
  obtain ⟨m4,m5,h⟩ := Qdj h
  refine rs hc none [oN,oN,oN,oN,oc (K1j m4),oN] [(6,.ra 3 0)] [(3,K1i m4)] (cq (spec_l3Taken_ih _ _ m5) K4u tv) ?_
  refine rt ?_
  obtain rfl := os h
  exact rq [false]
 ·rintro spec_l3Of_f spec_l3Of_ih ⟨s0,ctx1,t2,a3⟩ r h
  refine b0 Tryz.f239 K4t 170 [(0,K1h s0),(1,sL ctx1),(2,K1d t2),(3,K1j a3)] fun c hc => ?_
  refine rs hc none [some (.new 1),some (.new 2),some (.new 3),some (.new 4)] [(1,sL ctx1),(4,.ra 1 0),(6,.ra 2 0),(7,.ra 3 0),(8,.ra 4 0)] [(1,K1g s0),(2,K1c t2),(3,K1i a3),(4,.box [.nils,.nils,I 0,.nils])] tv ?_
  obtain ⟨m6,m7,h⟩ := Qdj h
  refine rss hc none [oN,oN,some (.el (I m6)),oN,oN] [(1,sL ctx1),(4,.ra 1 0),(6,.ra 2 0),(7,.ra 3 0),(8,.ra 4 0),(9,I m6)] (ai (ix m7) tv) ?_
  refine sN ?_
  refine bk 0 ?_
  refine sN ?_
  obtain ⟨m8,m9,h⟩ := Qdj h
  refine Wp.into (x := .normal) (mkS [(1,sL ctx1),(4,.ra 1 0),(6,.ra 2 0),(7,.ra 3 0),(8,.ra 4 0),(9,I m6),(21,.bool m8)] [(1,K1g s0),(2,K1c t2),(3,K1i a3),(4,.box [.nils,.nils,I 0,.nils])]) ?_ ?_
  ·replace h := m9
   rcases is h with ⟨n0,h⟩ | ⟨n0,h⟩
   ·refine rgs hc none [oN,oN,oN,oN,oN,oN,oT,oN] [(1,sL ctx1),(4,.ra 1 0),(6,.ra 2 0),(7,.ra 3 0),(8,.ra 4 0),(9,I m6),(21,.bool (m6 != 1))] (ar 3 n0 tv) ?_
    obtain rfl := os h
    exact Qd5.mk
   refine rgs hc none [oN,oN,oN,oN,o_,o_,oF,oN] [(1,sL ctx1),(4,.ra 1 0),(6,.ra 2 0),(7,.ra 3 0),(8,.ra 4 0),(9,I m6),(21,.bool false)] (ar 2 (neT n0) (ai n0 tv)) ?_
   obtain rfl := os h
   exact Qd5.mk
  clear m9
  refine ic h (fun b6 h => ?_) fun b6 h => ?_
  ·obtain ⟨n1,n2,h⟩ := Qdj h
   refine rs hc none [some (.call (K1q n1) [] 5),oN] [(8,.ra 4 0)] [(4,.box [.rs 5,.rs 6,I n1.ffault,.rs 7]),(5,rI n1.fty),(6,rI n1.fneeds),(7,rI n1.fpath)] (cq (Kdd _ _ n2) K4m tv) ?_
   refine vz 5 (Qeb n1.fty) [(8,.ra 4 0)] [(4,.box [sI n1.fty,.rs 6,I n1.ffault,.rs 7]),(6,rI n1.fneeds),(7,rI n1.fpath)] ?_
   refine vz 6 (Qeb n1.fneeds) [(8,.ra 4 0)] [(4,.box [sI n1.fty,sI n1.fneeds,I n1.ffault,.rs 7]),(7,rI n1.fpath)] ?_
   refine vz 7 (Qeb n1.fpath) [(8,.ra 4 0)] [(4,K1i n1)] ?_
   refine rt ?_
   obtain rfl := os h
   exact rq [false]
  refine sN ?_
  obtain ⟨n3,n4,h⟩ := Qdj h
  refine Wp.into (x := .normal) (mkS [(1,sL ctx1),(4,.ra 1 0),(6,.ra 2 0),(7,.ra 3 0),(8,.ra 4 0),(9,I m6),(30,.bool n3)] [(1,K1g s0),(2,K1c t2),(3,K1i a3),(4,.box [.nils,.nils,I 0,.nils])]) ?_ ?_
  ·replace h := n4
   rcases is h with ⟨n5,h⟩ | ⟨n5,h⟩
   ·refine rgs hc none [oN,oN,oN,oN,oN,oN,oT,oN] [(1,sL ctx1),(4,.ra 1 0),(6,.ra 2 0),(7,.ra 3 0),(8,.ra 4 0),(9,I m6),(30,.bool (m6 != 2))] (ar 3 n5 tv) ?_
    obtain rfl := os h
    exact Qd5.mk
   refine rgs hc none [oN,oN,oN,oN,o_,o_,oF,oN] [(1,sL ctx1),(4,.ra 1 0),(6,.ra 2 0),(7,.ra 3 0),(8,.ra 4 0),(9,I m6),(30,.bool false)] (ar 2 (neT n5) (ai n5 tv)) ?_
   obtain rfl := os h
   exact Qd5.mk
  clear n4
  refine ic h (fun n6 h => ?_) fun n6 h => ?_
  ·obtain ⟨n7,n8,h⟩ := Qdj h
   refine rs hc none [some (.call (K1q n7) [] 8),oN] [(8,.ra 4 0)] [(4,.box [.rs 8,.rs 9,I n7.ffault,.rs 10]),(8,rI n7.fty),(9,rI n7.fneeds),(10,rI n7.fpath)] (cq (Kdd _ _ n8) K4m tv) ?_
   refine vz 8 (Qeb n7.fty) [(8,.ra 4 0)] [(4,.box [sI n7.fty,.rs 9,I n7.ffault,.rs 10]),(9,rI n7.fneeds),(10,rI n7.fpath)] ?_
   refine vz 9 (Qeb n7.fneeds) [(8,.ra 4 0)] [(4,.box [sI n7.fty,sI n7.fneeds,I n7.ffault,.rs 10]),(10,rI n7.fpath)] ?_
   refine vz 10 (Qeb n7.fpath) [(8,.ra 4 0)] [(4,K1i n7)] ?_
   refine rt ?_
   obtain rfl := os h
   exact rq [false]
  refine sN ?_
  obtain ⟨n9,o0,h⟩ := Qdj h
  refine Wp.into (x := .normal) (mkS [(1,sL ctx1),(4,.ra 1 0),(6,.ra 2 0),(7,.ra 3 0),(8,.ra 4 0),(9,I m6),(39,.bool n9)] [(1,K1g s0),(2,K1c t2),(3,K1i a3),(4,.box [.nils,.nils,I 0,.nils])]) ?_ ?_
  ·replace h := o0
   rcases is h with ⟨o1,h⟩ | ⟨o1,h⟩
   ·obtain ⟨o2,o3,h⟩ := Qdj h
    refine rgs hc none [oN,oN,oN,oN,oN,oc (.bool o2),oN,oT,oN] [(1,sL ctx1),(4,.ra 1 0),(6,.ra 2 0),(7,.ra 3 0),(8,.ra 4 0),(9,I m6),(39,.bool (!o2))] (ar 2 o1 (cq (Kcl _ _ o3) K42 (ar 2 o1 tv))) ?_
    obtain rfl := os h
    exact Qd5.mk
   refine rgs hc none [oN,oN,oN,oN,o_,o_,o_,oF,oN] [(1,sL ctx1),(4,.ra 1 0),(6,.ra 2 0),(7,.ra 3 0),(8,.ra 4 0),(9,I m6),(39,.bool false)] (ar 3 (neT o1) (ai o1 tv)) ?_
   obtain rfl := os h
   exact Qd5.mk
  clear o0
  refine ic h (fun o4 h => ?_) fun o4 h => ?_
  ·obtain ⟨o5,o6,h⟩ := Qdj h
   refine rs hc none [some (.call (K1q o5) [] 11),oN] [(8,.ra 4 0)] [(4,.box [.rs 11,.rs 12,I o5.ffault,.rs 13]),(11,rI o5.fty),(12,rI o5.fneeds),(13,rI o5.fpath)] (cq (Kdd _ _ o6) K4m tv) ?_
   refine vz 11 (Qeb o5.fty) [(8,.ra 4 0)] [(4,.box [sI o5.fty,.rs 12,I o5.ffault,.rs 13]),(12,rI o5.fneeds),(13,rI o5.fpath)] ?_
   refine vz 12 (Qeb o5.fneeds) [(8,.ra 4 0)] [(4,.box [sI o5.fty,sI o5.fneeds,I o5.ffault,.rs 13]),(13,rI o5.fpath)] ?_
   refine vz 13 (Qeb o5.fpath) [(8,.ra 4 0)] [(4,K1i o5)] ?_
   refine rt ?_
   obtain rfl := os h
   exact rq [false]
  refine sk ?_
  refine sN ?_
  obtain ⟨o7,o8,h⟩ := Qdj h
  refine rss hc none [oN,oN,oN,oc (.bool o7),oN] [(1,sL ctx1),(4,.ra 1 0),(6,.ra 2 0),(7,.ra 3 0),(8,.ra 4 0),(9,I m6),(53,.bool (!o7))] (cq (K9x _ _ o8) K31 tv) ?_
  rcases is h with ⟨o9,h⟩ | ⟨o9,h⟩
  ·refine cF (!o7) (nF o9) ?_
   refine sk ?_
   obtain ⟨p0,p3,h⟩ := Qdj h
   refine rs hc none [oN,oN,some (.call (oI p0) [] 14),some (.mk 15 true),oN] [(1,sL ctx1),(4,.ra 1 0),(6,.ra 2 0),(7,.ra 3 0),(8,.ra 4 0),(9,I m6),(10,.rs 15)] [(1,K1g s0),(2,K1c t2),(3,K1i a3),(4,.box [.nils,.nils,I 0,.nils]),(15,.arr (List.map K0m [p0]))] (cq (Kd1 _ _ p3) K4a tv) ?_
   refine sN ?_
   refine K7p hc 3 [(1,sL ctx1),(4,.ra 1 0),(6,.ra 2 0),(7,.ra 3 0),(8,.ra 4 0),(9,I m6),(10,.rs 15),(61,.bool (t2.fOp == 5))] ?_
   obtain ⟨p4,p5,h⟩ := Qdj h
   refine Wp.into (x := .normal) (mkS [(1,sL ctx1),(4,.ra 1 0),(6,.ra 2 0),(7,.ra 3 0),(8,.ra 4 0),(9,I m6),(10,.rs 18)] [(1,K1g s0),(2,K1c t2),(3,K1i a3),(4,.box [.nils,.nils,I 0,.nils]),(18,.arr (List.map K0m p4))]) ?_ ?_
   ·replace h := p5
    refine ic h (fun c5 h => ?_) fun c5 h => ?_
    ·obtain ⟨p6,p7,p8,p9,h⟩ := bq2 h
     refine rg hc (rx [[0],[1],[2],[0],[0,3],[5],[6],[7]]) [oN,oN,some (.call (oI p6) [] 16),oN,oN,some (.call (oI p8) [] 17),some (.mk 18 true),oN] [(1,sL ctx1),(4,.ra 1 0),(6,.ra 2 0),(7,.ra 3 0),(8,.ra 4 0),(9,I m6),(10,.rs 18)] [(1,K1g s0),(2,K1c t2),(3,K1i a3),(4,.box [.nils,.nils,I 0,.nils]),(18,.arr (List.map K0m [p6,p8]))] (cq (Kd1 _ _ p7) K4a (cq (Kd1 _ _ p9) K4a tv)) ?_
     obtain rfl := os h
     exact Qd5.mk
    refine sk ?_
    obtain rfl := os h
    exact iv [(18,15)]
   clear p5
   refine sN ?_
   refine vz 18 (K0v p4) [(1,sL ctx1),(4,.ra 1 0),(6,.ra 2 0),(7,.ra 3 0),(8,.ra 4 0),(9,I m6),(10,sL p4)] [(1,K1g s0),(2,K1c t2),(3,K1i a3),(4,.box [.nils,.nils,I 0,.nils])] ?_
   obtain ⟨q0,q1,q2,q3,h⟩ := bq2 h
   refine rg hc (rx [[0],[0],[0],[0,1,2],[0],[5],[0],[7]]) [oN,oN,oN,some (.call (.osl (List.map K0q q0)) [] 20),oN,some (.call (K1j q2) [.tup []] 1),some (.new 21),oN] [(1,sL ctx1),(4,.ra 1 0),(6,.ra 2 0),(7,.ra 3 0),(8,.ra 4 0),(9,I m6),(10,sL p4),(11,.ra 21 0)] [(1,K1g s0),(2,K1c t2),(3,K1i a3),(4,.box [.nils,.nils,I 0,.nils]),(21,K1i q2)] (cq (Kd7 _ _ q1) K4g (ab (Q75.args (A1 := [K1h s0,.sl (Q02 (List.map K0q q0)),K1d t2,I 1]) (A2 := [K1h s0,sL q0,K1d t2,I 1]) (by simp only [List.map_nil,K0u]) (spec_l3Of_ih _ _ q3)) K4k tv)) ?_
   refine sN ?_
   refine K7p hc 3 [(1,sL ctx1),(4,.ra 1 0),(6,.ra 2 0),(7,.ra 3 0),(8,.ra 4 0),(9,I m6),(10,sL p4),(11,.ra 21 0),(77,.bool (q2.ffault != 0))] ?_
   refine ic h (fun d6 h => ?_) fun d6 h => ?_
   ·refine rs0 hc 2 [(8,.ra 4 0)] [(4,K1i q2)] ?_
    refine rt ?_
    obtain rfl := os h
    exact rq [false]
   refine sk ?_
   refine rss hc none [oN,some (.eqv (.no) ⟨[(80,I (p4.length : Int))],[],[]⟩),oN] [(1,sL ctx1),(4,.ra 1 0),(6,.ra 2 0),(7,.ra 3 0),(8,.ra 4 0),(9,I m6),(11,.ra 21 0),(12,I (p4.length : Int))] (ai (Qdp (d := 80) K0q p4) tv) ?_
   refine K7p hc 3 [(1,sL ctx1),(4,.ra 1 0),(6,.ra 2 0),(7,.ra 3 0),(8,.ra 4 0),(9,I m6),(11,.ra 21 0),(12,I (p4.length : Int)),(13,I t2.fN)] ?_
   obtain ⟨q4,q5,q6,q7,h⟩ := bq2 h
   refine rs hc none [oN,oN,oN,some (.eqv (.no) ⟨[(86,sI q4)],[],[]⟩),some (.call (oI q6) [] 22),oN] [(1,sL ctx1),(4,.ra 1 0),(6,.ra 2 0),(7,.ra 3 0),(8,.ra 4 0),(9,I m6),(11,.ra 21 0),(13,I t2.fN),(14,.rs 22)] [(1,K1g s0),(2,K1c t2),(3,K1i a3),(4,.box [.nils,.nils,I 0,.nils]),(21,K1i q2),(22,rI q6)] (ab (Qds (d := 86) I q5) (Qdr (enc := I) (sz := 1) Qe2 q5) (cq (Kcy _ _ q7) K48 tv)) ?_
   refine K7p hc 1 [(1,sL ctx1),(4,.ra 1 0),(6,.ra 2 0),(7,.ra 3 0),(8,.ra 4 0),(9,I m6),(11,.ra 21 0),(13,I t2.fN),(14,.rs 22),(15,.bool true)] ?_
   refine sN ?_
   refine K7p hc 2 [(1,sL ctx1),(4,.ra 1 0),(6,.ra 2 0),(7,.ra 3 0),(8,.ra 4 0),(9,I m6),(11,.ra 21 0),(13,I t2.fN),(14,.rs 22),(15,.bool true),(89,I t2.fOp)] ?_
   refine bk 1 ?_
   refine K7p hc 2 [(1,sL ctx1),(4,.ra 1 0),(6,.ra 2 0),(7,.ra 3 0),(8,.ra 4 0),(9,I m6),(11,.ra 21 0),(13,I t2.fN),(14,.rs 22),(15,.bool true),(89,I t2.fOp),(90,.bool (t2.fOp == 12))] ?_
   obtain ⟨fl,q8,h⟩ := Qdj h
   refine flw (Kdx c s0 ctx1 t2 a3 q2 fl) ?_ (fun hF => ?_)
   ·replace h := q8
    refine ic h (fun e5 h => ?_) fun e5 h => ?_
    ·obtain ⟨q9,r0,r1,r2,h⟩ := bq2 h
     refine rgs hc (rx [[0],[0],[0,1],[0],[0,3],[5],[6]]) [oN,oN,oN,oN,oc (I q9),oc (I r1),oN] [(1,sL ctx1),(4,.ra 1 0),(6,.ra 2 0),(7,.ra 3 0),(8,.ra 4 0),(11,.ra 21 0),(13,I r1),(14,.rs 22),(15,.bool true)] (cq (Kd4 _ _ r0) K4c (cq (K9u _ _ r2) K2z tv)) ?_
     obtain rfl := os h
     exact Qd5.mk
    refine K7p hc 2 [(1,sL ctx1),(4,.ra 1 0),(6,.ra 2 0),(7,.ra 3 0),(8,.ra 4 0),(11,.ra 21 0),(13,I t2.fN),(14,.rs 22),(15,.bool true),(89,I t2.fOp),(98,.bool (t2.fOp == 5))] ?_
    obtain ⟨fl,r3,h⟩ := Qdj h
    refine flw (Kdw c s0 ctx1 t2 a3 q2 fl) ?_ (fun hF => ?_)
    ·replace h := r3
     refine ic h (fun f0 h => ?_) fun f0 h => ?_
     ·obtain ⟨r4,r5,r6,r7,h⟩ := bq2 h
      refine rgs hc Kdz [oN,oN,oN,some (.el (I r4)),oN,oN,oc (.bool r6),oN] [(1,sL ctx1),(4,.ra 1 0),(6,.ra 2 0),(7,.ra 3 0),(8,.ra 4 0),(11,.ra 21 0),(13,I t2.fN),(14,.rs 22),(15,.bool r6)] (ai (ix r5) (cq (K9x _ _ r7) K31 tv)) ?_
      obtain rfl := os h
      exact Qd5.mk
     refine K7p hc 2 [(1,sL ctx1),(4,.ra 1 0),(6,.ra 2 0),(7,.ra 3 0),(8,.ra 4 0),(11,.ra 21 0),(13,I t2.fN),(14,.rs 22),(15,.bool true),(107,.bool (t2.fOp == 8))] ?_
     obtain ⟨fl,r8,h⟩ := Qdj h
     refine flw (Kdv c s0 ctx1 t2 a3 q2 fl) ?_ (fun hF => ?_)
     ·replace h := r8
      refine ic h (fun f5 h => ?_) fun f5 h => ?_
      ·obtain ⟨r9,s1,s2,s3,e8,e9,h⟩ := bq3 h
       refine rs hc (rx [[0],[0],[0],[0,2],[0,2,3],[0,2,3,4],[0,1,2,3,4,5],[0],[8],[0],[10]]) [oN,oN,oN,oN,some (.call (oI r9) [] 23),some (.mk 24 true),some (.call (.osl (List.map K0q s2)) [.tup []] 25),oN,some (.call (K1j e8) [.tup []] 1),some (.new 26),oN] [(1,sL ctx1),(4,.ra 1 0),(6,.ra 2 0),(7,.ra 3 0),(8,.ra 4 0),(11,.ra 21 0),(13,I t2.fN),(14,.rs 22),(16,.ra 26 0)] [(1,K1g s0),(2,K1c t2),(3,K1i a3),(4,.box [.nils,.nils,I 0,.nils]),(21,K1i q2),(22,rI q6),(26,K1i e8)] (cq (Kd1 _ _ s1) K4a (ad (Q75.args (A1 := [sL ctx1,.sl (Q02 (List.map K0m [r9]))]) (A2 := [sL ctx1,.sl (List.map K0q [r9])]) (by simp only [List.map_nil,K0v]) (Kd7 _ _ s3)) K4g (Q75.args (A1 := [K1h s0,.sl (Q02 (List.map K0q s2)),K1d t2,I 2]) (A2 := [K1h s0,sL s2,K1d t2,I 2]) (by simp only [List.map_nil,K0u]) (spec_l3Of_ih _ _ e9)) K4k tv)) ?_
       refine sN ?_
       refine K7p hc 3 [(1,sL ctx1),(4,.ra 1 0),(6,.ra 2 0),(7,.ra 3 0),(8,.ra 4 0),(11,.ra 21 0),(13,I t2.fN),(14,.rs 22),(16,.ra 26 0),(120,.bool (e8.ffault != 0))] ?_
       refine ic h (fun g0 h => ?_) fun g0 h => ?_
       ·refine rs0 hc 2 [(8,.ra 4 0)] [(4,K1i e8)] ?_
        refine rt ?_
        obtain rfl := os h
        exact re [false]
       refine sk ?_
       refine sN ?_
       obtain ⟨s4,s5,h⟩ := Qdj h
       refine rss hc none [oN,oN,oN,oN,oc (.bool s4),oN] [(1,sL ctx1),(4,.ra 1 0),(6,.ra 2 0),(7,.ra 3 0),(8,.ra 4 0),(11,.ra 21 0),(13,I t2.fN),(14,.rs 22),(16,.ra 26 0),(127,.bool (!s4))] (cq (Kcc _ _ s5) K3s tv) ?_
       rcases is h with ⟨i1,h⟩ | ⟨i1,h⟩
       ·refine cF (!s4) (nF i1) ?_
        refine sk ?_
        obtain ⟨s6,s7,s8,s9,h⟩ := bq2 h
        refine rss hc Kdz [oN,oN,oN,some (.el (I s6)),oN,oN,oc (.bool s8),oN] [(1,sL ctx1),(4,.ra 1 0),(6,.ra 2 0),(7,.ra 3 0),(8,.ra 4 0),(11,.ra 21 0),(13,I t2.fN),(14,.rs 22),(15,.bool s8),(16,.ra 26 0)] (ai (ix s7) (cq (K9x _ _ s9) K31 tv)) ?_
        obtain ⟨t0,t1,t3,t4,h⟩ := bq2 h
        refine rg hc (rx [[0],[0],[0],[0,2],[0,2,3],[5],[6]]) [oN,oN,oN,oN,some (.eqv (.no) ⟨[(140,sI t0)],[],[]⟩),some (.call (oI t3) [] 27),oN] [(1,sL ctx1),(4,.ra 1 0),(6,.ra 2 0),(7,.ra 3 0),(8,.ra 4 0),(11,.ra 21 0),(13,I t2.fN),(14,.rs 27),(15,.bool s8)] [(1,K1g s0),(2,K1c t2),(3,K1i a3),(4,.box [.nils,.nils,I 0,.nils]),(21,K1i q2),(27,rI t3)] (ad (Qds (d := 140) I t1) (Qdr (enc := I) (sz := 1) Qe2 t1) (Q75.args (A1 := [K1h s0,.sl (Q02 (List.map I q6)),sI t0]) (A2 := [K1h s0,sI q6,sI t0]) (by simp only [List.map_nil,Qeb]) (Kdu _ _ t4)) K4y (ai (Or.inr (Qej Qef t3) : ([22] : List Nat) = [] ∨ noSh (oI t3) = true) tv)) ?_
        obtain rfl := os h
        exact Qd5.mk
       refine cT (!s4) (nT i1) ?_
       obtain ⟨t5,t6,h⟩ := Qdj h
       refine rs hc none [some (.call (K1q t5) [] 28),oN] [(8,.ra 4 0)] [(4,.box [.rs 28,.rs 29,I t5.ffault,.rs 30]),(28,rI t5.fty),(29,rI t5.fneeds),(30,rI t5.fpath)] (cq (Kdd _ _ t6) K4m tv) ?_
       refine vz 28 (Qeb t5.fty) [(8,.ra 4 0)] [(4,.box [sI t5.fty,.rs 29,I t5.ffault,.rs 30]),(29,rI t5.fneeds),(30,rI t5.fpath)] ?_
       refine vz 29 (Qeb t5.fneeds) [(8,.ra 4 0)] [(4,.box [sI t5.fty,sI t5.fneeds,I t5.ffault,.rs 30]),(30,rI t5.fpath)] ?_
       refine vz 30 (Qeb t5.fpath) [(8,.ra 4 0)] [(4,K1i t5)] ?_
       refine rt ?_
       obtain rfl := os h
       exact re [false]
      refine sk ?_
      obtain rfl := os h
      exact iv [(27,22)]
     rcases fl with ⟨t7,t8⟩ | r
     ·refine Wp.into (x := .normal) (mkS [(1,sL ctx1),(4,.ra 1 0),(6,.ra 2 0),(7,.ra 3 0),(8,.ra 4 0),(11,.ra 21 0),(13,I t2.fN),(14,.rs 27),(15,.bool t8)] [(1,K1g s0),(2,K1c t2),(3,K1i a3),(4,.box [.nils,.nils,I 0,.nils]),(21,K1i q2),(27,rI t7)]) hF ?_
      obtain rfl := os h
      exact iv [(22,27)]
     refine Wp.mono hF ?_
     rintro _ _ ⟨rfl,hfin⟩
     obtain rfl := os h
     exact ⟨rfl,hfin⟩
    rcases fl with ⟨t9,u0⟩ | r
    ·refine Wp.into (x := .normal) (mkS [(1,sL ctx1),(4,.ra 1 0),(6,.ra 2 0),(7,.ra 3 0),(8,.ra 4 0),(11,.ra 21 0),(13,I t2.fN),(14,.rs 22),(15,.bool u0)] [(1,K1g s0),(2,K1c t2),(3,K1i a3),(4,.box [.nils,.nils,I 0,.nils]),(21,K1i q2),(22,rI t9)]) hF ?_
     obtain rfl := os h
     exact Qd5.mk
    refine Wp.mono hF ?_
    rintro _ _ ⟨rfl,hfin⟩
    obtain rfl := os h
    exact ⟨rfl,hfin⟩
   rcases fl with ⟨u1,u2,u3⟩ | r
   ·refine Wp.into (x := .normal) (mkS [(1,sL ctx1),(4,.ra 1 0),(6,.ra 2 0),(7,.ra 3 0),(8,.ra 4 0),(11,.ra 21 0),(13,I u1),(14,.rs 22),(15,.bool u3)] [(1,K1g s0),(2,K1c t2),(3,K1i a3),(4,.box [.nils,.nils,I 0,.nils]),(21,K1i q2),(22,rI u2)]) hF ?_
    refine sN ?_
    refine sN ?_
    obtain ⟨u4,u5,h⟩ := Qdj h
    refine Wp.into (x := .normal) (mkS [(1,sL ctx1),(4,.ra 1 0),(6,.ra 2 0),(7,.ra 3 0),(8,.ra 4 0),(11,.ra 21 0),(14,.rs 22),(153,.bool u4)] [(1,K1g s0),(2,K1c t2),(3,K1i a3),(4,.box [.nils,.nils,I 0,.nils]),(21,K1i q2),(22,rI u2)]) ?_ ?_
    ·replace h := u5
     rcases is h with ⟨u6,h⟩ | ⟨u6,h⟩
     ·obtain ⟨u7,u8,u9,v0,h⟩ := bq2 h
      refine rgs hc Ke0 [oN,oN,oN,oN,oN,oN,some (.el (I u7)),oN,oN,oc (.bool u9),oN,oF] [(1,sL ctx1),(4,.ra 1 0),(6,.ra 2 0),(7,.ra 3 0),(8,.ra 4 0),(11,.ra 21 0),(14,.rs 22),(153,.bool (!u9))] (ar 4 (nF u6) (ai (ix u8) (ar 3 (nF u6) (cq (K9x _ _ v0) K31 (ar 2 (nF u6) tv))))) ?_
      obtain rfl := os h
      exact Qd5.mk
     refine rgs hc Ke0 [oN,oN,oN,o_,o_,o_,o_,o_,o_,o_,o_,oT] [(1,sL ctx1),(4,.ra 1 0),(6,.ra 2 0),(7,.ra 3 0),(8,.ra 4 0),(11,.ra 21 0),(14,.rs 22),(153,.bool true)] (ar 8 (neF (nT u6)) (ai (nT u6) tv)) ?_
     obtain rfl := os h
     exact Qd5.mk
    clear u5
    refine ic h (fun v1 h => ?_) fun v1 h => ?_
    ·obtain ⟨v2,v3,h⟩ := Qdj h
     refine rs hc none [some (.call (K1q v2) [] 31),oN] [(8,.ra 4 0)] [(4,.box [.rs 31,.rs 32,I v2.ffault,.rs 33]),(31,rI v2.fty),(32,rI v2.fneeds),(33,rI v2.fpath)] (cq (Kdd _ _ v3) K4m tv) ?_
     refine vz 31 (Qeb v2.fty) [(8,.ra 4 0)] [(4,.box [sI v2.fty,.rs 32,I v2.ffault,.rs 33]),(32,rI v2.fneeds),(33,rI v2.fpath)] ?_
     refine vz 32 (Qeb v2.fneeds) [(8,.ra 4 0)] [(4,.box [sI v2.fty,sI v2.fneeds,I v2.ffault,.rs 33]),(33,rI v2.fpath)] ?_
     refine vz 33 (Qeb v2.fpath) [(8,.ra 4 0)] [(4,K1i v2)] ?_
     refine rt ?_
     obtain rfl := os h
     exact rq [false]
    refine sk ?_
    obtain ⟨v4,v5,v6,v7,v8,v9,h⟩ := bq3 h
    refine rs hc (rx [[0],[1],[0],[0],[0],[0,4],[0,4,5],[0],[0,7],[0],[0,9],[0,3,4,5,6,7,8,9,10],[0],[0,2,3,4,5,6,7,8,9,10,11,12],[14],[15]]) [oN,oN,oN,oN,oN,some (.eqv (.no) ⟨[(160,I (ctx1.length : Int))],[],[]⟩),some (.call (oI v4) [] 34),oN,oN,oN,oN,some (.call (oI v6) [] 35),oN,some (.call (oI v8) [] 36),oN,oN] [(8,.ra 4 0)] [(4,.box [sI q2.fty,.rs 36,I 0,.nils]),(36,rI v8)] (ai (Qdp (d := 160) K0q ctx1) (cq (Kda _ _ v5) K4i (ad (Q75.args (A1 := [K1h s0,.sl (Q02 (List.map I v4)),I t2.fN,sI a3.fneeds]) (A2 := [K1h s0,sI v4,I t2.fN,sI a3.fneeds]) (by simp only [List.map_nil,Qeb]) (Kdk _ _ v7)) K4q (Or.inr (Qej Qef v6) : ([34] : List Nat) = [] ∨ noSh (oI v6) = true) (Q75.args (A1 := [K1h s0,.sl (Q02 (List.map I v6)),I 1,.sl (Q02 (List.map I u2))]) (A2 := [K1h s0,sI v6,I 1,sI u2]) (by simp only [List.map_nil,Qeb]) (Kdk _ _ v9)) (ab K4q (Or.inr (Qej Qef v8) : ([35,22] : List Nat) = [] ∨ noSh (oI v8) = true) tv)))) ?_
    refine vz 36 (Qeb v8) [(8,.ra 4 0)] [(4,.box [sI q2.fty,sI v8,I 0,.nils])] ?_
    refine rt ?_
    obtain rfl := os h
    exact rq [false]
   refine Wp.mono hF ?_
   rintro _ _ ⟨rfl,hfin⟩
   obtain rfl := os h
   exact ⟨.inl rfl,hfin⟩
  refine cT (!o7) (nT o9) ?_
  obtain ⟨w0,w1,h⟩ := Qdj h
  refine rs hc none [some (.call (K1q w0) [] 37),oN] [(8,.ra 4 0)] [(4,.box [.rs 37,.rs 38,I w0.ffault,.rs 39]),(37,rI w0.fty),(38,rI w0.fneeds),(39,rI w0.fpath)] (cq (Kdd _ _ w1) K4m tv) ?_
  refine vz 37 (Qeb w0.fty) [(8,.ra 4 0)] [(4,.box [sI w0.fty,.rs 38,I w0.ffault,.rs 39]),(38,rI w0.fneeds),(39,rI w0.fpath)] ?_
  refine vz 38 (Qeb w0.fneeds) [(8,.ra 4 0)] [(4,.box [sI w0.fty,sI w0.fneeds,I w0.ffault,.rs 39]),(39,rI w0.fpath)] ?_
  refine vz 39 (Qeb w0.fpath) [(8,.ra 4 0)] [(4,K1i w0)] ?_
  refine rt ?_
  obtain rfl := os h
  exact rq [false]
 ·rintro spec_l3Tell_f spec_l3Tell_ih ⟨s0,ctx1,t2,k3⟩ r h
  refine b0 Tryz.f234 K4j 28 [(0,K1h s0),(1,sL ctx1),(2,K1d t2),(3,I k3)] fun c hc => ?_
  refine rs hc none [some (.new 1),some (.new 2),some (.new 3)] [(1,sL ctx1),(3,I k3),(4,.ra 1 0),(6,.ra 2 0),(8,.ra 3 0)] [(1,K1g s0),(2,K1c t2),(3,.box [.nils,.nils,I 0,.nils])] tv ?_
  obtain ⟨w2,w3,w4,w5,h⟩ := bq2 h
  refine rs hc (rx [[0],[0],[0],[0,2],[0],[0,2,3,4],[0,2,3,4,5],[7],[0],[9]]) [oN,oN,oN,oN,oN,some (.el (K1d w2)),oN,oc (K1j w4),some (.new 4),oN] [(3,I k3),(8,.ra 3 0),(9,.ra 4 0)] [(3,.box [.nils,.nils,I 0,.nils]),(4,K1i w4)] (ai (Qdn w3 (K0c w2)) (cq (spec_l3Tell_ih _ _ w5) K4w tv)) ?_
  refine sN ?_
  refine K7p hc 3 [(3,I k3),(8,.ra 3 0),(9,.ra 4 0),(20,.bool (w4.ffault != 0))] ?_
  obtain ⟨w6,w7,h⟩ := Qdj h
  refine Wp.into (x := .normal) (mkS [(8,.ra 3 0),(9,.ra 4 0)] [(3,.box [.nils,.nils,I 0,.nils]),(4,.box [sI w4.fty,sI w4.fneeds,I w4.ffault,sI w6])]) ?_ ?_
  ·replace h := w7
   refine ic h (fun a0 h => ?_) fun a0 h => ?_
   ·obtain ⟨_,w8,h⟩ := Qdj h
    refine rg hc none [oN,some (.mk 5 true),oN,oN,some (.eqv (.mk 6 true) ⟨[(25,.rs 6)],[(6,some (rI ([k3] ++ w4.fpath))),(5,none)],[6]⟩),oN,oN] [(8,.ra 3 0),(9,.ra 4 0)] [(3,.box [.nils,.nils,I 0,.nils]),(4,.box [sI w4.fty,sI w4.fneeds,I w4.ffault,.rs 6]),(6,rI ([k3] ++ w4.fpath))] (ab (congrArg (fun z => (⟨[(25,.rs 6)],[(6,some (.arr z)),(5,none)],[6]⟩ : Wr)) ((List.map_append).symm : (List.map I [k3]) ++ (List.map I w4.fpath) = List.map I ([k3] ++ w4.fpath))) (Qdx (enc1 := I) (enc2 := I) (e1 := [k3]) (e2 := w4.fpath) (sz := 1) Qe6 Qe6 w8) tv) ?_
    obtain rfl := os h
    exact Qd5.view (fun a w hv => SRx.renL [] (SRx.frzC 6 (xs := List.map I ([k3] ++ w4.fpath)) (xs' := List.map I ([k3] ++ w4.fpath)) hv (by kernel_rfl) (Qeb _)) (by kernel_rfl) (by kernel_rfl) (by kernel_rfl))
   refine sk ?_
   obtain rfl := os h
   exact iv []
  clear w7
  refine rs0 hc 2 [(8,.ra 3 0)] [(3,.box [sI w4.fty,sI w4.fneeds,I w4.ffault,sI w6])] ?_
  refine rt ?_
  obtain rfl := os h
  exact rq [false]
 ·rintro spec_l3Of_f spec_l3Of_ih ⟨s0,ctx1,t2,a3⟩ r h
  refine b0 Tryz.f236 K4n 65 [(0,K1h s0),(1,sL ctx1),(2,K1d t2),(3,K1j a3)] fun c hc => ?_
  refine rs hc none [some (.new 1),some (.new 2),some (.new 3),some (.new 4)] [(1,sL ctx1),(4,.ra 1 0),(6,.ra 2 0),(7,.ra 3 0),(8,.ra 4 0)] [(1,K1g s0),(2,K1c t2),(3,K1i a3),(4,.box [.nils,.nils,I 0,.nils])] tv ?_
  obtain ⟨w9,x0,h⟩ := Qdj h
  refine rs hc none [oN,oN,oN,oc (K1j w9),some (.new 5),oN] [(1,sL ctx1),(4,.ra 1 0),(6,.ra 2 0),(7,.ra 3 0),(8,.ra 4 0),(9,.ra 5 0)] [(1,K1g s0),(2,K1c t2),(3,K1i a3),(4,.box [.nils,.nils,I 0,.nils]),(5,K1i w9)] (cq (spec_l3Of_ih _ _ x0) K4k tv) ?_
  refine sN ?_
  refine K7p hc 3 [(1,sL ctx1),(4,.ra 1 0),(6,.ra 2 0),(7,.ra 3 0),(8,.ra 4 0),(9,.ra 5 0),(17,.bool (w9.ffault != 0))] ?_
  refine ic h (fun a0 h => ?_) fun a0 h => ?_
  ·refine rs0 hc 2 [(8,.ra 4 0)] [(4,K1i w9)] ?_
   refine rt ?_
   obtain rfl := os h
   exact rq [false]
  refine sk ?_
  refine sN ?_
  refine K7p hc 3 [(1,sL ctx1),(4,.ra 1 0),(6,.ra 2 0),(7,.ra 3 0),(8,.ra 4 0),(9,.ra 5 0),(21,.bool (t2.fOp == 2))] ?_
  refine ic h (fun b1 h => ?_) fun b1 h => ?_
  ·refine sN ?_
   obtain ⟨x1,x2,h⟩ := Qdj h
   refine rs hc none [oN,oN,some (.el (I x1)),oN,oN] [(4,.ra 1 0),(7,.ra 3 0),(8,.ra 4 0),(9,.ra 5 0),(26,.bool (x1 != 0))] [(1,K1g s0),(3,K1i a3),(4,.box [.nils,.nils,I 0,.nils]),(5,K1i w9)] (ai (ix x2) tv) ?_
   refine ic h (fun b6 h => ?_) fun b6 h => ?_
   ·obtain ⟨x3,x4,h⟩ := Qdj h
    refine rs hc none [some (.call (K1q x3) [] 6),oN] [(8,.ra 4 0)] [(4,.box [.rs 6,.rs 7,I x3.ffault,.rs 8]),(6,rI x3.fty),(7,rI x3.fneeds),(8,rI x3.fpath)] (cq (Kdd _ _ x4) K4m tv) ?_
    refine vz 6 (Qeb x3.fty) [(8,.ra 4 0)] [(4,.box [sI x3.fty,.rs 7,I x3.ffault,.rs 8]),(7,rI x3.fneeds),(8,rI x3.fpath)] ?_
    refine vz 7 (Qeb x3.fneeds) [(8,.ra 4 0)] [(4,.box [sI x3.fty,sI x3.fneeds,I x3.ffault,.rs 8]),(8,rI x3.fpath)] ?_
    refine vz 8 (Qeb x3.fpath) [(8,.ra 4 0)] [(4,K1i x3)] ?_
    refine rt ?_
    obtain rfl := os h
    exact rq [false]
   refine sk ?_
   obtain ⟨x5,x6,h⟩ := Qdj h
   refine rs hc (rx [[0],[1],[0],[0],[0,3],[0],[0,5],[0,2,3,4,5,6],[8],[9]]) [oN,oN,oN,oN,oN,oN,oN,some (.call (oI x5) [] 9),oN,oN] [(8,.ra 4 0)] [(4,.box [sI w9.fty,.rs 9,I 0,.nils]),(9,rI x5)] (cq (Kdk _ _ x6) K4q tv) ?_
   refine vz 9 (Qeb x5) [(8,.ra 4 0)] [(4,.box [sI w9.fty,sI x5,I 0,.nils])] ?_
   refine rt ?_
   obtain rfl := os h
   exact rq [false]
  refine sk ?_
  obtain ⟨o7,o8,h⟩ := Qdj h
  refine rs hc none [oN,oN,oN,oc (K1j o7),some (.new 10),oN] [(4,.ra 1 0),(7,.ra 3 0),(8,.ra 4 0),(9,.ra 5 0),(10,.ra 10 0)] [(1,K1g s0),(3,K1i a3),(4,.box [.nils,.nils,I 0,.nils]),(5,K1i w9),(10,K1i o7)] (cq (spec_l3Of_ih _ _ o8) K4k tv) ?_
  refine sN ?_
  refine K7p hc 3 [(4,.ra 1 0),(7,.ra 3 0),(8,.ra 4 0),(9,.ra 5 0),(10,.ra 10 0),(43,.bool (o7.ffault != 0))] ?_
  refine ic h (fun x7 h => ?_) fun x7 h => ?_
  ·refine rs0 hc 2 [(8,.ra 4 0)] [(4,K1i o7)] ?_
   refine rt ?_
   obtain rfl := os h
   exact rq [false]
  refine sk ?_
  refine sN ?_
  obtain ⟨x8,x9,h⟩ := Qdj h
  refine rss hc none [oN,oN,oN,oN,oc (.bool x8),oN] [(4,.ra 1 0),(7,.ra 3 0),(8,.ra 4 0),(9,.ra 5 0),(10,.ra 10 0),(50,.bool (!x8))] (cq (Kcc _ _ x9) K3s tv) ?_
  rcases is h with ⟨y0,h⟩ | ⟨y0,h⟩
  ·refine cF (!x8) (nF y0) ?_
   refine sk ?_
   obtain ⟨y1,y2,y3,y4,h⟩ := bq2 h
   refine rs hc (rx [[0],[1],[0],[0],[0,3],[0],[0],[0,6],[0],[0,8],[0,5,6,7,8,9],[0,2,3,4,5,6,7,8,9,10],[12],[13]]) [oN,oN,oN,oN,oN,oN,oN,oN,oN,oN,some (.call (oI y1) [] 11),some (.call (oI y3) [] 12),oN,oN] [(8,.ra 4 0)] [(4,.box [sI w9.fty,.rs 12,I 0,.nils]),(12,rI y3)] (cq (Kdu _ _ y2) K4y (ac (Q75.args (A1 := [K1h s0,sI a3.fneeds,I 1,.sl (Q02 (List.map I y1))]) (A2 := [K1h s0,sI a3.fneeds,I 1,sI y1]) (by simp only [List.map_nil,Qeb]) (Kdk _ _ y4)) K4q (Or.inr (Qej Qef y3) : ([11] : List Nat) = [] ∨ noSh (oI y3) = true) tv)) ?_
   refine vz 12 (Qeb y3) [(8,.ra 4 0)] [(4,.box [sI w9.fty,sI y3,I 0,.nils])] ?_
   refine rt ?_
   obtain rfl := os h
   exact rq [false]
  refine cT (!x8) (nT y0) ?_
  obtain ⟨y5,y6,h⟩ := Qdj h
  refine rs hc none [some (.call (K1q y5) [] 13),oN] [(8,.ra 4 0)] [(4,.box [.rs 13,.rs 14,I y5.ffault,.rs 15]),(13,rI y5.fty),(14,rI y5.fneeds),(15,rI y5.fpath)] (cq (Kdd _ _ y6) K4m tv) ?_
  refine vz 13 (Qeb y5.fty) [(8,.ra 4 0)] [(4,.box [sI y5.fty,.rs 14,I y5.ffault,.rs 15]),(14,rI y5.fneeds),(15,rI y5.fpath)] ?_
  refine vz 14 (Qeb y5.fneeds) [(8,.ra 4 0)] [(4,.box [sI y5.fty,sI y5.fneeds,I y5.ffault,.rs 15]),(15,rI y5.fpath)] ?_
  refine vz 15 (Qeb y5.fpath) [(8,.ra 4 0)] [(4,K1i y5)] ?_
  refine rt ?_
  obtain rfl := os h
  exact rq [false]
theorem Kea : ∀ p r,Ke1 p = some r → Ke5 p r := Ke9.1
theorem Keb : ∀ p r,Ke2 p = some r → Ke6 p r := Ke9.2.1
theorem Kec : ∀ p r,Ke3 p = some r → Ke7 p r := Ke9.2.2.1
theorem Ked : ∀ p r,Ke4 p = some r → Ke8 p r := Ke9.2.2.2
def Kee (p : K02 × LL × K00 × Int) : Option (Int) :=
 match p with
 | (s0,ctx1,t2,i3) =>
  (Ke1 (s0,ctx1,t2)) >>= fun a0 =>
  if (a0.ffault != 0) = true then
  some 0
  else
  (idx a0.fneeds i3) >>= fun a1 =>
  some a1
def Kef (p : K02 × LL × K00 × Int) (r : Int) : Prop :=
 match p with
 | (s0,ctx1,t2,i3) => Q75 Tryz.prog 141 [K1h s0,sL ctx1,K1d t2,I i3] (I r) []
theorem Keg : ∀ p r,Kee p = some r → Kef p r := by
 rintro ⟨s0,ctx1,t2,i3⟩ r h
 unfold Kee at h
 refine b0 Tryz.f141 K4z 22 [(0,K1h s0),(1,sL ctx1),(2,K1d t2),(3,I i3)] fun c hc => ?_
 refine rs hc none [some (.new 1),some (.new 2),oN] [(1,sL ctx1),(3,I i3),(4,.ra 1 0),(6,.ra 2 0)] [(1,K1g s0),(2,K1c t2)] tv ?_
 obtain ⟨a0,a1,h⟩ := Qdj h
 refine rs hc none [oN,oN,oN,oc (K1j a0),some (.new 3),oN] [(3,I i3),(9,.ra 3 0)] [(3,K1i a0)] (cq (Kea _ _ a1) K4w tv) ?_
 refine sN ?_
 refine K7p hc 3 [(3,I i3),(9,.ra 3 0),(16,.bool (a0.ffault != 0))] ?_
 refine ic h (fun a2 h => ?_) fun a2 h => ?_
 ·refine rs0 hc 1 [(8,I 0)] [] ?_
  refine rt ?_
  obtain rfl := os h
  exact rq [true]
 refine sk ?_
 obtain ⟨a3,a4,h⟩ := Qdj h
 refine rs hc none [oN,oN,oN,some (.el (I a3)),oN,oN] [(8,I a3)] [] (ai (ix a4) tv) ?_
 refine rt ?_
 obtain rfl := os h
 exact rq [true]
def Keh (c : Ctx) (c0 : K01) (s1 : K02) (g2 : Int) : ((List Int) × Int × Int) ⊕ ((Int × K01)) → Exit → Q0a → Prop
 | .inl (a0,a1,a2) => Qd5 c (.exit 0) (mkS [(2,I g2)] [(1000,.box [.sl (List.map U8 a0),I a1,I a2])])
 | .inr r => Qdh TIx Tryz.f140 [.optr [.sl (List.map U8 c0.fb),I c0.fi,I c0.fh],K1h s1,I g2] (I r.1,[.optr [.sl (List.map U8 r.2.fb),I r.2.fi,I r.2.fh],.undef,.undef])
def Kei (p : K01 × K02 × Int × (List Int) × Int × Int × Int) : Option (((List Int) × Int × Int) ⊕ ((Int × K01))) :=
 match p with
 | (c0,s1,g2,a0,a1,a2,a3) =>
  ((
  if (decide (a3 < 3)) = true then
  (K8d ((K01.mk a0 a1 a2),3)) >>= fun (a4,a5) =>
  some ((a5.fb,a5.fi,a5.fh,a4))
  else
  some ((a0,a1,a2,false))
  ) : Option ((List Int) × Int × Int × Bool)) >>= fun (a6,a7,a8,a9) =>
  if a9 = true then
  (K8a ((K01.mk a6 a7 a8),s1.fSize)) >>= fun (b1,b2) =>
  (K9v (s1,g2,b1)) >>= fun b3 =>
  if b3 = true then
  some (.inr (b1,b2))
  else
  Kei (c0,s1,g2,b2.fb,b2.fi,b2.fh,(wr (a3 + 1)))
  else
  some (.inl (a6,a7,a8))
 partial_fixpoint
def Kej (p : K01 × K02 × Int × (List Int) × Int × Int × Int) (fl : ((List Int) × Int × Int) ⊕ ((Int × K01))) : Prop :=
 match p with
 | (c0,s1,g2,a0,a1,a2,a3) => ∀ c : Ctx,c.nt = 36 → WpL Tryz.prog c (cl (cl (cr (cl (cr (cr K51)))))) (Keh c c0 s1 g2 fl) (mkS [(0,.ra 1000 0),(2,I g2),(4,.ra 1 0),(7,I a3)] [(1,K1g s1),(1000,.box [.sl (List.map U8 a0),I a1,I a2])])
theorem Kek : ∀ p r,Kei p = some r → Kej p r := by
 refine Kei.partial_correctness Kej ?_
 rintro spec_dAbove_l0_f spec_dAbove_l0_ih ⟨c0,s1,g2,a0,a1,a2,a3⟩ r h
 intro c hc
 refine WpL.step ?_
 refine sN ?_
 refine sN ?_
 obtain ⟨⟨a4,a5,a6,a7⟩,a8,h⟩ := Qdj h
 refine Wp.into (x := .normal) (mkS [(0,.ra 1000 0),(2,I g2),(4,.ra 1 0),(7,I a3),(23,.bool a7)] [(1,K1g s1),(1000,.box [.sl (List.map U8 a4),I a5,I a6])]) ?_ ?_
 ·replace h := a8
  rcases is h with ⟨a9,h⟩ | ⟨a9,h⟩
  ·obtain ⟨⟨b1,b2⟩,b3,h⟩ := Qdj h
   refine rg hc none [oN,oN,oN,oN,some (.call (.bool b1) [.optr [.sl (List.map U8 b2.fb),I b2.fi,I b2.fh],.undef] 1),oT] [(0,.ra 1000 0),(2,I g2),(4,.ra 1 0),(7,I a3),(23,.bool b1)] [(1,K1g s1),(1000,K1e b2)] (ar 2 a9 (ac (K8f _ _ b3) K2i a9 tv)) ?_
   obtain ⟨rfl,hq0⟩ := Prod.mk.inj (Option.some.inj h)
   obtain ⟨rfl,hq1⟩ := Prod.mk.inj (hq0)
   obtain ⟨rfl,rfl⟩ := Prod.mk.inj (hq1)
   exact Qd5.mk
  refine rgs hc none [oN,oN,oN,o_,o_,oF] [(0,.ra 1000 0),(2,I g2),(4,.ra 1 0),(7,I a3),(23,.bool false)] (ar 2 (neT a9) (ai a9 tv)) ?_
  obtain ⟨rfl,hq0⟩ := Prod.mk.inj (Option.some.inj h)
  obtain ⟨rfl,hq1⟩ := Prod.mk.inj (hq0)
  obtain ⟨rfl,rfl⟩ := Prod.mk.inj (hq1)
  exact Qd5.mk
 clear a8
 refine ic h (fun b4 h => ?_) fun b4 h => ?_
 ·refine sk ?_
  refine sN ?_
  refine bk 1 ?_
  obtain ⟨⟨b5,b6⟩,b7,h⟩ := Qdj h
  refine rs hc none [oN,oN,oN,some (.call (I b5) [.optr [.sl (List.map U8 b6.fb),I b6.fi,I b6.fh],.undef] 1),oN] [(0,.ra 1000 0),(2,I g2),(4,.ra 1 0),(7,I a3),(8,I b5)] [(1,K1g s1),(1000,K1e b6)] (ab (K8c _ _ b7) K2h tv) ?_
  obtain ⟨b8,b9,h⟩ := Qdj h
  refine rss hc none [oN,oN,oN,oc (.bool b8)] [(0,.ra 1000 0),(2,I g2),(4,.ra 1 0),(7,I a3),(8,I b5),(33,.bool b8)] (cq (K9x _ _ b9) K31 tv) ?_
  refine ic h (fun c1 h => ?_) fun c1 h => ?_
  ·refine rs0 hc 2 [(6,I b5)] [(1000,K1e b6)] ?_
   refine rt ?_
   obtain rfl := os h
   exact Qdh.ret (fl := [true]) (by kernel_rfl)
  refine sk ?_
  refine K7o hc 3 [(0,.ra 1000 0),(2,I g2),(4,.ra 1 0),(7,I (wr (a3 + 1)))] ?_
  refine Qd1 ?_
  exact (spec_dAbove_l0_ih _ _ h c hc)
 refine xt 0 ?_
 refine Qcv ?_
 refine Qd2 ?_
 obtain rfl := os h
 exact iv []
def Kel (p : K01 × K02 × Int) : Option (Int × K01) :=
 match p with
 | (c0,s1,g2) =>
  ((
  if (decide (g2 < 0)) = true then
   some (true)
  else
   some ((decide (g2 ≥ s1.fSize)))
  ) : Option (Bool)) >>= fun a0 =>
  if a0 = true then
  some (g2,c0)
  else
  (Kei (c0,s1,g2,c0.fb,c0.fi,c0.fh,0)) >>= fun fl => match fl with
  | .inl (a1,a2,a3) =>
   some (g2,(K01.mk a1 a2 a3))
  | .inr r =>
   some r
def Kem (p : K01 × K02 × Int) (r : Int × K01) : Prop :=
 match p with
 | (c0,s1,g2) => Q75 Tryz.prog 140 [.optr [.sl (List.map U8 c0.fb),I c0.fi,I c0.fh],K1h s1,I g2] (I r.1) [.optr [.sl (List.map U8 r.2.fb),I r.2.fi,I r.2.fh],.undef,.undef]
theorem Ken : ∀ p r,Kel p = some r → Kem p r := by
 rintro ⟨c0,s1,g2⟩ r h
 unfold Kel at h
 refine Q75.bodyO K28 (fn := Tryz.f140) (code := K51) (by kernel_rfl) (by kernel_rfl) (by kernel_rfl) (nt := 36) (by kernel_rfl) (by kernel_rfl) (T := [(0,.ra 1000 0),(1,K1h s1),(2,I g2)]) (O := [(1000,K1e c0)]) (by kernel_rfl) (by kernel_rfl) (fun c hc => ?_)
 refine rs hc none [some (.new 1),oN] [(0,.ra 1000 0),(2,I g2),(4,.ra 1 0)] [(1,K1g s1),(1000,K1e c0)] tv ?_
 refine sN ?_
 refine sN ?_
 obtain ⟨a0,a1,h⟩ := Qdj h
 refine Wp.into (x := .normal) (mkS [(0,.ra 1000 0),(2,I g2),(4,.ra 1 0),(16,.bool a0)] [(1,K1g s1),(1000,K1e c0)]) ?_ ?_
 ·replace h := a1
  rcases is h with ⟨a2,h⟩ | ⟨a2,h⟩
  ·refine rgs hc none [oN,oN,oN,o_,o_,o_,o_,oT] [(0,.ra 1000 0),(2,I g2),(4,.ra 1 0),(16,.bool true)] (ar 4 (neF a2) (ai a2 tv)) ?_
   obtain rfl := os h
   exact Qd5.mk
  refine rgs hc none [oN,oN,oN,oN,oN,oN,oN,oF] [(0,.ra 1000 0),(2,I g2),(4,.ra 1 0),(16,.bool (decide (g2 ≥ s1.fSize)))] (ar 5 a2 tv) ?_
  obtain rfl := os h
  exact Qd5.mk
 clear a1
 refine ic h (fun a3 h => ?_) fun a3 h => ?_
 ·refine rs0 hc 2 [(6,I g2)] [(1000,K1e c0)] ?_
  refine rt ?_
  obtain rfl := os h
  exact Qdg.ret (fl := [true]) (by kernel_rfl)
 refine sk ?_
 refine sN ?_
 refine K7p hc 1 [(0,.ra 1000 0),(2,I g2),(4,.ra 1 0),(7,I 0)] ?_
 refine bk 0 ?_
 obtain ⟨fl,a4,h⟩ := Qdj h
 have hL := Kek _ _ a4 c hc
 refine lp ?_
 rcases fl with ⟨a5,a6,a7⟩ | r
 ·refine WpL.into (e := (.exit 0)) (mkS [(2,I g2)] [(1000,.box [.sl (List.map U8 a5),I a6,I a7])]) hL ?_
  refine Qcx ?_
  refine K7p hc 2 [(6,I g2)] ?_
  refine rt ?_
  obtain rfl := os h
  exact Qdg.ret (fl := [true]) (by kernel_rfl)
 refine WpL.mono hL ?_
 rintro _ _ ⟨rfl,hfin⟩
 obtain rfl := os h
 exact ⟨.inl rfl,hfin⟩
def Keo (p : Int × Int) : Option (Int) :=
 match p with
 | (op0,kid1) =>
  ((
  if (op0 == 5) = true then
  some ((kid1 == 1))
  else
  some (false)
  ) : Option (Bool)) >>= fun a0 =>
  if a0 = true then
  some 2
  else
  ((
  if (op0 == 8) = true then
  if (decide (kid1 > 0)) = true then
  some (true)
  else
  if (op0 == 9) = true then
  some (true)
  else
  if (op0 == 12) = true then
  some ((kid1 == 1))
  else
  some (false)
  else
  if (op0 == 9) = true then
  some (true)
  else
  if (op0 == 12) = true then
  some ((kid1 == 1))
  else
  some (false)
  ) : Option (Bool)) >>= fun a1 =>
  if a1 = true then
  some 1
  else
  some 0
def Kep (p : Int × Int) (r : Int) : Prop :=
 match p with
 | (op0,kid1) => Q75 Tryz.prog 191 [I op0,I kid1] (I r) []
theorem Keq : ∀ p r,Keo p = some r → Kep p r := by
 rintro ⟨op0,kid1⟩ r h
 unfold Keo at h
 refine b0 Tryz.f191 K53 31 [(0,I op0),(1,I kid1)] fun c hc => ?_
 refine rs0 hc 1 [(0,I op0),(1,I kid1)] [] ?_
 refine sN ?_
 refine bk 0 ?_
 refine sN ?_
 obtain ⟨a0,a1,h⟩ := Qdj h
 refine Wp.into (x := .normal) (mkS [(0,I op0),(1,I kid1),(5,.bool a0)] []) ?_ ?_
 ·replace h := a1
  rcases is h with ⟨a2,h⟩ | ⟨a2,h⟩
  ·refine rg hc none [oN,oN,oN,oN,oN,oT,oN] [(0,I op0),(1,I kid1),(5,.bool (kid1 == 1))] [] (ar 3 a2 tv) ?_
   obtain rfl := os h
   exact Qd5.mk
  refine rg hc none [oN,oN,oN,o_,o_,oF,oN] [(0,I op0),(1,I kid1),(5,.bool false)] [] (ar 2 (neT a2) (ai a2 tv)) ?_
  obtain rfl := os h
  exact Qd5.mk
 clear a1
 refine ic h (fun a3 h => ?_) fun a3 h => ?_
 ·refine rs0 hc 1 [(4,I 2)] [] ?_
  refine rt ?_
  obtain rfl := os h
  exact rq [true]
 refine sN ?_
 obtain ⟨a4,a5,h⟩ := Qdj h
 refine Wp.into (x := .normal) (mkS [(12,.bool a4)] []) ?_ ?_
 ·replace h := a5
  rcases is h with ⟨a6,h⟩ | ⟨a6,h⟩
  ·rcases is h with ⟨a7,h⟩ | ⟨a7,h⟩
   ·refine rg hc none [oN,oN,oN,oN,oN,oT,oN,o_,o_,oT,oN,o_,o_,o_,o_,o_,o_,oT,oN] [(12,.bool true)] [] (ar 3 a6 (ar 2 (neF a7) (ai a7 (ar 4 nf (ai tt tv))))) ?_
    obtain rfl := os h
    exact Qd5.mk
   rcases is h with ⟨a8,h⟩ | ⟨a8,h⟩
   ·refine rg hc none [oN,oN,oN,oN,oN,oT,oN,oN,oN,oF,oN,o_,o_,o_,o_,o_,o_,oT,oN] [(12,.bool true)] [] (ar 3 a6 (ar 3 a7 (ar 4 (neF a8) (ai a8 tv)))) ?_
    obtain rfl := os h
    exact Qd5.mk
   rcases is h with ⟨a9,h⟩ | ⟨a9,h⟩
   ·refine rg hc none [oN,oN,oN,oN,oN,oT,oN,oN,oN,oF,oN,oN,oN,oN,oN,oN,oT,oF,oN] [(12,.bool (kid1 == 1))] [] (ar 3 a6 (ar 3 a7 (ar 3 a8 (ar 2 a9 (ac a8 a9 a8 tv))))) ?_
    obtain rfl := os h
    exact Qd5.mk
   refine rg hc none [oN,oN,oN,oN,oN,oT,oN,oN,oN,oF,oN,oN,oN,oN,o_,o_,oF,oF,oN] [(12,.bool false)] [] (ar 3 a6 (ar 3 a7 (ar 3 a8 (ar 2 (neT a9) (ac a8 a9 a8 tv))))) ?_
   obtain rfl := os h
   exact Qd5.mk
  rcases is h with ⟨a7,h⟩ | ⟨a7,h⟩
  ·refine rg hc none [oN,oN,oN,o_,o_,oF,oN,oN,oN,oF,oN,o_,o_,o_,o_,o_,o_,oT,oN] [(12,.bool true)] [] (ar 2 (neT a6) (ai a6 (ar 3 (rfl : false = false) (ar 4 (neF a7) (ai a7 tv))))) ?_
   obtain rfl := os h
   exact Qd5.mk
  rcases is h with ⟨a8,h⟩ | ⟨a8,h⟩
  ·refine rg hc none [oN,oN,oN,o_,o_,oF,oN,oN,oN,oF,oN,oN,oN,oN,oN,oN,oT,oF,oN] [(12,.bool (kid1 == 1))] [] (ar 2 (neT a6) (ai a6 (ar 3 (rfl : false = false) (ar 3 a7 (ar 2 a8 (ac a7 a8 a7 tv)))))) ?_
   obtain rfl := os h
   exact Qd5.mk
  refine rg hc none [oN,oN,oN,o_,o_,oF,oN,oN,oN,oF,oN,oN,oN,oN,o_,o_,oF,oF,oN] [(12,.bool false)] [] (ar 2 (neT a6) (ai a6 (ar 3 (rfl : false = false) (ar 3 a7 (ar 2 (neT a8) (ac a7 a8 a7 tv)))))) ?_
  obtain rfl := os h
  exact Qd5.mk
 clear a5
 refine ic h (fun b1 h => ?_) fun b1 h => ?_
 ·refine rs0 hc 1 [(4,I 1)] [] ?_
  refine rt ?_
  obtain rfl := os h
  exact rq [true]
 refine sk ?_
 refine rs0 hc 1 [(4,I 0)] [] ?_
 refine rt ?_
 obtain rfl := os h
 exact rq [true]
def Ker (c : Ctx) (t0 : K00) (a0 : List Int) (a1 : Int) : (List K00) → Exit → Q0a → Prop
 | a2 => Qd5 c (.exit 0) (mkS [(6,.ra 2 0),(7,.ra 4 0)] [(2,.box [I 0,I 0,.nils,.nils]),(3,rI a0),(4,.box [I t0.fOp,I a1,.rs 3,.rs 9]),(9,.arr (List.map K08 a2))])
mutual
def Kes (p : K00 × Int × Int) : Option (K00) :=
 match p with
 | (t0,by1,from2) =>
  (Kcw t0.fType) >>= fun a0 =>
  ((
  if (t0.fOp == 0) = true then
  some ((decide (t0.fN ≥ from2)))
  else
  some (false)
  ) : Option (Bool)) >>= fun a1 =>
  ((
  if a1 = true then
  some ((wr (t0.fN + by1)))
  else
  some (t0.fN)
  ) : Option (Int)) >>= fun a2 =>
  (Ket (t0,by1,from2,a0,a2,[],0)) >>= fun a3 =>
  some (K00.mk t0.fOp a2 a0 a3)
 partial_fixpoint
def Ket (p : K00 × Int × Int × (List Int) × Int × (List K00) × Int) : Option ((List K00)) :=
 match p with
 | (t0,by1,from2,a0,a1,a2,a3) =>
  if (decide (a3 < (t0.fKids.length : Int))) = true then
  (idx t0.fKids a3) >>= fun a4 =>
  (Keo (t0.fOp,a3)) >>= fun a5 =>
  (Kes (a4,by1,(wr (from2 + a5)))) >>= fun a6 =>
  (Qdw (a2.length + [a6].length) 64) >>= fun _ =>
  Ket (t0,by1,from2,a0,a1,(a2 ++ [a6]),(wr (a3 + 1)))
  else
  some (a2)
 partial_fixpoint
end
def Keu (p : K00 × Int × Int) (r : K00) : Prop :=
 match p with
 | (t0,by1,from2) => Q75 Tryz.prog 132 [K1d t0,I by1,I from2] (K1k r) []
def Kev (p : K00 × Int × Int × (List Int) × Int × (List K00) × Int) (fl : (List K00)) : Prop :=
 match p with
 | (t0,by1,from2,a0,a1,a2,a3) => ∀ c : Ctx,c.nt = 57 → WpL Tryz.prog c (cl (cl (cr (cl (cr (cr (cr K55))))))) (Ker c t0 a0 a1 fl) (mkS [(1,I by1),(2,I from2),(3,.ra 1 0),(6,.ra 2 0),(7,.ra 4 0),(8,I a3)] [(1,K1c t0),(2,.box [I 0,I 0,.nils,.nils]),(3,rI a0),(4,.box [I t0.fOp,I a1,.rs 3,.rs 9]),(9,.arr (List.map K08 a2))])
theorem Kew : (∀ p r,Kes p = some r → Keu p r) ∧ (∀ p r,Ket p = some r → Kev p r) := by
 refine Kes.mutual_partial_correctness Keu Kev ?_ ?_
 ·rintro spec_l2Shift_l0_f spec_l2Shift_l0_ih ⟨t0,by1,from2⟩ r h
  refine b0 Tryz.f132 K55 57 [(0,K1d t0),(1,I by1),(2,I from2)] fun c hc => ?_
  refine rs hc none [some (.new 1),some (.new 2)] [(1,I by1),(2,I from2),(3,.ra 1 0),(6,.ra 2 0)] [(1,K1c t0),(2,.box [I 0,I 0,.nils,.nils])] tv ?_
  obtain ⟨a0,a1,h⟩ := Qdj h
  refine rs hc (rx [[0],[1],[0],[0,2],[0],[0,4],[0,4,5],[7],[0],[9]]) [oN,oN,oN,oN,oN,oN,some (.call (oI a0) [] 3),oN,some (.new 4),oN] [(1,I by1),(2,I from2),(3,.ra 1 0),(6,.ra 2 0),(7,.ra 4 0)] [(1,K1c t0),(2,.box [I 0,I 0,.nils,.nils]),(3,rI a0),(4,.box [I t0.fOp,I t0.fN,.rs 3,.nils])] (cq (Kcy _ _ a1) K48 tv) ?_
  refine sN ?_
  refine sN ?_
  obtain ⟨a2,a3,h⟩ := Qdj h
  refine Wp.into (x := .normal) (mkS [(1,I by1),(2,I from2),(3,.ra 1 0),(6,.ra 2 0),(7,.ra 4 0),(25,.bool a2)] [(1,K1c t0),(2,.box [I 0,I 0,.nils,.nils]),(3,rI a0),(4,.box [I t0.fOp,I t0.fN,.rs 3,.nils])]) ?_ ?_
  ·replace h := a3
   rcases is h with ⟨a4,h⟩ | ⟨a4,h⟩
   ·refine rgs hc none [oN,oN,oN,oN,oN,oN,oN,oN,oT] [(1,I by1),(2,I from2),(3,.ra 1 0),(6,.ra 2 0),(7,.ra 4 0),(25,.bool (decide (t0.fN ≥ from2)))] (ar 5 a4 tv) ?_
    obtain rfl := os h
    exact Qd5.mk
   refine rgs hc none [oN,oN,oN,oN,o_,o_,o_,o_,oF] [(1,I by1),(2,I from2),(3,.ra 1 0),(6,.ra 2 0),(7,.ra 4 0),(25,.bool false)] (ar 4 (neT a4) (ai a4 tv)) ?_
   obtain rfl := os h
   exact Qd5.mk
  clear a3
  obtain ⟨a5,a6,h⟩ := Qdj h
  refine Wp.into (x := .normal) (mkS [(1,I by1),(2,I from2),(3,.ra 1 0),(6,.ra 2 0),(7,.ra 4 0)] [(1,K1c t0),(2,.box [I 0,I 0,.nils,.nils]),(3,rI a0),(4,.box [I t0.fOp,I a5,.rs 3,.nils])]) ?_ ?_
  ·replace h := a6
   refine ic h (fun a7 h => ?_) fun a7 h => ?_
   ·refine rg0 hc 6 [(1,I by1),(2,I from2),(3,.ra 1 0),(6,.ra 2 0),(7,.ra 4 0)] [(1,K1c t0),(2,.box [I 0,I 0,.nils,.nils]),(3,rI a0),(4,.box [I t0.fOp,I (wr (t0.fN + by1)),.rs 3,.nils])] ?_
    obtain rfl := os h
    exact Qd5.mk
   refine sk ?_
   obtain rfl := os h
   exact iv []
  clear a6
  refine sN ?_
  refine K7p hc 1 [(1,I by1),(2,I from2),(3,.ra 1 0),(6,.ra 2 0),(7,.ra 4 0),(8,I 0)] ?_
  refine bk 0 ?_
  obtain ⟨a8,a9,h⟩ := Qdj h
  have hL := spec_l2Shift_l0_ih _ _ a9 c hc
  refine Wp.loopN (by kernel_rfl) (WpL.view (fun a w hv => SRx.renL [(9,18)] (SRx.nilBL 4 3 18 [I t0.fOp,I a5,.rs 3,.nils] hv (by kernel_rfl) (by kernel_rfl) (by kernel_rfl)) (by kernel_rfl) (by kernel_rfl) (by kernel_rfl)) (?_ : WpL _ c _ _ (mkS [(1,I by1),(2,I from2),(3,.ra 1 0),(6,.ra 2 0),(7,.ra 4 0),(8,I 0)] [(1,K1c t0),(2,.box [I 0,I 0,.nils,.nils]),(3,rI a0),(4,.box [I t0.fOp,I a5,.rs 3,.rs 9]),(9,.arr (List.map K08 []))])))
  refine WpL.into (e := (.exit 0)) (mkS [(6,.ra 2 0),(7,.ra 4 0)] [(2,.box [I 0,I 0,.nils,.nils]),(3,rI a0),(4,.box [I t0.fOp,I a5,.rs 3,.rs 9]),(9,.arr (List.map K08 a8))]) hL ?_
  refine Qcx ?_
  refine rs0 hc 2 [(6,.ra 2 0)] [(2,.box [I t0.fOp,I a5,.rs 3,.rs 9]),(3,rI a0),(9,.arr (List.map K08 a8))] ?_
  refine rt ?_
  obtain rfl := os h
  exact rq [true]
 ·rintro spec_l2Shift_f spec_l2Shift_l0_f spec_l2Shift_ih spec_l2Shift_l0_ih ⟨t0,by1,from2,a0,a5,b1,b2⟩ r h
  intro c hc
  refine WpL.step ?_
  refine sN ?_
  refine rss hc none [oN,oN,oN,some (.eqv (.no) ⟨[(34,I (t0.fKids.length : Int))],[],[]⟩),oN] [(1,I by1),(2,I from2),(3,.ra 1 0),(6,.ra 2 0),(7,.ra 4 0),(8,I b2),(35,.bool (decide (b2 < (t0.fKids.length : Int))))] (ai (Qdp (d := 34) K05 t0.fKids) tv) ?_
  refine ic h (fun b3 h => ?_) fun b3 h => ?_
  ·refine sk ?_
   refine sN ?_
   refine bk 1 ?_
   obtain ⟨b4,b5,b6,b7,b8,b9,_,c0,h⟩ := bq4 h
   refine rg hc (rx [[0],[1],[0],[0,2],[0],[0,2,3,4],[0,2,3,4,5],[0],[0],[0],[0,9],[0],[0,9,10,11],[0,8,9,10,11,12],[0,2,3,4,5,6,7,8,9,10,11,12,13],[0,2,3,4,5,6,7,8,9,10,11,12,13,14],[16],[17],[18]]) [oN,oN,oN,oN,oN,some (.el (K1d b4)),oN,oN,oN,oN,oN,oN,oc (I b6),oN,some (.call (K1k b8) [] 14),some (.eqv (.mk 16 true) ⟨[(53,.rs 16)],[(16,some (.arr (List.map K08 [b8]))),(14,none),(15,none)],[16]⟩),some (.eqv (.mk 17 true) ⟨[(54,.rs 17)],[(17,some (.arr (List.map K08 (b1 ++ [b8])))),(9,none),(16,none)],[17]⟩),oN,oN] [(1,I by1),(2,I from2),(3,.ra 1 0),(6,.ra 2 0),(7,.ra 4 0),(8,I b2)] [(1,K1c t0),(2,.box [I 0,I 0,.nils,.nils]),(3,rI a0),(4,.box [I t0.fOp,I a5,.rs 3,.rs 17]),(17,.arr (List.map K08 (b1 ++ [b8])))] (ai (Qdn b5 (K0c b4)) (cq (Keq _ _ b7) K54 (cq (spec_l2Shift_ih _ _ b9) K56 (ac (congrArg (fun z => (⟨[(53,.rs 16)],[(16,some (.arr z)),(14,none),(15,none)],[16]⟩ : Wr)) ((Qeq (K0e b8) Qep) : [AV.agg [I b8.fOp,I b8.fN,oI b8.fType,AV.osl (List.map K08 b8.fKids)]] = List.map K08 [b8])) (congrArg (fun z => (⟨[(54,.rs 17)],[(17,some (.arr z)),(9,none),(16,none)],[17]⟩ : Wr)) ((List.map_append).symm : (List.map K08 b1) ++ (List.map K08 [b8]) = List.map K08 (b1 ++ [b8]))) (Qdx (enc1 := K08) (enc2 := K08) (e1 := b1) (e2 := [b8]) (sz := 4) K11 K11 c0) tv)))) ?_
   refine K7o hc 3 [(1,I by1),(2,I from2),(3,.ra 1 0),(6,.ra 2 0),(7,.ra 4 0),(8,I (wr (b2 + 1)))] ?_
   refine Qd1 ?_
   exact WpL.view (fun a w hv => SRx.renL [(9,17)] hv (by kernel_rfl) (by kernel_rfl) (by kernel_rfl)) (spec_l2Shift_l0_ih _ _ h c hc)
  refine xt 0 ?_
  refine Qcv ?_
  refine Qd2 ?_
  obtain rfl := os h
  exact iv []
theorem Kex : ∀ p r,Kes p = some r → Keu p r := Kew.1
theorem Key : ∀ p r,Ket p = some r → Kev p r := Kew.2
def Kez (c : Ctx) (c0 : K01) (s1 : K02) (ctx2 : LL) (ty3 : List Int) (deep4 : Int) (a0 : K01) : (Unit) ⊕ ((K00 × K01)) → Exit → Q0a → Prop
 | .inl _ => Qd5 c (.exit 0) (mkS [(0,.ra 1000 0),(2,sL ctx2),(3,sI ty3),(4,I deep4),(6,.ra 1 0),(10,.ra 2 0)] [(1,K1g s1),(2,.box [I 0,I 0,.nils,.nils]),(1000,K1e a0)])
 | .inr r => Qdh TIx Tryz.f231 [.optr [.sl (List.map U8 c0.fb),I c0.fi,I c0.fh],K1h s1,sL ctx2,sI ty3,I deep4] (.agg [I r.1.fOp,I r.1.fN,.sl (List.map I r.1.fType),.sl (List.map K05 r.1.fKids)],[.optr [.sl (List.map U8 r.2.fb),I r.2.fi,I r.2.fh],.undef,.undef,.undef,.undef])
def Kf0 (c : Ctx) (c0 : K01) (s1 : K02) (ctx2 : LL) (ty3 : List Int) (deep4 : Int) : ((List Int) × Int × Int) ⊕ ((K00 × K01)) → Exit → Q0a → Prop
 | .inl (a0,a1,a2) => Qd5 c .normal (mkS [(0,.ra 1000 0),(2,sL ctx2),(3,sI ty3),(4,I deep4),(6,.ra 1 0),(10,.ra 2 0)] [(1,K1g s1),(2,.box [I 0,I 0,.nils,.nils]),(1000,.box [.sl (List.map U8 a0),I a1,I a2])])
 | .inr r => Qdh TIx Tryz.f231 [.optr [.sl (List.map U8 c0.fb),I c0.fi,I c0.fh],K1h s1,sL ctx2,sI ty3,I deep4] (.agg [I r.1.fOp,I r.1.fN,.sl (List.map I r.1.fType),.sl (List.map K05 r.1.fKids)],[.optr [.sl (List.map U8 r.2.fb),I r.2.fi,I r.2.fh],.undef,.undef,.undef,.undef])
def Kf1 (c : Ctx) (c0 : K01) (s1 : K02) (ctx2 : LL) (ty3 : List Int) (deep4 : Int) (a0 : List Int) (a1 : K00) (a2 : Int) (a3 : K01) : (Unit) ⊕ ((K00 × K01)) → Exit → Q0a → Prop
 | .inl _ => Qd5 c .normal (mkS [(0,.ra 1000 0),(2,sL ctx2),(4,I deep4),(6,.ra 1 0),(10,.ra 2 0),(28,sI a0),(32,.ra 45 0)] [(1,K1g s1),(2,.box [I 0,I 0,.nils,.nils]),(44,.arr (List.map K05 [a1])),(45,.box [I 9,I a2,sI a0,.rs 44]),(1000,K1e a3)])
 | .inr r => Qdh TIx Tryz.f251 [.optr [.sl (List.map U8 c0.fb),I c0.fi,I c0.fh],K1h s1,sL ctx2,sI ty3,I deep4] (.agg [I r.1.fOp,I r.1.fN,.sl (List.map I r.1.fType),.sl (List.map K05 r.1.fKids)],[.optr [.sl (List.map U8 r.2.fb),I r.2.fi,I r.2.fh],.undef,.undef,.undef,.undef])
def Kf2 (c : Ctx) (a0 : List Int) (a1 : Int) : Int × Int × (List Int) × (List K00) × (List Int) × Int × Int → Exit → Q0a → Prop
 | (a2,a3,a4,a5,a6,a7,a8) => Qd5 c (.exit 0) (mkS [(10,.ra 2 0),(11,sI a0),(13,I a1),(15,.ra 8 0)] [(2,.box [I 0,I 0,.nils,.nils]),(8,.box [I a2,I a3,sI a4,.sl (List.map K05 a5)]),(1000,.box [.sl (List.map U8 a6),I a7,I a8])])
def Kf3 (p : K01 × K02 × LL × (List Int) × Int × Int × K01 × Int) : Option ((Unit) ⊕ ((K00 × K01))) :=
 match p with
 | (c0,s1,ctx2,ty3,deep4,a0,a1,a2) =>
  if (decide (a2 < (ctx2.length : Int))) = true then
  (chk ((ctx2.length : Int) ≠ 0)) >>= fun _ =>
  (idx ctx2 (Int.tmod (wr (a0 + a2)) (ctx2.length : Int))) >>= fun a3 =>
  (Kca (a3,ty3)) >>= fun a4 =>
  if a4 = true then
  (Kcd (0,(Int.tmod (wr (a0 + a2)) (ctx2.length : Int)),[])) >>= fun a5 =>
  some (.inr (a5,a1))
  else
  Kf3 (c0,s1,ctx2,ty3,deep4,a0,a1,(wr (a2 + 1)))
  else
  some (.inl ())
 partial_fixpoint
def Kf4 (p : K01 × K02 × LL × (List Int) × Int × Int × K01 × Int) (fl : (Unit) ⊕ ((K00 × K01))) : Prop :=
 match p with
 | (c0,s1,ctx2,ty3,deep4,a0,a1,a2) => ∀ c : Ctx,c.nt = 167 → WpL Tryz.prog c (cl (cl (cr (cr (cl (cr (cl (cr K3x)))))))) (Kez c c0 s1 ctx2 ty3 deep4 a1 fl) (mkS [(0,.ra 1000 0),(2,sL ctx2),(3,sI ty3),(4,I deep4),(6,.ra 1 0),(10,.ra 2 0),(11,I a0),(12,I a2)] [(1,K1g s1),(2,.box [I 0,I 0,.nils,.nils]),(1000,K1e a1)])
theorem Kf5 : ∀ p r,Kf3 p = some r → Kf4 p r := by
 refine Kf3.partial_correctness Kf4 ?_
 rintro spec_dOf_l0_f spec_dOf_l0_ih ⟨c0,s1,ctx2,ty3,deep4,a0,a1,a2⟩ r h
 intro c hc
 refine WpL.step ?_
 refine sN ?_
 refine rss hc none [oN,oN,some (.eqv (.no) ⟨[(24,I (ctx2.length : Int))],[],[]⟩),oN] [(0,.ra 1000 0),(2,sL ctx2),(3,sI ty3),(4,I deep4),(6,.ra 1 0),(10,.ra 2 0),(11,I a0),(12,I a2),(25,.bool (decide (a2 < (ctx2.length : Int))))] (ai (Qdp (d := 24) K0q ctx2) tv) ?_
 refine ic h (fun a3 h => ?_) fun a3 h => ?_
 ·refine sk ?_
  refine sN ?_
  refine bk 1 ?_
  obtain ⟨_,a4,h⟩ := Qdj h
  refine rss hc none [oN,oN,oN,oN,some (.eqv (.no) ⟨[(32,I (ctx2.length : Int))],[],[]⟩),oN,oN] [(0,.ra 1000 0),(2,sL ctx2),(3,sI ty3),(4,I deep4),(6,.ra 1 0),(10,.ra 2 0),(11,I a0),(12,I a2),(13,I (Int.tmod (wr (a0 + a2)) (ctx2.length : Int)))] (ab (Qdp (d := 32) K0q ctx2) (Qdl a4) tv) ?_
  obtain ⟨a5,a6,a7,a8,h⟩ := bq2 h
  refine rss hc none [oN,oN,some (.el (sI a5)),oN,oN,oc (.bool a7)] [(0,.ra 1000 0),(2,sL ctx2),(3,sI ty3),(4,I deep4),(6,.ra 1 0),(10,.ra 2 0),(11,I a0),(12,I a2),(13,I (Int.tmod (wr (a0 + a2)) (ctx2.length : Int))),(39,.bool a7)] (ai (xL a6) (cq (Kcc _ _ a8) K3s tv)) ?_
  refine ic h (fun a9 h => ?_) fun a9 h => ?_
  ·obtain ⟨b1,b2,h⟩ := Qdj h
   refine rs hc none [oN,oc (K1d b1),oN] [(10,.ra 2 0)] [(2,K1c b1),(1000,K1e a1)] (cq (Q75.args (A1 := [I 0,I (Int.tmod (wr (a0 + a2)) (ctx2.length : Int)),.sl []]) (A2 := [I 0,I (Int.tmod (wr (a0 + a2)) (ctx2.length : Int)),.sl (List.map K05 [])]) (by simp only [List.map_nil]) (Kcf _ _ b2)) K3u tv) ?_
   refine rt ?_
   obtain rfl := os h
   exact Qdh.ret (fl := [false]) (by kernel_rfl)
  refine sk ?_
  refine K7o hc 3 [(0,.ra 1000 0),(2,sL ctx2),(3,sI ty3),(4,I deep4),(6,.ra 1 0),(10,.ra 2 0),(11,I a0),(12,I (wr (a2 + 1)))] ?_
  refine Qd1 ?_
  exact (spec_dOf_l0_ih _ _ h c hc)
 refine xt 0 ?_
 refine Qcv ?_
 refine Qd2 ?_
 obtain rfl := os h
 exact iv []
end Go.Am
