/- Walks, printed. -/
import Derived.Test.YtckgdfakjjdodaaGreatGFIMF2
set_option linter.unusedVariables false
set_option linter.unusedSimpArgs false
set_option maxRecDepth 100000
namespace Go.Am
open Go Go.Proofs
def Kfv : Option (List (List Nat)) := rx [[0],[1],[0],[0,2],[4],[5],[0],[0,6],[8],[9]]
def Kfw : Option (List (List Nat)) := rx [[0],[0],[0,1],[0,1,2],[0,1,2,3],[0],[6],[7]]
def Kfx : Option (List (List Nat)) := rx [[0],[1],[2],[3],[3],[3,4],[3,4,5],[3,4,5,6],[3],[9],[10],[11]]
mutual
def Kfy (p : K00 × LL × K01) : Option (K03) :=
 match p with
 | (s0,ctx1,t2) =>
  if (t2.fOp == 0) = true then
  (Kf5 (ctx1.length : Int)) >>= fun a0 =>
  (idx a0 t2.fN) >>= fun a1 =>
  (idx ctx1 t2.fN) >>= fun a2 =>
  (Ket a2) >>= fun a3 =>
  some (K03.mk a3 (List.set a0 (Int.toNat t2.fN) 1) 0 [])
  else
  if (t2.fOp == 1) = true then
  (Kf5 (ctx1.length : Int)) >>= fun a4 =>
  some (K03.mk [0] a4 0 [])
  else
  ((
  if (t2.fOp == 9) = true then
  (Kf2 (ctx1,[t2.fType])) >>= fun a5 =>
  some (a5)
  else
  some (ctx1)
  ) : Option (LL)) >>= fun a6 =>
  (Kg0 (s0,a6,t2,0)) >>= fun a7 =>
  if (a7.ffault != 0) = true then
  some a7
  else
  ((
  if (t2.fOp == 2) = true then
  some ((t2.fOp == 2))
  else
  some ((t2.fOp == 3))
  ) : Option (Bool)) >>= fun a8 =>
  if a8 = true then
  (idx a7.fty 0) >>= fun a9 =>
  if (a9 != 0) = true then
  (Kf8 2) >>= fun b1 =>
  some b1
  else
  (Kg1 (s0,ctx1,t2,a7)) >>= fun b2 =>
  some b2
  else
  if (t2.fOp == 4) = true then
  (Kg0 (s0,ctx1,t2,1)) >>= fun b3 =>
  if (b3.ffault != 0) = true then
  some b3
  else
  (Kdq (1,[a7.fty,b3.fty])) >>= fun b4 =>
  (Kff (s0,a7.fneeds,1,b3.fneeds)) >>= fun b5 =>
  (Kfi (b4,b5)) >>= fun b6 =>
  some b6
  else
  if (t2.fOp == 6) = true then
  (Kdq (2,[a7.fty,t2.fType])) >>= fun b7 =>
  (Kfi (b7,a7.fneeds)) >>= fun b8 =>
  some b8
  else
  if (t2.fOp == 7) = true then
  (Kdq (2,[t2.fType,a7.fty])) >>= fun b9 =>
  (Kfi (b9,a7.fneeds)) >>= fun c0 =>
  some c0
  else
  if (t2.fOp == 9) = true then
  (idx a7.fneeds 0) >>= fun c1 =>
  (Kbs (s0,c1,t2.fN)) >>= fun c2 =>
  if c2 = true then
  (Kdq ((wr (3 + t2.fN)),[t2.fType,a7.fty])) >>= fun c3 =>
  (cut a7.fneeds (some 1) none none) >>= fun c4 =>
  (Ket c4) >>= fun c5 =>
  (Kfi (c3,c5)) >>= fun c6 =>
  some c6
  else
  (Kf8 9) >>= fun c7 =>
  some c7
  else
  if (t2.fOp == 11) = true then
  (Kdq ((wr (19 + t2.fN)),[a7.fty])) >>= fun c8 =>
  (Kf5 (ctx1.length : Int)) >>= fun c9 =>
  (Kff (s0,c9,t2.fN,a7.fneeds)) >>= fun d0 =>
  (Kfi (c8,d0)) >>= fun d1 =>
  some d1
  else
  if (t2.fOp == 10) = true then
  (idx a7.fty 0) >>= fun d2 =>
  (Ked d2) >>= fun d3 =>
  if d3 = true then
  (Kg0 (s0,ctx1,t2,1)) >>= fun d4 =>
  if (d4.ffault != 0) = true then
  some d4
  else
  (Kew (a7.fty,0)) >>= fun d5 =>
  (Ke7 (d4.fty,d5)) >>= fun d6 =>
  if d6 = true then
  (Kew (a7.fty,1)) >>= fun d7 =>
  (idx a7.fty 0) >>= fun d8 =>
  (Kez d8) >>= fun d9 =>
  (Kff (s0,a7.fneeds,d9,d4.fneeds)) >>= fun e0 =>
  some (K03.mk d7 e0 0 [])
  else
  (Kf8 3) >>= fun e1 =>
  some e1
  else
  (Kf8 6) >>= fun e2 =>
  some e2
  else
  (Kfz (s0,ctx1,t2,a7)) >>= fun e3 =>
  some e3
 partial_fixpoint
def Kfz (p : K00 × LL × K01 × K03) : Option (K03) :=
 match p with
 | (s0,ctx1,t2,a3) =>
  (idx a3.fty 0) >>= fun a0 =>
  ((
  if (t2.fOp == 5) = true then
  some ((a0 != 1))
  else
  some (false)
  ) : Option (Bool)) >>= fun a1 =>
  if a1 = true then
  (Kf8 4) >>= fun a2 =>
  some a2
  else
  ((
  if (t2.fOp == 8) = true then
  some ((a0 != 2))
  else
  some (false)
  ) : Option (Bool)) >>= fun a4 =>
  if a4 = true then
  (Kf8 5) >>= fun a5 =>
  some a5
  else
  ((
  if (t2.fOp == 12) = true then
  (Keg a0) >>= fun a6 =>
  some ((!a6))
  else
  some (false)
  ) : Option (Bool)) >>= fun a7 =>
  if a7 = true then
  (Kf8 7) >>= fun a8 =>
  some a8
  else
  (Kbs (s0,1,t2.fN)) >>= fun a9 =>
  if a9 = true then
  (Kew (a3.fty,0)) >>= fun b1 =>
  ((
  if (t2.fOp == 5) = true then
   (Kew (a3.fty,1)) >>= fun b2 =>
   (Kew (a3.fty,0)) >>= fun b3 =>
   some ([b2,b3])
  else
   some ([b1])
  ) : Option (LL)) >>= fun b4 =>
  (Kf2 (ctx1,b4)) >>= fun b5 =>
  (Kg0 (s0,b5,t2,1)) >>= fun b6 =>
  if (b6.ffault != 0) = true then
  some b6
  else
  (cut b6.fneeds (some (b4.length : Int)) none none) >>= fun b7 =>
  (Ket b7) >>= fun b8 =>
  ((
   if (t2.fOp == 12) = true then
   (Kez a0) >>= fun b9 =>
   (Kbp (s0,t2.fN,b9)) >>= fun c0 =>
   some (.inl (c0,b8,true))
   else
   ((
    if (t2.fOp == 5) = true then
    (idx b6.fneeds 1) >>= fun c1 =>
    (Kbs (s0,c1,t2.fN)) >>= fun c2 =>
    some (.inl (b8,c2))
    else
    ((
     if (t2.fOp == 8) = true then
     (Kew (a3.fty,1)) >>= fun c3 =>
     (Kf2 (ctx1,[c3])) >>= fun c4 =>
     (Kg0 (s0,c4,t2,2)) >>= fun c5 =>
     if (c5.ffault != 0) = true then
     some (.inr c5)
     else
     (Ke7 (b6.fty,c5.fty)) >>= fun c6 =>
     if c6 = true then
     (idx c5.fneeds 0) >>= fun c7 =>
     (Kbs (s0,c7,t2.fN)) >>= fun c8 =>
     (cut c5.fneeds (some 1) none none) >>= fun c9 =>
     (Kfp (s0,b8,c9)) >>= fun d0 =>
     some (.inl (d0,c8))
     else
     (Kf8 3) >>= fun d1 =>
     some (.inr d1)
     else
     some (.inl (b8,true))) : Option (((List Int) × Bool) ⊕ (K03))) >>= fun fl => match fl with
    | .inl (d2,d3) =>
     some (.inl (d2,d3))
    | .inr r =>
     some (.inr r)) : Option (((List Int) × Bool) ⊕ (K03))) >>= fun fl => match fl with
   | .inl (d4,d5) =>
    some (.inl (t2.fN,d4,d5))
   | .inr r =>
    some (.inr r)) : Option ((Int × (List Int) × Bool) ⊕ (K03))) >>= fun fl => match fl with
  | .inl (d6,d7,d8) =>
   ((
   if d8 = true then
    (idx b6.fneeds 0) >>= fun d9 =>
    (Kbs (s0,d9,d6)) >>= fun e0 =>
    some ((!e0))
   else
    some (true)
   ) : Option (Bool)) >>= fun e1 =>
   if e1 = true then
   (Kf8 9) >>= fun e2 =>
   some e2
   else
   (Kf5 (ctx1.length : Int)) >>= fun e3 =>
   (Kff (s0,e3,t2.fN,a3.fneeds)) >>= fun e4 =>
   (Kff (s0,e4,1,d7)) >>= fun e5 =>
   some (K03.mk b6.fty e5 0 [])
  | .inr r =>
   some r
  else
  (Kf8 8) >>= fun e6 =>
  some e6
 partial_fixpoint
def Kg0 (p : K00 × LL × K01 × Int) : Option (K03) :=
 match p with
 | (s0,ctx1,t2,k3) =>
  (idx t2.fKids k3) >>= fun a0 =>
  (Kfy (s0,ctx1,a0)) >>= fun a1 =>
  ((
  if (a1.ffault != 0) = true then
  (Qdq ([k3].length + a1.fpath.length) 8) >>= fun _ =>
  some (([k3] ++ a1.fpath))
  else
  some (a1.fpath)
  ) : Option ((List Int))) >>= fun a2 =>
  some (K03.mk a1.fty a1.fneeds a1.ffault a2)
 partial_fixpoint
def Kg1 (p : K00 × LL × K01 × K03) : Option (K03) :=
 match p with
 | (s0,ctx1,t2,a3) =>
  (Kg0 (s0,ctx1,t2,1)) >>= fun a0 =>
  if (a0.ffault != 0) = true then
  some a0
  else
  if (t2.fOp == 2) = true then
  (idx a0.fty 0) >>= fun a1 =>
  if (a1 != 0) = true then
  (Kf8 2) >>= fun a2 =>
  some a2
  else
  (Kff (s0,a3.fneeds,1,a0.fneeds)) >>= fun a4 =>
  some (K03.mk a0.fty a4 0 [])
  else
  (Kg0 (s0,ctx1,t2,2)) >>= fun a5 =>
  if (a5.ffault != 0) = true then
  some a5
  else
  (Ke7 (a0.fty,a5.fty)) >>= fun a6 =>
  if a6 = true then
  (Kfp (s0,a0.fneeds,a5.fneeds)) >>= fun a7 =>
  (Kff (s0,a3.fneeds,1,a7)) >>= fun a8 =>
  some (K03.mk a0.fty a8 0 [])
  else
  (Kf8 3) >>= fun a9 =>
  some a9
 partial_fixpoint
end
def Kg2 (p : K00 × LL × K01) (r : K03) : Prop :=
 match p with
 | (s0,ctx1,t2) => Q71 Tryz.prog 203 [K1w s0,sL ctx1,K1y t2] (K22 r) []
def Kg3 (p : K00 × LL × K01 × K03) (r : K03) : Prop :=
 match p with
 | (s0,ctx1,t2,a3) => Q71 Tryz.prog 239 [K1w s0,sL ctx1,K1y t2,K22 a3] (K22 r) []
def Kg4 (p : K00 × LL × K01 × Int) (r : K03) : Prop :=
 match p with
 | (s0,ctx1,t2,k3) => Q71 Tryz.prog 234 [K1w s0,sL ctx1,K1y t2,I k3] (K22 r) []
def Kg5 (p : K00 × LL × K01 × K03) (r : K03) : Prop :=
 match p with
 | (s0,ctx1,t2,a3) => Q71 Tryz.prog 236 [K1w s0,sL ctx1,K1y t2,K22 a3] (K22 r) []
theorem Kg6 : (∀ p r,Kfy p = some r → Kg2 p r) ∧ (∀ p r,Kfz p = some r → Kg3 p r) ∧ (∀ p r,Kg0 p = some r → Kg4 p r) ∧ (∀ p r,Kg1 p = some r → Kg5 p r) := by
 refine Kfy.mutual_partial_correctness Kg2 Kg3 Kg4 Kg5 ?_ ?_ ?_ ?_
 ·rintro spec_l3Taken_f spec_l3Of_f spec_l3Numbers_f spec_l3Taken_ih spec_l3Of_ih spec_l3Numbers_ih ⟨s0,ctx1,t2⟩ r h
  refine b0 Tryz.f203 K5r 206 [(0,K1w s0),(1,sL ctx1),(2,K1y t2)] fun c hc => ?_
  refine rs hc none [some (.new 1),some (.new 2),some (.new 3)] [(1,sL ctx1),(3,.ra 1 0),(5,.ra 2 0),(6,.ra 3 0)] [(1,K1v s0),(2,K1x t2),(3,.box [.nils,.nils,I 0,.nils])] tv ?_
  refine sN ?_
  refine K9m hc 2 [(1,sL ctx1),(3,.ra 1 0),(5,.ra 2 0),(6,.ra 3 0),(13,I t2.fOp)] ?_
  refine bk 0 ?_
  refine K9m hc 2 [(1,sL ctx1),(3,.ra 1 0),(5,.ra 2 0),(6,.ra 3 0),(13,I t2.fOp),(14,.bool (t2.fOp == 0))] ?_
  refine ic h (fun a0 h => ?_) fun a0 h => ?_
  ·obtain ⟨a1,a2,h⟩ := Qdd h
   refine rs hc none [oN,some (.eqv (.no) ⟨[(17,I (ctx1.length : Int))],[],[]⟩),some (.call (oI a1) [] 4),oN] [(1,sL ctx1),(5,.ra 2 0),(6,.ra 3 0),(7,.rs 4)] [(2,K1x t2),(3,.box [.nils,.nils,I 0,.nils]),(4,rI a1)] (ai (Qdj (d := 17) K14 ctx1) (cq (Kf7 _ _ a2) K5e tv)) ?_
   obtain ⟨a4,a5,h⟩ := Qdd h
   refine rs hc none [oN,oN,oN,oN,some (.eqv (.mk 0 true) ⟨[],[(4,some (.arr (List.map I (List.set a1 (Int.toNat t2.fN) 1))))],[]⟩)] [(1,sL ctx1),(5,.ra 2 0),(6,.ra 3 0),(7,.rs 4)] [(2,K1x t2),(3,.box [.nils,.nils,I 0,.nils]),(4,.arr (List.map I (List.set a1 (Int.toNat t2.fN) 1)))] (ac (Qdi (enc := I) a5) (congrArg (fun z => (⟨[],[(4,some (.arr z))],[]⟩ : Wr)) (Qeg (enc := I) (i := Int.toNat t2.fN) (l := a1) (v := 1) (x := I 1) (Qds 1))) (Qeh (enc := I) (sz := 1) Qdw a5) tv) ?_
   obtain ⟨a6,a7,a8,a9,h⟩ := bq2 h
   refine rs hc none [oN,oN,oN,some (.el (sI a6)),oN,some (.call (oI a8) [] 5),oN,oN,oN] [(6,.ra 3 0)] [(3,.box [.rs 5,.rs 4,I 0,.nils]),(4,.arr (List.map I (List.set a1 (Int.toNat t2.fN) 1))),(5,rI a8)] (ai (xL a7) (cq (Kev _ _ a9) K54 tv)) ?_
   refine vz 5 (Qe5 a8) [(6,.ra 3 0)] [(3,.box [sI a8,.rs 4,I 0,.nils]),(4,.arr (List.map I (List.set a1 (Int.toNat t2.fN) 1)))] ?_
   refine vz 4 (Qe5 (List.set a1 (Int.toNat t2.fN) 1)) [(6,.ra 3 0)] [(3,.box [sI a8,.sl (List.map I (List.set a1 (Int.toNat t2.fN) 1)),I 0,.nils])] ?_
   refine rt ?_
   obtain rfl := os h
   exact rq [false]
  refine K9m hc 2 [(1,sL ctx1),(3,.ra 1 0),(5,.ra 2 0),(6,.ra 3 0),(31,.bool (t2.fOp == 1))] ?_
  refine ic h (fun b1 h => ?_) fun b1 h => ?_
  ·obtain ⟨b2,b3,h⟩ := Qdd h
   refine rs hc none [some (.mk 6 true),oN,some (.eqv (.no) ⟨[(35,I (ctx1.length : Int))],[],[]⟩),some (.call (oI b2) [] 7),oN,oN] [(6,.ra 3 0)] [(3,.box [.rs 6,.rs 7,I 0,.nils]),(6,.arr (List.map I [0])),(7,rI b2)] (ai (Qdj (d := 35) K14 ctx1) (cq (Kf7 _ _ b3) K5e tv)) ?_
   refine vz 6 (Qe5 [0]) [(6,.ra 3 0)] [(3,.box [.sl (List.map I [0]),.rs 7,I 0,.nils]),(7,rI b2)] ?_
   refine vz 7 (Qe5 b2) [(6,.ra 3 0)] [(3,.box [.sl (List.map I [0]),sI b2,I 0,.nils])] ?_
   refine rt ?_
   obtain rfl := os h
   exact rq [false]
  refine sk ?_
  refine K9m hc 2 [(1,sL ctx1),(3,.ra 1 0),(5,.ra 2 0),(6,.ra 3 0),(8,sL ctx1)] ?_
  refine sN ?_
  refine K9m hc 3 [(1,sL ctx1),(3,.ra 1 0),(5,.ra 2 0),(6,.ra 3 0),(8,sL ctx1),(41,.bool (t2.fOp == 9))] ?_
  obtain ⟨b4,b5,h⟩ := Qdd h
  refine Wp.into (x := .normal) (mkS [(1,sL ctx1),(3,.ra 1 0),(5,.ra 2 0),(6,.ra 3 0),(8,sL b4)] [(1,K1v s0),(2,K1x t2),(3,.box [.nils,.nils,I 0,.nils])]) ?_ ?_
  ·replace h := b5
   refine ic h (fun b6 h => ?_) fun b6 h => ?_
   ·obtain ⟨b7,b8,h⟩ := Qdd h
    refine rg hc none [oN,oN,oN,some (.mk 8 false),some (.call (.osl (List.map K14 b7)) [.tup []] 9),oN] [(1,sL ctx1),(3,.ra 1 0),(5,.ra 2 0),(6,.ra 3 0),(8,.rs 9)] [(1,K1v s0),(2,K1x t2),(3,.box [.nils,.nils,I 0,.nils]),(9,.arr (List.map K14 b7))] (ab (Q71.args (A1 := [sL ctx1,.sl (Q02 (List.map K14 [t2.fType]))]) (A2 := [sL ctx1,.sl (List.map K14 [t2.fType])]) (by simp only [List.map_nil,K18]) (Kf4 _ _ b8)) K5c tv) ?_
    obtain rfl := os h
    exact Qcz.view (fun a w hv => SRx.renL [] (SRx.frzC 9 (xs := List.map K14 b7) (xs' := List.map K14 b7) hv (by kernel_rfl) (K18 _)) (by kernel_rfl) (by kernel_rfl) (by kernel_rfl))
   refine sk ?_
   obtain rfl := os h
   exact iv []
  clear b5
  obtain ⟨b9,c0,h⟩ := Qdd h
  refine rs hc none [oN,oN,oN,oc (K22 b9),some (.new 10),oN] [(1,sL ctx1),(3,.ra 1 0),(5,.ra 2 0),(6,.ra 3 0),(9,.ra 10 0)] [(1,K1v s0),(2,K1x t2),(3,.box [.nils,.nils,I 0,.nils]),(10,K21 b9)] (cq (spec_l3Of_ih _ _ c0) K5g tv) ?_
  refine sN ?_
  refine K9m hc 3 [(1,sL ctx1),(3,.ra 1 0),(5,.ra 2 0),(6,.ra 3 0),(9,.ra 10 0),(53,.bool (b9.ffault != 0))] ?_
  refine ic h (fun c1 h => ?_) fun c1 h => ?_
  ·refine rs0 hc 2 [(6,.ra 3 0)] [(3,K21 b9)] ?_
   refine rt ?_
   obtain rfl := os h
   exact rq [false]
  refine sk ?_
  refine sN ?_
  refine K9m hc 2 [(1,sL ctx1),(3,.ra 1 0),(5,.ra 2 0),(6,.ra 3 0),(9,.ra 10 0),(56,I t2.fOp)] ?_
  refine bk 1 ?_
  refine sN ?_
  refine K9m hc 2 [(1,sL ctx1),(3,.ra 1 0),(5,.ra 2 0),(6,.ra 3 0),(9,.ra 10 0),(56,I t2.fOp),(57,.bool (t2.fOp == 2))] ?_
  obtain ⟨c2,c3,h⟩ := Qdd h
  refine Wp.into (x := .normal) (mkS [(1,sL ctx1),(3,.ra 1 0),(5,.ra 2 0),(6,.ra 3 0),(9,.ra 10 0),(56,I t2.fOp),(57,.bool c2)] [(1,K1v s0),(2,K1x t2),(3,.box [.nils,.nils,I 0,.nils]),(10,K21 b9)]) ?_ ?_
  ·replace h := c3
   refine ic h (fun c4 h => ?_) fun c4 h => ?_
   ·refine sk ?_
    obtain rfl := os h
    exact Qcz.mk
   refine K9l hc 2 [(1,sL ctx1),(3,.ra 1 0),(5,.ra 2 0),(6,.ra 3 0),(9,.ra 10 0),(56,I t2.fOp),(57,.bool (t2.fOp == 3))] ?_
   obtain rfl := os h
   exact Qcz.mk
  clear c3
  refine ic h (fun c5 h => ?_) fun c5 h => ?_
  ·refine sN ?_
   obtain ⟨c6,c7,h⟩ := Qdd h
   refine rss hc none [oN,oN,some (.el (I c6)),oN,oN] [(1,sL ctx1),(3,.ra 1 0),(5,.ra 2 0),(6,.ra 3 0),(9,.ra 10 0),(64,.bool (c6 != 0))] (ai (ix c7) tv) ?_
   refine ic h (fun c8 h => ?_) fun c8 h => ?_
   ·obtain ⟨c9,d0,h⟩ := Qdd h
    refine rs hc none [some (.call (K2d c9) [] 11),oN] [(6,.ra 3 0)] [(3,.box [.rs 11,.rs 12,I c9.ffault,.rs 13]),(11,rI c9.fty),(12,rI c9.fneeds),(13,rI c9.fpath)] (cq (Kfa _ _ d0) K5i tv) ?_
    refine vz 11 (Qe5 c9.fty) [(6,.ra 3 0)] [(3,.box [sI c9.fty,.rs 12,I c9.ffault,.rs 13]),(12,rI c9.fneeds),(13,rI c9.fpath)] ?_
    refine vz 12 (Qe5 c9.fneeds) [(6,.ra 3 0)] [(3,.box [sI c9.fty,sI c9.fneeds,I c9.ffault,.rs 13]),(13,rI c9.fpath)] ?_
    refine vz 13 (Qe5 c9.fpath) [(6,.ra 3 0)] [(3,K21 c9)] ?_
    refine rt ?_
    obtain rfl := os h
    exact rq [false]
   refine sk ?_
   obtain ⟨d1,d2,h⟩ := Qdd h
   refine rs hc none [oN,oN,oN,oN,oc (K22 d1),oN] [(6,.ra 3 0)] [(3,K21 d1)] (cq (spec_l3Numbers_ih _ _ d2) K5k tv) ?_
   refine rt ?_
   obtain rfl := os h
   exact rq [false]
  refine K9m hc 2 [(1,sL ctx1),(3,.ra 1 0),(5,.ra 2 0),(6,.ra 3 0),(9,.ra 10 0),(56,I t2.fOp),(71,.bool (t2.fOp == 4))] ?_
  refine ic h (fun d3 h => ?_) fun d3 h => ?_
  ·obtain ⟨d4,d5,h⟩ := Qdd h
   refine rs hc none [oN,oN,oN,oc (K22 d4),some (.new 14),oN] [(3,.ra 1 0),(6,.ra 3 0),(9,.ra 10 0),(10,.ra 14 0)] [(1,K1v s0),(3,.box [.nils,.nils,I 0,.nils]),(10,K21 b9),(14,K21 d4)] (cq (spec_l3Of_ih _ _ d5) K5g tv) ?_
   refine sN ?_
   refine K9m hc 3 [(3,.ra 1 0),(6,.ra 3 0),(9,.ra 10 0),(10,.ra 14 0),(79,.bool (d4.ffault != 0))] ?_
   refine ic h (fun d6 h => ?_) fun d6 h => ?_
   ·refine rs0 hc 2 [(6,.ra 3 0)] [(3,K21 d4)] ?_
    refine rt ?_
    obtain rfl := os h
    exact rq [false]
   refine sk ?_
   obtain ⟨d7,d8,d9,e0,e3,e4,h⟩ := bq3 h
   refine rs hc (rx [[0],[1],[0],[0,2],[4],[5],[0],[0],[0,7],[0],[0,9],[11],[12],[13]]) [oN,oN,oN,oN,some (.mk 15 false),some (.call (oI d7) [] 16),oN,oN,oN,oN,oN,some (.call (oI d9) [] 17),some (.call (K22 e3) [.tup []] 1),oN] [(6,.ra 3 0)] [(3,K21 e3)] (ac (Q71.args (A1 := [I 1,.sl (Q02 (List.map K14 [b9.fty,d4.fty]))]) (A2 := [I 1,.sl (List.map K14 [b9.fty,d4.fty])]) (by simp only [List.map_nil,K18]) (Kds _ _ d8)) K4k (Or.inr (Qed Qe9 d7) : ([15] : List Nat) = [] ∨ noSh (oI d7) = true) (cq (Kfh _ _ e0) K5m (ab (Q71.args (A1 := [.sl (Q02 (List.map I d7)),.sl (Q02 (List.map I d9))]) (A2 := [sI d7,sI d9]) (by simp only [List.map_nil,Qe5]) (Kfk _ _ e4)) K5o tv))) ?_
   refine rt ?_
   obtain rfl := os h
   exact rq [false]
  refine K9m hc 2 [(1,sL ctx1),(3,.ra 1 0),(5,.ra 2 0),(6,.ra 3 0),(9,.ra 10 0),(56,I t2.fOp),(94,.bool (t2.fOp == 6))] ?_
  refine ic h (fun e5 h => ?_) fun e5 h => ?_
  ·obtain ⟨e6,e7,e8,e9,h⟩ := bq2 h
   refine rs hc Kfv [oN,oN,oN,oN,some (.mk 18 false),some (.call (oI e6) [] 19),oN,oN,some (.call (K22 e8) [.tup []] 1),oN] [(6,.ra 3 0)] [(3,K21 e8)] (ad (Q71.args (A1 := [I 2,.sl (Q02 (List.map K14 [b9.fty,t2.fType]))]) (A2 := [I 2,.sl (List.map K14 [b9.fty,t2.fType])]) (by simp only [List.map_nil,K18]) (Kds _ _ e7)) K4k (Or.inr (Qed Qe9 e6) : ([18] : List Nat) = [] ∨ noSh (oI e6) = true) (Q71.args (A1 := [.sl (Q02 (List.map I e6)),sI b9.fneeds]) (A2 := [sI e6,sI b9.fneeds]) (by simp only [List.map_nil,Qe5]) (Kfk _ _ e9)) (ai K5o tv)) ?_
   refine rt ?_
   obtain rfl := os h
   exact rq [false]
  refine K9m hc 2 [(1,sL ctx1),(3,.ra 1 0),(5,.ra 2 0),(6,.ra 3 0),(9,.ra 10 0),(56,I t2.fOp),(105,.bool (t2.fOp == 7))] ?_
  refine ic h (fun f0 h => ?_) fun f0 h => ?_
  ·obtain ⟨f1,f2,f3,f4,h⟩ := bq2 h
   refine rs hc Kfv [oN,oN,oN,oN,some (.mk 20 false),some (.call (oI f1) [] 21),oN,oN,some (.call (K22 f3) [.tup []] 1),oN] [(6,.ra 3 0)] [(3,K21 f3)] (ad (Q71.args (A1 := [I 2,.sl (Q02 (List.map K14 [t2.fType,b9.fty]))]) (A2 := [I 2,.sl (List.map K14 [t2.fType,b9.fty])]) (by simp only [List.map_nil,K18]) (Kds _ _ f2)) K4k (Or.inr (Qed Qe9 f1) : ([20] : List Nat) = [] ∨ noSh (oI f1) = true) (Q71.args (A1 := [.sl (Q02 (List.map I f1)),sI b9.fneeds]) (A2 := [sI f1,sI b9.fneeds]) (by simp only [List.map_nil,Qe5]) (Kfk _ _ f4)) (ai K5o tv)) ?_
   refine rt ?_
   obtain rfl := os h
   exact rq [false]
  refine K9m hc 2 [(1,sL ctx1),(3,.ra 1 0),(5,.ra 2 0),(6,.ra 3 0),(9,.ra 10 0),(56,I t2.fOp),(116,.bool (t2.fOp == 9))] ?_
  refine ic h (fun f5 h => ?_) fun f5 h => ?_
  ·refine sN ?_
   obtain ⟨f6,f7,f8,f9,h⟩ := bq2 h
   refine rs hc (rx [[0],[0],[0,1],[0,1,2],[0,1,2,3],[0],[0,5],[7],[8]]) [oN,oN,oN,some (.el (I f6)),oN,oN,oN,oc (.bool f8),oN] [(5,.ra 2 0),(6,.ra 3 0),(9,.ra 10 0),(126,.bool (!f8))] [(2,K1x t2),(3,.box [.nils,.nils,I 0,.nils]),(10,K21 b9)] (ai (ix f7) (cq (Kbu _ _ f9) K3x tv)) ?_
   rcases is h with ⟨g0,h⟩ | ⟨g0,h⟩
   ·refine cF (!f8) (nF g0) ?_
    refine sk ?_
    obtain ⟨g1,g2,g3,g4,g5,g6,g7,g8,h⟩ := bq4 h
    refine rs hc (rx [[0],[1],[2],[0],[0,3],[0],[0,5],[0,3,4,5,6],[8],[0],[0,9],[0,9,10],[12],[13],[14]]) [oN,oN,oN,oN,oN,oN,oN,some (.mk 22 false),some (.call (oI g1) [] 23),oN,oN,some (.eqv (.no) ⟨[(139,sI g3)],[],[]⟩),some (.call (oI g5) [] 24),some (.call (K22 g7) [.tup []] 1),oN] [(6,.ra 3 0)] [(3,K21 g7)] (ad (Q71.args (A1 := [I (wr (3 + t2.fN)),.sl (Q02 (List.map K14 [t2.fType,b9.fty]))]) (A2 := [I (wr (3 + t2.fN)),.sl (List.map K14 [t2.fType,b9.fty])]) (by simp only [List.map_nil,K18]) (Kds _ _ g2)) K4k (Or.inr (Qed Qe9 g1) : ([22] : List Nat) = [] ∨ noSh (oI g1) = true) (Qdm (d := 139) I g4) (ai (Qdl (enc := I) (sz := 1) Qdw g4) (cq (Kev _ _ g6) K54 (ab (Q71.args (A1 := [.sl (Q02 (List.map I g1)),.sl (Q02 (List.map I g5))]) (A2 := [sI g1,sI g5]) (by simp only [List.map_nil,Qe5]) (Kfk _ _ g8)) K5o tv)))) ?_
    refine rt ?_
    obtain rfl := os h
    exact rq [false]
   refine cT (!f8) (nT g0) ?_
   obtain ⟨g9,i0,h⟩ := Qdd h
   refine rs hc none [some (.call (K2d g9) [] 25),oN] [(6,.ra 3 0)] [(3,.box [.rs 25,.rs 26,I g9.ffault,.rs 27]),(25,rI g9.fty),(26,rI g9.fneeds),(27,rI g9.fpath)] (cq (Kfa _ _ i0) K5i tv) ?_
   refine vz 25 (Qe5 g9.fty) [(6,.ra 3 0)] [(3,.box [sI g9.fty,.rs 26,I g9.ffault,.rs 27]),(26,rI g9.fneeds),(27,rI g9.fpath)] ?_
   refine vz 26 (Qe5 g9.fneeds) [(6,.ra 3 0)] [(3,.box [sI g9.fty,sI g9.fneeds,I g9.ffault,.rs 27]),(27,rI g9.fpath)] ?_
   refine vz 27 (Qe5 g9.fpath) [(6,.ra 3 0)] [(3,K21 g9)] ?_
   refine rt ?_
   obtain rfl := os h
   exact rq [false]
  refine K9m hc 2 [(1,sL ctx1),(3,.ra 1 0),(5,.ra 2 0),(6,.ra 3 0),(9,.ra 10 0),(56,I t2.fOp),(142,.bool (t2.fOp == 11))] ?_
  refine ic h (fun i1 h => ?_) fun i1 h => ?_
  ·obtain ⟨i2,i3,i4,i5,i6,i7,i8,i9,h⟩ := bq4 h
   refine rs hc (rx [[0],[1],[2],[0],[0,3],[0,3,4],[6],[0],[0],[0,8],[7,8,9],[0],[0,11],[0],[0,13],[15],[16],[17]]) [oN,oN,oN,oN,oN,some (.mk 28 false),some (.call (oI i2) [] 29),oN,oN,some (.eqv (.no) ⟨[(153,I (ctx1.length : Int))],[],[]⟩),some (.call (oI i4) [] 30),oN,oN,oN,oN,some (.call (oI i6) [] 31),some (.call (K22 i8) [.tup []] 1),oN] [(6,.ra 3 0)] [(3,K21 i8)] (ad (Q71.args (A1 := [I (wr (19 + t2.fN)),.sl (Q02 (List.map K14 [b9.fty]))]) (A2 := [I (wr (19 + t2.fN)),.sl (List.map K14 [b9.fty])]) (by simp only [List.map_nil,K18]) (Kds _ _ i3)) K4k (Or.inr (Qed Qe9 i2) : ([28] : List Nat) = [] ∨ noSh (oI i2) = true) (Qdj (d := 153) K14 ctx1) (cq (Kf7 _ _ i5) K5e (ad (Q71.args (A1 := [K1w s0,.sl (Q02 (List.map I i4)),I t2.fN,sI b9.fneeds]) (A2 := [K1w s0,sI i4,I t2.fN,sI b9.fneeds]) (by simp only [List.map_nil,Qe5]) (Kfh _ _ i7)) K5m (Or.inr (Qed Qe9 i6) : ([30] : List Nat) = [] ∨ noSh (oI i6) = true) (Q71.args (A1 := [.sl (Q02 (List.map I i2)),.sl (Q02 (List.map I i6))]) (A2 := [sI i2,sI i6]) (by simp only [List.map_nil,Qe5]) (Kfk _ _ i9)) (ai K5o tv)))) ?_
   refine rt ?_
   obtain rfl := os h
   exact rq [false]
  refine K9m hc 2 [(1,sL ctx1),(3,.ra 1 0),(5,.ra 2 0),(6,.ra 3 0),(9,.ra 10 0),(161,.bool (t2.fOp == 10))] ?_
  refine ic h (fun j0 h => ?_) fun j0 h => ?_
  ·refine sN ?_
   obtain ⟨j8,j9,k0,k1,h⟩ := bq2 h
   refine rss hc none [oN,oN,some (.el (I j8)),oN,oc (.bool k0),oN] [(1,sL ctx1),(3,.ra 1 0),(5,.ra 2 0),(6,.ra 3 0),(9,.ra 10 0),(168,.bool (!k0))] (ai (ix j9) (cq (Kef _ _ k1) K4w tv)) ?_
   rcases is h with ⟨k2,h⟩ | ⟨k2,h⟩
   ·refine cF (!k0) (nF k2) ?_
    refine sk ?_
    obtain ⟨k4,k5,h⟩ := Qdd h
    refine rs hc none [oN,oN,oN,oc (K22 k4),some (.new 32),oN] [(3,.ra 1 0),(6,.ra 3 0),(9,.ra 10 0),(11,.ra 32 0)] [(1,K1v s0),(3,.box [.nils,.nils,I 0,.nils]),(10,K21 b9),(32,K21 k4)] (cq (spec_l3Of_ih _ _ k5) K5g tv) ?_
    refine sN ?_
    refine K9m hc 3 [(3,.ra 1 0),(6,.ra 3 0),(9,.ra 10 0),(11,.ra 32 0),(176,.bool (k4.ffault != 0))] ?_
    refine ic h (fun k6 h => ?_) fun k6 h => ?_
    ·refine rs0 hc 2 [(6,.ra 3 0)] [(3,K21 k4)] ?_
     refine rt ?_
     obtain rfl := os h
     exact rq [false]
    refine sk ?_
    refine sN ?_
    obtain ⟨k7,k8,k9,l0,h⟩ := bq2 h
    refine rss hc (rx [[0],[1],[0],[0,2],[0,2,3],[5],[6]]) [oN,oN,oN,oN,some (.call (oI k7) [] 33),oc (.bool k9),oN] [(3,.ra 1 0),(6,.ra 3 0),(9,.ra 10 0),(11,.ra 32 0),(184,.bool (!k9))] (cq (Key _ _ k8) K56 (ac (Q71.args (A1 := [sI k4.fty,.sl (Q02 (List.map I k7))]) (A2 := [sI k4.fty,sI k7]) (by simp only [List.map_nil,Qe5]) (Ke9 _ _ l0)) K4o (Or.inr rfl : ([33] : List Nat) = [] ∨ noSh (.bool k9) = true) tv)) ?_
    rcases is h with ⟨l1,h⟩ | ⟨l1,h⟩
    ·refine cF (!k9) (nF l1) ?_
     refine sk ?_
     obtain ⟨l2,l3,l4,l5,l6,l7,l8,l9,h⟩ := bq4 h
     refine rs hc (rx [[0],[1],[2],[0],[0],[0,4],[0],[0,6],[0,6,7],[0,6,7,8],[3,6,7,8,9],[0],[0,11],[13],[14],[15]]) [oN,oN,some (.call (oI l2) [] 34),oN,oN,oN,oN,oN,some (.el (I l4)),oN,oc (I l6),oN,oN,some (.call (oI l8) [] 35),oN,oN] [(6,.ra 3 0)] [(3,.box [.rs 34,.rs 35,I 0,.nils]),(34,rI l2),(35,rI l8)] (cq (Key _ _ l3) K56 (ai (ix l5) (cq (Kf1 _ _ l7) K58 (cq (Kfh _ _ l9) K5m tv)))) ?_
     refine vz 34 (Qe5 l2) [(6,.ra 3 0)] [(3,.box [sI l2,.rs 35,I 0,.nils]),(35,rI l8)] ?_
     refine vz 35 (Qe5 l8) [(6,.ra 3 0)] [(3,.box [sI l2,sI l8,I 0,.nils])] ?_
     refine rt ?_
     obtain rfl := os h
     exact rq [false]
    refine cT (!k9) (nT l1) ?_
    obtain ⟨m0,m1,h⟩ := Qdd h
    refine rs hc none [some (.call (K2d m0) [] 36),oN] [(6,.ra 3 0)] [(3,.box [.rs 36,.rs 37,I m0.ffault,.rs 38]),(36,rI m0.fty),(37,rI m0.fneeds),(38,rI m0.fpath)] (cq (Kfa _ _ m1) K5i tv) ?_
    refine vz 36 (Qe5 m0.fty) [(6,.ra 3 0)] [(3,.box [sI m0.fty,.rs 37,I m0.ffault,.rs 38]),(37,rI m0.fneeds),(38,rI m0.fpath)] ?_
    refine vz 37 (Qe5 m0.fneeds) [(6,.ra 3 0)] [(3,.box [sI m0.fty,sI m0.fneeds,I m0.ffault,.rs 38]),(38,rI m0.fpath)] ?_
    refine vz 38 (Qe5 m0.fpath) [(6,.ra 3 0)] [(3,K21 m0)] ?_
    refine rt ?_
    obtain rfl := os h
    exact rq [false]
   refine cT (!k0) (nT k2) ?_
   obtain ⟨m2,m3,h⟩ := Qdd h
   refine rs hc none [some (.call (K2d m2) [] 39),oN] [(6,.ra 3 0)] [(3,.box [.rs 39,.rs 40,I m2.ffault,.rs 41]),(39,rI m2.fty),(40,rI m2.fneeds),(41,rI m2.fpath)] (cq (Kfa _ _ m3) K5i tv) ?_
   refine vz 39 (Qe5 m2.fty) [(6,.ra 3 0)] [(3,.box [sI m2.fty,.rs 40,I m2.ffault,.rs 41]),(40,rI m2.fneeds),(41,rI m2.fpath)] ?_
   refine vz 40 (Qe5 m2.fneeds) [(6,.ra 3 0)] [(3,.box [sI m2.fty,sI m2.fneeds,I m2.ffault,.rs 41]),(41,rI m2.fpath)] ?_
   refine vz 41 (Qe5 m2.fpath) [(6,.ra 3 0)] [(3,K21 m2)] ?_
   refine rt ?_
   obtain rfl := os h
   exact rq [false]
  refine sk ?_
  obtain ⟨m4,m5,h⟩ := Qdd h
  refine rs hc none [oN,oN,oN,oN,oc (K22 m4),oN] [(6,.ra 3 0)] [(3,K21 m4)] (cq (spec_l3Taken_ih _ _ m5) K5q tv) ?_
  refine rt ?_
  obtain rfl := os h
  exact rq [false]
 ·rintro spec_l3Of_f spec_l3Of_ih ⟨s0,ctx1,t2,a3⟩ r h
  refine b0 Tryz.f239 K5p 170 [(0,K1w s0),(1,sL ctx1),(2,K1y t2),(3,K22 a3)] fun c hc => ?_
  refine rs hc none [some (.new 1),some (.new 2),some (.new 3),some (.new 4)] [(1,sL ctx1),(4,.ra 1 0),(6,.ra 2 0),(7,.ra 3 0),(8,.ra 4 0)] [(1,K1v s0),(2,K1x t2),(3,K21 a3),(4,.box [.nils,.nils,I 0,.nils])] tv ?_
  obtain ⟨m6,m7,h⟩ := Qdd h
  refine rss hc none [oN,oN,some (.el (I m6)),oN,oN] [(1,sL ctx1),(4,.ra 1 0),(6,.ra 2 0),(7,.ra 3 0),(8,.ra 4 0),(9,I m6)] (ai (ix m7) tv) ?_
  refine sN ?_
  refine bk 0 ?_
  refine sN ?_
  obtain ⟨m8,m9,h⟩ := Qdd h
  refine Wp.into (x := .normal) (mkS [(1,sL ctx1),(4,.ra 1 0),(6,.ra 2 0),(7,.ra 3 0),(8,.ra 4 0),(9,I m6),(21,.bool m8)] [(1,K1v s0),(2,K1x t2),(3,K21 a3),(4,.box [.nils,.nils,I 0,.nils])]) ?_ ?_
  ·replace h := m9
   rcases is h with ⟨n0,h⟩ | ⟨n0,h⟩
   ·refine rgs hc none [oN,oN,oN,oN,oN,oN,oT,oN] [(1,sL ctx1),(4,.ra 1 0),(6,.ra 2 0),(7,.ra 3 0),(8,.ra 4 0),(9,I m6),(21,.bool (m6 != 1))] (ar 3 n0 tv) ?_
    obtain rfl := os h
    exact Qcz.mk
   refine rgs hc none [oN,oN,oN,oN,o_,o_,oF,oN] [(1,sL ctx1),(4,.ra 1 0),(6,.ra 2 0),(7,.ra 3 0),(8,.ra 4 0),(9,I m6),(21,.bool false)] (ar 2 (neT n0) (ai n0 tv)) ?_
   obtain rfl := os h
   exact Qcz.mk
  clear m9
  refine ic h (fun b6 h => ?_) fun b6 h => ?_
  ·obtain ⟨n1,n2,h⟩ := Qdd h
   refine rs hc none [some (.call (K2d n1) [] 5),oN] [(8,.ra 4 0)] [(4,.box [.rs 5,.rs 6,I n1.ffault,.rs 7]),(5,rI n1.fty),(6,rI n1.fneeds),(7,rI n1.fpath)] (cq (Kfa _ _ n2) K5i tv) ?_
   refine vz 5 (Qe5 n1.fty) [(8,.ra 4 0)] [(4,.box [sI n1.fty,.rs 6,I n1.ffault,.rs 7]),(6,rI n1.fneeds),(7,rI n1.fpath)] ?_
   refine vz 6 (Qe5 n1.fneeds) [(8,.ra 4 0)] [(4,.box [sI n1.fty,sI n1.fneeds,I n1.ffault,.rs 7]),(7,rI n1.fpath)] ?_
   refine vz 7 (Qe5 n1.fpath) [(8,.ra 4 0)] [(4,K21 n1)] ?_
   refine rt ?_
   obtain rfl := os h
   exact rq [false]
  refine sN ?_
  obtain ⟨n3,n4,h⟩ := Qdd h
  refine Wp.into (x := .normal) (mkS [(1,sL ctx1),(4,.ra 1 0),(6,.ra 2 0),(7,.ra 3 0),(8,.ra 4 0),(9,I m6),(30,.bool n3)] [(1,K1v s0),(2,K1x t2),(3,K21 a3),(4,.box [.nils,.nils,I 0,.nils])]) ?_ ?_
  ·replace h := n4
   rcases is h with ⟨n5,h⟩ | ⟨n5,h⟩
   ·refine rgs hc none [oN,oN,oN,oN,oN,oN,oT,oN] [(1,sL ctx1),(4,.ra 1 0),(6,.ra 2 0),(7,.ra 3 0),(8,.ra 4 0),(9,I m6),(30,.bool (m6 != 2))] (ar 3 n5 tv) ?_
    obtain rfl := os h
    exact Qcz.mk
   refine rgs hc none [oN,oN,oN,oN,o_,o_,oF,oN] [(1,sL ctx1),(4,.ra 1 0),(6,.ra 2 0),(7,.ra 3 0),(8,.ra 4 0),(9,I m6),(30,.bool false)] (ar 2 (neT n5) (ai n5 tv)) ?_
   obtain rfl := os h
   exact Qcz.mk
  clear n4
  refine ic h (fun n6 h => ?_) fun n6 h => ?_
  ·obtain ⟨n7,n8,h⟩ := Qdd h
   refine rs hc none [some (.call (K2d n7) [] 8),oN] [(8,.ra 4 0)] [(4,.box [.rs 8,.rs 9,I n7.ffault,.rs 10]),(8,rI n7.fty),(9,rI n7.fneeds),(10,rI n7.fpath)] (cq (Kfa _ _ n8) K5i tv) ?_
   refine vz 8 (Qe5 n7.fty) [(8,.ra 4 0)] [(4,.box [sI n7.fty,.rs 9,I n7.ffault,.rs 10]),(9,rI n7.fneeds),(10,rI n7.fpath)] ?_
   refine vz 9 (Qe5 n7.fneeds) [(8,.ra 4 0)] [(4,.box [sI n7.fty,sI n7.fneeds,I n7.ffault,.rs 10]),(10,rI n7.fpath)] ?_
   refine vz 10 (Qe5 n7.fpath) [(8,.ra 4 0)] [(4,K21 n7)] ?_
   refine rt ?_
   obtain rfl := os h
   exact rq [false]
  refine sN ?_
  obtain ⟨n9,o0,h⟩ := Qdd h
  refine Wp.into (x := .normal) (mkS [(1,sL ctx1),(4,.ra 1 0),(6,.ra 2 0),(7,.ra 3 0),(8,.ra 4 0),(9,I m6),(39,.bool n9)] [(1,K1v s0),(2,K1x t2),(3,K21 a3),(4,.box [.nils,.nils,I 0,.nils])]) ?_ ?_
  ·replace h := o0
   rcases is h with ⟨o1,h⟩ | ⟨o1,h⟩
   ·obtain ⟨o2,o3,h⟩ := Qdd h
    refine rgs hc none [oN,oN,oN,oN,oN,oc (.bool o2),oN,oT,oN] [(1,sL ctx1),(4,.ra 1 0),(6,.ra 2 0),(7,.ra 3 0),(8,.ra 4 0),(9,I m6),(39,.bool (!o2))] (ar 2 o1 (cq (Kei _ _ o3) K4y (ar 2 o1 tv))) ?_
    obtain rfl := os h
    exact Qcz.mk
   refine rgs hc none [oN,oN,oN,oN,o_,o_,o_,oF,oN] [(1,sL ctx1),(4,.ra 1 0),(6,.ra 2 0),(7,.ra 3 0),(8,.ra 4 0),(9,I m6),(39,.bool false)] (ar 3 (neT o1) (ai o1 tv)) ?_
   obtain rfl := os h
   exact Qcz.mk
  clear o0
  refine ic h (fun o4 h => ?_) fun o4 h => ?_
  ·obtain ⟨o5,o6,h⟩ := Qdd h
   refine rs hc none [some (.call (K2d o5) [] 11),oN] [(8,.ra 4 0)] [(4,.box [.rs 11,.rs 12,I o5.ffault,.rs 13]),(11,rI o5.fty),(12,rI o5.fneeds),(13,rI o5.fpath)] (cq (Kfa _ _ o6) K5i tv) ?_
   refine vz 11 (Qe5 o5.fty) [(8,.ra 4 0)] [(4,.box [sI o5.fty,.rs 12,I o5.ffault,.rs 13]),(12,rI o5.fneeds),(13,rI o5.fpath)] ?_
   refine vz 12 (Qe5 o5.fneeds) [(8,.ra 4 0)] [(4,.box [sI o5.fty,sI o5.fneeds,I o5.ffault,.rs 13]),(13,rI o5.fpath)] ?_
   refine vz 13 (Qe5 o5.fpath) [(8,.ra 4 0)] [(4,K21 o5)] ?_
   refine rt ?_
   obtain rfl := os h
   exact rq [false]
  refine sk ?_
  refine sN ?_
  obtain ⟨o7,o8,h⟩ := Qdd h
  refine rss hc none [oN,oN,oN,oc (.bool o7),oN] [(1,sL ctx1),(4,.ra 1 0),(6,.ra 2 0),(7,.ra 3 0),(8,.ra 4 0),(9,I m6),(53,.bool (!o7))] (cq (Kbu _ _ o8) K3x tv) ?_
  rcases is h with ⟨o9,h⟩ | ⟨o9,h⟩
  ·refine cF (!o7) (nF o9) ?_
   refine sk ?_
   obtain ⟨p0,p1,h⟩ := Qdd h
   refine rs hc none [oN,oN,some (.call (oI p0) [] 14),some (.mk 15 true),oN] [(1,sL ctx1),(4,.ra 1 0),(6,.ra 2 0),(7,.ra 3 0),(8,.ra 4 0),(9,I m6),(10,.rs 15)] [(1,K1v s0),(2,K1x t2),(3,K21 a3),(4,.box [.nils,.nils,I 0,.nils]),(15,.arr (List.map K10 [p0]))] (cq (Key _ _ p1) K56 tv) ?_
   refine sN ?_
   refine K9m hc 3 [(1,sL ctx1),(4,.ra 1 0),(6,.ra 2 0),(7,.ra 3 0),(8,.ra 4 0),(9,I m6),(10,.rs 15),(61,.bool (t2.fOp == 5))] ?_
   obtain ⟨p2,p3,h⟩ := Qdd h
   refine Wp.into (x := .normal) (mkS [(1,sL ctx1),(4,.ra 1 0),(6,.ra 2 0),(7,.ra 3 0),(8,.ra 4 0),(9,I m6),(10,.rs 18)] [(1,K1v s0),(2,K1x t2),(3,K21 a3),(4,.box [.nils,.nils,I 0,.nils]),(18,.arr (List.map K10 p2))]) ?_ ?_
   ·replace h := p3
    refine ic h (fun c5 h => ?_) fun c5 h => ?_
    ·obtain ⟨p4,p5,p6,p7,h⟩ := bq2 h
     refine rg hc (rx [[0],[1],[2],[0],[0,3],[5],[6],[7]]) [oN,oN,some (.call (oI p4) [] 16),oN,oN,some (.call (oI p6) [] 17),some (.mk 18 true),oN] [(1,sL ctx1),(4,.ra 1 0),(6,.ra 2 0),(7,.ra 3 0),(8,.ra 4 0),(9,I m6),(10,.rs 18)] [(1,K1v s0),(2,K1x t2),(3,K21 a3),(4,.box [.nils,.nils,I 0,.nils]),(18,.arr (List.map K10 [p4,p6]))] (cq (Key _ _ p5) K56 (cq (Key _ _ p7) K56 tv)) ?_
     obtain rfl := os h
     exact Qcz.mk
    refine sk ?_
    obtain rfl := os h
    exact iv [(18,15)]
   clear p3
   refine sN ?_
   refine vz 18 (K19 p2) [(1,sL ctx1),(4,.ra 1 0),(6,.ra 2 0),(7,.ra 3 0),(8,.ra 4 0),(9,I m6),(10,sL p2)] [(1,K1v s0),(2,K1x t2),(3,K21 a3),(4,.box [.nils,.nils,I 0,.nils])] ?_
   obtain ⟨p8,p9,q0,q1,h⟩ := bq2 h
   refine rg hc (rx [[0],[0],[0],[0,1,2],[0],[5],[0],[7]]) [oN,oN,oN,some (.call (.osl (List.map K14 p8)) [] 20),oN,some (.call (K22 q0) [.tup []] 1),some (.new 21),oN] [(1,sL ctx1),(4,.ra 1 0),(6,.ra 2 0),(7,.ra 3 0),(8,.ra 4 0),(9,I m6),(10,sL p2),(11,.ra 21 0)] [(1,K1v s0),(2,K1x t2),(3,K21 a3),(4,.box [.nils,.nils,I 0,.nils]),(21,K21 q0)] (cq (Kf4 _ _ p9) K5c (ab (Q71.args (A1 := [K1w s0,.sl (Q02 (List.map K14 p8)),K1y t2,I 1]) (A2 := [K1w s0,sL p8,K1y t2,I 1]) (by simp only [List.map_nil,K18]) (spec_l3Of_ih _ _ q1)) K5g tv)) ?_
   refine sN ?_
   refine K9m hc 3 [(1,sL ctx1),(4,.ra 1 0),(6,.ra 2 0),(7,.ra 3 0),(8,.ra 4 0),(9,I m6),(10,sL p2),(11,.ra 21 0),(77,.bool (q0.ffault != 0))] ?_
   refine ic h (fun d6 h => ?_) fun d6 h => ?_
   ·refine rs0 hc 2 [(8,.ra 4 0)] [(4,K21 q0)] ?_
    refine rt ?_
    obtain rfl := os h
    exact rq [false]
   refine sk ?_
   refine rss hc none [oN,some (.eqv (.no) ⟨[(80,I (p2.length : Int))],[],[]⟩),oN] [(1,sL ctx1),(4,.ra 1 0),(6,.ra 2 0),(7,.ra 3 0),(8,.ra 4 0),(9,I m6),(11,.ra 21 0),(12,I (p2.length : Int))] (ai (Qdj (d := 80) K14 p2) tv) ?_
   refine K9m hc 3 [(1,sL ctx1),(4,.ra 1 0),(6,.ra 2 0),(7,.ra 3 0),(8,.ra 4 0),(9,I m6),(11,.ra 21 0),(12,I (p2.length : Int)),(13,I t2.fN)] ?_
   obtain ⟨q2,q3,q4,q5,h⟩ := bq2 h
   refine rs hc none [oN,oN,oN,some (.eqv (.no) ⟨[(86,sI q2)],[],[]⟩),some (.call (oI q4) [] 22),oN] [(1,sL ctx1),(4,.ra 1 0),(6,.ra 2 0),(7,.ra 3 0),(8,.ra 4 0),(9,I m6),(11,.ra 21 0),(13,I t2.fN),(14,.rs 22)] [(1,K1v s0),(2,K1x t2),(3,K21 a3),(4,.box [.nils,.nils,I 0,.nils]),(21,K21 q0),(22,rI q4)] (ab (Qdm (d := 86) I q3) (Qdl (enc := I) (sz := 1) Qdw q3) (cq (Kev _ _ q5) K54 tv)) ?_
   refine K9m hc 1 [(1,sL ctx1),(4,.ra 1 0),(6,.ra 2 0),(7,.ra 3 0),(8,.ra 4 0),(9,I m6),(11,.ra 21 0),(13,I t2.fN),(14,.rs 22),(15,.bool true)] ?_
   refine sN ?_
   refine K9m hc 2 [(1,sL ctx1),(4,.ra 1 0),(6,.ra 2 0),(7,.ra 3 0),(8,.ra 4 0),(9,I m6),(11,.ra 21 0),(13,I t2.fN),(14,.rs 22),(15,.bool true),(89,I t2.fOp)] ?_
   refine bk 1 ?_
   refine K9m hc 2 [(1,sL ctx1),(4,.ra 1 0),(6,.ra 2 0),(7,.ra 3 0),(8,.ra 4 0),(9,I m6),(11,.ra 21 0),(13,I t2.fN),(14,.rs 22),(15,.bool true),(89,I t2.fOp),(90,.bool (t2.fOp == 12))] ?_
   obtain ⟨fl,q6,h⟩ := Qdd h
   refine flw (Kfu c s0 ctx1 t2 a3 q0 fl) ?_ (fun hF => ?_)
   ·replace h := q6
    refine ic h (fun e5 h => ?_) fun e5 h => ?_
    ·obtain ⟨q7,q8,q9,r0,h⟩ := bq2 h
     refine rgs hc (rx [[0],[0],[0,1],[0],[0,3],[5],[6]]) [oN,oN,oN,oN,oc (I q7),oc (I q9),oN] [(1,sL ctx1),(4,.ra 1 0),(6,.ra 2 0),(7,.ra 3 0),(8,.ra 4 0),(11,.ra 21 0),(13,I q9),(14,.rs 22),(15,.bool true)] (cq (Kf1 _ _ q8) K58 (cq (Kbr _ _ r0) K3v tv)) ?_
     obtain rfl := os h
     exact Qcz.mk
    refine K9m hc 2 [(1,sL ctx1),(4,.ra 1 0),(6,.ra 2 0),(7,.ra 3 0),(8,.ra 4 0),(11,.ra 21 0),(13,I t2.fN),(14,.rs 22),(15,.bool true),(89,I t2.fOp),(98,.bool (t2.fOp == 5))] ?_
    obtain ⟨fl,r1,h⟩ := Qdd h
    refine flw (Kft c s0 ctx1 t2 a3 q0 fl) ?_ (fun hF => ?_)
    ·replace h := r1
     refine ic h (fun f0 h => ?_) fun f0 h => ?_
     ·obtain ⟨r2,r3,r4,r5,h⟩ := bq2 h
      refine rgs hc Kfw [oN,oN,oN,some (.el (I r2)),oN,oN,oc (.bool r4),oN] [(1,sL ctx1),(4,.ra 1 0),(6,.ra 2 0),(7,.ra 3 0),(8,.ra 4 0),(11,.ra 21 0),(13,I t2.fN),(14,.rs 22),(15,.bool r4)] (ai (ix r3) (cq (Kbu _ _ r5) K3x tv)) ?_
      obtain rfl := os h
      exact Qcz.mk
     refine K9m hc 2 [(1,sL ctx1),(4,.ra 1 0),(6,.ra 2 0),(7,.ra 3 0),(8,.ra 4 0),(11,.ra 21 0),(13,I t2.fN),(14,.rs 22),(15,.bool true),(107,.bool (t2.fOp == 8))] ?_
     obtain ⟨fl,r6,h⟩ := Qdd h
     refine flw (Kfs c s0 ctx1 t2 a3 q0 fl) ?_ (fun hF => ?_)
     ·replace h := r6
      refine ic h (fun f5 h => ?_) fun f5 h => ?_
      ·obtain ⟨r7,r8,r9,s1,e8,e9,h⟩ := bq3 h
       refine rs hc (rx [[0],[0],[0],[0,2],[0,2,3],[0,2,3,4],[0,1,2,3,4,5],[0],[8],[0],[10]]) [oN,oN,oN,oN,some (.call (oI r7) [] 23),some (.mk 24 true),some (.call (.osl (List.map K14 r9)) [.tup []] 25),oN,some (.call (K22 e8) [.tup []] 1),some (.new 26),oN] [(1,sL ctx1),(4,.ra 1 0),(6,.ra 2 0),(7,.ra 3 0),(8,.ra 4 0),(11,.ra 21 0),(13,I t2.fN),(14,.rs 22),(16,.ra 26 0)] [(1,K1v s0),(2,K1x t2),(3,K21 a3),(4,.box [.nils,.nils,I 0,.nils]),(21,K21 q0),(22,rI q4),(26,K21 e8)] (cq (Key _ _ r8) K56 (ad (Q71.args (A1 := [sL ctx1,.sl (Q02 (List.map K10 [r7]))]) (A2 := [sL ctx1,.sl (List.map K14 [r7])]) (by simp only [List.map_nil,K19]) (Kf4 _ _ s1)) K5c (Q71.args (A1 := [K1w s0,.sl (Q02 (List.map K14 r9)),K1y t2,I 2]) (A2 := [K1w s0,sL r9,K1y t2,I 2]) (by simp only [List.map_nil,K18]) (spec_l3Of_ih _ _ e9)) K5g tv)) ?_
       refine sN ?_
       refine K9m hc 3 [(1,sL ctx1),(4,.ra 1 0),(6,.ra 2 0),(7,.ra 3 0),(8,.ra 4 0),(11,.ra 21 0),(13,I t2.fN),(14,.rs 22),(16,.ra 26 0),(120,.bool (e8.ffault != 0))] ?_
       refine ic h (fun g0 h => ?_) fun g0 h => ?_
       ·refine rs0 hc 2 [(8,.ra 4 0)] [(4,K21 e8)] ?_
        refine rt ?_
        obtain rfl := os h
        exact re [false]
       refine sk ?_
       refine sN ?_
       obtain ⟨s2,s3,h⟩ := Qdd h
       refine rss hc none [oN,oN,oN,oN,oc (.bool s2),oN] [(1,sL ctx1),(4,.ra 1 0),(6,.ra 2 0),(7,.ra 3 0),(8,.ra 4 0),(11,.ra 21 0),(13,I t2.fN),(14,.rs 22),(16,.ra 26 0),(127,.bool (!s2))] (cq (Ke9 _ _ s3) K4o tv) ?_
       rcases is h with ⟨i1,h⟩ | ⟨i1,h⟩
       ·refine cF (!s2) (nF i1) ?_
        refine sk ?_
        obtain ⟨s4,s5,s6,s7,h⟩ := bq2 h
        refine rss hc Kfw [oN,oN,oN,some (.el (I s4)),oN,oN,oc (.bool s6),oN] [(1,sL ctx1),(4,.ra 1 0),(6,.ra 2 0),(7,.ra 3 0),(8,.ra 4 0),(11,.ra 21 0),(13,I t2.fN),(14,.rs 22),(15,.bool s6),(16,.ra 26 0)] (ai (ix s5) (cq (Kbu _ _ s7) K3x tv)) ?_
        obtain ⟨s8,s9,t0,t1,h⟩ := bq2 h
        refine rg hc (rx [[0],[0],[0],[0,2],[0,2,3],[5],[6]]) [oN,oN,oN,oN,some (.eqv (.no) ⟨[(140,sI s8)],[],[]⟩),some (.call (oI t0) [] 27),oN] [(1,sL ctx1),(4,.ra 1 0),(6,.ra 2 0),(7,.ra 3 0),(8,.ra 4 0),(11,.ra 21 0),(13,I t2.fN),(14,.rs 27),(15,.bool s6)] [(1,K1v s0),(2,K1x t2),(3,K21 a3),(4,.box [.nils,.nils,I 0,.nils]),(21,K21 q0),(27,rI t0)] (ad (Qdm (d := 140) I s9) (Qdl (enc := I) (sz := 1) Qdw s9) (Q71.args (A1 := [K1w s0,.sl (Q02 (List.map I q4)),sI s8]) (A2 := [K1w s0,sI q4,sI s8]) (by simp only [List.map_nil,Qe5]) (Kfr _ _ t1)) K5u (ai (Or.inr (Qed Qe9 t0) : ([22] : List Nat) = [] ∨ noSh (oI t0) = true) tv)) ?_
        obtain rfl := os h
        exact Qcz.mk
       refine cT (!s2) (nT i1) ?_
       obtain ⟨t3,t4,h⟩ := Qdd h
       refine rs hc none [some (.call (K2d t3) [] 28),oN] [(8,.ra 4 0)] [(4,.box [.rs 28,.rs 29,I t3.ffault,.rs 30]),(28,rI t3.fty),(29,rI t3.fneeds),(30,rI t3.fpath)] (cq (Kfa _ _ t4) K5i tv) ?_
       refine vz 28 (Qe5 t3.fty) [(8,.ra 4 0)] [(4,.box [sI t3.fty,.rs 29,I t3.ffault,.rs 30]),(29,rI t3.fneeds),(30,rI t3.fpath)] ?_
       refine vz 29 (Qe5 t3.fneeds) [(8,.ra 4 0)] [(4,.box [sI t3.fty,sI t3.fneeds,I t3.ffault,.rs 30]),(30,rI t3.fpath)] ?_
       refine vz 30 (Qe5 t3.fpath) [(8,.ra 4 0)] [(4,K21 t3)] ?_
       refine rt ?_
       obtain rfl := os h
       exact re [false]
      refine sk ?_
      obtain rfl := os h
      exact iv [(27,22)]
     rcases fl with ⟨t5,t6⟩ | r
     ·refine Wp.into (x := .normal) (mkS [(1,sL ctx1),(4,.ra 1 0),(6,.ra 2 0),(7,.ra 3 0),(8,.ra 4 0),(11,.ra 21 0),(13,I t2.fN),(14,.rs 27),(15,.bool t6)] [(1,K1v s0),(2,K1x t2),(3,K21 a3),(4,.box [.nils,.nils,I 0,.nils]),(21,K21 q0),(27,rI t5)]) hF ?_
      obtain rfl := os h
      exact iv [(22,27)]
     refine Wp.mono hF ?_
     rintro _ _ ⟨rfl,hfin⟩
     obtain rfl := os h
     exact ⟨rfl,hfin⟩
    rcases fl with ⟨t7,t8⟩ | r
    ·refine Wp.into (x := .normal) (mkS [(1,sL ctx1),(4,.ra 1 0),(6,.ra 2 0),(7,.ra 3 0),(8,.ra 4 0),(11,.ra 21 0),(13,I t2.fN),(14,.rs 22),(15,.bool t8)] [(1,K1v s0),(2,K1x t2),(3,K21 a3),(4,.box [.nils,.nils,I 0,.nils]),(21,K21 q0),(22,rI t7)]) hF ?_
     obtain rfl := os h
     exact Qcz.mk
    refine Wp.mono hF ?_
    rintro _ _ ⟨rfl,hfin⟩
    obtain rfl := os h
    exact ⟨rfl,hfin⟩
   rcases fl with ⟨t9,u0,u1⟩ | r
   ·refine Wp.into (x := .normal) (mkS [(1,sL ctx1),(4,.ra 1 0),(6,.ra 2 0),(7,.ra 3 0),(8,.ra 4 0),(11,.ra 21 0),(13,I t9),(14,.rs 22),(15,.bool u1)] [(1,K1v s0),(2,K1x t2),(3,K21 a3),(4,.box [.nils,.nils,I 0,.nils]),(21,K21 q0),(22,rI u0)]) hF ?_
    refine sN ?_
    refine sN ?_
    obtain ⟨u2,u3,h⟩ := Qdd h
    refine Wp.into (x := .normal) (mkS [(1,sL ctx1),(4,.ra 1 0),(6,.ra 2 0),(7,.ra 3 0),(8,.ra 4 0),(11,.ra 21 0),(14,.rs 22),(153,.bool u2)] [(1,K1v s0),(2,K1x t2),(3,K21 a3),(4,.box [.nils,.nils,I 0,.nils]),(21,K21 q0),(22,rI u0)]) ?_ ?_
    ·replace h := u3
     rcases is h with ⟨u4,h⟩ | ⟨u4,h⟩
     ·obtain ⟨u5,u6,u7,u8,h⟩ := bq2 h
      refine rgs hc Kfx [oN,oN,oN,oN,oN,oN,some (.el (I u5)),oN,oN,oc (.bool u7),oN,oF] [(1,sL ctx1),(4,.ra 1 0),(6,.ra 2 0),(7,.ra 3 0),(8,.ra 4 0),(11,.ra 21 0),(14,.rs 22),(153,.bool (!u7))] (ar 4 (nF u4) (ai (ix u6) (ar 3 (nF u4) (cq (Kbu _ _ u8) K3x (ar 2 (nF u4) tv))))) ?_
      obtain rfl := os h
      exact Qcz.mk
     refine rgs hc Kfx [oN,oN,oN,o_,o_,o_,o_,o_,o_,o_,o_,oT] [(1,sL ctx1),(4,.ra 1 0),(6,.ra 2 0),(7,.ra 3 0),(8,.ra 4 0),(11,.ra 21 0),(14,.rs 22),(153,.bool true)] (ar 8 (neF (nT u4)) (ai (nT u4) tv)) ?_
     obtain rfl := os h
     exact Qcz.mk
    clear u3
    refine ic h (fun u9 h => ?_) fun u9 h => ?_
    ·obtain ⟨v0,v1,h⟩ := Qdd h
     refine rs hc none [some (.call (K2d v0) [] 31),oN] [(8,.ra 4 0)] [(4,.box [.rs 31,.rs 32,I v0.ffault,.rs 33]),(31,rI v0.fty),(32,rI v0.fneeds),(33,rI v0.fpath)] (cq (Kfa _ _ v1) K5i tv) ?_
     refine vz 31 (Qe5 v0.fty) [(8,.ra 4 0)] [(4,.box [sI v0.fty,.rs 32,I v0.ffault,.rs 33]),(32,rI v0.fneeds),(33,rI v0.fpath)] ?_
     refine vz 32 (Qe5 v0.fneeds) [(8,.ra 4 0)] [(4,.box [sI v0.fty,sI v0.fneeds,I v0.ffault,.rs 33]),(33,rI v0.fpath)] ?_
     refine vz 33 (Qe5 v0.fpath) [(8,.ra 4 0)] [(4,K21 v0)] ?_
     refine rt ?_
     obtain rfl := os h
     exact rq [false]
    refine sk ?_
    obtain ⟨v2,v3,v4,v5,v6,v7,h⟩ := bq3 h
    refine rs hc (rx [[0],[1],[0],[0],[0],[0,4],[0,4,5],[0],[0,7],[0],[0,9],[0,3,4,5,6,7,8,9,10],[0],[0,2,3,4,5,6,7,8,9,10,11,12],[14],[15]]) [oN,oN,oN,oN,oN,some (.eqv (.no) ⟨[(160,I (ctx1.length : Int))],[],[]⟩),some (.call (oI v2) [] 34),oN,oN,oN,oN,some (.call (oI v4) [] 35),oN,some (.call (oI v6) [] 36),oN,oN] [(8,.ra 4 0)] [(4,.box [sI q0.fty,.rs 36,I 0,.nils]),(36,rI v6)] (ai (Qdj (d := 160) K14 ctx1) (cq (Kf7 _ _ v3) K5e (ad (Q71.args (A1 := [K1w s0,.sl (Q02 (List.map I v2)),I t2.fN,sI a3.fneeds]) (A2 := [K1w s0,sI v2,I t2.fN,sI a3.fneeds]) (by simp only [List.map_nil,Qe5]) (Kfh _ _ v5)) K5m (Or.inr (Qed Qe9 v4) : ([34] : List Nat) = [] ∨ noSh (oI v4) = true) (Q71.args (A1 := [K1w s0,.sl (Q02 (List.map I v4)),I 1,.sl (Q02 (List.map I u0))]) (A2 := [K1w s0,sI v4,I 1,sI u0]) (by simp only [List.map_nil,Qe5]) (Kfh _ _ v7)) (ab K5m (Or.inr (Qed Qe9 v6) : ([35,22] : List Nat) = [] ∨ noSh (oI v6) = true) tv)))) ?_
    refine vz 36 (Qe5 v6) [(8,.ra 4 0)] [(4,.box [sI q0.fty,sI v6,I 0,.nils])] ?_
    refine rt ?_
    obtain rfl := os h
    exact rq [false]
   refine Wp.mono hF ?_
   rintro _ _ ⟨rfl,hfin⟩
   obtain rfl := os h
   exact ⟨.inl rfl,hfin⟩
  refine cT (!o7) (nT o9) ?_
  obtain ⟨v8,v9,h⟩ := Qdd h
  refine rs hc none [some (.call (K2d v8) [] 37),oN] [(8,.ra 4 0)] [(4,.box [.rs 37,.rs 38,I v8.ffault,.rs 39]),(37,rI v8.fty),(38,rI v8.fneeds),(39,rI v8.fpath)] (cq (Kfa _ _ v9) K5i tv) ?_
  refine vz 37 (Qe5 v8.fty) [(8,.ra 4 0)] [(4,.box [sI v8.fty,.rs 38,I v8.ffault,.rs 39]),(38,rI v8.fneeds),(39,rI v8.fpath)] ?_
  refine vz 38 (Qe5 v8.fneeds) [(8,.ra 4 0)] [(4,.box [sI v8.fty,sI v8.fneeds,I v8.ffault,.rs 39]),(39,rI v8.fpath)] ?_
  refine vz 39 (Qe5 v8.fpath) [(8,.ra 4 0)] [(4,K21 v8)] ?_
  refine rt ?_
  obtain rfl := os h
  exact rq [false]
 ·rintro spec_l3Tell_f spec_l3Tell_ih ⟨s0,ctx1,t2,k3⟩ r h
  refine b0 Tryz.f234 K5f 28 [(0,K1w s0),(1,sL ctx1),(2,K1y t2),(3,I k3)] fun c hc => ?_
  refine rs hc none [some (.new 1),some (.new 2),some (.new 3)] [(1,sL ctx1),(3,I k3),(4,.ra 1 0),(6,.ra 2 0),(8,.ra 3 0)] [(1,K1v s0),(2,K1x t2),(3,.box [.nils,.nils,I 0,.nils])] tv ?_
  obtain ⟨w0,w1,w2,w3,h⟩ := bq2 h
  refine rs hc (rx [[0],[0],[0],[0,2],[0],[0,2,3,4],[0,2,3,4,5],[7],[0],[9]]) [oN,oN,oN,oN,oN,some (.el (K1y w0)),oN,oc (K22 w2),some (.new 4),oN] [(3,I k3),(8,.ra 3 0),(9,.ra 4 0)] [(3,.box [.nils,.nils,I 0,.nils]),(4,K21 w2)] (ai (Qdh w1 (K0o w0)) (cq (spec_l3Tell_ih _ _ w3) K5s tv)) ?_
  refine sN ?_
  refine K9m hc 3 [(3,I k3),(8,.ra 3 0),(9,.ra 4 0),(20,.bool (w2.ffault != 0))] ?_
  obtain ⟨w4,w5,h⟩ := Qdd h
  refine Wp.into (x := .normal) (mkS [(8,.ra 3 0),(9,.ra 4 0)] [(3,.box [.nils,.nils,I 0,.nils]),(4,.box [sI w2.fty,sI w2.fneeds,I w2.ffault,sI w4])]) ?_ ?_
  ·replace h := w5
   refine ic h (fun a0 h => ?_) fun a0 h => ?_
   ·obtain ⟨_,w6,h⟩ := Qdd h
    refine rg hc none [oN,some (.mk 5 true),oN,oN,some (.eqv (.mk 6 true) ⟨[(25,.rs 6)],[(6,some (rI ([k3] ++ w2.fpath))),(5,none)],[6]⟩),oN,oN] [(8,.ra 3 0),(9,.ra 4 0)] [(3,.box [.nils,.nils,I 0,.nils]),(4,.box [sI w2.fty,sI w2.fneeds,I w2.ffault,.rs 6]),(6,rI ([k3] ++ w2.fpath))] (ab (congrArg (fun z => (⟨[(25,.rs 6)],[(6,some (.arr z)),(5,none)],[6]⟩ : Wr)) ((List.map_append).symm : (List.map I [k3]) ++ (List.map I w2.fpath) = List.map I ([k3] ++ w2.fpath))) (Qdr (enc1 := I) (enc2 := I) (e1 := [k3]) (e2 := w2.fpath) (sz := 1) Qe0 Qe0 w6) tv) ?_
    obtain rfl := os h
    exact Qcz.view (fun a w hv => SRx.renL [] (SRx.frzC 6 (xs := List.map I ([k3] ++ w2.fpath)) (xs' := List.map I ([k3] ++ w2.fpath)) hv (by kernel_rfl) (Qe5 _)) (by kernel_rfl) (by kernel_rfl) (by kernel_rfl))
   refine sk ?_
   obtain rfl := os h
   exact iv []
  clear w5
  refine rs0 hc 2 [(8,.ra 3 0)] [(3,.box [sI w2.fty,sI w2.fneeds,I w2.ffault,sI w4])] ?_
  refine rt ?_
  obtain rfl := os h
  exact rq [false]
 ·rintro spec_l3Of_f spec_l3Of_ih ⟨s0,ctx1,t2,a3⟩ r h
  refine b0 Tryz.f236 K5j 65 [(0,K1w s0),(1,sL ctx1),(2,K1y t2),(3,K22 a3)] fun c hc => ?_
  refine rs hc none [some (.new 1),some (.new 2),some (.new 3),some (.new 4)] [(1,sL ctx1),(4,.ra 1 0),(6,.ra 2 0),(7,.ra 3 0),(8,.ra 4 0)] [(1,K1v s0),(2,K1x t2),(3,K21 a3),(4,.box [.nils,.nils,I 0,.nils])] tv ?_
  obtain ⟨w7,w8,h⟩ := Qdd h
  refine rs hc none [oN,oN,oN,oc (K22 w7),some (.new 5),oN] [(1,sL ctx1),(4,.ra 1 0),(6,.ra 2 0),(7,.ra 3 0),(8,.ra 4 0),(9,.ra 5 0)] [(1,K1v s0),(2,K1x t2),(3,K21 a3),(4,.box [.nils,.nils,I 0,.nils]),(5,K21 w7)] (cq (spec_l3Of_ih _ _ w8) K5g tv) ?_
  refine sN ?_
  refine K9m hc 3 [(1,sL ctx1),(4,.ra 1 0),(6,.ra 2 0),(7,.ra 3 0),(8,.ra 4 0),(9,.ra 5 0),(17,.bool (w7.ffault != 0))] ?_
  refine ic h (fun a0 h => ?_) fun a0 h => ?_
  ·refine rs0 hc 2 [(8,.ra 4 0)] [(4,K21 w7)] ?_
   refine rt ?_
   obtain rfl := os h
   exact rq [false]
  refine sk ?_
  refine sN ?_
  refine K9m hc 3 [(1,sL ctx1),(4,.ra 1 0),(6,.ra 2 0),(7,.ra 3 0),(8,.ra 4 0),(9,.ra 5 0),(21,.bool (t2.fOp == 2))] ?_
  refine ic h (fun b1 h => ?_) fun b1 h => ?_
  ·refine sN ?_
   obtain ⟨w9,x0,h⟩ := Qdd h
   refine rs hc none [oN,oN,some (.el (I w9)),oN,oN] [(4,.ra 1 0),(7,.ra 3 0),(8,.ra 4 0),(9,.ra 5 0),(26,.bool (w9 != 0))] [(1,K1v s0),(3,K21 a3),(4,.box [.nils,.nils,I 0,.nils]),(5,K21 w7)] (ai (ix x0) tv) ?_
   refine ic h (fun b6 h => ?_) fun b6 h => ?_
   ·obtain ⟨x1,x2,h⟩ := Qdd h
    refine rs hc none [some (.call (K2d x1) [] 6),oN] [(8,.ra 4 0)] [(4,.box [.rs 6,.rs 7,I x1.ffault,.rs 8]),(6,rI x1.fty),(7,rI x1.fneeds),(8,rI x1.fpath)] (cq (Kfa _ _ x2) K5i tv) ?_
    refine vz 6 (Qe5 x1.fty) [(8,.ra 4 0)] [(4,.box [sI x1.fty,.rs 7,I x1.ffault,.rs 8]),(7,rI x1.fneeds),(8,rI x1.fpath)] ?_
    refine vz 7 (Qe5 x1.fneeds) [(8,.ra 4 0)] [(4,.box [sI x1.fty,sI x1.fneeds,I x1.ffault,.rs 8]),(8,rI x1.fpath)] ?_
    refine vz 8 (Qe5 x1.fpath) [(8,.ra 4 0)] [(4,K21 x1)] ?_
    refine rt ?_
    obtain rfl := os h
    exact rq [false]
   refine sk ?_
   obtain ⟨x3,x4,h⟩ := Qdd h
   refine rs hc (rx [[0],[1],[0],[0],[0,3],[0],[0,5],[0,2,3,4,5,6],[8],[9]]) [oN,oN,oN,oN,oN,oN,oN,some (.call (oI x3) [] 9),oN,oN] [(8,.ra 4 0)] [(4,.box [sI w7.fty,.rs 9,I 0,.nils]),(9,rI x3)] (cq (Kfh _ _ x4) K5m tv) ?_
   refine vz 9 (Qe5 x3) [(8,.ra 4 0)] [(4,.box [sI w7.fty,sI x3,I 0,.nils])] ?_
   refine rt ?_
   obtain rfl := os h
   exact rq [false]
  refine sk ?_
  obtain ⟨o7,o8,h⟩ := Qdd h
  refine rs hc none [oN,oN,oN,oc (K22 o7),some (.new 10),oN] [(4,.ra 1 0),(7,.ra 3 0),(8,.ra 4 0),(9,.ra 5 0),(10,.ra 10 0)] [(1,K1v s0),(3,K21 a3),(4,.box [.nils,.nils,I 0,.nils]),(5,K21 w7),(10,K21 o7)] (cq (spec_l3Of_ih _ _ o8) K5g tv) ?_
  refine sN ?_
  refine K9m hc 3 [(4,.ra 1 0),(7,.ra 3 0),(8,.ra 4 0),(9,.ra 5 0),(10,.ra 10 0),(43,.bool (o7.ffault != 0))] ?_
  refine ic h (fun x5 h => ?_) fun x5 h => ?_
  ·refine rs0 hc 2 [(8,.ra 4 0)] [(4,K21 o7)] ?_
   refine rt ?_
   obtain rfl := os h
   exact rq [false]
  refine sk ?_
  refine sN ?_
  obtain ⟨x6,x7,h⟩ := Qdd h
  refine rss hc none [oN,oN,oN,oN,oc (.bool x6),oN] [(4,.ra 1 0),(7,.ra 3 0),(8,.ra 4 0),(9,.ra 5 0),(10,.ra 10 0),(50,.bool (!x6))] (cq (Ke9 _ _ x7) K4o tv) ?_
  rcases is h with ⟨x8,h⟩ | ⟨x8,h⟩
  ·refine cF (!x6) (nF x8) ?_
   refine sk ?_
   obtain ⟨x9,y0,y1,y2,h⟩ := bq2 h
   refine rs hc (rx [[0],[1],[0],[0],[0,3],[0],[0],[0,6],[0],[0,8],[0,5,6,7,8,9],[0,2,3,4,5,6,7,8,9,10],[12],[13]]) [oN,oN,oN,oN,oN,oN,oN,oN,oN,oN,some (.call (oI x9) [] 11),some (.call (oI y1) [] 12),oN,oN] [(8,.ra 4 0)] [(4,.box [sI w7.fty,.rs 12,I 0,.nils]),(12,rI y1)] (cq (Kfr _ _ y0) K5u (ac (Q71.args (A1 := [K1w s0,sI a3.fneeds,I 1,.sl (Q02 (List.map I x9))]) (A2 := [K1w s0,sI a3.fneeds,I 1,sI x9]) (by simp only [List.map_nil,Qe5]) (Kfh _ _ y2)) K5m (Or.inr (Qed Qe9 y1) : ([11] : List Nat) = [] ∨ noSh (oI y1) = true) tv)) ?_
   refine vz 12 (Qe5 y1) [(8,.ra 4 0)] [(4,.box [sI w7.fty,sI y1,I 0,.nils])] ?_
   refine rt ?_
   obtain rfl := os h
   exact rq [false]
  refine cT (!x6) (nT x8) ?_
  obtain ⟨y3,y4,h⟩ := Qdd h
  refine rs hc none [some (.call (K2d y3) [] 13),oN] [(8,.ra 4 0)] [(4,.box [.rs 13,.rs 14,I y3.ffault,.rs 15]),(13,rI y3.fty),(14,rI y3.fneeds),(15,rI y3.fpath)] (cq (Kfa _ _ y4) K5i tv) ?_
  refine vz 13 (Qe5 y3.fty) [(8,.ra 4 0)] [(4,.box [sI y3.fty,.rs 14,I y3.ffault,.rs 15]),(14,rI y3.fneeds),(15,rI y3.fpath)] ?_
  refine vz 14 (Qe5 y3.fneeds) [(8,.ra 4 0)] [(4,.box [sI y3.fty,sI y3.fneeds,I y3.ffault,.rs 15]),(15,rI y3.fpath)] ?_
  refine vz 15 (Qe5 y3.fpath) [(8,.ra 4 0)] [(4,K21 y3)] ?_
  refine rt ?_
  obtain rfl := os h
  exact rq [false]
theorem Kg7 : ∀ p r,Kfy p = some r → Kg2 p r := Kg6.1
theorem Kg8 : ∀ p r,Kfz p = some r → Kg3 p r := Kg6.2.1
theorem Kg9 : ∀ p r,Kg0 p = some r → Kg4 p r := Kg6.2.2.1
theorem Kga : ∀ p r,Kg1 p = some r → Kg5 p r := Kg6.2.2.2
def Kgb (p : K00 × LL × K01 × Int) : Option (Int) :=
 match p with
 | (s0,ctx1,t2,i3) =>
  (Kfy (s0,ctx1,t2)) >>= fun a0 =>
  if (a0.ffault != 0) = true then
  some 0
  else
  (idx a0.fneeds i3) >>= fun a1 =>
  some a1
def Kgc (p : K00 × LL × K01 × Int) (r : Int) : Prop :=
 match p with
 | (s0,ctx1,t2,i3) => Q71 Tryz.prog 141 [K1w s0,sL ctx1,K1y t2,I i3] (I r) []
theorem Kgd : ∀ p r,Kgb p = some r → Kgc p r := by
 rintro ⟨s0,ctx1,t2,i3⟩ r h
 unfold Kgb at h
 refine b0 Tryz.f141 K5v 22 [(0,K1w s0),(1,sL ctx1),(2,K1y t2),(3,I i3)] fun c hc => ?_
 refine rs hc none [some (.new 1),some (.new 2),oN] [(1,sL ctx1),(3,I i3),(4,.ra 1 0),(6,.ra 2 0)] [(1,K1v s0),(2,K1x t2)] tv ?_
 obtain ⟨a0,a1,h⟩ := Qdd h
 refine rs hc none [oN,oN,oN,oc (K22 a0),some (.new 3),oN] [(3,I i3),(9,.ra 3 0)] [(3,K21 a0)] (cq (Kg7 _ _ a1) K5s tv) ?_
 refine sN ?_
 refine K9m hc 3 [(3,I i3),(9,.ra 3 0),(16,.bool (a0.ffault != 0))] ?_
 refine ic h (fun a2 h => ?_) fun a2 h => ?_
 ·refine rs0 hc 1 [(8,I 0)] [] ?_
  refine rt ?_
  obtain rfl := os h
  exact rq [true]
 refine sk ?_
 obtain ⟨a3,a4,h⟩ := Qdd h
 refine rs hc none [oN,oN,oN,some (.el (I a3)),oN,oN] [(8,I a3)] [] (ai (ix a4) tv) ?_
 refine rt ?_
 obtain rfl := os h
 exact rq [true]
def Kge (c : Ctx) (c0 : K02) (s1 : K00) (g2 : Int) : ((List Int) × Int × Int) ⊕ ((Int × K02)) → Exit → Q0a → Prop
 | .inl (a0,a1,a2) => Qcz c (.exit 0) (mkS [(2,I g2)] [(1000,.box [.sl (List.map U8 a0),I a1,I a2])])
 | .inr r => Qdb TIx Tryz.f140 [.optr [.sl (List.map U8 c0.fb),I c0.fi,I c0.fh],K1w s1,I g2] (I r.1,[.optr [.sl (List.map U8 r.2.fb),I r.2.fi,I r.2.fh],.undef,.undef])
def Kgf (p : K02 × K00 × Int × (List Int) × Int × Int × Int) : Option (((List Int) × Int × Int) ⊕ ((Int × K02))) :=
 match p with
 | (c0,s1,g2,a0,a1,a2,a3) =>
  ((
  if (decide (a3 < 3)) = true then
  (Kaa ((K02.mk a0 a1 a2),3)) >>= fun (a4,a5) =>
  some ((a5.fb,a5.fi,a5.fh,a4))
  else
  some ((a0,a1,a2,false))
  ) : Option ((List Int) × Int × Int × Bool)) >>= fun (a6,a7,a8,a9) =>
  if a9 = true then
  (Ka7 ((K02.mk a6 a7 a8),s1.fSize)) >>= fun (b1,b2) =>
  (Kbs (s1,g2,b1)) >>= fun b3 =>
  if b3 = true then
  some (.inr (b1,b2))
  else
  Kgf (c0,s1,g2,b2.fb,b2.fi,b2.fh,(wr (a3 + 1)))
  else
  some (.inl (a6,a7,a8))
 partial_fixpoint
def Kgg (p : K02 × K00 × Int × (List Int) × Int × Int × Int) (fl : ((List Int) × Int × Int) ⊕ ((Int × K02))) : Prop :=
 match p with
 | (c0,s1,g2,a0,a1,a2,a3) => ∀ c : Ctx,c.nt = 36 → WpL Tryz.prog c (cl (cl (cr (cl (cr (cr K5x)))))) (Kge c c0 s1 g2 fl) (mkS [(0,.ra 1000 0),(2,I g2),(4,.ra 1 0),(7,I a3)] [(1,K1v s1),(1000,.box [.sl (List.map U8 a0),I a1,I a2])])
theorem Kgh : ∀ p r,Kgf p = some r → Kgg p r := by
 refine Kgf.partial_correctness Kgg ?_
 rintro spec_dAbove_l0_f spec_dAbove_l0_ih ⟨c0,s1,g2,a0,a1,a2,a3⟩ r h
 intro c hc
 refine WpL.step ?_
 refine sN ?_
 refine sN ?_
 obtain ⟨⟨a4,a5,a6,a7⟩,a8,h⟩ := Qdd h
 refine Wp.into (x := .normal) (mkS [(0,.ra 1000 0),(2,I g2),(4,.ra 1 0),(7,I a3),(23,.bool a7)] [(1,K1v s1),(1000,.box [.sl (List.map U8 a4),I a5,I a6])]) ?_ ?_
 ·replace h := a8
  rcases is h with ⟨a9,h⟩ | ⟨a9,h⟩
  ·obtain ⟨⟨b1,b2⟩,b3,h⟩ := Qdd h
   refine rg hc none [oN,oN,oN,oN,some (.call (.bool b1) [.optr [.sl (List.map U8 b2.fb),I b2.fi,I b2.fh],.undef] 1),oT] [(0,.ra 1000 0),(2,I g2),(4,.ra 1 0),(7,I a3),(23,.bool b1)] [(1,K1v s1),(1000,K1z b2)] (ar 2 a9 (ac (Kac _ _ b3) K3e a9 tv)) ?_
   obtain ⟨rfl,hq0⟩ := Prod.mk.inj (Option.some.inj h)
   obtain ⟨rfl,hq1⟩ := Prod.mk.inj (hq0)
   obtain ⟨rfl,rfl⟩ := Prod.mk.inj (hq1)
   exact Qcz.mk
  refine rgs hc none [oN,oN,oN,o_,o_,oF] [(0,.ra 1000 0),(2,I g2),(4,.ra 1 0),(7,I a3),(23,.bool false)] (ar 2 (neT a9) (ai a9 tv)) ?_
  obtain ⟨rfl,hq0⟩ := Prod.mk.inj (Option.some.inj h)
  obtain ⟨rfl,hq1⟩ := Prod.mk.inj (hq0)
  obtain ⟨rfl,rfl⟩ := Prod.mk.inj (hq1)
  exact Qcz.mk
 clear a8
 refine ic h (fun b4 h => ?_) fun b4 h => ?_
 ·refine sk ?_
  refine sN ?_
  refine bk 1 ?_
  obtain ⟨⟨b5,b6⟩,b7,h⟩ := Qdd h
  refine rs hc none [oN,oN,oN,some (.call (I b5) [.optr [.sl (List.map U8 b6.fb),I b6.fi,I b6.fh],.undef] 1),oN] [(0,.ra 1000 0),(2,I g2),(4,.ra 1 0),(7,I a3),(8,I b5)] [(1,K1v s1),(1000,K1z b6)] (ab (Ka9 _ _ b7) K3d tv) ?_
  obtain ⟨b8,b9,h⟩ := Qdd h
  refine rss hc none [oN,oN,oN,oc (.bool b8)] [(0,.ra 1000 0),(2,I g2),(4,.ra 1 0),(7,I a3),(8,I b5),(33,.bool b8)] (cq (Kbu _ _ b9) K3x tv) ?_
  refine ic h (fun c1 h => ?_) fun c1 h => ?_
  ·refine rs0 hc 2 [(6,I b5)] [(1000,K1z b6)] ?_
   refine rt ?_
   obtain rfl := os h
   exact Qdb.ret (fl := [true]) (by kernel_rfl)
  refine sk ?_
  refine K9l hc 3 [(0,.ra 1000 0),(2,I g2),(4,.ra 1 0),(7,I (wr (a3 + 1)))] ?_
  refine Qcv ?_
  exact (spec_dAbove_l0_ih _ _ h c hc)
 refine xt 0 ?_
 refine Qcp ?_
 refine Qcw ?_
 obtain rfl := os h
 exact iv []
def Kgi (p : K02 × K00 × Int) : Option (Int × K02) :=
 match p with
 | (c0,s1,g2) =>
  ((
  if (decide (g2 < 0)) = true then
   some (true)
  else
   some ((decide (g2 ≥ s1.fSize)))
  ) : Option (Bool)) >>= fun a0 =>
  if a0 = true then
  some (g2,c0)
  else
  (Kgf (c0,s1,g2,c0.fb,c0.fi,c0.fh,0)) >>= fun fl => match fl with
  | .inl (a1,a2,a3) =>
   some (g2,(K02.mk a1 a2 a3))
  | .inr r =>
   some r
def Kgj (p : K02 × K00 × Int) (r : Int × K02) : Prop :=
 match p with
 | (c0,s1,g2) => Q71 Tryz.prog 140 [.optr [.sl (List.map U8 c0.fb),I c0.fi,I c0.fh],K1w s1,I g2] (I r.1) [.optr [.sl (List.map U8 r.2.fb),I r.2.fi,I r.2.fh],.undef,.undef]
theorem Kgk : ∀ p r,Kgi p = some r → Kgj p r := by
 rintro ⟨c0,s1,g2⟩ r h
 unfold Kgi at h
 refine Q71.bodyO K34 (fn := Tryz.f140) (code := K5x) (by kernel_rfl) (by kernel_rfl) (by kernel_rfl) (nt := 36) (by kernel_rfl) (by kernel_rfl) (T := [(0,.ra 1000 0),(1,K1w s1),(2,I g2)]) (O := [(1000,K1z c0)]) (by kernel_rfl) (by kernel_rfl) (fun c hc => ?_)
 refine rs hc none [some (.new 1),oN] [(0,.ra 1000 0),(2,I g2),(4,.ra 1 0)] [(1,K1v s1),(1000,K1z c0)] tv ?_
 refine sN ?_
 refine sN ?_
 obtain ⟨a0,a1,h⟩ := Qdd h
 refine Wp.into (x := .normal) (mkS [(0,.ra 1000 0),(2,I g2),(4,.ra 1 0),(16,.bool a0)] [(1,K1v s1),(1000,K1z c0)]) ?_ ?_
 ·replace h := a1
  rcases is h with ⟨a2,h⟩ | ⟨a2,h⟩
  ·refine rgs hc none [oN,oN,oN,o_,o_,o_,o_,oT] [(0,.ra 1000 0),(2,I g2),(4,.ra 1 0),(16,.bool true)] (ar 4 (neF a2) (ai a2 tv)) ?_
   obtain rfl := os h
   exact Qcz.mk
  refine rgs hc none [oN,oN,oN,oN,oN,oN,oN,oF] [(0,.ra 1000 0),(2,I g2),(4,.ra 1 0),(16,.bool (decide (g2 ≥ s1.fSize)))] (ar 5 a2 tv) ?_
  obtain rfl := os h
  exact Qcz.mk
 clear a1
 refine ic h (fun a3 h => ?_) fun a3 h => ?_
 ·refine rs0 hc 2 [(6,I g2)] [(1000,K1z c0)] ?_
  refine rt ?_
  obtain rfl := os h
  exact Qda.ret (fl := [true]) (by kernel_rfl)
 refine sk ?_
 refine sN ?_
 refine K9m hc 1 [(0,.ra 1000 0),(2,I g2),(4,.ra 1 0),(7,I 0)] ?_
 refine bk 0 ?_
 obtain ⟨fl,a4,h⟩ := Qdd h
 have hL := Kgh _ _ a4 c hc
 refine lp ?_
 rcases fl with ⟨a5,a6,a7⟩ | r
 ·refine WpL.into (e := (.exit 0)) (mkS [(2,I g2)] [(1000,.box [.sl (List.map U8 a5),I a6,I a7])]) hL ?_
  refine Qcr ?_
  refine K9m hc 2 [(6,I g2)] ?_
  refine rt ?_
  obtain rfl := os h
  exact Qda.ret (fl := [true]) (by kernel_rfl)
 refine WpL.mono hL ?_
 rintro _ _ ⟨rfl,hfin⟩
 obtain rfl := os h
 exact ⟨.inl rfl,hfin⟩
def Kgl (p : Int × Int) : Option (Int) :=
 match p with
 | (op0,kid1) =>
  ((
  if (op0 == 5) = true then
  some ((kid1 == 1))
  else
  some (false)
  ) : Option (Bool)) >>= fun a0 =>
  if a0 = true then
  some 2
  else
  ((
  if (op0 == 8) = true then
  if (decide (kid1 > 0)) = true then
  some (true)
  else
  if (op0 == 9) = true then
  some (true)
  else
  if (op0 == 12) = true then
  some ((kid1 == 1))
  else
  some (false)
  else
  if (op0 == 9) = true then
  some (true)
  else
  if (op0 == 12) = true then
  some ((kid1 == 1))
  else
  some (false)
  ) : Option (Bool)) >>= fun a1 =>
  if a1 = true then
  some 1
  else
  some 0
def Kgm (p : Int × Int) (r : Int) : Prop :=
 match p with
 | (op0,kid1) => Q71 Tryz.prog 191 [I op0,I kid1] (I r) []
theorem Kgn : ∀ p r,Kgl p = some r → Kgm p r := by
 rintro ⟨op0,kid1⟩ r h
 unfold Kgl at h
 refine b0 Tryz.f191 K5z 31 [(0,I op0),(1,I kid1)] fun c hc => ?_
 refine rs0 hc 1 [(0,I op0),(1,I kid1)] [] ?_
 refine sN ?_
 refine bk 0 ?_
 refine sN ?_
 obtain ⟨a0,a1,h⟩ := Qdd h
 refine Wp.into (x := .normal) (mkS [(0,I op0),(1,I kid1),(5,.bool a0)] []) ?_ ?_
 ·replace h := a1
  rcases is h with ⟨a2,h⟩ | ⟨a2,h⟩
  ·refine rg hc none [oN,oN,oN,oN,oN,oT,oN] [(0,I op0),(1,I kid1),(5,.bool (kid1 == 1))] [] (ar 3 a2 tv) ?_
   obtain rfl := os h
   exact Qcz.mk
  refine rg hc none [oN,oN,oN,o_,o_,oF,oN] [(0,I op0),(1,I kid1),(5,.bool false)] [] (ar 2 (neT a2) (ai a2 tv)) ?_
  obtain rfl := os h
  exact Qcz.mk
 clear a1
 refine ic h (fun a3 h => ?_) fun a3 h => ?_
 ·refine rs0 hc 1 [(4,I 2)] [] ?_
  refine rt ?_
  obtain rfl := os h
  exact rq [true]
 refine sN ?_
 obtain ⟨a4,a5,h⟩ := Qdd h
 refine Wp.into (x := .normal) (mkS [(12,.bool a4)] []) ?_ ?_
 ·replace h := a5
  rcases is h with ⟨a6,h⟩ | ⟨a6,h⟩
  ·rcases is h with ⟨a7,h⟩ | ⟨a7,h⟩
   ·refine rg hc none [oN,oN,oN,oN,oN,oT,oN,o_,o_,oT,oN,o_,o_,o_,o_,o_,o_,oT,oN] [(12,.bool true)] [] (ar 3 a6 (ar 2 (neF a7) (ai a7 (ar 4 nf (ai tt tv))))) ?_
    obtain rfl := os h
    exact Qcz.mk
   rcases is h with ⟨a8,h⟩ | ⟨a8,h⟩
   ·refine rg hc none [oN,oN,oN,oN,oN,oT,oN,oN,oN,oF,oN,o_,o_,o_,o_,o_,o_,oT,oN] [(12,.bool true)] [] (ar 3 a6 (ar 3 a7 (ar 4 (neF a8) (ai a8 tv)))) ?_
    obtain rfl := os h
    exact Qcz.mk
   rcases is h with ⟨a9,h⟩ | ⟨a9,h⟩
   ·refine rg hc none [oN,oN,oN,oN,oN,oT,oN,oN,oN,oF,oN,oN,oN,oN,oN,oN,oT,oF,oN] [(12,.bool (kid1 == 1))] [] (ar 3 a6 (ar 3 a7 (ar 3 a8 (ar 2 a9 (ac a8 a9 a8 tv))))) ?_
    obtain rfl := os h
    exact Qcz.mk
   refine rg hc none [oN,oN,oN,oN,oN,oT,oN,oN,oN,oF,oN,oN,oN,oN,o_,o_,oF,oF,oN] [(12,.bool false)] [] (ar 3 a6 (ar 3 a7 (ar 3 a8 (ar 2 (neT a9) (ac a8 a9 a8 tv))))) ?_
   obtain rfl := os h
   exact Qcz.mk
  rcases is h with ⟨a7,h⟩ | ⟨a7,h⟩
  ·refine rg hc none [oN,oN,oN,o_,o_,oF,oN,oN,oN,oF,oN,o_,o_,o_,o_,o_,o_,oT,oN] [(12,.bool true)] [] (ar 2 (neT a6) (ai a6 (ar 3 (rfl : false = false) (ar 4 (neF a7) (ai a7 tv))))) ?_
   obtain rfl := os h
   exact Qcz.mk
  rcases is h with ⟨a8,h⟩ | ⟨a8,h⟩
  ·refine rg hc none [oN,oN,oN,o_,o_,oF,oN,oN,oN,oF,oN,oN,oN,oN,oN,oN,oT,oF,oN] [(12,.bool (kid1 == 1))] [] (ar 2 (neT a6) (ai a6 (ar 3 (rfl : false = false) (ar 3 a7 (ar 2 a8 (ac a7 a8 a7 tv)))))) ?_
   obtain rfl := os h
   exact Qcz.mk
  refine rg hc none [oN,oN,oN,o_,o_,oF,oN,oN,oN,oF,oN,oN,oN,oN,o_,o_,oF,oF,oN] [(12,.bool false)] [] (ar 2 (neT a6) (ai a6 (ar 3 (rfl : false = false) (ar 3 a7 (ar 2 (neT a8) (ac a7 a8 a7 tv)))))) ?_
  obtain rfl := os h
  exact Qcz.mk
 clear a5
 refine ic h (fun b1 h => ?_) fun b1 h => ?_
 ·refine rs0 hc 1 [(4,I 1)] [] ?_
  refine rt ?_
  obtain rfl := os h
  exact rq [true]
 refine sk ?_
 refine rs0 hc 1 [(4,I 0)] [] ?_
 refine rt ?_
 obtain rfl := os h
 exact rq [true]
def Kgo (c : Ctx) (t0 : K01) (a0 : List Int) (a1 : Int) : (List K01) → Exit → Q0a → Prop
 | a2 => Qcz c (.exit 0) (mkS [(6,.ra 2 0),(7,.ra 4 0)] [(2,.box [I 0,I 0,.nils,.nils]),(3,rI a0),(4,.box [I t0.fOp,I a1,.rs 3,.rs 9]),(9,.arr (List.map K0k a2))])
mutual
def Kgp (p : K01 × Int × Int) : Option (K01) :=
 match p with
 | (t0,by1,from2) =>
  (Ket t0.fType) >>= fun a0 =>
  ((
  if (t0.fOp == 0) = true then
  some ((decide (t0.fN ≥ from2)))
  else
  some (false)
  ) : Option (Bool)) >>= fun a1 =>
  ((
  if a1 = true then
  some ((wr (t0.fN + by1)))
  else
  some (t0.fN)
  ) : Option (Int)) >>= fun a2 =>
  (Kgq (t0,by1,from2,a0,a2,[],0)) >>= fun a3 =>
  some (K01.mk t0.fOp a2 a0 a3)
 partial_fixpoint
def Kgq (p : K01 × Int × Int × (List Int) × Int × (List K01) × Int) : Option ((List K01)) :=
 match p with
 | (t0,by1,from2,a0,a1,a2,a3) =>
  if (decide (a3 < (t0.fKids.length : Int))) = true then
  (idx t0.fKids a3) >>= fun a4 =>
  (Kgl (t0.fOp,a3)) >>= fun a5 =>
  (Kgp (a4,by1,(wr (from2 + a5)))) >>= fun a6 =>
  (Qdq (a2.length + [a6].length) 64) >>= fun _ =>
  Kgq (t0,by1,from2,a0,a1,(a2 ++ [a6]),(wr (a3 + 1)))
  else
  some (a2)
 partial_fixpoint
end
def Kgr (p : K01 × Int × Int) (r : K01) : Prop :=
 match p with
 | (t0,by1,from2) => Q71 Tryz.prog 132 [K1y t0,I by1,I from2] (K29 r) []
def Kgs (p : K01 × Int × Int × (List Int) × Int × (List K01) × Int) (fl : (List K01)) : Prop :=
 match p with
 | (t0,by1,from2,a0,a1,a2,a3) => ∀ c : Ctx,c.nt = 57 → WpL Tryz.prog c (cl (cl (cr (cl (cr (cr (cr K61))))))) (Kgo c t0 a0 a1 fl) (mkS [(1,I by1),(2,I from2),(3,.ra 1 0),(6,.ra 2 0),(7,.ra 4 0),(8,I a3)] [(1,K1x t0),(2,.box [I 0,I 0,.nils,.nils]),(3,rI a0),(4,.box [I t0.fOp,I a1,.rs 3,.rs 9]),(9,.arr (List.map K0k a2))])
theorem Kgt : (∀ p r,Kgp p = some r → Kgr p r) ∧ (∀ p r,Kgq p = some r → Kgs p r) := by
 refine Kgp.mutual_partial_correctness Kgr Kgs ?_ ?_
 ·rintro spec_l2Shift_l0_f spec_l2Shift_l0_ih ⟨t0,by1,from2⟩ r h
  refine b0 Tryz.f132 K61 57 [(0,K1y t0),(1,I by1),(2,I from2)] fun c hc => ?_
  refine rs hc none [some (.new 1),some (.new 2)] [(1,I by1),(2,I from2),(3,.ra 1 0),(6,.ra 2 0)] [(1,K1x t0),(2,.box [I 0,I 0,.nils,.nils])] tv ?_
  obtain ⟨a0,a1,h⟩ := Qdd h
  refine rs hc (rx [[0],[1],[0],[0,2],[0],[0,4],[0,4,5],[7],[0],[9]]) [oN,oN,oN,oN,oN,oN,some (.call (oI a0) [] 3),oN,some (.new 4),oN] [(1,I by1),(2,I from2),(3,.ra 1 0),(6,.ra 2 0),(7,.ra 4 0)] [(1,K1x t0),(2,.box [I 0,I 0,.nils,.nils]),(3,rI a0),(4,.box [I t0.fOp,I t0.fN,.rs 3,.nils])] (cq (Kev _ _ a1) K54 tv) ?_
  refine sN ?_
  refine sN ?_
  obtain ⟨a2,a3,h⟩ := Qdd h
  refine Wp.into (x := .normal) (mkS [(1,I by1),(2,I from2),(3,.ra 1 0),(6,.ra 2 0),(7,.ra 4 0),(25,.bool a2)] [(1,K1x t0),(2,.box [I 0,I 0,.nils,.nils]),(3,rI a0),(4,.box [I t0.fOp,I t0.fN,.rs 3,.nils])]) ?_ ?_
  ·replace h := a3
   rcases is h with ⟨a4,h⟩ | ⟨a4,h⟩
   ·refine rgs hc none [oN,oN,oN,oN,oN,oN,oN,oN,oT] [(1,I by1),(2,I from2),(3,.ra 1 0),(6,.ra 2 0),(7,.ra 4 0),(25,.bool (decide (t0.fN ≥ from2)))] (ar 5 a4 tv) ?_
    obtain rfl := os h
    exact Qcz.mk
   refine rgs hc none [oN,oN,oN,oN,o_,o_,o_,o_,oF] [(1,I by1),(2,I from2),(3,.ra 1 0),(6,.ra 2 0),(7,.ra 4 0),(25,.bool false)] (ar 4 (neT a4) (ai a4 tv)) ?_
   obtain rfl := os h
   exact Qcz.mk
  clear a3
  obtain ⟨a5,a6,h⟩ := Qdd h
  refine Wp.into (x := .normal) (mkS [(1,I by1),(2,I from2),(3,.ra 1 0),(6,.ra 2 0),(7,.ra 4 0)] [(1,K1x t0),(2,.box [I 0,I 0,.nils,.nils]),(3,rI a0),(4,.box [I t0.fOp,I a5,.rs 3,.nils])]) ?_ ?_
  ·replace h := a6
   refine ic h (fun a7 h => ?_) fun a7 h => ?_
   ·refine rg0 hc 6 [(1,I by1),(2,I from2),(3,.ra 1 0),(6,.ra 2 0),(7,.ra 4 0)] [(1,K1x t0),(2,.box [I 0,I 0,.nils,.nils]),(3,rI a0),(4,.box [I t0.fOp,I (wr (t0.fN + by1)),.rs 3,.nils])] ?_
    obtain rfl := os h
    exact Qcz.mk
   refine sk ?_
   obtain rfl := os h
   exact iv []
  clear a6
  refine sN ?_
  refine K9m hc 1 [(1,I by1),(2,I from2),(3,.ra 1 0),(6,.ra 2 0),(7,.ra 4 0),(8,I 0)] ?_
  refine bk 0 ?_
  obtain ⟨a8,a9,h⟩ := Qdd h
  have hL := spec_l2Shift_l0_ih _ _ a9 c hc
  refine Wp.loopN (by kernel_rfl) (WpL.view (fun a w hv => SRx.renL [(9,18)] (SRx.nilBL 4 3 18 [I t0.fOp,I a5,.rs 3,.nils] hv (by kernel_rfl) (by kernel_rfl) (by kernel_rfl)) (by kernel_rfl) (by kernel_rfl) (by kernel_rfl)) (?_ : WpL _ c _ _ (mkS [(1,I by1),(2,I from2),(3,.ra 1 0),(6,.ra 2 0),(7,.ra 4 0),(8,I 0)] [(1,K1x t0),(2,.box [I 0,I 0,.nils,.nils]),(3,rI a0),(4,.box [I t0.fOp,I a5,.rs 3,.rs 9]),(9,.arr (List.map K0k []))])))
  refine WpL.into (e := (.exit 0)) (mkS [(6,.ra 2 0),(7,.ra 4 0)] [(2,.box [I 0,I 0,.nils,.nils]),(3,rI a0),(4,.box [I t0.fOp,I a5,.rs 3,.rs 9]),(9,.arr (List.map K0k a8))]) hL ?_
  refine Qcr ?_
  refine rs0 hc 2 [(6,.ra 2 0)] [(2,.box [I t0.fOp,I a5,.rs 3,.rs 9]),(3,rI a0),(9,.arr (List.map K0k a8))] ?_
  refine rt ?_
  obtain rfl := os h
  exact rq [true]
 ·rintro spec_l2Shift_f spec_l2Shift_l0_f spec_l2Shift_ih spec_l2Shift_l0_ih ⟨t0,by1,from2,a0,a5,b1,b2⟩ r h
  intro c hc
  refine WpL.step ?_
  refine sN ?_
  refine rss hc none [oN,oN,oN,some (.eqv (.no) ⟨[(34,I (t0.fKids.length : Int))],[],[]⟩),oN] [(1,I by1),(2,I from2),(3,.ra 1 0),(6,.ra 2 0),(7,.ra 4 0),(8,I b2),(35,.bool (decide (b2 < (t0.fKids.length : Int))))] (ai (Qdj (d := 34) K0h t0.fKids) tv) ?_
  refine ic h (fun b3 h => ?_) fun b3 h => ?_
  ·refine sk ?_
   refine sN ?_
   refine bk 1 ?_
   obtain ⟨b4,b5,b6,b7,b8,b9,_,c0,h⟩ := bq4 h
   refine rg hc (rx [[0],[1],[0],[0,2],[0],[0,2,3,4],[0,2,3,4,5],[0],[0],[0],[0,9],[0],[0,9,10,11],[0,8,9,10,11,12],[0,2,3,4,5,6,7,8,9,10,11,12,13],[0,2,3,4,5,6,7,8,9,10,11,12,13,14],[16],[17],[18]]) [oN,oN,oN,oN,oN,some (.el (K1y b4)),oN,oN,oN,oN,oN,oN,oc (I b6),oN,some (.call (K29 b8) [] 14),some (.eqv (.mk 16 true) ⟨[(53,.rs 16)],[(16,some (.arr (List.map K0k [b8]))),(14,none),(15,none)],[16]⟩),some (.eqv (.mk 17 true) ⟨[(54,.rs 17)],[(17,some (.arr (List.map K0k (b1 ++ [b8])))),(9,none),(16,none)],[17]⟩),oN,oN] [(1,I by1),(2,I from2),(3,.ra 1 0),(6,.ra 2 0),(7,.ra 4 0),(8,I b2)] [(1,K1x t0),(2,.box [I 0,I 0,.nils,.nils]),(3,rI a0),(4,.box [I t0.fOp,I a5,.rs 3,.rs 17]),(17,.arr (List.map K0k (b1 ++ [b8])))] (ai (Qdh b5 (K0o b4)) (cq (Kgn _ _ b7) K60 (cq (spec_l2Shift_ih _ _ b9) K62 (ac (congrArg (fun z => (⟨[(53,.rs 16)],[(16,some (.arr z)),(14,none),(15,none)],[16]⟩ : Wr)) ((Qek (K0q b8) Qej) : [AV.agg [I b8.fOp,I b8.fN,oI b8.fType,AV.osl (List.map K0k b8.fKids)]] = List.map K0k [b8])) (congrArg (fun z => (⟨[(54,.rs 17)],[(17,some (.arr z)),(9,none),(16,none)],[17]⟩ : Wr)) ((List.map_append).symm : (List.map K0k b1) ++ (List.map K0k [b8]) = List.map K0k (b1 ++ [b8]))) (Qdr (enc1 := K0k) (enc2 := K0k) (e1 := b1) (e2 := [b8]) (sz := 4) K1f K1f c0) tv)))) ?_
   refine K9l hc 3 [(1,I by1),(2,I from2),(3,.ra 1 0),(6,.ra 2 0),(7,.ra 4 0),(8,I (wr (b2 + 1)))] ?_
   refine Qcv ?_
   exact WpL.view (fun a w hv => SRx.renL [(9,17)] hv (by kernel_rfl) (by kernel_rfl) (by kernel_rfl)) (spec_l2Shift_l0_ih _ _ h c hc)
  refine xt 0 ?_
  refine Qcp ?_
  refine Qcw ?_
  obtain rfl := os h
  exact iv []
theorem Kgu : ∀ p r,Kgp p = some r → Kgr p r := Kgt.1
theorem Kgv : ∀ p r,Kgq p = some r → Kgs p r := Kgt.2
def Kgw (c : Ctx) (c0 : K02) (s1 : K00) (ctx2 : LL) (ty3 : List Int) (deep4 : Int) (a0 : K02) : (Unit) ⊕ ((K01 × K02)) → Exit → Q0a → Prop
 | .inl _ => Qcz c (.exit 0) (mkS [(0,.ra 1000 0),(2,sL ctx2),(3,sI ty3),(4,I deep4),(6,.ra 1 0),(10,.ra 2 0)] [(1,K1v s1),(2,.box [I 0,I 0,.nils,.nils]),(1000,K1z a0)])
 | .inr r => Qdb TIx Tryz.f231 [.optr [.sl (List.map U8 c0.fb),I c0.fi,I c0.fh],K1w s1,sL ctx2,sI ty3,I deep4] (.agg [I r.1.fOp,I r.1.fN,.sl (List.map I r.1.fType),.sl (List.map K0h r.1.fKids)],[.optr [.sl (List.map U8 r.2.fb),I r.2.fi,I r.2.fh],.undef,.undef,.undef,.undef])
def Kgx (c : Ctx) (c0 : K02) (s1 : K00) (ctx2 : LL) (ty3 : List Int) (deep4 : Int) : ((List Int) × Int × Int) ⊕ ((K01 × K02)) → Exit → Q0a → Prop
 | .inl (a0,a1,a2) => Qcz c .normal (mkS [(0,.ra 1000 0),(2,sL ctx2),(3,sI ty3),(4,I deep4),(6,.ra 1 0),(10,.ra 2 0)] [(1,K1v s1),(2,.box [I 0,I 0,.nils,.nils]),(1000,.box [.sl (List.map U8 a0),I a1,I a2])])
 | .inr r => Qdb TIx Tryz.f231 [.optr [.sl (List.map U8 c0.fb),I c0.fi,I c0.fh],K1w s1,sL ctx2,sI ty3,I deep4] (.agg [I r.1.fOp,I r.1.fN,.sl (List.map I r.1.fType),.sl (List.map K0h r.1.fKids)],[.optr [.sl (List.map U8 r.2.fb),I r.2.fi,I r.2.fh],.undef,.undef,.undef,.undef])
def Kgy (c : Ctx) (c0 : K02) (s1 : K00) (ctx2 : LL) (ty3 : List Int) (deep4 : Int) (a0 : List Int) (a1 : K01) (a2 : Int) (a3 : K02) : (Unit) ⊕ ((K01 × K02)) → Exit → Q0a → Prop
 | .inl _ => Qcz c .normal (mkS [(0,.ra 1000 0),(2,sL ctx2),(4,I deep4),(6,.ra 1 0),(10,.ra 2 0),(28,sI a0),(32,.ra 45 0)] [(1,K1v s1),(2,.box [I 0,I 0,.nils,.nils]),(44,.arr (List.map K0h [a1])),(45,.box [I 9,I a2,sI a0,.rs 44]),(1000,K1z a3)])
 | .inr r => Qdb TIx Tryz.f251 [.optr [.sl (List.map U8 c0.fb),I c0.fi,I c0.fh],K1w s1,sL ctx2,sI ty3,I deep4] (.agg [I r.1.fOp,I r.1.fN,.sl (List.map I r.1.fType),.sl (List.map K0h r.1.fKids)],[.optr [.sl (List.map U8 r.2.fb),I r.2.fi,I r.2.fh],.undef,.undef,.undef,.undef])
def Kgz (c : Ctx) (a0 : List Int) (a1 : Int) : Int × Int × (List Int) × (List K01) × (List Int) × Int × Int → Exit → Q0a → Prop
 | (a2,a3,a4,a5,a6,a7,a8) => Qcz c (.exit 0) (mkS [(10,.ra 2 0),(11,sI a0),(13,I a1),(15,.ra 8 0)] [(2,.box [I 0,I 0,.nils,.nils]),(8,.box [I a2,I a3,sI a4,.sl (List.map K0h a5)]),(1000,.box [.sl (List.map U8 a6),I a7,I a8])])
def Kh0 (p : K02 × K00 × LL × (List Int) × Int × Int × K02 × Int) : Option ((Unit) ⊕ ((K01 × K02))) :=
 match p with
 | (c0,s1,ctx2,ty3,deep4,a0,a1,a2) =>
  if (decide (a2 < (ctx2.length : Int))) = true then
  (chk ((ctx2.length : Int) ≠ 0)) >>= fun _ =>
  (idx ctx2 (Int.tmod (wr (a0 + a2)) (ctx2.length : Int))) >>= fun a3 =>
  (Ke7 (a3,ty3)) >>= fun a4 =>
  if a4 = true then
  (Kea (0,(Int.tmod (wr (a0 + a2)) (ctx2.length : Int)),[])) >>= fun a5 =>
  some (.inr (a5,a1))
  else
  Kh0 (c0,s1,ctx2,ty3,deep4,a0,a1,(wr (a2 + 1)))
  else
  some (.inl ())
 partial_fixpoint
def Kh1 (p : K02 × K00 × LL × (List Int) × Int × Int × K02 × Int) (fl : (Unit) ⊕ ((K01 × K02))) : Prop :=
 match p with
 | (c0,s1,ctx2,ty3,deep4,a0,a1,a2) => ∀ c : Ctx,c.nt = 167 → WpL Tryz.prog c (cl (cl (cr (cr (cl (cr (cl (cr K4t)))))))) (Kgw c c0 s1 ctx2 ty3 deep4 a1 fl) (mkS [(0,.ra 1000 0),(2,sL ctx2),(3,sI ty3),(4,I deep4),(6,.ra 1 0),(10,.ra 2 0),(11,I a0),(12,I a2)] [(1,K1v s1),(2,.box [I 0,I 0,.nils,.nils]),(1000,K1z a1)])
theorem Kh2 : ∀ p r,Kh0 p = some r → Kh1 p r := by
 refine Kh0.partial_correctness Kh1 ?_
 rintro spec_dOf_l0_f spec_dOf_l0_ih ⟨c0,s1,ctx2,ty3,deep4,a0,a1,a2⟩ r h
 intro c hc
 refine WpL.step ?_
 refine sN ?_
 refine rss hc none [oN,oN,some (.eqv (.no) ⟨[(24,I (ctx2.length : Int))],[],[]⟩),oN] [(0,.ra 1000 0),(2,sL ctx2),(3,sI ty3),(4,I deep4),(6,.ra 1 0),(10,.ra 2 0),(11,I a0),(12,I a2),(25,.bool (decide (a2 < (ctx2.length : Int))))] (ai (Qdj (d := 24) K14 ctx2) tv) ?_
 refine ic h (fun a3 h => ?_) fun a3 h => ?_
 ·refine sk ?_
  refine sN ?_
  refine bk 1 ?_
  obtain ⟨_,a4,h⟩ := Qdd h
  refine rss hc none [oN,oN,oN,oN,some (.eqv (.no) ⟨[(32,I (ctx2.length : Int))],[],[]⟩),oN,oN] [(0,.ra 1000 0),(2,sL ctx2),(3,sI ty3),(4,I deep4),(6,.ra 1 0),(10,.ra 2 0),(11,I a0),(12,I a2),(13,I (Int.tmod (wr (a0 + a2)) (ctx2.length : Int)))] (ab (Qdj (d := 32) K14 ctx2) (Qdf a4) tv) ?_
  obtain ⟨a5,a6,a7,a8,h⟩ := bq2 h
  refine rss hc none [oN,oN,some (.el (sI a5)),oN,oN,oc (.bool a7)] [(0,.ra 1000 0),(2,sL ctx2),(3,sI ty3),(4,I deep4),(6,.ra 1 0),(10,.ra 2 0),(11,I a0),(12,I a2),(13,I (Int.tmod (wr (a0 + a2)) (ctx2.length : Int))),(39,.bool a7)] (ai (xL a6) (cq (Ke9 _ _ a8) K4o tv)) ?_
  refine ic h (fun a9 h => ?_) fun a9 h => ?_
  ·obtain ⟨b1,b2,h⟩ := Qdd h
   refine rs hc none [oN,oc (K1y b1),oN] [(10,.ra 2 0)] [(2,K1x b1),(1000,K1z a1)] (cq (Q71.args (A1 := [I 0,I (Int.tmod (wr (a0 + a2)) (ctx2.length : Int)),.sl []]) (A2 := [I 0,I (Int.tmod (wr (a0 + a2)) (ctx2.length : Int)),.sl (List.map K0h [])]) (by simp only [List.map_nil]) (Kec _ _ b2)) K4q tv) ?_
   refine rt ?_
   obtain rfl := os h
   exact Qdb.ret (fl := [false]) (by kernel_rfl)
  refine sk ?_
  refine K9l hc 3 [(0,.ra 1000 0),(2,sL ctx2),(3,sI ty3),(4,I deep4),(6,.ra 1 0),(10,.ra 2 0),(11,I a0),(12,I (wr (a2 + 1)))] ?_
  refine Qcv ?_
  exact (spec_dOf_l0_ih _ _ h c hc)
 refine xt 0 ?_
 refine Qcp ?_
 refine Qcw ?_
 obtain rfl := os h
 exact iv []
end Go.Am
