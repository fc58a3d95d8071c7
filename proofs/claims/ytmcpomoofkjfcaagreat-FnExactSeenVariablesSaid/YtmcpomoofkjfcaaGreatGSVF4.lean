/- Functions of the program as pure functions,and that it computes them. Printed by a program of mine (gen.py). -/
import Derived.Test.YtmcpomoofkjfcaaGreatGSVF2
set_option linter.unusedVariables false
set_option linter.unusedSimpArgs false
set_option maxRecDepth 100000
namespace Go.Am
open Go Go.Proofs
def Kfe : Option (List (List Nat)) := rx [[0],[1],[0],[0,2],[4],[5],[0],[0,6],[8],[9]]
def Kff : Option (List (List Nat)) := rx [[0],[0],[0,1],[0,1,2],[0,1,2,3],[0],[6],[7]]
def Kfg : Option (List (List Nat)) := rx [[0],[1],[2],[3],[3],[3,4],[3,4,5],[3,4,5,6],[3],[9],[10],[11]]
mutual
def Kfh (p : K00 × LL × K01) : Option (K02) :=
 match p with
 | (s0,ctx1,t2) =>
  if (t2.fOp == 0) = true then
  (Ke1 (ctx1.length : Int)) >>= fun a0 =>
  (idx a0 t2.fN) >>= fun a1 =>
  (idx ctx1 t2.fN) >>= fun a2 =>
  (Ke4 a2) >>= fun a3 =>
  some (K02.mk a3 (List.set a0 (Int.toNat t2.fN) 1) 0 [])
  else
  if (t2.fOp == 1) = true then
  (Ke1 (ctx1.length : Int)) >>= fun a4 =>
  some (K02.mk [0] a4 0 [])
  else
  ((
  if (t2.fOp == 9) = true then
  (Ke7 (ctx1,[t2.fType])) >>= fun a5 =>
  some (a5)
  else
  some (ctx1)
  ) : Option (LL)) >>= fun a6 =>
  (Kfj (s0,a6,t2,0)) >>= fun a7 =>
  if (a7.ffault != 0) = true then
  some a7
  else
  ((
  if (t2.fOp == 2) = true then
  some ((t2.fOp == 2))
  else
  some ((t2.fOp == 3))
  ) : Option (Bool)) >>= fun a8 =>
  if a8 = true then
  (idx a7.fty 0) >>= fun a9 =>
  if (a9 != 0) = true then
  (Kea 2) >>= fun b1 =>
  some b1
  else
  (Kfk (s0,ctx1,t2,a7)) >>= fun b2 =>
  some b2
  else
  if (t2.fOp == 4) = true then
  (Kfj (s0,ctx1,t2,1)) >>= fun b3 =>
  if (b3.ffault != 0) = true then
  some b3
  else
  (Keh (1,[a7.fty,b3.fty])) >>= fun b4 =>
  (Keo (s0,a7.fneeds,1,b3.fneeds)) >>= fun b5 =>
  (Ker (b4,b5)) >>= fun b6 =>
  some b6
  else
  if (t2.fOp == 6) = true then
  (Keh (2,[a7.fty,t2.fType])) >>= fun b7 =>
  (Ker (b7,a7.fneeds)) >>= fun b8 =>
  some b8
  else
  if (t2.fOp == 7) = true then
  (Keh (2,[t2.fType,a7.fty])) >>= fun b9 =>
  (Ker (b9,a7.fneeds)) >>= fun c0 =>
  some c0
  else
  if (t2.fOp == 9) = true then
  (idx a7.fneeds 0) >>= fun c1 =>
  (Kap (s0,c1,t2.fN)) >>= fun c2 =>
  if c2 = true then
  (Keh ((wr (3 + t2.fN)),[t2.fType,a7.fty])) >>= fun c3 =>
  (cut a7.fneeds (some 1) none none) >>= fun c4 =>
  (Ke4 c4) >>= fun c5 =>
  (Ker (c3,c5)) >>= fun c6 =>
  some c6
  else
  (Kea 9) >>= fun c7 =>
  some c7
  else
  if (t2.fOp == 11) = true then
  (Keh ((wr (19 + t2.fN)),[a7.fty])) >>= fun c8 =>
  (Ke1 (ctx1.length : Int)) >>= fun c9 =>
  (Keo (s0,c9,t2.fN,a7.fneeds)) >>= fun d0 =>
  (Ker (c8,d0)) >>= fun d1 =>
  some d1
  else
  if (t2.fOp == 10) = true then
  (idx a7.fty 0) >>= fun d2 =>
  (Kbw d2) >>= fun d3 =>
  if d3 = true then
  (Kfj (s0,ctx1,t2,1)) >>= fun d4 =>
  if (d4.ffault != 0) = true then
  some d4
  else
  (Keu (a7.fty,0)) >>= fun d5 =>
  (Kf1 (d4.fty,d5)) >>= fun d6 =>
  if d6 = true then
  (Keu (a7.fty,1)) >>= fun d7 =>
  (idx a7.fty 0) >>= fun d8 =>
  (Kcf d8) >>= fun d9 =>
  (Keo (s0,a7.fneeds,d9,d4.fneeds)) >>= fun e0 =>
  some (K02.mk d7 e0 0 [])
  else
  (Kea 3) >>= fun e1 =>
  some e1
  else
  (Kea 6) >>= fun e2 =>
  some e2
  else
  (Kfi (s0,ctx1,t2,a7)) >>= fun e3 =>
  some e3
 partial_fixpoint
def Kfi (p : K00 × LL × K01 × K02) : Option (K02) :=
 match p with
 | (s0,ctx1,t2,a3) =>
  (idx a3.fty 0) >>= fun a0 =>
  ((
  if (t2.fOp == 5) = true then
  some ((a0 != 1))
  else
  some (false)
  ) : Option (Bool)) >>= fun a1 =>
  if a1 = true then
  (Kea 4) >>= fun a2 =>
  some a2
  else
  ((
  if (t2.fOp == 8) = true then
  some ((a0 != 2))
  else
  some (false)
  ) : Option (Bool)) >>= fun a4 =>
  if a4 = true then
  (Kea 5) >>= fun a5 =>
  some a5
  else
  ((
  if (t2.fOp == 12) = true then
  (Kbz a0) >>= fun a6 =>
  some ((!a6))
  else
  some (false)
  ) : Option (Bool)) >>= fun a7 =>
  if a7 = true then
  (Kea 7) >>= fun a8 =>
  some a8
  else
  (Kap (s0,1,t2.fN)) >>= fun a9 =>
  if a9 = true then
  (Keu (a3.fty,0)) >>= fun b1 =>
  ((
  if (t2.fOp == 5) = true then
   (Keu (a3.fty,1)) >>= fun b2 =>
   (Keu (a3.fty,0)) >>= fun b3 =>
   some ([b2,b3])
  else
   some ([b1])
  ) : Option (LL)) >>= fun b4 =>
  (Ke7 (ctx1,b4)) >>= fun b5 =>
  (Kfj (s0,b5,t2,1)) >>= fun b6 =>
  if (b6.ffault != 0) = true then
  some b6
  else
  (cut b6.fneeds (some (b4.length : Int)) none none) >>= fun b7 =>
  (Ke4 b7) >>= fun b8 =>
  ((
   if (t2.fOp == 12) = true then
   (Kcf a0) >>= fun b9 =>
   (Kam (s0,t2.fN,b9)) >>= fun c0 =>
   some (.inl (c0,b8,true))
   else
   ((
    if (t2.fOp == 5) = true then
    (idx b6.fneeds 1) >>= fun c1 =>
    (Kap (s0,c1,t2.fN)) >>= fun c2 =>
    some (.inl (b8,c2))
    else
    ((
     if (t2.fOp == 8) = true then
     (Keu (a3.fty,1)) >>= fun c3 =>
     (Ke7 (ctx1,[c3])) >>= fun c4 =>
     (Kfj (s0,c4,t2,2)) >>= fun c5 =>
     if (c5.ffault != 0) = true then
     some (.inr c5)
     else
     (Kf1 (b6.fty,c5.fty)) >>= fun c6 =>
     if c6 = true then
     (idx c5.fneeds 0) >>= fun c7 =>
     (Kap (s0,c7,t2.fN)) >>= fun c8 =>
     (cut c5.fneeds (some 1) none none) >>= fun c9 =>
     (Kf8 (s0,b8,c9)) >>= fun d0 =>
     some (.inl (d0,c8))
     else
     (Kea 3) >>= fun d1 =>
     some (.inr d1)
     else
     some (.inl (b8,true))) : Option (((List Int) × Bool) ⊕ (K02))) >>= fun fl => match fl with
    | .inl (d2,d3) =>
     some (.inl (d2,d3))
    | .inr r =>
     some (.inr r)) : Option (((List Int) × Bool) ⊕ (K02))) >>= fun fl => match fl with
   | .inl (d4,d5) =>
    some (.inl (t2.fN,d4,d5))
   | .inr r =>
    some (.inr r)) : Option ((Int × (List Int) × Bool) ⊕ (K02))) >>= fun fl => match fl with
  | .inl (d6,d7,d8) =>
   ((
   if d8 = true then
    (idx b6.fneeds 0) >>= fun d9 =>
    (Kap (s0,d9,d6)) >>= fun e0 =>
    some ((!e0))
   else
    some (true)
   ) : Option (Bool)) >>= fun e1 =>
   if e1 = true then
   (Kea 9) >>= fun e2 =>
   some e2
   else
   (Ke1 (ctx1.length : Int)) >>= fun e3 =>
   (Keo (s0,e3,t2.fN,a3.fneeds)) >>= fun e4 =>
   (Keo (s0,e4,1,d7)) >>= fun e5 =>
   some (K02.mk b6.fty e5 0 [])
  | .inr r =>
   some r
  else
  (Kea 8) >>= fun e6 =>
  some e6
 partial_fixpoint
def Kfj (p : K00 × LL × K01 × Int) : Option (K02) :=
 match p with
 | (s0,ctx1,t2,k3) =>
  (idx t2.fKids k3) >>= fun a0 =>
  (Kfh (s0,ctx1,a0)) >>= fun a1 =>
  ((
  if (a1.ffault != 0) = true then
  (Qd6 ([k3].length + a1.fpath.length) 8) >>= fun _ =>
  some (([k3] ++ a1.fpath))
  else
  some (a1.fpath)
  ) : Option ((List Int))) >>= fun a2 =>
  some (K02.mk a1.fty a1.fneeds a1.ffault a2)
 partial_fixpoint
def Kfk (p : K00 × LL × K01 × K02) : Option (K02) :=
 match p with
 | (s0,ctx1,t2,a3) =>
  (Kfj (s0,ctx1,t2,1)) >>= fun a0 =>
  if (a0.ffault != 0) = true then
  some a0
  else
  if (t2.fOp == 2) = true then
  (idx a0.fty 0) >>= fun a1 =>
  if (a1 != 0) = true then
  (Kea 2) >>= fun a2 =>
  some a2
  else
  (Keo (s0,a3.fneeds,1,a0.fneeds)) >>= fun a4 =>
  some (K02.mk a0.fty a4 0 [])
  else
  (Kfj (s0,ctx1,t2,2)) >>= fun a5 =>
  if (a5.ffault != 0) = true then
  some a5
  else
  (Kf1 (a0.fty,a5.fty)) >>= fun a6 =>
  if a6 = true then
  (Kf8 (s0,a0.fneeds,a5.fneeds)) >>= fun a7 =>
  (Keo (s0,a3.fneeds,1,a7)) >>= fun a8 =>
  some (K02.mk a0.fty a8 0 [])
  else
  (Kea 3) >>= fun a9 =>
  some a9
 partial_fixpoint
end
def Kfl (p : K00 × LL × K01) (r : K02) : Prop :=
 match p with
 | (s0,ctx1,t2) => Q71 Tryz.prog 73 [K1t s0,sL ctx1,K1v t2] (K1x r) []
def Kfm (p : K00 × LL × K01 × K02) (r : K02) : Prop :=
 match p with
 | (s0,ctx1,t2,a3) => Q71 Tryz.prog 153 [K1t s0,sL ctx1,K1v t2,K1x a3] (K1x r) []
def Kfn (p : K00 × LL × K01 × Int) (r : K02) : Prop :=
 match p with
 | (s0,ctx1,t2,k3) => Q71 Tryz.prog 143 [K1t s0,sL ctx1,K1v t2,I k3] (K1x r) []
def Kfo (p : K00 × LL × K01 × K02) (r : K02) : Prop :=
 match p with
 | (s0,ctx1,t2,a3) => Q71 Tryz.prog 145 [K1t s0,sL ctx1,K1v t2,K1x a3] (K1x r) []
theorem Kfp : (∀ p r,Kfh p = some r → Kfl p r) ∧ (∀ p r,Kfi p = some r → Kfm p r) ∧ (∀ p r,Kfj p = some r → Kfn p r) ∧ (∀ p r,Kfk p = some r → Kfo p r) := by
 refine Kfh.mutual_partial_correctness Kfl Kfm Kfn Kfo ?_ ?_ ?_ ?_
 ·rintro spec_l3Taken_f spec_l3Of_f spec_l3Numbers_f spec_l3Taken_ih spec_l3Of_ih spec_l3Numbers_ih ⟨s0,ctx1,t2⟩ r h
  refine b0 Tryz.f73 B73 206 [(0,K1t s0),(1,sL ctx1),(2,K1v t2)] fun c hc => ?_
  refine rs hc none [some (.new 1),some (.new 2),some (.new 3)] [(1,sL ctx1),(3,.ra 1 0),(5,.ra 2 0),(6,.ra 3 0)] [(1,K1s s0),(2,K1u t2),(3,.box [.nils,.nils,I 0,.nils])] tv ?_
  refine sN ?_
  refine K8h hc 2 [(1,sL ctx1),(3,.ra 1 0),(5,.ra 2 0),(6,.ra 3 0),(13,I t2.fOp)] ?_
  refine bk 0 ?_
  refine K8h hc 2 [(1,sL ctx1),(3,.ra 1 0),(5,.ra 2 0),(6,.ra 3 0),(13,I t2.fOp),(14,.bool (t2.fOp == 0))] ?_
  refine ic h (fun a0 h => ?_) fun a0 h => ?_
  ·obtain ⟨a1,a2,h⟩ := Qct h
   refine rs hc none [oN,some (.eqv (.no) ⟨[(17,I (ctx1.length : Int))],[],[]⟩),some (.call (oI a1) [] 4),oN] [(1,sL ctx1),(5,.ra 2 0),(6,.ra 3 0),(7,.rs 4)] [(2,K1u t2),(3,.box [.nils,.nils,I 0,.nils]),(4,rI a1)] (ai (Qcz (d := 17) K10 ctx1) (cq (Ke3 _ _ a2) K4r tv)) ?_
   obtain ⟨a4,a5,h⟩ := Qct h
   refine rs hc none [oN,oN,oN,oN,some (.eqv (.mk 0 true) ⟨[],[(4,some (.arr (List.map I (List.set a1 (Int.toNat t2.fN) 1))))],[]⟩)] [(1,sL ctx1),(5,.ra 2 0),(6,.ra 3 0),(7,.rs 4)] [(2,K1u t2),(3,.box [.nils,.nils,I 0,.nils]),(4,.arr (List.map I (List.set a1 (Int.toNat t2.fN) 1)))] (ac (Qcy (enc := I) a5) (congrArg (fun z => (⟨[],[(4,some (.arr z))],[]⟩ : Wr)) (Qdw (enc := I) (i := Int.toNat t2.fN) (l := a1) (v := 1) (x := I 1) (Qd8 1))) (Qdx (enc := I) (sz := 1) Qdc a5) tv) ?_
   obtain ⟨a6,a7,a8,a9,h⟩ := bq2 h
   refine rs hc none [oN,oN,oN,some (.el (sI a6)),oN,some (.call (oI a8) [] 5),oN,oN,oN] [(6,.ra 3 0)] [(3,.box [.rs 5,.rs 4,I 0,.nils]),(4,.arr (List.map I (List.set a1 (Int.toNat t2.fN) 1))),(5,rI a8)] (ai (xL a7) (cq (Ke6 _ _ a9) K4s tv)) ?_
   refine vz 5 (Qdl a8) [(6,.ra 3 0)] [(3,.box [sI a8,.rs 4,I 0,.nils]),(4,.arr (List.map I (List.set a1 (Int.toNat t2.fN) 1)))] ?_
   refine vz 4 (Qdl (List.set a1 (Int.toNat t2.fN) 1)) [(6,.ra 3 0)] [(3,.box [sI a8,.sl (List.map I (List.set a1 (Int.toNat t2.fN) 1)),I 0,.nils])] ?_
   refine rt ?_
   obtain rfl := os h
   exact rq [false]
  refine K8h hc 2 [(1,sL ctx1),(3,.ra 1 0),(5,.ra 2 0),(6,.ra 3 0),(31,.bool (t2.fOp == 1))] ?_
  refine ic h (fun b1 h => ?_) fun b1 h => ?_
  ·obtain ⟨b2,b3,h⟩ := Qct h
   refine rs hc none [some (.mk 6 true),oN,some (.eqv (.no) ⟨[(35,I (ctx1.length : Int))],[],[]⟩),some (.call (oI b2) [] 7),oN,oN] [(6,.ra 3 0)] [(3,.box [.rs 6,.rs 7,I 0,.nils]),(6,.arr (List.map I [0])),(7,rI b2)] (ai (Qcz (d := 35) K10 ctx1) (cq (Ke3 _ _ b3) K4r tv)) ?_
   refine vz 6 (Qdl [0]) [(6,.ra 3 0)] [(3,.box [.sl (List.map I [0]),.rs 7,I 0,.nils]),(7,rI b2)] ?_
   refine vz 7 (Qdl b2) [(6,.ra 3 0)] [(3,.box [.sl (List.map I [0]),sI b2,I 0,.nils])] ?_
   refine rt ?_
   obtain rfl := os h
   exact rq [false]
  refine sk ?_
  refine K8h hc 2 [(1,sL ctx1),(3,.ra 1 0),(5,.ra 2 0),(6,.ra 3 0),(8,sL ctx1)] ?_
  refine sN ?_
  refine K8h hc 3 [(1,sL ctx1),(3,.ra 1 0),(5,.ra 2 0),(6,.ra 3 0),(8,sL ctx1),(41,.bool (t2.fOp == 9))] ?_
  obtain ⟨b4,b5,h⟩ := Qct h
  refine Wp.into (x := .normal) (mkS [(1,sL ctx1),(3,.ra 1 0),(5,.ra 2 0),(6,.ra 3 0),(8,sL b4)] [(1,K1s s0),(2,K1u t2),(3,.box [.nils,.nils,I 0,.nils])]) ?_ ?_
  ·replace h := b5
   refine ic h (fun b6 h => ?_) fun b6 h => ?_
   ·obtain ⟨b7,b8,h⟩ := Qct h
    refine rg hc none [oN,oN,oN,some (.mk 8 false),some (.call (.osl (List.map K10 b7)) [.tup []] 9),oN] [(1,sL ctx1),(3,.ra 1 0),(5,.ra 2 0),(6,.ra 3 0),(8,.rs 9)] [(1,K1s s0),(2,K1u t2),(3,.box [.nils,.nils,I 0,.nils]),(9,.arr (List.map K10 b7))] (ab (Q71.args (A1 := [sL ctx1,.sl (Q02 (List.map K10 [t2.fType]))]) (A2 := [sL ctx1,.sl (List.map K10 [t2.fType])]) (by simp only [List.map_nil,K14]) (Ke9 _ _ b8)) K4u tv) ?_
    obtain rfl := os h
    exact Qcf.view (fun a w hv => SRx.renL [] (SRx.frzC 9 (xs := List.map K10 b7) (xs' := List.map K10 b7) hv (by kernel_rfl) (K14 _)) (by kernel_rfl) (by kernel_rfl) (by kernel_rfl))
   refine sk ?_
   obtain rfl := os h
   exact iv []
  clear b5
  obtain ⟨b9,c0,h⟩ := Qct h
  refine rs hc none [oN,oN,oN,oc (K1x b9),some (.new 10),oN] [(1,sL ctx1),(3,.ra 1 0),(5,.ra 2 0),(6,.ra 3 0),(9,.ra 10 0)] [(1,K1s s0),(2,K1u t2),(3,.box [.nils,.nils,I 0,.nils]),(10,K1w b9)] (cq (spec_l3Of_ih _ _ c0) K4w tv) ?_
  refine sN ?_
  refine K8h hc 3 [(1,sL ctx1),(3,.ra 1 0),(5,.ra 2 0),(6,.ra 3 0),(9,.ra 10 0),(53,.bool (b9.ffault != 0))] ?_
  refine ic h (fun c1 h => ?_) fun c1 h => ?_
  ·refine rs0 hc 2 [(6,.ra 3 0)] [(3,K1w b9)] ?_
   refine rt ?_
   obtain rfl := os h
   exact rq [false]
  refine sk ?_
  refine sN ?_
  refine K8h hc 2 [(1,sL ctx1),(3,.ra 1 0),(5,.ra 2 0),(6,.ra 3 0),(9,.ra 10 0),(56,I t2.fOp)] ?_
  refine bk 1 ?_
  refine sN ?_
  refine K8h hc 2 [(1,sL ctx1),(3,.ra 1 0),(5,.ra 2 0),(6,.ra 3 0),(9,.ra 10 0),(56,I t2.fOp),(57,.bool (t2.fOp == 2))] ?_
  obtain ⟨c2,c3,h⟩ := Qct h
  refine Wp.into (x := .normal) (mkS [(1,sL ctx1),(3,.ra 1 0),(5,.ra 2 0),(6,.ra 3 0),(9,.ra 10 0),(56,I t2.fOp),(57,.bool c2)] [(1,K1s s0),(2,K1u t2),(3,.box [.nils,.nils,I 0,.nils]),(10,K1w b9)]) ?_ ?_
  ·replace h := c3
   refine ic h (fun c4 h => ?_) fun c4 h => ?_
   ·refine sk ?_
    obtain rfl := os h
    exact Qcf.mk
   refine K8g hc 2 [(1,sL ctx1),(3,.ra 1 0),(5,.ra 2 0),(6,.ra 3 0),(9,.ra 10 0),(56,I t2.fOp),(57,.bool (t2.fOp == 3))] ?_
   obtain rfl := os h
   exact Qcf.mk
  clear c3
  refine ic h (fun c5 h => ?_) fun c5 h => ?_
  ·refine sN ?_
   obtain ⟨c6,c7,h⟩ := Qct h
   refine rss hc none [oN,oN,some (.el (I c6)),oN,oN] [(1,sL ctx1),(3,.ra 1 0),(5,.ra 2 0),(6,.ra 3 0),(9,.ra 10 0),(64,.bool (c6 != 0))] (ai (ix c7) tv) ?_
   refine ic h (fun c8 h => ?_) fun c8 h => ?_
   ·obtain ⟨c9,d0,h⟩ := Qct h
    refine rs hc none [some (.call (K26 c9) [] 11),oN] [(6,.ra 3 0)] [(3,.box [.rs 11,.rs 12,I c9.ffault,.rs 13]),(11,rI c9.fty),(12,rI c9.fneeds),(13,rI c9.fpath)] (cq (Kec _ _ d0) K4y tv) ?_
    refine vz 11 (Qdl c9.fty) [(6,.ra 3 0)] [(3,.box [sI c9.fty,.rs 12,I c9.ffault,.rs 13]),(12,rI c9.fneeds),(13,rI c9.fpath)] ?_
    refine vz 12 (Qdl c9.fneeds) [(6,.ra 3 0)] [(3,.box [sI c9.fty,sI c9.fneeds,I c9.ffault,.rs 13]),(13,rI c9.fpath)] ?_
    refine vz 13 (Qdl c9.fpath) [(6,.ra 3 0)] [(3,K1w c9)] ?_
    refine rt ?_
    obtain rfl := os h
    exact rq [false]
   refine sk ?_
   obtain ⟨d1,d2,h⟩ := Qct h
   refine rs hc none [oN,oN,oN,oN,oc (K1x d1),oN] [(6,.ra 3 0)] [(3,K1w d1)] (cq (spec_l3Numbers_ih _ _ d2) K50 tv) ?_
   refine rt ?_
   obtain rfl := os h
   exact rq [false]
  refine K8h hc 2 [(1,sL ctx1),(3,.ra 1 0),(5,.ra 2 0),(6,.ra 3 0),(9,.ra 10 0),(56,I t2.fOp),(71,.bool (t2.fOp == 4))] ?_
  refine ic h (fun d3 h => ?_) fun d3 h => ?_
  ·obtain ⟨d4,d5,h⟩ := Qct h
   refine rs hc none [oN,oN,oN,oc (K1x d4),some (.new 14),oN] [(3,.ra 1 0),(6,.ra 3 0),(9,.ra 10 0),(10,.ra 14 0)] [(1,K1s s0),(3,.box [.nils,.nils,I 0,.nils]),(10,K1w b9),(14,K1w d4)] (cq (spec_l3Of_ih _ _ d5) K4w tv) ?_
   refine sN ?_
   refine K8h hc 3 [(3,.ra 1 0),(6,.ra 3 0),(9,.ra 10 0),(10,.ra 14 0),(79,.bool (d4.ffault != 0))] ?_
   refine ic h (fun d6 h => ?_) fun d6 h => ?_
   ·refine rs0 hc 2 [(6,.ra 3 0)] [(3,K1w d4)] ?_
    refine rt ?_
    obtain rfl := os h
    exact rq [false]
   refine sk ?_
   obtain ⟨d7,d8,d9,e0,e3,e4,h⟩ := bq3 h
   refine rs hc (rx [[0],[1],[0],[0,2],[4],[5],[0],[0],[0,7],[0],[0,9],[11],[12],[13]]) [oN,oN,oN,oN,some (.mk 15 false),some (.call (oI d7) [] 16),oN,oN,oN,oN,oN,some (.call (oI d9) [] 17),some (.call (K1x e3) [.tup []] 1),oN] [(6,.ra 3 0)] [(3,K1w e3)] (ac (Q71.args (A1 := [I 1,.sl (Q02 (List.map K10 [b9.fty,d4.fty]))]) (A2 := [I 1,.sl (List.map K10 [b9.fty,d4.fty])]) (by simp only [List.map_nil,K14]) (Kej _ _ d8)) K52 (Or.inr (Qdt Qdp d7) : ([15] : List Nat) = [] ∨ noSh (oI d7) = true) (cq (Keq _ _ e0) K54 (ab (Q71.args (A1 := [.sl (Q02 (List.map I d7)),.sl (Q02 (List.map I d9))]) (A2 := [sI d7,sI d9]) (by simp only [List.map_nil,Qdl]) (Ket _ _ e4)) K56 tv))) ?_
   refine rt ?_
   obtain rfl := os h
   exact rq [false]
  refine K8h hc 2 [(1,sL ctx1),(3,.ra 1 0),(5,.ra 2 0),(6,.ra 3 0),(9,.ra 10 0),(56,I t2.fOp),(94,.bool (t2.fOp == 6))] ?_
  refine ic h (fun e5 h => ?_) fun e5 h => ?_
  ·obtain ⟨e6,e7,e8,e9,h⟩ := bq2 h
   refine rs hc Kfe [oN,oN,oN,oN,some (.mk 18 false),some (.call (oI e6) [] 19),oN,oN,some (.call (K1x e8) [.tup []] 1),oN] [(6,.ra 3 0)] [(3,K1w e8)] (ad (Q71.args (A1 := [I 2,.sl (Q02 (List.map K10 [b9.fty,t2.fType]))]) (A2 := [I 2,.sl (List.map K10 [b9.fty,t2.fType])]) (by simp only [List.map_nil,K14]) (Kej _ _ e7)) K52 (Or.inr (Qdt Qdp e6) : ([18] : List Nat) = [] ∨ noSh (oI e6) = true) (Q71.args (A1 := [.sl (Q02 (List.map I e6)),sI b9.fneeds]) (A2 := [sI e6,sI b9.fneeds]) (by simp only [List.map_nil,Qdl]) (Ket _ _ e9)) (ai K56 tv)) ?_
   refine rt ?_
   obtain rfl := os h
   exact rq [false]
  refine K8h hc 2 [(1,sL ctx1),(3,.ra 1 0),(5,.ra 2 0),(6,.ra 3 0),(9,.ra 10 0),(56,I t2.fOp),(105,.bool (t2.fOp == 7))] ?_
  refine ic h (fun f0 h => ?_) fun f0 h => ?_
  ·obtain ⟨f1,f2,f3,f4,h⟩ := bq2 h
   refine rs hc Kfe [oN,oN,oN,oN,some (.mk 20 false),some (.call (oI f1) [] 21),oN,oN,some (.call (K1x f3) [.tup []] 1),oN] [(6,.ra 3 0)] [(3,K1w f3)] (ad (Q71.args (A1 := [I 2,.sl (Q02 (List.map K10 [t2.fType,b9.fty]))]) (A2 := [I 2,.sl (List.map K10 [t2.fType,b9.fty])]) (by simp only [List.map_nil,K14]) (Kej _ _ f2)) K52 (Or.inr (Qdt Qdp f1) : ([20] : List Nat) = [] ∨ noSh (oI f1) = true) (Q71.args (A1 := [.sl (Q02 (List.map I f1)),sI b9.fneeds]) (A2 := [sI f1,sI b9.fneeds]) (by simp only [List.map_nil,Qdl]) (Ket _ _ f4)) (ai K56 tv)) ?_
   refine rt ?_
   obtain rfl := os h
   exact rq [false]
  refine K8h hc 2 [(1,sL ctx1),(3,.ra 1 0),(5,.ra 2 0),(6,.ra 3 0),(9,.ra 10 0),(56,I t2.fOp),(116,.bool (t2.fOp == 9))] ?_
  refine ic h (fun f5 h => ?_) fun f5 h => ?_
  ·refine sN ?_
   obtain ⟨f6,f7,f8,f9,h⟩ := bq2 h
   refine rs hc (rx [[0],[0],[0,1],[0,1,2],[0,1,2,3],[0],[0,5],[7],[8]]) [oN,oN,oN,some (.el (I f6)),oN,oN,oN,oc (.bool f8),oN] [(5,.ra 2 0),(6,.ra 3 0),(9,.ra 10 0),(126,.bool (!f8))] [(2,K1u t2),(3,.box [.nils,.nils,I 0,.nils]),(10,K1w b9)] (ai (ix f7) (cq (Kar _ _ f9) K3i tv)) ?_
   rcases is h with ⟨g0,h⟩ | ⟨g0,h⟩
   ·refine cF (!f8) (nF g0) ?_
    refine sk ?_
    obtain ⟨g1,g2,g3,g4,g5,g6,g7,g8,h⟩ := bq4 h
    refine rs hc (rx [[0],[1],[2],[0],[0,3],[0],[0,5],[0,3,4,5,6],[8],[0],[0,9],[0,9,10],[12],[13],[14]]) [oN,oN,oN,oN,oN,oN,oN,some (.mk 22 false),some (.call (oI g1) [] 23),oN,oN,some (.eqv (.no) ⟨[(139,sI g3)],[],[]⟩),some (.call (oI g5) [] 24),some (.call (K1x g7) [.tup []] 1),oN] [(6,.ra 3 0)] [(3,K1w g7)] (ad (Q71.args (A1 := [I (wr (3 + t2.fN)),.sl (Q02 (List.map K10 [t2.fType,b9.fty]))]) (A2 := [I (wr (3 + t2.fN)),.sl (List.map K10 [t2.fType,b9.fty])]) (by simp only [List.map_nil,K14]) (Kej _ _ g2)) K52 (Or.inr (Qdt Qdp g1) : ([22] : List Nat) = [] ∨ noSh (oI g1) = true) (Qd2 (d := 139) I g4) (ai (Qd1 (enc := I) (sz := 1) Qdc g4) (cq (Ke6 _ _ g6) K4s (ab (Q71.args (A1 := [.sl (Q02 (List.map I g1)),.sl (Q02 (List.map I g5))]) (A2 := [sI g1,sI g5]) (by simp only [List.map_nil,Qdl]) (Ket _ _ g8)) K56 tv)))) ?_
    refine rt ?_
    obtain rfl := os h
    exact rq [false]
   refine cT (!f8) (nT g0) ?_
   obtain ⟨g9,i0,h⟩ := Qct h
   refine rs hc none [some (.call (K26 g9) [] 25),oN] [(6,.ra 3 0)] [(3,.box [.rs 25,.rs 26,I g9.ffault,.rs 27]),(25,rI g9.fty),(26,rI g9.fneeds),(27,rI g9.fpath)] (cq (Kec _ _ i0) K4y tv) ?_
   refine vz 25 (Qdl g9.fty) [(6,.ra 3 0)] [(3,.box [sI g9.fty,.rs 26,I g9.ffault,.rs 27]),(26,rI g9.fneeds),(27,rI g9.fpath)] ?_
   refine vz 26 (Qdl g9.fneeds) [(6,.ra 3 0)] [(3,.box [sI g9.fty,sI g9.fneeds,I g9.ffault,.rs 27]),(27,rI g9.fpath)] ?_
   refine vz 27 (Qdl g9.fpath) [(6,.ra 3 0)] [(3,K1w g9)] ?_
   refine rt ?_
   obtain rfl := os h
   exact rq [false]
  refine K8h hc 2 [(1,sL ctx1),(3,.ra 1 0),(5,.ra 2 0),(6,.ra 3 0),(9,.ra 10 0),(56,I t2.fOp),(142,.bool (t2.fOp == 11))] ?_
  refine ic h (fun i1 h => ?_) fun i1 h => ?_
  ·obtain ⟨i2,i3,i4,i5,i6,i7,i8,i9,h⟩ := bq4 h
   refine rs hc (rx [[0],[1],[2],[0],[0,3],[0,3,4],[6],[0],[0],[0,8],[7,8,9],[0],[0,11],[0],[0,13],[15],[16],[17]]) [oN,oN,oN,oN,oN,some (.mk 28 false),some (.call (oI i2) [] 29),oN,oN,some (.eqv (.no) ⟨[(153,I (ctx1.length : Int))],[],[]⟩),some (.call (oI i4) [] 30),oN,oN,oN,oN,some (.call (oI i6) [] 31),some (.call (K1x i8) [.tup []] 1),oN] [(6,.ra 3 0)] [(3,K1w i8)] (ad (Q71.args (A1 := [I (wr (19 + t2.fN)),.sl (Q02 (List.map K10 [b9.fty]))]) (A2 := [I (wr (19 + t2.fN)),.sl (List.map K10 [b9.fty])]) (by simp only [List.map_nil,K14]) (Kej _ _ i3)) K52 (Or.inr (Qdt Qdp i2) : ([28] : List Nat) = [] ∨ noSh (oI i2) = true) (Qcz (d := 153) K10 ctx1) (cq (Ke3 _ _ i5) K4r (ad (Q71.args (A1 := [K1t s0,.sl (Q02 (List.map I i4)),I t2.fN,sI b9.fneeds]) (A2 := [K1t s0,sI i4,I t2.fN,sI b9.fneeds]) (by simp only [List.map_nil,Qdl]) (Keq _ _ i7)) K54 (Or.inr (Qdt Qdp i6) : ([30] : List Nat) = [] ∨ noSh (oI i6) = true) (Q71.args (A1 := [.sl (Q02 (List.map I i2)),.sl (Q02 (List.map I i6))]) (A2 := [sI i2,sI i6]) (by simp only [List.map_nil,Qdl]) (Ket _ _ i9)) (ai K56 tv)))) ?_
   refine rt ?_
   obtain rfl := os h
   exact rq [false]
  refine K8h hc 2 [(1,sL ctx1),(3,.ra 1 0),(5,.ra 2 0),(6,.ra 3 0),(9,.ra 10 0),(161,.bool (t2.fOp == 10))] ?_
  refine ic h (fun j0 h => ?_) fun j0 h => ?_
  ·refine sN ?_
   obtain ⟨j8,j9,k0,k1,h⟩ := bq2 h
   refine rss hc none [oN,oN,some (.el (I j8)),oN,oc (.bool k0),oN] [(1,sL ctx1),(3,.ra 1 0),(5,.ra 2 0),(6,.ra 3 0),(9,.ra 10 0),(168,.bool (!k0))] (ai (ix j9) (cq (Kby _ _ k1) K3u tv)) ?_
   rcases is h with ⟨k2,h⟩ | ⟨k2,h⟩
   ·refine cF (!k0) (nF k2) ?_
    refine sk ?_
    obtain ⟨k4,k5,h⟩ := Qct h
    refine rs hc none [oN,oN,oN,oc (K1x k4),some (.new 32),oN] [(3,.ra 1 0),(6,.ra 3 0),(9,.ra 10 0),(11,.ra 32 0)] [(1,K1s s0),(3,.box [.nils,.nils,I 0,.nils]),(10,K1w b9),(32,K1w k4)] (cq (spec_l3Of_ih _ _ k5) K4w tv) ?_
    refine sN ?_
    refine K8h hc 3 [(3,.ra 1 0),(6,.ra 3 0),(9,.ra 10 0),(11,.ra 32 0),(176,.bool (k4.ffault != 0))] ?_
    refine ic h (fun k6 h => ?_) fun k6 h => ?_
    ·refine rs0 hc 2 [(6,.ra 3 0)] [(3,K1w k4)] ?_
     refine rt ?_
     obtain rfl := os h
     exact rq [false]
    refine sk ?_
    refine sN ?_
    obtain ⟨k7,k8,k9,l0,h⟩ := bq2 h
    refine rss hc (rx [[0],[1],[0],[0,2],[0,2,3],[5],[6]]) [oN,oN,oN,oN,some (.call (oI k7) [] 33),oc (.bool k9),oN] [(3,.ra 1 0),(6,.ra 3 0),(9,.ra 10 0),(11,.ra 32 0),(184,.bool (!k9))] (cq (Kew _ _ k8) K58 (ac (Q71.args (A1 := [sI k4.fty,.sl (Q02 (List.map I k7))]) (A2 := [sI k4.fty,sI k7]) (by simp only [List.map_nil,Qdl]) (Kf3 _ _ l0)) K59 (Or.inr rfl : ([33] : List Nat) = [] ∨ noSh (.bool k9) = true) tv)) ?_
    rcases is h with ⟨l1,h⟩ | ⟨l1,h⟩
    ·refine cF (!k9) (nF l1) ?_
     refine sk ?_
     obtain ⟨l2,l3,l4,l5,l6,l7,l8,l9,h⟩ := bq4 h
     refine rs hc (rx [[0],[1],[2],[0],[0],[0,4],[0],[0,6],[0,6,7],[0,6,7,8],[3,6,7,8,9],[0],[0,11],[13],[14],[15]]) [oN,oN,some (.call (oI l2) [] 34),oN,oN,oN,oN,oN,some (.el (I l4)),oN,oc (I l6),oN,oN,some (.call (oI l8) [] 35),oN,oN] [(6,.ra 3 0)] [(3,.box [.rs 34,.rs 35,I 0,.nils]),(34,rI l2),(35,rI l8)] (cq (Kew _ _ l3) K58 (ai (ix l5) (cq (Kch _ _ l7) K44 (cq (Keq _ _ l9) K54 tv)))) ?_
     refine vz 34 (Qdl l2) [(6,.ra 3 0)] [(3,.box [sI l2,.rs 35,I 0,.nils]),(35,rI l8)] ?_
     refine vz 35 (Qdl l8) [(6,.ra 3 0)] [(3,.box [sI l2,sI l8,I 0,.nils])] ?_
     refine rt ?_
     obtain rfl := os h
     exact rq [false]
    refine cT (!k9) (nT l1) ?_
    obtain ⟨m0,m1,h⟩ := Qct h
    refine rs hc none [some (.call (K26 m0) [] 36),oN] [(6,.ra 3 0)] [(3,.box [.rs 36,.rs 37,I m0.ffault,.rs 38]),(36,rI m0.fty),(37,rI m0.fneeds),(38,rI m0.fpath)] (cq (Kec _ _ m1) K4y tv) ?_
    refine vz 36 (Qdl m0.fty) [(6,.ra 3 0)] [(3,.box [sI m0.fty,.rs 37,I m0.ffault,.rs 38]),(37,rI m0.fneeds),(38,rI m0.fpath)] ?_
    refine vz 37 (Qdl m0.fneeds) [(6,.ra 3 0)] [(3,.box [sI m0.fty,sI m0.fneeds,I m0.ffault,.rs 38]),(38,rI m0.fpath)] ?_
    refine vz 38 (Qdl m0.fpath) [(6,.ra 3 0)] [(3,K1w m0)] ?_
    refine rt ?_
    obtain rfl := os h
    exact rq [false]
   refine cT (!k0) (nT k2) ?_
   obtain ⟨m2,m3,h⟩ := Qct h
   refine rs hc none [some (.call (K26 m2) [] 39),oN] [(6,.ra 3 0)] [(3,.box [.rs 39,.rs 40,I m2.ffault,.rs 41]),(39,rI m2.fty),(40,rI m2.fneeds),(41,rI m2.fpath)] (cq (Kec _ _ m3) K4y tv) ?_
   refine vz 39 (Qdl m2.fty) [(6,.ra 3 0)] [(3,.box [sI m2.fty,.rs 40,I m2.ffault,.rs 41]),(40,rI m2.fneeds),(41,rI m2.fpath)] ?_
   refine vz 40 (Qdl m2.fneeds) [(6,.ra 3 0)] [(3,.box [sI m2.fty,sI m2.fneeds,I m2.ffault,.rs 41]),(41,rI m2.fpath)] ?_
   refine vz 41 (Qdl m2.fpath) [(6,.ra 3 0)] [(3,K1w m2)] ?_
   refine rt ?_
   obtain rfl := os h
   exact rq [false]
  refine sk ?_
  obtain ⟨m4,m5,h⟩ := Qct h
  refine rs hc none [oN,oN,oN,oN,oc (K1x m4),oN] [(6,.ra 3 0)] [(3,K1w m4)] (cq (spec_l3Taken_ih _ _ m5) K5b tv) ?_
  refine rt ?_
  obtain rfl := os h
  exact rq [false]
 ·rintro spec_l3Of_f spec_l3Of_ih ⟨s0,ctx1,t2,a3⟩ r h
  refine b0 Tryz.f153 K5a 170 [(0,K1t s0),(1,sL ctx1),(2,K1v t2),(3,K1x a3)] fun c hc => ?_
  refine rs hc none [some (.new 1),some (.new 2),some (.new 3),some (.new 4)] [(1,sL ctx1),(4,.ra 1 0),(6,.ra 2 0),(7,.ra 3 0),(8,.ra 4 0)] [(1,K1s s0),(2,K1u t2),(3,K1w a3),(4,.box [.nils,.nils,I 0,.nils])] tv ?_
  obtain ⟨m6,m7,h⟩ := Qct h
  refine rss hc none [oN,oN,some (.el (I m6)),oN,oN] [(1,sL ctx1),(4,.ra 1 0),(6,.ra 2 0),(7,.ra 3 0),(8,.ra 4 0),(9,I m6)] (ai (ix m7) tv) ?_
  refine sN ?_
  refine bk 0 ?_
  refine sN ?_
  obtain ⟨m8,m9,h⟩ := Qct h
  refine Wp.into (x := .normal) (mkS [(1,sL ctx1),(4,.ra 1 0),(6,.ra 2 0),(7,.ra 3 0),(8,.ra 4 0),(9,I m6),(21,.bool m8)] [(1,K1s s0),(2,K1u t2),(3,K1w a3),(4,.box [.nils,.nils,I 0,.nils])]) ?_ ?_
  ·replace h := m9
   rcases is h with ⟨n0,h⟩ | ⟨n0,h⟩
   ·refine rgs hc none [oN,oN,oN,oN,oN,oN,oT,oN] [(1,sL ctx1),(4,.ra 1 0),(6,.ra 2 0),(7,.ra 3 0),(8,.ra 4 0),(9,I m6),(21,.bool (m6 != 1))] (ar 3 n0 tv) ?_
    obtain rfl := os h
    exact Qcf.mk
   refine rgs hc none [oN,oN,oN,oN,o_,o_,oF,oN] [(1,sL ctx1),(4,.ra 1 0),(6,.ra 2 0),(7,.ra 3 0),(8,.ra 4 0),(9,I m6),(21,.bool false)] (ar 2 (neT n0) (ai n0 tv)) ?_
   obtain rfl := os h
   exact Qcf.mk
  clear m9
  refine ic h (fun b6 h => ?_) fun b6 h => ?_
  ·obtain ⟨n1,n2,h⟩ := Qct h
   refine rs hc none [some (.call (K26 n1) [] 5),oN] [(8,.ra 4 0)] [(4,.box [.rs 5,.rs 6,I n1.ffault,.rs 7]),(5,rI n1.fty),(6,rI n1.fneeds),(7,rI n1.fpath)] (cq (Kec _ _ n2) K4y tv) ?_
   refine vz 5 (Qdl n1.fty) [(8,.ra 4 0)] [(4,.box [sI n1.fty,.rs 6,I n1.ffault,.rs 7]),(6,rI n1.fneeds),(7,rI n1.fpath)] ?_
   refine vz 6 (Qdl n1.fneeds) [(8,.ra 4 0)] [(4,.box [sI n1.fty,sI n1.fneeds,I n1.ffault,.rs 7]),(7,rI n1.fpath)] ?_
   refine vz 7 (Qdl n1.fpath) [(8,.ra 4 0)] [(4,K1w n1)] ?_
   refine rt ?_
   obtain rfl := os h
   exact rq [false]
  refine sN ?_
  obtain ⟨n3,n4,h⟩ := Qct h
  refine Wp.into (x := .normal) (mkS [(1,sL ctx1),(4,.ra 1 0),(6,.ra 2 0),(7,.ra 3 0),(8,.ra 4 0),(9,I m6),(30,.bool n3)] [(1,K1s s0),(2,K1u t2),(3,K1w a3),(4,.box [.nils,.nils,I 0,.nils])]) ?_ ?_
  ·replace h := n4
   rcases is h with ⟨n5,h⟩ | ⟨n5,h⟩
   ·refine rgs hc none [oN,oN,oN,oN,oN,oN,oT,oN] [(1,sL ctx1),(4,.ra 1 0),(6,.ra 2 0),(7,.ra 3 0),(8,.ra 4 0),(9,I m6),(30,.bool (m6 != 2))] (ar 3 n5 tv) ?_
    obtain rfl := os h
    exact Qcf.mk
   refine rgs hc none [oN,oN,oN,oN,o_,o_,oF,oN] [(1,sL ctx1),(4,.ra 1 0),(6,.ra 2 0),(7,.ra 3 0),(8,.ra 4 0),(9,I m6),(30,.bool false)] (ar 2 (neT n5) (ai n5 tv)) ?_
   obtain rfl := os h
   exact Qcf.mk
  clear n4
  refine ic h (fun n6 h => ?_) fun n6 h => ?_
  ·obtain ⟨n7,n8,h⟩ := Qct h
   refine rs hc none [some (.call (K26 n7) [] 8),oN] [(8,.ra 4 0)] [(4,.box [.rs 8,.rs 9,I n7.ffault,.rs 10]),(8,rI n7.fty),(9,rI n7.fneeds),(10,rI n7.fpath)] (cq (Kec _ _ n8) K4y tv) ?_
   refine vz 8 (Qdl n7.fty) [(8,.ra 4 0)] [(4,.box [sI n7.fty,.rs 9,I n7.ffault,.rs 10]),(9,rI n7.fneeds),(10,rI n7.fpath)] ?_
   refine vz 9 (Qdl n7.fneeds) [(8,.ra 4 0)] [(4,.box [sI n7.fty,sI n7.fneeds,I n7.ffault,.rs 10]),(10,rI n7.fpath)] ?_
   refine vz 10 (Qdl n7.fpath) [(8,.ra 4 0)] [(4,K1w n7)] ?_
   refine rt ?_
   obtain rfl := os h
   exact rq [false]
  refine sN ?_
  obtain ⟨n9,o0,h⟩ := Qct h
  refine Wp.into (x := .normal) (mkS [(1,sL ctx1),(4,.ra 1 0),(6,.ra 2 0),(7,.ra 3 0),(8,.ra 4 0),(9,I m6),(39,.bool n9)] [(1,K1s s0),(2,K1u t2),(3,K1w a3),(4,.box [.nils,.nils,I 0,.nils])]) ?_ ?_
  ·replace h := o0
   rcases is h with ⟨o1,h⟩ | ⟨o1,h⟩
   ·obtain ⟨o2,o3,h⟩ := Qct h
    refine rgs hc none [oN,oN,oN,oN,oN,oc (.bool o2),oN,oT,oN] [(1,sL ctx1),(4,.ra 1 0),(6,.ra 2 0),(7,.ra 3 0),(8,.ra 4 0),(9,I m6),(39,.bool (!o2))] (ar 2 o1 (cq (Kc1 _ _ o3) K3w (ar 2 o1 tv))) ?_
    obtain rfl := os h
    exact Qcf.mk
   refine rgs hc none [oN,oN,oN,oN,o_,o_,o_,oF,oN] [(1,sL ctx1),(4,.ra 1 0),(6,.ra 2 0),(7,.ra 3 0),(8,.ra 4 0),(9,I m6),(39,.bool false)] (ar 3 (neT o1) (ai o1 tv)) ?_
   obtain rfl := os h
   exact Qcf.mk
  clear o0
  refine ic h (fun o4 h => ?_) fun o4 h => ?_
  ·obtain ⟨o5,o6,h⟩ := Qct h
   refine rs hc none [some (.call (K26 o5) [] 11),oN] [(8,.ra 4 0)] [(4,.box [.rs 11,.rs 12,I o5.ffault,.rs 13]),(11,rI o5.fty),(12,rI o5.fneeds),(13,rI o5.fpath)] (cq (Kec _ _ o6) K4y tv) ?_
   refine vz 11 (Qdl o5.fty) [(8,.ra 4 0)] [(4,.box [sI o5.fty,.rs 12,I o5.ffault,.rs 13]),(12,rI o5.fneeds),(13,rI o5.fpath)] ?_
   refine vz 12 (Qdl o5.fneeds) [(8,.ra 4 0)] [(4,.box [sI o5.fty,sI o5.fneeds,I o5.ffault,.rs 13]),(13,rI o5.fpath)] ?_
   refine vz 13 (Qdl o5.fpath) [(8,.ra 4 0)] [(4,K1w o5)] ?_
   refine rt ?_
   obtain rfl := os h
   exact rq [false]
  refine sk ?_
  refine sN ?_
  obtain ⟨o7,o8,h⟩ := Qct h
  refine rss hc none [oN,oN,oN,oc (.bool o7),oN] [(1,sL ctx1),(4,.ra 1 0),(6,.ra 2 0),(7,.ra 3 0),(8,.ra 4 0),(9,I m6),(53,.bool (!o7))] (cq (Kar _ _ o8) K3i tv) ?_
  rcases is h with ⟨o9,h⟩ | ⟨o9,h⟩
  ·refine cF (!o7) (nF o9) ?_
   refine sk ?_
   obtain ⟨p0,p1,h⟩ := Qct h
   refine rs hc none [oN,oN,some (.call (oI p0) [] 14),some (.mk 15 true),oN] [(1,sL ctx1),(4,.ra 1 0),(6,.ra 2 0),(7,.ra 3 0),(8,.ra 4 0),(9,I m6),(10,.rs 15)] [(1,K1s s0),(2,K1u t2),(3,K1w a3),(4,.box [.nils,.nils,I 0,.nils]),(15,.arr (List.map K15 [p0]))] (cq (Kew _ _ p1) K58 tv) ?_
   refine sN ?_
   refine K8h hc 3 [(1,sL ctx1),(4,.ra 1 0),(6,.ra 2 0),(7,.ra 3 0),(8,.ra 4 0),(9,I m6),(10,.rs 15),(61,.bool (t2.fOp == 5))] ?_
   obtain ⟨p2,p3,h⟩ := Qct h
   refine Wp.into (x := .normal) (mkS [(1,sL ctx1),(4,.ra 1 0),(6,.ra 2 0),(7,.ra 3 0),(8,.ra 4 0),(9,I m6),(10,.rs 18)] [(1,K1s s0),(2,K1u t2),(3,K1w a3),(4,.box [.nils,.nils,I 0,.nils]),(18,.arr (List.map K15 p2))]) ?_ ?_
   ·replace h := p3
    refine ic h (fun c5 h => ?_) fun c5 h => ?_
    ·obtain ⟨p4,p5,p6,p7,h⟩ := bq2 h
     refine rg hc (rx [[0],[1],[2],[0],[0,3],[5],[6],[7]]) [oN,oN,some (.call (oI p4) [] 16),oN,oN,some (.call (oI p6) [] 17),some (.mk 18 true),oN] [(1,sL ctx1),(4,.ra 1 0),(6,.ra 2 0),(7,.ra 3 0),(8,.ra 4 0),(9,I m6),(10,.rs 18)] [(1,K1s s0),(2,K1u t2),(3,K1w a3),(4,.box [.nils,.nils,I 0,.nils]),(18,.arr (List.map K15 [p4,p6]))] (cq (Kew _ _ p5) K58 (cq (Kew _ _ p7) K58 tv)) ?_
     obtain rfl := os h
     exact Qcf.mk
    refine sk ?_
    obtain rfl := os h
    exact iv [(18,15)]
   clear p3
   refine sN ?_
   refine vz 18 (K19 p2) [(1,sL ctx1),(4,.ra 1 0),(6,.ra 2 0),(7,.ra 3 0),(8,.ra 4 0),(9,I m6),(10,sL p2)] [(1,K1s s0),(2,K1u t2),(3,K1w a3),(4,.box [.nils,.nils,I 0,.nils])] ?_
   obtain ⟨p8,p9,q0,q1,h⟩ := bq2 h
   refine rg hc (rx [[0],[0],[0],[0,1,2],[0],[5],[0],[7]]) [oN,oN,oN,some (.call (.osl (List.map K10 p8)) [] 20),oN,some (.call (K1x q0) [.tup []] 1),some (.new 21),oN] [(1,sL ctx1),(4,.ra 1 0),(6,.ra 2 0),(7,.ra 3 0),(8,.ra 4 0),(9,I m6),(10,sL p2),(11,.ra 21 0)] [(1,K1s s0),(2,K1u t2),(3,K1w a3),(4,.box [.nils,.nils,I 0,.nils]),(21,K1w q0)] (cq (Ke9 _ _ p9) K4u (ab (Q71.args (A1 := [K1t s0,.sl (Q02 (List.map K10 p8)),K1v t2,I 1]) (A2 := [K1t s0,sL p8,K1v t2,I 1]) (by simp only [List.map_nil,K14]) (spec_l3Of_ih _ _ q1)) K4w tv)) ?_
   refine sN ?_
   refine K8h hc 3 [(1,sL ctx1),(4,.ra 1 0),(6,.ra 2 0),(7,.ra 3 0),(8,.ra 4 0),(9,I m6),(10,sL p2),(11,.ra 21 0),(77,.bool (q0.ffault != 0))] ?_
   refine ic h (fun d6 h => ?_) fun d6 h => ?_
   ·refine rs0 hc 2 [(8,.ra 4 0)] [(4,K1w q0)] ?_
    refine rt ?_
    obtain rfl := os h
    exact rq [false]
   refine sk ?_
   refine rss hc none [oN,some (.eqv (.no) ⟨[(80,I (p2.length : Int))],[],[]⟩),oN] [(1,sL ctx1),(4,.ra 1 0),(6,.ra 2 0),(7,.ra 3 0),(8,.ra 4 0),(9,I m6),(11,.ra 21 0),(12,I (p2.length : Int))] (ai (Qcz (d := 80) K10 p2) tv) ?_
   refine K8h hc 3 [(1,sL ctx1),(4,.ra 1 0),(6,.ra 2 0),(7,.ra 3 0),(8,.ra 4 0),(9,I m6),(11,.ra 21 0),(12,I (p2.length : Int)),(13,I t2.fN)] ?_
   obtain ⟨q2,q3,q4,q5,h⟩ := bq2 h
   refine rs hc none [oN,oN,oN,some (.eqv (.no) ⟨[(86,sI q2)],[],[]⟩),some (.call (oI q4) [] 22),oN] [(1,sL ctx1),(4,.ra 1 0),(6,.ra 2 0),(7,.ra 3 0),(8,.ra 4 0),(9,I m6),(11,.ra 21 0),(13,I t2.fN),(14,.rs 22)] [(1,K1s s0),(2,K1u t2),(3,K1w a3),(4,.box [.nils,.nils,I 0,.nils]),(21,K1w q0),(22,rI q4)] (ab (Qd2 (d := 86) I q3) (Qd1 (enc := I) (sz := 1) Qdc q3) (cq (Ke6 _ _ q5) K4s tv)) ?_
   refine K8h hc 1 [(1,sL ctx1),(4,.ra 1 0),(6,.ra 2 0),(7,.ra 3 0),(8,.ra 4 0),(9,I m6),(11,.ra 21 0),(13,I t2.fN),(14,.rs 22),(15,.bool true)] ?_
   refine sN ?_
   refine K8h hc 2 [(1,sL ctx1),(4,.ra 1 0),(6,.ra 2 0),(7,.ra 3 0),(8,.ra 4 0),(9,I m6),(11,.ra 21 0),(13,I t2.fN),(14,.rs 22),(15,.bool true),(89,I t2.fOp)] ?_
   refine bk 1 ?_
   refine K8h hc 2 [(1,sL ctx1),(4,.ra 1 0),(6,.ra 2 0),(7,.ra 3 0),(8,.ra 4 0),(9,I m6),(11,.ra 21 0),(13,I t2.fN),(14,.rs 22),(15,.bool true),(89,I t2.fOp),(90,.bool (t2.fOp == 12))] ?_
   obtain ⟨fl,q6,h⟩ := Qct h
   refine flw (Kfd c s0 ctx1 t2 a3 q0 fl) ?_ (fun hF => ?_)
   ·replace h := q6
    refine ic h (fun e5 h => ?_) fun e5 h => ?_
    ·obtain ⟨q7,q8,q9,r0,h⟩ := bq2 h
     refine rgs hc (rx [[0],[0],[0,1],[0],[0,3],[5],[6]]) [oN,oN,oN,oN,oc (I q7),oc (I q9),oN] [(1,sL ctx1),(4,.ra 1 0),(6,.ra 2 0),(7,.ra 3 0),(8,.ra 4 0),(11,.ra 21 0),(13,I q9),(14,.rs 22),(15,.bool true)] (cq (Kch _ _ q8) K44 (cq (Kao _ _ r0) K3g tv)) ?_
     obtain rfl := os h
     exact Qcf.mk
    refine K8h hc 2 [(1,sL ctx1),(4,.ra 1 0),(6,.ra 2 0),(7,.ra 3 0),(8,.ra 4 0),(11,.ra 21 0),(13,I t2.fN),(14,.rs 22),(15,.bool true),(89,I t2.fOp),(98,.bool (t2.fOp == 5))] ?_
    obtain ⟨fl,r1,h⟩ := Qct h
    refine flw (Kfc c s0 ctx1 t2 a3 q0 fl) ?_ (fun hF => ?_)
    ·replace h := r1
     refine ic h (fun f0 h => ?_) fun f0 h => ?_
     ·obtain ⟨r2,r3,r4,r5,h⟩ := bq2 h
      refine rgs hc Kff [oN,oN,oN,some (.el (I r2)),oN,oN,oc (.bool r4),oN] [(1,sL ctx1),(4,.ra 1 0),(6,.ra 2 0),(7,.ra 3 0),(8,.ra 4 0),(11,.ra 21 0),(13,I t2.fN),(14,.rs 22),(15,.bool r4)] (ai (ix r3) (cq (Kar _ _ r5) K3i tv)) ?_
      obtain rfl := os h
      exact Qcf.mk
     refine K8h hc 2 [(1,sL ctx1),(4,.ra 1 0),(6,.ra 2 0),(7,.ra 3 0),(8,.ra 4 0),(11,.ra 21 0),(13,I t2.fN),(14,.rs 22),(15,.bool true),(107,.bool (t2.fOp == 8))] ?_
     obtain ⟨fl,r6,h⟩ := Qct h
     refine flw (Kfb c s0 ctx1 t2 a3 q0 fl) ?_ (fun hF => ?_)
     ·replace h := r6
      refine ic h (fun f5 h => ?_) fun f5 h => ?_
      ·obtain ⟨r7,r8,r9,s1,e8,e9,h⟩ := bq3 h
       refine rs hc (rx [[0],[0],[0],[0,2],[0,2,3],[0,2,3,4],[0,1,2,3,4,5],[0],[8],[0],[10]]) [oN,oN,oN,oN,some (.call (oI r7) [] 23),some (.mk 24 true),some (.call (.osl (List.map K10 r9)) [.tup []] 25),oN,some (.call (K1x e8) [.tup []] 1),some (.new 26),oN] [(1,sL ctx1),(4,.ra 1 0),(6,.ra 2 0),(7,.ra 3 0),(8,.ra 4 0),(11,.ra 21 0),(13,I t2.fN),(14,.rs 22),(16,.ra 26 0)] [(1,K1s s0),(2,K1u t2),(3,K1w a3),(4,.box [.nils,.nils,I 0,.nils]),(21,K1w q0),(22,rI q4),(26,K1w e8)] (cq (Kew _ _ r8) K58 (ad (Q71.args (A1 := [sL ctx1,.sl (Q02 (List.map K15 [r7]))]) (A2 := [sL ctx1,.sl (List.map K10 [r7])]) (by simp only [List.map_nil,K19]) (Ke9 _ _ s1)) K4u (Q71.args (A1 := [K1t s0,.sl (Q02 (List.map K10 r9)),K1v t2,I 2]) (A2 := [K1t s0,sL r9,K1v t2,I 2]) (by simp only [List.map_nil,K14]) (spec_l3Of_ih _ _ e9)) K4w tv)) ?_
       refine sN ?_
       refine K8h hc 3 [(1,sL ctx1),(4,.ra 1 0),(6,.ra 2 0),(7,.ra 3 0),(8,.ra 4 0),(11,.ra 21 0),(13,I t2.fN),(14,.rs 22),(16,.ra 26 0),(120,.bool (e8.ffault != 0))] ?_
       refine ic h (fun g0 h => ?_) fun g0 h => ?_
       ·refine rs0 hc 2 [(8,.ra 4 0)] [(4,K1w e8)] ?_
        refine rt ?_
        obtain rfl := os h
        exact re [false]
       refine sk ?_
       refine sN ?_
       obtain ⟨s2,s3,h⟩ := Qct h
       refine rss hc none [oN,oN,oN,oN,oc (.bool s2),oN] [(1,sL ctx1),(4,.ra 1 0),(6,.ra 2 0),(7,.ra 3 0),(8,.ra 4 0),(11,.ra 21 0),(13,I t2.fN),(14,.rs 22),(16,.ra 26 0),(127,.bool (!s2))] (cq (Kf3 _ _ s3) K59 tv) ?_
       rcases is h with ⟨i1,h⟩ | ⟨i1,h⟩
       ·refine cF (!s2) (nF i1) ?_
        refine sk ?_
        obtain ⟨s4,s5,s6,s7,h⟩ := bq2 h
        refine rss hc Kff [oN,oN,oN,some (.el (I s4)),oN,oN,oc (.bool s6),oN] [(1,sL ctx1),(4,.ra 1 0),(6,.ra 2 0),(7,.ra 3 0),(8,.ra 4 0),(11,.ra 21 0),(13,I t2.fN),(14,.rs 22),(15,.bool s6),(16,.ra 26 0)] (ai (ix s5) (cq (Kar _ _ s7) K3i tv)) ?_
        obtain ⟨s8,s9,t0,t1,h⟩ := bq2 h
        refine rg hc (rx [[0],[0],[0],[0,2],[0,2,3],[5],[6]]) [oN,oN,oN,oN,some (.eqv (.no) ⟨[(140,sI s8)],[],[]⟩),some (.call (oI t0) [] 27),oN] [(1,sL ctx1),(4,.ra 1 0),(6,.ra 2 0),(7,.ra 3 0),(8,.ra 4 0),(11,.ra 21 0),(13,I t2.fN),(14,.rs 27),(15,.bool s6)] [(1,K1s s0),(2,K1u t2),(3,K1w a3),(4,.box [.nils,.nils,I 0,.nils]),(21,K1w q0),(27,rI t0)] (ad (Qd2 (d := 140) I s9) (Qd1 (enc := I) (sz := 1) Qdc s9) (Q71.args (A1 := [K1t s0,.sl (Q02 (List.map I q4)),sI s8]) (A2 := [K1t s0,sI q4,sI s8]) (by simp only [List.map_nil,Qdl]) (Kfa _ _ t1)) K5e (ai (Or.inr (Qdt Qdp t0) : ([22] : List Nat) = [] ∨ noSh (oI t0) = true) tv)) ?_
        obtain rfl := os h
        exact Qcf.mk
       refine cT (!s2) (nT i1) ?_
       obtain ⟨t3,t4,h⟩ := Qct h
       refine rs hc none [some (.call (K26 t3) [] 28),oN] [(8,.ra 4 0)] [(4,.box [.rs 28,.rs 29,I t3.ffault,.rs 30]),(28,rI t3.fty),(29,rI t3.fneeds),(30,rI t3.fpath)] (cq (Kec _ _ t4) K4y tv) ?_
       refine vz 28 (Qdl t3.fty) [(8,.ra 4 0)] [(4,.box [sI t3.fty,.rs 29,I t3.ffault,.rs 30]),(29,rI t3.fneeds),(30,rI t3.fpath)] ?_
       refine vz 29 (Qdl t3.fneeds) [(8,.ra 4 0)] [(4,.box [sI t3.fty,sI t3.fneeds,I t3.ffault,.rs 30]),(30,rI t3.fpath)] ?_
       refine vz 30 (Qdl t3.fpath) [(8,.ra 4 0)] [(4,K1w t3)] ?_
       refine rt ?_
       obtain rfl := os h
       exact re [false]
      refine sk ?_
      obtain rfl := os h
      exact iv [(27,22)]
     rcases fl with ⟨t5,t6⟩ | r
     ·refine Wp.into (x := .normal) (mkS [(1,sL ctx1),(4,.ra 1 0),(6,.ra 2 0),(7,.ra 3 0),(8,.ra 4 0),(11,.ra 21 0),(13,I t2.fN),(14,.rs 27),(15,.bool t6)] [(1,K1s s0),(2,K1u t2),(3,K1w a3),(4,.box [.nils,.nils,I 0,.nils]),(21,K1w q0),(27,rI t5)]) hF ?_
      obtain rfl := os h
      exact iv [(22,27)]
     refine Wp.mono hF ?_
     rintro _ _ ⟨rfl,hfin⟩
     obtain rfl := os h
     exact ⟨rfl,hfin⟩
    rcases fl with ⟨t7,t8⟩ | r
    ·refine Wp.into (x := .normal) (mkS [(1,sL ctx1),(4,.ra 1 0),(6,.ra 2 0),(7,.ra 3 0),(8,.ra 4 0),(11,.ra 21 0),(13,I t2.fN),(14,.rs 22),(15,.bool t8)] [(1,K1s s0),(2,K1u t2),(3,K1w a3),(4,.box [.nils,.nils,I 0,.nils]),(21,K1w q0),(22,rI t7)]) hF ?_
     obtain rfl := os h
     exact Qcf.mk
    refine Wp.mono hF ?_
    rintro _ _ ⟨rfl,hfin⟩
    obtain rfl := os h
    exact ⟨rfl,hfin⟩
   rcases fl with ⟨t9,u0,u1⟩ | r
   ·refine Wp.into (x := .normal) (mkS [(1,sL ctx1),(4,.ra 1 0),(6,.ra 2 0),(7,.ra 3 0),(8,.ra 4 0),(11,.ra 21 0),(13,I t9),(14,.rs 22),(15,.bool u1)] [(1,K1s s0),(2,K1u t2),(3,K1w a3),(4,.box [.nils,.nils,I 0,.nils]),(21,K1w q0),(22,rI u0)]) hF ?_
    refine sN ?_
    refine sN ?_
    obtain ⟨u2,u3,h⟩ := Qct h
    refine Wp.into (x := .normal) (mkS [(1,sL ctx1),(4,.ra 1 0),(6,.ra 2 0),(7,.ra 3 0),(8,.ra 4 0),(11,.ra 21 0),(14,.rs 22),(153,.bool u2)] [(1,K1s s0),(2,K1u t2),(3,K1w a3),(4,.box [.nils,.nils,I 0,.nils]),(21,K1w q0),(22,rI u0)]) ?_ ?_
    ·replace h := u3
     rcases is h with ⟨u4,h⟩ | ⟨u4,h⟩
     ·obtain ⟨u5,u6,u7,u8,h⟩ := bq2 h
      refine rgs hc Kfg [oN,oN,oN,oN,oN,oN,some (.el (I u5)),oN,oN,oc (.bool u7),oN,oF] [(1,sL ctx1),(4,.ra 1 0),(6,.ra 2 0),(7,.ra 3 0),(8,.ra 4 0),(11,.ra 21 0),(14,.rs 22),(153,.bool (!u7))] (ar 4 (nF u4) (ai (ix u6) (ar 3 (nF u4) (cq (Kar _ _ u8) K3i (ar 2 (nF u4) tv))))) ?_
      obtain rfl := os h
      exact Qcf.mk
     refine rgs hc Kfg [oN,oN,oN,o_,o_,o_,o_,o_,o_,o_,o_,oT] [(1,sL ctx1),(4,.ra 1 0),(6,.ra 2 0),(7,.ra 3 0),(8,.ra 4 0),(11,.ra 21 0),(14,.rs 22),(153,.bool true)] (ar 8 (neF (nT u4)) (ai (nT u4) tv)) ?_
     obtain rfl := os h
     exact Qcf.mk
    clear u3
    refine ic h (fun u9 h => ?_) fun u9 h => ?_
    ·obtain ⟨v0,v1,h⟩ := Qct h
     refine rs hc none [some (.call (K26 v0) [] 31),oN] [(8,.ra 4 0)] [(4,.box [.rs 31,.rs 32,I v0.ffault,.rs 33]),(31,rI v0.fty),(32,rI v0.fneeds),(33,rI v0.fpath)] (cq (Kec _ _ v1) K4y tv) ?_
     refine vz 31 (Qdl v0.fty) [(8,.ra 4 0)] [(4,.box [sI v0.fty,.rs 32,I v0.ffault,.rs 33]),(32,rI v0.fneeds),(33,rI v0.fpath)] ?_
     refine vz 32 (Qdl v0.fneeds) [(8,.ra 4 0)] [(4,.box [sI v0.fty,sI v0.fneeds,I v0.ffault,.rs 33]),(33,rI v0.fpath)] ?_
     refine vz 33 (Qdl v0.fpath) [(8,.ra 4 0)] [(4,K1w v0)] ?_
     refine rt ?_
     obtain rfl := os h
     exact rq [false]
    refine sk ?_
    obtain ⟨v2,v3,v4,v5,v6,v7,h⟩ := bq3 h
    refine rs hc (rx [[0],[1],[0],[0],[0],[0,4],[0,4,5],[0],[0,7],[0],[0,9],[0,3,4,5,6,7,8,9,10],[0],[0,2,3,4,5,6,7,8,9,10,11,12],[14],[15]]) [oN,oN,oN,oN,oN,some (.eqv (.no) ⟨[(160,I (ctx1.length : Int))],[],[]⟩),some (.call (oI v2) [] 34),oN,oN,oN,oN,some (.call (oI v4) [] 35),oN,some (.call (oI v6) [] 36),oN,oN] [(8,.ra 4 0)] [(4,.box [sI q0.fty,.rs 36,I 0,.nils]),(36,rI v6)] (ai (Qcz (d := 160) K10 ctx1) (cq (Ke3 _ _ v3) K4r (ad (Q71.args (A1 := [K1t s0,.sl (Q02 (List.map I v2)),I t2.fN,sI a3.fneeds]) (A2 := [K1t s0,sI v2,I t2.fN,sI a3.fneeds]) (by simp only [List.map_nil,Qdl]) (Keq _ _ v5)) K54 (Or.inr (Qdt Qdp v4) : ([34] : List Nat) = [] ∨ noSh (oI v4) = true) (Q71.args (A1 := [K1t s0,.sl (Q02 (List.map I v4)),I 1,.sl (Q02 (List.map I u0))]) (A2 := [K1t s0,sI v4,I 1,sI u0]) (by simp only [List.map_nil,Qdl]) (Keq _ _ v7)) (ab K54 (Or.inr (Qdt Qdp v6) : ([35,22] : List Nat) = [] ∨ noSh (oI v6) = true) tv)))) ?_
    refine vz 36 (Qdl v6) [(8,.ra 4 0)] [(4,.box [sI q0.fty,sI v6,I 0,.nils])] ?_
    refine rt ?_
    obtain rfl := os h
    exact rq [false]
   refine Wp.mono hF ?_
   rintro _ _ ⟨rfl,hfin⟩
   obtain rfl := os h
   exact ⟨.inl rfl,hfin⟩
  refine cT (!o7) (nT o9) ?_
  obtain ⟨v8,v9,h⟩ := Qct h
  refine rs hc none [some (.call (K26 v8) [] 37),oN] [(8,.ra 4 0)] [(4,.box [.rs 37,.rs 38,I v8.ffault,.rs 39]),(37,rI v8.fty),(38,rI v8.fneeds),(39,rI v8.fpath)] (cq (Kec _ _ v9) K4y tv) ?_
  refine vz 37 (Qdl v8.fty) [(8,.ra 4 0)] [(4,.box [sI v8.fty,.rs 38,I v8.ffault,.rs 39]),(38,rI v8.fneeds),(39,rI v8.fpath)] ?_
  refine vz 38 (Qdl v8.fneeds) [(8,.ra 4 0)] [(4,.box [sI v8.fty,sI v8.fneeds,I v8.ffault,.rs 39]),(39,rI v8.fpath)] ?_
  refine vz 39 (Qdl v8.fpath) [(8,.ra 4 0)] [(4,K1w v8)] ?_
  refine rt ?_
  obtain rfl := os h
  exact rq [false]
 ·rintro spec_l3Tell_f spec_l3Tell_ih ⟨s0,ctx1,t2,k3⟩ r h
  refine b0 Tryz.f143 K4v 28 [(0,K1t s0),(1,sL ctx1),(2,K1v t2),(3,I k3)] fun c hc => ?_
  refine rs hc none [some (.new 1),some (.new 2),some (.new 3)] [(1,sL ctx1),(3,I k3),(4,.ra 1 0),(6,.ra 2 0),(8,.ra 3 0)] [(1,K1s s0),(2,K1u t2),(3,.box [.nils,.nils,I 0,.nils])] tv ?_
  obtain ⟨w0,w1,w2,w3,h⟩ := bq2 h
  refine rs hc (rx [[0],[0],[0],[0,2],[0],[0,2,3,4],[0,2,3,4,5],[7],[0],[9]]) [oN,oN,oN,oN,oN,some (.el (K1v w0)),oN,oc (K1x w2),some (.new 4),oN] [(3,I k3),(8,.ra 3 0),(9,.ra 4 0)] [(3,.box [.nils,.nils,I 0,.nils]),(4,K1w w2)] (ai (Qcx w1 (K0n w0)) (cq (spec_l3Tell_ih _ _ w3) K5c tv)) ?_
  refine sN ?_
  refine K8h hc 3 [(3,I k3),(8,.ra 3 0),(9,.ra 4 0),(20,.bool (w2.ffault != 0))] ?_
  obtain ⟨w4,w5,h⟩ := Qct h
  refine Wp.into (x := .normal) (mkS [(8,.ra 3 0),(9,.ra 4 0)] [(3,.box [.nils,.nils,I 0,.nils]),(4,.box [sI w2.fty,sI w2.fneeds,I w2.ffault,sI w4])]) ?_ ?_
  ·replace h := w5
   refine ic h (fun a0 h => ?_) fun a0 h => ?_
   ·obtain ⟨_,w6,h⟩ := Qct h
    refine rg hc none [oN,some (.mk 5 true),oN,oN,some (.eqv (.mk 6 true) ⟨[(25,.rs 6)],[(6,some (rI ([k3] ++ w2.fpath))),(5,none)],[6]⟩),oN,oN] [(8,.ra 3 0),(9,.ra 4 0)] [(3,.box [.nils,.nils,I 0,.nils]),(4,.box [sI w2.fty,sI w2.fneeds,I w2.ffault,.rs 6]),(6,rI ([k3] ++ w2.fpath))] (ab (congrArg (fun z => (⟨[(25,.rs 6)],[(6,some (.arr z)),(5,none)],[6]⟩ : Wr)) ((List.map_append).symm : (List.map I [k3]) ++ (List.map I w2.fpath) = List.map I ([k3] ++ w2.fpath))) (Qd7 (enc1 := I) (enc2 := I) (e1 := [k3]) (e2 := w2.fpath) (sz := 1) Qdg Qdg w6) tv) ?_
    obtain rfl := os h
    exact Qcf.view (fun a w hv => SRx.renL [] (SRx.frzC 6 (xs := List.map I ([k3] ++ w2.fpath)) (xs' := List.map I ([k3] ++ w2.fpath)) hv (by kernel_rfl) (Qdl _)) (by kernel_rfl) (by kernel_rfl) (by kernel_rfl))
   refine sk ?_
   obtain rfl := os h
   exact iv []
  clear w5
  refine rs0 hc 2 [(8,.ra 3 0)] [(3,.box [sI w2.fty,sI w2.fneeds,I w2.ffault,sI w4])] ?_
  refine rt ?_
  obtain rfl := os h
  exact rq [false]
 ·rintro spec_l3Of_f spec_l3Of_ih ⟨s0,ctx1,t2,a3⟩ r h
  refine b0 Tryz.f145 K4z 65 [(0,K1t s0),(1,sL ctx1),(2,K1v t2),(3,K1x a3)] fun c hc => ?_
  refine rs hc none [some (.new 1),some (.new 2),some (.new 3),some (.new 4)] [(1,sL ctx1),(4,.ra 1 0),(6,.ra 2 0),(7,.ra 3 0),(8,.ra 4 0)] [(1,K1s s0),(2,K1u t2),(3,K1w a3),(4,.box [.nils,.nils,I 0,.nils])] tv ?_
  obtain ⟨w7,w8,h⟩ := Qct h
  refine rs hc none [oN,oN,oN,oc (K1x w7),some (.new 5),oN] [(1,sL ctx1),(4,.ra 1 0),(6,.ra 2 0),(7,.ra 3 0),(8,.ra 4 0),(9,.ra 5 0)] [(1,K1s s0),(2,K1u t2),(3,K1w a3),(4,.box [.nils,.nils,I 0,.nils]),(5,K1w w7)] (cq (spec_l3Of_ih _ _ w8) K4w tv) ?_
  refine sN ?_
  refine K8h hc 3 [(1,sL ctx1),(4,.ra 1 0),(6,.ra 2 0),(7,.ra 3 0),(8,.ra 4 0),(9,.ra 5 0),(17,.bool (w7.ffault != 0))] ?_
  refine ic h (fun a0 h => ?_) fun a0 h => ?_
  ·refine rs0 hc 2 [(8,.ra 4 0)] [(4,K1w w7)] ?_
   refine rt ?_
   obtain rfl := os h
   exact rq [false]
  refine sk ?_
  refine sN ?_
  refine K8h hc 3 [(1,sL ctx1),(4,.ra 1 0),(6,.ra 2 0),(7,.ra 3 0),(8,.ra 4 0),(9,.ra 5 0),(21,.bool (t2.fOp == 2))] ?_
  refine ic h (fun b1 h => ?_) fun b1 h => ?_
  ·refine sN ?_
   obtain ⟨w9,x0,h⟩ := Qct h
   refine rs hc none [oN,oN,some (.el (I w9)),oN,oN] [(4,.ra 1 0),(7,.ra 3 0),(8,.ra 4 0),(9,.ra 5 0),(26,.bool (w9 != 0))] [(1,K1s s0),(3,K1w a3),(4,.box [.nils,.nils,I 0,.nils]),(5,K1w w7)] (ai (ix x0) tv) ?_
   refine ic h (fun b6 h => ?_) fun b6 h => ?_
   ·obtain ⟨x1,x2,h⟩ := Qct h
    refine rs hc none [some (.call (K26 x1) [] 6),oN] [(8,.ra 4 0)] [(4,.box [.rs 6,.rs 7,I x1.ffault,.rs 8]),(6,rI x1.fty),(7,rI x1.fneeds),(8,rI x1.fpath)] (cq (Kec _ _ x2) K4y tv) ?_
    refine vz 6 (Qdl x1.fty) [(8,.ra 4 0)] [(4,.box [sI x1.fty,.rs 7,I x1.ffault,.rs 8]),(7,rI x1.fneeds),(8,rI x1.fpath)] ?_
    refine vz 7 (Qdl x1.fneeds) [(8,.ra 4 0)] [(4,.box [sI x1.fty,sI x1.fneeds,I x1.ffault,.rs 8]),(8,rI x1.fpath)] ?_
    refine vz 8 (Qdl x1.fpath) [(8,.ra 4 0)] [(4,K1w x1)] ?_
    refine rt ?_
    obtain rfl := os h
    exact rq [false]
   refine sk ?_
   obtain ⟨x3,x4,h⟩ := Qct h
   refine rs hc (rx [[0],[1],[0],[0],[0,3],[0],[0,5],[0,2,3,4,5,6],[8],[9]]) [oN,oN,oN,oN,oN,oN,oN,some (.call (oI x3) [] 9),oN,oN] [(8,.ra 4 0)] [(4,.box [sI w7.fty,.rs 9,I 0,.nils]),(9,rI x3)] (cq (Keq _ _ x4) K54 tv) ?_
   refine vz 9 (Qdl x3) [(8,.ra 4 0)] [(4,.box [sI w7.fty,sI x3,I 0,.nils])] ?_
   refine rt ?_
   obtain rfl := os h
   exact rq [false]
  refine sk ?_
  obtain ⟨o7,o8,h⟩ := Qct h
  refine rs hc none [oN,oN,oN,oc (K1x o7),some (.new 10),oN] [(4,.ra 1 0),(7,.ra 3 0),(8,.ra 4 0),(9,.ra 5 0),(10,.ra 10 0)] [(1,K1s s0),(3,K1w a3),(4,.box [.nils,.nils,I 0,.nils]),(5,K1w w7),(10,K1w o7)] (cq (spec_l3Of_ih _ _ o8) K4w tv) ?_
  refine sN ?_
  refine K8h hc 3 [(4,.ra 1 0),(7,.ra 3 0),(8,.ra 4 0),(9,.ra 5 0),(10,.ra 10 0),(43,.bool (o7.ffault != 0))] ?_
  refine ic h (fun x5 h => ?_) fun x5 h => ?_
  ·refine rs0 hc 2 [(8,.ra 4 0)] [(4,K1w o7)] ?_
   refine rt ?_
   obtain rfl := os h
   exact rq [false]
  refine sk ?_
  refine sN ?_
  obtain ⟨x6,x7,h⟩ := Qct h
  refine rss hc none [oN,oN,oN,oN,oc (.bool x6),oN] [(4,.ra 1 0),(7,.ra 3 0),(8,.ra 4 0),(9,.ra 5 0),(10,.ra 10 0),(50,.bool (!x6))] (cq (Kf3 _ _ x7) K59 tv) ?_
  rcases is h with ⟨x8,h⟩ | ⟨x8,h⟩
  ·refine cF (!x6) (nF x8) ?_
   refine sk ?_
   obtain ⟨x9,y0,y1,y2,h⟩ := bq2 h
   refine rs hc (rx [[0],[1],[0],[0],[0,3],[0],[0],[0,6],[0],[0,8],[0,5,6,7,8,9],[0,2,3,4,5,6,7,8,9,10],[12],[13]]) [oN,oN,oN,oN,oN,oN,oN,oN,oN,oN,some (.call (oI x9) [] 11),some (.call (oI y1) [] 12),oN,oN] [(8,.ra 4 0)] [(4,.box [sI w7.fty,.rs 12,I 0,.nils]),(12,rI y1)] (cq (Kfa _ _ y0) K5e (ac (Q71.args (A1 := [K1t s0,sI a3.fneeds,I 1,.sl (Q02 (List.map I x9))]) (A2 := [K1t s0,sI a3.fneeds,I 1,sI x9]) (by simp only [List.map_nil,Qdl]) (Keq _ _ y2)) K54 (Or.inr (Qdt Qdp y1) : ([11] : List Nat) = [] ∨ noSh (oI y1) = true) tv)) ?_
   refine vz 12 (Qdl y1) [(8,.ra 4 0)] [(4,.box [sI w7.fty,sI y1,I 0,.nils])] ?_
   refine rt ?_
   obtain rfl := os h
   exact rq [false]
  refine cT (!x6) (nT x8) ?_
  obtain ⟨y3,y4,h⟩ := Qct h
  refine rs hc none [some (.call (K26 y3) [] 13),oN] [(8,.ra 4 0)] [(4,.box [.rs 13,.rs 14,I y3.ffault,.rs 15]),(13,rI y3.fty),(14,rI y3.fneeds),(15,rI y3.fpath)] (cq (Kec _ _ y4) K4y tv) ?_
  refine vz 13 (Qdl y3.fty) [(8,.ra 4 0)] [(4,.box [sI y3.fty,.rs 14,I y3.ffault,.rs 15]),(14,rI y3.fneeds),(15,rI y3.fpath)] ?_
  refine vz 14 (Qdl y3.fneeds) [(8,.ra 4 0)] [(4,.box [sI y3.fty,sI y3.fneeds,I y3.ffault,.rs 15]),(15,rI y3.fpath)] ?_
  refine vz 15 (Qdl y3.fpath) [(8,.ra 4 0)] [(4,K1w y3)] ?_
  refine rt ?_
  obtain rfl := os h
  exact rq [false]
theorem Kfq : ∀ p r,Kfh p = some r → Kfl p r := Kfp.1
theorem Kfr : ∀ p r,Kfi p = some r → Kfm p r := Kfp.2.1
theorem Kfs : ∀ p r,Kfj p = some r → Kfn p r := Kfp.2.2.1
theorem Kft : ∀ p r,Kfk p = some r → Kfo p r := Kfp.2.2.2
def Kfu (p : K00 × LL × K01) : Option ((List Int) × (List Int) × Bool) :=
 match p with
 | (s0,ctx1,t2) =>
  (Kdy (s0,ctx1,t2)) >>= fun a0 =>
  if a0 = true then
  (Kfh (s0,ctx1,t2)) >>= fun a1 =>
  if (a1.ffault != 0) = true then
  some ([],[],false)
  else
  some (a1.fty,a1.fneeds,true)
  else
  some ([],[],false)
def Kfv (p : K00 × LL × K01) (r : (List Int) × (List Int) × Bool) : Prop :=
 match p with
 | (s0,ctx1,t2) => Q71 Tryz.prog 18 [K1t s0,sL ctx1,K1v t2] (.tup [sI r.1,.sl (List.map I r.2.1),.bool r.2.2]) []
theorem Kfw : ∀ p r,Kfu p = some r → Kfv p r := by
 rintro ⟨s0,ctx1,t2⟩ r h
 unfold Kfu at h
 refine b0 Tryz.f18 B18 26 [(0,K1t s0),(1,sL ctx1),(2,K1v t2)] fun c hc => ?_
 refine rs hc none [some (.new 1),some (.new 2),oN,oN,oN] [(1,sL ctx1),(3,.ra 1 0),(5,.ra 2 0)] [(1,K1s s0),(2,K1u t2)] tv ?_
 refine sN ?_
 obtain ⟨a0,a1,h⟩ := Qct h
 refine rss hc none [oN,oN,oN,oc (.bool a0),oN] [(1,sL ctx1),(3,.ra 1 0),(5,.ra 2 0),(14,.bool (!a0))] (cq (Ke0 _ _ a1) K4p tv) ?_
 rcases is h with ⟨a2,h⟩ | ⟨a2,h⟩
 ·refine cF (!a0) (nF a2) ?_
  refine sk ?_
  obtain ⟨a3,a4,h⟩ := Qct h
  refine rs hc none [oN,oN,oN,oc (K1x a3),some (.new 3),oN] [(9,.ra 3 0)] [(3,K1w a3)] (cq (Kfq _ _ a4) K5c tv) ?_
  refine sN ?_
  refine K8h hc 3 [(9,.ra 3 0),(21,.bool (a3.ffault != 0))] ?_
  refine ic h (fun a5 h => ?_) fun a5 h => ?_
  ·refine rs0 hc 3 [(6,.nils),(7,.nils),(8,.bool false)] [] ?_
   refine rt ?_
   obtain rfl := os h
   exact rq [false,false,true]
  refine sk ?_
  refine rs hc (rx [[0],[1],[0],[0,2],[2],[5],[6]]) [oN,oN,oN,oN,oN,oN,oN] [(6,sI a3.fty),(7,sI a3.fneeds),(8,.bool true)] [] tv ?_
  refine rt ?_
  obtain rfl := os h
  exact rq [false,false,true]
 refine cT (!a0) (nT a2) ?_
 refine rs0 hc 3 [(6,.nils),(7,.nils),(8,.bool false)] [] ?_
 refine rt ?_
 obtain rfl := os h
 exact rq [false,false,true]
def Kfx (c : Ctx) (s0 : K00) (in1 : List Bool) (a0 : Int) : (Unit) ⊕ (Bool) → Exit → Q0a → Prop
 | .inl _ => Qcf c (.exit 2) (mkS [(1,sB in1),(2,.ra 1 0),(5,I a0)] [(1,K1s s0)])
 | .inr r => Qco TIx Tryz.f158 [] (.bool r)
def Kfy : Option (List (List Nat)) := rx [[0],[0],[0],[0],[0,1,2,3],[5],[6],[0],[0],[0,7,8],[0,7,8,9],[0,1,2,3,4,7,8,9,10],[0,1,2,3,4,7,8,9,10,11],[0,1,2,3,4,7,8,9,10,11],[0,1,2,3,4,7,8,9,10,11,12,13],[0,1,2,3,4,7,8,9,10,11,12,13,14],[0,1,2,3,4,7,8,9,10,11,12,13,14,15],[17],[18],[19],[19],[19],[19],[19,20,21,22],[24],[25],[19],[19],[19,26,27],[19,26,27,28],[19,20,21,22,23,26,27,28,29],[19,20,21,22,23,26,27,28,29,30],[19,20,21,22,23,26,27,28,29,30],[19,20,21,22,23,26,27,28,29,30,31,32],[19,20,21,22,23,26,27,28,29,30,31,32,33],[19,20,21,22,23,26,27,28,29,30,31,32,33,34],[36],[37],[38],[39],[39],[41],[42],[43],[44],[44],[44],[47],[48],[49],[50],[50],[52],[53],[54],[55],[56]]
def Kfz (p : K00 × (List Bool) × Int × Int) : Option ((Unit) ⊕ (Bool)) :=
 match p with
 | (s0,in1,a0,a1) =>
  if (decide (a1 < s0.fSize)) = true then
  ((
  (Kaj (s0,a0,a1)) >>= fun a2 =>
  (idx in1 a2) >>= fun a3 =>
  (idx in1 a0) >>= fun a4 =>
  if a4 = true then
  if (a3 == true) = true then
  (Kam (s0,a0,a1)) >>= fun a5 =>
  (idx in1 a5) >>= fun a6 =>
  (idx in1 a0) >>= fun a7 =>
  if a7 = true then
  (idx in1 a1) >>= fun a8 =>
  if (a6 == a8) = true then
  (idx in1 a0) >>= fun a9 =>
  if a9 = true then
  (Kap (s0,a0,a1)) >>= fun b1 =>
  if b1 = true then
  (idx in1 a1) >>= fun b2 =>
  some ((!b2))
  else
  some (false)
  else
  some (false)
  else
  some (true)
  else
  if (a6 == false) = true then
  (idx in1 a0) >>= fun a9 =>
  if a9 = true then
  (Kap (s0,a0,a1)) >>= fun b1 =>
  if b1 = true then
  (idx in1 a1) >>= fun b2 =>
  some ((!b2))
  else
  some (false)
  else
  some (false)
  else
  some (true)
  else
  some (true)
  else
  (idx in1 a1) >>= fun b3 =>
  if (a3 == b3) = true then
  (Kam (s0,a0,a1)) >>= fun a5 =>
  (idx in1 a5) >>= fun a6 =>
  (idx in1 a0) >>= fun a7 =>
  if a7 = true then
  (idx in1 a1) >>= fun a8 =>
  if (a6 == a8) = true then
  (idx in1 a0) >>= fun a9 =>
  if a9 = true then
  (Kap (s0,a0,a1)) >>= fun b1 =>
  if b1 = true then
  (idx in1 a1) >>= fun b2 =>
  some ((!b2))
  else
  some (false)
  else
  some (false)
  else
  some (true)
  else
  if (a6 == false) = true then
  (idx in1 a0) >>= fun a9 =>
  if a9 = true then
  (Kap (s0,a0,a1)) >>= fun b1 =>
  if b1 = true then
  (idx in1 a1) >>= fun b2 =>
  some ((!b2))
  else
  some (false)
  else
  some (false)
  else
  some (true)
  else
  some (true)
  ) : Option (Bool)) >>= fun b4 =>
  if b4 = true then
  some (.inr false)
  else
  Kfz (s0,in1,a0,(wr (a1 + 1)))
  else
  some (.inl ())
 partial_fixpoint
def Kg0 (p : K00 × (List Bool) × Int × Int) (fl : (Unit) ⊕ (Bool)) : Prop :=
 match p with
 | (s0,in1,a0,a1) => ∀ c : Ctx,c.nt = 85 → WpL Tryz.prog c (cl (cl (cr (cl (cl (cr (cl (cl (cr (cl (cr (cr K5g)))))))))))) (Kfx c s0 in1 a0 fl) (mkS [(1,sB in1),(2,.ra 1 0),(5,I a0),(6,I a1)] [(1,K1s s0)])
theorem Kg1 : ∀ p r,Kfz p = some r → Kg0 p r := by
 refine Kfz.partial_correctness Kg0 ?_
 rintro spec_l1View_l0_f spec_l1View_l0_ih ⟨s0,in1,a0,a1⟩ r h
 intro c hc
 refine WpL.step ?_
 refine sN ?_
 refine K8h hc 4 [(1,sB in1),(2,.ra 1 0),(5,I a0),(6,I a1),(25,.bool (decide (a1 < s0.fSize)))] ?_
 refine ic h (fun a2 h => ?_) fun a2 h => ?_
 ·refine sk ?_
  refine sN ?_
  refine bk 3 ?_
  refine sN ?_
  obtain ⟨a3,a4,h⟩ := Qct h
  refine Wp.into (x := .normal) (mkS [(1,sB in1),(2,.ra 1 0),(5,I a0),(6,I a1),(84,.bool a3)] [(1,K1s s0)]) ?_ ?_
  ·replace h := a4
   obtain ⟨a5,a6,a7,a8,a9,b1,h⟩ := bq3 h
   rcases is h with ⟨b2,h⟩ | ⟨b2,h⟩
   ·rcases is h with ⟨b3,h⟩ | ⟨b3,h⟩
    ·obtain ⟨b4,b5,b6,b7,b8,b9,h⟩ := bq3 h
     rcases is h with ⟨c0,h⟩ | ⟨c0,h⟩
     ·obtain ⟨c1,c2,h⟩ := Qct h
      rcases is h with ⟨c3,h⟩ | ⟨c3,h⟩
      ·obtain ⟨c4,c5,h⟩ := Qct h
       rcases is h with ⟨c6,h⟩ | ⟨c6,h⟩
       ·obtain ⟨c7,c8,h⟩ := Qct h
        rcases is h with ⟨c9,h⟩ | ⟨c9,h⟩
        ·obtain ⟨d0,d1,h⟩ := Qct h
         refine rgs hc Kfy [oN,oN,oN,oN,oc (I a5),some (.el (.bool a7)),oN,oN,oN,some (.el (.bool a9)),oN,oN,o_,o_,o_,o_,oT,oN,oN,oN,oN,oN,oN,oc (I b4),some (.el (.bool b6)),oN,oN,oN,some (.el (.bool b8)),oN,oN,oN,oN,some (.el (.bool c1)),oN,oT,oN,oF,oN,oN,oN,some (.el (.bool c4)),oN,oN,oN,oN,oN,oc (.bool c7),oT,oN,oN,oN,some (.el (.bool d0)),oN,oN,oT,oF] [(1,sB in1),(2,.ra 1 0),(5,I a0),(6,I a1),(84,.bool (!d0))] (cq (Kal _ _ a6) K3e (ab (Qcx (enc := AV.bool) (x := .bool a7) a8 (Qda a7)) (Qcx (enc := AV.bool) (x := .bool a9) b1 (Qda a9)) (ar 4 (neF b2) (ai b2 (ar 5 (nF b3) (cq (Kao _ _ b5) K3g (ab (nF b3) (Qcx (enc := AV.bool) (x := .bool b6) b7 (Qda b6)) (ar 4 (nF b3) (ai (Qcx (enc := AV.bool) (x := .bool b8) b9 (Qda b8)) (ar 2 (nF b3) (ar 3 c0 (ad (Qcx (enc := AV.bool) (x := .bool c1) c2 (Qda c1)) c0 (nF b3) c0 (ar 2 (nF b3) (ar 3 (nF c3) (ai (Qcx (enc := AV.bool) (x := .bool c4) c5 (Qda c4)) (ar 2 (nF c3) (ar 4 c6 (cq (Kar _ _ c8) K3i (ac (nF c3) c6 (nF c3) (ar 3 c9 (ai (Qcx (enc := AV.bool) (x := .bool d0) d1 (Qda d0)) (ar 2 c9 (ac (nF c3) c9 (nF c3) tv))))))))))))))))))))))) ?_
         obtain rfl := os h
         exact Qcf.mk
        refine rgs hc Kfy [oN,oN,oN,oN,oc (I a5),some (.el (.bool a7)),oN,oN,oN,some (.el (.bool a9)),oN,oN,o_,o_,o_,o_,oT,oN,oN,oN,oN,oN,oN,oc (I b4),some (.el (.bool b6)),oN,oN,oN,some (.el (.bool b8)),oN,oN,oN,oN,some (.el (.bool c1)),oN,oT,oN,oF,oN,oN,oN,some (.el (.bool c4)),oN,oN,oN,oN,oN,oc (.bool c7),oT,oN,o_,o_,o_,o_,o_,oF,oF] [(1,sB in1),(2,.ra 1 0),(5,I a0),(6,I a1),(84,.bool false)] (cq (Kal _ _ a6) K3e (ab (Qcx (enc := AV.bool) (x := .bool a7) a8 (Qda a7)) (Qcx (enc := AV.bool) (x := .bool a9) b1 (Qda a9)) (ar 4 (neF b2) (ai b2 (ar 5 (nF b3) (cq (Kao _ _ b5) K3g (ab (nF b3) (Qcx (enc := AV.bool) (x := .bool b6) b7 (Qda b6)) (ar 4 (nF b3) (ai (Qcx (enc := AV.bool) (x := .bool b8) b9 (Qda b8)) (ar 2 (nF b3) (ar 3 c0 (ad (Qcx (enc := AV.bool) (x := .bool c1) c2 (Qda c1)) c0 (nF b3) c0 (ar 2 (nF b3) (ar 3 (nF c3) (ai (Qcx (enc := AV.bool) (x := .bool c4) c5 (Qda c4)) (ar 2 (nF c3) (ar 4 c6 (cq (Kar _ _ c8) K3i (ac (nF c3) c6 (nF c3) (ar 5 (neT c9) (ac (nF c3) c9 (nF c3) tv))))))))))))))))))))) ?_
        obtain rfl := os h
        exact Qcf.mk
       refine rgs hc Kfy [oN,oN,oN,oN,oc (I a5),some (.el (.bool a7)),oN,oN,oN,some (.el (.bool a9)),oN,oN,o_,o_,o_,o_,oT,oN,oN,oN,oN,oN,oN,oc (I b4),some (.el (.bool b6)),oN,oN,oN,some (.el (.bool b8)),oN,oN,oN,oN,some (.el (.bool c1)),oN,oT,oN,oF,oN,oN,oN,some (.el (.bool c4)),oN,oN,o_,o_,o_,o_,oF,oN,o_,o_,o_,o_,o_,oF,oF] [(1,sB in1),(2,.ra 1 0),(5,I a0),(6,I a1),(84,.bool false)] (cq (Kal _ _ a6) K3e (ab (Qcx (enc := AV.bool) (x := .bool a7) a8 (Qda a7)) (Qcx (enc := AV.bool) (x := .bool a9) b1 (Qda a9)) (ar 4 (neF b2) (ai b2 (ar 5 (nF b3) (cq (Kao _ _ b5) K3g (ab (nF b3) (Qcx (enc := AV.bool) (x := .bool b6) b7 (Qda b6)) (ar 4 (nF b3) (ai (Qcx (enc := AV.bool) (x := .bool b8) b9 (Qda b8)) (ar 2 (nF b3) (ar 3 c0 (ad (Qcx (enc := AV.bool) (x := .bool c1) c2 (Qda c1)) c0 (nF b3) c0 (ar 2 (nF b3) (ar 3 (nF c3) (ai (Qcx (enc := AV.bool) (x := .bool c4) c5 (Qda c4)) (ar 2 (nF c3) (ar 4 (neT c6) (ac (nF c3) c6 (nF c3) (ar 5 (neT (rfl : false = false)) (ac (nF c3) (rfl : false = false) (nF c3) tv)))))))))))))))))))) ?_
       obtain rfl := os h
       exact Qcf.mk
      refine rgs hc Kfy [oN,oN,oN,oN,oc (I a5),some (.el (.bool a7)),oN,oN,oN,some (.el (.bool a9)),oN,oN,o_,o_,o_,o_,oT,oN,oN,oN,oN,oN,oN,oc (I b4),some (.el (.bool b6)),oN,oN,oN,some (.el (.bool b8)),oN,oN,oN,oN,some (.el (.bool c1)),oN,oT,oN,oF,oN,o_,o_,o_,o_,o_,o_,o_,o_,o_,o_,o_,o_,o_,o_,o_,o_,o_,oT] [(1,sB in1),(2,.ra 1 0),(5,I a0),(6,I a1),(84,.bool true)] (cq (Kal _ _ a6) K3e (ab (Qcx (enc := AV.bool) (x := .bool a7) a8 (Qda a7)) (Qcx (enc := AV.bool) (x := .bool a9) b1 (Qda a9)) (ar 4 (neF b2) (ai b2 (ar 5 (nF b3) (cq (Kao _ _ b5) K3g (ab (nF b3) (Qcx (enc := AV.bool) (x := .bool b6) b7 (Qda b6)) (ar 4 (nF b3) (ai (Qcx (enc := AV.bool) (x := .bool b8) b9 (Qda b8)) (ar 2 (nF b3) (ar 3 c0 (ad (Qcx (enc := AV.bool) (x := .bool c1) c2 (Qda c1)) c0 (nF b3) c0 (ar 2 (nF b3) (ar 8 (neF (nT c3)) (ai (nT c3) tv))))))))))))))) ?_
      obtain rfl := os h
      exact Qcf.mk
     rcases is h with ⟨c3,h⟩ | ⟨c3,h⟩
     ·obtain ⟨c4,c5,h⟩ := Qct h
      rcases is h with ⟨c6,h⟩ | ⟨c6,h⟩
      ·obtain ⟨c7,c8,h⟩ := Qct h
       rcases is h with ⟨c9,h⟩ | ⟨c9,h⟩
       ·obtain ⟨d0,d1,h⟩ := Qct h
        refine rgs hc Kfy [oN,oN,oN,oN,oc (I a5),some (.el (.bool a7)),oN,oN,oN,some (.el (.bool a9)),oN,oN,o_,o_,o_,o_,oT,oN,oN,oN,oN,oN,oN,oc (I b4),some (.el (.bool b6)),oN,oN,oN,some (.el (.bool b8)),oN,oN,o_,o_,o_,o_,oF,oN,oF,oN,oN,oN,some (.el (.bool c4)),oN,oN,oN,oN,oN,oc (.bool c7),oT,oN,oN,oN,some (.el (.bool d0)),oN,oN,oT,oF] [(1,sB in1),(2,.ra 1 0),(5,I a0),(6,I a1),(84,.bool (!d0))] (cq (Kal _ _ a6) K3e (ab (Qcx (enc := AV.bool) (x := .bool a7) a8 (Qda a7)) (Qcx (enc := AV.bool) (x := .bool a9) b1 (Qda a9)) (ar 4 (neF b2) (ai b2 (ar 5 (nF b3) (cq (Kao _ _ b5) K3g (ab (nF b3) (Qcx (enc := AV.bool) (x := .bool b6) b7 (Qda b6)) (ar 4 (nF b3) (ai (Qcx (enc := AV.bool) (x := .bool b8) b9 (Qda b8)) (ar 2 (nF b3) (ar 4 (neT c0) (ab (nF b3) c0 (ar 2 (nF b3) (ar 3 (nF c3) (ai (Qcx (enc := AV.bool) (x := .bool c4) c5 (Qda c4)) (ar 2 (nF c3) (ar 4 c6 (cq (Kar _ _ c8) K3i (ac (nF c3) c6 (nF c3) (ar 3 c9 (ai (Qcx (enc := AV.bool) (x := .bool d0) d1 (Qda d0)) (ar 2 c9 (ac (nF c3) c9 (nF c3) tv))))))))))))))))))))))) ?_
        obtain rfl := os h
        exact Qcf.mk
       refine rgs hc Kfy [oN,oN,oN,oN,oc (I a5),some (.el (.bool a7)),oN,oN,oN,some (.el (.bool a9)),oN,oN,o_,o_,o_,o_,oT,oN,oN,oN,oN,oN,oN,oc (I b4),some (.el (.bool b6)),oN,oN,oN,some (.el (.bool b8)),oN,oN,o_,o_,o_,o_,oF,oN,oF,oN,oN,oN,some (.el (.bool c4)),oN,oN,oN,oN,oN,oc (.bool c7),oT,oN,o_,o_,o_,o_,o_,oF,oF] [(1,sB in1),(2,.ra 1 0),(5,I a0),(6,I a1),(84,.bool false)] (cq (Kal _ _ a6) K3e (ab (Qcx (enc := AV.bool) (x := .bool a7) a8 (Qda a7)) (Qcx (enc := AV.bool) (x := .bool a9) b1 (Qda a9)) (ar 4 (neF b2) (ai b2 (ar 5 (nF b3) (cq (Kao _ _ b5) K3g (ab (nF b3) (Qcx (enc := AV.bool) (x := .bool b6) b7 (Qda b6)) (ar 4 (nF b3) (ai (Qcx (enc := AV.bool) (x := .bool b8) b9 (Qda b8)) (ar 2 (nF b3) (ar 4 (neT c0) (ab (nF b3) c0 (ar 2 (nF b3) (ar 3 (nF c3) (ai (Qcx (enc := AV.bool) (x := .bool c4) c5 (Qda c4)) (ar 2 (nF c3) (ar 4 c6 (cq (Kar _ _ c8) K3i (ac (nF c3) c6 (nF c3) (ar 5 (neT c9) (ac (nF c3) c9 (nF c3) tv))))))))))))))))))))) ?_
       obtain rfl := os h
       exact Qcf.mk
      refine rgs hc Kfy [oN,oN,oN,oN,oc (I a5),some (.el (.bool a7)),oN,oN,oN,some (.el (.bool a9)),oN,oN,o_,o_,o_,o_,oT,oN,oN,oN,oN,oN,oN,oc (I b4),some (.el (.bool b6)),oN,oN,oN,some (.el (.bool b8)),oN,oN,o_,o_,o_,o_,oF,oN,oF,oN,oN,oN,some (.el (.bool c4)),oN,oN,o_,o_,o_,o_,oF,oN,o_,o_,o_,o_,o_,oF,oF] [(1,sB in1),(2,.ra 1 0),(5,I a0),(6,I a1),(84,.bool false)] (cq (Kal _ _ a6) K3e (ab (Qcx (enc := AV.bool) (x := .bool a7) a8 (Qda a7)) (Qcx (enc := AV.bool) (x := .bool a9) b1 (Qda a9)) (ar 4 (neF b2) (ai b2 (ar 5 (nF b3) (cq (Kao _ _ b5) K3g (ab (nF b3) (Qcx (enc := AV.bool) (x := .bool b6) b7 (Qda b6)) (ar 4 (nF b3) (ai (Qcx (enc := AV.bool) (x := .bool b8) b9 (Qda b8)) (ar 2 (nF b3) (ar 4 (neT c0) (ab (nF b3) c0 (ar 2 (nF b3) (ar 3 (nF c3) (ai (Qcx (enc := AV.bool) (x := .bool c4) c5 (Qda c4)) (ar 2 (nF c3) (ar 4 (neT c6) (ac (nF c3) c6 (nF c3) (ar 5 (neT (rfl : false = false)) (ac (nF c3) (rfl : false = false) (nF c3) tv)))))))))))))))))))) ?_
      obtain rfl := os h
      exact Qcf.mk
     refine rgs hc Kfy [oN,oN,oN,oN,oc (I a5),some (.el (.bool a7)),oN,oN,oN,some (.el (.bool a9)),oN,oN,o_,o_,o_,o_,oT,oN,oN,oN,oN,oN,oN,oc (I b4),some (.el (.bool b6)),oN,oN,oN,some (.el (.bool b8)),oN,oN,o_,o_,o_,o_,oF,oN,oF,oN,o_,o_,o_,o_,o_,o_,o_,o_,o_,o_,o_,o_,o_,o_,o_,o_,o_,oT] [(1,sB in1),(2,.ra 1 0),(5,I a0),(6,I a1),(84,.bool true)] (cq (Kal _ _ a6) K3e (ab (Qcx (enc := AV.bool) (x := .bool a7) a8 (Qda a7)) (Qcx (enc := AV.bool) (x := .bool a9) b1 (Qda a9)) (ar 4 (neF b2) (ai b2 (ar 5 (nF b3) (cq (Kao _ _ b5) K3g (ab (nF b3) (Qcx (enc := AV.bool) (x := .bool b6) b7 (Qda b6)) (ar 4 (nF b3) (ai (Qcx (enc := AV.bool) (x := .bool b8) b9 (Qda b8)) (ar 2 (nF b3) (ar 4 (neT c0) (ab (nF b3) c0 (ar 2 (nF b3) (ar 8 (neF (nT c3)) (ai (nT c3) tv))))))))))))))) ?_
     obtain rfl := os h
     exact Qcf.mk
    refine rgs hc Kfy [oN,oN,oN,oN,oc (I a5),some (.el (.bool a7)),oN,oN,oN,some (.el (.bool a9)),oN,oN,o_,o_,o_,o_,oT,oN,oN,o_,o_,o_,o_,o_,o_,o_,o_,o_,o_,o_,o_,o_,o_,o_,o_,o_,o_,oT,oN,o_,o_,o_,o_,o_,o_,o_,o_,o_,o_,o_,o_,o_,o_,o_,o_,o_,oT] [(1,sB in1),(2,.ra 1 0),(5,I a0),(6,I a1),(84,.bool true)] (cq (Kal _ _ a6) K3e (ab (Qcx (enc := AV.bool) (x := .bool a7) a8 (Qda a7)) (Qcx (enc := AV.bool) (x := .bool a9) b1 (Qda a9)) (ar 4 (neF b2) (ai b2 (ar 14 (neF (nT b3)) (ai (nT b3) (ar 8 nf (ai tt tv)))))))) ?_
    obtain rfl := os h
    exact Qcf.mk
   obtain ⟨d2,d3,h⟩ := Qct h
   rcases is h with ⟨b3,h⟩ | ⟨b3,h⟩
   ·obtain ⟨b4,b5,b6,b7,b8,b9,h⟩ := bq3 h
    rcases is h with ⟨c0,h⟩ | ⟨c0,h⟩
    ·obtain ⟨c1,c2,h⟩ := Qct h
     rcases is h with ⟨c3,h⟩ | ⟨c3,h⟩
     ·obtain ⟨c4,c5,h⟩ := Qct h
      rcases is h with ⟨c6,h⟩ | ⟨c6,h⟩
      ·obtain ⟨c7,c8,h⟩ := Qct h
       rcases is h with ⟨c9,h⟩ | ⟨c9,h⟩
       ·obtain ⟨d0,d1,h⟩ := Qct h
        refine rgs hc Kfy [oN,oN,oN,oN,oc (I a5),some (.el (.bool a7)),oN,oN,oN,some (.el (.bool a9)),oN,oN,oN,oN,some (.el (.bool d2)),oN,oF,oN,oN,oN,oN,oN,oN,oc (I b4),some (.el (.bool b6)),oN,oN,oN,some (.el (.bool b8)),oN,oN,oN,oN,some (.el (.bool c1)),oN,oT,oN,oF,oN,oN,oN,some (.el (.bool c4)),oN,oN,oN,oN,oN,oc (.bool c7),oT,oN,oN,oN,some (.el (.bool d0)),oN,oN,oT,oF] [(1,sB in1),(2,.ra 1 0),(5,I a0),(6,I a1),(84,.bool (!d0))] (cq (Kal _ _ a6) K3e (ab (Qcx (enc := AV.bool) (x := .bool a7) a8 (Qda a7)) (Qcx (enc := AV.bool) (x := .bool a9) b1 (Qda a9)) (ar 3 b2 (ai (Qcx (enc := AV.bool) (x := .bool d2) d3 (Qda d2)) (ar 2 b2 (ar 5 (nF b3) (cq (Kao _ _ b5) K3g (ab (nF b3) (Qcx (enc := AV.bool) (x := .bool b6) b7 (Qda b6)) (ar 4 (nF b3) (ai (Qcx (enc := AV.bool) (x := .bool b8) b9 (Qda b8)) (ar 2 (nF b3) (ar 3 c0 (ad (Qcx (enc := AV.bool) (x := .bool c1) c2 (Qda c1)) c0 (nF b3) c0 (ar 2 (nF b3) (ar 3 (nF c3) (ai (Qcx (enc := AV.bool) (x := .bool c4) c5 (Qda c4)) (ar 2 (nF c3) (ar 4 c6 (cq (Kar _ _ c8) K3i (ac (nF c3) c6 (nF c3) (ar 3 c9 (ai (Qcx (enc := AV.bool) (x := .bool d0) d1 (Qda d0)) (ar 2 c9 (ac (nF c3) c9 (nF c3) tv)))))))))))))))))))))))) ?_
        obtain rfl := os h
        exact Qcf.mk
       refine rgs hc Kfy [oN,oN,oN,oN,oc (I a5),some (.el (.bool a7)),oN,oN,oN,some (.el (.bool a9)),oN,oN,oN,oN,some (.el (.bool d2)),oN,oF,oN,oN,oN,oN,oN,oN,oc (I b4),some (.el (.bool b6)),oN,oN,oN,some (.el (.bool b8)),oN,oN,oN,oN,some (.el (.bool c1)),oN,oT,oN,oF,oN,oN,oN,some (.el (.bool c4)),oN,oN,oN,oN,oN,oc (.bool c7),oT,oN,o_,o_,o_,o_,o_,oF,oF] [(1,sB in1),(2,.ra 1 0),(5,I a0),(6,I a1),(84,.bool false)] (cq (Kal _ _ a6) K3e (ab (Qcx (enc := AV.bool) (x := .bool a7) a8 (Qda a7)) (Qcx (enc := AV.bool) (x := .bool a9) b1 (Qda a9)) (ar 3 b2 (ai (Qcx (enc := AV.bool) (x := .bool d2) d3 (Qda d2)) (ar 2 b2 (ar 5 (nF b3) (cq (Kao _ _ b5) K3g (ab (nF b3) (Qcx (enc := AV.bool) (x := .bool b6) b7 (Qda b6)) (ar 4 (nF b3) (ai (Qcx (enc := AV.bool) (x := .bool b8) b9 (Qda b8)) (ar 2 (nF b3) (ar 3 c0 (ad (Qcx (enc := AV.bool) (x := .bool c1) c2 (Qda c1)) c0 (nF b3) c0 (ar 2 (nF b3) (ar 3 (nF c3) (ai (Qcx (enc := AV.bool) (x := .bool c4) c5 (Qda c4)) (ar 2 (nF c3) (ar 4 c6 (cq (Kar _ _ c8) K3i (ac (nF c3) c6 (nF c3) (ar 5 (neT c9) (ac (nF c3) c9 (nF c3) tv)))))))))))))))))))))) ?_
       obtain rfl := os h
       exact Qcf.mk
      refine rgs hc Kfy [oN,oN,oN,oN,oc (I a5),some (.el (.bool a7)),oN,oN,oN,some (.el (.bool a9)),oN,oN,oN,oN,some (.el (.bool d2)),oN,oF,oN,oN,oN,oN,oN,oN,oc (I b4),some (.el (.bool b6)),oN,oN,oN,some (.el (.bool b8)),oN,oN,oN,oN,some (.el (.bool c1)),oN,oT,oN,oF,oN,oN,oN,some (.el (.bool c4)),oN,oN,o_,o_,o_,o_,oF,oN,o_,o_,o_,o_,o_,oF,oF] [(1,sB in1),(2,.ra 1 0),(5,I a0),(6,I a1),(84,.bool false)] (cq (Kal _ _ a6) K3e (ab (Qcx (enc := AV.bool) (x := .bool a7) a8 (Qda a7)) (Qcx (enc := AV.bool) (x := .bool a9) b1 (Qda a9)) (ar 3 b2 (ai (Qcx (enc := AV.bool) (x := .bool d2) d3 (Qda d2)) (ar 2 b2 (ar 5 (nF b3) (cq (Kao _ _ b5) K3g (ab (nF b3) (Qcx (enc := AV.bool) (x := .bool b6) b7 (Qda b6)) (ar 4 (nF b3) (ai (Qcx (enc := AV.bool) (x := .bool b8) b9 (Qda b8)) (ar 2 (nF b3) (ar 3 c0 (ad (Qcx (enc := AV.bool) (x := .bool c1) c2 (Qda c1)) c0 (nF b3) c0 (ar 2 (nF b3) (ar 3 (nF c3) (ai (Qcx (enc := AV.bool) (x := .bool c4) c5 (Qda c4)) (ar 2 (nF c3) (ar 4 (neT c6) (ac (nF c3) c6 (nF c3) (ar 5 (neT (rfl : false = false)) (ac (nF c3) (rfl : false = false) (nF c3) tv))))))))))))))))))))) ?_
      obtain rfl := os h
      exact Qcf.mk
     refine rgs hc Kfy [oN,oN,oN,oN,oc (I a5),some (.el (.bool a7)),oN,oN,oN,some (.el (.bool a9)),oN,oN,oN,oN,some (.el (.bool d2)),oN,oF,oN,oN,oN,oN,oN,oN,oc (I b4),some (.el (.bool b6)),oN,oN,oN,some (.el (.bool b8)),oN,oN,oN,oN,some (.el (.bool c1)),oN,oT,oN,oF,oN,o_,o_,o_,o_,o_,o_,o_,o_,o_,o_,o_,o_,o_,o_,o_,o_,o_,oT] [(1,sB in1),(2,.ra 1 0),(5,I a0),(6,I a1),(84,.bool true)] (cq (Kal _ _ a6) K3e (ab (Qcx (enc := AV.bool) (x := .bool a7) a8 (Qda a7)) (Qcx (enc := AV.bool) (x := .bool a9) b1 (Qda a9)) (ar 3 b2 (ai (Qcx (enc := AV.bool) (x := .bool d2) d3 (Qda d2)) (ar 2 b2 (ar 5 (nF b3) (cq (Kao _ _ b5) K3g (ab (nF b3) (Qcx (enc := AV.bool) (x := .bool b6) b7 (Qda b6)) (ar 4 (nF b3) (ai (Qcx (enc := AV.bool) (x := .bool b8) b9 (Qda b8)) (ar 2 (nF b3) (ar 3 c0 (ad (Qcx (enc := AV.bool) (x := .bool c1) c2 (Qda c1)) c0 (nF b3) c0 (ar 2 (nF b3) (ar 8 (neF (nT c3)) (ai (nT c3) tv)))))))))))))))) ?_
     obtain rfl := os h
     exact Qcf.mk
    rcases is h with ⟨c3,h⟩ | ⟨c3,h⟩
    ·obtain ⟨c4,c5,h⟩ := Qct h
     rcases is h with ⟨c6,h⟩ | ⟨c6,h⟩
     ·obtain ⟨c7,c8,h⟩ := Qct h
      rcases is h with ⟨c9,h⟩ | ⟨c9,h⟩
      ·obtain ⟨d0,d1,h⟩ := Qct h
       refine rgs hc Kfy [oN,oN,oN,oN,oc (I a5),some (.el (.bool a7)),oN,oN,oN,some (.el (.bool a9)),oN,oN,oN,oN,some (.el (.bool d2)),oN,oF,oN,oN,oN,oN,oN,oN,oc (I b4),some (.el (.bool b6)),oN,oN,oN,some (.el (.bool b8)),oN,oN,o_,o_,o_,o_,oF,oN,oF,oN,oN,oN,some (.el (.bool c4)),oN,oN,oN,oN,oN,oc (.bool c7),oT,oN,oN,oN,some (.el (.bool d0)),oN,oN,oT,oF] [(1,sB in1),(2,.ra 1 0),(5,I a0),(6,I a1),(84,.bool (!d0))] (cq (Kal _ _ a6) K3e (ab (Qcx (enc := AV.bool) (x := .bool a7) a8 (Qda a7)) (Qcx (enc := AV.bool) (x := .bool a9) b1 (Qda a9)) (ar 3 b2 (ai (Qcx (enc := AV.bool) (x := .bool d2) d3 (Qda d2)) (ar 2 b2 (ar 5 (nF b3) (cq (Kao _ _ b5) K3g (ab (nF b3) (Qcx (enc := AV.bool) (x := .bool b6) b7 (Qda b6)) (ar 4 (nF b3) (ai (Qcx (enc := AV.bool) (x := .bool b8) b9 (Qda b8)) (ar 2 (nF b3) (ar 4 (neT c0) (ab (nF b3) c0 (ar 2 (nF b3) (ar 3 (nF c3) (ai (Qcx (enc := AV.bool) (x := .bool c4) c5 (Qda c4)) (ar 2 (nF c3) (ar 4 c6 (cq (Kar _ _ c8) K3i (ac (nF c3) c6 (nF c3) (ar 3 c9 (ai (Qcx (enc := AV.bool) (x := .bool d0) d1 (Qda d0)) (ar 2 c9 (ac (nF c3) c9 (nF c3) tv)))))))))))))))))))))))) ?_
       obtain rfl := os h
       exact Qcf.mk
      refine rgs hc Kfy [oN,oN,oN,oN,oc (I a5),some (.el (.bool a7)),oN,oN,oN,some (.el (.bool a9)),oN,oN,oN,oN,some (.el (.bool d2)),oN,oF,oN,oN,oN,oN,oN,oN,oc (I b4),some (.el (.bool b6)),oN,oN,oN,some (.el (.bool b8)),oN,oN,o_,o_,o_,o_,oF,oN,oF,oN,oN,oN,some (.el (.bool c4)),oN,oN,oN,oN,oN,oc (.bool c7),oT,oN,o_,o_,o_,o_,o_,oF,oF] [(1,sB in1),(2,.ra 1 0),(5,I a0),(6,I a1),(84,.bool false)] (cq (Kal _ _ a6) K3e (ab (Qcx (enc := AV.bool) (x := .bool a7) a8 (Qda a7)) (Qcx (enc := AV.bool) (x := .bool a9) b1 (Qda a9)) (ar 3 b2 (ai (Qcx (enc := AV.bool) (x := .bool d2) d3 (Qda d2)) (ar 2 b2 (ar 5 (nF b3) (cq (Kao _ _ b5) K3g (ab (nF b3) (Qcx (enc := AV.bool) (x := .bool b6) b7 (Qda b6)) (ar 4 (nF b3) (ai (Qcx (enc := AV.bool) (x := .bool b8) b9 (Qda b8)) (ar 2 (nF b3) (ar 4 (neT c0) (ab (nF b3) c0 (ar 2 (nF b3) (ar 3 (nF c3) (ai (Qcx (enc := AV.bool) (x := .bool c4) c5 (Qda c4)) (ar 2 (nF c3) (ar 4 c6 (cq (Kar _ _ c8) K3i (ac (nF c3) c6 (nF c3) (ar 5 (neT c9) (ac (nF c3) c9 (nF c3) tv)))))))))))))))))))))) ?_
      obtain rfl := os h
      exact Qcf.mk
     refine rgs hc Kfy [oN,oN,oN,oN,oc (I a5),some (.el (.bool a7)),oN,oN,oN,some (.el (.bool a9)),oN,oN,oN,oN,some (.el (.bool d2)),oN,oF,oN,oN,oN,oN,oN,oN,oc (I b4),some (.el (.bool b6)),oN,oN,oN,some (.el (.bool b8)),oN,oN,o_,o_,o_,o_,oF,oN,oF,oN,oN,oN,some (.el (.bool c4)),oN,oN,o_,o_,o_,o_,oF,oN,o_,o_,o_,o_,o_,oF,oF] [(1,sB in1),(2,.ra 1 0),(5,I a0),(6,I a1),(84,.bool false)] (cq (Kal _ _ a6) K3e (ab (Qcx (enc := AV.bool) (x := .bool a7) a8 (Qda a7)) (Qcx (enc := AV.bool) (x := .bool a9) b1 (Qda a9)) (ar 3 b2 (ai (Qcx (enc := AV.bool) (x := .bool d2) d3 (Qda d2)) (ar 2 b2 (ar 5 (nF b3) (cq (Kao _ _ b5) K3g (ab (nF b3) (Qcx (enc := AV.bool) (x := .bool b6) b7 (Qda b6)) (ar 4 (nF b3) (ai (Qcx (enc := AV.bool) (x := .bool b8) b9 (Qda b8)) (ar 2 (nF b3) (ar 4 (neT c0) (ab (nF b3) c0 (ar 2 (nF b3) (ar 3 (nF c3) (ai (Qcx (enc := AV.bool) (x := .bool c4) c5 (Qda c4)) (ar 2 (nF c3) (ar 4 (neT c6) (ac (nF c3) c6 (nF c3) (ar 5 (neT (rfl : false = false)) (ac (nF c3) (rfl : false = false) (nF c3) tv))))))))))))))))))))) ?_
     obtain rfl := os h
     exact Qcf.mk
    refine rgs hc Kfy [oN,oN,oN,oN,oc (I a5),some (.el (.bool a7)),oN,oN,oN,some (.el (.bool a9)),oN,oN,oN,oN,some (.el (.bool d2)),oN,oF,oN,oN,oN,oN,oN,oN,oc (I b4),some (.el (.bool b6)),oN,oN,oN,some (.el (.bool b8)),oN,oN,o_,o_,o_,o_,oF,oN,oF,oN,o_,o_,o_,o_,o_,o_,o_,o_,o_,o_,o_,o_,o_,o_,o_,o_,o_,oT] [(1,sB in1),(2,.ra 1 0),(5,I a0),(6,I a1),(84,.bool true)] (cq (Kal _ _ a6) K3e (ab (Qcx (enc := AV.bool) (x := .bool a7) a8 (Qda a7)) (Qcx (enc := AV.bool) (x := .bool a9) b1 (Qda a9)) (ar 3 b2 (ai (Qcx (enc := AV.bool) (x := .bool d2) d3 (Qda d2)) (ar 2 b2 (ar 5 (nF b3) (cq (Kao _ _ b5) K3g (ab (nF b3) (Qcx (enc := AV.bool) (x := .bool b6) b7 (Qda b6)) (ar 4 (nF b3) (ai (Qcx (enc := AV.bool) (x := .bool b8) b9 (Qda b8)) (ar 2 (nF b3) (ar 4 (neT c0) (ab (nF b3) c0 (ar 2 (nF b3) (ar 8 (neF (nT c3)) (ai (nT c3) tv)))))))))))))))) ?_
    obtain rfl := os h
    exact Qcf.mk
   refine rgs hc Kfy [oN,oN,oN,oN,oc (I a5),some (.el (.bool a7)),oN,oN,oN,some (.el (.bool a9)),oN,oN,oN,oN,some (.el (.bool d2)),oN,oF,oN,oN,o_,o_,o_,o_,o_,o_,o_,o_,o_,o_,o_,o_,o_,o_,o_,o_,o_,o_,oT,oN,o_,o_,o_,o_,o_,o_,o_,o_,o_,o_,o_,o_,o_,o_,o_,o_,o_,oT] [(1,sB in1),(2,.ra 1 0),(5,I a0),(6,I a1),(84,.bool true)] (cq (Kal _ _ a6) K3e (ab (Qcx (enc := AV.bool) (x := .bool a7) a8 (Qda a7)) (Qcx (enc := AV.bool) (x := .bool a9) b1 (Qda a9)) (ar 3 b2 (ai (Qcx (enc := AV.bool) (x := .bool d2) d3 (Qda d2)) (ar 2 b2 (ar 14 (neF (nT b3)) (ai (nT b3) (ar 8 nf (ai tt tv))))))))) ?_
   obtain rfl := os h
   exact Qcf.mk
  clear a4
  refine ic h (fun d4 h => ?_) fun d4 h => ?_
  ·refine rs0 hc 1 [(4,.bool false)] [] ?_
   refine rt ?_
   obtain rfl := os h
   exact re [true]
  refine sk ?_
  refine K8g hc 3 [(1,sB in1),(2,.ra 1 0),(5,I a0),(6,I (wr (a1 + 1)))] ?_
  refine Qcb ?_
  exact (spec_l1View_l0_ih _ _ h c hc)
 refine xt 2 ?_
 refine Qc5 ?_
 refine Qcc ?_
 obtain rfl := os h
 exact iv []
def Kg2 : Option (List (List Nat)) := rx [[0],[0],[2],[3],[0],[0,4],[0,4,5],[7],[8],[9],[10],[11],[12],[13],[13],[15],[16],[13],[13],[13,18],[13,17,18,19],[13,17,18,19,20],[22],[23],[24]]
def Kg3 (c : Ctx) : (Unit) ⊕ (Bool) → Exit → Q0a → Prop
 | .inl _ => Qcf c (.exit 0) (mkS [] [])
 | .inr r => Qco TIx Tryz.f158 [] (.bool r)
def Kg4 (p : K00 × (List Bool) × Int) : Option ((Unit) ⊕ (Bool)) :=
 match p with
 | (s0,in1,a0) =>
  if (decide (a0 < s0.fSize)) = true then
  (Kfz (s0,in1,a0,0)) >>= fun fl => match fl with
  | .inl () =>
   Kg4 (s0,in1,(wr (a0 + 1)))
  | .inr r =>
   some (.inr r)
  else
  some (.inl ())
 partial_fixpoint
def Kg5 (p : K00 × (List Bool) × Int) (fl : (Unit) ⊕ (Bool)) : Prop :=
 match p with
 | (s0,in1,a0) => ∀ c : Ctx,c.nt = 85 → WpL Tryz.prog c (cl (cl (cr (cl (cr (cr K5g)))))) (Kg3 c fl) (mkS [(1,sB in1),(2,.ra 1 0),(5,I a0)] [(1,K1s s0)])
theorem Kg6 : ∀ p r,Kg4 p = some r → Kg5 p r := by
 refine Kg4.partial_correctness Kg5 ?_
 rintro spec_l1View_l1_f spec_l1View_l1_ih ⟨s0,in1,a0⟩ r h
 intro c hc
 refine WpL.step ?_
 refine sN ?_
 refine K8h hc 4 [(1,sB in1),(2,.ra 1 0),(5,I a0),(19,.bool (decide (a0 < s0.fSize)))] ?_
 refine ic h (fun a1 h => ?_) fun a1 h => ?_
 ·refine sk ?_
  refine sN ?_
  refine bk 1 ?_
  refine K8h hc 1 [(1,sB in1),(2,.ra 1 0),(5,I a0),(6,I 0)] ?_
  refine bk 2 ?_
  obtain ⟨fl,a2,h⟩ := Qct h
  have hL := Kg1 _ _ a2 c hc
  refine lp ?_
  rcases fl with ⟨⟩ | r
  ·refine WpL.into (e := (.exit 2)) (mkS [(1,sB in1),(2,.ra 1 0),(5,I a0)] [(1,K1s s0)]) hL ?_
   refine Qc7 ?_
   refine K8g hc 3 [(1,sB in1),(2,.ra 1 0),(5,I (wr (a0 + 1)))] ?_
   refine Qcb ?_
   exact (spec_l1View_l1_ih _ _ h c hc)
  refine WpL.mono hL ?_
  rintro _ _ ⟨rfl,hfin⟩
  obtain rfl := os h
  exact ⟨rfl,hfin⟩
 refine xt 0 ?_
 refine Qc5 ?_
 refine Qcc ?_
 obtain rfl := os h
 exact iv []
def Kg7 (p : K00 × (List Bool)) : Option (Bool) :=
 match p with
 | (s0,in1) =>
  ((
  (idx in1 0) >>= fun a0 =>
  if a0 = true then
   some (true)
  else
   (idx in1 1) >>= fun a1 =>
   some ((!a1))
  ) : Option (Bool)) >>= fun a2 =>
  if a2 = true then
  some false
  else
  (Kg4 (s0,in1,0)) >>= fun fl => match fl with
  | .inl () =>
   some true
  | .inr r =>
   some r
def Kg8 (p : K00 × (List Bool)) (r : Bool) : Prop :=
 match p with
 | (s0,in1) => Q71 Tryz.prog 158 [K1t s0,sB in1] (.bool r) []
theorem Kg9 : ∀ p r,Kg7 p = some r → Kg8 p r := by
 rintro ⟨s0,in1⟩ r h
 unfold Kg7 at h
 refine b0 Tryz.f158 K5g 85 [(0,K1t s0),(1,sB in1)] fun c hc => ?_
 refine rs hc none [some (.new 1),oN] [(1,sB in1),(2,.ra 1 0)] [(1,K1s s0)] tv ?_
 refine sN ?_
 refine sN ?_
 obtain ⟨a0,a1,h⟩ := Qct h
 refine Wp.into (x := .normal) (mkS [(1,sB in1),(2,.ra 1 0),(15,.bool a0)] [(1,K1s s0)]) ?_ ?_
 ·replace h := a1
  obtain ⟨a2,a3,h⟩ := Qct h
  rcases is h with ⟨a4,h⟩ | ⟨a4,h⟩
  ·refine rgs hc none [oN,some (.el (.bool a2)),oN,oN,o_,o_,o_,o_,oT] [(1,sB in1),(2,.ra 1 0),(15,.bool true)] (ai (Qcx (enc := AV.bool) (x := .bool a2) a3 (Qda a2)) (ar 4 (neF a4) (ai a4 tv))) ?_
   obtain rfl := os h
   exact Qcf.mk
  obtain ⟨a5,a6,h⟩ := Qct h
  refine rgs hc none [oN,some (.el (.bool a2)),oN,oN,oN,some (.el (.bool a5)),oN,oN,oF] [(1,sB in1),(2,.ra 1 0),(15,.bool (!a5))] (ai (Qcx (enc := AV.bool) (x := .bool a2) a3 (Qda a2)) (ar 2 a4 (ai (Qcx (enc := AV.bool) (x := .bool a5) a6 (Qda a5)) (ar 3 a4 tv)))) ?_
  obtain rfl := os h
  exact Qcf.mk
 clear a1
 refine ic h (fun a7 h => ?_) fun a7 h => ?_
 ·refine rs0 hc 1 [(4,.bool false)] [] ?_
  refine rt ?_
  obtain rfl := os h
  exact rq [true]
 refine sk ?_
 refine sN ?_
 refine K8h hc 1 [(1,sB in1),(2,.ra 1 0),(5,I 0)] ?_
 refine bk 0 ?_
 obtain ⟨fl,a8,h⟩ := Qct h
 have hL := Kg6 _ _ a8 c hc
 refine lp ?_
 rcases fl with ⟨⟩ | r
 ·refine WpL.into (e := (.exit 0)) (mkS [] []) hL ?_
  refine Qc7 ?_
  refine rs0 hc 1 [(4,.bool true)] [] ?_
  refine rt ?_
  obtain rfl := os h
  exact rq [true]
 refine WpL.mono hL ?_
 rintro _ _ ⟨rfl,hfin⟩
 obtain rfl := os h
 exact ⟨.inl rfl,hfin⟩
def Kga (c : Ctx) (s0 : K00) : ((List Bool)) ⊕ (Bool) → Exit → Q0a → Prop
 | .inl a0 => Qcf c (.exit 0) (mkS [(2,.ra 1 0),(5,.rs 2)] [(1,K1s s0),(2,.arr (List.map AV.bool a0))])
 | .inr r => Qco TIx Tryz.f89 [] (.bool r)
def Kgb (p : K00 × (List Int) × (List Bool) × Int) : Option (((List Bool)) ⊕ (Bool)) :=
 match p with
 | (s0,v1,a0,a1) =>
  if (decide (a1 < (v1.length : Int))) = true then
  ((
  (idx v1 a1) >>= fun a2 =>
  (Ka9 (a2,0,(wr (s0.fSize - 1)))) >>= fun a3 =>
  if a3 = true then
  if (decide (a1 > 0)) = true then
  (idx v1 a1) >>= fun a4 =>
  (idx v1 (wr (a1 - 1))) >>= fun a5 =>
  some ((decide (a4 ≤ a5)))
  else
  some (false)
  else
  some (true)
  ) : Option (Bool)) >>= fun a6 =>
  if a6 = true then
  some (.inr false)
  else
  (idx v1 a1) >>= fun a7 =>
  (idx a0 a7) >>= fun a8 =>
  Kgb (s0,v1,(List.set a0 (Int.toNat a7) true),(wr (a1 + 1)))
  else
  some (.inl a0)
 partial_fixpoint
def Kgc (p : K00 × (List Int) × (List Bool) × Int) (fl : ((List Bool)) ⊕ (Bool)) : Prop :=
 match p with
 | (s0,v1,a0,a1) => ∀ c : Ctx,c.nt = 53 → WpL Tryz.prog c (cl (cl (cr (cl (cr (cr (cr B89))))))) (Kga c s0 fl) (mkS [(1,sI v1),(2,.ra 1 0),(5,.rs 2),(6,I a1)] [(1,K1s s0),(2,.arr (List.map AV.bool a0))])
theorem Kgd : ∀ p r,Kgb p = some r → Kgc p r := by
 refine Kgb.partial_correctness Kgc ?_
 rintro spec_IsView_l0_f spec_IsView_l0_ih ⟨s0,v1,a0,a1⟩ r h
 intro c hc
 refine WpL.step ?_
 refine sN ?_
 refine rss hc none [oN,oN,some (.eqv (.no) ⟨[(15,I (v1.length : Int))],[],[]⟩),oN] [(1,sI v1),(2,.ra 1 0),(5,.rs 2),(6,I a1),(16,.bool (decide (a1 < (v1.length : Int))))] (ai (Qcz (d := 15) I v1) tv) ?_
 refine ic h (fun a2 h => ?_) fun a2 h => ?_
 ·refine sk ?_
  refine sN ?_
  refine bk 1 ?_
  refine sN ?_
  refine sN ?_
  obtain ⟨a3,a4,h⟩ := Qct h
  refine Wp.into (x := .normal) (mkS [(1,sI v1),(2,.ra 1 0),(5,.rs 2),(6,I a1),(43,.bool a3)] [(1,K1s s0),(2,.arr (List.map AV.bool a0))]) ?_ ?_
  ·replace h := a4
   obtain ⟨a5,a6,a7,a8,h⟩ := bq2 h
   rcases is h with ⟨a9,h⟩ | ⟨a9,h⟩
   ·rcases is h with ⟨b1,h⟩ | ⟨b1,h⟩
    ·obtain ⟨b2,b3,b4,b5,h⟩ := bq2 h
     refine rgs hc Kg2 [oN,oN,some (.el (I a5)),oN,oN,oN,oN,oc (.bool a7),oN,oN,oN,oN,oN,oN,oN,some (.el (I b2)),oN,oN,oN,oN,some (.el (I b4)),oN,oN,oT,oF] [(1,sI v1),(2,.ra 1 0),(5,.rs 2),(6,I a1),(43,.bool (decide (b2 ≤ b4)))] (ai (ix a6) (cq (Kab _ _ a8) K3a (ar 3 (nF a9) (ar 3 b1 (ai (ix b3) (ar 5 b1 (ai (ix b5) (ar 2 b1 (ac (nF a9) b1 (nF a9) tv))))))))) ?_
     obtain rfl := os h
     exact Qcf.mk
    refine rgs hc Kg2 [oN,oN,some (.el (I a5)),oN,oN,oN,oN,oc (.bool a7),oN,oN,oN,oN,oN,o_,o_,o_,o_,o_,o_,o_,o_,o_,o_,oF,oF] [(1,sI v1),(2,.ra 1 0),(5,.rs 2),(6,I a1),(43,.bool false)] (ai (ix a6) (cq (Kab _ _ a8) K3a (ar 3 (nF a9) (ar 10 (neT b1) (ac (nF a9) b1 (nF a9) tv))))) ?_
    obtain rfl := os h
    exact Qcf.mk
   refine rgs hc Kg2 [oN,oN,some (.el (I a5)),oN,oN,oN,oN,oc (.bool a7),oN,oN,o_,o_,o_,o_,o_,o_,o_,o_,o_,o_,o_,o_,o_,o_,oT] [(1,sI v1),(2,.ra 1 0),(5,.rs 2),(6,I a1),(43,.bool true)] (ai (ix a6) (cq (Kab _ _ a8) K3a (ar 4 (neF (nT a9)) (ai (nT a9) tv)))) ?_
   obtain rfl := os h
   exact Qcf.mk
  clear a4
  refine ic h (fun b6 h => ?_) fun b6 h => ?_
  ·refine rs0 hc 1 [(4,.bool false)] [] ?_
   refine rt ?_
   obtain rfl := os h
   exact re [true]
  refine sk ?_
  obtain ⟨b7,b8,b9,c0,h⟩ := bq2 h
  refine rg hc none [oN,oN,oN,some (.el (I b7)),oN,oN,some (.eqv (.mk 0 true) ⟨[],[(2,some (.arr (List.map AV.bool (List.set a0 (Int.toNat b7) true))))],[]⟩)] [(1,sI v1),(2,.ra 1 0),(5,.rs 2),(6,I a1)] [(1,K1s s0),(2,.arr (List.map AV.bool (List.set a0 (Int.toNat b7) true)))] (ad (ix b8) (Qcy (enc := AV.bool) c0) (congrArg (fun z => (⟨[],[(2,some (.arr z))],[]⟩ : Wr)) (Qdw (enc := AV.bool) (i := Int.toNat b7) (l := a0) (v := true) (x := AV.bool true) (Qda true))) (Qdx (enc := AV.bool) (sz := 1) Qde c0) tv) ?_
  refine K8g hc 3 [(1,sI v1),(2,.ra 1 0),(5,.rs 2),(6,I (wr (a1 + 1)))] ?_
  refine Qcb ?_
  exact (spec_IsView_l0_ih _ _ h c hc)
 refine xt 0 ?_
 refine Qc5 ?_
 refine Qcc ?_
 obtain rfl := os h
 exact iv []
def Kge (p : K00 × (List Int)) : Option (Bool) :=
 match p with
 | (s0,v1) =>
  (Kbt s0) >>= fun a0 =>
  if a0 = true then
  (chk (0 ≤ s0.fSize ∧ (Int.toNat s0.fSize) * 1 ≤ 140737488355328)) >>= fun _ =>
  (Kgb (s0,v1,(List.replicate (Int.toNat s0.fSize) false),0)) >>= fun fl => match fl with
  | .inl a1 =>
   (Kg7 (s0,a1)) >>= fun a2 =>
   some a2
  | .inr r =>
   some r
  else
  some false
def Kgf (p : K00 × (List Int)) (r : Bool) : Prop :=
 match p with
 | (s0,v1) => Q71 Tryz.prog 89 [K1t s0,sI v1] (.bool r) []
theorem Kgg : ∀ p r,Kge p = some r → Kgf p r := by
 rintro ⟨s0,v1⟩ r h
 unfold Kge at h
 refine b0 Tryz.f89 B89 53 [(0,K1t s0),(1,sI v1)] fun c hc => ?_
 refine rs hc none [some (.new 1),oN] [(1,sI v1),(2,.ra 1 0)] [(1,K1s s0)] tv ?_
 refine sN ?_
 obtain ⟨a0,a1,h⟩ := Qct h
 refine rss hc none [oN,oc (.bool a0),oN] [(1,sI v1),(2,.ra 1 0),(9,.bool (!a0))] (cq (Kbv _ _ a1) K3s tv) ?_
 rcases is h with ⟨a2,h⟩ | ⟨a2,h⟩
 ·refine cF (!a0) (nF a2) ?_
  refine sk ?_
  obtain ⟨_,a3,h⟩ := Qct h
  refine rs hc none [oN,oN,some (.eqv (.mk 2 true) ⟨[(12,.rs 2)],[(2,some (.arr (List.map AV.bool (List.replicate (Int.toNat s0.fSize) false))))],[2]⟩),oN] [(1,sI v1),(2,.ra 1 0),(5,.rs 2)] [(1,K1s s0),(2,.arr (List.map AV.bool (List.replicate (Int.toNat s0.fSize) false)))] (ab (congrArg (fun z => (⟨[(12,.rs 2)],[(2,some (.arr z))],[2]⟩ : Wr)) (Qdy (enc := AV.bool) (n := Int.toNat s0.fSize) (x := AV.bool false) (Qda false))) (And.intro (Eq.refl s0.fSize) (Qcv a3)) tv) ?_
  refine sN ?_
  refine K8h hc 1 [(1,sI v1),(2,.ra 1 0),(5,.rs 2),(6,I 0)] ?_
  refine bk 0 ?_
  obtain ⟨fl,a4,h⟩ := Qct h
  have hL := Kgd _ _ a4 c hc
  refine lp ?_
  rcases fl with a5 | r
  ·refine WpL.into (e := (.exit 0)) (mkS [(2,.ra 1 0),(5,.rs 2)] [(1,K1s s0),(2,.arr (List.map AV.bool a5))]) hL ?_
   refine Qc7 ?_
   obtain ⟨a6,a7,h⟩ := Qct h
   refine rs hc none [oN,oN,oc (.bool a6),oN] [(4,.bool a6)] [] (ac (Q71.args (A1 := [K1t s0,.sl (Q02 (List.map AV.bool a5))]) (A2 := [K1t s0,sB a5]) (by simp only [List.map_nil,Qdn]) (Kg9 _ _ a7)) K5h (Or.inr rfl : ([2] : List Nat) = [] ∨ noSh (.bool a6) = true) tv) ?_
   refine rt ?_
   obtain rfl := os h
   exact rq [true]
  refine WpL.mono hL ?_
  rintro _ _ ⟨rfl,hfin⟩
  obtain rfl := os h
  exact ⟨.inl rfl,hfin⟩
 refine cT (!a0) (nT a2) ?_
 refine rs0 hc 1 [(4,.bool false)] [] ?_
 refine rt ?_
 obtain rfl := os h
 exact rq [true]
def Kgh (c : Ctx) : (Unit) ⊕ (Bool) → Exit → Q0a → Prop
 | .inl _ => Qcf c (.exit 0) (mkS [] [])
 | .inr r => Qco TIx Tryz.f90 [] (.bool r)
def Kgi (p : (List Int) × Int × Int) : Option ((Unit) ⊕ (Bool)) :=
 match p with
 | (l0,n1,a0) =>
  if (decide (a0 < (l0.length : Int))) = true then
  (idx l0 a0) >>= fun a1 =>
  if (a1 == n1) = true then
  some (.inr true)
  else
  Kgi (l0,n1,(wr (a0 + 1)))
  else
  some (.inl ())
 partial_fixpoint
def Kgj (p : (List Int) × Int × Int) (fl : (Unit) ⊕ (Bool)) : Prop :=
 match p with
 | (l0,n1,a0) => ∀ c : Ctx,c.nt = 18 → WpL Tryz.prog c (cl (cl (cr (cl (cr B90))))) (Kgh c fl) (mkS [(0,sI l0),(1,I n1),(5,I a0)] [])
theorem Kgk : ∀ p r,Kgi p = some r → Kgj p r := by
 refine Kgi.partial_correctness Kgj ?_
 rintro spec_l1Has_l0_f spec_l1Has_l0_ih ⟨l0,n1,a0⟩ r h
 intro c hc
 refine WpL.step ?_
 refine sN ?_
 refine rs hc none [oN,oN,some (.eqv (.no) ⟨[(8,I (l0.length : Int))],[],[]⟩),oN] [(0,sI l0),(1,I n1),(5,I a0),(9,.bool (decide (a0 < (l0.length : Int))))] [] (ai (Qcz (d := 8) I l0) tv) ?_
 refine ic h (fun a1 h => ?_) fun a1 h => ?_
 ·refine sk ?_
  refine sN ?_
  refine bk 1 ?_
  obtain ⟨a2,a3,h⟩ := Qct h
  refine rs hc none [oN,oN,some (.el (I a2)),oN,oN,oN] [(0,sI l0),(1,I n1),(5,I a0),(17,.bool (a2 == n1))] [] (ai (ix a3) tv) ?_
  refine ic h (fun a4 h => ?_) fun a4 h => ?_
  ·refine rs0 hc 1 [(4,.bool true)] [] ?_
   refine rt ?_
   obtain rfl := os h
   exact re [true]
  refine sk ?_
  refine rg0 hc 3 [(0,sI l0),(1,I n1),(5,I (wr (a0 + 1)))] [] ?_
  refine Qcb ?_
  exact (spec_l1Has_l0_ih _ _ h c hc)
 refine xt 0 ?_
 refine Qc5 ?_
 refine Qcc ?_
 obtain rfl := os h
 exact iv []
def Kgl (p : (List Int) × Int) : Option (Bool) :=
 match p with
 | (l0,n1) =>
  (Kgi (l0,n1,0)) >>= fun fl => match fl with
  | .inl () =>
   some false
  | .inr r =>
   some r
def Kgm (p : (List Int) × Int) (r : Bool) : Prop :=
 match p with
 | (l0,n1) => Q71 Tryz.prog 90 [sI l0,I n1] (.bool r) []
theorem Kgn : ∀ p r,Kgl p = some r → Kgm p r := by
 rintro ⟨l0,n1⟩ r h
 unfold Kgl at h
 refine b0 Tryz.f90 B90 18 [(0,sI l0),(1,I n1)] fun c hc => ?_
 refine rs0 hc 1 [(0,sI l0),(1,I n1)] [] ?_
 refine sN ?_
 refine rs0 hc 1 [(0,sI l0),(1,I n1),(5,I 0)] [] ?_
 refine bk 0 ?_
 obtain ⟨fl,a0,h⟩ := Qct h
 have hL := Kgk _ _ a0 c hc
 refine lp ?_
 rcases fl with ⟨⟩ | r
 ·refine WpL.into (e := (.exit 0)) (mkS [] []) hL ?_
  refine Qc7 ?_
  refine rs0 hc 1 [(4,.bool false)] [] ?_
  refine rt ?_
  obtain rfl := os h
  exact rq [true]
 refine WpL.mono hL ?_
 rintro _ _ ⟨rfl,hfin⟩
 obtain rfl := os h
 exact ⟨.inl rfl,hfin⟩
def Kgo (c : Ctx) : (List Int) → Exit → Q0a → Prop
 | a0 => Qcf c (.exit 0) (mkS [(12,.rs 3)] [(3,rI a0)])
def Kgp (p : (List Int) × (List Int) × (List Int) × Int) : Option ((List Int)) :=
 match p with
 | (view1,a0,a1,a2) =>
  if (decide (a2 < (a0.length : Int))) = true then
  (idx a0 a2) >>= fun a3 =>
  (Kgl (view1,a3)) >>= fun a4 =>
  ((
  if a4 = true then
  (Qd6 (a1.length + [a2].length) 8) >>= fun _ =>
  some ((a1 ++ [a2]))
  else
  some (a1)
  ) : Option ((List Int))) >>= fun a5 =>
  Kgp (view1,a0,a5,(wr (a2 + 1)))
  else
  some (a1)
 partial_fixpoint
def Kgq (p : (List Int) × (List Int) × (List Int) × Int) (fl : (List Int)) : Prop :=
 match p with
 | (view1,a0,a1,a2) => ∀ c : Ctx,c.nt = 48 → WpL Tryz.prog c (cl (cl (cr (cl (cr (cr (cr (cr B40)))))))) (Kgo c fl) (mkS [(1,sI view1),(10,sI a0),(12,.rs 3),(13,I a2)] [(3,rI a1)])
theorem Kgr : ∀ p r,Kgp p = some r → Kgq p r := by
 refine Kgp.partial_correctness Kgq ?_
 rintro spec_SeenVariables_l0_f spec_SeenVariables_l0_ih ⟨view1,a0,a1,a2⟩ r h
 intro c hc
 refine WpL.step ?_
 refine sN ?_
 refine rss hc none [oN,oN,some (.eqv (.no) ⟨[(33,I (a0.length : Int))],[],[]⟩),oN] [(1,sI view1),(10,sI a0),(12,.rs 3),(13,I a2),(34,.bool (decide (a2 < (a0.length : Int))))] (ai (Qcz (d := 33) I a0) tv) ?_
 refine ic h (fun a3 h => ?_) fun a3 h => ?_
 ·refine sk ?_
  refine sN ?_
  refine bk 1 ?_
  obtain ⟨a4,a5,a6,a7,h⟩ := bq2 h
  refine rss hc none [oN,oN,oN,some (.el (I a4)),oN,oc (.bool a6)] [(1,sI view1),(10,sI a0),(12,.rs 3),(13,I a2),(42,.bool a6)] (ai (ix a5) (cq (Kgn _ _ a7) K5j tv)) ?_
  obtain ⟨a8,a9,h⟩ := Qct h
  refine Wp.into (x := .normal) (mkS [(1,sI view1),(10,sI a0),(12,.rs 7),(13,I a2)] [(7,rI a8)]) ?_ ?_
  ·replace h := a9
   refine ic h (fun b1 h => ?_) fun b1 h => ?_
   ·obtain ⟨_,b2,h⟩ := Qct h
    refine rg hc none [oN,oN,some (.mk 6 true),some (.eqv (.mk 7 true) ⟨[(46,.rs 7)],[(7,some (rI (a1 ++ [a2]))),(3,none),(6,none)],[7]⟩),oN] [(1,sI view1),(10,sI a0),(12,.rs 7),(13,I a2)] [(7,rI (a1 ++ [a2]))] (ab (congrArg (fun z => (⟨[(46,.rs 7)],[(7,some (.arr z)),(3,none),(6,none)],[7]⟩ : Wr)) ((List.map_append).symm : (List.map I a1) ++ (List.map I [a2]) = List.map I (a1 ++ [a2]))) (Qd7 (enc1 := I) (enc2 := I) (e1 := a1) (e2 := [a2]) (sz := 1) Qdg Qdg b2) tv) ?_
    obtain rfl := os h
    exact Qcf.mk
   refine sk ?_
   obtain rfl := os h
   exact iv [(7,3)]
  clear a9
  refine K8g hc 3 [(1,sI view1),(10,sI a0),(12,.rs 7),(13,I (wr (a2 + 1)))] ?_
  refine Qcb ?_
  exact WpL.view (fun a w hv => SRx.renL [(3,7)] hv (by kernel_rfl) (by kernel_rfl) (by kernel_rfl)) (spec_SeenVariables_l0_ih _ _ h c hc)
 refine xt 0 ?_
 refine Qc5 ?_
 refine Qcc ?_
 obtain rfl := os h
 exact iv []
def Kgs (p : K00 × (List Int) × LL × K01) : Option ((List Int)) :=
 match p with
 | (s0,view1,ctx2,t3) =>
  (Kfu (s0,ctx2,t3)) >>= fun (a0,a1,a2) =>
  ((
  if a2 = true then
  (Kge (s0,view1)) >>= fun a3 =>
  some ((!a3))
  else
  some (true)
  ) : Option (Bool)) >>= fun a4 =>
  if a4 = true then
  some []
  else
  (Kgp (view1,a1,[],0)) >>= fun a5 =>
  some a5
def Kgt (p : K00 × (List Int) × LL × K01) (r : (List Int)) : Prop :=
 match p with
 | (s0,view1,ctx2,t3) => Q71 Tryz.prog 40 [K1t s0,sI view1,sL ctx2,K1v t3] (oI r) []
theorem Kgu : ∀ p r,Kgs p = some r → Kgt p r := by
 rintro ⟨s0,view1,ctx2,t3⟩ r h
 unfold Kgs at h
 refine b0 Tryz.f40 B40 48 [(0,K1t s0),(1,sI view1),(2,sL ctx2),(3,K1v t3)] fun c hc => ?_
 refine rs hc none [some (.new 1),some (.new 2),oN] [(1,sI view1),(2,sL ctx2),(4,.ra 1 0),(7,.ra 2 0)] [(1,K1s s0),(2,K1u t3)] tv ?_
 obtain ⟨⟨a0,a1,a2⟩,a3,h⟩ := Qct h
 refine rs hc none [oN,oN,oN,oc (.tup [sI a0,sI a1,.bool a2]),oN,oN,oN,oN,oN,oN,oN] [(1,sI view1),(4,.ra 1 0),(10,sI a1),(11,.bool a2)] [(1,K1s s0)] (cq (Kfw _ _ a3) K5f tv) ?_
 refine sN ?_
 refine sN ?_
 obtain ⟨a4,a5,h⟩ := Qct h
 refine Wp.into (x := .normal) (mkS [(1,sI view1),(10,sI a1),(29,.bool a4)] []) ?_ ?_
 ·replace h := a5
  rcases is h with ⟨a6,h⟩ | ⟨a6,h⟩
  ·obtain ⟨a7,a8,h⟩ := Qct h
   refine rg hc none [oN,oN,oN,oN,oN,oc (.bool a7),oN,oF] [(1,sI view1),(10,sI a1),(29,.bool (!a7))] [] (ar 3 (nF a6) (cq (Kgg _ _ a8) K5i (ar 2 (nF a6) tv))) ?_
   obtain rfl := os h
   exact Qcf.mk
  refine rg hc none [oN,oN,oN,o_,o_,o_,o_,oT] [(1,sI view1),(10,sI a1),(29,.bool true)] [] (ar 4 (neF (nT a6)) (ai (nT a6) tv)) ?_
  obtain rfl := os h
  exact Qcf.mk
 clear a5
 refine ic h (fun a9 h => ?_) fun a9 h => ?_
 ·refine rs0 hc 1 [(8,.nils)] [] ?_
  refine rt ?_
  obtain rfl := os h
  exact rq [true]
 refine sk ?_
 refine rs hc none [some (.mk 3 true),oN] [(1,sI view1),(10,sI a1),(12,.rs 3)] [(3,.arr (List.map I []))] tv ?_
 refine sN ?_
 refine K8h hc 1 [(1,sI view1),(10,sI a1),(12,.rs 3),(13,I 0)] ?_
 refine bk 0 ?_
 obtain ⟨b1,b2,h⟩ := Qct h
 have hL := Kgr _ _ b2 c hc
 refine lp ?_
 refine WpL.into (e := (.exit 0)) (mkS [(12,.rs 3)] [(3,rI b1)]) hL ?_
 refine Qc7 ?_
 refine K8h hc 2 [(8,.rs 3)] ?_
 refine rt ?_
 obtain rfl := os h
 exact rq [true]
def Kgv (p : Int × Int × Int) : Option (Bool) :=
 match p with
 | (n0,low1,high2) =>
  ((
  if (decide (n0 ≥ low1)) = true then
  some ((decide (n0 ≤ high2)))
  else
  some (false)
  ) : Option (Bool)) >>= fun a0 =>
  some a0
def Kgw (p : Int × Int × Int) (r : Bool) : Prop :=
 match p with
 | (n0,low1,high2) => Q71 Tryz.prog 108 [I n0,I low1,I high2] (.bool r) []
theorem Kgx : ∀ p r,Kgv p = some r → Kgw p r := by
 rintro ⟨n0,low1,high2⟩ r h
 unfold Kgv at h
 refine b0 Tryz.f108 K5l 15 [(0,I n0),(1,I low1),(2,I high2)] fun c hc => ?_
 refine rs0 hc 1 [(0,I n0),(1,I low1),(2,I high2)] [] ?_
 refine sN ?_
 obtain ⟨a0,a1,h⟩ := Qct h
 refine Wp.into (x := .normal) (mkS [(6,.bool a0)] []) ?_ ?_
 ·replace h := a1
  rcases is h with ⟨a2,h⟩ | ⟨a2,h⟩
  ·refine rg hc none [oN,oN,oN,oN,oN,oN,oN,oT,oN] [(6,.bool (decide (n0 ≤ high2)))] [] (ar 4 a2 tv) ?_
   obtain rfl := os h
   exact Qcf.mk
  refine rg hc none [oN,oN,oN,oN,o_,o_,o_,oF,oN] [(6,.bool false)] [] (ar 3 (neT a2) (ai a2 tv)) ?_
  obtain rfl := os h
  exact Qcf.mk
 clear a1
 refine rt ?_
 obtain rfl := os h
 exact rq [true]
def Kgy (p : K00 × Int) : Option (Bool) :=
 match p with
 | (s0,g1) =>
  (Kgv (g1,0,(wr (s0.fSize - 1)))) >>= fun a0 =>
  some a0
def Kgz (p : K00 × Int) (r : Bool) : Prop :=
 match p with
 | (s0,g1) => Q71 Tryz.prog 85 [K1t s0,I g1] (.bool r) []
theorem Kh0 : ∀ p r,Kgy p = some r → Kgz p r := by
 rintro ⟨s0,g1⟩ r h
 unfold Kgy at h
 refine b0 Tryz.f85 B85 10 [(0,K1t s0),(1,I g1)] fun c hc => ?_
 refine rs hc none [some (.new 1),oN] [(1,I g1),(2,.ra 1 0)] [(1,K1s s0)] tv ?_
 obtain ⟨a0,a1,h⟩ := Qct h
 refine rs hc none [oN,oN,oN,oN,oc (.bool a0),oN] [(4,.bool a0)] [] (cq (Kgx _ _ a1) K5m tv) ?_
 refine rt ?_
 obtain rfl := os h
 exact rq [true]
def Kh1 (p : K00 × Int × Int) : Option (Int) :=
 match p with
 | (s0,a1,b2) =>
  (idx s0.fPlus (wr ((wr (a1 * s0.fSize)) + b2))) >>= fun a0 =>
  some a0
def Kh2 (p : K00 × Int × Int) (r : Int) : Prop :=
 match p with
 | (s0,a1,b2) => Q71 Tryz.prog 169 [K1t s0,I a1,I b2] (I r) []
theorem Kh3 : ∀ p r,Kh1 p = some r → Kh2 p r := by
 rintro ⟨s0,a1,b2⟩ r h
 unfold Kh1 at h
 refine b0 Tryz.f169 K5o 17 [(0,K1t s0),(1,I a1),(2,I b2)] fun c hc => ?_
 refine rs hc none [some (.new 1),oN] [(1,I a1),(2,I b2),(3,.ra 1 0)] [(1,K1s s0)] tv ?_
 obtain ⟨a0,a2,h⟩ := Qct h
 refine rs hc none [oN,oN,oN,oN,oN,oN,oN,oN,some (.el (I a0)),oN,oN] [(6,I a0)] [] (ai (ix a2) tv) ?_
 refine rt ?_
 obtain rfl := os h
 exact rq [true]
def Kh4 (p : K00 × Int × Int) : Option (Int) :=
 match p with
 | (s0,a1,b2) =>
  (idx s0.fTimes (wr ((wr (a1 * s0.fSize)) + b2))) >>= fun a0 =>
  some a0
def Kh5 (p : K00 × Int × Int) (r : Int) : Prop :=
 match p with
 | (s0,a1,b2) => Q71 Tryz.prog 170 [K1t s0,I a1,I b2] (I r) []
theorem Kh6 : ∀ p r,Kh4 p = some r → Kh5 p r := by
 rintro ⟨s0,a1,b2⟩ r h
 unfold Kh4 at h
 refine b0 Tryz.f170 K5q 17 [(0,K1t s0),(1,I a1),(2,I b2)] fun c hc => ?_
 refine rs hc none [some (.new 1),oN] [(1,I a1),(2,I b2),(3,.ra 1 0)] [(1,K1s s0)] tv ?_
 obtain ⟨a0,a2,h⟩ := Qct h
 refine rs hc none [oN,oN,oN,oN,oN,oN,oN,oN,some (.el (I a0)),oN,oN] [(6,I a0)] [] (ai (ix a2) tv) ?_
 refine rt ?_
 obtain rfl := os h
 exact rq [true]
def Kh7 (p : K00 × Int × Int) : Option (Bool) :=
 match p with
 | (s0,a1,b2) =>
  (idx s0.fBelow (wr ((wr (a1 * s0.fSize)) + b2))) >>= fun a0 =>
  some a0
def Kh8 (p : K00 × Int × Int) (r : Bool) : Prop :=
 match p with
 | (s0,a1,b2) => Q71 Tryz.prog 86 [K1t s0,I a1,I b2] (.bool r) []
theorem Kh9 : ∀ p r,Kh7 p = some r → Kh8 p r := by
 rintro ⟨s0,a1,b2⟩ r h
 unfold Kh7 at h
 refine b0 Tryz.f86 B86 17 [(0,K1t s0),(1,I a1),(2,I b2)] fun c hc => ?_
 refine rs hc none [some (.new 1),oN] [(1,I a1),(2,I b2),(3,.ra 1 0)] [(1,K1s s0)] tv ?_
 obtain ⟨a0,a2,h⟩ := Qct h
 refine rs hc none [oN,oN,oN,oN,oN,oN,oN,oN,some (.el (.bool a0)),oN,oN] [(6,.bool a0)] [] (ai (Qcx (enc := AV.bool) (x := .bool a0) a2 (Qda a0)) tv) ?_
 refine rt ?_
 obtain rfl := os h
 exact rq [true]
def Kha (c : Ctx) (s0 : K00) (a1 : Int) (b2 : Int) (a0 : Int) : Bool → Exit → Q0a → Prop
 | a2 => Qcf c (.exit 2) (mkS [(1,I a1),(2,I b2),(3,.ra 1 0),(7,I a0),(8,.bool a2)] [(1,K1s s0)])
def Khb (p : K00 × Int × Int × Int × Bool × Int) : Option (Bool) :=
 match p with
 | (s0,a1,b2,a0,a2,a3) =>
  if (decide (a3 < s0.fSize)) = true then
  ((
  if a2 = true then
  (Kh7 (s0,a1,a3)) >>= fun a4 =>
  if a4 = true then
  (Kh7 (s0,b2,a3)) >>= fun a5 =>
  if a5 = true then
  (Kh7 (s0,a0,a3)) >>= fun a6 =>
  some (a6)
  else
  some (true)
  else
  some (true)
  else
  some (false)
  ) : Option (Bool)) >>= fun a7 =>
  Khb (s0,a1,b2,a0,a7,(wr (a3 + 1)))
  else
  some (a2)
 partial_fixpoint
def Khc (p : K00 × Int × Int × Int × Bool × Int) (fl : Bool) : Prop :=
 match p with
 | (s0,a1,b2,a0,a2,a3) => ∀ c : Ctx,c.nt = 57 → WpL Tryz.prog c (cl (cl (cr (cl (cr (cr (cl (cl (cr (cl (cl (cr (cl (cr K5t)))))))))))))) (Kha c s0 a1 b2 a0 fl) (mkS [(1,I a1),(2,I b2),(3,.ra 1 0),(7,I a0),(8,.bool a2),(9,I a3)] [(1,K1s s0)])
theorem Khd : ∀ p r,Khb p = some r → Khc p r := by
 refine Khb.partial_correctness Khc ?_
 rintro impl_Systemjoin_l0_f impl_Systemjoin_l0_ih ⟨s0,a1,b2,a0,a2,a3⟩ r h
 intro c hc
 refine WpL.step ?_
 refine sN ?_
 refine K8h hc 4 [(1,I a1),(2,I b2),(3,.ra 1 0),(7,I a0),(8,.bool a2),(9,I a3),(31,.bool (decide (a3 < s0.fSize)))] ?_
 refine ic h (fun a4 h => ?_) fun a4 h => ?_
 ·refine sk ?_
  refine sN ?_
  refine bk 3 ?_
  obtain ⟨a5,a6,h⟩ := Qct h
  refine Wp.into (x := .normal) (mkS [(1,I a1),(2,I b2),(3,.ra 1 0),(7,I a0),(8,.bool a5),(9,I a3)] [(1,K1s s0)]) ?_ ?_
  ·replace h := a6
   rcases is h with ⟨a7,h⟩ | ⟨a7,h⟩
   ·obtain ⟨a8,a9,h⟩ := Qct h
    rcases is h with ⟨b1,h⟩ | ⟨b1,h⟩
    ·obtain ⟨b3,b4,h⟩ := Qct h
     rcases is h with ⟨b5,h⟩ | ⟨b5,h⟩
     ·obtain ⟨b6,b7,h⟩ := Qct h
      refine rgs hc none [oN,oN,oN,oN,oN,oc (.bool a8),oN,oN,oN,oN,oN,oc (.bool b3),oN,oF,oN,oN,oN,oN,oc (.bool b6),oF,oT,oN] [(1,I a1),(2,I b2),(3,.ra 1 0),(7,I a0),(8,.bool b6),(9,I a3)] (ar 4 a7 (cq (Kh9 _ _ a9) K5s (ar 2 a7 (ar 4 (nF b1) (cq (Kh9 _ _ b4) K5s (ad (nF b1) a7 (nF b1) a7 (ar 4 (nF b5) (cq (Kh9 _ _ b7) K5s (ac a7 (nF b5) a7 tv))))))))) ?_
      obtain rfl := os h
      exact Qcf.mk
     refine rgs hc none [oN,oN,oN,oN,oN,oc (.bool a8),oN,oN,oN,oN,oN,oc (.bool b3),oN,oF,oN,o_,o_,o_,o_,oT,oT,oN] [(1,I a1),(2,I b2),(3,.ra 1 0),(7,I a0),(8,.bool true),(9,I a3)] (ar 4 a7 (cq (Kh9 _ _ a9) K5s (ar 2 a7 (ar 4 (nF b1) (cq (Kh9 _ _ b4) K5s (ad (nF b1) a7 (nF b1) a7 (ar 4 (neF (nT b5)) (ac a7 (nT b5) a7 tv)))))))) ?_
     obtain rfl := os h
     exact Qcf.mk
    refine rgs hc none [oN,oN,oN,oN,oN,oc (.bool a8),oN,oN,o_,o_,o_,o_,o_,oT,oN,o_,o_,o_,o_,oT,oT,oN] [(1,I a1),(2,I b2),(3,.ra 1 0),(7,I a0),(8,.bool true),(9,I a3)] (ar 4 a7 (cq (Kh9 _ _ a9) K5s (ar 2 a7 (ar 5 (neF (nT b1)) (ac a7 (nT b1) a7 (ar 4 nf (ac a7 tt a7 tv))))))) ?_
    obtain rfl := os h
    exact Qcf.mk
   refine rgs hc none [oN,oN,o_,o_,o_,o_,o_,o_,o_,o_,o_,o_,o_,o_,o_,o_,o_,o_,o_,o_,oF,oN] [(1,I a1),(2,I b2),(3,.ra 1 0),(7,I a0),(8,.bool false),(9,I a3)] (ar 9 (neT a7) (ai a7 tv)) ?_
   obtain rfl := os h
   exact Qcf.mk
  clear a6
  refine K8g hc 3 [(1,I a1),(2,I b2),(3,.ra 1 0),(7,I a0),(8,.bool a5),(9,I (wr (a3 + 1)))] ?_
  refine Qcb ?_
  exact (impl_Systemjoin_l0_ih _ _ h c hc)
 refine xt 2 ?_
 refine Qc5 ?_
 refine Qcc ?_
 obtain rfl := os h
 exact iv []
def Khe (c : Ctx) (s0 : K00) (a1 : Int) (b2 : Int) (a0 : Int) : (Unit) ⊕ (Int) → Exit → Q0a → Prop
 | .inl _ => Qcf c .normal (mkS [(1,I a1),(2,I b2),(3,.ra 1 0),(7,I a0)] [(1,K1s s0)])
 | .inr r => Qco TIx Tryz.f171 [] (I r)
def Khf (c : Ctx) : (Unit) ⊕ (Int) → Exit → Q0a → Prop
 | .inl _ => Qcf c (.exit 0) (mkS [] [])
 | .inr r => Qco TIx Tryz.f171 [] (I r)
def Khg (p : K00 × Int × Int × Int) : Option ((Unit) ⊕ (Int)) :=
 match p with
 | (s0,a1,b2,a0) =>
  if (decide (a0 < s0.fSize)) = true then
  ((
   ((
   (Kh7 (s0,a1,a0)) >>= fun a2 =>
   if a2 = true then
   (Kh7 (s0,b2,a0)) >>= fun a3 =>
   some ((!a3))
   else
   some (true)
   ) : Option (Bool)) >>= fun a4 =>
   if a4 = true then
   some (.inl ())
   else
   (Khb (s0,a1,b2,a0,true,0)) >>= fun a5 =>
   if a5 = true then
   some (.inr a0)
   else
   some (.inl ())) : Option ((Unit) ⊕ (Int))) >>= fun fl => match fl with
  | .inl () =>
   Khg (s0,a1,b2,(wr (a0 + 1)))
  | .inr r =>
   some (.inr r)
  else
  some (.inl ())
 partial_fixpoint
def Khh (p : K00 × Int × Int × Int) (fl : (Unit) ⊕ (Int)) : Prop :=
 match p with
 | (s0,a1,b2,a0) => ∀ c : Ctx,c.nt = 57 → WpL Tryz.prog c (cl (cl (cr (cl (cr K5t))))) (Khf c fl) (mkS [(1,I a1),(2,I b2),(3,.ra 1 0),(7,I a0)] [(1,K1s s0)])
theorem Khi : ∀ p r,Khg p = some r → Khh p r := by
 refine Khg.partial_correctness Khh ?_
 rintro impl_Systemjoin_l1_f impl_Systemjoin_l1_ih ⟨s0,a1,b2,a0⟩ r h
 intro c hc
 refine WpL.step ?_
 refine sN ?_
 refine K8h hc 4 [(1,I a1),(2,I b2),(3,.ra 1 0),(7,I a0),(13,.bool (decide (a0 < s0.fSize)))] ?_
 refine ic h (fun a2 h => ?_) fun a2 h => ?_
 ·refine sk ?_
  refine sN ?_
  obtain ⟨fl,a3,h⟩ := Qct h
  refine flw (Khe c s0 a1 b2 a0 fl) ?_ (fun hF => ?_)
  ·replace h := a3
   refine bk 1 ?_
   refine sN ?_
   refine sN ?_
   obtain ⟨a4,a5,h⟩ := Qct h
   refine Wp.into (x := .normal) (mkS [(1,I a1),(2,I b2),(3,.ra 1 0),(7,I a0),(27,.bool a4)] [(1,K1s s0)]) ?_ ?_
   ·replace h := a5
    obtain ⟨a6,a7,h⟩ := Qct h
    rcases is h with ⟨a8,h⟩ | ⟨a8,h⟩
    ·obtain ⟨a9,b1,h⟩ := Qct h
     refine rgs hc none [oN,oN,oN,oc (.bool a6),oN,oN,oN,oN,oN,oc (.bool a9),oN,oF] [(1,I a1),(2,I b2),(3,.ra 1 0),(7,I a0),(27,.bool (!a9))] (cq (Kh9 _ _ a7) K5s (ar 4 (nF a8) (cq (Kh9 _ _ b1) K5s (ar 2 (nF a8) tv)))) ?_
     obtain rfl := os h
     exact Qcf.mk
    refine rgs hc none [oN,oN,oN,oc (.bool a6),oN,oN,o_,o_,o_,o_,o_,oT] [(1,I a1),(2,I b2),(3,.ra 1 0),(7,I a0),(27,.bool true)] (cq (Kh9 _ _ a7) K5s (ar 5 (neF (nT a8)) (ai (nT a8) tv))) ?_
    obtain rfl := os h
    exact Qcf.mk
   clear a5
   refine ic h (fun b3 h => ?_) fun b3 h => ?_
   ·refine xt 1 ?_
    refine Qc5 ?_
    refine Qc7 ?_
    obtain rfl := os h
    exact iv []
   refine sk ?_
   refine K8h hc 1 [(1,I a1),(2,I b2),(3,.ra 1 0),(7,I a0),(8,.bool true)] ?_
   refine sN ?_
   refine K8h hc 1 [(1,I a1),(2,I b2),(3,.ra 1 0),(7,I a0),(8,.bool true),(9,I 0)] ?_
   refine bk 2 ?_
   obtain ⟨b4,b5,h⟩ := Qct h
   have hL := Khd _ _ b5 c hc
   refine lp ?_
   refine WpL.into (e := (.exit 2)) (mkS [(1,I a1),(2,I b2),(3,.ra 1 0),(7,I a0),(8,.bool b4)] [(1,K1s s0)]) hL ?_
   refine Qc7 ?_
   refine K8h hc 1 [(1,I a1),(2,I b2),(3,.ra 1 0),(7,I a0),(55,.bool b4)] ?_
   refine ic h (fun b6 h => ?_) fun b6 h => ?_
   ·refine rs0 hc 2 [(6,I a0)] [] ?_
    refine rt ?_
    obtain rfl := os h
    exact re [true]
   refine sk ?_
   obtain rfl := os h
   exact iv []
  rcases fl with ⟨⟩ | r
  ·refine Wp.into (x := .normal) (mkS [(1,I a1),(2,I b2),(3,.ra 1 0),(7,I a0)] [(1,K1s s0)]) hF ?_
   refine K8g hc 3 [(1,I a1),(2,I b2),(3,.ra 1 0),(7,I (wr (a0 + 1)))] ?_
   refine Qcb ?_
   exact (impl_Systemjoin_l1_ih _ _ h c hc)
  refine Wp.mono hF ?_
  rintro _ _ ⟨rfl,hfin⟩
  obtain rfl := os h
  exact ⟨rfl,hfin⟩
 refine xt 0 ?_
 refine Qc5 ?_
 refine Qcc ?_
 obtain rfl := os h
 exact iv []
def Khj (p : K00 × Int × Int) : Option (Int) :=
 match p with
 | (s0,a1,b2) =>
  (Khg (s0,a1,b2,0)) >>= fun fl => match fl with
  | .inl () =>
   some (-1)
  | .inr r =>
   some r
def Khk (p : K00 × Int × Int) (r : Int) : Prop :=
 match p with
 | (s0,a1,b2) => Q71 Tryz.prog 171 [K1t s0,I a1,I b2] (I r) []
theorem Khl : ∀ p r,Khj p = some r → Khk p r := by
 rintro ⟨s0,a1,b2⟩ r h
 unfold Khj at h
 refine b0 Tryz.f171 K5t 57 [(0,K1t s0),(1,I a1),(2,I b2)] fun c hc => ?_
 refine rs hc none [some (.new 1),oN] [(1,I a1),(2,I b2),(3,.ra 1 0)] [(1,K1s s0)] tv ?_
 refine sN ?_
 refine K8h hc 1 [(1,I a1),(2,I b2),(3,.ra 1 0),(7,I 0)] ?_
 refine bk 0 ?_
 obtain ⟨fl,a0,h⟩ := Qct h
 have hL := Khi _ _ a0 c hc
 refine lp ?_
 rcases fl with ⟨⟩ | r
 ·refine WpL.into (e := (.exit 0)) (mkS [] []) hL ?_
  refine Qc7 ?_
  refine rs0 hc 1 [(6,I (-1))] [] ?_
  refine rt ?_
  obtain rfl := os h
  exact rq [true]
 refine WpL.mono hL ?_
 rintro _ _ ⟨rfl,hfin⟩
 obtain rfl := os h
 exact ⟨.inl rfl,hfin⟩
end Go.Am
