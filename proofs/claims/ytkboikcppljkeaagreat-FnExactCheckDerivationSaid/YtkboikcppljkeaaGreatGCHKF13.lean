/- Functions of the program as pure functions,and that it computes them. Printed by a program of mine (gen.py). -/
import Derived.Test.YtkboikcppljkeaaGreatGCHKF10
set_option linter.unusedVariables false
set_option linter.unusedSimpArgs false
set_option maxRecDepth 100000
namespace Go.Am
open Go Go.Proofs
def Ko4 : Option (List (List Nat)) := rx [[0],[0],[0,1],[0,1,2],[0],[0,4],[6],[7]]
def Ko5 : Option (List (List Nat)) := rx [[0],[0],[0],[0,2],[0],[0],[0],[0,6],[0],[0,8],[0,8,9],[0,2,3,5,6,7,8,9,10],[0],[0,12],[0,12,13],[0,2,3,4,5,6,7,8,9,10,11,12,13,14],[1,2,3,4,5,6,7,8,9,10,11,12,13,14,15],[1,2,3,4,5,6,7,8,9,10,11,12,13,14,15,16],[1,2,3,4,5,6,7,8,9,10,11,12,13,14,15,16,17],[19],[20],[21]]
def Ko6 : Option (List (List Nat)) := rx [[0],[0],[0],[0],[0,3],[0],[0,5],[0,2,3,4,5,6],[0,2,3,4,5,6,7],[0],[0,9],[0,9,10],[1,2,3,4,5,6,7,8,9,10,11],[1,2,3,4,5,6,7,8,9,10,11,12],[1,2,3,4,5,6,7,8,9,10,11,12,13],[15],[16],[17]]
def Ko7 : Option (List (List Nat)) := rx [[0],[0],[0,1],[0,1,2],[0],[0,4],[6],[7],[8],[9],[9],[9,10],[9,10,11],[9],[9,13],[15],[16],[17]]
def Ko8 (p : K06 × K05 × LL × K01 × LL × LL) : Option (Int × K05) :=
 match p with
 | (p0,out1,ctx2,t3,needs4,used5) =>
  ((
   if (t3.fOp == 0) = true then
   (idx ctx2 t3.fN) >>= fun a0 =>
   (Klx a0) >>= fun a1 =>
   (idx out1.fneeds t3.fN) >>= fun a2 =>
   some (.inl (a1,(List.set out1.fneeds (Int.toNat t3.fN) 1)))
   else
   ((
    if (t3.fOp == 1) = true then
    some (.inl ([0],out1.fneeds))
    else
    ((
     if (t3.fOp == 2) = true then
     (idx needs4 0) >>= fun a3 =>
     (idx needs4 1) >>= fun a4 =>
     (Km7 (p0,a3,a4)) >>= fun a5 =>
     some (.inl ([0],a5))
     else
     ((
      if (t3.fOp == 3) = true then
      (Kma (1,out1)) >>= fun a6 =>
      (Kma (2,out1)) >>= fun a7 =>
      (Kke (a6,a7)) >>= fun a8 =>
      if a8 = true then
       (Kma (1,out1)) >>= fun a9 =>
       (idx needs4 0) >>= fun b1 =>
       (idx needs4 1) >>= fun b2 =>
       (idx needs4 2) >>= fun b3 =>
       (Kmk (p0,b2,b3)) >>= fun b4 =>
       (Km7 (p0,b1,b4)) >>= fun b5 =>
       some (.inl (a9,b5))
      else
       some (.inr (3,out1))
      else
      ((
       if (t3.fOp == 4) = true then
       (Kma (0,out1)) >>= fun b6 =>
       (Kma (1,out1)) >>= fun b7 =>
       (Kmy [[1],b6,b7]) >>= fun b8 =>
       (idx needs4 0) >>= fun b9 =>
       (idx needs4 1) >>= fun c0 =>
       (Km7 (p0,b9,c0)) >>= fun c1 =>
       some (.inl (b8,c1))
       else
       ((
        if (t3.fOp == 5) = true then
        (idx used5 1) >>= fun c2 =>
        (Kne (p0,c2,t3.fN)) >>= fun c3 =>
        if c3 = true then
         (Kma (1,out1)) >>= fun c4 =>
         (idx needs4 0) >>= fun c5 =>
         (Knl (p0,t3.fN,c5)) >>= fun c6 =>
         (idx needs4 1) >>= fun c7 =>
         (Km7 (p0,c6,c7)) >>= fun c8 =>
         some (.inl (c4,c8))
        else
         some (.inr (9,out1))
        else
        ((
         if (t3.fOp == 6) = true then
         (Kma (0,out1)) >>= fun c9 =>
         (Kmy [[2],c9,t3.fType]) >>= fun d0 =>
         (idx needs4 0) >>= fun d1 =>
         some (.inl (d0,d1))
         else
         ((
          if (t3.fOp == 7) = true then
          (Kma (0,out1)) >>= fun d2 =>
          (Kmy [[2],t3.fType,d2]) >>= fun d3 =>
          (idx needs4 0) >>= fun d4 =>
          some (.inl (d3,d4))
          else
          ((
           if (t3.fOp == 8) = true then
           (Kma (1,out1)) >>= fun d5 =>
           (Kma (2,out1)) >>= fun d6 =>
           (Kke (d5,d6)) >>= fun d7 =>
           if d7 = true then
            ((
            (idx used5 1) >>= fun d8 =>
            (Kne (p0,d8,t3.fN)) >>= fun d9 =>
            if d9 = true then
             (idx used5 2) >>= fun e0 =>
             (Kne (p0,e0,t3.fN)) >>= fun e1 =>
             some ((!e1))
            else
             some (true)
            ) : Option (Bool)) >>= fun e2 =>
            if e2 = true then
            some (.inr (9,out1))
            else
            (Kma (1,out1)) >>= fun e3 =>
            (idx needs4 0) >>= fun e4 =>
            (Knl (p0,t3.fN,e4)) >>= fun e5 =>
            (idx needs4 1) >>= fun e6 =>
            (idx needs4 2) >>= fun e7 =>
            (Kmk (p0,e6,e7)) >>= fun e8 =>
            (Km7 (p0,e5,e8)) >>= fun e9 =>
            some (.inl (e3,e9))
           else
            some (.inr (3,out1))
           else
           ((
            if (t3.fOp == 9) = true then
            (idx used5 0) >>= fun f0 =>
            (Kne (p0,f0,t3.fN)) >>= fun f1 =>
            if f1 = true then
             (Kma (0,out1)) >>= fun f2 =>
             (Kmy [[(wr (3 + t3.fN))],t3.fType,f2]) >>= fun f3 =>
             (idx needs4 0) >>= fun f4 =>
             some (.inl (f3,f4))
            else
             some (.inr (9,out1))
            else
            ((
             if (t3.fOp == 10) = true then
             (Kma (0,out1)) >>= fun f5 =>
             (idx f5 0) >>= fun f6 =>
             (Kj5 f6) >>= fun (f7,f8) =>
             (Kma (0,out1)) >>= fun f9 =>
             (Kkw f9) >>= fun g0 =>
             (idx g0 1) >>= fun g1 =>
             (idx needs4 0) >>= fun g2 =>
             (idx needs4 1) >>= fun g3 =>
             (Knl (p0,f8,g3)) >>= fun g4 =>
             (Km7 (p0,g2,g4)) >>= fun g5 =>
             some (.inl (g1,g5))
             else
             ((
              if (t3.fOp == 11) = true then
              (Kma (0,out1)) >>= fun g6 =>
              (Kmy [[(wr (19 + t3.fN))],g6]) >>= fun g7 =>
              (idx needs4 0) >>= fun g8 =>
              (Knl (p0,t3.fN,g8)) >>= fun g9 =>
              some (.inl (g7,g9))
              else
              ((
               if (t3.fOp == 12) = true then
               (Kma (0,out1)) >>= fun i0 =>
               (idx i0 0) >>= fun i1 =>
               (Kj5 i1) >>= fun (i2,i3) =>
               (idx used5 1) >>= fun i4 =>
               (Khw (p0.fs,t3.fN,i3)) >>= fun i5 =>
               (Kne (p0,i4,i5)) >>= fun i6 =>
               if i6 = true then
               (Kma (1,out1)) >>= fun i7 =>
               (idx needs4 0) >>= fun i8 =>
               (Knl (p0,t3.fN,i8)) >>= fun i9 =>
               (idx needs4 1) >>= fun j0 =>
               (Km7 (p0,i9,j0)) >>= fun j8 =>
               some (.inl (i7,j8))
               else
               some (.inr (9,out1))
               else
               some (.inl (out1.fty,out1.fneeds))) : Option (((List Int) × (List Int)) ⊕ ((Int × K05)))) >>= fun fl => match fl with
              | .inl (j9,k0) =>
               some (.inl (j9,k0))
              | .inr r =>
               some (.inr r)) : Option (((List Int) × (List Int)) ⊕ ((Int × K05)))) >>= fun fl => match fl with
             | .inl (k1,k2) =>
              some (.inl (k1,k2))
             | .inr r =>
              some (.inr r)) : Option (((List Int) × (List Int)) ⊕ ((Int × K05)))) >>= fun fl => match fl with
            | .inl (k3,k4) =>
             some (.inl (k3,k4))
            | .inr r =>
             some (.inr r)) : Option (((List Int) × (List Int)) ⊕ ((Int × K05)))) >>= fun fl => match fl with
           | .inl (k5,k6) =>
            some (.inl (k5,k6))
           | .inr r =>
            some (.inr r)) : Option (((List Int) × (List Int)) ⊕ ((Int × K05)))) >>= fun fl => match fl with
          | .inl (k7,k8) =>
           some (.inl (k7,k8))
          | .inr r =>
           some (.inr r)) : Option (((List Int) × (List Int)) ⊕ ((Int × K05)))) >>= fun fl => match fl with
         | .inl (k9,l0) =>
          some (.inl (k9,l0))
         | .inr r =>
          some (.inr r)) : Option (((List Int) × (List Int)) ⊕ ((Int × K05)))) >>= fun fl => match fl with
        | .inl (l1,l2) =>
         some (.inl (l1,l2))
        | .inr r =>
         some (.inr r)) : Option (((List Int) × (List Int)) ⊕ ((Int × K05)))) >>= fun fl => match fl with
       | .inl (l3,l4) =>
        some (.inl (l3,l4))
       | .inr r =>
        some (.inr r)) : Option (((List Int) × (List Int)) ⊕ ((Int × K05)))) >>= fun fl => match fl with
      | .inl (l5,l6) =>
       some (.inl (l5,l6))
      | .inr r =>
       some (.inr r)) : Option (((List Int) × (List Int)) ⊕ ((Int × K05)))) >>= fun fl => match fl with
     | .inl (l7,l8) =>
      some (.inl (l7,l8))
     | .inr r =>
      some (.inr r)) : Option (((List Int) × (List Int)) ⊕ ((Int × K05)))) >>= fun fl => match fl with
    | .inl (l9,m0) =>
     some (.inl (l9,m0))
    | .inr r =>
     some (.inr r)) : Option (((List Int) × (List Int)) ⊕ ((Int × K05)))) >>= fun fl => match fl with
   | .inl (m1,m2) =>
    some (.inl (m1,m2))
   | .inr r =>
    some (.inr r)) : Option (((List Int) × (List Int)) ⊕ ((Int × K05)))) >>= fun fl => match fl with
  | .inl (m3,m4) =>
   (Kno m3) >>= fun m5 =>
   if m5 = true then
   some (3,(K05.mk m3 m4 out1.fkids out1.ffault out1.fpath))
   else
   some (0,(K05.mk m3 m4 out1.fkids out1.ffault out1.fpath))
  | .inr r =>
   some r
def Ko9 (p : K06 × K05 × LL × K01 × LL × LL) (r : Int × K05) : Prop :=
 match p with
 | (p0,out1,ctx2,t3,needs4,used5) => Q71 Tryz.prog 80 [K2o p0,.optr [oI out1.fty,oI out1.fneeds,.osl (List.map K0i out1.fkids),I out1.ffault,oI out1.fpath],sL ctx2,K2g t3,sL needs4,sL used5] (I r.1) [.undef,.optr [.sl (List.map I r.2.fty),.sl (List.map I r.2.fneeds),.sl (List.map K0i r.2.fkids),I r.2.ffault,.sl (List.map I r.2.fpath)],.undef,.undef,.undef,.undef]
theorem Koa : ∀ p r,Ko8 p = some r → Ko9 p r := by
 rintro ⟨p0,out1,ctx2,t3,needs4,used5⟩ r h
 unfold Ko8 at h
 refine Q71.bodyO K3q (fn := Tryz.f80) (code := B80) (by kernel_rfl) (by kernel_rfl) (by kernel_rfl) (nt := 362) (by kernel_rfl) (by kernel_rfl) (T := [(0,K2o p0),(1,.ra 2000 0),(2,sL ctx2),(3,K2g t3),(4,sL needs4),(5,sL used5)]) (O := [(2000,.box [.rs 2001,.rs 2002,.rs 2003,I out1.ffault,.rs 2004]),(2001,rI out1.fty),(2002,rI out1.fneeds),(2003,.arr (List.map K0i out1.fkids)),(2004,rI out1.fpath)]) (by kernel_rfl) (by kernel_rfl) (fun c hc => ?_)
 refine vz 2001 (Qe5 out1.fty) [(0,K2o p0),(1,.ra 2000 0),(2,sL ctx2),(3,K2g t3),(4,sL needs4),(5,sL used5)] [(2000,.box [sI out1.fty,.rs 2002,.rs 2003,I out1.ffault,.rs 2004]),(2002,rI out1.fneeds),(2003,.arr (List.map K0i out1.fkids)),(2004,rI out1.fpath)] ?_
 refine vz 2003 (K0p out1.fkids) [(0,K2o p0),(1,.ra 2000 0),(2,sL ctx2),(3,K2g t3),(4,sL needs4),(5,sL used5)] [(2000,.box [sI out1.fty,.rs 2002,.sl (List.map K0i out1.fkids),I out1.ffault,.rs 2004]),(2002,rI out1.fneeds),(2004,rI out1.fpath)] ?_
 refine vz 2004 (Qe5 out1.fpath) [(0,K2o p0),(1,.ra 2000 0),(2,sL ctx2),(3,K2g t3),(4,sL needs4),(5,sL used5)] [(2000,.box [sI out1.fty,.rs 2002,.sl (List.map K0i out1.fkids),I out1.ffault,sI out1.fpath]),(2002,rI out1.fneeds)] ?_
 refine rs hc none [some (.new 1),some (.new 2),some (.new 3),oN] [(2,sL ctx2),(4,sL needs4),(5,sL used5),(6,.ra 1 0),(7,.ra 2 0),(9,.ra 3 0)] [(1,K2n p0),(2,.box [.ra 2000 0]),(3,K2f t3),(2000,.box [sI out1.fty,.rs 2002,.sl (List.map K0i out1.fkids),I out1.ffault,sI out1.fpath]),(2002,rI out1.fneeds)] tv ?_
 refine K8d hc 2 [(2,sL ctx2),(4,sL needs4),(5,sL used5),(6,.ra 1 0),(7,.ra 2 0),(9,.ra 3 0),(13,.fn 123 [.ra 2 0])] ?_
 refine sN ?_
 refine K8d hc 2 [(2,sL ctx2),(4,sL needs4),(5,sL used5),(6,.ra 1 0),(7,.ra 2 0),(9,.ra 3 0),(13,.fn 123 [.ra 2 0]),(20,I t3.fOp)] ?_
 refine bk 0 ?_
 refine K8d hc 2 [(2,sL ctx2),(4,sL needs4),(5,sL used5),(6,.ra 1 0),(7,.ra 2 0),(9,.ra 3 0),(13,.fn 123 [.ra 2 0]),(20,I t3.fOp),(21,.bool (t3.fOp == 0))] ?_
 obtain ⟨fl,a0,h⟩ := Qdd h
 refine flw (Ko3 c p0 out1 ctx2 t3 needs4 used5 fl) ?_ (fun hF => ?_)
 ·replace h := a0
  refine ic h (fun a1 h => ?_) fun a1 h => ?_
  ·obtain ⟨a2,a3,a4,a5,h⟩ := bq2 h
   refine rs hc (rx [[0],[0],[0],[0,2],[0,1,2,3],[0,1,2,3,4],[0,1,2,3,4,5],[7],[8],[9]]) [oN,oN,oN,oN,some (.el (sI a2)),oN,some (.call (oI a4) [] 4),oN,oN,oN] [(7,.ra 2 0),(9,.ra 3 0)] [(2,.box [.ra 2000 0]),(3,K2f t3),(4,rI a4),(2000,.box [.rs 4,.rs 2002,.sl (List.map K0i out1.fkids),I out1.ffault,sI out1.fpath]),(2002,rI out1.fneeds)] (ai (xL a3) (cq (Klz _ _ a5) K7b tv)) ?_
   obtain ⟨a6,a7,h⟩ := Qdd h
   refine rg hc (rx [[0],[1],[2],[3],[0],[0,4],[6],[7]]) [oN,oN,oN,oN,oN,oN,oN,some (.eqv (.mk 0 true) ⟨[],[(2002,some (.arr (List.map I (List.set out1.fneeds (Int.toNat t3.fN) 1))))],[]⟩)] [(7,.ra 2 0)] [(2,.box [.ra 2000 0]),(4,rI a4),(2000,.box [.rs 4,.rs 2002,.sl (List.map K0i out1.fkids),I out1.ffault,sI out1.fpath]),(2002,.arr (List.map I (List.set out1.fneeds (Int.toNat t3.fN) 1)))] (ac (Qdi (enc := I) a7) (congrArg (fun z => (⟨[],[(2002,some (.arr z))],[]⟩ : Wr)) (Qeg (enc := I) (i := Int.toNat t3.fN) (l := out1.fneeds) (v := 1) (x := I 1) (Qds 1))) (Qeh (enc := I) (sz := 1) Qdw a7) tv) ?_
   obtain rfl := os h
   exact Qcz.view (fun a w hv => SRx.renL [] (SRx.frzC 2002 (xs := List.map I (List.set out1.fneeds (Int.toNat t3.fN) 1)) (xs' := List.map I (List.set out1.fneeds (Int.toNat t3.fN) 1)) (SRx.frzC 4 (xs := List.map I a4) (xs' := List.map I a4) hv (by kernel_rfl) (Qe5 _)) (by kernel_rfl) (Qe5 _)) (by kernel_rfl) (by kernel_rfl) (by kernel_rfl))
  refine K8d hc 2 [(4,sL needs4),(5,sL used5),(6,.ra 1 0),(7,.ra 2 0),(9,.ra 3 0),(13,.fn 123 [.ra 2 0]),(20,I t3.fOp),(39,.bool (t3.fOp == 1))] ?_
  obtain ⟨fl,a8,h⟩ := Qdd h
  refine flw (Ko2 c p0 out1 ctx2 t3 needs4 used5 fl) ?_ (fun hF => ?_)
  ·replace h := a8
   refine ic h (fun a9 h => ?_) fun a9 h => ?_
   ·refine rg hc none [oN,some (.mk 5 true),oN,oN,oN] [(7,.ra 2 0)] [(2,.box [.ra 2000 0]),(5,.arr (List.map I [0])),(2000,.box [.rs 5,.rs 2002,.sl (List.map K0i out1.fkids),I out1.ffault,sI out1.fpath]),(2002,rI out1.fneeds)] tv ?_
    obtain rfl := os h
    exact Qcz.view (fun a w hv => SRx.renL [] (SRx.frzC 2002 (xs := List.map I out1.fneeds) (xs' := List.map I out1.fneeds) (SRx.frzC 5 (xs := List.map I [0]) (xs' := List.map I [0]) hv (by kernel_rfl) (Qe5 _)) (by kernel_rfl) (Qe5 _)) (by kernel_rfl) (by kernel_rfl) (by kernel_rfl))
   refine K8d hc 2 [(4,sL needs4),(5,sL used5),(6,.ra 1 0),(7,.ra 2 0),(9,.ra 3 0),(13,.fn 123 [.ra 2 0]),(20,I t3.fOp),(45,.bool (t3.fOp == 2))] ?_
   obtain ⟨fl,b1,h⟩ := Qdd h
   refine flw (Ko1 c p0 out1 ctx2 t3 needs4 used5 fl) ?_ (fun hF => ?_)
   ·replace h := b1
    refine ic h (fun b2 h => ?_) fun b2 h => ?_
    ·obtain ⟨b3,b4,b5,b6,b7,b8,h⟩ := bq3 h
     refine rg hc (rx [[0],[0],[0],[0],[0],[0,4],[0,4,5],[0],[0,7],[0,7,8],[0,3,4,5,6,7,8,9],[1,2,3,4,5,6,7,8,9,10],[1,2,3,4,5,6,7,8,9,10,11],[1,2,3,4,5,6,7,8,9,10,11,12],[14],[15],[16]]) [oN,oN,some (.mk 6 true),oN,oN,some (.el (sI b3)),oN,oN,some (.el (sI b5)),oN,some (.call (oI b7) [] 7),oN,oN,oN,oN,oN,oN] [(7,.ra 2 0)] [(2,.box [.ra 2000 0]),(6,.arr (List.map I [0])),(7,rI b7),(2000,.box [.rs 6,.rs 7,.sl (List.map K0i out1.fkids),I out1.ffault,sI out1.fpath])] (ab (xL b4) (xL b6) (cq (Km9 _ _ b8) K7f tv)) ?_
     obtain rfl := os h
     exact Qcz.view (fun a w hv => SRx.renL [] (SRx.frzC 7 (xs := List.map I b7) (xs' := List.map I b7) (SRx.frzC 6 (xs := List.map I [0]) (xs' := List.map I [0]) hv (by kernel_rfl) (Qe5 _)) (by kernel_rfl) (Qe5 _)) (by kernel_rfl) (by kernel_rfl) (by kernel_rfl))
    refine K8d hc 2 [(4,sL needs4),(5,sL used5),(6,.ra 1 0),(7,.ra 2 0),(9,.ra 3 0),(13,.fn 123 [.ra 2 0]),(20,I t3.fOp),(62,.bool (t3.fOp == 3))] ?_
    obtain ⟨fl,b9,h⟩ := Qdd h
    refine flw (Ko0 c p0 out1 ctx2 t3 needs4 used5 fl) ?_ (fun hF => ?_)
    ·replace h := b9
     refine ic h (fun c0 h => ?_) fun c0 h => ?_
     ·refine sN ?_
      refine sN ?_
      refine vz 2002 (Qe5 out1.fneeds) [(4,sL needs4),(5,sL used5),(6,.ra 1 0),(7,.ra 2 0),(9,.ra 3 0),(13,.fn 123 [.ra 2 0]),(20,I t3.fOp),(62,.bool (t3.fOp == 3))] [(1,K2n p0),(2,.box [.ra 2000 0]),(3,K2f t3),(2000,K2l out1)] ?_
      obtain ⟨c1,c2,c3,c4,c5,c6,h⟩ := bq3 h
      refine rg hc none [oN,some (.el (sI c1)),oN,some (.el (sI c3)),oc (.bool c5),oN] [(4,sL needs4),(6,.ra 1 0),(7,.ra 2 0),(13,.fn 123 [.ra 2 0]),(69,.bool (!c5))] [(1,K2n p0),(2,.box [.ra 2000 0]),(2000,K2l out1)] (ad (Kmc _ _ c2) K7h (Kmc _ _ c4) K7h (cq (Kkg _ _ c6) K6w tv)) ?_
      rcases is h with ⟨c7,h⟩ | ⟨c7,h⟩
      ·refine cF (!c5) (nF c7) ?_
       refine sk ?_
       obtain ⟨c8,c9,d0,d1,d2,d3,d4,d5,h⟩ := bq4 h
       obtain ⟨d6,d7,d8,d9,h⟩ := bq2 h
       refine rg hc (rx [[0],[0],[0],[0,2],[0],[0],[0,5],[0,5,6],[0],[0],[0,9],[0,9,10],[0],[0,12],[0,12,13],[0,2,3,8,9,10,11,12,13,14],[0,2,3,4,5,6,7,8,9,10,11,12,13,14,15],[1,2,3,4,5,6,7,8,9,10,11,12,13,14,15,16],[1,2,3,4,5,6,7,8,9,10,11,12,13,14,15,16,17],[1,2,3,4,5,6,7,8,9,10,11,12,13,14,15,16,17,18],[20],[21],[22]]) [oN,oN,oN,some (.el (sI c8)),oN,oN,some (.el (sI d0)),oN,oN,oN,some (.el (sI d2)),oN,oN,some (.el (sI d4)),oN,some (.call (oI d6) [] 8),some (.call (oI d8) [] 9),oN,oN,oN,oN,oN,oN] [(7,.ra 2 0)] [(2,.box [.ra 2000 0]),(9,rI d8),(2000,.box [sI c8,.rs 9,.sl (List.map K0i out1.fkids),I out1.ffault,sI out1.fpath])] (ad (Kmc _ _ c9) K7h (xL d1) (xL d3) (ai (xL d5) (cq (Kmm _ _ d7) K7j (ac (Q71.args (A1 := [K2o p0,sI d0,.sl (Q02 (List.map I d6))]) (A2 := [K2o p0,sI d0,sI d6]) (by simp only [List.map_nil,Qe5]) (Km9 _ _ d9)) K7f (Or.inr (Qed Qe9 d8) : ([8] : List Nat) = [] ∨ noSh (oI d8) = true) tv)))) ?_
       obtain rfl := os h
       exact Qcz.view (fun a w hv => SRx.renL [] (SRx.frzC 9 (xs := List.map I d8) (xs' := List.map I d8) hv (by kernel_rfl) (Qe5 _)) (by kernel_rfl) (by kernel_rfl) (by kernel_rfl))
      refine cT (!c5) (nT c7) ?_
      refine rs0 hc 1 [(12,I 3)] [(2000,K2l out1)] ?_
      refine rt ?_
      obtain rfl := os h
      exact Qdb.ret (fl := [true]) (by kernel_rfl)
     refine K8d hc 2 [(4,sL needs4),(5,sL used5),(6,.ra 1 0),(7,.ra 2 0),(9,.ra 3 0),(13,.fn 123 [.ra 2 0]),(20,I t3.fOp),(91,.bool (t3.fOp == 4))] ?_
     obtain ⟨fl,e0,h⟩ := Qdd h
     refine flw (Knz c p0 out1 ctx2 t3 needs4 used5 fl) ?_ (fun hF => ?_)
     ·replace h := e0
      refine ic h (fun e1 h => ?_) fun e1 h => ?_
      ·refine vz 2002 (Qe5 out1.fneeds) [(4,sL needs4),(5,sL used5),(6,.ra 1 0),(7,.ra 2 0),(9,.ra 3 0),(13,.fn 123 [.ra 2 0]),(20,I t3.fOp),(91,.bool (t3.fOp == 4))] [(1,K2n p0),(2,.box [.ra 2000 0]),(3,K2f t3),(2000,K2l out1)] ?_
       obtain ⟨e2,e3,e4,e5,e6,e7,e8,e9,h⟩ := bq4 h
       obtain ⟨f0,f1,f2,f3,h⟩ := bq2 h
       refine rg hc (rx [[0],[0],[0],[0],[0,3],[0],[0,3,4,5],[0,2,3,4,5,6],[0,2,3,4,5,6,7],[0],[0],[0,10],[0,10,11],[0],[0,13],[0,13,14],[0,2,3,4,5,6,7,8,9,10,11,12,13,14,15],[1,2,3,4,5,6,7,8,9,10,11,12,13,14,15,16],[1,2,3,4,5,6,7,8,9,10,11,12,13,14,15,16,17],[1,2,3,4,5,6,7,8,9,10,11,12,13,14,15,16,17,18],[20],[21],[22]]) [oN,oN,some (.mk 11 true),oN,some (.el (sI e2)),oN,some (.el (sI e4)),some (.mk 12 true),some (.call (sI e6) [.tup []] 1),oN,oN,some (.el (sI e8)),oN,oN,some (.el (sI f0)),oN,some (.call (oI f2) [] 13),oN,oN,oN,oN,oN,oN] [(7,.ra 2 0)] [(2,.box [.ra 2000 0]),(13,rI f2),(2000,.box [sI e6,.rs 13,.sl (List.map K0i out1.fkids),I out1.ffault,sI out1.fpath])] (ad (Kmc _ _ e3) K7h (Kmc _ _ e5) K7h (ad (Q71.args (A1 := [.sl (Q02 [AV.osl (List.map I [1]),sI e2,sI e4])]) (A2 := [.sl (List.map K07 [[1],e2,e4])]) (by simp only [List.map_cons,List.map_nil,K08,Qe5,share,Qf1,Q02]) (Kn0 _ _ e7)) K7n (xL e9) (xL f1) (cq (Km9 _ _ f3) K7f tv))) ?_
       obtain rfl := os h
       exact Qcz.view (fun a w hv => SRx.renL [] (SRx.frzC 13 (xs := List.map I f2) (xs' := List.map I f2) hv (by kernel_rfl) (Qe5 _)) (by kernel_rfl) (by kernel_rfl) (by kernel_rfl))
      refine K8d hc 2 [(4,sL needs4),(5,sL used5),(6,.ra 1 0),(7,.ra 2 0),(9,.ra 3 0),(13,.fn 123 [.ra 2 0]),(20,I t3.fOp),(114,.bool (t3.fOp == 5))] ?_
      obtain ⟨fl,f4,h⟩ := Qdd h
      refine flw (Kny c p0 out1 ctx2 t3 needs4 used5 fl) ?_ (fun hF => ?_)
      ·replace h := f4
       refine ic h (fun f5 h => ?_) fun f5 h => ?_
       ·refine sN ?_
        obtain ⟨f6,f7,f8,f9,h⟩ := bq2 h
        refine rss hc Ko4 [oN,oN,some (.el (sI f6)),oN,oN,oN,oc (.bool f8),oN] [(4,sL needs4),(6,.ra 1 0),(7,.ra 2 0),(9,.ra 3 0),(13,.fn 123 [.ra 2 0]),(123,.bool (!f8))] (ai (xL f7) (cq (Kng _ _ f9) K7v tv)) ?_
        rcases is h with ⟨g0,h⟩ | ⟨g0,h⟩
        ·refine cF (!f8) (nF g0) ?_
         refine sk ?_
         refine vz 2002 (Qe5 out1.fneeds) [(4,sL needs4),(6,.ra 1 0),(7,.ra 2 0),(9,.ra 3 0),(13,.fn 123 [.ra 2 0]),(123,.bool (!f8))] [(1,K2n p0),(2,.box [.ra 2000 0]),(3,K2f t3),(2000,K2l out1)] ?_
         obtain ⟨g1,g2,g3,g4,g5,g6,g7,g8,h⟩ := bq4 h
         obtain ⟨g9,i0,h⟩ := Qdd h
         refine rg hc Ko5 [oN,oN,oN,some (.el (sI g1)),oN,oN,oN,oN,oN,some (.el (sI g3)),oN,some (.call (oI g5) [] 14),oN,some (.el (sI g7)),oN,some (.call (oI g9) [] 15),oN,oN,oN,oN,oN,oN] [(7,.ra 2 0)] [(2,.box [.ra 2000 0]),(15,rI g9),(2000,.box [sI g1,.rs 15,.sl (List.map K0i out1.fkids),I out1.ffault,sI out1.fpath])] (ac (Kmc _ _ g2) K7h (xL g4) (cq (Knn _ _ g6) K7x (ad (xL g8) (Q71.args (A1 := [K2o p0,.sl (Q02 (List.map I g5)),sI g7]) (A2 := [K2o p0,sI g5,sI g7]) (by simp only [List.map_nil,Qe5]) (Km9 _ _ i0)) K7f (Or.inr (Qed Qe9 g9) : ([14] : List Nat) = [] ∨ noSh (oI g9) = true) tv))) ?_
         obtain rfl := os h
         exact Qcz.view (fun a w hv => SRx.renL [] (SRx.frzC 15 (xs := List.map I g9) (xs' := List.map I g9) hv (by kernel_rfl) (Qe5 _)) (by kernel_rfl) (by kernel_rfl) (by kernel_rfl))
        refine cT (!f8) (nT g0) ?_
        refine rs0 hc 1 [(12,I 9)] [(2000,.box [sI out1.fty,.rs 2002,.sl (List.map K0i out1.fkids),I out1.ffault,sI out1.fpath]),(2002,rI out1.fneeds)] ?_
        refine vz 2002 (Qe5 out1.fneeds) [(12,I 9)] [(2000,K2l out1)] ?_
        refine rt ?_
        obtain rfl := os h
        exact Qdb.ret (fl := [true]) (by kernel_rfl)
       refine K8d hc 2 [(4,sL needs4),(5,sL used5),(6,.ra 1 0),(7,.ra 2 0),(9,.ra 3 0),(13,.fn 123 [.ra 2 0]),(20,I t3.fOp),(144,.bool (t3.fOp == 6))] ?_
       obtain ⟨fl,i1,h⟩ := Qdd h
       refine flw (Knx c p0 out1 ctx2 t3 needs4 used5 fl) ?_ (fun hF => ?_)
       ·replace h := i1
        refine ic h (fun i2 h => ?_) fun i2 h => ?_
        ·refine vz 2002 (Qe5 out1.fneeds) [(4,sL needs4),(5,sL used5),(6,.ra 1 0),(7,.ra 2 0),(9,.ra 3 0),(13,.fn 123 [.ra 2 0]),(20,I t3.fOp),(144,.bool (t3.fOp == 6))] [(1,K2n p0),(2,.box [.ra 2000 0]),(3,K2f t3),(2000,K2l out1)] ?_
         obtain ⟨i3,i4,i5,i6,i7,i8,h⟩ := bq3 h
         refine rg hc Ko6 [oN,oN,some (.mk 17 true),oN,some (.el (sI i3)),oN,oN,some (.mk 18 true),some (.call (sI i5) [.tup []] 1),oN,some (.el (sI i7)),oN,oN,oN,oN,oN,oN,oN] [(7,.ra 2 0)] [(2,.box [.ra 2000 0]),(2000,.box [sI i5,sI i7,.sl (List.map K0i out1.fkids),I out1.ffault,sI out1.fpath])] (ad (Kmc _ _ i4) K7h (Q71.args (A1 := [.sl (Q02 [AV.osl (List.map I [2]),sI i3,sI t3.fType])]) (A2 := [.sl (List.map K07 [[2],i3,t3.fType])]) (by simp only [List.map_cons,List.map_nil,K08,Qe5,share,Qf1,Q02]) (Kn0 _ _ i6)) K7n (ai (xL i8) tv)) ?_
         obtain rfl := os h
         exact Qcz.mk
        refine K8d hc 2 [(4,sL needs4),(5,sL used5),(6,.ra 1 0),(7,.ra 2 0),(9,.ra 3 0),(13,.fn 123 [.ra 2 0]),(20,I t3.fOp),(162,.bool (t3.fOp == 7))] ?_
        obtain ⟨fl,i9,h⟩ := Qdd h
        refine flw (Knw c p0 out1 ctx2 t3 needs4 used5 fl) ?_ (fun hF => ?_)
        ·replace h := i9
         refine ic h (fun j0 h => ?_) fun j0 h => ?_
         ·refine vz 2002 (Qe5 out1.fneeds) [(4,sL needs4),(5,sL used5),(6,.ra 1 0),(7,.ra 2 0),(9,.ra 3 0),(13,.fn 123 [.ra 2 0]),(20,I t3.fOp),(162,.bool (t3.fOp == 7))] [(1,K2n p0),(2,.box [.ra 2000 0]),(3,K2f t3),(2000,K2l out1)] ?_
          obtain ⟨j8,j9,k0,k1,k2,k3,h⟩ := bq3 h
          refine rg hc Ko6 [oN,oN,some (.mk 20 true),oN,oN,oN,some (.el (sI j8)),some (.mk 21 true),some (.call (sI k0) [.tup []] 1),oN,some (.el (sI k2)),oN,oN,oN,oN,oN,oN,oN] [(7,.ra 2 0)] [(2,.box [.ra 2000 0]),(2000,.box [sI k0,sI k2,.sl (List.map K0i out1.fkids),I out1.ffault,sI out1.fpath])] (ad (Kmc _ _ j9) K7h (Q71.args (A1 := [.sl (Q02 [AV.osl (List.map I [2]),sI t3.fType,sI j8])]) (A2 := [.sl (List.map K07 [[2],t3.fType,j8])]) (by simp only [List.map_cons,List.map_nil,K08,Qe5,share,Qf1,Q02]) (Kn0 _ _ k1)) K7n (ai (xL k3) tv)) ?_
          obtain rfl := os h
          exact Qcz.mk
         refine K8d hc 2 [(4,sL needs4),(5,sL used5),(6,.ra 1 0),(7,.ra 2 0),(9,.ra 3 0),(13,.fn 123 [.ra 2 0]),(20,I t3.fOp),(180,.bool (t3.fOp == 8))] ?_
         obtain ⟨fl,k4,h⟩ := Qdd h
         refine flw (Knv c p0 out1 ctx2 t3 needs4 used5 fl) ?_ (fun hF => ?_)
         ·replace h := k4
          refine ic h (fun k5 h => ?_) fun k5 h => ?_
          ·refine sN ?_
           refine sN ?_
           refine vz 2002 (Qe5 out1.fneeds) [(4,sL needs4),(5,sL used5),(6,.ra 1 0),(7,.ra 2 0),(9,.ra 3 0),(13,.fn 123 [.ra 2 0]),(20,I t3.fOp),(180,.bool (t3.fOp == 8))] [(1,K2n p0),(2,.box [.ra 2000 0]),(3,K2f t3),(2000,K2l out1)] ?_
           obtain ⟨k6,k7,k8,k9,l0,l1,h⟩ := bq3 h
           refine rgs hc none [oN,some (.el (sI k6)),oN,some (.el (sI k8)),oc (.bool l0),oN] [(4,sL needs4),(5,sL used5),(6,.ra 1 0),(7,.ra 2 0),(9,.ra 3 0),(13,.fn 123 [.ra 2 0]),(187,.bool (!l0))] (ad (Kmc _ _ k7) K7h (Kmc _ _ k9) K7h (cq (Kkg _ _ l1) K6w tv)) ?_
           rcases is h with ⟨l2,h⟩ | ⟨l2,h⟩
           ·refine cF (!l0) (nF l2) ?_
            refine sk ?_
            refine sN ?_
            refine sN ?_
            obtain ⟨l3,l4,h⟩ := Qdd h
            refine Wp.into (x := .normal) (mkS [(4,sL needs4),(6,.ra 1 0),(7,.ra 2 0),(9,.ra 3 0),(13,.fn 123 [.ra 2 0]),(205,.bool l3)] [(1,K2n p0),(2,.box [.ra 2000 0]),(3,K2f t3),(2000,K2l out1)]) ?_ ?_
            ·replace h := l4
             obtain ⟨l5,l6,l7,l8,h⟩ := bq2 h
             rcases is h with ⟨l9,h⟩ | ⟨l9,h⟩
             ·obtain ⟨m0,m1,m2,m3,h⟩ := bq2 h
              refine rgs hc Ko7 [oN,oN,some (.el (sI l5)),oN,oN,oN,oc (.bool l7),oN,oN,oN,oN,some (.el (sI m0)),oN,oN,oN,oc (.bool m2),oN,oF] [(4,sL needs4),(6,.ra 1 0),(7,.ra 2 0),(9,.ra 3 0),(13,.fn 123 [.ra 2 0]),(205,.bool (!m2))] (ai (xL l6) (cq (Kng _ _ l8) K7v (ar 3 (nF l9) (ai (xL m1) (ar 4 (nF l9) (cq (Kng _ _ m3) K7v (ar 2 (nF l9) tv))))))) ?_
              obtain rfl := os h
              exact Qcz.mk
             refine rgs hc Ko7 [oN,oN,some (.el (sI l5)),oN,oN,oN,oc (.bool l7),oN,oN,o_,o_,o_,o_,o_,o_,o_,o_,oT] [(4,sL needs4),(6,.ra 1 0),(7,.ra 2 0),(9,.ra 3 0),(13,.fn 123 [.ra 2 0]),(205,.bool true)] (ai (xL l6) (cq (Kng _ _ l8) K7v (ar 8 (neF (nT l9)) (ai (nT l9) tv)))) ?_
             obtain rfl := os h
             exact Qcz.mk
            clear l4
            refine ic h (fun m4 h => ?_) fun m4 h => ?_
            ·refine rs0 hc 1 [(12,I 9)] [(2000,K2l out1)] ?_
             refine rt ?_
             obtain rfl := os h
             exact Qdb.ret (fl := [true]) (by kernel_rfl)
            refine sk ?_
            obtain ⟨m5,m6,m7,m8,m9,n0,n1,n2,h⟩ := bq4 h
            obtain ⟨n3,n4,n5,n6,n7,n8,h⟩ := bq3 h
            refine rg hc (rx [[0],[0],[0],[0,2],[0],[0],[0],[0,6],[0],[0,8],[0,8,9],[0,2,3,5,6,7,8,9,10],[0],[0],[0,13],[0,13,14],[0],[0,16],[0,16,17],[0,2,3,5,6,7,8,9,10,11,12,13,14,15,16,17,18],[0,2,3,4,5,6,7,8,9,10,11,12,13,14,15,16,17,18,19],[1,2,3,4,5,6,7,8,9,10,11,12,13,14,15,16,17,18,19,20],[1,2,3,4,5,6,7,8,9,10,11,12,13,14,15,16,17,18,19,20,21],[1,2,3,4,5,6,7,8,9,10,11,12,13,14,15,16,17,18,19,20,21,22],[24],[25],[26]]) [oN,oN,oN,some (.el (sI m5)),oN,oN,oN,oN,oN,some (.el (sI m7)),oN,some (.call (oI m9) [] 22),oN,oN,some (.el (sI n1)),oN,oN,some (.el (sI n3)),oN,some (.call (oI n5) [] 23),some (.call (oI n7) [] 24),oN,oN,oN,oN,oN,oN] [(7,.ra 2 0)] [(2,.box [.ra 2000 0]),(24,rI n7),(2000,.box [sI m5,.rs 24,.sl (List.map K0i out1.fkids),I out1.ffault,sI out1.fpath])] (ac (Kmc _ _ m6) K7h (xL m8) (cq (Knn _ _ n0) K7x (ab (xL n2) (xL n4) (cq (Kmm _ _ n6) K7j (ac (Q71.args (A1 := [K2o p0,.sl (Q02 (List.map I m9)),.sl (Q02 (List.map I n5))]) (A2 := [K2o p0,sI m9,sI n5]) (by simp only [List.map_nil,Qe5]) (Km9 _ _ n8)) K7f (Or.inr (Qed Qe9 n7) : ([22,23] : List Nat) = [] ∨ noSh (oI n7) = true) tv))))) ?_
            obtain rfl := os h
            exact Qcz.view (fun a w hv => SRx.renL [] (SRx.frzC 24 (xs := List.map I n7) (xs' := List.map I n7) hv (by kernel_rfl) (Qe5 _)) (by kernel_rfl) (by kernel_rfl) (by kernel_rfl))
           refine cT (!l0) (nT l2) ?_
           refine rs0 hc 1 [(12,I 3)] [(2000,K2l out1)] ?_
           refine rt ?_
           obtain rfl := os h
           exact Qdb.ret (fl := [true]) (by kernel_rfl)
          refine K8d hc 2 [(4,sL needs4),(5,sL used5),(6,.ra 1 0),(7,.ra 2 0),(9,.ra 3 0),(13,.fn 123 [.ra 2 0]),(20,I t3.fOp),(231,.bool (t3.fOp == 9))] ?_
          obtain ⟨fl,n9,h⟩ := Qdd h
          refine flw (Knu c p0 out1 ctx2 t3 needs4 used5 fl) ?_ (fun hF => ?_)
          ·replace h := n9
           refine ic h (fun o0 h => ?_) fun o0 h => ?_
           ·refine sN ?_
            obtain ⟨o1,o2,o3,o4,h⟩ := bq2 h
            refine rs hc Ko4 [oN,oN,some (.el (sI o1)),oN,oN,oN,oc (.bool o3),oN] [(4,sL needs4),(7,.ra 2 0),(9,.ra 3 0),(13,.fn 123 [.ra 2 0]),(240,.bool (!o3))] [(2,.box [.ra 2000 0]),(3,K2f t3),(2000,.box [sI out1.fty,.rs 2002,.sl (List.map K0i out1.fkids),I out1.ffault,sI out1.fpath]),(2002,rI out1.fneeds)] (ai (xL o2) (cq (Kng _ _ o4) K7v tv)) ?_
            rcases is h with ⟨o5,h⟩ | ⟨o5,h⟩
            ·refine cF (!o3) (nF o5) ?_
             refine sk ?_
             refine vz 2002 (Qe5 out1.fneeds) [(4,sL needs4),(7,.ra 2 0),(9,.ra 3 0),(13,.fn 123 [.ra 2 0]),(240,.bool (!o3))] [(2,.box [.ra 2000 0]),(3,K2f t3),(2000,K2l out1)] ?_
             obtain ⟨o6,o7,o8,o9,p1,p2,h⟩ := bq3 h
             refine rg hc (rx [[0],[0],[0],[0,2],[0,2,3],[0,2,3,4],[0],[0,6],[0],[0,8],[0,2,3,4,5,6,7,8,9],[0,2,3,4,5,6,7,8,9,10],[0],[0,12],[0,12,13],[1,2,3,4,5,6,7,8,9,10,11,12,13,14],[1,2,3,4,5,6,7,8,9,10,11,12,13,14,15],[1,2,3,4,5,6,7,8,9,10,11,12,13,14,15,16],[18],[19],[20]]) [oN,oN,oN,oN,oN,some (.mk 26 true),oN,oN,oN,some (.el (sI o6)),some (.mk 27 true),some (.call (sI o8) [.tup []] 1),oN,some (.el (sI p1)),oN,oN,oN,oN,oN,oN,oN] [(7,.ra 2 0)] [(2,.box [.ra 2000 0]),(2000,.box [sI o8,sI p1,.sl (List.map K0i out1.fkids),I out1.ffault,sI out1.fpath])] (ad (Kmc _ _ o7) K7h (Q71.args (A1 := [.sl (Q02 [AV.osl (List.map I [(wr (3 + t3.fN))]),sI t3.fType,sI o6])]) (A2 := [.sl (List.map K07 [[(wr (3 + t3.fN))],t3.fType,o6])]) (by simp only [List.map_cons,List.map_nil,K08,Qe5,share,Qf1,Q02]) (Kn0 _ _ o9)) K7n (ai (xL p2) tv)) ?_
             obtain rfl := os h
             exact Qcz.mk
            refine cT (!o3) (nT o5) ?_
            refine rs0 hc 1 [(12,I 9)] [(2000,.box [sI out1.fty,.rs 2002,.sl (List.map K0i out1.fkids),I out1.ffault,sI out1.fpath]),(2002,rI out1.fneeds)] ?_
            refine vz 2002 (Qe5 out1.fneeds) [(12,I 9)] [(2000,K2l out1)] ?_
            refine rt ?_
            obtain rfl := os h
            exact Qdb.ret (fl := [true]) (by kernel_rfl)
           refine K8d hc 2 [(4,sL needs4),(5,sL used5),(6,.ra 1 0),(7,.ra 2 0),(9,.ra 3 0),(13,.fn 123 [.ra 2 0]),(20,I t3.fOp),(260,.bool (t3.fOp == 10))] ?_
           obtain ⟨fl,p3,h⟩ := Qdd h
           refine flw (Knt c p0 out1 ctx2 t3 needs4 used5 fl) ?_ (fun hF => ?_)
           ·replace h := p3
            refine ic h (fun p4 h => ?_) fun p4 h => ?_
            ·refine sN ?_
             refine vz 2002 (Qe5 out1.fneeds) [(4,sL needs4),(5,sL used5),(6,.ra 1 0),(7,.ra 2 0),(9,.ra 3 0),(13,.fn 123 [.ra 2 0]),(20,I t3.fOp),(260,.bool (t3.fOp == 10))] [(1,K2n p0),(2,.box [.ra 2000 0]),(3,K2f t3),(2000,K2l out1)] ?_
             obtain ⟨p5,p6,p7,p8,⟨p9,q0⟩,q1,h⟩ := bq3 h
             refine rg hc none [oN,some (.el (sI p5)),some (.el (I p7)),oN,oc (.tup [I p9,I q0]),oN,oN,oN,oN,oN] [(4,sL needs4),(6,.ra 1 0),(7,.ra 2 0),(13,.fn 123 [.ra 2 0]),(15,I q0)] [(1,K2n p0),(2,.box [.ra 2000 0]),(2000,K2l out1)] (ac (Kmc _ _ p6) K7h (ix p8) (cq (Kj7 _ _ q1) K6g tv)) ?_
             obtain ⟨q2,q3,q4,q5,q6,q7,q8,q9,h⟩ := bq4 h
             obtain ⟨r0,r1,r2,r3,r4,r5,h⟩ := bq3 h
             refine rg hc (rx [[0],[0],[0],[0,2],[0,2,3],[0,2,3,4],[0,2,3,4,5],[0],[0],[0,8],[0,8,9],[0],[0],[0],[0,13],[0,13,14],[0,2,3,4,11,12,13,14,15],[0,2,3,4,7,8,9,10,11,12,13,14,15,16],[1,2,3,4,5,6,7,8,9,10,11,12,13,14,15,16,17],[1,2,3,4,5,6,7,8,9,10,11,12,13,14,15,16,17,18],[1,2,3,4,5,6,7,8,9,10,11,12,13,14,15,16,17,18,19],[21],[22],[23]]) [oN,oN,oN,some (.el (sI q2)),some (.call (.osl (List.map K07 q4)) [] 28),oN,some (.el (sI q6)),oN,oN,some (.el (sI q8)),oN,oN,oN,oN,some (.el (sI r0)),oN,some (.call (oI r2) [] 29),some (.call (oI r4) [] 30),oN,oN,oN,oN,oN,oN] [(7,.ra 2 0)] [(2,.box [.ra 2000 0]),(30,rI r4),(2000,.box [sI q6,.rs 30,.sl (List.map K0i out1.fkids),I out1.ffault,sI out1.fpath])] (ab (Kmc _ _ q3) K7h (cq (Kky _ _ q5) K70 (ad (Qdi (enc := K07) q7) (xL q7).2 (xL q9) (xL r1) (cq (Knn _ _ r3) K7x (ac (Q71.args (A1 := [K2o p0,sI q8,.sl (Q02 (List.map I r2))]) (A2 := [K2o p0,sI q8,sI r2]) (by simp only [List.map_nil,Qe5]) (Km9 _ _ r5)) K7f (Or.inr (Qed Qe9 r4) : ([29] : List Nat) = [] ∨ noSh (oI r4) = true) tv))))) ?_
             obtain rfl := os h
             exact Qcz.mk
            refine K8d hc 2 [(4,sL needs4),(5,sL used5),(6,.ra 1 0),(7,.ra 2 0),(9,.ra 3 0),(13,.fn 123 [.ra 2 0]),(20,I t3.fOp),(292,.bool (t3.fOp == 11))] ?_
            obtain ⟨fl,r6,h⟩ := Qdd h
            refine flw (Kns c p0 out1 ctx2 t3 needs4 used5 fl) ?_ (fun hF => ?_)
            ·replace h := r6
             refine ic h (fun r7 h => ?_) fun r7 h => ?_
             ·refine vz 2002 (Qe5 out1.fneeds) [(4,sL needs4),(5,sL used5),(6,.ra 1 0),(7,.ra 2 0),(9,.ra 3 0),(13,.fn 123 [.ra 2 0]),(20,I t3.fOp),(292,.bool (t3.fOp == 11))] [(1,K2n p0),(2,.box [.ra 2000 0]),(3,K2f t3),(2000,K2l out1)] ?_
              obtain ⟨r8,r9,s0,s1,s2,s3,s4,s5,h⟩ := bq4 h
              refine rg hc (rx [[0],[0],[0],[0,2],[0,2,3],[0,2,3,4],[0],[0,6],[0,2,3,4,5,6,7],[0,2,3,4,5,6,7,8],[0],[0],[0,11],[0],[0,13],[0,13,14],[0,2,3,4,5,6,7,8,9,10,11,12,13,14,15],[1,2,3,4,5,6,7,8,9,10,11,12,13,14,15,16],[1,2,3,4,5,6,7,8,9,10,11,12,13,14,15,16,17],[1,2,3,4,5,6,7,8,9,10,11,12,13,14,15,16,17,18],[20],[21],[22]]) [oN,oN,oN,oN,oN,some (.mk 32 true),oN,some (.el (sI r8)),some (.mk 33 true),some (.call (sI s0) [.tup []] 1),oN,oN,oN,oN,some (.el (sI s2)),oN,some (.call (oI s4) [] 34),oN,oN,oN,oN,oN,oN] [(7,.ra 2 0)] [(2,.box [.ra 2000 0]),(34,rI s4),(2000,.box [sI s0,.rs 34,.sl (List.map K0i out1.fkids),I out1.ffault,sI out1.fpath])] (ad (Kmc _ _ r9) K7h (Q71.args (A1 := [.sl (Q02 [AV.osl (List.map I [(wr (19 + t3.fN))]),sI r8])]) (A2 := [.sl (List.map K07 [[(wr (19 + t3.fN))],r8])]) (by simp only [List.map_cons,List.map_nil,K08,Qe5,share,Qf1,Q02]) (Kn0 _ _ s1)) K7n (ai (xL s3) (cq (Knn _ _ s5) K7x tv))) ?_
              obtain rfl := os h
              exact Qcz.mk
             refine K8d hc 2 [(4,sL needs4),(5,sL used5),(6,.ra 1 0),(7,.ra 2 0),(9,.ra 3 0),(13,.fn 123 [.ra 2 0]),(315,.bool (t3.fOp == 12))] ?_
             obtain ⟨fl,s6,h⟩ := Qdd h
             refine flw (Knr c p0 out1 ctx2 t3 needs4 used5 fl) ?_ (fun hF => ?_)
             ·replace h := s6
              refine ic h (fun s7 h => ?_) fun s7 h => ?_
              ·refine sN ?_
               refine vz 2002 (Qe5 out1.fneeds) [(4,sL needs4),(5,sL used5),(6,.ra 1 0),(7,.ra 2 0),(9,.ra 3 0),(13,.fn 123 [.ra 2 0]),(315,.bool (t3.fOp == 12))] [(1,K2n p0),(2,.box [.ra 2000 0]),(3,K2f t3),(2000,K2l out1)] ?_
               obtain ⟨s8,s9,t0,t1,⟨t2,t4⟩,t5,h⟩ := bq3 h
               refine rgs hc none [oN,some (.el (sI s8)),some (.el (I t0)),oN,oc (.tup [I t2,I t4]),oN,oN,oN,oN,oN] [(4,sL needs4),(5,sL used5),(6,.ra 1 0),(7,.ra 2 0),(9,.ra 3 0),(13,.fn 123 [.ra 2 0]),(17,I t4)] (ac (Kmc _ _ s9) K7h (ix t1) (cq (Kj7 _ _ t5) K6g tv)) ?_
               refine sN ?_
               obtain ⟨t6,t7,t8,t9,u0,u1,h⟩ := bq3 h
               refine rss hc (rx [[0],[0],[0,1],[0,1,2],[0],[0,4],[0],[0,6],[0],[0,4,5,6,7,8],[10],[11]]) [oN,oN,some (.el (sI t6)),oN,oN,oN,oN,oN,oN,oc (I t8),oc (.bool u0),oN] [(4,sL needs4),(6,.ra 1 0),(7,.ra 2 0),(9,.ra 3 0),(13,.fn 123 [.ra 2 0]),(336,.bool (!u0))] (ai (xL t7) (cq (Khy _ _ t9) K6a (cq (Kng _ _ u1) K7v tv))) ?_
               rcases is h with ⟨u2,h⟩ | ⟨u2,h⟩
               ·refine cF (!u0) (nF u2) ?_
                refine sk ?_
                obtain ⟨u3,u4,u5,u6,u7,u8,u9,v0,h⟩ := bq4 h
                obtain ⟨v1,v2,h⟩ := Qdd h
                refine rg hc Ko5 [oN,oN,oN,some (.el (sI u3)),oN,oN,oN,oN,oN,some (.el (sI u5)),oN,some (.call (oI u7) [] 35),oN,some (.el (sI u9)),oN,some (.call (oI v1) [] 36),oN,oN,oN,oN,oN,oN] [(7,.ra 2 0)] [(2,.box [.ra 2000 0]),(36,rI v1),(2000,.box [sI u3,.rs 36,.sl (List.map K0i out1.fkids),I out1.ffault,sI out1.fpath])] (ac (Kmc _ _ u4) K7h (xL u6) (cq (Knn _ _ u8) K7x (ad (xL v0) (Q71.args (A1 := [K2o p0,.sl (Q02 (List.map I u7)),sI u9]) (A2 := [K2o p0,sI u7,sI u9]) (by simp only [List.map_nil,Qe5]) (Km9 _ _ v2)) K7f (Or.inr (Qed Qe9 v1) : ([35] : List Nat) = [] ∨ noSh (oI v1) = true) tv))) ?_
                obtain rfl := os h
                exact Qcz.mk
               refine cT (!u0) (nT u2) ?_
               refine rs0 hc 1 [(12,I 9)] [(2000,K2l out1)] ?_
               refine rt ?_
               obtain rfl := os h
               exact Qdb.ret (fl := [true]) (by kernel_rfl)
              refine sk ?_
              obtain rfl := os h
              exact iv [(36,2002)]
             rcases fl with ⟨v3,v4⟩ | r
             ·refine Wp.into (x := .normal) (mkS [(7,.ra 2 0)] [(2,.box [.ra 2000 0]),(36,rI v4),(2000,.box [sI v3,.rs 36,.sl (List.map K0i out1.fkids),I out1.ffault,sI out1.fpath])]) hF ?_
              obtain rfl := os h
              exact iv [(34,36)]
             refine Wp.mono hF ?_
             rintro _ _ ⟨rfl,hfin⟩
             obtain rfl := os h
             exact ⟨rfl,hfin⟩
            rcases fl with ⟨v5,v6⟩ | r
            ·refine Wp.into (x := .normal) (mkS [(7,.ra 2 0)] [(2,.box [.ra 2000 0]),(34,rI v6),(2000,.box [sI v5,.rs 34,.sl (List.map K0i out1.fkids),I out1.ffault,sI out1.fpath])]) hF ?_
             obtain rfl := os h
             exact iv [(30,34)]
            refine Wp.mono hF ?_
            rintro _ _ ⟨rfl,hfin⟩
            obtain rfl := os h
            exact ⟨rfl,hfin⟩
           rcases fl with ⟨v7,v8⟩ | r
           ·refine Wp.into (x := .normal) (mkS [(7,.ra 2 0)] [(2,.box [.ra 2000 0]),(30,rI v8),(2000,.box [sI v7,.rs 30,.sl (List.map K0i out1.fkids),I out1.ffault,sI out1.fpath])]) hF ?_
            obtain rfl := os h
            exact Qcz.view (fun a w hv => SRx.renL [] (SRx.frzC 30 (xs := List.map I v8) (xs' := List.map I v8) hv (by kernel_rfl) (Qe5 _)) (by kernel_rfl) (by kernel_rfl) (by kernel_rfl))
           refine Wp.mono hF ?_
           rintro _ _ ⟨rfl,hfin⟩
           obtain rfl := os h
           exact ⟨rfl,hfin⟩
          rcases fl with ⟨v9,w0⟩ | r
          ·refine Wp.into (x := .normal) (mkS [(7,.ra 2 0)] [(2,.box [.ra 2000 0]),(2000,.box [sI v9,sI w0,.sl (List.map K0i out1.fkids),I out1.ffault,sI out1.fpath])]) hF ?_
           obtain rfl := os h
           exact Qcz.mk
          refine Wp.mono hF ?_
          rintro _ _ ⟨rfl,hfin⟩
          obtain rfl := os h
          exact ⟨rfl,hfin⟩
         rcases fl with ⟨w1,w2⟩ | r
         ·refine Wp.into (x := .normal) (mkS [(7,.ra 2 0)] [(2,.box [.ra 2000 0]),(2000,.box [sI w1,sI w2,.sl (List.map K0i out1.fkids),I out1.ffault,sI out1.fpath])]) hF ?_
          obtain rfl := os h
          exact Qcz.mk
         refine Wp.mono hF ?_
         rintro _ _ ⟨rfl,hfin⟩
         obtain rfl := os h
         exact ⟨rfl,hfin⟩
        rcases fl with ⟨w3,w4⟩ | r
        ·refine Wp.into (x := .normal) (mkS [(7,.ra 2 0)] [(2,.box [.ra 2000 0]),(2000,.box [sI w3,sI w4,.sl (List.map K0i out1.fkids),I out1.ffault,sI out1.fpath])]) hF ?_
         obtain rfl := os h
         exact Qcz.mk
        refine Wp.mono hF ?_
        rintro _ _ ⟨rfl,hfin⟩
        obtain rfl := os h
        exact ⟨rfl,hfin⟩
       rcases fl with ⟨w5,w6⟩ | r
       ·refine Wp.into (x := .normal) (mkS [(7,.ra 2 0)] [(2,.box [.ra 2000 0]),(2000,.box [sI w5,sI w6,.sl (List.map K0i out1.fkids),I out1.ffault,sI out1.fpath])]) hF ?_
        obtain rfl := os h
        exact Qcz.mk
       refine Wp.mono hF ?_
       rintro _ _ ⟨rfl,hfin⟩
       obtain rfl := os h
       exact ⟨rfl,hfin⟩
      rcases fl with ⟨w7,w8⟩ | r
      ·refine Wp.into (x := .normal) (mkS [(7,.ra 2 0)] [(2,.box [.ra 2000 0]),(2000,.box [sI w7,sI w8,.sl (List.map K0i out1.fkids),I out1.ffault,sI out1.fpath])]) hF ?_
       obtain rfl := os h
       exact Qcz.mk
      refine Wp.mono hF ?_
      rintro _ _ ⟨rfl,hfin⟩
      obtain rfl := os h
      exact ⟨rfl,hfin⟩
     rcases fl with ⟨w9,x0⟩ | r
     ·refine Wp.into (x := .normal) (mkS [(7,.ra 2 0)] [(2,.box [.ra 2000 0]),(2000,.box [sI w9,sI x0,.sl (List.map K0i out1.fkids),I out1.ffault,sI out1.fpath])]) hF ?_
      obtain rfl := os h
      exact Qcz.mk
     refine Wp.mono hF ?_
     rintro _ _ ⟨rfl,hfin⟩
     obtain rfl := os h
     exact ⟨rfl,hfin⟩
    rcases fl with ⟨x1,x2⟩ | r
    ·refine Wp.into (x := .normal) (mkS [(7,.ra 2 0)] [(2,.box [.ra 2000 0]),(2000,.box [sI x1,sI x2,.sl (List.map K0i out1.fkids),I out1.ffault,sI out1.fpath])]) hF ?_
     obtain rfl := os h
     exact Qcz.mk
    refine Wp.mono hF ?_
    rintro _ _ ⟨rfl,hfin⟩
    obtain rfl := os h
    exact ⟨rfl,hfin⟩
   rcases fl with ⟨x3,x4⟩ | r
   ·refine Wp.into (x := .normal) (mkS [(7,.ra 2 0)] [(2,.box [.ra 2000 0]),(2000,.box [sI x3,sI x4,.sl (List.map K0i out1.fkids),I out1.ffault,sI out1.fpath])]) hF ?_
    obtain rfl := os h
    exact Qcz.mk
   refine Wp.mono hF ?_
   rintro _ _ ⟨rfl,hfin⟩
   obtain rfl := os h
   exact ⟨rfl,hfin⟩
  rcases fl with ⟨x5,x6⟩ | r
  ·refine Wp.into (x := .normal) (mkS [(7,.ra 2 0)] [(2,.box [.ra 2000 0]),(2000,.box [sI x5,sI x6,.sl (List.map K0i out1.fkids),I out1.ffault,sI out1.fpath])]) hF ?_
   obtain rfl := os h
   exact Qcz.mk
  refine Wp.mono hF ?_
  rintro _ _ ⟨rfl,hfin⟩
  obtain rfl := os h
  exact ⟨rfl,hfin⟩
 rcases fl with ⟨x7,x8⟩ | r
 ·refine Wp.into (x := .normal) (mkS [(7,.ra 2 0)] [(2,.box [.ra 2000 0]),(2000,.box [sI x7,sI x8,.sl (List.map K0i out1.fkids),I out1.ffault,sI out1.fpath])]) hF ?_
  refine sN ?_
  obtain ⟨x9,y0,h⟩ := Qdd h
  refine rs hc none [oN,oN,oN,oN,oc (.bool x9)] [(361,.bool x9)] [(2000,.box [sI x7,sI x8,.sl (List.map K0i out1.fkids),I out1.ffault,sI out1.fpath])] (cq (Knq _ _ y0) K7z tv) ?_
  refine ic h (fun y1 h => ?_) fun y1 h => ?_
  ·refine K8d hc 1 [(12,I 3)] ?_
   refine rt ?_
   obtain rfl := os h
   exact Qda.ret (fl := [true]) (by kernel_rfl)
  refine sk ?_
  refine K8d hc 1 [(12,I 0)] ?_
  refine rt ?_
  obtain rfl := os h
  exact Qda.ret (fl := [true]) (by kernel_rfl)
 refine Wp.mono hF ?_
 rintro _ _ ⟨rfl,hfin⟩
 obtain rfl := os h
 exact ⟨.inl rfl,hfin⟩
def Kob (c : Ctx) (s0 : K00) (a0 : K02) : ((List K05) × LL × LL) ⊕ (Bool) → Exit → Q0a → Prop
 | .inl (a1,a2,a3) => Qcz c (.exit 0) (mkS [(3,.ra 1 0),(7,.ra 2 0),(8,.ra 3 0),(9,.ra 5 0),(10,.rs 18),(11,.rs 19)] [(1,K2d s0),(2,K2h a0),(3,K2d s0),(4,.arr (List.map I (List.replicate (Int.toNat (a0.fCtx.length : Int)) 0))),(5,.box [.nils,.rs 4,.rs 17,I 0,.nils]),(17,.arr (List.map K0i a1)),(18,.arr (List.map K07 a2)),(19,.arr (List.map K07 a3))])
 | .inr r => Qd8 TIx Tryz.f40 [] (.bool r)
def Koc : Option (List (List Nat)) := rx [[0],[0],[0,1],[3],[4],[5],[6],[6],[6],[6,7,8],[6,7,8,9],[11],[12],[13],[14],[15],[15],[17],[18],[19],[15],[15,20],[15,20,21],[15],[15,20,21,22,23],[15,20,21,22,23,24],[26],[27],[28]]
def Kod : Option (List (List Nat)) := rx [[0],[0],[2],[3],[4],[0],[0],[0,6],[0,5,6,7],[0,5,6,7,8],[10],[11],[12],[13],[13],[13,14],[13],[13],[13],[13,17,18],[13,17,18,19],[13,17,18,19,20],[22],[23],[24]]
def Koe : Option (List (List Nat)) := rx [[0],[1],[2],[3],[4],[5],[6],[7],[8],[9],[9],[11],[12],[13],[9],[9,14],[9,14,15],[9,14,15,16],[9,14,15,16,17],[9,14,15,16,17,18],[9,14,15,16,17,18,19],[9,14,15,16,17,18,19,20],[9,14,15,16,17,18,19,20,21],[9,14,15,16,17,18,19,20,21,22],[9,14,15,16,17,18,19,20,21,22,23],[9,14,15,16,17,18,19,20,21,22,23,24],[26],[27],[28]]
def Kof : Option (List (List Nat)) := rx [[0],[0],[0],[0,2],[0],[0,4],[0],[0],[8],[9],[10],[11],[12],[13],[14],[11],[11,15],[17],[18],[19]]
def Kog (p : K00 × (List K02) × Int × K02 × (List K05) × LL × LL × Int) : Option (((List K05) × LL × LL) ⊕ (Bool)) :=
 match p with
 | (s0,l1,i2,a0,a1,a2,a3,a4) =>
  if (decide (a4 < (a0.fFrom.length : Int))) = true then
  (idx a0.fFrom a4) >>= fun a5 =>
  ((
  (Khn (a5,0,(wr (i2 - 1)))) >>= fun a6 =>
  if a6 = true then
  (idx l1 a5) >>= fun a7 =>
  (Kk7 (s0,a7)) >>= fun a8 =>
  if a8 = true then
  (idx l1 a5) >>= fun a9 =>
  (idx a0.fTerm.fKids a4) >>= fun b1 =>
  (Kki (a9.fTerm,b1)) >>= fun b2 =>
  some ((!b2))
  else
  some (true)
  else
  some (true)
  ) : Option (Bool)) >>= fun b3 =>
  if b3 = true then
  some (.inr false)
  else
  ((
  if (decide (a4 > 0)) = true then
  (idx a1 0) >>= fun b4 =>
  some (b4.fty)
  else
  some ([])
  ) : Option ((List Int))) >>= fun b5 =>
  (Kkz (a0.fTerm,a4,b5)) >>= fun b6 =>
  ((
  (idx l1 a5) >>= fun b7 =>
  (Kld [b6,a0.fCtx]) >>= fun b8 =>
  (Klq (b7.fCtx,b8)) >>= fun b9 =>
  if b9 = true then
  (idx l1 a5) >>= fun c0 =>
  (Klu ((K06.mk s0),a0.fTerm,a4,c0.fType)) >>= fun c1 =>
  some ((c1 != 0))
  else
  some (true)
  ) : Option (Bool)) >>= fun c2 =>
  if c2 = true then
  some (.inr false)
  else
  (idx l1 a5) >>= fun c3 =>
  (Qdq (a1.length + [(K05.mk c3.fType [] [] 0 [])].length) 8) >>= fun _ =>
  ((
  if (a0.fTerm.fOp == 10) = true then
  if (a4 == 1) = true then
  (idx l1 a5) >>= fun c4 =>
  (idx (a1 ++ [(K05.mk c3.fType [] [] 0 [])]) 0) >>= fun c5 =>
  (Kkw c5.fty) >>= fun c6 =>
  (idx c6 0) >>= fun c7 =>
  (Kke (c4.fType,c7)) >>= fun c8 =>
  some ((!c8))
  else
  some (false)
  else
  some (false)
  ) : Option (Bool)) >>= fun c9 =>
  if c9 = true then
  some (.inr false)
  else
  (idx l1 a5) >>= fun d0 =>
  (cut d0.fBudgets none (some (b6.length : Int)) none) >>= fun d1 =>
  (Qdq (a3.length + [d1].length) 24) >>= fun _ =>
  (idx l1 a5) >>= fun d2 =>
  (cut d2.fBudgets (some (b6.length : Int)) none none) >>= fun d3 =>
  (Qdq (a2.length + [d3].length) 24) >>= fun _ =>
  Kog (s0,l1,i2,a0,(a1 ++ [(K05.mk c3.fType [] [] 0 [])]),(a2 ++ [d3]),(a3 ++ [d1]),(wr (a4 + 1)))
  else
  some (.inl (a1,a2,a3))
 partial_fixpoint
def Koh (p : K00 × (List K02) × Int × K02 × (List K05) × LL × LL × Int) (fl : ((List K05) × LL × LL) ⊕ (Bool)) : Prop :=
 match p with
 | (s0,l1,i2,a0,a1,a2,a3,a4) => ∀ c : Ctx,c.nt = 230 → WpL Tryz.prog c (cl (cl (cr (cl (cr (cr (cr (cr (cr (cr B40)))))))))) (Kob c s0 a0 fl) (mkS [(1,.sl (List.map K12 l1)),(2,I i2),(3,.ra 1 0),(7,.ra 2 0),(8,.ra 3 0),(9,.ra 5 0),(10,.rs 18),(11,.rs 19),(45,sI a0.fFrom),(46,I (a0.fFrom.length : Int)),(47,I a4)] [(1,K2d s0),(2,K2h a0),(3,K2d s0),(4,.arr (List.map I (List.replicate (Int.toNat (a0.fCtx.length : Int)) 0))),(5,.box [.nils,.rs 4,.rs 17,I 0,.nils]),(17,.arr (List.map K0i a1)),(18,.arr (List.map K07 a2)),(19,.arr (List.map K07 a3))])
theorem Koi : ∀ p r,Kog p = some r → Koh p r := by
 refine Kog.partial_correctness Koh ?_
 rintro impl_stepHolds_l0_f impl_stepHolds_l0_ih ⟨s0,l1,i2,a0,a1,a2,a3,a4⟩ r h
 intro c hc
 refine WpL.step ?_
 refine K8d hc 1 [(1,.sl (List.map K12 l1)),(2,I i2),(3,.ra 1 0),(7,.ra 2 0),(8,.ra 3 0),(9,.ra 5 0),(10,.rs 18),(11,.rs 19),(45,sI a0.fFrom),(46,I (a0.fFrom.length : Int)),(47,I a4),(48,.bool (decide (a4 < (a0.fFrom.length : Int))))] ?_
 refine sN ?_
 refine ic h (fun a5 h => ?_) fun a5 h => ?_
 ·refine sk ?_
  refine sN ?_
  refine bk 1 ?_
  obtain ⟨a6,a7,h⟩ := Qdd h
  refine rss hc none [oN,some (.el (I a6)),oN,oN,oN] [(1,.sl (List.map K12 l1)),(2,I i2),(3,.ra 1 0),(7,.ra 2 0),(8,.ra 3 0),(9,.ra 5 0),(10,.rs 18),(11,.rs 19),(12,I a4),(13,I a6),(45,sI a0.fFrom),(46,I (a0.fFrom.length : Int)),(47,I a4)] (ai (ix a7) tv) ?_
  refine sN ?_
  refine sN ?_
  obtain ⟨a8,a9,h⟩ := Qdd h
  refine Wp.into (x := .normal) (mkS [(1,.sl (List.map K12 l1)),(2,I i2),(3,.ra 1 0),(7,.ra 2 0),(8,.ra 3 0),(9,.ra 5 0),(10,.rs 18),(11,.rs 19),(12,I a4),(13,I a6),(45,sI a0.fFrom),(46,I (a0.fFrom.length : Int)),(47,I a4),(80,.bool a8)] [(1,K2d s0),(2,K2h a0),(3,K2d s0),(4,.arr (List.map I (List.replicate (Int.toNat (a0.fCtx.length : Int)) 0))),(5,.box [.nils,.rs 4,.rs 17,I 0,.nils]),(17,.arr (List.map K0i a1)),(18,.arr (List.map K07 a2)),(19,.arr (List.map K07 a3))]) ?_ ?_
  ·replace h := a9
   obtain ⟨b1,b2,h⟩ := Qdd h
   rcases is h with ⟨b3,h⟩ | ⟨b3,h⟩
   ·obtain ⟨b4,b5,b6,b7,h⟩ := bq2 h
    rcases is h with ⟨b8,h⟩ | ⟨b8,h⟩
    ·obtain ⟨b9,c0,c1,c2,c3,c4,h⟩ := bq3 h
     refine rgs hc Koc [oN,oN,oN,oc (.bool b1),oN,oN,oN,oN,oN,some (.el (K2i b4)),oN,oc (.bool b6),oN,oF,oN,oN,oN,some (.el (K2i b9)),oN,oN,oN,oN,oN,oN,some (.el (K2g c1)),oN,oc (.bool c3),oN,oF] [(1,.sl (List.map K12 l1)),(2,I i2),(3,.ra 1 0),(7,.ra 2 0),(8,.ra 3 0),(9,.ra 5 0),(10,.rs 18),(11,.rs 19),(12,I a4),(13,I a6),(45,sI a0.fFrom),(46,I (a0.fFrom.length : Int)),(47,I a4),(80,.bool (!c3))] (cq (Khp _ _ b2) K67 (ar 4 (nF b3) (ai (Qdh b5 (K1e b4)) (ar 2 (nF b3) (cq (Kk9 _ _ b7) K6v (ar 2 (nF b3) (ar 3 (nF b8) (ai (Qdh c0 (K1e b9)) (ar 7 (nF b8) (ai (Qdh c2 (K0z c1)) (ar 2 (nF b8) (cq (Kkp _ _ c4) K6z (ar 2 (nF b8) tv))))))))))))) ?_
     obtain rfl := os h
     exact Qcz.mk
    refine rgs hc Koc [oN,oN,oN,oc (.bool b1),oN,oN,oN,oN,oN,some (.el (K2i b4)),oN,oc (.bool b6),oN,oF,oN,o_,o_,o_,o_,o_,o_,o_,o_,o_,o_,o_,o_,o_,oT] [(1,.sl (List.map K12 l1)),(2,I i2),(3,.ra 1 0),(7,.ra 2 0),(8,.ra 3 0),(9,.ra 5 0),(10,.rs 18),(11,.rs 19),(12,I a4),(13,I a6),(45,sI a0.fFrom),(46,I (a0.fFrom.length : Int)),(47,I a4),(80,.bool true)] (cq (Khp _ _ b2) K67 (ar 4 (nF b3) (ai (Qdh b5 (K1e b4)) (ar 2 (nF b3) (cq (Kk9 _ _ b7) K6v (ar 2 (nF b3) (ar 13 (neF (nT b8)) (ai (nT b8) tv)))))))) ?_
    obtain rfl := os h
    exact Qcz.mk
   refine rgs hc Koc [oN,oN,oN,oc (.bool b1),oN,oN,o_,o_,o_,o_,o_,o_,o_,oT,oN,o_,o_,o_,o_,o_,o_,o_,o_,o_,o_,o_,o_,o_,oT] [(1,.sl (List.map K12 l1)),(2,I i2),(3,.ra 1 0),(7,.ra 2 0),(8,.ra 3 0),(9,.ra 5 0),(10,.rs 18),(11,.rs 19),(12,I a4),(13,I a6),(45,sI a0.fFrom),(46,I (a0.fFrom.length : Int)),(47,I a4),(80,.bool true)] (cq (Khp _ _ b2) K67 (ar 7 (neF (nT b3)) (ai (nT b3) (ar 13 nf (ai tt tv))))) ?_
   obtain rfl := os h
   exact Qcz.mk
  clear a9
  refine ic h (fun c5 h => ?_) fun c5 h => ?_
  ·refine rs0 hc 1 [(6,.bool false)] [] ?_
   refine rt ?_
   obtain rfl := os h
   exact re [true]
  refine sk ?_
  refine K8d hc 1 [(1,.sl (List.map K12 l1)),(2,I i2),(3,.ra 1 0),(7,.ra 2 0),(8,.ra 3 0),(9,.ra 5 0),(10,.rs 18),(11,.rs 19),(12,I a4),(13,I a6),(14,.nils),(45,sI a0.fFrom),(46,I (a0.fFrom.length : Int)),(47,I a4)] ?_
  refine sN ?_
  refine K8d hc 2 [(1,.sl (List.map K12 l1)),(2,I i2),(3,.ra 1 0),(7,.ra 2 0),(8,.ra 3 0),(9,.ra 5 0),(10,.rs 18),(11,.rs 19),(12,I a4),(13,I a6),(14,.nils),(45,sI a0.fFrom),(46,I (a0.fFrom.length : Int)),(47,I a4),(82,.bool (decide (a4 > 0)))] ?_
  obtain ⟨c6,c7,h⟩ := Qdd h
  refine Wp.into (x := .normal) (mkS [(1,.sl (List.map K12 l1)),(2,I i2),(3,.ra 1 0),(7,.ra 2 0),(8,.ra 3 0),(9,.ra 5 0),(10,.rs 18),(11,.rs 19),(12,I a4),(13,I a6),(14,sI c6),(45,sI a0.fFrom),(46,I (a0.fFrom.length : Int)),(47,I a4)] [(1,K2d s0),(2,K2h a0),(3,K2d s0),(4,.arr (List.map I (List.replicate (Int.toNat (a0.fCtx.length : Int)) 0))),(5,.box [.nils,.rs 4,.rs 17,I 0,.nils]),(17,.arr (List.map K0i a1)),(18,.arr (List.map K07 a2)),(19,.arr (List.map K07 a3))]) ?_ ?_
  ·replace h := c7
   refine ic h (fun c8 h => ?_) fun c8 h => ?_
   ·obtain ⟨c9,d0,h⟩ := Qdd h
    refine rgs hc none [oN,oN,oN,oN,oN,some (.el (.ptr [sI c9.fty,sI c9.fneeds,.sl (List.map K0i c9.fkids),I c9.ffault,sI c9.fpath] 0)),oN,oN,oN,oN] [(1,.sl (List.map K12 l1)),(2,I i2),(3,.ra 1 0),(7,.ra 2 0),(8,.ra 3 0),(9,.ra 5 0),(10,.rs 18),(11,.rs 19),(12,I a4),(13,I a6),(14,sI c9.fty),(45,sI a0.fFrom),(46,I (a0.fFrom.length : Int)),(47,I a4)] (ab (Qdi (enc := K0i) d0) (Qdh (enc := K0i) (x := .ptr [sI c9.fty,sI c9.fneeds,.sl (List.map K0i c9.fkids),I c9.ffault,sI c9.fpath] 0) d0 (K0l c9)).2 tv) ?_
    obtain rfl := os h
    exact Qcz.mk
   refine sk ?_
   obtain rfl := os h
   exact Qcz.view (fun a w hv => SRx.renL [] (SRx.nilSL 14 hv (by kernel_rfl)) (by kernel_rfl) (by kernel_rfl) (by kernel_rfl))
  clear c7
  obtain ⟨d1,d2,h⟩ := Qdd h
  refine rs hc none [oN,oN,oN,oN,some (.call (.osl (List.map K07 d1)) [] 31),oN] [(1,.sl (List.map K12 l1)),(2,I i2),(3,.ra 1 0),(7,.ra 2 0),(8,.ra 3 0),(9,.ra 5 0),(10,.rs 18),(11,.rs 19),(12,I a4),(13,I a6),(15,.rs 31),(45,sI a0.fFrom),(46,I (a0.fFrom.length : Int)),(47,I a4)] [(1,K2d s0),(2,K2h a0),(3,K2d s0),(4,.arr (List.map I (List.replicate (Int.toNat (a0.fCtx.length : Int)) 0))),(5,.box [.nils,.rs 4,.rs 17,I 0,.nils]),(17,.arr (List.map K0i a1)),(18,.arr (List.map K07 a2)),(19,.arr (List.map K07 a3)),(31,.arr (List.map K07 d1))] (cq (Kl1 _ _ d2) K71 tv) ?_
  refine sN ?_
  refine sN ?_
  refine vz 31 (K0b d1) [(1,.sl (List.map K12 l1)),(2,I i2),(3,.ra 1 0),(7,.ra 2 0),(8,.ra 3 0),(9,.ra 5 0),(10,.rs 18),(11,.rs 19),(12,I a4),(13,I a6),(15,sL d1),(45,sI a0.fFrom),(46,I (a0.fFrom.length : Int)),(47,I a4)] [(1,K2d s0),(2,K2h a0),(3,K2d s0),(4,.arr (List.map I (List.replicate (Int.toNat (a0.fCtx.length : Int)) 0))),(5,.box [.nils,.rs 4,.rs 17,I 0,.nils]),(17,.arr (List.map K0i a1)),(18,.arr (List.map K07 a2)),(19,.arr (List.map K07 a3))] ?_
  obtain ⟨d3,d4,h⟩ := Qdd h
  refine Wp.into (x := .normal) (mkS [(1,.sl (List.map K12 l1)),(2,I i2),(3,.ra 1 0),(7,.ra 2 0),(8,.ra 3 0),(9,.ra 5 0),(10,.rs 18),(11,.rs 19),(12,I a4),(13,I a6),(15,sL d1),(45,sI a0.fFrom),(46,I (a0.fFrom.length : Int)),(47,I a4),(121,.bool d3)] [(1,K2d s0),(2,K2h a0),(3,K2d s0),(4,.arr (List.map I (List.replicate (Int.toNat (a0.fCtx.length : Int)) 0))),(5,.box [.nils,.rs 4,.rs 17,I 0,.nils]),(17,.arr (List.map K0i a1)),(18,.arr (List.map K07 a2)),(19,.arr (List.map K07 a3))]) ?_ ?_
  ·replace h := d4
   obtain ⟨d5,d6,d7,d8,d9,e0,h⟩ := bq3 h
   rcases is h with ⟨e3,h⟩ | ⟨e3,h⟩
   ·obtain ⟨e4,e5,e6,e7,h⟩ := bq2 h
    refine rgs hc Kod [oN,oN,some (.el (K2i d5)),oN,oN,oN,oN,oN,some (.mk 33 false),some (.call (sL d7) [.tup []] 1),oc (.bool d9),oN,oN,oN,oN,oN,oN,oN,oN,some (.el (K2i e4)),oN,oN,oc (I e6),oN,oF] [(1,.sl (List.map K12 l1)),(2,I i2),(3,.ra 1 0),(7,.ra 2 0),(8,.ra 3 0),(9,.ra 5 0),(10,.rs 18),(11,.rs 19),(12,I a4),(13,I a6),(15,sL d1),(45,sI a0.fFrom),(46,I (a0.fFrom.length : Int)),(47,I a4),(121,.bool (e6 != 0))] (ac (Qdh d6 (K1e d5)) (Q71.args (A1 := [.sl (Q02 (List.map K28 [d1,a0.fCtx]))]) (A2 := [.sl (List.map K28 [d1,a0.fCtx])]) (by simp only [List.map_nil,K2c]) (Klf _ _ d8)) K74 (cq (Kls _ _ e0) K79 (ar 7 (nF e3) (ai (Qdh e5 (K1e e4)) (ar 3 (nF e3) (cq (Klw _ _ e7) K7a (ar 2 (nF e3) tv))))))) ?_
    obtain rfl := os h
    exact Qcz.mk
   refine rgs hc Kod [oN,oN,some (.el (K2i d5)),oN,oN,oN,oN,oN,some (.mk 33 false),some (.call (sL d7) [.tup []] 1),oc (.bool d9),oN,oN,o_,o_,o_,o_,o_,o_,o_,o_,o_,o_,o_,oT] [(1,.sl (List.map K12 l1)),(2,I i2),(3,.ra 1 0),(7,.ra 2 0),(8,.ra 3 0),(9,.ra 5 0),(10,.rs 18),(11,.rs 19),(12,I a4),(13,I a6),(15,sL d1),(45,sI a0.fFrom),(46,I (a0.fFrom.length : Int)),(47,I a4),(121,.bool true)] (ac (Qdh d6 (K1e d5)) (Q71.args (A1 := [.sl (Q02 (List.map K28 [d1,a0.fCtx]))]) (A2 := [.sl (List.map K28 [d1,a0.fCtx])]) (by simp only [List.map_nil,K2c]) (Klf _ _ d8)) K74 (cq (Kls _ _ e0) K79 (ar 11 (neF (nT e3)) (ai (nT e3) tv)))) ?_
   obtain rfl := os h
   exact Qcz.mk
  clear d4
  refine ic h (fun e8 h => ?_) fun e8 h => ?_
  ·refine rs0 hc 1 [(6,.bool false)] [] ?_
   refine rt ?_
   obtain rfl := os h
   exact re [true]
  refine sk ?_
  obtain ⟨e9,f0,_,f1,h⟩ := bq2 h
  refine rs hc (rx [[0],[0],[0,1],[0,1,2],[0,1,2,3],[0],[0],[0,5,6],[0,5,6,7],[0,5,6,7,8],[0,5,6,7,8,9],[0,5,6,7,8,9,10],[0,5,6,7,8,9,10,11],[0,1,2,3,4,5,6,7,8,9,10,11,12],[14],[15],[16]]) [oN,oN,oN,oN,oN,oN,oN,some (.el (K2i e9)),oN,oN,oN,some (.new 34),some (.eqv (.new 35) ⟨[(134,.rs 35),(133,.ptr [sI e9.fType,.sl (List.map I []),.sl (List.map K0i []),I 0,.sl (List.map I [])] 0)],[(35,some (.arr (List.map K0i [(K05.mk e9.fType [] [] 0 [])]))),(34,none)],[35]⟩),some (.eqv (.mk 36 true) ⟨[(135,.rs 36)],[(36,some (.arr (List.map K0i (a1 ++ [(K05.mk e9.fType [] [] 0 [])])))),(17,none),(35,none)],[36]⟩),oN,oN,oN] [(1,.sl (List.map K12 l1)),(2,I i2),(3,.ra 1 0),(7,.ra 2 0),(8,.ra 3 0),(9,.ra 5 0),(10,.rs 18),(11,.rs 19),(12,I a4),(13,I a6),(15,sL d1),(45,sI a0.fFrom),(46,I (a0.fFrom.length : Int)),(47,I a4)] [(1,K2d s0),(2,K2h a0),(3,K2d s0),(4,.arr (List.map I (List.replicate (Int.toNat (a0.fCtx.length : Int)) 0))),(5,.box [.nils,.rs 4,.rs 36,I 0,.nils]),(18,.arr (List.map K07 a2)),(19,.arr (List.map K07 a3)),(36,.arr (List.map K0i (a1 ++ [(K05.mk e9.fType [] [] 0 [])])))] (ad (Qdh f0 (K1e e9)) (congrArg (fun z => (⟨[(134,.rs 35),(133,.ptr [sI e9.fType,.sl (List.map I []),.sl (List.map K0i []),I 0,.sl (List.map I [])] 0)],[(35,some (.arr z)),(34,none)],[35]⟩ : Wr)) (Qek (K0l (K05.mk e9.fType [] [] 0 [])) Qej : [AV.ptr [sI e9.fType,.sl (List.map I []),.sl (List.map K0i []),I 0,.sl (List.map I [])] 0] = List.map K0i [(K05.mk e9.fType [] [] 0 [])])) (congrArg (fun z => (⟨[(135,.rs 36)],[(36,some (.arr z)),(17,none),(35,none)],[36]⟩ : Wr)) ((List.map_append).symm : (List.map K0i a1) ++ (List.map K0i [(K05.mk e9.fType [] [] 0 [])]) = List.map K0i (a1 ++ [(K05.mk e9.fType [] [] 0 [])]))) (Qdr (enc1 := K0i) (enc2 := K0i) (e1 := a1) (e2 := [(K05.mk e9.fType [] [] 0 [])]) (sz := 1) K0o K0o f1) tv) ?_
  refine sN ?_
  refine sN ?_
  obtain ⟨f2,f3,h⟩ := Qdd h
  refine Wp.into (x := .normal) (mkS [(1,.sl (List.map K12 l1)),(2,I i2),(3,.ra 1 0),(7,.ra 2 0),(8,.ra 3 0),(9,.ra 5 0),(10,.rs 18),(11,.rs 19),(13,I a6),(15,sL d1),(45,sI a0.fFrom),(46,I (a0.fFrom.length : Int)),(47,I a4),(166,.bool f2)] [(1,K2d s0),(2,K2h a0),(3,K2d s0),(4,.arr (List.map I (List.replicate (Int.toNat (a0.fCtx.length : Int)) 0))),(5,.box [.nils,.rs 4,.rs 36,I 0,.nils]),(18,.arr (List.map K07 a2)),(19,.arr (List.map K07 a3)),(36,.arr (List.map K0i (a1 ++ [(K05.mk e9.fType [] [] 0 [])])))]) ?_ ?_
  ·replace h := f3
   rcases is h with ⟨f4,h⟩ | ⟨f4,h⟩
   ·rcases is h with ⟨f5,h⟩ | ⟨f5,h⟩
    ·obtain ⟨f6,f7,f8,f9,g0,g1,g2,g3,h⟩ := bq4 h
     obtain ⟨g4,g5,h⟩ := Qdd h
     refine rgs hc Koe [oN,oN,oN,oN,oN,oN,oN,oT,oN,oN,oN,some (.el (K2i f6)),oN,oN,oN,oN,oN,oN,oN,some (.el (.ptr [sI f8.fty,sI f8.fneeds,.sl (List.map K0i f8.fkids),I f8.ffault,sI f8.fpath] 0)),oN,oN,oN,some (.call (.osl (List.map K07 g0)) [] 37),oN,some (.el (sI g2)),oc (.bool g4),oN,oT] [(1,.sl (List.map K12 l1)),(2,I i2),(3,.ra 1 0),(7,.ra 2 0),(8,.ra 3 0),(9,.ra 5 0),(10,.rs 18),(11,.rs 19),(13,I a6),(15,sL d1),(45,sI a0.fFrom),(46,I (a0.fFrom.length : Int)),(47,I a4),(166,.bool (!g4))] (ar 3 f4 (ar 3 f5 (ai (Qdh f7 (K1e f6)) (ar 7 f5 (ac (Qdi (enc := K0i) f9) f5 (Qdh (enc := K0i) (x := .ptr [sI f8.fty,sI f8.fneeds,.sl (List.map K0i f8.fkids),I f8.ffault,sI f8.fpath] 0) f9 (K0l f8)).2 (ar 4 f5 (cq (Kky _ _ g1) K70 (ad f5 (Qdi (enc := K07) g3) f5 (xL g3).2 (ai f5 (cq (Kkg _ _ g5) K6w (ar 2 f5 tv))))))))))) ?_
     obtain rfl := os h
     exact Qcz.mk
    refine rgs hc Koe [oN,oN,oN,oN,oN,oN,oN,oT,oN,o_,o_,o_,o_,o_,o_,o_,o_,o_,o_,o_,o_,o_,o_,o_,o_,o_,o_,o_,oF] [(1,.sl (List.map K12 l1)),(2,I i2),(3,.ra 1 0),(7,.ra 2 0),(8,.ra 3 0),(9,.ra 5 0),(10,.rs 18),(11,.rs 19),(13,I a6),(15,sL d1),(45,sI a0.fFrom),(46,I (a0.fFrom.length : Int)),(47,I a4),(166,.bool false)] (ar 3 f4 (ar 19 (neT f5) (ai f5 tv))) ?_
    obtain rfl := os h
    exact Qcz.mk
   refine rgs hc Koe [oN,oN,oN,oN,oN,o_,o_,oF,oN,o_,o_,o_,o_,o_,o_,o_,o_,o_,o_,o_,o_,o_,o_,o_,o_,o_,o_,o_,oF] [(1,.sl (List.map K12 l1)),(2,I i2),(3,.ra 1 0),(7,.ra 2 0),(8,.ra 3 0),(9,.ra 5 0),(10,.rs 18),(11,.rs 19),(13,I a6),(15,sL d1),(45,sI a0.fFrom),(46,I (a0.fFrom.length : Int)),(47,I a4),(166,.bool false)] (ar 2 (neT f4) (ai f4 (ar 19 (neT (rfl : false = false)) (ai (rfl : false = false) tv)))) ?_
   obtain rfl := os h
   exact Qcz.mk
  clear f3
  refine ic h (fun g6 h => ?_) fun g6 h => ?_
  ·refine rs0 hc 1 [(6,.bool false)] [] ?_
   refine rt ?_
   obtain rfl := os h
   exact re [true]
  refine sk ?_
  obtain ⟨g7,g8,g9,i0,_,i1,i3,i4,h⟩ := bq4 h
  obtain ⟨i5,i6,_,i7,h⟩ := bq2 h
  refine rg hc (rx [[0],[0],[0],[0,1,2],[0,1,2,3],[0,1,2,3,4],[0],[0,6],[0,1,2,3,4,5,6,7],[0,1,2,3,4,5,6,7,8],[10],[0],[0],[0],[0,12,13],[0,12,13,14],[0,12,13,14,15],[0],[0,17],[0,12,13,14,15,16,17,18],[0,12,13,14,15,16,17,18,19],[21],[22],[23]]) [oN,oN,oN,some (.el (K2i g7)),oN,oN,oN,some (.eqv (.no) ⟨[(174,I (d1.length : Int))],[],[]⟩),some (.eqv (.no) ⟨[(175,sI g9)],[],[]⟩),some (.mk 38 false),some (.eqv (.mk 39 true) ⟨[(177,.rs 39)],[(39,some (.arr (List.map K07 (a3 ++ [g9])))),(19,none),(38,none)],[39]⟩),oN,oN,oN,some (.el (K2i i3)),oN,oN,oN,some (.eqv (.no) ⟨[(185,I (d1.length : Int))],[],[]⟩),some (.eqv (.no) ⟨[(186,sI i5)],[],[]⟩),some (.mk 40 false),some (.eqv (.mk 41 true) ⟨[(188,.rs 41)],[(41,some (.arr (List.map K07 (a2 ++ [i5])))),(18,none),(40,none)],[41]⟩),oN,oN] [(1,.sl (List.map K12 l1)),(2,I i2),(3,.ra 1 0),(7,.ra 2 0),(8,.ra 3 0),(9,.ra 5 0),(10,.rs 41),(11,.rs 39),(45,sI a0.fFrom),(46,I (a0.fFrom.length : Int)),(47,I a4)] [(1,K2d s0),(2,K2h a0),(3,K2d s0),(4,.arr (List.map I (List.replicate (Int.toNat (a0.fCtx.length : Int)) 0))),(5,.box [.nils,.rs 4,.rs 36,I 0,.nils]),(36,.arr (List.map K0i (a1 ++ [(K05.mk e9.fType [] [] 0 [])]))),(39,.arr (List.map K07 (a3 ++ [g9]))),(41,.arr (List.map K07 (a2 ++ [i5])))] (ad (Qdh g8 (K1e g7)) (Qdj (d := 174) K07 d1) (Qdm (d := 175) I i0) (Qdl (enc := I) (sz := 1) Qdw i0) (ad (congrArg (fun z => (⟨[(177,.rs 39)],[(39,some (.arr z)),(19,none),(38,none)],[39]⟩ : Wr)) ((List.map_append).symm : (List.map K07 a3) ++ (List.map K07 [g9]) = List.map K07 (a3 ++ [g9]))) (Qdr (enc1 := K07) (enc2 := K07) (e1 := a3) (e2 := [g9]) (sz := 1) K0a K0a i1) (Qdh i4 (K1e i3)) (Qdj (d := 185) K07 d1) (ad (Qdm (d := 186) I i6) (Qdl (enc := I) (sz := 1) Qdw i6) (congrArg (fun z => (⟨[(188,.rs 41)],[(41,some (.arr z)),(18,none),(40,none)],[41]⟩ : Wr)) ((List.map_append).symm : (List.map K07 a2) ++ (List.map K07 [i5]) = List.map K07 (a2 ++ [i5]))) (Qdr (enc1 := K07) (enc2 := K07) (e1 := a2) (e2 := [i5]) (sz := 1) K0a K0a i7) tv))) ?_
  refine K8c hc 2 [(1,.sl (List.map K12 l1)),(2,I i2),(3,.ra 1 0),(7,.ra 2 0),(8,.ra 3 0),(9,.ra 5 0),(10,.rs 41),(11,.rs 39),(45,sI a0.fFrom),(46,I (a0.fFrom.length : Int)),(47,I (wr (a4 + 1)))] ?_
  refine Qcv ?_
  exact WpL.view (fun a w hv => SRx.renL [(17,36),(18,41),(19,39)] hv (by kernel_rfl) (by kernel_rfl) (by kernel_rfl)) (impl_stepHolds_l0_ih _ _ h c hc)
 refine xt 0 ?_
 refine Qcp ?_
 refine Qcw ?_
 obtain rfl := os h
 exact iv []
def Koj (c : Ctx) : (Unit) ⊕ (Bool) → Exit → Q0a → Prop
 | .inl _ => Qcz c (.exit 2) (mkS [] [])
 | .inr r => Qd8 TIx Tryz.f40 [] (.bool r)
def Kok (p : K00 × K02 × (List Int) × Int) : Option ((Unit) ⊕ (Bool)) :=
 match p with
 | (s0,a0,a1,a2) =>
  if (decide (a2 < (a1.length : Int))) = true then
  (idx a1 a2) >>= fun a3 =>
  (idx a0.fBudgets a2) >>= fun a4 =>
  (Khz (s0,a3,a4)) >>= fun a5 =>
  if a5 = true then
  Kok (s0,a0,a1,(wr (a2 + 1)))
  else
  some (.inr false)
  else
  some (.inl ())
 partial_fixpoint
def Kol (p : K00 × K02 × (List Int) × Int) (fl : (Unit) ⊕ (Bool)) : Prop :=
 match p with
 | (s0,a0,a1,a2) => ∀ c : Ctx,c.nt = 230 → WpL Tryz.prog c (cl (cl (cr (cl (cr (cr (cr (cr (cr (cr (cr (cr B40)))))))))))) (Koj c fl) (mkS [(3,.ra 1 0),(7,.ra 2 0),(213,sI a1),(214,I (a1.length : Int)),(215,I a2)] [(1,K2d s0),(2,K2h a0)])
theorem Kom : ∀ p r,Kok p = some r → Kol p r := by
 refine Kok.partial_correctness Kol ?_
 rintro impl_stepHolds_l1_f impl_stepHolds_l1_ih ⟨s0,a0,a1,a2⟩ r h
 intro c hc
 refine WpL.step ?_
 refine K8d hc 1 [(3,.ra 1 0),(7,.ra 2 0),(213,sI a1),(214,I (a1.length : Int)),(215,I a2),(216,.bool (decide (a2 < (a1.length : Int))))] ?_
 refine sN ?_
 refine ic h (fun a3 h => ?_) fun a3 h => ?_
 ·refine sk ?_
  refine sN ?_
  refine bk 3 ?_
  obtain ⟨a4,a5,h⟩ := Qdd h
  refine rss hc none [oN,some (.el (I a4)),oN,oN,oN] [(3,.ra 1 0),(7,.ra 2 0),(16,I a2),(17,I a4),(213,sI a1),(214,I (a1.length : Int)),(215,I a2)] (ai (ix a5) tv) ?_
  obtain ⟨a6,a7,a8,a9,h⟩ := bq2 h
  refine rss hc (rx [[0],[0],[0],[0,2],[0],[0,2,3,4],[0,2,3,4,5],[7],[8]]) [oN,oN,oN,oN,oN,some (.el (I a6)),oN,oc (.bool a8),oN] [(3,.ra 1 0),(7,.ra 2 0),(213,sI a1),(214,I (a1.length : Int)),(215,I a2),(228,.bool (!a8))] (ai (ix a7) (cq (Ki1 _ _ a9) K6b tv)) ?_
  rcases is h with ⟨b1,h⟩ | ⟨b1,h⟩
  ·refine cF (!a8) (nF b1) ?_
   refine sk ?_
   refine K8c hc 2 [(3,.ra 1 0),(7,.ra 2 0),(213,sI a1),(214,I (a1.length : Int)),(215,I (wr (a2 + 1)))] ?_
   refine Qcv ?_
   exact (impl_stepHolds_l1_ih _ _ h c hc)
  refine cT (!a8) (nT b1) ?_
  refine rs0 hc 1 [(6,.bool false)] [] ?_
  refine rt ?_
  obtain rfl := os h
  exact re [true]
 refine xt 2 ?_
 refine Qcp ?_
 refine Qcw ?_
 obtain rfl := os h
 exact iv []
def Kon (p : K00 × (List K02) × Int) : Option (Bool) :=
 match p with
 | (s0,l1,i2) =>
  (idx l1 i2) >>= fun a0 =>
  ((
  (Kk7 (s0,a0)) >>= fun a1 =>
  if a1 = true then
   some (((a0.fFrom.length : Int) != (a0.fTerm.fKids.length : Int)))
  else
   some (true)
  ) : Option (Bool)) >>= fun a2 =>
  if a2 = true then
  some false
  else
  (chk (0 ≤ (a0.fCtx.length : Int) ∧ (Int.toNat (a0.fCtx.length : Int)) * 8 ≤ 140737488355328)) >>= fun _ =>
  (Kog (s0,l1,i2,a0,[],[],[],0)) >>= fun fl => match fl with
  | .inl (a3,a4,a5) =>
   ((
   (Ko8 ((K06.mk s0),(K05.mk [] (List.replicate (Int.toNat (a0.fCtx.length : Int)) 0) a3 0 []),a0.fCtx,a0.fTerm,a4,a5)) >>= fun (a6,a7) =>
   if (a6 != 0) = true then
    some ((a7.fty,a7.fneeds,a7.fkids,a7.ffault,a7.fpath,true))
   else
    (Kke (a7.fty,a0.fType)) >>= fun a8 =>
    some ((a7.fty,a7.fneeds,a7.fkids,a7.ffault,a7.fpath,(!a8)))
   ) : Option ((List Int) × (List Int) × (List K05) × Int × (List Int) × Bool)) >>= fun (a9,b1,b2,b3,b4,b5) =>
   if b5 = true then
   some false
   else
   (Kok (s0,a0,b1,0)) >>= fun fl => match fl with
   | .inl () =>
    some true
   | .inr r =>
    some r
  | .inr r =>
   some r
def Koo (p : K00 × (List K02) × Int) (r : Bool) : Prop :=
 match p with
 | (s0,l1,i2) => Q71 Tryz.prog 40 [K2e s0,.sl (List.map K12 l1),I i2] (.bool r) []
theorem Kop : ∀ p r,Kon p = some r → Koo p r := by
 rintro ⟨s0,l1,i2⟩ r h
 unfold Kon at h
 refine b0 Tryz.f40 B40 230 [(0,K2e s0),(1,.sl (List.map K12 l1)),(2,I i2)] fun c hc => ?_
 refine rs hc none [some (.new 1),oN] [(1,.sl (List.map K12 l1)),(2,I i2),(3,.ra 1 0)] [(1,K2d s0)] tv ?_
 obtain ⟨a0,a1,h⟩ := Qdd h
 refine rs hc none [oN,oN,some (.el (K2i a0)),oN,some (.new 2),oN] [(1,.sl (List.map K12 l1)),(2,I i2),(3,.ra 1 0),(7,.ra 2 0)] [(1,K2d s0),(2,K2h a0)] (ai (Qdh a1 (K1e a0)) tv) ?_
 refine sN ?_
 refine sN ?_
 obtain ⟨a2,a3,h⟩ := Qdd h
 refine Wp.into (x := .normal) (mkS [(1,.sl (List.map K12 l1)),(2,I i2),(3,.ra 1 0),(7,.ra 2 0),(35,.bool a2)] [(1,K2d s0),(2,K2h a0)]) ?_ ?_
 ·replace h := a3
  obtain ⟨a4,a5,h⟩ := Qdd h
  rcases is h with ⟨a6,h⟩ | ⟨a6,h⟩
  ·refine rgs hc none [oN,oN,oc (.bool a4),oN,oN,oN,oN,some (.eqv (.no) ⟨[(29,I (a0.fFrom.length : Int))],[],[]⟩),oN,oN,oN,some (.eqv (.no) ⟨[(33,I (a0.fTerm.fKids.length : Int))],[],[]⟩),oN,oF] [(1,.sl (List.map K12 l1)),(2,I i2),(3,.ra 1 0),(7,.ra 2 0),(35,.bool ((a0.fFrom.length : Int) != (a0.fTerm.fKids.length : Int)))] (cq (Kk9 _ _ a5) K6v (ar 3 (nF a6) (ai (Qdj (d := 29) I a0.fFrom) (ar 4 (nF a6) (ai (Qdj (d := 33) K0s a0.fTerm.fKids) (ar 2 (nF a6) tv)))))) ?_
   obtain rfl := os h
   exact Qcz.mk
  refine rgs hc none [oN,oN,oc (.bool a4),oN,oN,o_,o_,o_,o_,o_,o_,o_,o_,oT] [(1,.sl (List.map K12 l1)),(2,I i2),(3,.ra 1 0),(7,.ra 2 0),(35,.bool true)] (cq (Kk9 _ _ a5) K6v (ar 8 (neF (nT a6)) (ai (nT a6) tv))) ?_
  obtain rfl := os h
  exact Qcz.mk
 clear a3
 refine ic h (fun a7 h => ?_) fun a7 h => ?_
 ·refine rs0 hc 1 [(6,.bool false)] [] ?_
  refine rt ?_
  obtain rfl := os h
  exact rq [true]
 refine sk ?_
 refine rs hc none [oN,oN,some (.new 3),oN] [(1,.sl (List.map K12 l1)),(2,I i2),(3,.ra 1 0),(7,.ra 2 0),(8,.ra 3 0)] [(1,K2d s0),(2,K2h a0),(3,K2d s0)] tv ?_
 obtain ⟨_,a8,h⟩ := Qdd h
 refine rs hc none [oN,oN,some (.eqv (.no) ⟨[(40,I (a0.fCtx.length : Int))],[],[]⟩),some (.eqv (.mk 4 true) ⟨[(41,.rs 4)],[(4,some (.arr (List.map I (List.replicate (Int.toNat (a0.fCtx.length : Int)) 0))))],[4]⟩),oN,some (.new 5),oN] [(1,.sl (List.map K12 l1)),(2,I i2),(3,.ra 1 0),(7,.ra 2 0),(8,.ra 3 0),(9,.ra 5 0)] [(1,K2d s0),(2,K2h a0),(3,K2d s0),(4,.arr (List.map I (List.replicate (Int.toNat (a0.fCtx.length : Int)) 0))),(5,.box [.nils,.rs 4,.nils,I 0,.nils])] (ac (Qdj (d := 40) K07 a0.fCtx) (congrArg (fun z => (⟨[(41,.rs 4)],[(4,some (.arr z))],[4]⟩ : Wr)) (Qei (enc := I) (n := Int.toNat (a0.fCtx.length : Int)) (x := I 0) (Qds 0))) (And.intro (Eq.refl (a0.fCtx.length : Int)) (Qdf a8)) tv) ?_
 refine K8d hc 2 [(1,.sl (List.map K12 l1)),(2,I i2),(3,.ra 1 0),(7,.ra 2 0),(8,.ra 3 0),(9,.ra 5 0),(10,.nils),(11,.nils)] ?_
 refine sN ?_
 refine rss hc none [oN,oN,some (.eqv (.no) ⟨[(46,I (a0.fFrom.length : Int))],[],[]⟩),oN] [(1,.sl (List.map K12 l1)),(2,I i2),(3,.ra 1 0),(7,.ra 2 0),(8,.ra 3 0),(9,.ra 5 0),(10,.nils),(11,.nils),(45,sI a0.fFrom),(46,I (a0.fFrom.length : Int)),(47,I 0)] (ai (Qdj (d := 46) I a0.fFrom) tv) ?_
 refine bk 0 ?_
 obtain ⟨fl,a9,h⟩ := Qdd h
 have hL := Koi _ _ a9 c hc
 refine Wp.loopN (by kernel_rfl) (WpL.view (fun a w hv => SRx.renL [(17,42),(18,43),(19,44)] (SRx.nilTL 11 44 (SRx.nilTL 10 43 (SRx.nilBL 5 2 42 [.nils,.rs 4,.nils,I 0,.nils] hv (by kernel_rfl) (by kernel_rfl) (by kernel_rfl)) (by kernel_rfl) (by kernel_rfl)) (by kernel_rfl) (by kernel_rfl)) (by kernel_rfl) (by kernel_rfl) (by kernel_rfl)) (?_ : WpL _ c _ _ (mkS [(1,.sl (List.map K12 l1)),(2,I i2),(3,.ra 1 0),(7,.ra 2 0),(8,.ra 3 0),(9,.ra 5 0),(10,.rs 18),(11,.rs 19),(45,sI a0.fFrom),(46,I (a0.fFrom.length : Int)),(47,I 0)] [(1,K2d s0),(2,K2h a0),(3,K2d s0),(4,.arr (List.map I (List.replicate (Int.toNat (a0.fCtx.length : Int)) 0))),(5,.box [.nils,.rs 4,.rs 17,I 0,.nils]),(17,.arr (List.map K0i [])),(18,.arr (List.map K07 [])),(19,.arr (List.map K07 []))])))
 rcases fl with ⟨b1,b2,b3⟩ | r
 ·refine WpL.into (e := (.exit 0)) (mkS [(3,.ra 1 0),(7,.ra 2 0),(8,.ra 3 0),(9,.ra 5 0),(10,.rs 18),(11,.rs 19)] [(1,K2d s0),(2,K2h a0),(3,K2d s0),(4,.arr (List.map I (List.replicate (Int.toNat (a0.fCtx.length : Int)) 0))),(5,.box [.nils,.rs 4,.rs 17,I 0,.nils]),(17,.arr (List.map K0i b1)),(18,.arr (List.map K07 b2)),(19,.arr (List.map K07 b3))]) hL ?_
  refine Qcr ?_
  refine sN ?_
  refine sN ?_
  refine vz 18 (K0b b2) [(3,.ra 1 0),(7,.ra 2 0),(8,.ra 3 0),(9,.ra 5 0),(10,sL b2),(11,.rs 19)] [(1,K2d s0),(2,K2h a0),(3,K2d s0),(4,.arr (List.map I (List.replicate (Int.toNat (a0.fCtx.length : Int)) 0))),(5,.box [.nils,.rs 4,.rs 17,I 0,.nils]),(17,.arr (List.map K0i b1)),(19,.arr (List.map K07 b3))] ?_
  refine vz 19 (K0b b3) [(3,.ra 1 0),(7,.ra 2 0),(8,.ra 3 0),(9,.ra 5 0),(10,sL b2),(11,sL b3)] [(1,K2d s0),(2,K2h a0),(3,K2d s0),(4,.arr (List.map I (List.replicate (Int.toNat (a0.fCtx.length : Int)) 0))),(5,.box [.nils,.rs 4,.rs 17,I 0,.nils]),(17,.arr (List.map K0i b1))] ?_
  obtain ⟨⟨b4,b5,b6,b7,b8,b9⟩,c0,h⟩ := Qdd h
  refine Wp.into (x := .normal) (mkS [(3,.ra 1 0),(7,.ra 2 0),(9,.ra 5 0),(209,.bool b9)] [(1,K2d s0),(2,K2h a0),(5,.box [sI b4,sI b5,.sl (List.map K0i b6),I b7,sI b8])]) ?_ ?_
  ·replace h := c0
   obtain ⟨⟨c1,c2⟩,c3,h⟩ := Qdd h
   rcases is h with ⟨c4,h⟩ | ⟨c4,h⟩
   ·refine rg hc Kof [oN,oN,oN,oN,oN,oN,oN,oN,some (.call (I c1) [.undef,.optr [sI c2.fty,sI c2.fneeds,.sl (List.map K0i c2.fkids),I c2.ffault,sI c2.fpath],.undef,.undef,.undef,.undef] 1),oN,oN,o_,o_,o_,o_,o_,o_,o_,o_,oT] [(3,.ra 1 0),(7,.ra 2 0),(9,.ra 5 0),(209,.bool true)] [(1,K2d s0),(2,K2h a0),(5,K2l c2)] (ab (Koa _ _ c3) K80 (ar 8 (neF c4) (ai c4 tv))) ?_
    obtain ⟨rfl,hq0⟩ := Prod.mk.inj (Option.some.inj h)
    obtain ⟨rfl,hq1⟩ := Prod.mk.inj (hq0)
    obtain ⟨rfl,hq2⟩ := Prod.mk.inj (hq1)
    obtain ⟨rfl,hq3⟩ := Prod.mk.inj (hq2)
    obtain ⟨rfl,rfl⟩ := Prod.mk.inj (hq3)
    exact Qcz.mk
   obtain ⟨c5,c6,h⟩ := Qdd h
   refine rg hc Kof [oN,oN,oN,oN,oN,oN,oN,oN,some (.call (I c1) [.undef,.optr [sI c2.fty,sI c2.fneeds,.sl (List.map K0i c2.fkids),I c2.ffault,sI c2.fpath],.undef,.undef,.undef,.undef] 1),oN,oN,oN,oN,oN,oN,oN,oN,oc (.bool c5),oN,oF] [(3,.ra 1 0),(7,.ra 2 0),(9,.ra 5 0),(209,.bool (!c5))] [(1,K2d s0),(2,K2h a0),(5,K2l c2)] (ab (Koa _ _ c3) K80 (ar 7 c4 (cq (Kkg _ _ c6) K6w (ar 2 c4 tv)))) ?_
   obtain ⟨rfl,hq0⟩ := Prod.mk.inj (Option.some.inj h)
   obtain ⟨rfl,hq1⟩ := Prod.mk.inj (hq0)
   obtain ⟨rfl,hq2⟩ := Prod.mk.inj (hq1)
   obtain ⟨rfl,hq3⟩ := Prod.mk.inj (hq2)
   obtain ⟨rfl,rfl⟩ := Prod.mk.inj (hq3)
   exact Qcz.mk
  clear c0
  refine ic h (fun c7 h => ?_) fun c7 h => ?_
  ·refine rs0 hc 1 [(6,.bool false)] [] ?_
   refine rt ?_
   obtain rfl := os h
   exact rq [true]
  refine sk ?_
  refine sN ?_
  refine rs hc none [oN,oN,oN,oN,some (.eqv (.no) ⟨[(214,I (b5.length : Int))],[],[]⟩),oN] [(3,.ra 1 0),(7,.ra 2 0),(213,sI b5),(214,I (b5.length : Int)),(215,I 0)] [(1,K2d s0),(2,K2h a0)] (ai (Qdj (d := 214) I b5) tv) ?_
  refine bk 2 ?_
  obtain ⟨fl,c8,h⟩ := Qdd h
  have hL := Kom _ _ c8 c hc
  refine lp ?_
  rcases fl with ⟨⟩ | r
  ·refine WpL.into (e := (.exit 2)) (mkS [] []) hL ?_
   refine Qcr ?_
   refine rs0 hc 1 [(6,.bool true)] [] ?_
   refine rt ?_
   obtain rfl := os h
   exact rq [true]
  refine WpL.mono hL ?_
  rintro _ _ ⟨rfl,hfin⟩
  obtain rfl := os h
  exact ⟨.inl rfl,hfin⟩
 refine WpL.mono hL ?_
 rintro _ _ ⟨rfl,hfin⟩
 obtain rfl := os h
 exact ⟨.inl rfl,hfin⟩
def Koq (c : Ctx) : (Unit) ⊕ (Int) → Exit → Q0a → Prop
 | .inl _ => Qcz c (.exit 0) (mkS [] [])
 | .inr r => Qd8 TIx Tryz.f11 [] (I r)
def Kor (p : K00 × (List K02) × Int) : Option ((Unit) ⊕ (Int)) :=
 match p with
 | (s0,l1,a0) =>
  if (decide (a0 < (l1.length : Int))) = true then
  (Kon (s0,l1,a0)) >>= fun a1 =>
  if a1 = true then
  Kor (s0,l1,(wr (a0 + 1)))
  else
  some (.inr a0)
  else
  some (.inl ())
 partial_fixpoint
def Kos (p : K00 × (List K02) × Int) (fl : (Unit) ⊕ (Int)) : Prop :=
 match p with
 | (s0,l1,a0) => ∀ c : Ctx,c.nt = 26 → WpL Tryz.prog c (cl (cl (cr (cl (cr (cr B11)))))) (Koq c fl) (mkS [(1,.sl (List.map K12 l1)),(2,.ra 1 0),(15,I (l1.length : Int)),(16,I a0)] [(1,K2d s0)])
theorem Kot : ∀ p r,Kor p = some r → Kos p r := by
 refine Kor.partial_correctness Kos ?_
 rintro impl_CheckDerivation_l0_f impl_CheckDerivation_l0_ih ⟨s0,l1,a0⟩ r h
 intro c hc
 refine WpL.step ?_
 refine K8d hc 1 [(1,.sl (List.map K12 l1)),(2,.ra 1 0),(15,I (l1.length : Int)),(16,I a0),(17,.bool (decide (a0 < (l1.length : Int))))] ?_
 refine sN ?_
 refine ic h (fun a1 h => ?_) fun a1 h => ?_
 ·refine sk ?_
  refine sN ?_
  refine bk 1 ?_
  refine K8d hc 2 [(1,.sl (List.map K12 l1)),(2,.ra 1 0),(5,I a0),(15,I (l1.length : Int)),(16,I a0)] ?_
  obtain ⟨a2,a3,h⟩ := Qdd h
  refine rss hc none [oN,oN,oN,oc (.bool a2),oN] [(1,.sl (List.map K12 l1)),(2,.ra 1 0),(5,I a0),(15,I (l1.length : Int)),(16,I a0),(23,.bool (!a2))] (cq (Kop _ _ a3) K81 tv) ?_
  rcases is h with ⟨a4,h⟩ | ⟨a4,h⟩
  ·refine cF (!a2) (nF a4) ?_
   refine sk ?_
   refine K8c hc 2 [(1,.sl (List.map K12 l1)),(2,.ra 1 0),(15,I (l1.length : Int)),(16,I (wr (a0 + 1)))] ?_
   refine Qcv ?_
   exact (impl_CheckDerivation_l0_ih _ _ h c hc)
  refine cT (!a2) (nT a4) ?_
  refine rs0 hc 2 [(4,I a0)] [] ?_
  refine rt ?_
  obtain rfl := os h
  exact re [true]
 refine xt 0 ?_
 refine Qcp ?_
 refine Qcw ?_
 obtain rfl := os h
 exact iv []
end Go.Am
