/- Walks, printed. -/
import Derived.Test.YtckgdfakjjdodaaGreatGSNF12
set_option linter.unusedVariables false
set_option linter.unusedSimpArgs false
set_option maxRecDepth 100000
namespace Go.Am
open Go Go.Proofs
def Kqa : Option (List (List Nat)) := rx [[0],[0],[0,1],[0,1,2],[0],[0,4],[6],[7]]
def Kqb : Option (List (List Nat)) := rx [[0],[0],[0],[0,2],[0],[0],[0],[0,6],[0],[0,8],[0,8,9],[0,2,3,5,6,7,8,9,10],[0],[0,12],[0,12,13],[0,2,3,4,5,6,7,8,9,10,11,12,13,14],[1,2,3,4,5,6,7,8,9,10,11,12,13,14,15],[1,2,3,4,5,6,7,8,9,10,11,12,13,14,15,16],[1,2,3,4,5,6,7,8,9,10,11,12,13,14,15,16,17],[19],[20],[21]]
def Kqc : Option (List (List Nat)) := rx [[0],[0],[0],[0],[0,3],[0],[0,5],[0,2,3,4,5,6],[0,2,3,4,5,6,7],[0],[0,9],[0,9,10],[1,2,3,4,5,6,7,8,9,10,11],[1,2,3,4,5,6,7,8,9,10,11,12],[1,2,3,4,5,6,7,8,9,10,11,12,13],[15],[16],[17]]
def Kqd : Option (List (List Nat)) := rx [[0],[0],[0,1],[0,1,2],[0],[0,4],[6],[7],[8],[9],[9],[9,10],[9,10,11],[9],[9,13],[15],[16],[17]]
def Kqe (p : K06 × K04 × LL × K01 × LL × LL) : Option (Int × K04) :=
 match p with
 | (p0,out1,ctx2,t3,needs4,used5) =>
  ((
   if (t3.fOp == 0) = true then
   (idx ctx2 t3.fN) >>= fun a0 =>
   (Ko3 a0) >>= fun a1 =>
   (idx out1.fneeds t3.fN) >>= fun a2 =>
   some (.inl (a1,(List.set out1.fneeds (Int.toNat t3.fN) 1)))
   else
   ((
    if (t3.fOp == 1) = true then
    some (.inl ([0],out1.fneeds))
    else
    ((
     if (t3.fOp == 2) = true then
     (idx needs4 0) >>= fun a3 =>
     (idx needs4 1) >>= fun a4 =>
     (Kod (p0,a3,a4)) >>= fun a5 =>
     some (.inl ([0],a5))
     else
     ((
      if (t3.fOp == 3) = true then
      (Kog (1,out1)) >>= fun a6 =>
      (Kog (2,out1)) >>= fun a7 =>
      (Ko0 (a6,a7)) >>= fun a8 =>
      if a8 = true then
       (Kog (1,out1)) >>= fun a9 =>
       (idx needs4 0) >>= fun b1 =>
       (idx needs4 1) >>= fun b2 =>
       (idx needs4 2) >>= fun b3 =>
       (Koq (p0,b2,b3)) >>= fun b4 =>
       (Kod (p0,b1,b4)) >>= fun b5 =>
       some (.inl (a9,b5))
      else
       some (.inr (3,out1))
      else
      ((
       if (t3.fOp == 4) = true then
       (Kog (0,out1)) >>= fun b6 =>
       (Kog (1,out1)) >>= fun b7 =>
       (Kp4 [[1],b6,b7]) >>= fun b8 =>
       (idx needs4 0) >>= fun b9 =>
       (idx needs4 1) >>= fun c0 =>
       (Kod (p0,b9,c0)) >>= fun c1 =>
       some (.inl (b8,c1))
       else
       ((
        if (t3.fOp == 5) = true then
        (idx used5 1) >>= fun c2 =>
        (Kpk (p0,c2,t3.fN)) >>= fun c3 =>
        if c3 = true then
         (Kog (1,out1)) >>= fun c4 =>
         (idx needs4 0) >>= fun c5 =>
         (Kpr (p0,t3.fN,c5)) >>= fun c6 =>
         (idx needs4 1) >>= fun c7 =>
         (Kod (p0,c6,c7)) >>= fun c8 =>
         some (.inl (c4,c8))
        else
         some (.inr (9,out1))
        else
        ((
         if (t3.fOp == 6) = true then
         (Kog (0,out1)) >>= fun c9 =>
         (Kp4 [[2],c9,t3.fType]) >>= fun d0 =>
         (idx needs4 0) >>= fun d1 =>
         some (.inl (d0,d1))
         else
         ((
          if (t3.fOp == 7) = true then
          (Kog (0,out1)) >>= fun d2 =>
          (Kp4 [[2],t3.fType,d2]) >>= fun d3 =>
          (idx needs4 0) >>= fun d4 =>
          some (.inl (d3,d4))
          else
          ((
           if (t3.fOp == 8) = true then
           (Kog (1,out1)) >>= fun d5 =>
           (Kog (2,out1)) >>= fun d6 =>
           (Ko0 (d5,d6)) >>= fun d7 =>
           if d7 = true then
            ((
            (idx used5 1) >>= fun d8 =>
            (Kpk (p0,d8,t3.fN)) >>= fun d9 =>
            if d9 = true then
             (idx used5 2) >>= fun e0 =>
             (Kpk (p0,e0,t3.fN)) >>= fun e1 =>
             some ((!e1))
            else
             some (true)
            ) : Option (Bool)) >>= fun e2 =>
            if e2 = true then
            some (.inr (9,out1))
            else
            (Kog (1,out1)) >>= fun e3 =>
            (idx needs4 0) >>= fun e4 =>
            (Kpr (p0,t3.fN,e4)) >>= fun e5 =>
            (idx needs4 1) >>= fun e6 =>
            (idx needs4 2) >>= fun e7 =>
            (Koq (p0,e6,e7)) >>= fun e8 =>
            (Kod (p0,e5,e8)) >>= fun e9 =>
            some (.inl (e3,e9))
           else
            some (.inr (3,out1))
           else
           ((
            if (t3.fOp == 9) = true then
            (idx used5 0) >>= fun f0 =>
            (Kpk (p0,f0,t3.fN)) >>= fun f1 =>
            if f1 = true then
             (Kog (0,out1)) >>= fun f2 =>
             (Kp4 [[(wr (3 + t3.fN))],t3.fType,f2]) >>= fun f3 =>
             (idx needs4 0) >>= fun f4 =>
             some (.inl (f3,f4))
            else
             some (.inr (9,out1))
            else
            ((
             if (t3.fOp == 10) = true then
             (Kog (0,out1)) >>= fun f5 =>
             (idx f5 0) >>= fun f6 =>
             (Klo f6) >>= fun (f7,f8) =>
             (Kog (0,out1)) >>= fun f9 =>
             (Kn8 f9) >>= fun g0 =>
             (idx g0 1) >>= fun g1 =>
             (idx needs4 0) >>= fun g2 =>
             (idx needs4 1) >>= fun g3 =>
             (Kpr (p0,f8,g3)) >>= fun g4 =>
             (Kod (p0,g2,g4)) >>= fun g5 =>
             some (.inl (g1,g5))
             else
             ((
              if (t3.fOp == 11) = true then
              (Kog (0,out1)) >>= fun g6 =>
              (Kp4 [[(wr (19 + t3.fN))],g6]) >>= fun g7 =>
              (idx needs4 0) >>= fun g8 =>
              (Kpr (p0,t3.fN,g8)) >>= fun g9 =>
              some (.inl (g7,g9))
              else
              ((
               if (t3.fOp == 12) = true then
               (Kog (0,out1)) >>= fun i0 =>
               (idx i0 0) >>= fun i1 =>
               (Klo i1) >>= fun (i2,i3) =>
               (idx used5 1) >>= fun i4 =>
               (Kkf (p0.fs,t3.fN,i3)) >>= fun i5 =>
               (Kpk (p0,i4,i5)) >>= fun i6 =>
               if i6 = true then
               (Kog (1,out1)) >>= fun i7 =>
               (idx needs4 0) >>= fun i8 =>
               (Kpr (p0,t3.fN,i8)) >>= fun i9 =>
               (idx needs4 1) >>= fun j0 =>
               (Kod (p0,i9,j0)) >>= fun j8 =>
               some (.inl (i7,j8))
               else
               some (.inr (9,out1))
               else
               some (.inl (out1.fty,out1.fneeds))) : Option (((List Int) × (List Int)) ⊕ ((Int × K04)))) >>= fun fl => match fl with
              | .inl (j9,k0) =>
               some (.inl (j9,k0))
              | .inr r =>
               some (.inr r)) : Option (((List Int) × (List Int)) ⊕ ((Int × K04)))) >>= fun fl => match fl with
             | .inl (k1,k2) =>
              some (.inl (k1,k2))
             | .inr r =>
              some (.inr r)) : Option (((List Int) × (List Int)) ⊕ ((Int × K04)))) >>= fun fl => match fl with
            | .inl (k3,k4) =>
             some (.inl (k3,k4))
            | .inr r =>
             some (.inr r)) : Option (((List Int) × (List Int)) ⊕ ((Int × K04)))) >>= fun fl => match fl with
           | .inl (k5,k6) =>
            some (.inl (k5,k6))
           | .inr r =>
            some (.inr r)) : Option (((List Int) × (List Int)) ⊕ ((Int × K04)))) >>= fun fl => match fl with
          | .inl (k7,k8) =>
           some (.inl (k7,k8))
          | .inr r =>
           some (.inr r)) : Option (((List Int) × (List Int)) ⊕ ((Int × K04)))) >>= fun fl => match fl with
         | .inl (k9,l0) =>
          some (.inl (k9,l0))
         | .inr r =>
          some (.inr r)) : Option (((List Int) × (List Int)) ⊕ ((Int × K04)))) >>= fun fl => match fl with
        | .inl (l1,l2) =>
         some (.inl (l1,l2))
        | .inr r =>
         some (.inr r)) : Option (((List Int) × (List Int)) ⊕ ((Int × K04)))) >>= fun fl => match fl with
       | .inl (l3,l4) =>
        some (.inl (l3,l4))
       | .inr r =>
        some (.inr r)) : Option (((List Int) × (List Int)) ⊕ ((Int × K04)))) >>= fun fl => match fl with
      | .inl (l5,l6) =>
       some (.inl (l5,l6))
      | .inr r =>
       some (.inr r)) : Option (((List Int) × (List Int)) ⊕ ((Int × K04)))) >>= fun fl => match fl with
     | .inl (l7,l8) =>
      some (.inl (l7,l8))
     | .inr r =>
      some (.inr r)) : Option (((List Int) × (List Int)) ⊕ ((Int × K04)))) >>= fun fl => match fl with
    | .inl (l9,m0) =>
     some (.inl (l9,m0))
    | .inr r =>
     some (.inr r)) : Option (((List Int) × (List Int)) ⊕ ((Int × K04)))) >>= fun fl => match fl with
   | .inl (m1,m2) =>
    some (.inl (m1,m2))
   | .inr r =>
    some (.inr r)) : Option (((List Int) × (List Int)) ⊕ ((Int × K04)))) >>= fun fl => match fl with
  | .inl (m3,m4) =>
   (Kpu m3) >>= fun m5 =>
   if m5 = true then
   some (3,(K04.mk m3 m4 out1.fkids out1.ffault out1.fpath))
   else
   some (0,(K04.mk m3 m4 out1.fkids out1.ffault out1.fpath))
  | .inr r =>
   some r
def Kqf (p : K06 × K04 × LL × K01 × LL × LL) (r : Int × K04) : Prop :=
 match p with
 | (p0,out1,ctx2,t3,needs4,used5) => Q75 Tryz.prog 222 [K2b p0,.optr [oI out1.fty,oI out1.fneeds,oM K07 out1.fkids,I out1.ffault,oI out1.fpath],sL ctx2,K1z t3,sL needs4,sL used5] (I r.1) [.undef,K29 r.2,.undef,.undef,.undef,.undef]
theorem Kqg : ∀ p r,Kqe p = some r → Kqf p r := by
 rintro ⟨p0,out1,ctx2,t3,needs4,used5⟩ r h
 unfold Kqe at h
 refine Q75.bodyO K3a (fn := Tryz.f222) (code := K93) (by kernel_rfl) (by kernel_rfl) (by kernel_rfl) (nt := 362) (by kernel_rfl) (by kernel_rfl) (T := [(0,K2b p0),(1,.ra 2000 0),(2,sL ctx2),(3,K1z t3),(4,sL needs4),(5,sL used5)]) (O := [(2000,.box [.rs 2001,.rs 2002,.rs 2003,I out1.ffault,.rs 2004]),(2001,rI out1.fty),(2002,rI out1.fneeds),(2003,rM K07 out1.fkids),(2004,rI out1.fpath)]) (by kernel_rfl) (by kernel_rfl) (fun c hc => ?_)
 refine vz 2001 (Qel out1.fty) [(0,K2b p0),(1,.ra 2000 0),(2,sL ctx2),(3,K1z t3),(4,sL needs4),(5,sL used5)] [(2000,.box [sI out1.fty,.rs 2002,.rs 2003,I out1.ffault,.rs 2004]),(2002,rI out1.fneeds),(2003,rM K07 out1.fkids),(2004,rI out1.fpath)] (vz 2003 (K0e out1.fkids) [(0,K2b p0),(1,.ra 2000 0),(2,sL ctx2),(3,K1z t3),(4,sL needs4),(5,sL used5)] [(2000,.box [sI out1.fty,.rs 2002,sM K07 out1.fkids,I out1.ffault,.rs 2004]),(2002,rI out1.fneeds),(2004,rI out1.fpath)] (vz 2004 (Qel out1.fpath) [(0,K2b p0),(1,.ra 2000 0),(2,sL ctx2),(3,K1z t3),(4,sL needs4),(5,sL used5)] [(2000,.box [sI out1.fty,.rs 2002,sM K07 out1.fkids,I out1.ffault,sI out1.fpath]),(2002,rI out1.fneeds)] (rsd hc none [nW 1,nW 2,nW 3,oN] [0,1,3] [(6,.ra 1 0),(7,.ra 2 0),(9,.ra 3 0)] [(1,K2a p0),(2,.box [.ra 2000 0]),(3,K1y t3),(2000,.box [sI out1.fty,.rs 2002,sM K07 out1.fkids,I out1.ffault,sI out1.fpath]),(2002,rI out1.fneeds)] tv (K9o hc 2 [] [(13,.fn 243 [.ra 2 0])] (sN (K9o hc 2 [] [(20,I t3.fOp)] (bk 0 (K9l hc 2 [(2,sL ctx2),(4,sL needs4),(5,sL used5),(6,.ra 1 0),(7,.ra 2 0),(9,.ra 3 0),(13,.fn 243 [.ra 2 0]),(20,I t3.fOp),(21,.bool (t3.fOp == 0))] ?_))))))))
 obtain ⟨fl,a0,h⟩ := Qdt h
 refine flw (Kq9 c p0 out1 ctx2 t3 needs4 used5 fl) ?_ (fun hF => ?_)
 ·replace h := a0
  refine ic h (fun a1 h => ?_) fun a1 h => ?_
  ·obtain ⟨a2,a3,a4,a5,h⟩ := bq2 h
   refine rsd hc (rx [[0],[0],[0],[0,2],[0,1,2,3],[0,1,2,3,4],[0,1,2,3,4,5],[7],[8],[9]]) (nN 4 [eL (sI a2),oN,some (.call (oI a4) [] 4),oN,oN,oN]) [2,4,5,6,13,20,21] [] [(2,.box [.ra 2000 0]),(3,K1y t3),(4,rI a4),(2000,.box [.rs 4,.rs 2002,sM K07 out1.fkids,I out1.ffault,sI out1.fpath]),(2002,rI out1.fneeds)] (ai (xL a3) (cq (Ko5 _ _ a5) K8e tv)) ?_
   obtain ⟨a6,a7,h⟩ := Qdt h
   obtain rfl := os h
   exact rgd hc (rx [[0],[1],[2],[3],[0],[0,4],[6],[7]]) (nN 7 [some (.eqv (.mk 0 true) ⟨[],[(2002,some (.arr (List.map I (List.set out1.fneeds (Int.toNat t3.fN) 1))))],[]⟩)]) [9] [] [(2,.box [.ra 2000 0]),(4,rI a4),(2000,.box [.rs 4,.rs 2002,sM K07 out1.fkids,I out1.ffault,sI out1.fpath]),(2002,.arr (List.map I (List.set out1.fneeds (Int.toNat t3.fN) 1)))] (ac (Qdy (enc := I) a7) (congrArg (fun z => (⟨[],[(2002,some (.arr z))],[]⟩ : Wr)) (Qew (enc := I) (i := Int.toNat t3.fN) (l := out1.fneeds) (v := 1) (x := I 1) (Qe8 1))) (Qex (enc := I) (sz := 1) Qec a7) tv) (Qdf.view (fun a w hv => SRx.renL [] (SRx.frzC 2002 (xs := List.map I (List.set out1.fneeds (Int.toNat t3.fN) 1)) (xs' := List.map I (List.set out1.fneeds (Int.toNat t3.fN) 1)) (SRx.frzC 4 (xs := List.map I a4) (xs' := List.map I a4) hv (by kernel_rfl) (Qel _)) (by kernel_rfl) (Qel _)) (by kernel_rfl) (by kernel_rfl) (by kernel_rfl)))
  refine K9l hc 2 [(4,sL needs4),(5,sL used5),(6,.ra 1 0),(7,.ra 2 0),(9,.ra 3 0),(13,.fn 243 [.ra 2 0]),(20,I t3.fOp),(39,.bool (t3.fOp == 1))] ?_
  obtain ⟨fl,a8,h⟩ := Qdt h
  refine flw (Kq8 c p0 out1 ctx2 t3 needs4 used5 fl) ?_ (fun hF => ?_)
  ·replace h := a8
   refine ic h (fun a9 h => ?_) fun a9 h => ?_
   ·obtain rfl := os h
    exact rg hc none [oN,mK 5,oN,oN,oN] [(7,.ra 2 0)] [(2,.box [.ra 2000 0]),(5,.arr (List.map I [0])),(2000,.box [.rs 5,.rs 2002,sM K07 out1.fkids,I out1.ffault,sI out1.fpath]),(2002,rI out1.fneeds)] tv (Qdf.view (fun a w hv => SRx.renL [] (SRx.frzC 2002 (xs := List.map I out1.fneeds) (xs' := List.map I out1.fneeds) (SRx.frzC 5 (xs := List.map I [0]) (xs' := List.map I [0]) hv (by kernel_rfl) (Qel _)) (by kernel_rfl) (Qel _)) (by kernel_rfl) (by kernel_rfl) (by kernel_rfl)))
   refine K9l hc 2 [(4,sL needs4),(5,sL used5),(6,.ra 1 0),(7,.ra 2 0),(9,.ra 3 0),(13,.fn 243 [.ra 2 0]),(20,I t3.fOp),(45,.bool (t3.fOp == 2))] ?_
   obtain ⟨fl,b1,h⟩ := Qdt h
   refine flw (Kq7 c p0 out1 ctx2 t3 needs4 used5 fl) ?_ (fun hF => ?_)
   ·replace h := b1
    refine ic h (fun b2 h => ?_) fun b2 h => ?_
    ·obtain ⟨b3,b4,b5,b6,b7,b8,h⟩ := bq3 h
     obtain rfl := os h
     exact rg hc (rx [[0],[0],[0],[0],[0],[0,4],[0,4,5],[0],[0,7],[0,7,8],[0,3,4,5,6,7,8,9],[1,2,3,4,5,6,7,8,9,10],[1,2,3,4,5,6,7,8,9,10,11],[1,2,3,4,5,6,7,8,9,10,11,12],[14],[15],[16]]) ([oN,oN,mK 6,oN,oN,eL (sI b3),oN,oN,eL (sI b5),oN,some (.call (oI b7) [] 7)]++nN 6 []) [(7,.ra 2 0)] [(2,.box [.ra 2000 0]),(6,.arr (List.map I [0])),(7,rI b7),(2000,.box [.rs 6,.rs 7,sM K07 out1.fkids,I out1.ffault,sI out1.fpath])] (ab (xL b4) (xL b6) (cq (Kof _ _ b8) K8i tv)) (Qdf.view (fun a w hv => SRx.renL [] (SRx.frzC 7 (xs := List.map I b7) (xs' := List.map I b7) (SRx.frzC 6 (xs := List.map I [0]) (xs' := List.map I [0]) hv (by kernel_rfl) (Qel _)) (by kernel_rfl) (Qel _)) (by kernel_rfl) (by kernel_rfl) (by kernel_rfl)))
    refine K9l hc 2 [(4,sL needs4),(5,sL used5),(6,.ra 1 0),(7,.ra 2 0),(9,.ra 3 0),(13,.fn 243 [.ra 2 0]),(20,I t3.fOp),(62,.bool (t3.fOp == 3))] ?_
    obtain ⟨fl,b9,h⟩ := Qdt h
    refine flw (Kq6 c p0 out1 ctx2 t3 needs4 used5 fl) ?_ (fun hF => ?_)
    ·replace h := b9
     refine ic h (fun c0 h => ?_) fun c0 h => ?_
     ·refine sN (sN (vz 2002 (Qel out1.fneeds) [(4,sL needs4),(5,sL used5),(6,.ra 1 0),(7,.ra 2 0),(9,.ra 3 0),(13,.fn 243 [.ra 2 0]),(20,I t3.fOp),(62,.bool (t3.fOp == 3))] [(1,K2a p0),(2,.box [.ra 2000 0]),(3,K1y t3),(2000,K27 out1)] ?_))
      obtain ⟨c1,c2,c3,c4,c5,c6,h⟩ := bq3 h
      refine rgd hc none [oN,eL (sI c1),oN,eL (sI c3),oc (.bool c5),oN] [5,9,20,62] [(69,.bool (!c5))] [(1,K2a p0),(2,.box [.ra 2000 0]),(2000,K27 out1)] (ad (Koi _ _ c2) K8k (Koi _ _ c4) K8k (cq (Ko2 _ _ c6) K8d tv)) ?_
      rcases is h with ⟨c7,h⟩ | ⟨c7,h⟩
      ·refine cF (!c5) (nF c7) (sk ?_)
       obtain ⟨c8,c9,d0,d1,d2,d3,d4,d5,h⟩ := bq4 h
       obtain ⟨d6,d7,d8,d9,h⟩ := bq2 h
       obtain rfl := os h
       exact rg hc (rx [[0],[0],[0],[0,2],[0],[0],[0,5],[0,5,6],[0],[0],[0,9],[0,9,10],[0],[0,12],[0,12,13],[0,2,3,8,9,10,11,12,13,14],[0,2,3,4,5,6,7,8,9,10,11,12,13,14,15],[1,2,3,4,5,6,7,8,9,10,11,12,13,14,15,16],[1,2,3,4,5,6,7,8,9,10,11,12,13,14,15,16,17],[1,2,3,4,5,6,7,8,9,10,11,12,13,14,15,16,17,18],[20],[21],[22]]) ([oN,oN,oN,eL (sI c8),oN,oN,eL (sI d0),oN,oN,oN,eL (sI d2),oN,oN,eL (sI d4),oN,some (.call (oI d6) [] 8),some (.call (oI d8) [] 9)]++nN 6 []) [(7,.ra 2 0)] [(2,.box [.ra 2000 0]),(9,rI d8),(2000,.box [sI c8,.rs 9,sM K07 out1.fkids,I out1.ffault,sI out1.fpath])] (ad (Koi _ _ c9) K8k (xL d1) (xL d3) (ai (xL d5) (cq (Kos _ _ d7) K8m (ac (Q75.args (A1 := [K2b p0,sI d0,.sl (Q02 (List.map I d6))]) (A2 := [K2b p0,sI d0,sI d6]) (by simp only [List.map_nil,Qel]) (Kof _ _ d9)) K8i (Or.inr (Qet Qep d8) : ([8] : List Nat) = [] ∨ noSh (oI d8) = true) tv)))) (Qdf.view (fun a w hv => SRx.renL [] (SRx.frzC 9 (xs := List.map I d8) (xs' := List.map I d8) hv (by kernel_rfl) (Qel _)) (by kernel_rfl) (by kernel_rfl) (by kernel_rfl)))
      refine cT (!c5) (nT c7) ?_
      obtain rfl := os h
      exact rs0 hc 1 [(12,I 3)] [(2000,K27 out1)] (rt (rp [true]))
     refine K9l hc 2 [(4,sL needs4),(5,sL used5),(6,.ra 1 0),(7,.ra 2 0),(9,.ra 3 0),(13,.fn 243 [.ra 2 0]),(20,I t3.fOp),(91,.bool (t3.fOp == 4))] ?_
     obtain ⟨fl,e0,h⟩ := Qdt h
     refine flw (Kq5 c p0 out1 ctx2 t3 needs4 used5 fl) ?_ (fun hF => ?_)
     ·replace h := e0
      refine ic h (fun e1 h => ?_) fun e1 h => ?_
      ·refine vz 2002 (Qel out1.fneeds) [(4,sL needs4),(5,sL used5),(6,.ra 1 0),(7,.ra 2 0),(9,.ra 3 0),(13,.fn 243 [.ra 2 0]),(20,I t3.fOp),(91,.bool (t3.fOp == 4))] [(1,K2a p0),(2,.box [.ra 2000 0]),(3,K1y t3),(2000,K27 out1)] ?_
       obtain ⟨e2,e3,e4,e5,e6,e7,e8,e9,h⟩ := bq4 h
       obtain ⟨f0,f1,f2,f3,h⟩ := bq2 h
       obtain rfl := os h
       exact rg hc (rx [[0],[0],[0],[0],[0,3],[0],[0,3,4,5],[0,2,3,4,5,6],[0,2,3,4,5,6,7],[0],[0],[0,10],[0,10,11],[0],[0,13],[0,13,14],[0,2,3,4,5,6,7,8,9,10,11,12,13,14,15],[1,2,3,4,5,6,7,8,9,10,11,12,13,14,15,16],[1,2,3,4,5,6,7,8,9,10,11,12,13,14,15,16,17],[1,2,3,4,5,6,7,8,9,10,11,12,13,14,15,16,17,18],[20],[21],[22]]) ([oN,oN,mK 11,oN,eL (sI e2),oN,eL (sI e4),mK 12,some (.call (sI e6) [.tup []] 1),oN,oN,eL (sI e8),oN,oN,eL (sI f0),oN,some (.call (oI f2) [] 13)]++nN 6 []) [(7,.ra 2 0)] [(2,.box [.ra 2000 0]),(13,rI f2),(2000,.box [sI e6,.rs 13,sM K07 out1.fkids,I out1.ffault,sI out1.fpath])] (ad (Koi _ _ e3) K8k (Koi _ _ e5) K8k (ad (Q75.args (A1 := [.sl (Q02 [AV.osl (List.map I [1]),sI e2,sI e4])]) (A2 := [.sl (List.map K14 [[1],e2,e4])]) (by simp only [List.map_cons,List.map_nil,K15,Qel,share,Qfh,Q02]) (Kp6 _ _ e7)) K8q (xL e9) (xL f1) (cq (Kof _ _ f3) K8i tv))) (Qdf.view (fun a w hv => SRx.renL [] (SRx.frzC 13 (xs := List.map I f2) (xs' := List.map I f2) hv (by kernel_rfl) (Qel _)) (by kernel_rfl) (by kernel_rfl) (by kernel_rfl)))
      refine K9l hc 2 [(4,sL needs4),(5,sL used5),(6,.ra 1 0),(7,.ra 2 0),(9,.ra 3 0),(13,.fn 243 [.ra 2 0]),(20,I t3.fOp),(114,.bool (t3.fOp == 5))] ?_
      obtain ⟨fl,f4,h⟩ := Qdt h
      refine flw (Kq4 c p0 out1 ctx2 t3 needs4 used5 fl) ?_ (fun hF => ?_)
      ·replace h := f4
       refine ic h (fun f5 h => ?_) fun f5 h => ?_
       ·refine sN ?_
        obtain ⟨f6,f7,f8,f9,h⟩ := bq2 h
        refine rss hc Kqa [oN,oN,eL (sI f6),oN,oN,oN,oc (.bool f8),oN] [(4,sL needs4),(6,.ra 1 0),(7,.ra 2 0),(9,.ra 3 0),(13,.fn 243 [.ra 2 0]),(123,.bool (!f8))] (ai (xL f7) (cq (Kpm _ _ f9) K8y tv)) ?_
        rcases is h with ⟨g0,h⟩ | ⟨g0,h⟩
        ·refine cF (!f8) (nF g0) (sk (vz 2002 (Qel out1.fneeds) [(4,sL needs4),(6,.ra 1 0),(7,.ra 2 0),(9,.ra 3 0),(13,.fn 243 [.ra 2 0]),(123,.bool (!f8))] [(1,K2a p0),(2,.box [.ra 2000 0]),(3,K1y t3),(2000,K27 out1)] ?_))
         obtain ⟨g1,g2,g3,g4,g5,g6,g7,g8,h⟩ := bq4 h
         obtain ⟨g9,i0,h⟩ := Qdt h
         obtain rfl := os h
         exact rg hc Kqb ([oN,oN,oN,eL (sI g1)]++nN 5 ([eL (sI g3),oN,some (.call (oI g5) [] 14),oN,eL (sI g7),oN,some (.call (oI g9) [] 15)]++nN 6 [])) [(7,.ra 2 0)] [(2,.box [.ra 2000 0]),(15,rI g9),(2000,.box [sI g1,.rs 15,sM K07 out1.fkids,I out1.ffault,sI out1.fpath])] (ac (Koi _ _ g2) K8k (xL g4) (cq (Kpt _ _ g6) K90 (ad (xL g8) (Q75.args (A1 := [K2b p0,.sl (Q02 (List.map I g5)),sI g7]) (A2 := [K2b p0,sI g5,sI g7]) (by simp only [List.map_nil,Qel]) (Kof _ _ i0)) K8i (Or.inr (Qet Qep g9) : ([14] : List Nat) = [] ∨ noSh (oI g9) = true) tv))) (Qdf.view (fun a w hv => SRx.renL [] (SRx.frzC 15 (xs := List.map I g9) (xs' := List.map I g9) hv (by kernel_rfl) (Qel _)) (by kernel_rfl) (by kernel_rfl) (by kernel_rfl)))
        refine cT (!f8) (nT g0) (rs0 hc 1 [(12,I 9)] [(2000,.box [sI out1.fty,.rs 2002,sM K07 out1.fkids,I out1.ffault,sI out1.fpath]),(2002,rI out1.fneeds)] (vz 2002 (Qel out1.fneeds) [(12,I 9)] [(2000,K27 out1)] ?_))
        obtain rfl := os h
        exact rt (rp [true])
       refine K9l hc 2 [(4,sL needs4),(5,sL used5),(6,.ra 1 0),(7,.ra 2 0),(9,.ra 3 0),(13,.fn 243 [.ra 2 0]),(20,I t3.fOp),(144,.bool (t3.fOp == 6))] ?_
       obtain ⟨fl,i1,h⟩ := Qdt h
       refine flw (Kq3 c p0 out1 ctx2 t3 needs4 used5 fl) ?_ (fun hF => ?_)
       ·replace h := i1
        refine ic h (fun i2 h => ?_) fun i2 h => ?_
        ·refine vz 2002 (Qel out1.fneeds) [(4,sL needs4),(5,sL used5),(6,.ra 1 0),(7,.ra 2 0),(9,.ra 3 0),(13,.fn 243 [.ra 2 0]),(20,I t3.fOp),(144,.bool (t3.fOp == 6))] [(1,K2a p0),(2,.box [.ra 2000 0]),(3,K1y t3),(2000,K27 out1)] ?_
         obtain ⟨i3,i4,i5,i6,i7,i8,h⟩ := bq3 h
         obtain rfl := os h
         exact rj hc Kqc ([oN,oN,mK 17,oN,eL (sI i3),oN,oN,mK 18,some (.call (sI i5) [.tup []] 1),oN,eL (sI i7)]++nN 7 []) (ad (Koi _ _ i4) K8k (Q75.args (A1 := [.sl (Q02 [AV.osl (List.map I [2]),sI i3,sI t3.fType])]) (A2 := [.sl (List.map K14 [[2],i3,t3.fType])]) (by simp only [List.map_cons,List.map_nil,K15,Qel,share,Qfh,Q02]) (Kp6 _ _ i6)) K8q (ai (xL i8) tv))
        refine K9l hc 2 [(4,sL needs4),(5,sL used5),(6,.ra 1 0),(7,.ra 2 0),(9,.ra 3 0),(13,.fn 243 [.ra 2 0]),(20,I t3.fOp),(162,.bool (t3.fOp == 7))] ?_
        obtain ⟨fl,i9,h⟩ := Qdt h
        refine flw (Kq2 c p0 out1 ctx2 t3 needs4 used5 fl) ?_ (fun hF => ?_)
        ·replace h := i9
         refine ic h (fun j0 h => ?_) fun j0 h => ?_
         ·refine vz 2002 (Qel out1.fneeds) [(4,sL needs4),(5,sL used5),(6,.ra 1 0),(7,.ra 2 0),(9,.ra 3 0),(13,.fn 243 [.ra 2 0]),(20,I t3.fOp),(162,.bool (t3.fOp == 7))] [(1,K2a p0),(2,.box [.ra 2000 0]),(3,K1y t3),(2000,K27 out1)] ?_
          obtain ⟨j8,j9,k0,k1,k2,k3,h⟩ := bq3 h
          obtain rfl := os h
          exact rj hc Kqc ([oN,oN,mK 20,oN,oN,oN,eL (sI j8),mK 21,some (.call (sI k0) [.tup []] 1),oN,eL (sI k2)]++nN 7 []) (ad (Koi _ _ j9) K8k (Q75.args (A1 := [.sl (Q02 [AV.osl (List.map I [2]),sI t3.fType,sI j8])]) (A2 := [.sl (List.map K14 [[2],t3.fType,j8])]) (by simp only [List.map_cons,List.map_nil,K15,Qel,share,Qfh,Q02]) (Kp6 _ _ k1)) K8q (ai (xL k3) tv))
         refine K9l hc 2 [(4,sL needs4),(5,sL used5),(6,.ra 1 0),(7,.ra 2 0),(9,.ra 3 0),(13,.fn 243 [.ra 2 0]),(20,I t3.fOp),(180,.bool (t3.fOp == 8))] ?_
         obtain ⟨fl,k4,h⟩ := Qdt h
         refine flw (Kq1 c p0 out1 ctx2 t3 needs4 used5 fl) ?_ (fun hF => ?_)
         ·replace h := k4
          refine ic h (fun k5 h => ?_) fun k5 h => ?_
          ·refine sN (sN (vz 2002 (Qel out1.fneeds) [(4,sL needs4),(5,sL used5),(6,.ra 1 0),(7,.ra 2 0),(9,.ra 3 0),(13,.fn 243 [.ra 2 0]),(20,I t3.fOp),(180,.bool (t3.fOp == 8))] [(1,K2a p0),(2,.box [.ra 2000 0]),(3,K1y t3),(2000,K27 out1)] ?_))
           obtain ⟨k6,k7,k8,k9,l0,l1,h⟩ := bq3 h
           refine K9j hc none [oN,eL (sI k6),oN,eL (sI k8),oc (.bool l0),oN] [20,180] [(187,.bool (!l0))] (ad (Koi _ _ k7) K8k (Koi _ _ k9) K8k (cq (Ko2 _ _ l1) K8d tv)) ?_
           rcases is h with ⟨l2,h⟩ | ⟨l2,h⟩
           ·refine cF (!l0) (nF l2) (sk (sN (sN ?_)))
            obtain ⟨l3,l4,h⟩ := Qdt h
            refine wi [187,5] [(205,.bool l3)] ?_ ?_
            ·replace h := l4
             obtain ⟨l5,l6,l7,l8,h⟩ := bq2 h
             rcases is h with ⟨l9,h⟩ | ⟨l9,h⟩
             ·obtain ⟨m0,m1,m2,m3,h⟩ := bq2 h
              obtain rfl := os h
              exact rj hc Kqd ([oN,oN,eL (sI l5),oN,oN,oN,oc (.bool l7)]++nN 4 [eL (sI m0),oN,oN,oN,oc (.bool m2),oN,oF]) (ai (xL l6) (cq (Kpm _ _ l8) K8y (ar 3 (nF l9) (ai (xL m1) (ar 4 (nF l9) (cq (Kpm _ _ m3) K8y (ar 2 (nF l9) tv)))))))
             obtain rfl := os h
             exact rj hc Kqd ([oN,oN,eL (sI l5),oN,oN,oN,oc (.bool l7),oN,oN]++n_ 8 [oT]) (ai (xL l6) (cq (Kpm _ _ l8) K8y (ar 8 (neF (nT l9)) (ai (nT l9) tv))))
            clear l4
            refine ic h (fun m4 h => ?_) fun m4 h => ?_
            ·obtain rfl := os h
             exact rs0 hc 1 [(12,I 9)] [(2000,K27 out1)] (rt (rp [true]))
            refine sk ?_
            obtain ⟨m5,m6,m7,m8,m9,n0,n1,n2,h⟩ := bq4 h
            obtain ⟨n3,n4,n5,n6,n7,n8,h⟩ := bq3 h
            obtain rfl := os h
            exact rg hc (rx [[0],[0],[0],[0,2],[0],[0],[0],[0,6],[0],[0,8],[0,8,9],[0,2,3,5,6,7,8,9,10],[0],[0],[0,13],[0,13,14],[0],[0,16],[0,16,17],[0,2,3,5,6,7,8,9,10,11,12,13,14,15,16,17,18],[0,2,3,4,5,6,7,8,9,10,11,12,13,14,15,16,17,18,19],[1,2,3,4,5,6,7,8,9,10,11,12,13,14,15,16,17,18,19,20],[1,2,3,4,5,6,7,8,9,10,11,12,13,14,15,16,17,18,19,20,21],[1,2,3,4,5,6,7,8,9,10,11,12,13,14,15,16,17,18,19,20,21,22],[24],[25],[26]]) ([oN,oN,oN,eL (sI m5)]++nN 5 ([eL (sI m7),oN,some (.call (oI m9) [] 22),oN,oN,eL (sI n1),oN,oN,eL (sI n3),oN,some (.call (oI n5) [] 23),some (.call (oI n7) [] 24)]++nN 6 [])) [(7,.ra 2 0)] [(2,.box [.ra 2000 0]),(24,rI n7),(2000,.box [sI m5,.rs 24,sM K07 out1.fkids,I out1.ffault,sI out1.fpath])] (ac (Koi _ _ m6) K8k (xL m8) (cq (Kpt _ _ n0) K90 (ab (xL n2) (xL n4) (cq (Kos _ _ n6) K8m (ac (Q75.args (A1 := [K2b p0,.sl (Q02 (List.map I m9)),.sl (Q02 (List.map I n5))]) (A2 := [K2b p0,sI m9,sI n5]) (by simp only [List.map_nil,Qel]) (Kof _ _ n8)) K8i (Or.inr (Qet Qep n7) : ([22,23] : List Nat) = [] ∨ noSh (oI n7) = true) tv))))) (Qdf.view (fun a w hv => SRx.renL [] (SRx.frzC 24 (xs := List.map I n7) (xs' := List.map I n7) hv (by kernel_rfl) (Qel _)) (by kernel_rfl) (by kernel_rfl) (by kernel_rfl)))
           refine cT (!l0) (nT l2) ?_
           obtain rfl := os h
           exact rs0 hc 1 [(12,I 3)] [(2000,K27 out1)] (rt (rp [true]))
          refine K9l hc 2 [(4,sL needs4),(5,sL used5),(6,.ra 1 0),(7,.ra 2 0),(9,.ra 3 0),(13,.fn 243 [.ra 2 0]),(20,I t3.fOp),(231,.bool (t3.fOp == 9))] ?_
          obtain ⟨fl,n9,h⟩ := Qdt h
          refine flw (Kq0 c p0 out1 ctx2 t3 needs4 used5 fl) ?_ (fun hF => ?_)
          ·replace h := n9
           refine ic h (fun o0 h => ?_) fun o0 h => ?_
           ·refine sN ?_
            obtain ⟨o1,o2,o3,o4,h⟩ := bq2 h
            refine rs hc Kqa [oN,oN,eL (sI o1),oN,oN,oN,oc (.bool o3),oN] [(4,sL needs4),(7,.ra 2 0),(9,.ra 3 0),(13,.fn 243 [.ra 2 0]),(240,.bool (!o3))] [(2,.box [.ra 2000 0]),(3,K1y t3),(2000,.box [sI out1.fty,.rs 2002,sM K07 out1.fkids,I out1.ffault,sI out1.fpath]),(2002,rI out1.fneeds)] (ai (xL o2) (cq (Kpm _ _ o4) K8y tv)) ?_
            rcases is h with ⟨o5,h⟩ | ⟨o5,h⟩
            ·refine cF (!o3) (nF o5) (sk (vz 2002 (Qel out1.fneeds) [(4,sL needs4),(7,.ra 2 0),(9,.ra 3 0),(13,.fn 243 [.ra 2 0]),(240,.bool (!o3))] [(2,.box [.ra 2000 0]),(3,K1y t3),(2000,K27 out1)] ?_))
             obtain ⟨o6,o7,o8,o9,p1,p2,h⟩ := bq3 h
             obtain rfl := os h
             exact rj hc (rx [[0],[0],[0],[0,2],[0,2,3],[0,2,3,4],[0],[0,6],[0],[0,8],[0,2,3,4,5,6,7,8,9],[0,2,3,4,5,6,7,8,9,10],[0],[0,12],[0,12,13],[1,2,3,4,5,6,7,8,9,10,11,12,13,14],[1,2,3,4,5,6,7,8,9,10,11,12,13,14,15],[1,2,3,4,5,6,7,8,9,10,11,12,13,14,15,16],[18],[19],[20]]) (nN 5 ([mK 26,oN,oN,oN,eL (sI o6),mK 27,some (.call (sI o8) [.tup []] 1),oN,eL (sI p1)]++nN 7 [])) (ad (Koi _ _ o7) K8k (Q75.args (A1 := [.sl (Q02 [AV.osl (List.map I [(wr (3 + t3.fN))]),sI t3.fType,sI o6])]) (A2 := [.sl (List.map K14 [[(wr (3 + t3.fN))],t3.fType,o6])]) (by simp only [List.map_cons,List.map_nil,K15,Qel,share,Qfh,Q02]) (Kp6 _ _ o9)) K8q (ai (xL p2) tv))
            refine cT (!o3) (nT o5) (rs0 hc 1 [(12,I 9)] [(2000,.box [sI out1.fty,.rs 2002,sM K07 out1.fkids,I out1.ffault,sI out1.fpath]),(2002,rI out1.fneeds)] (vz 2002 (Qel out1.fneeds) [(12,I 9)] [(2000,K27 out1)] ?_))
            obtain rfl := os h
            exact rt (rp [true])
           refine K9l hc 2 [(4,sL needs4),(5,sL used5),(6,.ra 1 0),(7,.ra 2 0),(9,.ra 3 0),(13,.fn 243 [.ra 2 0]),(20,I t3.fOp),(260,.bool (t3.fOp == 10))] ?_
           obtain ⟨fl,p3,h⟩ := Qdt h
           refine flw (Kpz c p0 out1 ctx2 t3 needs4 used5 fl) ?_ (fun hF => ?_)
           ·replace h := p3
            refine ic h (fun p4 h => ?_) fun p4 h => ?_
            ·refine sN (vz 2002 (Qel out1.fneeds) [(4,sL needs4),(5,sL used5),(6,.ra 1 0),(7,.ra 2 0),(9,.ra 3 0),(13,.fn 243 [.ra 2 0]),(20,I t3.fOp),(260,.bool (t3.fOp == 10))] [(1,K2a p0),(2,.box [.ra 2000 0]),(3,K1y t3),(2000,K27 out1)] ?_)
             obtain ⟨p5,p6,p7,p8,⟨p9,q0⟩,q1,h⟩ := bq3 h
             refine rgd hc none ([oN,eL (sI p5),eL (I p7),oN,oc (.tup [I p9,I q0])]++nN 5 []) [5,9,20,260] [(15,I q0)] [(1,K2a p0),(2,.box [.ra 2000 0]),(2000,K27 out1)] (ac (Koi _ _ p6) K8k (ix p8) (cq (Klq _ _ q1) K7c tv)) ?_
             obtain ⟨q2,q3,q4,q5,q6,q7,q8,q9,h⟩ := bq4 h
             obtain ⟨r0,r1,r2,r3,r4,r5,h⟩ := bq3 h
             obtain rfl := os h
             exact rj hc (rx [[0],[0],[0],[0,2],[0,2,3],[0,2,3,4],[0,2,3,4,5],[0],[0],[0,8],[0,8,9],[0],[0],[0],[0,13],[0,13,14],[0,2,3,4,11,12,13,14,15],[0,2,3,4,7,8,9,10,11,12,13,14,15,16],[1,2,3,4,5,6,7,8,9,10,11,12,13,14,15,16,17],[1,2,3,4,5,6,7,8,9,10,11,12,13,14,15,16,17,18],[1,2,3,4,5,6,7,8,9,10,11,12,13,14,15,16,17,18,19],[21],[22],[23]]) ([oN,oN,oN,eL (sI q2),some (.call (.osl (List.map K14 q4)) [] 28),oN,eL (sI q6),oN,oN,eL (sI q8)]++nN 4 ([eL (sI r0),oN,some (.call (oI r2) [] 29),some (.call (oI r4) [] 30)]++nN 6 [])) (ab (Koi _ _ q3) K8k (cq (Kna _ _ q5) K81 (ad (Qdy (enc := K14) q7) (xL q7).2 (xL q9) (xL r1) (cq (Kpt _ _ r3) K90 (ac (Q75.args (A1 := [K2b p0,sI q8,.sl (Q02 (List.map I r2))]) (A2 := [K2b p0,sI q8,sI r2]) (by simp only [List.map_nil,Qel]) (Kof _ _ r5)) K8i (Or.inr (Qet Qep r4) : ([29] : List Nat) = [] ∨ noSh (oI r4) = true) tv)))))
            refine K9l hc 2 [(4,sL needs4),(5,sL used5),(6,.ra 1 0),(7,.ra 2 0),(9,.ra 3 0),(13,.fn 243 [.ra 2 0]),(20,I t3.fOp),(292,.bool (t3.fOp == 11))] ?_
            obtain ⟨fl,r6,h⟩ := Qdt h
            refine flw (Kpy c p0 out1 ctx2 t3 needs4 used5 fl) ?_ (fun hF => ?_)
            ·replace h := r6
             refine ic h (fun r7 h => ?_) fun r7 h => ?_
             ·refine vz 2002 (Qel out1.fneeds) [(4,sL needs4),(5,sL used5),(6,.ra 1 0),(7,.ra 2 0),(9,.ra 3 0),(13,.fn 243 [.ra 2 0]),(20,I t3.fOp),(292,.bool (t3.fOp == 11))] [(1,K2a p0),(2,.box [.ra 2000 0]),(3,K1y t3),(2000,K27 out1)] ?_
              obtain ⟨r8,r9,s0,s1,s2,s3,s4,s5,h⟩ := bq4 h
              obtain rfl := os h
              exact rj hc (rx [[0],[0],[0],[0,2],[0,2,3],[0,2,3,4],[0],[0,6],[0,2,3,4,5,6,7],[0,2,3,4,5,6,7,8],[0],[0],[0,11],[0],[0,13],[0,13,14],[0,2,3,4,5,6,7,8,9,10,11,12,13,14,15],[1,2,3,4,5,6,7,8,9,10,11,12,13,14,15,16],[1,2,3,4,5,6,7,8,9,10,11,12,13,14,15,16,17],[1,2,3,4,5,6,7,8,9,10,11,12,13,14,15,16,17,18],[20],[21],[22]]) (nN 5 ([mK 32,oN,eL (sI r8),mK 33,some (.call (sI s0) [.tup []] 1)]++nN 4 ([eL (sI s2),oN,some (.call (oI s4) [] 34)]++nN 6 []))) (ad (Koi _ _ r9) K8k (Q75.args (A1 := [.sl (Q02 [AV.osl (List.map I [(wr (19 + t3.fN))]),sI r8])]) (A2 := [.sl (List.map K14 [[(wr (19 + t3.fN))],r8])]) (by simp only [List.map_cons,List.map_nil,K15,Qel,share,Qfh,Q02]) (Kp6 _ _ s1)) K8q (ai (xL s3) (cq (Kpt _ _ s5) K90 tv)))
             refine K9l hc 2 [(4,sL needs4),(5,sL used5),(6,.ra 1 0),(7,.ra 2 0),(9,.ra 3 0),(13,.fn 243 [.ra 2 0]),(315,.bool (t3.fOp == 12))] ?_
             obtain ⟨fl,s6,h⟩ := Qdt h
             refine flw (Kpx c p0 out1 ctx2 t3 needs4 used5 fl) ?_ (fun hF => ?_)
             ·replace h := s6
              refine ic h (fun s7 h => ?_) fun s7 h => ?_
              ·refine sN (vz 2002 (Qel out1.fneeds) [(4,sL needs4),(5,sL used5),(6,.ra 1 0),(7,.ra 2 0),(9,.ra 3 0),(13,.fn 243 [.ra 2 0]),(315,.bool (t3.fOp == 12))] [(1,K2a p0),(2,.box [.ra 2000 0]),(3,K1y t3),(2000,K27 out1)] ?_)
               obtain ⟨s8,s9,t0,t1,⟨t2,t4⟩,t5,h⟩ := bq3 h
               refine K9j hc none ([oN,eL (sI s8),eL (I t0),oN,oc (.tup [I t2,I t4])]++nN 5 []) [315] [(17,I t4)] (ac (Koi _ _ s9) K8k (ix t1) (cq (Klq _ _ t5) K7c tv)) (sN ?_)
               obtain ⟨t6,t7,t8,t9,u0,u1,h⟩ := bq3 h
               refine K9n hc (rx [[0],[0],[0,1],[0,1,2],[0],[0,4],[0],[0,6],[0],[0,4,5,6,7,8],[10],[11]]) ([oN,oN,eL (sI t6)]++nN 6 [oc (I t8),oc (.bool u0),oN]) [17,5] [(336,.bool (!u0))] (ai (xL t7) (cq (Kkh _ _ t9) K74 (cq (Kpm _ _ u1) K8y tv))) ?_
               rcases is h with ⟨u2,h⟩ | ⟨u2,h⟩
               ·refine cF (!u0) (nF u2) (sk ?_)
                obtain ⟨u3,u4,u5,u6,u7,u8,u9,v0,h⟩ := bq4 h
                obtain ⟨v1,v2,h⟩ := Qdt h
                obtain rfl := os h
                exact rj hc Kqb ([oN,oN,oN,eL (sI u3)]++nN 5 ([eL (sI u5),oN,some (.call (oI u7) [] 35),oN,eL (sI u9),oN,some (.call (oI v1) [] 36)]++nN 6 [])) (ac (Koi _ _ u4) K8k (xL u6) (cq (Kpt _ _ u8) K90 (ad (xL v0) (Q75.args (A1 := [K2b p0,.sl (Q02 (List.map I u7)),sI u9]) (A2 := [K2b p0,sI u7,sI u9]) (by simp only [List.map_nil,Qel]) (Kof _ _ v2)) K8i (Or.inr (Qet Qep v1) : ([35] : List Nat) = [] ∨ noSh (oI v1) = true) tv)))
               refine cT (!u0) (nT u2) ?_
               obtain rfl := os h
               exact rs0 hc 1 [(12,I 9)] [(2000,K27 out1)] (rt (rp [true]))
              obtain rfl := os h
              exact sk (iv [(36,2002)])
             rcases fl with ⟨v3,v4⟩ | r
             ·refine wf hF ?_
              obtain rfl := os h
              exact iv [(34,36)]
             refine Wp.mono hF ?_
             rintro _ _ ⟨rfl,hfin⟩
             obtain rfl := os h
             exact ⟨rfl,hfin⟩
            rcases fl with ⟨v5,v6⟩ | r
            ·refine wf hF ?_
             obtain rfl := os h
             exact iv [(30,34)]
            refine Wp.mono hF ?_
            rintro _ _ ⟨rfl,hfin⟩
            obtain rfl := os h
            exact ⟨rfl,hfin⟩
           rcases fl with ⟨v7,v8⟩ | r
           ·refine wf hF ?_
            obtain rfl := os h
            exact Qdf.view (fun a w hv => SRx.renL [] (SRx.frzC 30 (xs := List.map I v8) (xs' := List.map I v8) hv (by kernel_rfl) (Qel _)) (by kernel_rfl) (by kernel_rfl) (by kernel_rfl))
           refine Wp.mono hF ?_
           rintro _ _ ⟨rfl,hfin⟩
           obtain rfl := os h
           exact ⟨rfl,hfin⟩
          rcases fl with ⟨v9,w0⟩ | r
          ·refine wf hF ?_
           obtain rfl := os h
           exact im
          refine Wp.mono hF ?_
          rintro _ _ ⟨rfl,hfin⟩
          obtain rfl := os h
          exact ⟨rfl,hfin⟩
         rcases fl with ⟨w1,w2⟩ | r
         ·refine wf hF ?_
          obtain rfl := os h
          exact im
         refine Wp.mono hF ?_
         rintro _ _ ⟨rfl,hfin⟩
         obtain rfl := os h
         exact ⟨rfl,hfin⟩
        rcases fl with ⟨w3,w4⟩ | r
        ·refine wf hF ?_
         obtain rfl := os h
         exact im
        refine Wp.mono hF ?_
        rintro _ _ ⟨rfl,hfin⟩
        obtain rfl := os h
        exact ⟨rfl,hfin⟩
       rcases fl with ⟨w5,w6⟩ | r
       ·refine wf hF ?_
        obtain rfl := os h
        exact im
       refine Wp.mono hF ?_
       rintro _ _ ⟨rfl,hfin⟩
       obtain rfl := os h
       exact ⟨rfl,hfin⟩
      rcases fl with ⟨w7,w8⟩ | r
      ·refine wf hF ?_
       obtain rfl := os h
       exact im
      refine Wp.mono hF ?_
      rintro _ _ ⟨rfl,hfin⟩
      obtain rfl := os h
      exact ⟨rfl,hfin⟩
     rcases fl with ⟨w9,x0⟩ | r
     ·refine wf hF ?_
      obtain rfl := os h
      exact im
     refine Wp.mono hF ?_
     rintro _ _ ⟨rfl,hfin⟩
     obtain rfl := os h
     exact ⟨rfl,hfin⟩
    rcases fl with ⟨x1,x2⟩ | r
    ·refine wf hF ?_
     obtain rfl := os h
     exact im
    refine Wp.mono hF ?_
    rintro _ _ ⟨rfl,hfin⟩
    obtain rfl := os h
    exact ⟨rfl,hfin⟩
   rcases fl with ⟨x3,x4⟩ | r
   ·refine wf hF ?_
    obtain rfl := os h
    exact im
   refine Wp.mono hF ?_
   rintro _ _ ⟨rfl,hfin⟩
   obtain rfl := os h
   exact ⟨rfl,hfin⟩
  rcases fl with ⟨x5,x6⟩ | r
  ·refine wf hF ?_
   obtain rfl := os h
   exact im
  refine Wp.mono hF ?_
  rintro _ _ ⟨rfl,hfin⟩
  obtain rfl := os h
  exact ⟨rfl,hfin⟩
 rcases fl with ⟨x7,x8⟩ | r
 ·refine wf hF (sN ?_)
  obtain ⟨x9,y0,h⟩ := Qdt h
  refine rs hc none (nN 4 [oc (.bool x9)]) [(361,.bool x9)] [(2000,.box [sI x7,sI x8,sM K07 out1.fkids,I out1.ffault,sI out1.fpath])] (cq (Kpw _ _ y0) K92 tv) (ic h (fun y1 h => ?_) fun y1 h => ?_)
  ·obtain rfl := os h
   exact K9l hc 1 [(12,I 3)] (rt (rr [true]))
  obtain rfl := os h
  exact sk (K9l hc 1 [(12,I 0)] (rt (rr [true])))
 refine Wp.mono hF ?_
 rintro _ _ ⟨rfl,hfin⟩
 obtain rfl := os h
 exact ⟨.inl rfl,hfin⟩
def Kqh (c : Ctx) (p0 : K06) (ctx1 : LL) (t2 : K01) : ((List K04) × LL × LL) ⊕ (K04) → Exit → Q0a → Prop
 | .inl (a0,a1,a2) => Qdf c (.exit 0) (mkS [(1,sL ctx1),(3,.ra 1 0),(5,.ra 2 0),(7,.ra 4 0),(8,.rs 21),(9,.rs 22)] [(1,K2a p0),(2,K1y t2),(3,.arr (List.map I (List.replicate (Int.toNat (ctx1.length : Int)) 0))),(4,.box [.nils,.rs 3,.rs 20,I 0,.nils]),(20,rM K07 a0),(21,rM K14 a1),(22,rM K14 a2)])
 | .inr r => Qdo TIx Tryz.f173 [] (.ptr [sI r.fty,sI r.fneeds,sM K07 r.fkids,I r.ffault,sI r.fpath] 0)
def Kqi : Option (List (List Nat)) := rx [[0],[1],[2],[3],[4],[5],[6],[7],[8],[9],[10],[11],[8],[8,12],[8,12,13],[8,12,13,14],[8,12,13,14,15],[8,12,13,14,15,16],[8,12,13,14,15,16,17],[8,12,13,14,15,16,17,18],[8,12,13,14,15,16,17,18,19],[8,12,13,14,15,16,17,18,19,20],[8,12,13,14,15,16,17,18,19,20,21],[8,12,13,14,15,16,17,18,19,20,21,22],[24],[25],[26]]
mutual
def Kqj (p : K06 × LL × K01) : Option (K04) :=
 match p with
 | (p0,ctx1,t2) =>
  (chk (0 ≤ (ctx1.length : Int) ∧ (Int.toNat (ctx1.length : Int)) * 8 ≤ 140737488355328)) >>= fun _ =>
  (Kqk (p0,ctx1,t2,[],[],[],0)) >>= fun fl => match fl with
  | .inl (a0,a1,a2) =>
   (Kqe (p0,(K04.mk [] (List.replicate (Int.toNat (ctx1.length : Int)) 0) a0 0 []),ctx1,t2,a1,a2)) >>= fun (a3,a4) =>
   if (a3 != 0) = true then
   some (K04.mk [] [] [] a3 [])
   else
   some (K04.mk a4.fty a4.fneeds a4.fkids a3 a4.fpath)
  | .inr r =>
   some r
 partial_fixpoint
def Kqk (p : K06 × LL × K01 × (List K04) × LL × LL × Int) : Option (((List K04) × LL × LL) ⊕ (K04)) :=
 match p with
 | (p0,ctx1,t2,a0,a1,a2,a3) =>
  if (decide (a3 < (t2.fKids.length : Int))) = true then
  (idx t2.fKids a3) >>= fun a4 =>
  ((
  if (decide (a3 > 0)) = true then
  some (true)
  else
  some ((t2.fOp == 9))
  ) : Option (Bool)) >>= fun a5 =>
  ((
  if a5 = true then
  ((
  if (decide (a3 > 0)) = true then
  (idx a0 0) >>= fun a6 =>
  some (a6.fty)
  else
  some ([])
  ) : Option ((List Int))) >>= fun a7 =>
  (Knb (t2,a3,a7)) >>= fun a8 =>
  some (a8)
  else
  some ([])
  ) : Option (LL)) >>= fun a9 =>
  (Knp [a9,ctx1]) >>= fun b1 =>
  (Kqj (p0,b1,a4)) >>= fun b2 =>
  if (b2.ffault != 0) = true then
  (Qe6 ([a3].length + b2.fpath.length) 8) >>= fun _ =>
  some (.inr (K04.mk [] [] [] b2.ffault ([a3] ++ b2.fpath)))
  else
  (Knt (p0,t2,a3,b2.fty)) >>= fun b3 =>
  if (b3 != 0) = true then
  some (.inr (K04.mk [] [] [] b3 []))
  else
  ((
  if (t2.fOp == 10) = true then
  if (a3 == 1) = true then
  (idx a0 0) >>= fun b4 =>
  (Kn8 b4.fty) >>= fun b5 =>
  (idx b5 0) >>= fun b6 =>
  (Ko0 (b2.fty,b6)) >>= fun b7 =>
  some ((!b7))
  else
  some (false)
  else
  some (false)
  ) : Option (Bool)) >>= fun b8 =>
  if b8 = true then
  some (.inr (K04.mk [] [] [] 3 []))
  else
  (Qe6 (a0.length + [b2].length) 8) >>= fun _ =>
  (cut b2.fneeds none (some (a9.length : Int)) none) >>= fun b9 =>
  (Qe6 (a2.length + [b9].length) 24) >>= fun _ =>
  (cut b2.fneeds (some (a9.length : Int)) none none) >>= fun c0 =>
  (Qe6 (a1.length + [c0].length) 24) >>= fun _ =>
  Kqk (p0,ctx1,t2,(a0 ++ [b2]),(a1 ++ [c0]),(a2 ++ [b9]),(wr (a3 + 1)))
  else
  some (.inl (a0,a1,a2))
 partial_fixpoint
end
def Kql (p : K06 × LL × K01) (r : K04) : Prop :=
 match p with
 | (p0,ctx1,t2) => Q75 Tryz.prog 173 [K2b p0,sL ctx1,K1z t2] (.ptr [sI r.fty,sI r.fneeds,sM K07 r.fkids,I r.ffault,sI r.fpath] 0) []
def Kqm (p : K06 × LL × K01 × (List K04) × LL × LL × Int) (fl : ((List K04) × LL × LL) ⊕ (K04)) : Prop :=
 match p with
 | (p0,ctx1,t2,a0,a1,a2,a3) => ∀ c : Ctx,c.nt = 171 → WpL Tryz.prog c (cl (cl (cr (cl (cr (cr (cr (cr K88)))))))) (Kqh c p0 ctx1 t2 fl) (mkS [(1,sL ctx1),(3,.ra 1 0),(5,.ra 2 0),(7,.ra 4 0),(8,.rs 21),(9,.rs 22),(22,sM K0h t2.fKids),(23,I (t2.fKids.length : Int)),(24,I a3)] [(1,K2a p0),(2,K1y t2),(3,.arr (List.map I (List.replicate (Int.toNat (ctx1.length : Int)) 0))),(4,.box [.nils,.rs 3,.rs 20,I 0,.nils]),(20,rM K07 a0),(21,rM K14 a1),(22,rM K14 a2)])
theorem Kqn : (∀ p r,Kqj p = some r → Kql p r) ∧ (∀ p r,Kqk p = some r → Kqm p r) := by
 refine Kqj.mutual_partial_correctness Kql Kqm ?_ ?_
 ·rintro impl_typertyp_l0_f impl_typertyp_l0_ih ⟨p0,ctx1,t2⟩ r h
  refine b0 Tryz.f173 K88 171 [(0,K2b p0),(1,sL ctx1),(2,K1z t2)] fun c hc => (rsd hc none [nW 1,nW 2,oN] [0,2] [(3,.ra 1 0),(5,.ra 2 0)] [(1,K2a p0),(2,K1y t2)] tv ?_)
  obtain ⟨_,a0,h⟩ := Qdt h
  refine rsd hc none [oN,nQ ⟨[(17,I (ctx1.length : Int))],[],[]⟩,some (.eqv (.mk 3 true) ⟨[(18,.rs 3)],[(3,some (.arr (List.map I (List.replicate (Int.toNat (ctx1.length : Int)) 0))))],[3]⟩),oN,nW 4,oN] [] [(7,.ra 4 0)] [(1,K2a p0),(2,K1y t2),(3,.arr (List.map I (List.replicate (Int.toNat (ctx1.length : Int)) 0))),(4,.box [.nils,.rs 3,.nils,I 0,.nils])] (ac (Qdz (d := 17) K14 ctx1) (congrArg (fun z => (⟨[(18,.rs 3)],[(3,some (.arr z))],[3]⟩ : Wr)) (Qey (enc := I) (n := Int.toNat (ctx1.length : Int)) (x := I 0) (Qe8 0))) (And.intro (Eq.refl (ctx1.length : Int)) (Qdv a0)) tv) (K9o hc 1 [] [(8,.nils)] (K9o hc 1 [] [(9,.nils)] (sN (rss hc none [oN,oN,nQ ⟨[(23,I (t2.fKids.length : Int))],[],[]⟩,oN] [(1,sL ctx1),(3,.ra 1 0),(5,.ra 2 0),(7,.ra 4 0),(8,.nils),(9,.nils),(22,sM K0h t2.fKids),(23,I (t2.fKids.length : Int)),(24,I 0)] (ai (Qdz (d := 23) K0h t2.fKids) tv) (bk 0 ?_)))))
  obtain ⟨fl,a1,h⟩ := Qdt h
  have hL := impl_typertyp_l0_ih _ _ a1 c hc
  refine Wp.loopN (by kernel_rfl) (WpL.view (fun a w hv => SRx.renL [(20,57),(21,58),(22,59)] (SRx.nilTL 9 59 (SRx.nilTL 8 58 (SRx.nilBL 4 2 57 [.nils,.rs 3,.nils,I 0,.nils] hv (by kernel_rfl) (by kernel_rfl) (by kernel_rfl)) (by kernel_rfl) (by kernel_rfl)) (by kernel_rfl) (by kernel_rfl)) (by kernel_rfl) (by kernel_rfl) (by kernel_rfl)) (?_ : WpL _ c _ _ (mkS [(1,sL ctx1),(3,.ra 1 0),(5,.ra 2 0),(7,.ra 4 0),(8,.rs 21),(9,.rs 22),(22,sM K0h t2.fKids),(23,I (t2.fKids.length : Int)),(24,I 0)] [(1,K2a p0),(2,K1y t2),(3,.arr (List.map I (List.replicate (Int.toNat (ctx1.length : Int)) 0))),(4,.box [.nils,.rs 3,.rs 20,I 0,.nils]),(20,.arr (List.map K07 [])),(21,.arr (List.map K14 [])),(22,.arr (List.map K14 []))])))
  rcases fl with ⟨a2,a3,a4⟩ | r
  ·refine wl hL (Qd7 (sN (vz 21 (K18 a3) [(1,sL ctx1),(3,.ra 1 0),(5,.ra 2 0),(7,.ra 4 0),(8,sL a3),(9,.rs 22)] [(1,K2a p0),(2,K1y t2),(3,.arr (List.map I (List.replicate (Int.toNat (ctx1.length : Int)) 0))),(4,.box [.nils,.rs 3,.rs 20,I 0,.nils]),(20,rM K07 a2),(22,rM K14 a4)] (vz 22 (K18 a4) [(1,sL ctx1),(3,.ra 1 0),(5,.ra 2 0),(7,.ra 4 0),(8,sL a3),(9,sL a4)] [(1,K2a p0),(2,K1y t2),(3,.arr (List.map I (List.replicate (Int.toNat (ctx1.length : Int)) 0))),(4,.box [.nils,.rs 3,.rs 20,I 0,.nils]),(20,rM K07 a2)] ?_))))
   obtain ⟨⟨a5,a6⟩,a7,h⟩ := Qdt h
   refine rg hc none (nN 7 [some (.call (I a5) [.undef,K29 a6,.undef,.undef,.undef,.undef] 1),oN,oN,oN]) [(7,.ra 4 0)] [(4,.box [sI a6.fty,sI a6.fneeds,sM K07 a6.fkids,I a5,sI a6.fpath])] (ab (Kqg _ _ a7) K94 tv) (sN (K9o hc 5 [] [(163,.bool (a5 != 0))] (ic h (fun a8 h => ?_) fun a8 h => ?_)))
   ·refine rs hc none (nN 5 [nW 60,oN]) [(6,.ra 60 0)] [(60,.box [.nils,.nils,.nils,I a5,.nils])] tv (vb 60 [.nils,.nils,.nils,I a5,.nils] [(6,.ptr [.sl (List.map I []),.sl (List.map I []),.sl (List.map K07 []),I a5,.sl (List.map I [])] 0)] [] ?_)
    obtain rfl := os h
    exact rt (rq [false])
   refine sk (K9l hc 2 [(6,.ra 4 0)] (vb 4 [sI a6.fty,sI a6.fneeds,sM K07 a6.fkids,I a5,sI a6.fpath] [(6,.ptr [sI a6.fty,sI a6.fneeds,sM K07 a6.fkids,I a5,sI a6.fpath] 0)] [] ?_))
   obtain rfl := os h
   exact rt (rq [false])
  refine WpL.mono hL ?_
  rintro _ _ ⟨rfl,hfin⟩
  obtain rfl := os h
  exact ⟨.inl rfl,hfin⟩
 ·rintro impl_typertyp_f impl_typertyp_l0_f impl_typertyp_ih impl_typertyp_l0_ih ⟨p0,ctx1,t2,a9,b1,b2,b3⟩ r h
  intro c hc
  refine WpL.step (K9o hc 1 [] [(25,.bool (decide (b3 < (t2.fKids.length : Int))))] (sN (ic h (fun b4 h => ?_) fun b4 h => ?_)))
  ·refine sk (sN (bk 1 ?_))
   obtain ⟨b5,b6,h⟩ := Qdt h
   refine rsd hc none [oN,eL (K1z b5),oN,nW 40,oN,oN] [25] [(10,I b3),(11,.ra 40 0)] [(1,K2a p0),(2,K1y t2),(3,.arr (List.map I (List.replicate (Int.toNat (ctx1.length : Int)) 0))),(4,.box [.nils,.rs 3,.rs 20,I 0,.nils]),(20,rM K07 a9),(21,rM K14 b1),(22,rM K14 b2),(40,K1y b5)] (ai (Qdx b6 (K0o b5)) tv) (K9o hc 1 [] [(12,.nils)] (sN (sN ?_)))
   obtain ⟨b7,b8,h⟩ := Qdt h
   refine wi [] [(35,.bool b7)] ?_ ?_
   ·replace h := b8
    rcases is h with ⟨b9,h⟩ | ⟨b9,h⟩
    ·obtain rfl := os h
     exact rj hc none [oN,oN,oN,o_,o_,o_,oT] (ar 3 (neF b9) (ai b9 tv))
    obtain rfl := os h
    exact rj hc none (nN 6 [oF]) (ar 4 b9 tv)
   clear b8
   obtain ⟨c0,c1,h⟩ := Qdt h
   refine Wp.into (x := .normal) (mkS [(1,sL ctx1),(3,.ra 1 0),(5,.ra 2 0),(7,.ra 4 0),(8,.rs 21),(9,.rs 22),(10,I b3),(11,.ra 40 0),(12,.rs 41),(22,sM K0h t2.fKids),(23,I (t2.fKids.length : Int)),(24,I b3)] [(1,K2a p0),(2,K1y t2),(3,.arr (List.map I (List.replicate (Int.toNat (ctx1.length : Int)) 0))),(4,.box [.nils,.rs 3,.rs 20,I 0,.nils]),(20,rM K07 a9),(21,rM K14 b1),(22,rM K14 b2),(40,K1y b5),(41,rM K14 c0)]) ?_ ?_
   ·replace h := c1
    refine ic h (fun c2 h => ?_) fun c2 h => ?_
    ·refine K9o hc 1 [35,12] [(13,.nils)] (sN (K9l hc 2 [(1,sL ctx1),(3,.ra 1 0),(5,.ra 2 0),(7,.ra 4 0),(8,.rs 21),(9,.rs 22),(10,I b3),(11,.ra 40 0),(13,.nils),(22,sM K0h t2.fKids),(23,I (t2.fKids.length : Int)),(24,I b3),(37,.bool (decide (b3 > 0)))] ?_))
     obtain ⟨c3,c4,h⟩ := Qdt h
     refine wi [13,37] [(13,sI c3)] ?_ ?_
     ·replace h := c4
      refine ic h (fun c5 h => ?_) fun c5 h => ?_
      ·obtain ⟨c6,c7,h⟩ := Qdt h
       obtain rfl := os h
       exact rj hc none (nN 5 ([eL (.ptr [sI c6.fty,sI c6.fneeds,sM K07 c6.fkids,I c6.ffault,sI c6.fpath] 0)]++nN 4 [])) (ab (Qdy (enc := K07) c7) (Qdx (enc := K07) (x := .ptr [sI c6.fty,sI c6.fneeds,sM K07 c6.fkids,I c6.ffault,sI c6.fpath] 0) c7 (K0a c6)).2 tv)
      obtain rfl := os h
      exact sk (Qdf.view (fun a w hv => SRx.renL [] (SRx.nilSL 13 hv (by kernel_rfl)) (by kernel_rfl) (by kernel_rfl) (by kernel_rfl)))
     clear c4
     obtain ⟨c8,c9,h⟩ := Qdt h
     obtain rfl := os h
     exact rj hc none [oN,oN,oN,some (.call (.osl (List.map K14 c8)) [] 41),oN] (cq (Knd _ _ c9) K83 tv)
    obtain rfl := os h
    exact sk (Qdf.view (fun a w hv => SRx.renL [(41,42)] (SRx.nilTL 12 42 hv (by kernel_rfl) (by kernel_rfl)) (by kernel_rfl) (by kernel_rfl) (by kernel_rfl)))
   clear c1
   refine sN (vz 41 (K18 c0) [(1,sL ctx1),(3,.ra 1 0),(5,.ra 2 0),(7,.ra 4 0),(8,.rs 21),(9,.rs 22),(10,I b3),(11,.ra 40 0),(12,sL c0),(22,sM K0h t2.fKids),(23,I (t2.fKids.length : Int)),(24,I b3)] [(1,K2a p0),(2,K1y t2),(3,.arr (List.map I (List.replicate (Int.toNat (ctx1.length : Int)) 0))),(4,.box [.nils,.rs 3,.rs 20,I 0,.nils]),(20,rM K07 a9),(21,rM K14 b1),(22,rM K14 b2),(40,K1y b5)] ?_)
   obtain ⟨d0,d1,d2,d3,h⟩ := bq2 h
   refine rgd hc (rx [[0],[0],[0],[0,1,2],[0,1,2,3],[0],[6],[7]]) [oN,oN,oN,some (.mk 44 false),some (.call (sL d0) [.tup []] 1),oN,oc (.ptr [sI d2.fty,sI d2.fneeds,sM K07 d2.fkids,I d2.ffault,sI d2.fpath] 0),oN] [11] [(14,.ptr [sI d2.fty,sI d2.fneeds,sM K07 d2.fkids,I d2.ffault,sI d2.fpath] 0)] [(1,K2a p0),(2,K1y t2),(3,.arr (List.map I (List.replicate (Int.toNat (ctx1.length : Int)) 0))),(4,.box [.nils,.rs 3,.rs 20,I 0,.nils]),(20,rM K07 a9),(21,rM K14 b1),(22,rM K14 b2)] (ab (Q75.args (A1 := [.sl (Q02 (List.map K1q [c0,ctx1]))]) (A2 := [.sl (List.map K1q [c0,ctx1])]) (by simp only [List.map_nil,K1u]) (Knr _ _ d1)) K87 (cq (impl_typertyp_ih _ _ d3) K89 tv)) (sN (K9o hc 5 [] [(62,.bool (d2.ffault != 0))] (ic h (fun d4 h => ?_) fun d4 h => ?_)))
   ·obtain ⟨_,d5,h⟩ := Qdt h
    refine rs hc (rx [[0],[1],[2],[3],[0],[0,4],[0],[0,6],[0,6,7],[0,6,7,8],[0,4,5,6,7,8,9],[11],[12],[13]]) (nN 5 ([mK 45]++nN 4 [some (.eqv (.mk 46 true) ⟨[(73,.rs 46)],[(46,some (rI ([b3] ++ d2.fpath))),(45,none)],[46]⟩),oN,nW 47,oN])) [(6,.ra 47 0)] [(46,rI ([b3] ++ d2.fpath)),(47,.box [.nils,.nils,.nils,I d2.ffault,.rs 46])] (ab (congrArg (fun z => (⟨[(73,.rs 46)],[(46,some (.arr z)),(45,none)],[46]⟩ : Wr)) ((List.map_append).symm : (List.map I [b3]) ++ (List.map I d2.fpath) = List.map I ([b3] ++ d2.fpath))) (Qe7 (enc1 := I) (enc2 := I) (e1 := [b3]) (e2 := d2.fpath) (sz := 1) Qeg Qeg d5) tv) (vz 46 (Qel ([b3] ++ d2.fpath)) [(6,.ra 47 0)] [(47,.box [.nils,.nils,.nils,I d2.ffault,sI ([b3] ++ d2.fpath)])] (vb 47 [.nils,.nils,.nils,I d2.ffault,sI ([b3] ++ d2.fpath)] [(6,.ptr [.sl (List.map I []),.sl (List.map I []),.sl (List.map K07 []),I d2.ffault,sI ([b3] ++ d2.fpath)] 0)] [] ?_))
    obtain rfl := os h
    exact rt (re [false])
   refine sk (sN ?_)
   obtain ⟨d6,d7,h⟩ := Qdt h
   refine K9n hc (rx [[0],[0],[0],[0],[0,3],[0,3,4],[0,3,4,5],[7],[8]]) (nN 7 [oc (I d6),oN]) [62] [(15,I d6)] (cq (Knv _ _ d7) K8b tv) (K9o hc 2 [] [(85,.bool (d6 != 0))] (ic h (fun d8 h => ?_) fun d8 h => ?_))
   ·refine rs hc none [oN,oN,nW 48,oN] [(6,.ra 48 0)] [(48,.box [.nils,.nils,.nils,I d6,.nils])] tv (vb 48 [.nils,.nils,.nils,I d6,.nils] [(6,.ptr [.sl (List.map I []),.sl (List.map I []),.sl (List.map K07 []),I d6,.sl (List.map I [])] 0)] [] ?_)
    obtain rfl := os h
    exact rt (re [false])
   refine sk (sN (sN ?_))
   obtain ⟨d9,e0,h⟩ := Qdt h
   refine wi [85,15,10] [(115,.bool d9)] ?_ ?_
   ·replace h := e0
    rcases is h with ⟨e3,h⟩ | ⟨e3,h⟩
    ·rcases is h with ⟨e4,h⟩ | ⟨e4,h⟩
     ·obtain ⟨e5,e6,e7,e8,e9,f0,f1,f2,h⟩ := bq4 h
      obtain rfl := os h
      exact rj hc Kqi (nN 6 ([oT]++nN 10 [eL (.ptr [sI e5.fty,sI e5.fneeds,sM K07 e5.fkids,I e5.ffault,sI e5.fpath] 0),oN,oN,oN,some (.call (.osl (List.map K14 e7)) [] 49),oN,eL (sI e9),oc (.bool f1),oN,oT])) (ar 3 e3 (ar 9 e4 (ac (Qdy (enc := K07) e6) e4 (Qdx (enc := K07) (x := .ptr [sI e5.fty,sI e5.fneeds,sM K07 e5.fkids,I e5.ffault,sI e5.fpath] 0) e6 (K0a e5)).2 (ar 4 e4 (cq (Kna _ _ e8) K81 (ad e4 (Qdy (enc := K14) f0) e4 (xL f0).2 (ai e4 (cq (Ko2 _ _ f2) K8d (ar 2 e4 tv)))))))))
     obtain rfl := os h
     exact rj hc Kqi (nN 6 ([oT,oN]++n_ 18 [oF])) (ar 3 e3 (ar 18 (neT e4) (ai e4 tv)))
    obtain rfl := os h
    exact rj hc Kqi (nN 4 ([o_,o_,oF,oN]++n_ 18 [oF])) (ar 2 (neT e3) (ai e3 (ar 18 (neT fF) (ai fF tv))))
   clear e0
   refine ic h (fun f3 h => ?_) fun f3 h => ?_
   ·refine rs hc none [oN,nW 50,oN] [(6,.ra 50 0)] [(50,.box [.nils,.nils,.nils,I 3,.nils])] tv (vb 50 [.nils,.nils,.nils,I 3,.nils] [(6,.ptr [.sl (List.map I []),.sl (List.map I []),.sl (List.map K07 []),I 3,.sl (List.map I [])] 0)] [] ?_)
    obtain rfl := os h
    exact rt (re [false])
   refine sk ?_
   obtain ⟨_,f4,h⟩ := Qdt h
   refine rs hc none (nN 6 [some (.eqv (.mk 51 false) ⟨[(124,.rs 51)],[(51,some (.arr (List.map K07 [d2])))],[51]⟩),some (.eqv (.mk 52 true) ⟨[(125,.rs 52)],[(52,some (rM K07 (a9 ++ [d2]))),(20,none),(51,none)],[52]⟩),oN,oN,oN]) [(1,sL ctx1),(3,.ra 1 0),(5,.ra 2 0),(7,.ra 4 0),(8,.rs 21),(9,.rs 22),(12,sL c0),(14,.ptr [sI d2.fty,sI d2.fneeds,sM K07 d2.fkids,I d2.ffault,sI d2.fpath] 0),(22,sM K0h t2.fKids),(23,I (t2.fKids.length : Int)),(24,I b3)] [(1,K2a p0),(2,K1y t2),(3,.arr (List.map I (List.replicate (Int.toNat (ctx1.length : Int)) 0))),(4,.box [.nils,.rs 3,.rs 52,I 0,.nils]),(21,rM K14 b1),(22,rM K14 b2),(52,rM K07 (a9 ++ [d2]))] (ac (congrArg (fun z => (⟨[(124,.rs 51)],[(51,some (.arr z))],[51]⟩ : Wr)) ((Qf0 (K0a d2) Qez) : [AV.ptr [sI d2.fty,sI d2.fneeds,sM K07 d2.fkids,I d2.ffault,sI d2.fpath] 0] = List.map K07 [d2])) (congrArg (fun z => (⟨[(125,.rs 52)],[(52,some (.arr z)),(20,none),(51,none)],[52]⟩ : Wr)) ((List.map_append).symm : (List.map K07 a9) ++ (List.map K07 [d2]) = List.map K07 (a9 ++ [d2]))) (Qe7 (enc1 := K07) (enc2 := K07) (e1 := a9) (e2 := [d2]) (sz := 1) K0d K0d f4) tv) ?_
   obtain ⟨f5,f6,_,f7,f8,f9,_,g0,h⟩ := bq4 h
   exact rgd hc (rx [[0],[0],[0,1],[0,1,2],[0,1,2,3],[0],[0,5],[0,1,2,3,4,5,6],[0,1,2,3,4,5,6,7],[9],[0],[0],[0,11],[0,11,12],[0,11,12,13],[0],[0,15],[0,11,12,13,14,15,16],[0,11,12,13,14,15,16,17],[19],[20],[21]]) (nN 6 ([nQ ⟨[(134,I (c0.length : Int))],[],[]⟩,nQ ⟨[(135,sI f5)],[],[]⟩,some (.mk 53 false),some (.eqv (.mk 54 true) ⟨[(137,.rs 54)],[(54,some (rM K14 (b2 ++ [f5]))),(22,none),(53,none)],[54]⟩)]++nN 6 [nQ ⟨[(144,I (c0.length : Int))],[],[]⟩,nQ ⟨[(145,sI f8)],[],[]⟩,some (.mk 55 false),some (.eqv (.mk 56 true) ⟨[(147,.rs 56)],[(56,some (rM K14 (b1 ++ [f8]))),(21,none),(55,none)],[56]⟩),oN,oN])) [8,9,12,14] [(8,.rs 56),(9,.rs 54)] [(1,K2a p0),(2,K1y t2),(3,.arr (List.map I (List.replicate (Int.toNat (ctx1.length : Int)) 0))),(4,.box [.nils,.rs 3,.rs 52,I 0,.nils]),(52,rM K07 (a9 ++ [d2])),(54,rM K14 (b2 ++ [f5])),(56,rM K14 (b1 ++ [f8]))] (ad (Qdz (d := 134) K14 c0) (Qe2 (d := 135) I f6) (Qe1 (enc := I) (sz := 1) Qec f6) (congrArg (fun z => (⟨[(137,.rs 54)],[(54,some (.arr z)),(22,none),(53,none)],[54]⟩ : Wr)) ((List.map_append).symm : (List.map K14 b2) ++ (List.map K14 [f5]) = List.map K14 (b2 ++ [f5]))) (ad (Qe7 (enc1 := K14) (enc2 := K14) (e1 := b2) (e2 := [f5]) (sz := 1) K17 K17 f7) (Qdz (d := 144) K14 c0) (Qe2 (d := 145) I f9) (Qe1 (enc := I) (sz := 1) Qec f9) (ab (congrArg (fun z => (⟨[(147,.rs 56)],[(56,some (.arr z)),(21,none),(55,none)],[56]⟩ : Wr)) ((List.map_append).symm : (List.map K14 b1) ++ (List.map K14 [f8]) = List.map K14 (b1 ++ [f8]))) (Qe7 (enc1 := K14) (enc2 := K14) (e1 := b1) (e2 := [f8]) (sz := 1) K17 K17 g0) tv))) (K9h hc 2 [(1,sL ctx1),(3,.ra 1 0),(5,.ra 2 0),(7,.ra 4 0),(8,.rs 56),(9,.rs 54),(22,sM K0h t2.fKids),(23,I (t2.fKids.length : Int)),(24,I (wr (b3 + 1)))] (Qdb (WpL.view (fun a w hv => SRx.renL [(20,52),(21,56),(22,54)] hv (by kernel_rfl) (by kernel_rfl) (by kernel_rfl)) (impl_typertyp_l0_ih _ _ h c hc))))
  obtain rfl := os h
  exact xt 0 (Qd5 (Qdc (iv [])))
theorem Kqo : ∀ p r,Kqj p = some r → Kql p r := Kqn.1
theorem Kqp : ∀ p r,Kqk p = some r → Kqm p r := Kqn.2
def Kqq (p : K00 × LL × K01) : Option (Option K04) :=
 match p with
 | (s0,ctx1,t2) =>
  ((
  (Kll s0) >>= fun a0 =>
  if a0 = true then
  (Kmh (s0,ctx1)) >>= fun a1 =>
  if a1 = true then
  (Kn1 (s0,t2,(ctx1.length : Int))) >>= fun a2 =>
  some ((!a2))
  else
  some (true)
  else
  some (true)
  ) : Option (Bool)) >>= fun a3 =>
  if a3 = true then
  some none
  else
  (Kqj ((K06.mk s0),ctx1,t2)) >>= fun a4 =>
  some (some a4)
def Kqr (p : K00 × LL × K01) (r : Option K04) : Prop :=
 match p with
 | (s0,ctx1,t2) => Q75 Tryz.prog 87 [K1w s0,sL ctx1,K1z t2] (K0b r) []
theorem Kqs : ∀ p r,Kqq p = some r → Kqr p r := by
 rintro ⟨s0,ctx1,t2⟩ r h
 unfold Kqq at h
 refine b0 Tryz.f87 B87 29 [(0,K1w s0),(1,sL ctx1),(2,K1z t2)] fun c hc => (rsd hc none [nW 1,nW 2,oN] [0,2] [(3,.ra 1 0),(5,.ra 2 0)] [(1,K1v s0),(2,K1y t2)] tv (sN (sN ?_)))
 obtain ⟨a0,a1,h⟩ := Qdt h
 refine wi [] [(23,.bool a0)] ?_ ?_
 ·replace h := a1
  obtain ⟨a2,a3,h⟩ := Qdt h
  rcases is h with ⟨a4,h⟩ | ⟨a4,h⟩
  ·obtain ⟨a5,a6,h⟩ := Qdt h
   rcases is h with ⟨a7,h⟩ | ⟨a7,h⟩
   ·obtain ⟨a8,a9,h⟩ := Qdt h
    obtain rfl := os h
    exact rj hc none ([oN,oc (.bool a2)]++nN 4 ([oc (.bool a5),oN,oF]++nN 4 [nQ ⟨[(20,I (ctx1.length : Int))],[],[]⟩,oc (.bool a8),oN,oF])) (cq (Kln _ _ a3) K7a (ar 3 (nF a4) (cq (Kmj _ _ a6) K7p (ar 2 (nF a4) (ar 4 (nF a7) (ab (Qdz (d := 20) K14 ctx1) (nF a7) (cq (Kn3 _ _ a9) K7z (ar 2 (nF a7) tv))))))))
   obtain rfl := os h
   exact rj hc none ([oN,oc (.bool a2)]++nN 4 ([oc (.bool a5),oN,oF,oN]++n_ 6 [oT])) (cq (Kln _ _ a3) K7a (ar 3 (nF a4) (cq (Kmj _ _ a6) K7p (ar 2 (nF a4) (ar 6 (neF (nT a7)) (ai (nT a7) tv))))))
  obtain rfl := os h
  exact rj hc none ([oN,oc (.bool a2),oN,oN]++n_ 4 ([oT,oN]++n_ 6 [oT])) (cq (Kln _ _ a3) K7a (ar 4 (neF (nT a4)) (ai (nT a4) (ar 6 nf (ai tt tv)))))
 clear a1
 refine ic h (fun b1 h => ?_) fun b1 h => ?_
 ·obtain rfl := os h
  exact rs0 hc 1 [(6,.nilp)] [] (rt (rq [false]))
 refine sk ?_
 obtain ⟨b2,b3,h⟩ := Qdt h
 obtain rfl := os h
 exact rs hc none (nN 4 [oc (.ptr [sI b2.fty,sI b2.fneeds,sM K07 b2.fkids,I b2.ffault,sI b2.fpath] 0),oN]) [(6,.ptr [sI b2.fty,sI b2.fneeds,sM K07 b2.fkids,I b2.ffault,sI b2.fpath] 0)] [] (cq (Kqo _ _ b3) K89 tv) (rt (rq [false]))
def Kqt (p : K00 × LL × K01) : Option ((List Int) × (List Int) × Bool) :=
 match p with
 | (s0,ctx1,t2) =>
  (Kqq (s0,ctx1,t2)) >>= fun a0 =>
  match a0 with
  | none =>
   some ([],[],false)
  | some a1 =>
   if (a1.ffault != 0) = true then
   some ([],[],false)
   else
   (Ko3 a1.fty) >>= fun a2 =>
   (Ko3 a1.fneeds) >>= fun a3 =>
   some (a2,a3,true)
def Kqu (p : K00 × LL × K01) (r : (List Int) × (List Int) × Bool) : Prop :=
 match p with
 | (s0,ctx1,t2) => Q75 Tryz.prog 23 [K1w s0,sL ctx1,K1z t2] (.tup [oI r.1,.osl (List.map I r.2.1),.bool r.2.2]) []
theorem Kqv : ∀ p r,Kqt p = some r → Kqu p r := by
 rintro ⟨s0,ctx1,t2⟩ r h
 unfold Kqt at h
 refine b0 Tryz.f23 B23 33 [(0,K1w s0),(1,sL ctx1),(2,K1z t2)] fun c hc => (rsd hc none [nW 1,nW 2,oN,oN,oN] [0,2] [(3,.ra 1 0),(5,.ra 2 0)] [(1,K1v s0),(2,K1y t2)] tv (sN ?_))
 obtain ⟨a0,a1,h⟩ := Qdt h
 rcases a0 with _ | a2
 ·refine rg hc none [oN,oN,oN,oc (.nilp),oN] [(9,.nilp)] [] (cq (Kqs _ _ a1) K95 tv) (sN (rsd hc none ([oN,oN,oN]++n_ 5 [oT]) [] [(22,.bool true)] [] (ar 5 nf (ai tt tv)) (cT true tt ?_)))
  obtain rfl := os h
  exact rs0 hc 3 [(6,.nils),(7,.nils),(8,.bool false)] [] (rt (rq [true,true,true]))
 refine rg hc none [oN,oN,oN,oc (.ptr [sI a2.fty,sI a2.fneeds,sM K07 a2.fkids,I a2.ffault,sI a2.fpath] 0),oN] [(9,.ptr [sI a2.fty,sI a2.fneeds,sM K07 a2.fkids,I a2.ffault,sI a2.fpath] 0)] [] (cq (Kqs _ _ a1) K95 tv) (sN (rsd hc none (nN 8 [oF]) [] [(22,.bool (a2.ffault != 0))] [] (ar 6 fF tv) (ic h (fun a3 h => ?_) fun a3 h => ?_)))
 ·obtain rfl := os h
  exact rs0 hc 3 [(6,.nils),(7,.nils),(8,.bool false)] [] (rt (rq [true,true,true]))
 refine sk ?_
 obtain ⟨a4,a5,a6,a7,h⟩ := bq2 h
 obtain rfl := os h
 exact rs hc (rx [[0],[1],[2],[3],[4],[0],[0,5],[0,5,6],[0,5,6,7],[9],[10],[11],[12]]) (nN 4 ([some (.call (oI a4) [] 3)]++nN 4 [some (.call (oI a6) [] 4),oN,oN,oN])) [(6,.rs 3),(7,.rs 4),(8,.bool true)] [(3,rI a4),(4,rI a6)] (cq (Ko5 _ _ a5) K8e (cq (Ko5 _ _ a7) K8e tv)) (rt (rq [true,true,true]))
def Kqw (c : Ctx) (s0 : K00) (in1 : List Bool) (a0 : Int) : (Unit) ⊕ (Bool) → Exit → Q0a → Prop
 | .inl _ => Qdf c (.exit 2) (mkS [(1,sB in1),(2,.ra 1 0),(5,I a0)] [(1,K1v s0)])
 | .inr r => Qdo TIx Tryz.f151 [] (.bool r)
def Kqx : Option (List (List Nat)) := rx [[0],[0],[0],[0],[0,1,2,3],[5],[6],[0],[0],[0,7,8],[0,7,8,9],[0,1,2,3,4,7,8,9,10],[0,1,2,3,4,7,8,9,10,11],[0,1,2,3,4,7,8,9,10,11],[0,1,2,3,4,7,8,9,10,11,12,13],[0,1,2,3,4,7,8,9,10,11,12,13,14],[0,1,2,3,4,7,8,9,10,11,12,13,14,15],[17],[18],[19],[19],[19],[19],[19,20,21,22],[24],[25],[19],[19],[19,26,27],[19,26,27,28],[19,20,21,22,23,26,27,28,29],[19,20,21,22,23,26,27,28,29,30],[19,20,21,22,23,26,27,28,29,30],[19,20,21,22,23,26,27,28,29,30,31,32],[19,20,21,22,23,26,27,28,29,30,31,32,33],[19,20,21,22,23,26,27,28,29,30,31,32,33,34],[36],[37],[38],[39],[39],[41],[42],[43],[44],[44],[44],[47],[48],[49],[50],[50],[52],[53],[54],[55],[56]]
def Kqy (p : K00 × (List Bool) × Int × Int) : Option ((Unit) ⊕ (Bool)) :=
 match p with
 | (s0,in1,a0,a1) =>
  if (decide (a1 < s0.fSize)) = true then
  ((
  (Kkc (s0,a0,a1)) >>= fun a2 =>
  (idx in1 a2) >>= fun a3 =>
  (idx in1 a0) >>= fun a4 =>
  if a4 = true then
  if (a3 == true) = true then
  (Kkf (s0,a0,a1)) >>= fun a5 =>
  (idx in1 a5) >>= fun a6 =>
  (idx in1 a0) >>= fun a7 =>
  if a7 = true then
  (idx in1 a1) >>= fun a8 =>
  if (a6 == a8) = true then
  (idx in1 a0) >>= fun a9 =>
  if a9 = true then
  (Kki (s0,a0,a1)) >>= fun b1 =>
  if b1 = true then
  (idx in1 a1) >>= fun b2 =>
  some ((!b2))
  else
  some (false)
  else
  some (false)
  else
  some (true)
  else
  if (a6 == false) = true then
  (idx in1 a0) >>= fun a9 =>
  if a9 = true then
  (Kki (s0,a0,a1)) >>= fun b1 =>
  if b1 = true then
  (idx in1 a1) >>= fun b2 =>
  some ((!b2))
  else
  some (false)
  else
  some (false)
  else
  some (true)
  else
  some (true)
  else
  (idx in1 a1) >>= fun b3 =>
  if (a3 == b3) = true then
  (Kkf (s0,a0,a1)) >>= fun a5 =>
  (idx in1 a5) >>= fun a6 =>
  (idx in1 a0) >>= fun a7 =>
  if a7 = true then
  (idx in1 a1) >>= fun a8 =>
  if (a6 == a8) = true then
  (idx in1 a0) >>= fun a9 =>
  if a9 = true then
  (Kki (s0,a0,a1)) >>= fun b1 =>
  if b1 = true then
  (idx in1 a1) >>= fun b2 =>
  some ((!b2))
  else
  some (false)
  else
  some (false)
  else
  some (true)
  else
  if (a6 == false) = true then
  (idx in1 a0) >>= fun a9 =>
  if a9 = true then
  (Kki (s0,a0,a1)) >>= fun b1 =>
  if b1 = true then
  (idx in1 a1) >>= fun b2 =>
  some ((!b2))
  else
  some (false)
  else
  some (false)
  else
  some (true)
  else
  some (true)
  ) : Option (Bool)) >>= fun b4 =>
  if b4 = true then
  some (.inr false)
  else
  Kqy (s0,in1,a0,(wr (a1 + 1)))
  else
  some (.inl ())
 partial_fixpoint
def Kqz (p : K00 × (List Bool) × Int × Int) (fl : (Unit) ⊕ (Bool)) : Prop :=
 match p with
 | (s0,in1,a0,a1) => ∀ c : Ctx,c.nt = 85 → WpL Tryz.prog c (cl (cl (cr (cl (cl (cr (cl (cl (cr (cl (cr (cr K97)))))))))))) (Kqw c s0 in1 a0 fl) (mkS [(1,sB in1),(2,.ra 1 0),(5,I a0),(6,I a1)] [(1,K1v s0)])
theorem Kr0 : ∀ p r,Kqy p = some r → Kqz p r := by
 refine Kqy.partial_correctness Kqz ?_
 rintro impl_isView_l0_f impl_isView_l0_ih ⟨s0,in1,a0,a1⟩ r h
 intro c hc
 refine WpL.step (sN (K9o hc 4 [] [(25,.bool (decide (a1 < s0.fSize)))] (ic h (fun a2 h => ?_) fun a2 h => ?_)))
 ·refine sk (sN (bk 3 (sN ?_)))
  obtain ⟨a3,a4,h⟩ := Qdt h
  refine wi [25] [(84,.bool a3)] ?_ ?_
  ·replace h := a4
   obtain ⟨a5,a6,a7,a8,a9,b1,h⟩ := bq3 h
   rcases is h with ⟨b2,h⟩ | ⟨b2,h⟩
   ·rcases is h with ⟨b3,h⟩ | ⟨b3,h⟩
    ·obtain ⟨b4,b5,b6,b7,b8,b9,h⟩ := bq3 h
     rcases is h with ⟨c0,h⟩ | ⟨c0,h⟩
     ·obtain ⟨c1,c2,h⟩ := Qdt h
      rcases is h with ⟨c3,h⟩ | ⟨c3,h⟩
      ·obtain ⟨c4,c5,h⟩ := Qdt h
       rcases is h with ⟨c6,h⟩ | ⟨c6,h⟩
       ·obtain ⟨c7,c8,h⟩ := Qdt h
        rcases is h with ⟨c9,h⟩ | ⟨c9,h⟩
        ·obtain ⟨d0,d1,h⟩ := Qdt h
         obtain rfl := os h
         exact rj hc Kqx (nN 4 ([oc (I a5),eB a7,oN,oN,oN,eB a9,oN,oN]++n_ 4 ([oT]++nN 6 ([oc (I b4),eB b6,oN,oN,oN,eB b8]++nN 4 ([eB c1,oN,oT,oN,oF,oN,oN,oN,eB c4]++nN 5 [oc (.bool c7),oT,oN,oN,oN,eB d0,oN,oN,oT,oF]))))) (cq (Kke _ _ a6) K72 (ab (xB a8) (xB b1) (ar 4 (neF b2) (ai b2 (ar 5 (nF b3) (cq (Kkh _ _ b5) K74 (ab (nF b3) (xB b7) (ar 4 (nF b3) (ai (xB b9) (ar 2 (nF b3) (ar 3 c0 (ad (xB c2) c0 (nF b3) c0 (ar 2 (nF b3) (ar 3 (nF c3) (ai (xB c5) (ar 2 (nF c3) (ar 4 c6 (cq (Kkk _ _ c8) K75 (ac (nF c3) c6 (nF c3) (ar 3 c9 (ai (xB d1) (ar 2 c9 (ac (nF c3) c9 (nF c3) tv)))))))))))))))))))))))
        obtain rfl := os h
        exact rj hc Kqx (nN 4 ([oc (I a5),eB a7,oN,oN,oN,eB a9,oN,oN]++n_ 4 ([oT]++nN 6 ([oc (I b4),eB b6,oN,oN,oN,eB b8]++nN 4 ([eB c1,oN,oT,oN,oF,oN,oN,oN,eB c4]++nN 5 ([oc (.bool c7),oT,oN]++n_ 5 [oF,oF])))))) (cq (Kke _ _ a6) K72 (ab (xB a8) (xB b1) (ar 4 (neF b2) (ai b2 (ar 5 (nF b3) (cq (Kkh _ _ b5) K74 (ab (nF b3) (xB b7) (ar 4 (nF b3) (ai (xB b9) (ar 2 (nF b3) (ar 3 c0 (ad (xB c2) c0 (nF b3) c0 (ar 2 (nF b3) (ar 3 (nF c3) (ai (xB c5) (ar 2 (nF c3) (ar 4 c6 (cq (Kkk _ _ c8) K75 (ac (nF c3) c6 (nF c3) (ar 5 (neT c9) (ac (nF c3) c9 (nF c3) tv)))))))))))))))))))))
       obtain rfl := os h
       exact rj hc Kqx (nN 4 ([oc (I a5),eB a7,oN,oN,oN,eB a9,oN,oN]++n_ 4 ([oT]++nN 6 ([oc (I b4),eB b6,oN,oN,oN,eB b8]++nN 4 ([eB c1,oN,oT,oN,oF,oN,oN,oN,eB c4,oN,oN]++n_ 4 ([oF,oN]++n_ 5 [oF,oF])))))) (cq (Kke _ _ a6) K72 (ab (xB a8) (xB b1) (ar 4 (neF b2) (ai b2 (ar 5 (nF b3) (cq (Kkh _ _ b5) K74 (ab (nF b3) (xB b7) (ar 4 (nF b3) (ai (xB b9) (ar 2 (nF b3) (ar 3 c0 (ad (xB c2) c0 (nF b3) c0 (ar 2 (nF b3) (ar 3 (nF c3) (ai (xB c5) (ar 2 (nF c3) (ar 4 (neT c6) (ac (nF c3) c6 (nF c3) (ar 5 (neT fF) (ac (nF c3) fF (nF c3) tv))))))))))))))))))))
      obtain rfl := os h
      exact rj hc Kqx (nN 4 ([oc (I a5),eB a7,oN,oN,oN,eB a9,oN,oN]++n_ 4 ([oT]++nN 6 ([oc (I b4),eB b6,oN,oN,oN,eB b8]++nN 4 ([eB c1,oN,oT,oN,oF,oN]++n_ 17 [oT]))))) (cq (Kke _ _ a6) K72 (ab (xB a8) (xB b1) (ar 4 (neF b2) (ai b2 (ar 5 (nF b3) (cq (Kkh _ _ b5) K74 (ab (nF b3) (xB b7) (ar 4 (nF b3) (ai (xB b9) (ar 2 (nF b3) (ar 3 c0 (ad (xB c2) c0 (nF b3) c0 (ar 2 (nF b3) (ar 8 (neF (nT c3)) (ai (nT c3) tv)))))))))))))))
     rcases is h with ⟨c3,h⟩ | ⟨c3,h⟩
     ·obtain ⟨c4,c5,h⟩ := Qdt h
      rcases is h with ⟨c6,h⟩ | ⟨c6,h⟩
      ·obtain ⟨c7,c8,h⟩ := Qdt h
       rcases is h with ⟨c9,h⟩ | ⟨c9,h⟩
       ·obtain ⟨d0,d1,h⟩ := Qdt h
        obtain rfl := os h
        exact rj hc Kqx (nN 4 ([oc (I a5),eB a7,oN,oN,oN,eB a9,oN,oN]++n_ 4 ([oT]++nN 6 ([oc (I b4),eB b6,oN,oN,oN,eB b8,oN,oN]++n_ 4 ([oF,oN,oF,oN,oN,oN,eB c4]++nN 5 [oc (.bool c7),oT,oN,oN,oN,eB d0,oN,oN,oT,oF]))))) (cq (Kke _ _ a6) K72 (ab (xB a8) (xB b1) (ar 4 (neF b2) (ai b2 (ar 5 (nF b3) (cq (Kkh _ _ b5) K74 (ab (nF b3) (xB b7) (ar 4 (nF b3) (ai (xB b9) (ar 2 (nF b3) (ar 4 (neT c0) (ab (nF b3) c0 (ar 2 (nF b3) (ar 3 (nF c3) (ai (xB c5) (ar 2 (nF c3) (ar 4 c6 (cq (Kkk _ _ c8) K75 (ac (nF c3) c6 (nF c3) (ar 3 c9 (ai (xB d1) (ar 2 c9 (ac (nF c3) c9 (nF c3) tv)))))))))))))))))))))))
       obtain rfl := os h
       exact rj hc Kqx (nN 4 ([oc (I a5),eB a7,oN,oN,oN,eB a9,oN,oN]++n_ 4 ([oT]++nN 6 ([oc (I b4),eB b6,oN,oN,oN,eB b8,oN,oN]++n_ 4 ([oF,oN,oF,oN,oN,oN,eB c4]++nN 5 ([oc (.bool c7),oT,oN]++n_ 5 [oF,oF])))))) (cq (Kke _ _ a6) K72 (ab (xB a8) (xB b1) (ar 4 (neF b2) (ai b2 (ar 5 (nF b3) (cq (Kkh _ _ b5) K74 (ab (nF b3) (xB b7) (ar 4 (nF b3) (ai (xB b9) (ar 2 (nF b3) (ar 4 (neT c0) (ab (nF b3) c0 (ar 2 (nF b3) (ar 3 (nF c3) (ai (xB c5) (ar 2 (nF c3) (ar 4 c6 (cq (Kkk _ _ c8) K75 (ac (nF c3) c6 (nF c3) (ar 5 (neT c9) (ac (nF c3) c9 (nF c3) tv)))))))))))))))))))))
      obtain rfl := os h
      exact rj hc Kqx (nN 4 ([oc (I a5),eB a7,oN,oN,oN,eB a9,oN,oN]++n_ 4 ([oT]++nN 6 ([oc (I b4),eB b6,oN,oN,oN,eB b8,oN,oN]++n_ 4 ([oF,oN,oF,oN,oN,oN,eB c4,oN,oN]++n_ 4 ([oF,oN]++n_ 5 [oF,oF])))))) (cq (Kke _ _ a6) K72 (ab (xB a8) (xB b1) (ar 4 (neF b2) (ai b2 (ar 5 (nF b3) (cq (Kkh _ _ b5) K74 (ab (nF b3) (xB b7) (ar 4 (nF b3) (ai (xB b9) (ar 2 (nF b3) (ar 4 (neT c0) (ab (nF b3) c0 (ar 2 (nF b3) (ar 3 (nF c3) (ai (xB c5) (ar 2 (nF c3) (ar 4 (neT c6) (ac (nF c3) c6 (nF c3) (ar 5 (neT fF) (ac (nF c3) fF (nF c3) tv))))))))))))))))))))
     obtain rfl := os h
     exact rj hc Kqx (nN 4 ([oc (I a5),eB a7,oN,oN,oN,eB a9,oN,oN]++n_ 4 ([oT]++nN 6 ([oc (I b4),eB b6,oN,oN,oN,eB b8,oN,oN]++n_ 4 ([oF,oN,oF,oN]++n_ 17 [oT]))))) (cq (Kke _ _ a6) K72 (ab (xB a8) (xB b1) (ar 4 (neF b2) (ai b2 (ar 5 (nF b3) (cq (Kkh _ _ b5) K74 (ab (nF b3) (xB b7) (ar 4 (nF b3) (ai (xB b9) (ar 2 (nF b3) (ar 4 (neT c0) (ab (nF b3) c0 (ar 2 (nF b3) (ar 8 (neF (nT c3)) (ai (nT c3) tv)))))))))))))))
    obtain rfl := os h
    exact rj hc Kqx (nN 4 ([oc (I a5),eB a7,oN,oN,oN,eB a9,oN,oN]++n_ 4 ([oT,oN,oN]++n_ 18 ([oT,oN]++n_ 17 [oT])))) (cq (Kke _ _ a6) K72 (ab (xB a8) (xB b1) (ar 4 (neF b2) (ai b2 (ar 14 (neF (nT b3)) (ai (nT b3) (ar 8 nf (ai tt tv))))))))
   obtain ⟨d2,d3,h⟩ := Qdt h
   rcases is h with ⟨b3,h⟩ | ⟨b3,h⟩
   ·obtain ⟨b4,b5,b6,b7,b8,b9,h⟩ := bq3 h
    rcases is h with ⟨c0,h⟩ | ⟨c0,h⟩
    ·obtain ⟨c1,c2,h⟩ := Qdt h
     rcases is h with ⟨c3,h⟩ | ⟨c3,h⟩
     ·obtain ⟨c4,c5,h⟩ := Qdt h
      rcases is h with ⟨c6,h⟩ | ⟨c6,h⟩
      ·obtain ⟨c7,c8,h⟩ := Qdt h
       rcases is h with ⟨c9,h⟩ | ⟨c9,h⟩
       ·obtain ⟨d0,d1,h⟩ := Qdt h
        obtain rfl := os h
        exact rj hc Kqx (nN 4 ([oc (I a5),eB a7,oN,oN,oN,eB a9]++nN 4 ([eB d2,oN,oF]++nN 6 ([oc (I b4),eB b6,oN,oN,oN,eB b8]++nN 4 ([eB c1,oN,oT,oN,oF,oN,oN,oN,eB c4]++nN 5 [oc (.bool c7),oT,oN,oN,oN,eB d0,oN,oN,oT,oF]))))) (cq (Kke _ _ a6) K72 (ab (xB a8) (xB b1) (ar 3 b2 (ai (xB d3) (ar 2 b2 (ar 5 (nF b3) (cq (Kkh _ _ b5) K74 (ab (nF b3) (xB b7) (ar 4 (nF b3) (ai (xB b9) (ar 2 (nF b3) (ar 3 c0 (ad (xB c2) c0 (nF b3) c0 (ar 2 (nF b3) (ar 3 (nF c3) (ai (xB c5) (ar 2 (nF c3) (ar 4 c6 (cq (Kkk _ _ c8) K75 (ac (nF c3) c6 (nF c3) (ar 3 c9 (ai (xB d1) (ar 2 c9 (ac (nF c3) c9 (nF c3) tv))))))))))))))))))))))))
       obtain rfl := os h
       exact rj hc Kqx (nN 4 ([oc (I a5),eB a7,oN,oN,oN,eB a9]++nN 4 ([eB d2,oN,oF]++nN 6 ([oc (I b4),eB b6,oN,oN,oN,eB b8]++nN 4 ([eB c1,oN,oT,oN,oF,oN,oN,oN,eB c4]++nN 5 ([oc (.bool c7),oT,oN]++n_ 5 [oF,oF])))))) (cq (Kke _ _ a6) K72 (ab (xB a8) (xB b1) (ar 3 b2 (ai (xB d3) (ar 2 b2 (ar 5 (nF b3) (cq (Kkh _ _ b5) K74 (ab (nF b3) (xB b7) (ar 4 (nF b3) (ai (xB b9) (ar 2 (nF b3) (ar 3 c0 (ad (xB c2) c0 (nF b3) c0 (ar 2 (nF b3) (ar 3 (nF c3) (ai (xB c5) (ar 2 (nF c3) (ar 4 c6 (cq (Kkk _ _ c8) K75 (ac (nF c3) c6 (nF c3) (ar 5 (neT c9) (ac (nF c3) c9 (nF c3) tv))))))))))))))))))))))
      obtain rfl := os h
      exact rj hc Kqx (nN 4 ([oc (I a5),eB a7,oN,oN,oN,eB a9]++nN 4 ([eB d2,oN,oF]++nN 6 ([oc (I b4),eB b6,oN,oN,oN,eB b8]++nN 4 ([eB c1,oN,oT,oN,oF,oN,oN,oN,eB c4,oN,oN]++n_ 4 ([oF,oN]++n_ 5 [oF,oF])))))) (cq (Kke _ _ a6) K72 (ab (xB a8) (xB b1) (ar 3 b2 (ai (xB d3) (ar 2 b2 (ar 5 (nF b3) (cq (Kkh _ _ b5) K74 (ab (nF b3) (xB b7) (ar 4 (nF b3) (ai (xB b9) (ar 2 (nF b3) (ar 3 c0 (ad (xB c2) c0 (nF b3) c0 (ar 2 (nF b3) (ar 3 (nF c3) (ai (xB c5) (ar 2 (nF c3) (ar 4 (neT c6) (ac (nF c3) c6 (nF c3) (ar 5 (neT fF) (ac (nF c3) fF (nF c3) tv)))))))))))))))))))))
     obtain rfl := os h
     exact rj hc Kqx (nN 4 ([oc (I a5),eB a7,oN,oN,oN,eB a9]++nN 4 ([eB d2,oN,oF]++nN 6 ([oc (I b4),eB b6,oN,oN,oN,eB b8]++nN 4 ([eB c1,oN,oT,oN,oF,oN]++n_ 17 [oT]))))) (cq (Kke _ _ a6) K72 (ab (xB a8) (xB b1) (ar 3 b2 (ai (xB d3) (ar 2 b2 (ar 5 (nF b3) (cq (Kkh _ _ b5) K74 (ab (nF b3) (xB b7) (ar 4 (nF b3) (ai (xB b9) (ar 2 (nF b3) (ar 3 c0 (ad (xB c2) c0 (nF b3) c0 (ar 2 (nF b3) (ar 8 (neF (nT c3)) (ai (nT c3) tv))))))))))))))))
    rcases is h with ⟨c3,h⟩ | ⟨c3,h⟩
    ·obtain ⟨c4,c5,h⟩ := Qdt h
     rcases is h with ⟨c6,h⟩ | ⟨c6,h⟩
     ·obtain ⟨c7,c8,h⟩ := Qdt h
      rcases is h with ⟨c9,h⟩ | ⟨c9,h⟩
      ·obtain ⟨d0,d1,h⟩ := Qdt h
       obtain rfl := os h
       exact rj hc Kqx (nN 4 ([oc (I a5),eB a7,oN,oN,oN,eB a9]++nN 4 ([eB d2,oN,oF]++nN 6 ([oc (I b4),eB b6,oN,oN,oN,eB b8,oN,oN]++n_ 4 ([oF,oN,oF,oN,oN,oN,eB c4]++nN 5 [oc (.bool c7),oT,oN,oN,oN,eB d0,oN,oN,oT,oF]))))) (cq (Kke _ _ a6) K72 (ab (xB a8) (xB b1) (ar 3 b2 (ai (xB d3) (ar 2 b2 (ar 5 (nF b3) (cq (Kkh _ _ b5) K74 (ab (nF b3) (xB b7) (ar 4 (nF b3) (ai (xB b9) (ar 2 (nF b3) (ar 4 (neT c0) (ab (nF b3) c0 (ar 2 (nF b3) (ar 3 (nF c3) (ai (xB c5) (ar 2 (nF c3) (ar 4 c6 (cq (Kkk _ _ c8) K75 (ac (nF c3) c6 (nF c3) (ar 3 c9 (ai (xB d1) (ar 2 c9 (ac (nF c3) c9 (nF c3) tv))))))))))))))))))))))))
      obtain rfl := os h
      exact rj hc Kqx (nN 4 ([oc (I a5),eB a7,oN,oN,oN,eB a9]++nN 4 ([eB d2,oN,oF]++nN 6 ([oc (I b4),eB b6,oN,oN,oN,eB b8,oN,oN]++n_ 4 ([oF,oN,oF,oN,oN,oN,eB c4]++nN 5 ([oc (.bool c7),oT,oN]++n_ 5 [oF,oF])))))) (cq (Kke _ _ a6) K72 (ab (xB a8) (xB b1) (ar 3 b2 (ai (xB d3) (ar 2 b2 (ar 5 (nF b3) (cq (Kkh _ _ b5) K74 (ab (nF b3) (xB b7) (ar 4 (nF b3) (ai (xB b9) (ar 2 (nF b3) (ar 4 (neT c0) (ab (nF b3) c0 (ar 2 (nF b3) (ar 3 (nF c3) (ai (xB c5) (ar 2 (nF c3) (ar 4 c6 (cq (Kkk _ _ c8) K75 (ac (nF c3) c6 (nF c3) (ar 5 (neT c9) (ac (nF c3) c9 (nF c3) tv))))))))))))))))))))))
     obtain rfl := os h
     exact rj hc Kqx (nN 4 ([oc (I a5),eB a7,oN,oN,oN,eB a9]++nN 4 ([eB d2,oN,oF]++nN 6 ([oc (I b4),eB b6,oN,oN,oN,eB b8,oN,oN]++n_ 4 ([oF,oN,oF,oN,oN,oN,eB c4,oN,oN]++n_ 4 ([oF,oN]++n_ 5 [oF,oF])))))) (cq (Kke _ _ a6) K72 (ab (xB a8) (xB b1) (ar 3 b2 (ai (xB d3) (ar 2 b2 (ar 5 (nF b3) (cq (Kkh _ _ b5) K74 (ab (nF b3) (xB b7) (ar 4 (nF b3) (ai (xB b9) (ar 2 (nF b3) (ar 4 (neT c0) (ab (nF b3) c0 (ar 2 (nF b3) (ar 3 (nF c3) (ai (xB c5) (ar 2 (nF c3) (ar 4 (neT c6) (ac (nF c3) c6 (nF c3) (ar 5 (neT fF) (ac (nF c3) fF (nF c3) tv)))))))))))))))))))))
    obtain rfl := os h
    exact rj hc Kqx (nN 4 ([oc (I a5),eB a7,oN,oN,oN,eB a9]++nN 4 ([eB d2,oN,oF]++nN 6 ([oc (I b4),eB b6,oN,oN,oN,eB b8,oN,oN]++n_ 4 ([oF,oN,oF,oN]++n_ 17 [oT]))))) (cq (Kke _ _ a6) K72 (ab (xB a8) (xB b1) (ar 3 b2 (ai (xB d3) (ar 2 b2 (ar 5 (nF b3) (cq (Kkh _ _ b5) K74 (ab (nF b3) (xB b7) (ar 4 (nF b3) (ai (xB b9) (ar 2 (nF b3) (ar 4 (neT c0) (ab (nF b3) c0 (ar 2 (nF b3) (ar 8 (neF (nT c3)) (ai (nT c3) tv))))))))))))))))
   obtain rfl := os h
   exact rj hc Kqx (nN 4 ([oc (I a5),eB a7,oN,oN,oN,eB a9]++nN 4 ([eB d2,oN,oF,oN,oN]++n_ 18 ([oT,oN]++n_ 17 [oT])))) (cq (Kke _ _ a6) K72 (ab (xB a8) (xB b1) (ar 3 b2 (ai (xB d3) (ar 2 b2 (ar 14 (neF (nT b3)) (ai (nT b3) (ar 8 nf (ai tt tv)))))))))
  clear a4
  refine ic h (fun d4 h => ?_) fun d4 h => ?_
  ·obtain rfl := os h
   exact rs0 hc 1 [(4,.bool false)] [] (rt (re [true]))
  exact sk (ri0 hc 3 (Qdb (impl_isView_l0_ih _ _ h c hc)))
 obtain rfl := os h
 exact xt 2 (Qd5 (Qdc (iv [])))
def Kr1 (c : Ctx) : (Unit) ⊕ (Bool) → Exit → Q0a → Prop
 | .inl _ => Qdf c (.exit 0) (mkS [] [])
 | .inr r => Qdo TIx Tryz.f151 [] (.bool r)
def Kr2 (p : K00 × (List Bool) × Int) : Option ((Unit) ⊕ (Bool)) :=
 match p with
 | (s0,in1,a0) =>
  if (decide (a0 < s0.fSize)) = true then
  (Kqy (s0,in1,a0,0)) >>= fun fl => match fl with
  | .inl () =>
   Kr2 (s0,in1,(wr (a0 + 1)))
  | .inr r =>
   some (.inr r)
  else
  some (.inl ())
 partial_fixpoint
def Kr3 (p : K00 × (List Bool) × Int) (fl : (Unit) ⊕ (Bool)) : Prop :=
 match p with
 | (s0,in1,a0) => ∀ c : Ctx,c.nt = 85 → WpL Tryz.prog c (cl (cl (cr (cl (cr (cr K97)))))) (Kr1 c fl) (mkS [(1,sB in1),(2,.ra 1 0),(5,I a0)] [(1,K1v s0)])
theorem Kr4 : ∀ p r,Kr2 p = some r → Kr3 p r := by
 refine Kr2.partial_correctness Kr3 ?_
 rintro impl_isView_l1_f impl_isView_l1_ih ⟨s0,in1,a0⟩ r h
 intro c hc
 refine WpL.step (sN (K9o hc 4 [] [(19,.bool (decide (a0 < s0.fSize)))] (ic h (fun a1 h => ?_) fun a1 h => ?_)))
 ·refine sk (sN (bk 1 (K9l hc 1 [(1,sB in1),(2,.ra 1 0),(5,I a0),(6,I 0)] (bk 2 ?_))))
  obtain ⟨fl,a2,h⟩ := Qdt h
  have hL := Kr0 _ _ a2 c hc
  refine lp ?_
  rcases fl with ⟨⟩ | r
  ·exact wl hL (Qd7 (ri0 hc 3 (Qdb (impl_isView_l1_ih _ _ h c hc))))
  refine WpL.mono hL ?_
  rintro _ _ ⟨rfl,hfin⟩
  obtain rfl := os h
  exact ⟨rfl,hfin⟩
 obtain rfl := os h
 exact xt 0 (Qd5 (Qdc (iv [])))
def Kr5 (p : K00 × (List Bool)) : Option (Bool) :=
 match p with
 | (s0,in1) =>
  ((
  (idx in1 1) >>= fun a0 =>
  if a0 = true then
   (idx in1 0) >>= fun a1 =>
   some (a1)
  else
   some (true)
  ) : Option (Bool)) >>= fun a2 =>
  if a2 = true then
  some false
  else
  (Kr2 (s0,in1,0)) >>= fun fl => match fl with
  | .inl () =>
   some true
  | .inr r =>
   some r
def Kr6 (p : K00 × (List Bool)) (r : Bool) : Prop :=
 match p with
 | (s0,in1) => Q75 Tryz.prog 151 [K1w s0,sB in1] (.bool r) []
theorem Kr7 : ∀ p r,Kr5 p = some r → Kr6 p r := by
 rintro ⟨s0,in1⟩ r h
 unfold Kr5 at h
 refine b0 Tryz.f151 K97 85 [(0,K1w s0),(1,sB in1)] fun c hc => (rsd hc none [nW 1,oN] [0] [(2,.ra 1 0)] [(1,K1v s0)] tv (sN (sN ?_)))
 obtain ⟨a0,a1,h⟩ := Qdt h
 refine wi [] [(15,.bool a0)] ?_ ?_
 ·replace h := a1
  obtain ⟨a2,a3,h⟩ := Qdt h
  rcases is h with ⟨a4,h⟩ | ⟨a4,h⟩
  ·obtain ⟨a5,a6,h⟩ := Qdt h
   obtain rfl := os h
   exact rj hc none ([oN,eB a2]++nN 4 [eB a5,oN,oF]) (ai (xB a3) (ar 2 (nF a4) (ai (xB a6) (ar 2 (nF a4) tv))))
  obtain rfl := os h
  exact rj hc none [oN,eB a2,oN,oN,oN,o_,o_,o_,oT] (ai (xB a3) (ar 3 (neF (nT a4)) (ai (nT a4) tv)))
 clear a1
 refine ic h (fun a7 h => ?_) fun a7 h => ?_
 ·obtain rfl := os h
  exact rs0 hc 1 [(4,.bool false)] [] (rt (rq [true]))
 refine sk (sN (K9l hc 1 [(1,sB in1),(2,.ra 1 0),(5,I 0)] (bk 0 ?_)))
 obtain ⟨fl,a8,h⟩ := Qdt h
 have hL := Kr4 _ _ a8 c hc
 refine lp ?_
 rcases fl with ⟨⟩ | r
 ·refine wl hL ?_
  obtain rfl := os h
  exact Qd7 (rs0 hc 1 [(4,.bool true)] [] (rt (rq [true])))
 refine WpL.mono hL ?_
 rintro _ _ ⟨rfl,hfin⟩
 obtain rfl := os h
 exact ⟨.inl rfl,hfin⟩
def Kr8 (c : Ctx) (s0 : K00) : ((List Bool)) ⊕ (Bool) → Exit → Q0a → Prop
 | .inl a0 => Qdf c (.exit 0) (mkS [(2,.ra 1 0),(5,.rs 2)] [(1,K1v s0),(2,rM AV.bool a0)])
 | .inr r => Qdo TIx Tryz.f69 [] (.bool r)
def Kr9 (p : K00 × (List Int) × (List Bool) × Int) : Option (((List Bool)) ⊕ (Bool)) :=
 match p with
 | (s0,v1,a0,a1) =>
  if (decide (a1 < (v1.length : Int))) = true then
  (idx v1 a1) >>= fun a2 =>
  ((
  (Kk9 (s0,a2)) >>= fun a3 =>
  if a3 = true then
  if (decide (a1 > 0)) = true then
  (idx v1 (wr (a1 - 1))) >>= fun a4 =>
  some ((decide (a2 ≤ a4)))
  else
  some (false)
  else
  some (true)
  ) : Option (Bool)) >>= fun a5 =>
  if a5 = true then
  some (.inr false)
  else
  (idx a0 a2) >>= fun a6 =>
  Kr9 (s0,v1,(List.set a0 (Int.toNat a2) true),(wr (a1 + 1)))
  else
  some (.inl a0)
 partial_fixpoint
def Kra (p : K00 × (List Int) × (List Bool) × Int) (fl : ((List Bool)) ⊕ (Bool)) : Prop :=
 match p with
 | (s0,v1,a0,a1) => ∀ c : Ctx,c.nt = 45 → WpL Tryz.prog c (cl (cl (cr (cl (cr (cr (cr B69))))))) (Kr8 c s0 fl) (mkS [(1,sI v1),(2,.ra 1 0),(5,.rs 2),(14,sI v1),(15,I (v1.length : Int)),(16,I a1)] [(1,K1v s0),(2,rM AV.bool a0)])
theorem Krb : ∀ p r,Kr9 p = some r → Kra p r := by
 refine Kr9.partial_correctness Kra ?_
 rintro impl_IsView_l0_f impl_IsView_l0_ih ⟨s0,v1,a0,a1⟩ r h
 intro c hc
 refine WpL.step (K9o hc 1 [] [(17,.bool (decide (a1 < (v1.length : Int))))] (sN (ic h (fun a2 h => ?_) fun a2 h => ?_)))
 ·refine sk (sN (bk 1 ?_))
  obtain ⟨a3,a4,h⟩ := Qdt h
  refine K9n hc none [oN,eL (I a3),oN,oN,oN] [17] [(6,I a1),(7,I a3)] (ai (ix a4) tv) (sN (sN ?_))
  obtain ⟨a5,a6,h⟩ := Qdt h
  refine wi [6] [(37,.bool a5)] ?_ ?_
  ·replace h := a6
   obtain ⟨a7,a8,h⟩ := Qdt h
   rcases is h with ⟨a9,h⟩ | ⟨a9,h⟩
   ·rcases is h with ⟨b1,h⟩ | ⟨b1,h⟩
    ·obtain ⟨b2,b3,h⟩ := Qdt h
     obtain rfl := os h
     exact rj hc none ([oN,oN,oc (.bool a7)]++nN 9 [eL (I b2),oN,oN,oT,oF]) (cq (Kkb _ _ a8) K70 (ar 3 (nF a9) (ar 5 b1 (ai (ix b3) (ar 2 b1 (ac (nF a9) b1 (nF a9) tv))))))
    obtain rfl := os h
    exact rj hc none ([oN,oN,oc (.bool a7)]++nN 5 (n_ 7 [oF,oF])) (cq (Kkb _ _ a8) K70 (ar 3 (nF a9) (ar 7 (neT b1) (ac (nF a9) b1 (nF a9) tv))))
   obtain rfl := os h
   exact rj hc none ([oN,oN,oc (.bool a7),oN,oN]++n_ 11 [oT]) (cq (Kkb _ _ a8) K70 (ar 4 (neF (nT a9)) (ai (nT a9) tv)))
  clear a6
  refine ic h (fun b4 h => ?_) fun b4 h => ?_
  ·obtain rfl := os h
   exact rs0 hc 1 [(4,.bool false)] [] (rt (re [true]))
  refine sk ?_
  obtain ⟨b5,b6,h⟩ := Qdt h
  exact rgd hc none [oN,oN,oN,some (.eqv (.mk 0 true) ⟨[],[(2,some (rM AV.bool (List.set a0 (Int.toNat a3) true)))],[]⟩)] [37,7] [] [(1,K1v s0),(2,rM AV.bool (List.set a0 (Int.toNat a3) true))] (ac (Qdy (enc := AV.bool) b6) (congrArg (fun z => (⟨[],[(2,some (.arr z))],[]⟩ : Wr)) (Qew (enc := AV.bool) (i := Int.toNat a3) (l := a0) (v := true) (x := AV.bool true) (Qea true))) (Qex (enc := AV.bool) (sz := 1) Qee b6) tv) (ri0 hc 2 (Qdb (impl_IsView_l0_ih _ _ h c hc)))
 obtain rfl := os h
 exact xt 0 (Qd5 (Qdc (iv [])))
def Krc (p : K00 × (List Int)) : Option (Bool) :=
 match p with
 | (s0,v1) =>
  (Kll s0) >>= fun a0 =>
  if a0 = true then
  (chk (0 ≤ s0.fSize ∧ (Int.toNat s0.fSize) * 1 ≤ 140737488355328)) >>= fun _ =>
  (Kr9 (s0,v1,(List.replicate (Int.toNat s0.fSize) false),0)) >>= fun fl => match fl with
  | .inl a1 =>
   (Kr5 (s0,a1)) >>= fun a2 =>
   some a2
  | .inr r =>
   some r
  else
  some false
def Krd (p : K00 × (List Int)) (r : Bool) : Prop :=
 match p with
 | (s0,v1) => Q75 Tryz.prog 69 [K1w s0,sI v1] (.bool r) []
theorem Kre : ∀ p r,Krc p = some r → Krd p r := by
 rintro ⟨s0,v1⟩ r h
 unfold Krc at h
 refine b0 Tryz.f69 B69 45 [(0,K1w s0),(1,sI v1)] fun c hc => (rsd hc none [nW 1,oN] [0] [(2,.ra 1 0)] [(1,K1v s0)] tv (sN ?_))
 obtain ⟨a0,a1,h⟩ := Qdt h
 refine K9n hc none [oN,oc (.bool a0),oN] [] [(10,.bool (!a0))] (cq (Kln _ _ a1) K7a tv) ?_
 rcases is h with ⟨a2,h⟩ | ⟨a2,h⟩
 ·refine cF (!a0) (nF a2) (sk ?_)
  obtain ⟨_,a3,h⟩ := Qdt h
  refine rsd hc none [oN,oN,some (.eqv (.mk 2 true) ⟨[(13,.rs 2)],[(2,some (rM AV.bool (List.replicate (Int.toNat s0.fSize) false)))],[2]⟩),oN] [10] [(5,.rs 2)] [(1,K1v s0),(2,rM AV.bool (List.replicate (Int.toNat s0.fSize) false))] (ab (congrArg (fun z => (⟨[(13,.rs 2)],[(2,some (.arr z))],[2]⟩ : Wr)) (Qey (enc := AV.bool) (n := Int.toNat s0.fSize) (x := AV.bool false) (Qea false))) (And.intro (Eq.refl s0.fSize) (Qdv a3)) tv) (sN (rss hc none [oN,nQ ⟨[(15,I (v1.length : Int))],[],[]⟩,oN] [(1,sI v1),(2,.ra 1 0),(5,.rs 2),(14,sI v1),(15,I (v1.length : Int)),(16,I 0)] (ai (Qdz (d := 15) I v1) tv) (bk 0 ?_)))
  obtain ⟨fl,a4,h⟩ := Qdt h
  have hL := Krb _ _ a4 c hc
  refine lp ?_
  rcases fl with a5 | r
  ·refine wl hL (Qd7 ?_)
   obtain ⟨a6,a7,h⟩ := Qdt h
   obtain rfl := os h
   exact rs hc none [oN,oN,oc (.bool a6),oN] [(4,.bool a6)] [] (ac (Q75.args (A1 := [K1w s0,.sl (Q02 (List.map AV.bool a5))]) (A2 := [K1w s0,sB a5]) (by simp only [List.map_nil,Qen]) (Kr7 _ _ a7)) K98 (Or.inr rfl : ([2] : List Nat) = [] ∨ noSh (.bool a6) = true) tv) (rt (rq [true]))
  refine WpL.mono hL ?_
  rintro _ _ ⟨rfl,hfin⟩
  obtain rfl := os h
  exact ⟨.inl rfl,hfin⟩
 refine cT (!a0) (nT a2) ?_
 obtain rfl := os h
 exact rs0 hc 1 [(4,.bool false)] [] (rt (rq [true]))
def Krf (c : Ctx) : (Unit) ⊕ (Int) → Exit → Q0a → Prop
 | .inl _ => Qdf c (.exit 0) (mkS [] [])
 | .inr r => Qdo TIx Tryz.f206 [] (I r)
def Krg (p : (List Int) × Int × Int) : Option ((Unit) ⊕ (Int)) :=
 match p with
 | (s0,v1,a0) =>
  if (decide (a0 < (s0.length : Int))) = true then
  (idx s0 a0) >>= fun a1 =>
  if (v1 == a1) = true then
  some (.inr a0)
  else
  Krg (s0,v1,(wr (a0 + 1)))
  else
  some (.inl ())
 partial_fixpoint
def Krh (p : (List Int) × Int × Int) (fl : (Unit) ⊕ (Int)) : Prop :=
 match p with
 | (s0,v1,a0) => ∀ c : Ctx,c.nt = 19 → WpL Tryz.prog c (cl (cl (cr (cl (cr K9a))))) (Krf c fl) (mkS [(0,sI s0),(1,I v1),(7,I (s0.length : Int)),(8,I a0)] [])
theorem Kri : ∀ p r,Krg p = some r → Krh p r := by
 refine Krg.partial_correctness Krh ?_
 rintro slices_Index_int_l0_f slices_Index_int_l0_ih ⟨s0,v1,a0⟩ r h
 intro c hc
 refine WpL.step (K9m hc 1 [] [(9,.bool (decide (a0 < (s0.length : Int))))] [] (sN (ic h (fun a1 h => ?_) fun a1 h => ?_)))
 ·refine sk (sN (bk 1 (K9m hc 2 [9] [(5,I a0)] [] ?_)))
  obtain ⟨a2,a3,h⟩ := Qdt h
  refine rsd hc none [oN,oN,oN,eL (I a2),oN,oN] [] [(16,.bool (v1 == a2))] [] (ai (ix a3) tv) (ic h (fun a4 h => ?_) fun a4 h => ?_)
  ·obtain rfl := os h
   exact rs0 hc 2 [(4,I a0)] [] (rt (re [true]))
  exact sk (ri0 hc 2 (Qdb (slices_Index_int_l0_ih _ _ h c hc)))
 obtain rfl := os h
 exact xt 0 (Qd5 (Qdc (iv [])))
def Krj (p : (List Int) × Int) : Option (Int) :=
 match p with
 | (s0,v1) =>
  (Krg (s0,v1,0)) >>= fun fl => match fl with
  | .inl () =>
   some (-1)
  | .inr r =>
   some r
def Krk (p : (List Int) × Int) (r : Int) : Prop :=
 match p with
 | (s0,v1) => Q75 Tryz.prog 206 [sI s0,I v1] (I r) []
theorem Krl : ∀ p r,Krj p = some r → Krk p r := by
 rintro ⟨s0,v1⟩ r h
 unfold Krj at h
 refine b0 Tryz.f206 K9a 19 [(0,sI s0),(1,I v1)] fun c hc => (K9m hc 1 [] [] [] (sN (rs hc none [oN,nQ ⟨[(7,I (s0.length : Int))],[],[]⟩,oN] [(0,sI s0),(1,I v1),(7,I (s0.length : Int)),(8,I 0)] [] (ai (Qdz (d := 7) I s0) tv) (bk 0 ?_))))
 obtain ⟨fl,a0,h⟩ := Qdt h
 have hL := Kri _ _ a0 c hc
 refine lp ?_
 rcases fl with ⟨⟩ | r
 ·refine wl hL ?_
  obtain rfl := os h
  exact Qd7 (rs0 hc 1 [(4,I (-1))] [] (rt (rq [true])))
 refine WpL.mono hL ?_
 rintro _ _ ⟨rfl,hfin⟩
 obtain rfl := os h
 exact ⟨.inl rfl,hfin⟩
def Krm (p : (List Int) × Int) : Option (Bool) :=
 match p with
 | (s0,v1) =>
  (Krj (s0,v1)) >>= fun a0 =>
  some (decide (a0 ≥ 0))
def Krn (p : (List Int) × Int) (r : Bool) : Prop :=
 match p with
 | (s0,v1) => Q75 Tryz.prog 150 [sI s0,I v1] (.bool r) []
theorem Kro : ∀ p r,Krm p = some r → Krn p r := by
 rintro ⟨s0,v1⟩ r h
 unfold Krm at h
 refine b0 Tryz.f150 K9c 9 [(0,sI s0),(1,I v1)] fun c hc => (K9m hc 1 [] [] [] ?_)
 obtain ⟨a0,a1,h⟩ := Qdt h
 obtain rfl := os h
 exact rs hc none [oN,oN,oc (I a0),oN,oN] [(4,.bool (decide (a0 ≥ 0)))] [] (cq (Krl _ _ a1) K9b tv) (rt (rq [true]))
def Krp (c : Ctx) : (List Int) → Exit → Q0a → Prop
 | a0 => Qdf c (.exit 0) (mkS [(12,.rs 8)] [(8,rI a0)])
def Krq (p : (List Int) × (List Int) × (List Int) × Int) : Option ((List Int)) :=
 match p with
 | (view1,a0,a1,a2) =>
  if (decide (a2 < (a0.length : Int))) = true then
  (idx a0 a2) >>= fun a3 =>
  (Krm (view1,a3)) >>= fun a4 =>
  ((
  if a4 = true then
  (Qe6 (a1.length + [a2].length) 8) >>= fun _ =>
  some ((a1 ++ [a2]))
  else
  some (a1)
  ) : Option ((List Int))) >>= fun a5 =>
  Krq (view1,a0,a5,(wr (a2 + 1)))
  else
  some (a1)
 partial_fixpoint
def Krr (p : (List Int) × (List Int) × (List Int) × Int) (fl : (List Int)) : Prop :=
 match p with
 | (view1,a0,a1,a2) => ∀ c : Ctx,c.nt = 47 → WpL Tryz.prog c (cl (cl (cr (cl (cr (cr (cr (cr B68)))))))) (Krp c fl) (mkS [(1,sI view1),(12,.rs 8),(31,.rs 4),(32,I (a0.length : Int)),(33,I a2)] [(4,rI a0),(8,rI a1)])
theorem Krs : ∀ p r,Krq p = some r → Krr p r := by
 refine Krq.partial_correctness Krr ?_
 rintro impl_SeenVariables_l0_f impl_SeenVariables_l0_ih ⟨view1,a0,a1,a2⟩ r h
 intro c hc
 refine WpL.step (K9o hc 1 [] [(34,.bool (decide (a2 < (a0.length : Int))))] (sN (ic h (fun a3 h => ?_) fun a3 h => ?_)))
 ·refine sk (sN (bk 1 ?_))
  obtain ⟨a4,a5,h⟩ := Qdt h
  refine K9n hc none [oN,oN,eL (I a4),oN,oN] [34] [(13,I a2),(14,I a4)] (ab (Qdy (enc := I) a5) (ix a5).2 tv) ?_
  obtain ⟨a6,a7,h⟩ := Qdt h
  refine K9n hc none [oN,oN,oc (.bool a6)] [14] [(40,.bool a6)] (cq (Kro _ _ a7) K9d tv) ?_
  obtain ⟨a8,a9,h⟩ := Qdt h
  refine Wp.into (x := .normal) (mkS [(1,sI view1),(12,.rs 12),(31,.rs 4),(32,I (a0.length : Int)),(33,I a2)] [(4,rI a0),(12,rI a8)]) ?_ ?_
  ·replace h := a9
   refine ic h (fun b1 h => ?_) fun b1 h => ?_
   ·obtain ⟨_,b2,h⟩ := Qdt h
    obtain rfl := os h
    exact rj hc none [oN,oN,mK 11,some (.eqv (.mk 12 true) ⟨[(44,.rs 12)],[(12,some (rI (a1 ++ [a2]))),(8,none),(11,none)],[12]⟩),oN] (ab (congrArg (fun z => (⟨[(44,.rs 12)],[(12,some (.arr z)),(8,none),(11,none)],[12]⟩ : Wr)) ((List.map_append).symm : (List.map I a1) ++ (List.map I [a2]) = List.map I (a1 ++ [a2]))) (Qe7 (enc1 := I) (enc2 := I) (e1 := a1) (e2 := [a2]) (sz := 1) Qeg Qeg b2) tv)
   obtain rfl := os h
   exact sk (iv [(12,8)])
  clear a9
  exact K9h hc 2 [(1,sI view1),(12,.rs 12),(31,.rs 4),(32,I (a0.length : Int)),(33,I (wr (a2 + 1)))] (Qdb (WpL.view (fun a w hv => SRx.renL [(8,12)] hv (by kernel_rfl) (by kernel_rfl) (by kernel_rfl)) (impl_SeenVariables_l0_ih _ _ h c hc)))
 obtain rfl := os h
 exact xt 0 (Qd5 (Qdc (iv [])))
def Krt (p : K00 × (List Int) × LL × K01) : Option ((List Int)) :=
 match p with
 | (s0,view1,ctx2,t3) =>
  (Kqt (s0,ctx2,t3)) >>= fun (a0,a1,a2) =>
  ((
  if a2 = true then
  (Krc (s0,view1)) >>= fun a3 =>
  some ((!a3))
  else
  some (true)
  ) : Option (Bool)) >>= fun a4 =>
  if a4 = true then
  some []
  else
  (Krq (view1,a1,[],0)) >>= fun a5 =>
  some a5
def Kru (p : K00 × (List Int) × LL × K01) (r : (List Int)) : Prop :=
 match p with
 | (s0,view1,ctx2,t3) => Q75 Tryz.prog 68 [K1w s0,sI view1,sL ctx2,K1z t3] (oI r) []
theorem Krv : ∀ p r,Krt p = some r → Kru p r := by
 rintro ⟨s0,view1,ctx2,t3⟩ r h
 unfold Krt at h
 refine b0 Tryz.f68 B68 47 [(0,K1w s0),(1,sI view1),(2,sL ctx2),(3,K1z t3)] fun c hc => (rsd hc none [nW 1,nW 2,oN] [0,3] [(4,.ra 1 0),(7,.ra 2 0)] [(1,K1v s0),(2,K1y t3)] tv ?_)
 obtain ⟨⟨a0,a1,a2⟩,a3,h⟩ := Qdt h
 refine rsd hc none ([oN,oN,oN,some (.call (.tup [oI a0,oI a1,.bool a2]) [] 3)]++nN 7 []) [7,2] [(10,.rs 4),(11,.bool a2)] [(1,K1v s0),(4,rI a1)] (cq (Kqv _ _ a3) K96 tv) (sN (sN ?_))
 obtain ⟨a4,a5,h⟩ := Qdt h
 refine Wp.into (x := .normal) (mkS [(1,sI view1),(10,.rs 4),(30,.bool a4)] [(4,rI a1)]) ?_ ?_
 ·replace h := a5
  rcases is h with ⟨a6,h⟩ | ⟨a6,h⟩
  ·obtain ⟨a7,a8,h⟩ := Qdt h
   obtain rfl := os h
   exact rj hc none (nN 5 [oc (.bool a7),oN,oF]) (ar 3 (nF a6) (cq (Kre _ _ a8) K99 (ar 2 (nF a6) tv)))
  obtain rfl := os h
  exact rj hc none ([oN,oN,oN]++n_ 4 [oT]) (ar 4 (neF (nT a6)) (ai (nT a6) tv))
 clear a5
 refine ic h (fun a9 h => ?_) fun a9 h => ?_
 ·obtain rfl := os h
  exact rs0 hc 1 [(8,.nils)] [] (rt (rq [true]))
 refine sk (K9o hc 1 [30] [(12,.nils)] (sN (rss hc none [oN,nQ ⟨[(32,I (a1.length : Int))],[],[]⟩,oN] [(1,sI view1),(12,.nils),(31,.rs 4),(32,I (a1.length : Int)),(33,I 0)] (ai (Qdz (d := 32) I a1) tv) (bk 0 ?_))))
 obtain ⟨b1,b2,h⟩ := Qdt h
 have hL := Krs _ _ b2 c hc
 refine Wp.loopN (by kernel_rfl) (WpL.view (fun a w hv => SRx.renL [(8,13)] (SRx.nilTL 12 13 hv (by kernel_rfl) (by kernel_rfl)) (by kernel_rfl) (by kernel_rfl) (by kernel_rfl)) (?_ : WpL _ c _ _ (mkS [(1,sI view1),(12,.rs 8),(31,.rs 4),(32,I (a1.length : Int)),(33,I 0)] [(4,rI a1),(8,.arr (List.map I []))])))
 refine wl hL ?_
 obtain rfl := os h
 exact Qd7 (K9l hc 2 [(8,.rs 8)] (rt (rq [true])))
def Krw (c : Ctx) : (Unit) ⊕ (Bool) → Exit → Q0a → Prop
 | .inl _ => Qdf c (.exit 0) (mkS [] [])
 | .inr r => Qdo TIx Tryz.f70 [] (.bool r)
def Krx (p : (List Int) × Int × Int) : Option ((Unit) ⊕ (Bool)) :=
 match p with
 | (l0,n1,a0) =>
  if (decide (a0 < (l0.length : Int))) = true then
  (idx l0 a0) >>= fun a1 =>
  if (a1 == n1) = true then
  some (.inr true)
  else
  Krx (l0,n1,(wr (a0 + 1)))
  else
  some (.inl ())
 partial_fixpoint
def Kry (p : (List Int) × Int × Int) (fl : (Unit) ⊕ (Bool)) : Prop :=
 match p with
 | (l0,n1,a0) => ∀ c : Ctx,c.nt = 18 → WpL Tryz.prog c (cl (cl (cr (cl (cr B70))))) (Krw c fl) (mkS [(0,sI l0),(1,I n1),(5,I a0)] [])
theorem Krz : ∀ p r,Krx p = some r → Kry p r := by
 refine Krx.partial_correctness Kry ?_
 rintro laws_has_l0_f laws_has_l0_ih ⟨l0,n1,a0⟩ r h
 intro c hc
 refine WpL.step (sN (rsd hc none [oN,oN,nQ ⟨[(8,I (l0.length : Int))],[],[]⟩,oN] [] [(9,.bool (decide (a0 < (l0.length : Int))))] [] (ai (Qdz (d := 8) I l0) tv) (ic h (fun a1 h => ?_) fun a1 h => ?_)))
 ·refine sk (sN (bk 1 ?_))
  obtain ⟨a2,a3,h⟩ := Qdt h
  refine rsd hc none [oN,oN,eL (I a2),oN,oN,oN] [9] [(17,.bool (a2 == n1))] [] (ai (ix a3) tv) (ic h (fun a4 h => ?_) fun a4 h => ?_)
  ·obtain rfl := os h
   exact rs0 hc 1 [(4,.bool true)] [] (rt (re [true]))
  exact sk (ri0 hc 3 (Qdb (laws_has_l0_ih _ _ h c hc)))
 obtain rfl := os h
 exact xt 0 (Qd5 (Qdc (iv [])))
def Ks0 (p : (List Int) × Int) : Option (Bool) :=
 match p with
 | (l0,n1) =>
  (Krx (l0,n1,0)) >>= fun fl => match fl with
  | .inl () =>
   some false
  | .inr r =>
   some r
def Ks1 (p : (List Int) × Int) (r : Bool) : Prop :=
 match p with
 | (l0,n1) => Q75 Tryz.prog 70 [sI l0,I n1] (.bool r) []
theorem Ks2 : ∀ p r,Ks0 p = some r → Ks1 p r := by
 rintro ⟨l0,n1⟩ r h
 unfold Ks0 at h
 refine b0 Tryz.f70 B70 18 [(0,sI l0),(1,I n1)] fun c hc => (K9m hc 1 [] [] [] (sN (rs0 hc 1 [(0,sI l0),(1,I n1),(5,I 0)] [] (bk 0 ?_))))
 obtain ⟨fl,a0,h⟩ := Qdt h
 have hL := Krz _ _ a0 c hc
 refine lp ?_
 rcases fl with ⟨⟩ | r
 ·refine wl hL ?_
  obtain rfl := os h
  exact Qd7 (rs0 hc 1 [(4,.bool false)] [] (rt (rq [true])))
 refine WpL.mono hL ?_
 rintro _ _ ⟨rfl,hfin⟩
 obtain rfl := os h
 exact ⟨.inl rfl,hfin⟩
def Ks3 (c : Ctx) (a0 : List Int) (a1 : List Int) (a2 : List Int) (a3 : Int) : (Int) ⊕ (Bool) → Exit → Q0a → Prop
 | .inl a4 => Qdf c .normal (mkS [(4,.rs 1),(8,.rs 5),(10,.rs 6),(11,I a4),(12,I a3)] [(1,rI a0),(5,rI a1),(6,rI a2)])
 | .inr r => Qdo TIx Tryz.f13 [] (.bool r)
def Ks4 (c : Ctx) (a0 : List Int) : (Int) ⊕ (Bool) → Exit → Q0a → Prop
 | .inl a1 => Qdf c (.exit 0) (mkS [(10,.rs 6),(11,I a1)] [(6,rI a0)])
 | .inr r => Qdo TIx Tryz.f13 [] (.bool r)
def Ks5 (p : (List Int) × (List Int) × (List Int) × Int × Int) : Option ((Int) ⊕ (Bool)) :=
 match p with
 | (a0,a1,a2,a3,a4) =>
  if (decide (a4 < (a1.length : Int))) = true then
  (idx a1 a4) >>= fun a5 =>
  (Ks0 (a0,a5)) >>= fun a6 =>
  ((
   if a6 = true then
   (Ks0 (a2,a4)) >>= fun a7 =>
   if a7 = true then
   some (.inl (wr (a3 + 1)))
   else
   some (.inr false)
   else
   some (.inl a3)) : Option ((Int) ⊕ (Bool))) >>= fun fl => match fl with
  | .inl a8 =>
   Ks5 (a0,a1,a2,a8,(wr (a4 + 1)))
  | .inr r =>
   some (.inr r)
  else
  some (.inl a3)
 partial_fixpoint
def Ks6 (p : (List Int) × (List Int) × (List Int) × Int × Int) (fl : (Int) ⊕ (Bool)) : Prop :=
 match p with
 | (a0,a1,a2,a3,a4) => ∀ c : Ctx,c.nt = 68 → WpL Tryz.prog c (cl (cl (cr (cl (cr (cr (cr (cr (cr (cr (cr B13))))))))))) (Ks4 c a2 fl) (mkS [(4,.rs 1),(8,.rs 5),(10,.rs 6),(11,I a3),(12,I a4)] [(1,rI a0),(5,rI a1),(6,rI a2)])
theorem Ks7 : ∀ p r,Ks5 p = some r → Ks6 p r := by
 refine Ks5.partial_correctness Ks6 ?_
 rintro laws_FnSeenNeeds_l0_f laws_FnSeenNeeds_l0_ih ⟨a0,a1,a2,a3,a4⟩ r h
 intro c hc
 refine WpL.step (sN (K9n hc none [oN,oN,nQ ⟨[(48,I (a1.length : Int))],[],[]⟩,oN] [] [(49,.bool (decide (a4 < (a1.length : Int))))] (ai (Qdz (d := 48) I a1) tv) (ic h (fun a5 h => ?_) fun a5 h => ?_)))
 ·refine sk (sN (bk 1 ?_))
  obtain ⟨a6,a7,a8,a9,h⟩ := bq2 h
  refine rss hc none (nN 4 [eL (I a6),oc (.bool a8)]) [(4,.rs 1),(8,.rs 5),(10,.rs 6),(11,I a3),(12,I a4),(57,.bool a8)] (ad (Qdy (enc := I) a7) (ix a7).2 (Q75.args (A1 := [.sl (Q02 (List.map I a0)),I a6]) (A2 := [sI a0,I a6]) (by simp only [List.map_nil,Qel]) (Ks2 _ _ a9)) K9f (ai (Or.inr rfl : ([1] : List Nat) = [] ∨ noSh (.bool a8) = true) tv)) ?_
  obtain ⟨fl,b1,h⟩ := Qdt h
  refine flw (Ks3 c a0 a1 a2 a4 fl) ?_ (fun hF => ?_)
  ·replace h := b1
   refine ic h (fun b2 h => ?_) fun b2 h => ?_
   ·refine K9o hc 3 [11,57] [(11,I (wr (a3 + 1)))] ?_
    obtain ⟨b3,b4,h⟩ := Qdt h
    refine K9n hc none [oN,oN,oc (.bool b3),oN] [] [(63,.bool (!b3))] (ac (Q75.args (A1 := [.sl (Q02 (List.map I a2)),I a4]) (A2 := [sI a2,I a4]) (by simp only [List.map_nil,Qel]) (Ks2 _ _ b4)) K9f (Or.inr rfl : ([6] : List Nat) = [] ∨ noSh (.bool b3) = true) tv) ?_
    rcases is h with ⟨b5,h⟩ | ⟨b5,h⟩
    ·refine cF (!b3) (nF b5) ?_
     obtain rfl := os h
     exact sk (iv [])
    refine cT (!b3) (nT b5) ?_
    obtain rfl := os h
    exact rs0 hc 1 [(2,.bool false)] [] (rt (re [true]))
   obtain rfl := os h
   exact sk (iv [])
  rcases fl with b6 | r
  ·exact wf hF (ri0 hc 3 (Qdb (laws_FnSeenNeeds_l0_ih _ _ h c hc)))
  refine Wp.mono hF ?_
  rintro _ _ ⟨rfl,hfin⟩
  obtain rfl := os h
  exact ⟨rfl,hfin⟩
 obtain rfl := os h
 exact xt 0 (Qd5 (Qdc (iv [])))
def Ks8 (code0 : (List Int)) : Option (Bool) :=
 (K9q code0) >>= fun a0 =>
 if a0 = true then
 some true
 else
 (Kk3 code0) >>= fun (a1,a2,a3,a4) =>
 (Kqt (a1,a3,a4)) >>= fun (a5,a6,a7) =>
 (Krt (a1,a2,a3,a4)) >>= fun a8 =>
 ((
 if a7 = true then
  (Krc (a1,a2)) >>= fun a9 =>
  some ((!a9))
 else
  some (true)
 ) : Option (Bool)) >>= fun b1 =>
 if b1 = true then
 some ((a8.length : Int) == 0)
 else
 (Ks5 (a2,a6,a8,0,0)) >>= fun fl => match fl with
 | .inl b2 =>
  some (b2 == (a8.length : Int))
 | .inr r =>
  some r
def Ks9 (code0 : (List Int)) (r : Bool) : Prop :=
 Q75 Tryz.prog 13 [sM U8 code0] (.bool r) []
theorem Ksa : ∀ p r,Ks8 p = some r → Ks9 p r := by
 rintro code0 r h
 unfold Ks8 at h
 refine b0 Tryz.f13 B13 68 [(0,sM U8 code0)] fun c hc => (K9m hc 1 [] [] [] (sN ?_))
 obtain ⟨a0,a1,h⟩ := Qdt h
 refine rsd hc none [oN,oc (.bool a0)] [] [(14,.bool a0)] [] (cq (K9s _ _ a1) K3b tv) (ic h (fun a2 h => ?_) fun a2 h => ?_)
 ·obtain rfl := os h
  exact rs0 hc 1 [(2,.bool true)] [] (rt (rq [true]))
 refine sk ?_
 obtain ⟨⟨a3,a4,a5,a6⟩,a7,h⟩ := Qdt h
 refine rs hc none ([oN,oc (.tup [K1w a3,oI a4,sL a5,K1z a6])]++nN 5 ([nW 2,nW 3]++nN 4 [])) [(3,.ra 2 0),(4,.rs 1),(5,sL a5),(6,.ra 3 0)] [(1,rI a4),(2,K1v a3),(3,K1y a6)] (cq (Kk5 _ _ a7) K6x tv) ?_
 obtain ⟨⟨a8,a9,b1⟩,b2,h⟩ := Qdt h
 refine rsd hc none ([oN,oN,oN,some (.call (.tup [oI a8,oI a9,.bool b1]) [] 4)]++nN 7 []) [] [(8,.rs 5),(9,.bool b1)] [(1,rI a4),(2,K1v a3),(3,K1y a6),(5,rI a9)] (cq (Kqv _ _ b2) K96 tv) ?_
 obtain ⟨b3,b4,h⟩ := Qdt h
 refine rsd hc none (nN 4 [some (.call (oI b3) [] 6),oN]) [5,6] [(10,.rs 6)] [(1,rI a4),(2,K1v a3),(5,rI a9),(6,rI b3)] (ac (Q75.args (A1 := [K1w a3,.sl (Q02 (List.map I a4)),sL a5,K1z a6]) (A2 := [K1w a3,sI a4,sL a5,K1z a6]) (by simp only [List.map_nil,Qel]) (Krv _ _ b4)) K9e (Or.inr (Qet Qep b3) : ([1] : List Nat) = [] ∨ noSh (oI b3) = true) tv) (sN (sN ?_))
 obtain ⟨b5,b6,h⟩ := Qdt h
 refine Wp.into (x := .normal) (mkS [(4,.rs 1),(8,.rs 5),(10,.rs 6),(42,.bool b5)] [(1,rI a4),(5,rI a9),(6,rI b3)]) ?_ ?_
 ·replace h := b6
  rcases is h with ⟨b7,h⟩ | ⟨b7,h⟩
  ·obtain ⟨b8,b9,h⟩ := Qdt h
   obtain rfl := os h
   exact rj hc none (nN 5 [oc (.bool b8),oN,oF]) (ar 3 (nF b7) (ac (Q75.args (A1 := [K1w a3,.sl (Q02 (List.map I a4))]) (A2 := [K1w a3,sI a4]) (by simp only [List.map_nil,Qel]) (Kre _ _ b9)) K99 (Or.inr rfl : ([1] : List Nat) = [] ∨ noSh (.bool b8) = true) (ar 2 (nF b7) tv)))
  obtain rfl := os h
  exact rj hc none ([oN,oN,oN]++n_ 4 [oT]) (ar 4 (neF (nT b7)) (ai (nT b7) tv))
 clear b6
 refine ic h (fun c0 h => ?_) fun c0 h => ?_
 ·obtain rfl := os h
  exact rs hc none [oN,nQ ⟨[(44,I (b3.length : Int))],[],[]⟩,oN,oN] [(2,.bool ((b3.length : Int) == 0))] [] (ai (Qdz (d := 44) I b3) tv) (rt (rq [true]))
 refine sk (K9o hc 1 [42] [(11,I 0)] (sN (K9l hc 1 [(4,.rs 1),(8,.rs 5),(10,.rs 6),(11,I 0),(12,I 0)] (bk 0 ?_))))
 obtain ⟨fl,c1,h⟩ := Qdt h
 have hL := Ks7 _ _ c1 c hc
 refine lp ?_
 rcases fl with c2 | r
 ·refine wl hL ?_
  obtain rfl := os h
  exact Qd7 (rs hc none [oN,oN,nQ ⟨[(66,I (b3.length : Int))],[],[]⟩,oN,oN] [(2,.bool (c2 == (b3.length : Int)))] [] (ai (Qdz (d := 66) I b3) tv) (rt (rq [true])))
 refine WpL.mono hL ?_
 rintro _ _ ⟨rfl,hfin⟩
 obtain rfl := os h
 exact ⟨.inl rfl,hfin⟩
end Go.Am
